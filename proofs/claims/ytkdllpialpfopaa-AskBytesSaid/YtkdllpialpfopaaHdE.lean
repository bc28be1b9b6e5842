/- Layer 12: a header's core: the reference's Core as a contract. Condition: at most eight tokens. -/
import Derived.Test.YtkdllpialpfopaaHdD
set_option linter.unusedSimpArgs false
set_option linter.unusedVariables false
set_option linter.constructorNameAsVariable false
namespace Go.Proofs.Ytkdllpialpfopaa
open Go Go.Sx Go.Pk

def rCoreNd : Nd := .ext (.alloc 131) (.and (.pre (.call 0 132 [.sv (.one (.int .u64 (.wrap .u64 (.var 0))))] [] [])) (.ext (.call 0 132 [.sv (.one (.int .u64 (.wrap .u64 (.var 0))))] [] []) (.and (.pre (.call 0 136 [.sv (.one (.int .u64 (.var 1)))] [] [])) (.ext (.call 0 136 [.sv (.one (.int .u64 (.var 1)))] [] []) (.and (.pre (.app 140 5 1 1 (.sl (.var 132) (.var 133) (.var 134) (.var 135)) (.var 134) (.hp 132 [] [.var 132] []) (.seg 136 (.var 136) (.var 137) (.var 138)))) (.ext (.app 140 5 1 1 (.sl (.var 132) (.var 133) (.var 134) (.var 135)) (.var 134) (.hp 132 [] [.var 132] []) (.seg 136 (.var 136) (.var 137) (.var 138))) (.and (.pre (.app 142 5 1 1 (.sl (.var 140) (.lit 0) (.add (.var 134) (.var 138)) (.var 141)) (.add (.var 134) (.var 138)) (.hp 140 [132] [.var 140, .var 132] []) (.cvs (ckCVs 2 (List.replicate 32 (Ck.int .u8))) 32))) (.ext (.app 142 5 1 1 (.sl (.var 140) (.lit 0) (.add (.var 134) (.var 138)) (.var 141)) (.add (.var 134) (.var 138)) (.hp 140 [132] [.var 140, .var 132] []) (.cvs (ckCVs 2 (List.replicate 32 (Ck.int .u8))) 32)) (.and (.pre (.call 0 144 [.sv (.one (.int .u64 (.wrap .u64 (.var 34))))] [] [])) (.ext (.call 0 144 [.sv (.one (.int .u64 (.wrap .u64 (.var 34))))] [] []) (.and (.pre (.app 148 5 1 1 (.sl (.var 142) (.lit 0) (.add (.add (.var 134) (.var 138)) (.lit 32)) (.var 143)) (.add (.add (.var 134) (.var 138)) (.lit 32)) (.hp 142 [140, 132] [.var 142, .var 140, .var 132] []) (.seg 144 (.var 144) (.var 145) (.var 146)))) (.ext (.app 148 5 1 1 (.sl (.var 142) (.lit 0) (.add (.add (.var 134) (.var 138)) (.lit 32)) (.var 143)) (.add (.add (.var 134) (.var 138)) (.lit 32)) (.hp 142 [140, 132] [.var 142, .var 140, .var 132] []) (.seg 144 (.var 144) (.var 145) (.var 146))) (.and (.and (.imp (.bvar 35) (.inv 1 [⟨200, 0, .int .i64 (.lit 1)⟩] [])) (.imp (.not (.bvar 35)) (.inv 1 [⟨200, 0, .int .i64 (.lit 0)⟩] []))) (.havoc 0 1 150 (.ext (.alloc 201) (.and (.pre (.app 202 5 1 1 (.sl (.var 148) (.lit 0) (.add (.add (.add (.var 134) (.var 138)) (.lit 32)) (.var 146)) (.var 149)) (.add (.add (.add (.var 134) (.var 138)) (.lit 32)) (.var 146)) (.hp 148 [142, 140, 132] [.var 148, .var 142, .var 140, .var 132] []) (.cvs [.int .u8 (.var 200)] 1))) (.ext (.app 202 5 1 1 (.sl (.var 148) (.lit 0) (.add (.add (.add (.var 134) (.var 138)) (.lit 32)) (.var 146)) (.var 149)) (.add (.add (.add (.var 134) (.var 138)) (.lit 32)) (.var 146)) (.hp 148 [142, 140, 132] [.var 148, .var 142, .var 140, .var 132] []) (.cvs [.int .u8 (.var 200)] 1)) (.and (.pre (.call 0 204 [.sv (.one (.int .u64 (.var 36)))] [] [])) (.ext (.call 0 204 [.sv (.one (.int .u64 (.var 36)))] [] []) (.and (.pre (.app 208 5 1 1 (.sl (.var 202) (.lit 0) (.add (.add (.add (.add (.var 134) (.var 138)) (.lit 32)) (.var 146)) (.lit 1)) (.var 203)) (.add (.add (.add (.add (.var 134) (.var 138)) (.lit 32)) (.var 146)) (.lit 1)) (.hp 202 [148, 142, 140, 132] [.var 202, .var 148, .var 142, .var 140, .var 132] []) (.seg 204 (.var 204) (.var 205) (.var 206)))) (.ext (.app 208 5 1 1 (.sl (.var 202) (.lit 0) (.add (.add (.add (.add (.var 134) (.var 138)) (.lit 32)) (.var 146)) (.lit 1)) (.var 203)) (.add (.add (.add (.add (.var 134) (.var 138)) (.lit 32)) (.var 146)) (.lit 1)) (.hp 202 [148, 142, 140, 132] [.var 202, .var 148, .var 142, .var 140, .var 132] []) (.seg 204 (.var 204) (.var 205) (.var 206))) (.and (.pre (.app 210 5 1 1 (.sl (.var 208) (.lit 0) (.add (.add (.add (.add (.add (.var 134) (.var 138)) (.lit 32)) (.var 146)) (.lit 1)) (.var 206)) (.var 209)) (.add (.add (.add (.add (.add (.var 134) (.var 138)) (.lit 32)) (.var 146)) (.lit 1)) (.var 206)) (.hp 208 [202, 148, 142, 140, 132] [.var 208, .var 202, .var 148, .var 142, .var 140, .var 132] []) (.cvs (ckCVs 37 (List.replicate 16 (Ck.int .u8))) 16))) (.ext (.app 210 5 1 1 (.sl (.var 208) (.lit 0) (.add (.add (.add (.add (.add (.var 134) (.var 138)) (.lit 32)) (.var 146)) (.lit 1)) (.var 206)) (.var 209)) (.add (.add (.add (.add (.add (.var 134) (.var 138)) (.lit 32)) (.var 146)) (.lit 1)) (.var 206)) (.hp 208 [202, 148, 142, 140, 132] [.var 208, .var 202, .var 148, .var 142, .var 140, .var 132] []) (.cvs (ckCVs 37 (List.replicate 16 (Ck.int .u8))) 16)) (.and (.e (.le (.lit 0) (.var 55))) (.and (.pre (.call 0 212 [.sv (.one (.int .u64 (.wrap .u64 (.var 55))))] [] [])) (.ext (.call 0 212 [.sv (.one (.int .u64 (.wrap .u64 (.var 55))))] [] []) (.and (.pre (.app 216 5 1 1 (.sl (.var 210) (.lit 0) (.add (.add (.add (.add (.add (.add (.var 134) (.var 138)) (.lit 32)) (.var 146)) (.lit 1)) (.var 206)) (.lit 16)) (.var 211)) (.add (.add (.add (.add (.add (.add (.var 134) (.var 138)) (.lit 32)) (.var 146)) (.lit 1)) (.var 206)) (.lit 16)) (.hp 210 [208, 202, 148, 142, 140, 132] [.var 210, .var 208, .var 202, .var 148, .var 142, .var 140, .var 132] []) (.seg 212 (.var 212) (.var 213) (.var 214)))) (.ext (.app 216 5 1 1 (.sl (.var 210) (.lit 0) (.add (.add (.add (.add (.add (.add (.var 134) (.var 138)) (.lit 32)) (.var 146)) (.lit 1)) (.var 206)) (.lit 16)) (.var 211)) (.add (.add (.add (.add (.add (.add (.var 134) (.var 138)) (.lit 32)) (.var 146)) (.lit 1)) (.var 206)) (.lit 16)) (.hp 210 [208, 202, 148, 142, 140, 132] [.var 210, .var 208, .var 202, .var 148, .var 142, .var 140, .var 132] []) (.seg 212 (.var 212) (.var 213) (.var 214))) (.and (.inv 0 [⟨310, 0, .int .i64 (.var 216)⟩, ⟨311, 0, .int .i64 (.add (.add (.add (.add (.add (.add (.add (.var 134) (.var 138)) (.lit 32)) (.var 146)) (.lit 1)) (.var 206)) (.lit 16)) (.var 214))⟩, ⟨312, 0, .int .i64 (.var 217)⟩, ⟨313, 0, .int .i64 (.lit 0)⟩] [(314, some 216)]) (.havoc 0 0 218 (.and (.imp (.lt (.var 313) (.var 55)) (.and (.e (.le (.lit 0) (.var 53))) (.and (.e (.le (.lit 0) (.var 54))) (.and (.e (.le (.lit 0) (.var 313))) (.and (.pre (.app 320 5 1 1 (.sl (.var 310) (.lit 0) (.var 311) (.var 312)) (.var 311) (.hp 314 [] [.var 310] []) (.seg 130 (.var 53) (.add (.var 54) (.mul (.var 313) (.lit 16))) (.lit 16)))) (.ext (.app 320 5 1 1 (.sl (.var 310) (.lit 0) (.var 311) (.var 312)) (.var 311) (.hp 314 [] [.var 310] []) (.seg 130 (.var 53) (.add (.var 54) (.mul (.var 313) (.lit 16))) (.lit 16))) (.back 0 0 [⟨310, 0, .int .i64 (.var 320)⟩, ⟨311, 0, .int .i64 (.add (.var 311) (.lit 16))⟩, ⟨312, 0, .int .i64 (.var 321)⟩, ⟨313, 0, .int .i64 (.wrap .i64 (.add (.var 313) (.lit 1)))⟩] [(314, some 320)]))))))) (.imp (.not (.lt (.var 313) (.var 55))) (.and (.pre (.call 0 320 [.sv (.one (.int .u64 (.var 57)))] [] [])) (.ext (.call 0 320 [.sv (.one (.int .u64 (.var 57)))] [] []) (.and (.pre (.app 324 5 1 1 (.sl (.var 310) (.lit 0) (.var 311) (.var 312)) (.var 311) (.hp 314 [] [.var 310] []) (.seg 320 (.var 320) (.var 321) (.var 322)))) (.ext (.app 324 5 1 1 (.sl (.var 310) (.lit 0) (.var 311) (.var 312)) (.var 311) (.hp 314 [] [.var 310] []) (.seg 320 (.var 320) (.var 321) (.var 322))) (.and (.pre (.call 0 326 [.sv (.one (.int .u64 (.var 58)))] [] [])) (.ext (.call 0 326 [.sv (.one (.int .u64 (.var 58)))] [] []) (.and (.pre (.app 330 5 1 1 (.sl (.var 324) (.lit 0) (.add (.var 311) (.var 322)) (.var 325)) (.add (.var 311) (.var 322)) (.hp 324 [314] [.var 324, .var 310] []) (.seg 326 (.var 326) (.var 327) (.var 328)))) (.ext (.app 330 5 1 1 (.sl (.var 324) (.lit 0) (.add (.var 311) (.var 322)) (.var 325)) (.add (.var 311) (.var 322)) (.hp 324 [314] [.var 324, .var 310] []) (.seg 326 (.var 326) (.var 327) (.var 328))) (.and (.pre (.call 0 332 [.sv (.one (.int .u64 (.var 59)))] [] [])) (.ext (.call 0 332 [.sv (.one (.int .u64 (.var 59)))] [] []) (.and (.pre (.app 336 5 1 1 (.sl (.var 330) (.lit 0) (.add (.add (.var 311) (.var 322)) (.var 328)) (.var 331)) (.add (.add (.var 311) (.var 322)) (.var 328)) (.hp 330 [324, 314] [.var 330, .var 324, .var 310] []) (.seg 332 (.var 332) (.var 333) (.var 334)))) (.ext (.app 336 5 1 1 (.sl (.var 330) (.lit 0) (.add (.add (.var 311) (.var 322)) (.var 328)) (.var 331)) (.add (.add (.var 311) (.var 322)) (.var 328)) (.hp 330 [324, 314] [.var 330, .var 324, .var 310] []) (.seg 332 (.var 332) (.var 333) (.var 334))) (.and (.pre (.call 0 338 [.sv (.one (.int .u64 (.var 60)))] [] [])) (.ext (.call 0 338 [.sv (.one (.int .u64 (.var 60)))] [] []) (.and (.pre (.app 342 5 1 1 (.sl (.var 336) (.lit 0) (.add (.add (.add (.var 311) (.var 322)) (.var 328)) (.var 334)) (.var 337)) (.add (.add (.add (.var 311) (.var 322)) (.var 328)) (.var 334)) (.hp 336 [330, 324, 314] [.var 336, .var 330, .var 324, .var 310] []) (.seg 338 (.var 338) (.var 339) (.var 340)))) (.ext (.app 342 5 1 1 (.sl (.var 336) (.lit 0) (.add (.add (.add (.var 311) (.var 322)) (.var 328)) (.var 334)) (.var 337)) (.add (.add (.add (.var 311) (.var 322)) (.var 328)) (.var 334)) (.hp 336 [330, 324, 314] [.var 336, .var 330, .var 324, .var 310] []) (.seg 338 (.var 338) (.var 339) (.var 340))) (.and (.pre (.call 0 344 [.sv (.one (.int .u64 (.var 61)))] [] [])) (.ext (.call 0 344 [.sv (.one (.int .u64 (.var 61)))] [] []) (.and (.pre (.app 348 5 1 1 (.sl (.var 342) (.lit 0) (.add (.add (.add (.add (.var 311) (.var 322)) (.var 328)) (.var 334)) (.var 340)) (.var 343)) (.add (.add (.add (.add (.var 311) (.var 322)) (.var 328)) (.var 334)) (.var 340)) (.hp 342 [336, 330, 324, 314] [.var 342, .var 336, .var 330, .var 324, .var 310] []) (.seg 344 (.var 344) (.var 345) (.var 346)))) (.ext (.app 348 5 1 1 (.sl (.var 342) (.lit 0) (.add (.add (.add (.add (.var 311) (.var 322)) (.var 328)) (.var 334)) (.var 340)) (.var 343)) (.add (.add (.add (.add (.var 311) (.var 322)) (.var 328)) (.var 334)) (.var 340)) (.hp 342 [336, 330, 324, 314] [.var 342, .var 336, .var 330, .var 324, .var 310] []) (.seg 344 (.var 344) (.var 345) (.var 346))) (.and (.pre (.call 0 350 [.sv (.one (.int .u64 (.var 62)))] [] [])) (.ext (.call 0 350 [.sv (.one (.int .u64 (.var 62)))] [] []) (.and (.pre (.app 354 5 1 1 (.sl (.var 348) (.lit 0) (.add (.add (.add (.add (.add (.var 311) (.var 322)) (.var 328)) (.var 334)) (.var 340)) (.var 346)) (.var 349)) (.add (.add (.add (.add (.add (.var 311) (.var 322)) (.var 328)) (.var 334)) (.var 340)) (.var 346)) (.hp 348 [342, 336, 330, 324, 314] [.var 348, .var 342, .var 336, .var 330, .var 324, .var 310] []) (.seg 350 (.var 350) (.var 351) (.var 352)))) (.ext (.app 354 5 1 1 (.sl (.var 348) (.lit 0) (.add (.add (.add (.add (.add (.var 311) (.var 322)) (.var 328)) (.var 334)) (.var 340)) (.var 346)) (.var 349)) (.add (.add (.add (.add (.add (.var 311) (.var 322)) (.var 328)) (.var 334)) (.var 340)) (.var 346)) (.hp 348 [342, 336, 330, 324, 314] [.var 348, .var 342, .var 336, .var 330, .var 324, .var 310] []) (.seg 350 (.var 350) (.var 351) (.var 352))) (.and (.pre (.app 356 5 1 1 (.sl (.var 354) (.lit 0) (.add (.add (.add (.add (.add (.add (.var 311) (.var 322)) (.var 328)) (.var 334)) (.var 340)) (.var 346)) (.var 352)) (.var 355)) (.add (.add (.add (.add (.add (.add (.var 311) (.var 322)) (.var 328)) (.var 334)) (.var 340)) (.var 346)) (.var 352)) (.hp 354 [348, 342, 336, 330, 324, 314] [.var 354, .var 348, .var 342, .var 336, .var 330, .var 324, .var 310] []) (.cvs (ckCVs 63 (List.replicate 32 (Ck.int .u8))) 32))) (.ext (.app 356 5 1 1 (.sl (.var 354) (.lit 0) (.add (.add (.add (.add (.add (.add (.var 311) (.var 322)) (.var 328)) (.var 334)) (.var 340)) (.var 346)) (.var 352)) (.var 355)) (.add (.add (.add (.add (.add (.add (.var 311) (.var 322)) (.var 328)) (.var 334)) (.var 340)) (.var 346)) (.var 352)) (.hp 354 [348, 342, 336, 330, 324, 314] [.var 354, .var 348, .var 342, .var 336, .var 330, .var 324, .var 310] []) (.cvs (ckCVs 63 (List.replicate 32 (Ck.int .u8))) 32)) (.and (.pre (.call 0 358 [.sv (.one (.int .u64 (.wrap .u64 (.var 95))))] [] [])) (.ext (.call 0 358 [.sv (.one (.int .u64 (.wrap .u64 (.var 95))))] [] []) (.and (.pre (.app 362 5 1 1 (.sl (.var 356) (.lit 0) (.add (.add (.add (.add (.add (.add (.add (.var 311) (.var 322)) (.var 328)) (.var 334)) (.var 340)) (.var 346)) (.var 352)) (.lit 32)) (.var 357)) (.add (.add (.add (.add (.add (.add (.add (.var 311) (.var 322)) (.var 328)) (.var 334)) (.var 340)) (.var 346)) (.var 352)) (.lit 32)) (.hp 356 [354, 348, 342, 336, 330, 324, 314] [.var 356, .var 354, .var 348, .var 342, .var 336, .var 330, .var 324, .var 310] []) (.seg 358 (.var 358) (.var 359) (.var 360)))) (.ext (.app 362 5 1 1 (.sl (.var 356) (.lit 0) (.add (.add (.add (.add (.add (.add (.add (.var 311) (.var 322)) (.var 328)) (.var 334)) (.var 340)) (.var 346)) (.var 352)) (.lit 32)) (.var 357)) (.add (.add (.add (.add (.add (.add (.add (.var 311) (.var 322)) (.var 328)) (.var 334)) (.var 340)) (.var 346)) (.var 352)) (.lit 32)) (.hp 356 [354, 348, 342, 336, 330, 324, 314] [.var 356, .var 354, .var 348, .var 342, .var 336, .var 330, .var 324, .var 310] []) (.seg 358 (.var 358) (.var 359) (.var 360))) (.post [.ro 130 [.var 53] false, .dead, .hp 362 [356, 354, 348, 342, 336, 330, 324, 314] [.var 362, .var 356, .var 354, .var 348, .var 342, .var 336, .var 330, .var 324, .var 310] [], .hp 136 [] [.var 136] [], .hp 144 [] [.var 144] [], .dead, .hp 204 [] [.var 204] [], .hp 212 [] [.var 212] [], .hp 320 [] [.var 320] [], .hp 326 [] [.var 326] [], .hp 332 [] [.var 332] [], .hp 338 [] [.var 338] [], .hp 344 [] [.var 344] [], .hp 350 [] [.var 350] [], .hp 358 [] [.var 358] []] (.sv (.one (.sl (.var 362) (.lit 0) (.add (.add (.add (.add (.add (.add (.add (.add (.var 311) (.var 322)) (.var 328)) (.var 334)) (.var 340)) (.var 346)) (.var 352)) (.lit 32)) (.var 360)) (.var 363)))))))))))))))))))))))))))))))))))))))))))))))))))))))))))))))))))
def rcΓ : List Sx.Spec := [rnumS]
theorem rcΓ_ok : ∀ t ∈ rcΓ, t.OK Try.prog := fun t ht => by
  simp only [rcΓ, List.mem_cons, List.mem_nil_iff, or_false] at ht
  subst ht; exact rnumS_ok
theorem rcg0 : rcΓ[0]? = some rnumS := rfl
theorem rcr0 : rnumS.res = [.one .sl] := rfl
theorem rcc0 (n : Nat) : (cpRoots n [Cp.one .sl] ≠ []) = True := by simp [cpRoots, Cp.roots, Ck.root]
def rCoreW : Walk Try.prog rcΓ 69 where
  Λ := fun p => if cutAt p [69, 1, 1, 1, 1, 1, 1, 0] then some ⟨1, [(4, TI .u8 (.var 200))], [], 201⟩ else if decide (p.length = 15) && !(p.head? == some 99) then some ⟨0, [(3, .sv (.one (.sl (.var 310) (.lit 0) (.var 311) (.var 312)))), (5, TI .i64 (.var 313))], [(2, .hp 314 [] [.var 310] [])], 320⟩ else none
  args := (cpSVs 0 [.agg hk2]).map .sv
  mem := [.ro 130 [.var 53] false]
  nv := 131
  nd := rCoreNd
  ok := by kernel_rfl
theorem rnStep {q : Env} {n : Nat} {z : Int} {K : Env → Prop} (hz : 0 ≤ z ∧ z < 18446744073709551616) (k : ∀ q', Agree n q q' → q'.i (n + 2) = (numB z.toNat).length → -1 ≤ q'.i n → 0 ≤ q'.i (n + 1) → OwB (q'.h n) 5 (.slice (slP (q'.i n) (q'.i (n + 1))) (((numB z.toNat).length : Int)).toNat (q'.i (n + 3)).toNat) (numB z.toNat) → K q') :
    rnumS.pre [.int .u64 z] [] [] ∧ ∀ q', Agree n q q' → (∃ F, rnumS.post [.int .u64 z] [] [] (.slice (slP (q'.i n) (q'.i (n + 1))) (q'.i (n + 2)).toNat (q'.i (n + 3)).toNat) [] F ∧ (True → q'.h n = F) ∧ cpNorms n [.one .sl] q') → K q' := by
  refine ⟨⟨z, rfl, hz⟩, fun q' g ⟨F, ⟨z', hz', hO⟩, hF, hn, _⟩ => ?_⟩
  simp only [List.cons.injEq, Value.int.injEq, true_and, and_true] at hz'
  subst hz'
  have hn : -1 ≤ q'.i n ∧ 0 ≤ q'.i (n + 1) ∧ 0 ≤ q'.i (n + 2) ∧ 0 ≤ q'.i (n + 3) := hn
  rw [← hF trivial] at hO
  have e : (q'.i (n + 2)).toNat = (numB z.toNat).length := by
    obtain ⟨x, y, c, e, _⟩ := hO.rd
    simp only [Value.slice.injEq] at e
    exact e.2.1
  have e2 : q'.i (n + 2) = (numB z.toNat).length := by omega
  refine k q' g e2 hn.1 hn.2.1 ?_
  rw [← e2]; exact hO
theorem owB_app' {A B : Hl} {x y c x1 c1 : Int} {bs bs2 : List Int} (ho : OwB A 5 (.slice (slP x y) ((bs.length : Int)).toNat c.toNat) bs) {m : Nat} (hm : m = bs2.length)
    (happ : ∀ xs, OwnsH A 5 1 (.slice (slP x y) ((bs.length : Int)).toNat c.toNat) ((bs.length : Int)).toNat xs → OwnsH B 5 1 (.slice (slP x1 0) (((bs.length : Int)).toNat + m) c1.toNat) (((bs.length : Int)).toNat + m) (xs ++ bys bs2)) : OwB B 5 (.slice (slP x1 0) (((bs ++ bs2).length : Int)).toNat c1.toNat) (bs ++ bs2) := by
  have h1 : OwnsH A 5 1 (.slice (slP x y) ((bs.length : Int)).toNat c.toNat) ((bs.length : Int)).toNat (bys bs) := by
    have := ho
    unfold OwB at this
    rwa [Int.toNat_natCast] at this ⊢
  have h2 := happ _ h1
  unfold OwB
  rw [Int.toNat_natCast, List.length_append, bys_append]
  rw [Int.toNat_natCast, hm] at h2
  exact h2
theorem appSeg {q : Env} {n : Nat} {A S : Hl} {x y c sx sy : Int} {sc : Nat} {B b2 : List Int} {D : Env → Prop} {K : Env → Prop} (h : OwB A 5 (.slice (slP x y) ((B.length : Int)).toNat c.toNat) B) (hsx : -1 ≤ sx) (hsy : 0 ≤ sy) (h2 : RdB S (.slice (slP sx sy) b2.length sc) b2) (hl : B.length ≤ 900000) (hl2 : b2.length ≤ 90000)
    (k : ∀ q', Agree n q q' → -1 ≤ q'.i n → 0 ≤ q'.i (n + 1) → OwB (q'.h n) 5 (.slice (slP (q'.i n) 0) (((B ++ b2).length : Int)).toNat (q'.i (n + 1)).toNat) (B ++ b2) → K q') :
    ((∃ xs, OwnsH A 5 1 (.slice (slP x y) ((B.length : Int)).toNat c.toNat) ((B.length : Int)).toNat xs) ∧ 0 ≤ (B.length : Int) ∧ ((0 ≤ sx ∧ 0 ≤ sy ∧ 0 ≤ (b2.length : Int) ∧ ∀ j : Nat, j < ((b2.length : Int)).toNat → ∃ v, S.cell sx.toNat (sy.toNat + j) = some v ∧ v.oneCell' = true) ∨ (b2.length : Int) = 0) ∧ ((B.length : Int)).toNat + ((b2.length : Int)).toNat ≤ maxLen ∧ ((B.length : Int)).toNat + ((b2.length : Int)).toNat ≤ 140737488355328) ∧
    ∀ q', Agree n q q' → (-1 ≤ q'.i n ∧ 0 ≤ q'.i (n + 1) ∧ (∀ xs, OwnsH A 5 1 (.slice (slP x y) ((B.length : Int)).toNat c.toNat) ((B.length : Int)).toNat xs → OwnsH (q'.h n) 5 1 (.slice (slP (q'.i n) 0) (((B.length : Int)).toNat + ((b2.length : Int)).toNat) (q'.i (n + 1)).toNat) (((B.length : Int)).toNat + ((b2.length : Int)).toNat) (xs ++ segVals S sx.toNat sy.toNat ((b2.length : Int)).toNat)) ∧ D q') → K q' := by
  have hr : b2 = [] ∨ 0 ≤ sx ∧ ∀ j z, b2[j]? = some z → S.cell sx.toNat (sy.toNat + j) = some (.int .u8 z) := by
    have h2' : RdB S (.slice (slP sx sy) ((b2.length : Int)).toNat ((sc : Int)).toNat) b2 := by rw [Int.toNat_natCast, Int.toNat_natCast]; exact h2
    obtain ⟨_, hr⟩ := h2'.at hsx hsy (by omega)
    exact hr.imp (·.2) id
  obtain ⟨hok, hseg⟩ := seg_of (R := S) (x := sx) (y := sy) (l := (b2.length : Int)) rfl hsy hr
  refine ⟨⟨⟨bys B, ?_⟩, by omega, hok, by rw [Int.toNat_natCast, Int.toNat_natCast]; unfold maxLen; omega, by rw [Int.toNat_natCast, Int.toNat_natCast]; omega⟩, fun q' g ⟨a1, a2, a3, _⟩ => k q' g a1 a2 ?_⟩
  · have := h
    unfold OwB at this
    rwa [Int.toNat_natCast] at this ⊢
  · rw [hseg] at a3
    exact owB_app' h (Int.toNat_natCast _) a3
theorem appCvs {q : Env} {n m : Nat} {A : Hl} {x y c : Int} {B b2 : List Int} {vs : List Value} {D : Env → Prop} {K : Env → Prop} (h : OwB A 5 (.slice (slP x y) ((B.length : Int)).toNat c.toNat) B) (hv : vs = bys b2) (hm : m = b2.length) (hl : B.length ≤ 900000) (hl2 : b2.length ≤ 90000)
    (k : ∀ q', Agree n q q' → -1 ≤ q'.i n → 0 ≤ q'.i (n + 1) → OwB (q'.h n) 5 (.slice (slP (q'.i n) 0) (((B ++ b2).length : Int)).toNat (q'.i (n + 1)).toNat) (B ++ b2) → K q') :
    ((∃ xs, OwnsH A 5 1 (.slice (slP x y) ((B.length : Int)).toNat c.toNat) ((B.length : Int)).toNat xs) ∧ 0 ≤ (B.length : Int) ∧ ((B.length : Int)).toNat + m ≤ maxLen ∧ ((B.length : Int)).toNat + m ≤ 140737488355328) ∧
    ∀ q', Agree n q q' → (-1 ≤ q'.i n ∧ 0 ≤ q'.i (n + 1) ∧ (∀ xs, OwnsH A 5 1 (.slice (slP x y) ((B.length : Int)).toNat c.toNat) ((B.length : Int)).toNat xs → OwnsH (q'.h n) 5 1 (.slice (slP (q'.i n) 0) (((B.length : Int)).toNat + m) (q'.i (n + 1)).toNat) (((B.length : Int)).toNat + m) (xs ++ vs)) ∧ D q') → K q' := by
  refine ⟨⟨⟨bys B, ?_⟩, by omega, by rw [Int.toNat_natCast]; unfold maxLen; omega, by rw [Int.toNat_natCast]; omega⟩, fun q' g ⟨a1, a2, a3, _⟩ => k q' g a1 a2 ?_⟩
  · have := h
    unfold OwB at this
    rwa [Int.toNat_natCast] at this ⊢
  · rw [hv] at a3
    exact owB_app' h hm a3
theorem owRd {F : Hl} {p : Option Addr} {n : Nat} {c : Nat} {bs : List Int} (h : OwB F 5 (.slice p ((n : Int)).toNat c) bs) (hn : n = bs.length) : RdB F (.slice p bs.length c) bs := by
  subst hn
  have := h.rd
  rwa [Int.toNat_natCast] at this
theorem cv_prev (q : Env) : (ckCVs 2 (List.replicate 32 (Ck.int .u8))).map (CV.ev q) = bys (segI (hrow q 0) 2 32) := rfl
theorem cv_item (q : Env) : (ckCVs 37 (List.replicate 16 (Ck.int .u8))).map (CV.ev q) = bys (segI (hrow q 0) 37 16) := rfl
theorem cv_sum (q : Env) : (ckCVs 63 (List.replicate 32 (Ck.int .u8))).map (CV.ev q) = bys (segI (hrow q 0) 60 32) := rfl
theorem cv_code (q : Env) : (ckCVs 96 (List.replicate 32 (Ck.int .u8))).map (CV.ev q) = bys (segI (hrow q 0) 93 32) := rfl
theorem rCoreS_ok : (coreS 69).OK Try.prog := by
  refine Spec.of_fn (Γ := rcΓ) rcΓ_ok ?_
  rintro xs Hs Rs hl1 hl2 ⟨row, R, h, rfl, rfl, hx, h8⟩
  have e0 : Hs = [] := List.length_eq_zero_iff.1 hl1
  subst e0
  obtain ⟨ρ, rfl, w130, hnw, n54, n55, n56⟩ := hdr_env (R := R) hx.ok
  refine ⟨rCoreW, ρ, fun j q => if j = 1 then q.i 200 = (if ρ.b 35 = true then 1 else 0) else ∃ i : Nat, q.i 313 = i ∧ i ≤ h.t.length ∧ -1 ≤ q.i 310 ∧ 0 ≤ q.i 312 ∧ q.i 311 = ((coreA (hrow ρ 0) h.t.length ++ (h.t.take i).flatten).length : Int) ∧ OwB (q.h 314) 5 (.slice (slP (q.i 310) 0) (((coreA (hrow ρ 0) h.t.length ++ (h.t.take i).flatten).length : Int)).toNat (q.i 312).toNat) (coreA (hrow ρ 0) h.t.length ++ (h.t.take i).flatten), fun _ q => (h.t.length - q.i 313).toNat, rfl, ⟨?_, ?_, ?_, ?_⟩, (fun _ h => nomatch h), ?_⟩
  · intro r hr ho; simp [rCoreW] at hr; subst hr; cases ho
  · intro r hr ho; simp [rCoreW] at hr; subst hr; exact ⟨R, by simp, by show (ρ.h 130).le R; rw [w130]; exact Hl.le_refl _⟩
  · simp [rCoreW]
  · intro r hr; simp [rCoreW] at hr; subst hr; trivial
  · show Nd.holds _ _ _ rCoreNd
    unfold rCoreNd
    simp only [Nd.holds, X.pre, X.rel, X.n, Src.ok, Src.len, Src.vals, true_and, and_true, if_true, Nat.mul_one, Nat.add_zero, Nat.reduceAdd, List.length_cons, List.length_nil, bT_tt, bT_ff, bT_bvar, bT_not, bT_and, bT_or, bT_ite, bT_lt, bT_le, bT_eq, bT_beq, bT_seq, bT_hB, bT_his, bT_hby, bT_hism, bT_hks, iev_lit, iev_var, iev_add, iev_sub, iev_mul, iev_wrap, iev_ite, iev_hI, iev_hP, iev_hmlen, sev_ite, sev_slit, sev_sof, sev_svar, TV.ev, SV.ev, CV.ev, List.map_cons, List.map_nil, Res.hl, cpTV, Cp.sv, Ck.cv, cpSVs, Cp.len, Ck.len, newHs_zero, newHs_one, roots_ne, rcg0, rcr0, rcc0]
    intro q1 g1 p1
    have hrg := hx.rng
    have r1 : 0 ≤ ρ.i 1 ∧ ρ.i 1 < 18446744073709551616 := hrg (.int .u64 (ρ.i 1)) (List.mem_of_getElem? (i := 1) rfl)
    have r36 : 0 ≤ ρ.i 36 ∧ ρ.i 36 < 18446744073709551616 := hrg (.int .u64 (ρ.i 36)) (List.mem_of_getElem? (i := 36) rfl)
    have r57 : 0 ≤ ρ.i 57 ∧ ρ.i 57 < 18446744073709551616 := hrg (.int .u64 (ρ.i 57)) (List.mem_of_getElem? (i := 54) rfl)
    have r58 : 0 ≤ ρ.i 58 ∧ ρ.i 58 < 18446744073709551616 := hrg (.int .u64 (ρ.i 58)) (List.mem_of_getElem? (i := 55) rfl)
    have r59 : 0 ≤ ρ.i 59 ∧ ρ.i 59 < 18446744073709551616 := hrg (.int .u64 (ρ.i 59)) (List.mem_of_getElem? (i := 56) rfl)
    have r60 : 0 ≤ ρ.i 60 ∧ ρ.i 60 < 18446744073709551616 := hrg (.int .u64 (ρ.i 60)) (List.mem_of_getElem? (i := 57) rfl)
    have r61 : 0 ≤ ρ.i 61 ∧ ρ.i 61 < 18446744073709551616 := hrg (.int .u64 (ρ.i 61)) (List.mem_of_getElem? (i := 58) rfl)
    have r62 : 0 ≤ ρ.i 62 ∧ ρ.i 62 < 18446744073709551616 := hrg (.int .u64 (ρ.i 62)) (List.mem_of_getElem? (i := 59) rfl)
    have hlen : (ρ.i 55).toNat = h.t.length := rd_len hx.tok
    have G1 : Agree 131 ρ q1 := g1.mono (by omega)
    rw [G1.i 0 (by omega)]
    refine rnStep (u64_in _) fun q2 g2 N2 X2 Y2 h2 => ?_
    have G2 : Agree 131 ρ q2 := G1.trans (g2.mono (by omega))
    have N2 : q2.i 134 = ((numB (u64N (ρ.i 0))).length : Int) := N2
    have h2 : OwB (q2.h 132) _ (.slice (slP (q2.i 132) (q2.i 133)) (((numB (u64N (ρ.i 0))).length : Int)).toNat (q2.i 135).toNat) (numB (u64N (ρ.i 0))) := h2
    have b2 : (numB (u64N (ρ.i 0))).length ≤ 10 := lenB (u64N_lt (ρ.i 0))
    rw [G2.i 1 (by omega)]
    refine rnStep r1 fun q3 g3 N3 X3 Y3 h3 => ?_
    have G3 : Agree 131 ρ q3 := G2.trans (g3.mono (by omega))
    have N3 : q3.i 138 = ((numB (ρ.i 1).toNat).length : Int) := N3
    have h3 : OwB (q3.h 136) _ (.slice (slP (q3.i 136) (q3.i 137)) (((numB (ρ.i 1).toNat).length : Int)).toNat (q3.i 139).toNat) (numB (ρ.i 1).toNat) := h3
    have b3 : (numB (ρ.i 1).toNat).length ≤ 10 := lenB (z := (ρ.i 1).toNat) (by omega)
    rw [← g3.h 132 (by omega), ← g3.i 132 (by omega), ← g3.i 135 (by omega), ← g3.i 133 (by omega)] at h2
    rw [← g3.i 134 (by omega)] at N2
    rw [N2, N3]
    refine appSeg h2 X3 Y3 (owRd h3 rfl) (by omega) (by omega) fun q4 g4 A4 C4 h4 => ?_
    have G4 : Agree 131 ρ q4 := G3.trans (g4.mono (by omega))
    have h4 : OwB (q4.h 140) _ (.slice (slP (q4.i 140) 0) (((numB (u64N (ρ.i 0)) ++ numB (ρ.i 1).toNat).length : Int)).toNat (q4.i 141).toNat) (numB (u64N (ρ.i 0)) ++ numB (ρ.i 1).toNat) := h4
    have b4x : (numB (u64N (ρ.i 0)) ++ numB (ρ.i 1).toNat).length ≤ 20 := by rw [List.length_append]; exact Nat.add_le_add b2 b3
    have L4 : q4.i 134 + q4.i 138 = ((numB (u64N (ρ.i 0)) ++ numB (ρ.i 1).toNat).length : Int) := by rw [g4.i 134 (by omega), g4.i 138 (by omega), N2, N3, List.length_append (bs := numB (ρ.i 1).toNat)]; first | (rw [segI_len]; omega) | (show _ = ((_ + 1 : Nat) : Int); omega) | omega
    rw [L4]
    refine appCvs (b2 := segI (hrow ρ 0) 2 32) h4 (by rw [← hrow_ag (G4.mono (by omega))]; exact cv_prev q4) (segI_len _ _ _).symm (by omega) (by rw [segI_len]; omega) fun q5 g5 A5 C5 h5 => ?_
    have G5 : Agree 131 ρ q5 := G4.trans (g5.mono (by omega))
    have h5 : OwB (q5.h 142) _ (.slice (slP (q5.i 142) 0) (((numB (u64N (ρ.i 0)) ++ numB (ρ.i 1).toNat ++ segI (hrow ρ 0) 2 32).length : Int)).toNat (q5.i 143).toNat) (numB (u64N (ρ.i 0)) ++ numB (ρ.i 1).toNat ++ segI (hrow ρ 0) 2 32) := h5
    have b5x : (numB (u64N (ρ.i 0)) ++ numB (ρ.i 1).toNat ++ segI (hrow ρ 0) 2 32).length ≤ 52 := by rw [List.length_append]; exact Nat.add_le_add b4x (Nat.le_of_eq (segI_len _ _ _))
    have L5 : q5.i 134 + q5.i 138 + 32 = ((numB (u64N (ρ.i 0)) ++ numB (ρ.i 1).toNat ++ segI (hrow ρ 0) 2 32).length : Int) := by rw [g5.i 134 (by omega), g5.i 138 (by omega), L4, List.length_append (bs := segI (hrow ρ 0) 2 32)]; first | (rw [segI_len]; omega) | (show _ = ((_ + 1 : Nat) : Int); omega) | omega
    rw [G5.i 34 (by omega)]
    refine rnStep (u64_in _) fun q6 g6 N6 X6 Y6 h6 => ?_
    have G6 : Agree 131 ρ q6 := G5.trans (g6.mono (by omega))
    have N6 : q6.i 146 = ((numB (u64N (ρ.i 34))).length : Int) := N6
    have h6 : OwB (q6.h 144) _ (.slice (slP (q6.i 144) (q6.i 145)) (((numB (u64N (ρ.i 34))).length : Int)).toNat (q6.i 147).toNat) (numB (u64N (ρ.i 34))) := h6
    have b6 : (numB (u64N (ρ.i 34))).length ≤ 10 := lenB (u64N_lt (ρ.i 34))
    rw [← g6.h 142 (by omega), ← g6.i 142 (by omega), ← g6.i 143 (by omega)] at h5
    rw [← g6.i 134 (by omega), ← g6.i 138 (by omega)] at L5
    rw [L5, N6]
    refine appSeg h5 X6 Y6 (owRd h6 rfl) (by omega) (by omega) fun q7 g7 A7 C7 h7 => ?_
    have G7 : Agree 131 ρ q7 := G6.trans (g7.mono (by omega))
    have h7 : OwB (q7.h 148) _ (.slice (slP (q7.i 148) 0) (((numB (u64N (ρ.i 0)) ++ numB (ρ.i 1).toNat ++ segI (hrow ρ 0) 2 32 ++ numB (u64N (ρ.i 34))).length : Int)).toNat (q7.i 149).toNat) (numB (u64N (ρ.i 0)) ++ numB (ρ.i 1).toNat ++ segI (hrow ρ 0) 2 32 ++ numB (u64N (ρ.i 34))) := h7
    have b7x : (numB (u64N (ρ.i 0)) ++ numB (ρ.i 1).toNat ++ segI (hrow ρ 0) 2 32 ++ numB (u64N (ρ.i 34))).length ≤ 62 := by rw [List.length_append]; exact Nat.add_le_add b5x b6
    have L7 : q7.i 134 + q7.i 138 + 32 + q7.i 146 = ((numB (u64N (ρ.i 0)) ++ numB (ρ.i 1).toNat ++ segI (hrow ρ 0) 2 32 ++ numB (u64N (ρ.i 34))).length : Int) := by rw [g7.i 134 (by omega), g7.i 138 (by omega), g7.i 146 (by omega), L5, N6, List.length_append (bs := numB (u64N (ρ.i 34)))]; first | (rw [segI_len]; omega) | (show _ = ((_ + 1 : Nat) : Int); omega) | omega
    rw [G7.b 35 (by omega)]
    refine ⟨⟨fun hc => ?_, fun hc => ?_⟩, fun q8 g8 hcut => ?_⟩
    · show (1 : Int) = _
      rw [if_pos hc]
    · show (0 : Int) = _
      rw [if_neg hc]
    have G8 : Agree 131 ρ q8 := G7.trans (g8.mono (by omega))
    rw [← g8.h 148 (by omega), ← g8.i 148 (by omega), ← g8.i 149 (by omega)] at h7
    rw [← g8.i 134 (by omega), ← g8.i 138 (by omega), ← g8.i 146 (by omega)] at L7
    intro q9 g9 _
    rw [← g9.i 200 (by omega)] at hcut
    have G9 : Agree 131 ρ q9 := G8.trans (g9.mono (by omega))
    rw [← g9.h 148 (by omega), ← g9.i 148 (by omega), ← g9.i 149 (by omega)] at h7
    rw [← g9.i 134 (by omega), ← g9.i 138 (by omega), ← g9.i 146 (by omega)] at L7
    rw [L7]
    refine appCvs (b2 := flagB (ρ.b 35)) h7 (by show [Value.int .u8 (q9.i 200)] = _; rw [hcut]; rfl) rfl (by omega) (by show 1 ≤ 90000; omega) fun q10 g10 A10 C10 h10 => ?_
    have G10 : Agree 131 ρ q10 := G9.trans (g10.mono (by omega))
    have h10 : OwB (q10.h 202) _ (.slice (slP (q10.i 202) 0) (((numB (u64N (ρ.i 0)) ++ numB (ρ.i 1).toNat ++ segI (hrow ρ 0) 2 32 ++ numB (u64N (ρ.i 34)) ++ flagB (ρ.b 35)).length : Int)).toNat (q10.i 203).toNat) (numB (u64N (ρ.i 0)) ++ numB (ρ.i 1).toNat ++ segI (hrow ρ 0) 2 32 ++ numB (u64N (ρ.i 34)) ++ flagB (ρ.b 35)) := h10
    have b10x : (numB (u64N (ρ.i 0)) ++ numB (ρ.i 1).toNat ++ segI (hrow ρ 0) 2 32 ++ numB (u64N (ρ.i 34)) ++ flagB (ρ.b 35)).length ≤ 63 := by rw [List.length_append]; exact Nat.add_le_add b7x (Nat.le_refl 1)
    have L10 : q10.i 134 + q10.i 138 + 32 + q10.i 146 + 1 = ((numB (u64N (ρ.i 0)) ++ numB (ρ.i 1).toNat ++ segI (hrow ρ 0) 2 32 ++ numB (u64N (ρ.i 34)) ++ flagB (ρ.b 35)).length : Int) := by rw [g10.i 134 (by omega), g10.i 138 (by omega), g10.i 146 (by omega), L7, List.length_append (bs := flagB (ρ.b 35))]; first | (rw [segI_len]; omega) | (show _ = ((_ + 1 : Nat) : Int); omega) | omega
    rw [G10.i 36 (by omega)]
    refine rnStep r36 fun q11 g11 N11 X11 Y11 h11 => ?_
    have G11 : Agree 131 ρ q11 := G10.trans (g11.mono (by omega))
    have N11 : q11.i 206 = ((numB (ρ.i 36).toNat).length : Int) := N11
    have h11 : OwB (q11.h 204) _ (.slice (slP (q11.i 204) (q11.i 205)) (((numB (ρ.i 36).toNat).length : Int)).toNat (q11.i 207).toNat) (numB (ρ.i 36).toNat) := h11
    have b11 : (numB (ρ.i 36).toNat).length ≤ 10 := lenB (z := (ρ.i 36).toNat) (by omega)
    rw [← g11.h 202 (by omega), ← g11.i 202 (by omega), ← g11.i 203 (by omega)] at h10
    rw [← g11.i 134 (by omega), ← g11.i 138 (by omega), ← g11.i 146 (by omega)] at L10
    rw [L10, N11]
    refine appSeg h10 X11 Y11 (owRd h11 rfl) (by omega) (by omega) fun q12 g12 A12 C12 h12 => ?_
    have G12 : Agree 131 ρ q12 := G11.trans (g12.mono (by omega))
    have h12 : OwB (q12.h 208) _ (.slice (slP (q12.i 208) 0) (((numB (u64N (ρ.i 0)) ++ numB (ρ.i 1).toNat ++ segI (hrow ρ 0) 2 32 ++ numB (u64N (ρ.i 34)) ++ flagB (ρ.b 35) ++ numB (ρ.i 36).toNat).length : Int)).toNat (q12.i 209).toNat) (numB (u64N (ρ.i 0)) ++ numB (ρ.i 1).toNat ++ segI (hrow ρ 0) 2 32 ++ numB (u64N (ρ.i 34)) ++ flagB (ρ.b 35) ++ numB (ρ.i 36).toNat) := h12
    have b12x : (numB (u64N (ρ.i 0)) ++ numB (ρ.i 1).toNat ++ segI (hrow ρ 0) 2 32 ++ numB (u64N (ρ.i 34)) ++ flagB (ρ.b 35) ++ numB (ρ.i 36).toNat).length ≤ 73 := by rw [List.length_append]; exact Nat.add_le_add b10x b11
    have L12 : q12.i 134 + q12.i 138 + 32 + q12.i 146 + 1 + q12.i 206 = ((numB (u64N (ρ.i 0)) ++ numB (ρ.i 1).toNat ++ segI (hrow ρ 0) 2 32 ++ numB (u64N (ρ.i 34)) ++ flagB (ρ.b 35) ++ numB (ρ.i 36).toNat).length : Int) := by rw [g12.i 134 (by omega), g12.i 138 (by omega), g12.i 146 (by omega), g12.i 206 (by omega), L10, N11, List.length_append (bs := numB (ρ.i 36).toNat)]; first | (rw [segI_len]; omega) | (show _ = ((_ + 1 : Nat) : Int); omega) | omega
    rw [L12]
    refine appCvs (b2 := segI (hrow ρ 0) 37 16) h12 (by rw [← hrow_ag (G12.mono (by omega))]; exact cv_item q12) (segI_len _ _ _).symm (by omega) (by rw [segI_len]; omega) fun q13 g13 A13 C13 h13 => ?_
    have G13 : Agree 131 ρ q13 := G12.trans (g13.mono (by omega))
    have h13 : OwB (q13.h 210) _ (.slice (slP (q13.i 210) 0) (((numB (u64N (ρ.i 0)) ++ numB (ρ.i 1).toNat ++ segI (hrow ρ 0) 2 32 ++ numB (u64N (ρ.i 34)) ++ flagB (ρ.b 35) ++ numB (ρ.i 36).toNat ++ segI (hrow ρ 0) 37 16).length : Int)).toNat (q13.i 211).toNat) (numB (u64N (ρ.i 0)) ++ numB (ρ.i 1).toNat ++ segI (hrow ρ 0) 2 32 ++ numB (u64N (ρ.i 34)) ++ flagB (ρ.b 35) ++ numB (ρ.i 36).toNat ++ segI (hrow ρ 0) 37 16) := h13
    have b13x : (numB (u64N (ρ.i 0)) ++ numB (ρ.i 1).toNat ++ segI (hrow ρ 0) 2 32 ++ numB (u64N (ρ.i 34)) ++ flagB (ρ.b 35) ++ numB (ρ.i 36).toNat ++ segI (hrow ρ 0) 37 16).length ≤ 89 := by rw [List.length_append]; exact Nat.add_le_add b12x (Nat.le_of_eq (segI_len _ _ _))
    have L13 : q13.i 134 + q13.i 138 + 32 + q13.i 146 + 1 + q13.i 206 + 16 = ((numB (u64N (ρ.i 0)) ++ numB (ρ.i 1).toNat ++ segI (hrow ρ 0) 2 32 ++ numB (u64N (ρ.i 34)) ++ flagB (ρ.b 35) ++ numB (ρ.i 36).toNat ++ segI (hrow ρ 0) 37 16).length : Int) := by rw [g13.i 134 (by omega), g13.i 138 (by omega), g13.i 146 (by omega), g13.i 206 (by omega), L12, List.length_append (bs := segI (hrow ρ 0) 37 16)]; first | (rw [segI_len]; omega) | (show _ = ((_ + 1 : Nat) : Int); omega) | omega
    rw [G13.i 55 (by omega)]
    refine ⟨n55, ?_⟩
    have ew : IntKind.u64.wrap (ρ.i 55) = h.t.length := by rw [wu64 (by omega) (by omega)]; omega
    rw [ew]
    refine rnStep (by omega) fun q14 g14 N14 X14 Y14 h14 => ?_
    rw [Int.toNat_natCast] at N14 h14
    have G14 : Agree 131 ρ q14 := G13.trans (g14.mono (by omega))
    have N14 : q14.i 214 = ((numB h.t.length).length : Int) := N14
    have h14 : OwB (q14.h 212) _ (.slice (slP (q14.i 212) (q14.i 213)) (((numB h.t.length).length : Int)).toNat (q14.i 215).toNat) (numB h.t.length) := h14
    have b14 : (numB h.t.length).length ≤ 10 := lenB (z := h.t.length) (by omega)
    rw [← g14.h 210 (by omega), ← g14.i 210 (by omega), ← g14.i 211 (by omega)] at h13
    rw [← g14.i 134 (by omega), ← g14.i 138 (by omega), ← g14.i 146 (by omega), ← g14.i 206 (by omega)] at L13
    rw [L13, N14]
    refine appSeg h13 X14 Y14 (owRd h14 rfl) (by omega) (by omega) fun q15 g15 A15 C15 h15 => ?_
    have G15 : Agree 131 ρ q15 := G14.trans (g15.mono (by omega))
    have h15 : OwB (q15.h 216) _ (.slice (slP (q15.i 216) 0) (((numB (u64N (ρ.i 0)) ++ numB (ρ.i 1).toNat ++ segI (hrow ρ 0) 2 32 ++ numB (u64N (ρ.i 34)) ++ flagB (ρ.b 35) ++ numB (ρ.i 36).toNat ++ segI (hrow ρ 0) 37 16 ++ numB h.t.length).length : Int)).toNat (q15.i 217).toNat) (numB (u64N (ρ.i 0)) ++ numB (ρ.i 1).toNat ++ segI (hrow ρ 0) 2 32 ++ numB (u64N (ρ.i 34)) ++ flagB (ρ.b 35) ++ numB (ρ.i 36).toNat ++ segI (hrow ρ 0) 37 16 ++ numB h.t.length) := h15
    have b15x : (numB (u64N (ρ.i 0)) ++ numB (ρ.i 1).toNat ++ segI (hrow ρ 0) 2 32 ++ numB (u64N (ρ.i 34)) ++ flagB (ρ.b 35) ++ numB (ρ.i 36).toNat ++ segI (hrow ρ 0) 37 16 ++ numB h.t.length).length ≤ 99 := by rw [List.length_append]; exact Nat.add_le_add b13x b14
    have L15 : q15.i 134 + q15.i 138 + 32 + q15.i 146 + 1 + q15.i 206 + 16 + q15.i 214 = ((numB (u64N (ρ.i 0)) ++ numB (ρ.i 1).toNat ++ segI (hrow ρ 0) 2 32 ++ numB (u64N (ρ.i 34)) ++ flagB (ρ.b 35) ++ numB (ρ.i 36).toNat ++ segI (hrow ρ 0) 37 16 ++ numB h.t.length).length : Int) := by rw [g15.i 134 (by omega), g15.i 138 (by omega), g15.i 146 (by omega), g15.i 206 (by omega), g15.i 214 (by omega), L13, N14, List.length_append (bs := numB h.t.length)]; first | (rw [segI_len]; omega) | (show _ = ((_ + 1 : Nat) : Int); omega) | omega
    have hA : OwB (q15.h 216) _ (.slice (slP (q15.i 216) 0) (((coreA (hrow ρ 0) h.t.length).length : Int)).toNat (q15.i 217).toNat) (coreA (hrow ρ 0) h.t.length) := h15
    have lA : (coreA (hrow ρ 0) h.t.length).length ≤ 99 := b15x
    have LA : q15.i 134 + q15.i 138 + 32 + q15.i 146 + 1 + q15.i 206 + 16 + q15.i 214 = ((coreA (hrow ρ 0) h.t.length).length : Int) := L15
    have ht16 : ∀ t ∈ h.t, t.length = 16 := fun t ht => (hx.byte.2 t ht).1
    have lF : ∀ i, i ≤ h.t.length → ((h.t.take i).flatten).length ≤ 128 := fun i hi => by
      rw [flat16 (fun t ht => ht16 t (List.mem_of_mem_take ht)), List.length_take]; omega
    refine ⟨⟨0, rfl, Nat.zero_le _, A15, C15, ?_, ?_⟩, fun q g hinv => ?_⟩
    · show q15.i 134 + q15.i 138 + 32 + q15.i 146 + 1 + q15.i 206 + 16 + q15.i 214 = _
      rw [List.take_zero, List.flatten_nil, List.append_nil]; exact LA
    · show OwB (q15.h 216) _ (.slice (slP (q15.i 216) 0) _ (q15.i 217).toNat) _
      rw [List.take_zero, List.flatten_nil, List.append_nil]; exact hA
    have G : Agree 131 ρ q := G15.trans (g.mono (by omega))
    clear h2 h3 h4 h5 h6 h7 h10 h11 h12 h13 h14 h15 hA LA
    obtain ⟨i, ei, hi, A0, C0, e311, hO⟩ := hinv
    rw [G.i 55 (by omega), ei]
    refine ⟨fun hlt => ?_, fun hge => ?_⟩
    · have hiT : i < h.t.length := by omega
      obtain ⟨x, y, c, eS, hy, hrows⟩ := id hx.tok
      have eS : Value.slice (slP (ρ.i 53) (ρ.i 54)) (ρ.i 55).toNat (ρ.i 56).toNat = .slice (slP x y) (h.t.map bys).length c := eS
      rcases hrows with hn | ⟨hx0, hc⟩
      · rw [List.map_eq_nil_iff] at hn
        rw [hn] at hiT; cases hiT
      simp only [Value.slice.injEq] at eS
      obtain ⟨hx53, hy54⟩ := slP_eq hx0 hy n54 eS.1
      have ht := List.getElem?_eq_getElem hiT
      have m1 := hx.byte.2 _ (List.mem_of_getElem? ht)
      have hcell := (hc i (bys h.t[i]) (by rw [List.getElem?_map, ht]; rfl)).2
      have hlen16 : tkd.length = 16 := rfl
      rw [hlen16] at hcell
      have rdT : RdB R (.slice (slP x (y + (i : Int) * 16)) h.t[i].length 16) h.t[i] := ⟨x, y + (i : Int) * 16, 16, rfl, by omega, Or.inr ⟨hx0, fun j z hz => by
        rw [show (y + (i : Int) * 16).toNat + j = y.toNat + i * 16 + j by omega]
        exact hcell j _ (by unfold bys; rw [List.getElem?_map, hz]; rfl)⟩⟩
      have h16 : (16 : Int) = (h.t[i].length : Int) := by rw [m1.1]; rfl
      have := lF i hi
      rw [G.i 53 (by omega), G.i 54 (by omega), G.h 130 (by omega), w130, hx53, hy54, e311]
      refine ⟨hx0, hy, by omega, ?_⟩
      have key := fun K k => appSeg (q := q) (n := 320) (D := fun q' => (∀ b : Nat, (q.h 314).mem b → some b ≠ (Value.slice (slP (q.i 310) 0) (((coreA (hrow ρ 0) h.t.length ++ (List.take i h.t).flatten).length : Int)).toNat (q.i 312).toNat).ownBlock → q'.h 320 b = q.h 314 b) ∧ (∀ b : Nat, (q'.h 320).mem b → (q.h 314).mem b ∨ b = (q'.i 320).toNat ∧ 0 ≤ q'.i 320) ∧ (some (q'.i 320).toNat = (Value.slice (slP (q.i 310) 0) (((coreA (hrow ρ 0) h.t.length ++ (List.take i h.t).flatten).length : Int)).toNat (q.i 312).toNat).ownBlock ∨ ¬(q.h 314).mem (q'.i 320).toNat ∨ q'.i 320 = -1)) (K := K) hO (by omega) (by omega) rdT (by rw [List.length_append]; omega) (by omega) k
      rw [m1.1] at key
      refine key _ fun q1 g1 A1 C1 h1 => ?_
      have ew : IntKind.i64.wrap (q1.i 313 + 1) = ((i + 1 : Nat) : Int) := by rw [g1.i 313 (by omega), ei, IntWalk.i64_in _ (by omega)]; omega
      have eB : coreA (hrow ρ 0) h.t.length ++ (h.t.take i).flatten ++ h.t[i] = coreA (hrow ρ 0) h.t.length ++ (h.t.take (i + 1)).flatten := by rw [List.take_add_one, ht, Option.toList_some, List.flatten_append, List.flatten_cons, List.flatten_nil, List.append_nil, List.append_assoc]
      have lB : ((coreA (hrow ρ 0) h.t.length ++ (h.t.take i).flatten).length : Int) + 16 = ((coreA (hrow ρ 0) h.t.length ++ (h.t.take (i + 1)).flatten).length : Int) := by rw [← eB, List.length_append (bs := h.t[i])]; omega
      rw [eB] at h1
      refine ⟨⟨i + 1, ew, by omega, A1, C1, ?_, h1⟩, ?_⟩
      · show q1.i 311 + 16 = _
        rw [g1.i 311 (by omega), e311, lB]
      · show ((h.t.length : Int) - IntKind.i64.wrap (q1.i 313 + 1)).toNat < _
        rw [ew]; omega
    have hi' : i = h.t.length := by omega
    rw [hi', List.take_length] at hO e311
    have lF := lF h.t.length (Nat.le_refl _)
    rw [List.take_length] at lF
    have b20 : (coreA (hrow ρ 0) h.t.length ++ h.t.flatten).length ≤ 227 := by rw [List.length_append]; exact Nat.add_le_add lA lF
    have G20 := G
    clear G lA lF
    obtain ⟨q20, e20⟩ : ∃ q20, q20 = q := ⟨_, rfl⟩
    rw [← e20] at hO e311 G20 ⊢
    have hge' : True := trivial
    rw [G20.i 57 (by omega)]
    refine rnStep r57 fun q21 g21 N21 X21 Y21 h21 => ?_
    have G21 : Agree 131 ρ q21 := G20.trans (g21.mono (by omega))
    have N21 : q21.i 322 = ((numB (ρ.i 57).toNat).length : Int) := N21
    have h21 : OwB (q21.h 320) _ (.slice (slP (q21.i 320) (q21.i 321)) (((numB (ρ.i 57).toNat).length : Int)).toNat (q21.i 323).toNat) (numB (ρ.i 57).toNat) := h21
    have b21 : (numB (ρ.i 57).toNat).length ≤ 10 := lenB (z := (ρ.i 57).toNat) (by omega)
    rw [← g21.h 314 (by omega), ← g21.i 310 (by omega), ← g21.i 312 (by omega)] at hO
    rw [← g21.i 311 (by omega)] at e311
    rw [e311, N21]
    refine appSeg hO X21 Y21 (owRd h21 rfl) (by omega) (by omega) fun q22 g22 A22 C22 h22 => ?_
    have G22 : Agree 131 ρ q22 := G21.trans (g22.mono (by omega))
    have h22 : OwB (q22.h 324) _ (.slice (slP (q22.i 324) 0) (((coreA (hrow ρ 0) h.t.length ++ h.t.flatten ++ numB (ρ.i 57).toNat).length : Int)).toNat (q22.i 325).toNat) (coreA (hrow ρ 0) h.t.length ++ h.t.flatten ++ numB (ρ.i 57).toNat) := h22
    have b22x : (coreA (hrow ρ 0) h.t.length ++ h.t.flatten ++ numB (ρ.i 57).toNat).length ≤ 237 := by rw [List.length_append]; exact Nat.add_le_add b20 b21
    have L22 : q22.i 311 + q22.i 322 = ((coreA (hrow ρ 0) h.t.length ++ h.t.flatten ++ numB (ρ.i 57).toNat).length : Int) := by rw [g22.i 311 (by omega), g22.i 322 (by omega), e311, N21, List.length_append (bs := numB (ρ.i 57).toNat)]; first | (rw [segI_len]; omega) | (show _ = ((_ + 1 : Nat) : Int); omega) | omega
    rw [G22.i 58 (by omega)]
    refine rnStep r58 fun q23 g23 N23 X23 Y23 h23 => ?_
    have G23 : Agree 131 ρ q23 := G22.trans (g23.mono (by omega))
    have N23 : q23.i 328 = ((numB (ρ.i 58).toNat).length : Int) := N23
    have h23 : OwB (q23.h 326) _ (.slice (slP (q23.i 326) (q23.i 327)) (((numB (ρ.i 58).toNat).length : Int)).toNat (q23.i 329).toNat) (numB (ρ.i 58).toNat) := h23
    have b23 : (numB (ρ.i 58).toNat).length ≤ 10 := lenB (z := (ρ.i 58).toNat) (by omega)
    rw [← g23.h 324 (by omega), ← g23.i 324 (by omega), ← g23.i 325 (by omega)] at h22
    rw [← g23.i 311 (by omega), ← g23.i 322 (by omega)] at L22
    rw [L22, N23]
    refine appSeg h22 X23 Y23 (owRd h23 rfl) (by omega) (by omega) fun q24 g24 A24 C24 h24 => ?_
    have G24 : Agree 131 ρ q24 := G23.trans (g24.mono (by omega))
    have h24 : OwB (q24.h 330) _ (.slice (slP (q24.i 330) 0) (((coreA (hrow ρ 0) h.t.length ++ h.t.flatten ++ numB (ρ.i 57).toNat ++ numB (ρ.i 58).toNat).length : Int)).toNat (q24.i 331).toNat) (coreA (hrow ρ 0) h.t.length ++ h.t.flatten ++ numB (ρ.i 57).toNat ++ numB (ρ.i 58).toNat) := h24
    have b24x : (coreA (hrow ρ 0) h.t.length ++ h.t.flatten ++ numB (ρ.i 57).toNat ++ numB (ρ.i 58).toNat).length ≤ 247 := by rw [List.length_append]; exact Nat.add_le_add b22x b23
    have L24 : q24.i 311 + q24.i 322 + q24.i 328 = ((coreA (hrow ρ 0) h.t.length ++ h.t.flatten ++ numB (ρ.i 57).toNat ++ numB (ρ.i 58).toNat).length : Int) := by rw [g24.i 311 (by omega), g24.i 322 (by omega), g24.i 328 (by omega), L22, N23, List.length_append (bs := numB (ρ.i 58).toNat)]; first | (rw [segI_len]; omega) | (show _ = ((_ + 1 : Nat) : Int); omega) | omega
    rw [G24.i 59 (by omega)]
    refine rnStep r59 fun q25 g25 N25 X25 Y25 h25 => ?_
    have G25 : Agree 131 ρ q25 := G24.trans (g25.mono (by omega))
    have N25 : q25.i 334 = ((numB (ρ.i 59).toNat).length : Int) := N25
    have h25 : OwB (q25.h 332) _ (.slice (slP (q25.i 332) (q25.i 333)) (((numB (ρ.i 59).toNat).length : Int)).toNat (q25.i 335).toNat) (numB (ρ.i 59).toNat) := h25
    have b25 : (numB (ρ.i 59).toNat).length ≤ 10 := lenB (z := (ρ.i 59).toNat) (by omega)
    rw [← g25.h 330 (by omega), ← g25.i 330 (by omega), ← g25.i 331 (by omega)] at h24
    rw [← g25.i 311 (by omega), ← g25.i 322 (by omega), ← g25.i 328 (by omega)] at L24
    rw [L24, N25]
    refine appSeg h24 X25 Y25 (owRd h25 rfl) (by omega) (by omega) fun q26 g26 A26 C26 h26 => ?_
    have G26 : Agree 131 ρ q26 := G25.trans (g26.mono (by omega))
    have h26 : OwB (q26.h 336) _ (.slice (slP (q26.i 336) 0) (((coreA (hrow ρ 0) h.t.length ++ h.t.flatten ++ numB (ρ.i 57).toNat ++ numB (ρ.i 58).toNat ++ numB (ρ.i 59).toNat).length : Int)).toNat (q26.i 337).toNat) (coreA (hrow ρ 0) h.t.length ++ h.t.flatten ++ numB (ρ.i 57).toNat ++ numB (ρ.i 58).toNat ++ numB (ρ.i 59).toNat) := h26
    have b26x : (coreA (hrow ρ 0) h.t.length ++ h.t.flatten ++ numB (ρ.i 57).toNat ++ numB (ρ.i 58).toNat ++ numB (ρ.i 59).toNat).length ≤ 257 := by rw [List.length_append]; exact Nat.add_le_add b24x b25
    have L26 : q26.i 311 + q26.i 322 + q26.i 328 + q26.i 334 = ((coreA (hrow ρ 0) h.t.length ++ h.t.flatten ++ numB (ρ.i 57).toNat ++ numB (ρ.i 58).toNat ++ numB (ρ.i 59).toNat).length : Int) := by rw [g26.i 311 (by omega), g26.i 322 (by omega), g26.i 328 (by omega), g26.i 334 (by omega), L24, N25, List.length_append (bs := numB (ρ.i 59).toNat)]; first | (rw [segI_len]; omega) | (show _ = ((_ + 1 : Nat) : Int); omega) | omega
    rw [G26.i 60 (by omega)]
    refine rnStep r60 fun q27 g27 N27 X27 Y27 h27 => ?_
    have G27 : Agree 131 ρ q27 := G26.trans (g27.mono (by omega))
    have N27 : q27.i 340 = ((numB (ρ.i 60).toNat).length : Int) := N27
    have h27 : OwB (q27.h 338) _ (.slice (slP (q27.i 338) (q27.i 339)) (((numB (ρ.i 60).toNat).length : Int)).toNat (q27.i 341).toNat) (numB (ρ.i 60).toNat) := h27
    have b27 : (numB (ρ.i 60).toNat).length ≤ 10 := lenB (z := (ρ.i 60).toNat) (by omega)
    rw [← g27.h 336 (by omega), ← g27.i 336 (by omega), ← g27.i 337 (by omega)] at h26
    rw [← g27.i 311 (by omega), ← g27.i 322 (by omega), ← g27.i 328 (by omega), ← g27.i 334 (by omega)] at L26
    rw [L26, N27]
    refine appSeg h26 X27 Y27 (owRd h27 rfl) (by omega) (by omega) fun q28 g28 A28 C28 h28 => ?_
    have G28 : Agree 131 ρ q28 := G27.trans (g28.mono (by omega))
    have h28 : OwB (q28.h 342) _ (.slice (slP (q28.i 342) 0) (((coreA (hrow ρ 0) h.t.length ++ h.t.flatten ++ numB (ρ.i 57).toNat ++ numB (ρ.i 58).toNat ++ numB (ρ.i 59).toNat ++ numB (ρ.i 60).toNat).length : Int)).toNat (q28.i 343).toNat) (coreA (hrow ρ 0) h.t.length ++ h.t.flatten ++ numB (ρ.i 57).toNat ++ numB (ρ.i 58).toNat ++ numB (ρ.i 59).toNat ++ numB (ρ.i 60).toNat) := h28
    have b28x : (coreA (hrow ρ 0) h.t.length ++ h.t.flatten ++ numB (ρ.i 57).toNat ++ numB (ρ.i 58).toNat ++ numB (ρ.i 59).toNat ++ numB (ρ.i 60).toNat).length ≤ 267 := by rw [List.length_append]; exact Nat.add_le_add b26x b27
    have L28 : q28.i 311 + q28.i 322 + q28.i 328 + q28.i 334 + q28.i 340 = ((coreA (hrow ρ 0) h.t.length ++ h.t.flatten ++ numB (ρ.i 57).toNat ++ numB (ρ.i 58).toNat ++ numB (ρ.i 59).toNat ++ numB (ρ.i 60).toNat).length : Int) := by rw [g28.i 311 (by omega), g28.i 322 (by omega), g28.i 328 (by omega), g28.i 334 (by omega), g28.i 340 (by omega), L26, N27, List.length_append (bs := numB (ρ.i 60).toNat)]; first | (rw [segI_len]; omega) | (show _ = ((_ + 1 : Nat) : Int); omega) | omega
    rw [G28.i 61 (by omega)]
    refine rnStep r61 fun q29 g29 N29 X29 Y29 h29 => ?_
    have G29 : Agree 131 ρ q29 := G28.trans (g29.mono (by omega))
    have N29 : q29.i 346 = ((numB (ρ.i 61).toNat).length : Int) := N29
    have h29 : OwB (q29.h 344) _ (.slice (slP (q29.i 344) (q29.i 345)) (((numB (ρ.i 61).toNat).length : Int)).toNat (q29.i 347).toNat) (numB (ρ.i 61).toNat) := h29
    have b29 : (numB (ρ.i 61).toNat).length ≤ 10 := lenB (z := (ρ.i 61).toNat) (by omega)
    rw [← g29.h 342 (by omega), ← g29.i 342 (by omega), ← g29.i 343 (by omega)] at h28
    rw [← g29.i 311 (by omega), ← g29.i 322 (by omega), ← g29.i 328 (by omega), ← g29.i 334 (by omega), ← g29.i 340 (by omega)] at L28
    rw [L28, N29]
    refine appSeg h28 X29 Y29 (owRd h29 rfl) (by omega) (by omega) fun q30 g30 A30 C30 h30 => ?_
    have G30 : Agree 131 ρ q30 := G29.trans (g30.mono (by omega))
    have h30 : OwB (q30.h 348) _ (.slice (slP (q30.i 348) 0) (((coreA (hrow ρ 0) h.t.length ++ h.t.flatten ++ numB (ρ.i 57).toNat ++ numB (ρ.i 58).toNat ++ numB (ρ.i 59).toNat ++ numB (ρ.i 60).toNat ++ numB (ρ.i 61).toNat).length : Int)).toNat (q30.i 349).toNat) (coreA (hrow ρ 0) h.t.length ++ h.t.flatten ++ numB (ρ.i 57).toNat ++ numB (ρ.i 58).toNat ++ numB (ρ.i 59).toNat ++ numB (ρ.i 60).toNat ++ numB (ρ.i 61).toNat) := h30
    have b30x : (coreA (hrow ρ 0) h.t.length ++ h.t.flatten ++ numB (ρ.i 57).toNat ++ numB (ρ.i 58).toNat ++ numB (ρ.i 59).toNat ++ numB (ρ.i 60).toNat ++ numB (ρ.i 61).toNat).length ≤ 277 := by rw [List.length_append]; exact Nat.add_le_add b28x b29
    have L30 : q30.i 311 + q30.i 322 + q30.i 328 + q30.i 334 + q30.i 340 + q30.i 346 = ((coreA (hrow ρ 0) h.t.length ++ h.t.flatten ++ numB (ρ.i 57).toNat ++ numB (ρ.i 58).toNat ++ numB (ρ.i 59).toNat ++ numB (ρ.i 60).toNat ++ numB (ρ.i 61).toNat).length : Int) := by rw [g30.i 311 (by omega), g30.i 322 (by omega), g30.i 328 (by omega), g30.i 334 (by omega), g30.i 340 (by omega), g30.i 346 (by omega), L28, N29, List.length_append (bs := numB (ρ.i 61).toNat)]; first | (rw [segI_len]; omega) | (show _ = ((_ + 1 : Nat) : Int); omega) | omega
    rw [G30.i 62 (by omega)]
    refine rnStep r62 fun q31 g31 N31 X31 Y31 h31 => ?_
    have G31 : Agree 131 ρ q31 := G30.trans (g31.mono (by omega))
    have N31 : q31.i 352 = ((numB (ρ.i 62).toNat).length : Int) := N31
    have h31 : OwB (q31.h 350) _ (.slice (slP (q31.i 350) (q31.i 351)) (((numB (ρ.i 62).toNat).length : Int)).toNat (q31.i 353).toNat) (numB (ρ.i 62).toNat) := h31
    have b31 : (numB (ρ.i 62).toNat).length ≤ 10 := lenB (z := (ρ.i 62).toNat) (by omega)
    rw [← g31.h 348 (by omega), ← g31.i 348 (by omega), ← g31.i 349 (by omega)] at h30
    rw [← g31.i 311 (by omega), ← g31.i 322 (by omega), ← g31.i 328 (by omega), ← g31.i 334 (by omega), ← g31.i 340 (by omega), ← g31.i 346 (by omega)] at L30
    rw [L30, N31]
    refine appSeg h30 X31 Y31 (owRd h31 rfl) (by omega) (by omega) fun q32 g32 A32 C32 h32 => ?_
    have G32 : Agree 131 ρ q32 := G31.trans (g32.mono (by omega))
    have h32 : OwB (q32.h 354) _ (.slice (slP (q32.i 354) 0) (((coreA (hrow ρ 0) h.t.length ++ h.t.flatten ++ numB (ρ.i 57).toNat ++ numB (ρ.i 58).toNat ++ numB (ρ.i 59).toNat ++ numB (ρ.i 60).toNat ++ numB (ρ.i 61).toNat ++ numB (ρ.i 62).toNat).length : Int)).toNat (q32.i 355).toNat) (coreA (hrow ρ 0) h.t.length ++ h.t.flatten ++ numB (ρ.i 57).toNat ++ numB (ρ.i 58).toNat ++ numB (ρ.i 59).toNat ++ numB (ρ.i 60).toNat ++ numB (ρ.i 61).toNat ++ numB (ρ.i 62).toNat) := h32
    have b32x : (coreA (hrow ρ 0) h.t.length ++ h.t.flatten ++ numB (ρ.i 57).toNat ++ numB (ρ.i 58).toNat ++ numB (ρ.i 59).toNat ++ numB (ρ.i 60).toNat ++ numB (ρ.i 61).toNat ++ numB (ρ.i 62).toNat).length ≤ 287 := by rw [List.length_append]; exact Nat.add_le_add b30x b31
    have L32 : q32.i 311 + q32.i 322 + q32.i 328 + q32.i 334 + q32.i 340 + q32.i 346 + q32.i 352 = ((coreA (hrow ρ 0) h.t.length ++ h.t.flatten ++ numB (ρ.i 57).toNat ++ numB (ρ.i 58).toNat ++ numB (ρ.i 59).toNat ++ numB (ρ.i 60).toNat ++ numB (ρ.i 61).toNat ++ numB (ρ.i 62).toNat).length : Int) := by rw [g32.i 311 (by omega), g32.i 322 (by omega), g32.i 328 (by omega), g32.i 334 (by omega), g32.i 340 (by omega), g32.i 346 (by omega), g32.i 352 (by omega), L30, N31, List.length_append (bs := numB (ρ.i 62).toNat)]; first | (rw [segI_len]; omega) | (show _ = ((_ + 1 : Nat) : Int); omega) | omega
    rw [L32]
    refine appCvs (b2 := segI (hrow ρ 0) 60 32) h32 (by rw [← hrow_ag (G32.mono (by omega))]; exact cv_sum q32) (segI_len _ _ _).symm (by omega) (by rw [segI_len]; omega) fun q33 g33 A33 C33 h33 => ?_
    have G33 : Agree 131 ρ q33 := G32.trans (g33.mono (by omega))
    have h33 : OwB (q33.h 356) _ (.slice (slP (q33.i 356) 0) (((coreA (hrow ρ 0) h.t.length ++ h.t.flatten ++ numB (ρ.i 57).toNat ++ numB (ρ.i 58).toNat ++ numB (ρ.i 59).toNat ++ numB (ρ.i 60).toNat ++ numB (ρ.i 61).toNat ++ numB (ρ.i 62).toNat ++ segI (hrow ρ 0) 60 32).length : Int)).toNat (q33.i 357).toNat) (coreA (hrow ρ 0) h.t.length ++ h.t.flatten ++ numB (ρ.i 57).toNat ++ numB (ρ.i 58).toNat ++ numB (ρ.i 59).toNat ++ numB (ρ.i 60).toNat ++ numB (ρ.i 61).toNat ++ numB (ρ.i 62).toNat ++ segI (hrow ρ 0) 60 32) := h33
    have b33x : (coreA (hrow ρ 0) h.t.length ++ h.t.flatten ++ numB (ρ.i 57).toNat ++ numB (ρ.i 58).toNat ++ numB (ρ.i 59).toNat ++ numB (ρ.i 60).toNat ++ numB (ρ.i 61).toNat ++ numB (ρ.i 62).toNat ++ segI (hrow ρ 0) 60 32).length ≤ 319 := by rw [List.length_append]; exact Nat.add_le_add b32x (Nat.le_of_eq (segI_len _ _ _))
    have L33 : q33.i 311 + q33.i 322 + q33.i 328 + q33.i 334 + q33.i 340 + q33.i 346 + q33.i 352 + 32 = ((coreA (hrow ρ 0) h.t.length ++ h.t.flatten ++ numB (ρ.i 57).toNat ++ numB (ρ.i 58).toNat ++ numB (ρ.i 59).toNat ++ numB (ρ.i 60).toNat ++ numB (ρ.i 61).toNat ++ numB (ρ.i 62).toNat ++ segI (hrow ρ 0) 60 32).length : Int) := by rw [g33.i 311 (by omega), g33.i 322 (by omega), g33.i 328 (by omega), g33.i 334 (by omega), g33.i 340 (by omega), g33.i 346 (by omega), g33.i 352 (by omega), L32, List.length_append (bs := segI (hrow ρ 0) 60 32)]; first | (rw [segI_len]; omega) | (show _ = ((_ + 1 : Nat) : Int); omega) | omega
    rw [G33.i 95 (by omega)]
    refine rnStep (u64_in _) fun q34 g34 N34 X34 Y34 h34 => ?_
    have G34 : Agree 131 ρ q34 := G33.trans (g34.mono (by omega))
    have N34 : q34.i 360 = ((numB (u64N (ρ.i 95))).length : Int) := N34
    have h34 : OwB (q34.h 358) _ (.slice (slP (q34.i 358) (q34.i 359)) (((numB (u64N (ρ.i 95))).length : Int)).toNat (q34.i 361).toNat) (numB (u64N (ρ.i 95))) := h34
    have b34 : (numB (u64N (ρ.i 95))).length ≤ 10 := lenB (u64N_lt (ρ.i 95))
    rw [← g34.h 356 (by omega), ← g34.i 356 (by omega), ← g34.i 357 (by omega)] at h33
    rw [← g34.i 311 (by omega), ← g34.i 322 (by omega), ← g34.i 328 (by omega), ← g34.i 334 (by omega), ← g34.i 340 (by omega), ← g34.i 346 (by omega), ← g34.i 352 (by omega)] at L33
    rw [L33, N34]
    refine appSeg h33 X34 Y34 (owRd h34 rfl) (by omega) (by omega) fun q35 g35 A35 C35 h35 => ?_
    have G35 : Agree 131 ρ q35 := G34.trans (g35.mono (by omega))
    have h35 : OwB (q35.h 362) _ (.slice (slP (q35.i 362) 0) (((coreA (hrow ρ 0) h.t.length ++ h.t.flatten ++ numB (ρ.i 57).toNat ++ numB (ρ.i 58).toNat ++ numB (ρ.i 59).toNat ++ numB (ρ.i 60).toNat ++ numB (ρ.i 61).toNat ++ numB (ρ.i 62).toNat ++ segI (hrow ρ 0) 60 32 ++ numB (u64N (ρ.i 95))).length : Int)).toNat (q35.i 363).toNat) (coreA (hrow ρ 0) h.t.length ++ h.t.flatten ++ numB (ρ.i 57).toNat ++ numB (ρ.i 58).toNat ++ numB (ρ.i 59).toNat ++ numB (ρ.i 60).toNat ++ numB (ρ.i 61).toNat ++ numB (ρ.i 62).toNat ++ segI (hrow ρ 0) 60 32 ++ numB (u64N (ρ.i 95))) := h35
    have b35x : (coreA (hrow ρ 0) h.t.length ++ h.t.flatten ++ numB (ρ.i 57).toNat ++ numB (ρ.i 58).toNat ++ numB (ρ.i 59).toNat ++ numB (ρ.i 60).toNat ++ numB (ρ.i 61).toNat ++ numB (ρ.i 62).toNat ++ segI (hrow ρ 0) 60 32 ++ numB (u64N (ρ.i 95))).length ≤ 329 := by rw [List.length_append]; exact Nat.add_le_add b33x b34
    have L35 : q35.i 311 + q35.i 322 + q35.i 328 + q35.i 334 + q35.i 340 + q35.i 346 + q35.i 352 + 32 + q35.i 360 = ((coreA (hrow ρ 0) h.t.length ++ h.t.flatten ++ numB (ρ.i 57).toNat ++ numB (ρ.i 58).toNat ++ numB (ρ.i 59).toNat ++ numB (ρ.i 60).toNat ++ numB (ρ.i 61).toNat ++ numB (ρ.i 62).toNat ++ segI (hrow ρ 0) 60 32 ++ numB (u64N (ρ.i 95))).length : Int) := by rw [g35.i 311 (by omega), g35.i 322 (by omega), g35.i 328 (by omega), g35.i 334 (by omega), g35.i 340 (by omega), g35.i 346 (by omega), g35.i 352 (by omega), g35.i 360 (by omega), L33, N34, List.length_append (bs := numB (u64N (ρ.i 95)))]; first | (rw [segI_len]; omega) | (show _ = ((_ + 1 : Nat) : Int); omega) | omega
    refine fun _ => ⟨[], [2], rfl, rfl, ⟨⟨fun k => [q35.i 362, 0, q35.i 311 + q35.i 322 + q35.i 328 + q35.i 334 + q35.i 340 + q35.i 346 + q35.i 352 + 32 + q35.i 360, q35.i 363].getD k 0, fun _ => false, fun _ => .empty, fun _ => .tuple #[], fun _ => Hl.none⟩, rfl, ⟨A35, Int.le_refl _, by show 0 ≤ q35.i 311 + q35.i 322 + q35.i 328 + q35.i 334 + q35.i 340 + q35.i 346 + q35.i 352 + 32 + q35.i 360; omega, C35⟩, trivial⟩, _, R, h, rfl, rfl, hx, ?_⟩
    show OwB (hls [q35.h 362]) _ (.slice (slP (q35.i 362) 0) (q35.i 311 + q35.i 322 + q35.i 328 + q35.i 334 + q35.i 340 + q35.i 346 + q35.i 352 + 32 + q35.i 360).toNat (q35.i 363).toNat) _
    rw [hls_one, L35, core_row hx]; exact h35
end Go.Proofs.Ytkdllpialpfopaa
