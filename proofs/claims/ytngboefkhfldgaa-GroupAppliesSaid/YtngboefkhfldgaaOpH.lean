/- Headers that are given: their tokens are bytes, so that they may be told whether they are formed. -/
import Derived.Test.YtngboefkhfldgaaOpT
import Derived.Test.YtngboefkhfldgaaForm3
set_option linter.unusedSimpArgs false
set_option linter.unusedVariables false
set_option linter.constructorNameAsVariable false
namespace Go.Proofs.Ytngboefkhfldgaa.opH
open Go Go.Ex Go.ChangeShapes Go.WideShapes Go.ChangeAt Go.RowKit Go.Flow

def kh : List Kt := [.int .i64, .int .u64] ++ List.replicate 32 (.int .u8) ++ [.int .i64, .bool, .int .u64] ++ List.replicate 16 (.int .u8) ++ [.other 44] ++ List.replicate 6 (.int .u64) ++ List.replicate 32 (.int .u8) ++ [.int .i64] ++ List.replicate 32 (.int .u8)
theorem kh_eq : kindsT2 Try.prog 6 46 = some kh := by kernel_rfl
theorem ktok : kindsT Try.prog 6 43 = some tk := by kernel_rfl
theorem kh_ck : kh.map Kt.ck = hk := by kernel_rfl
theorem u8_wf {n : Int} (h : (Lit.int .u8 n).wf = true) : 0 ≤ n ∧ n < 256 := Sx.u8_wf h
theorem i64_wf {n : Int} (h : (Lit.int .i64 n).wf = true) : -9223372036854775808 ≤ n ∧ n < 9223372036854775808 := Sx.i64_wf h
theorem slots_at {p : Pt} (h : Slots p 0 hk) : 0 ≤ p.i 54 ∧ 0 ≤ p.i 55 ∧ 0 ≤ p.i 56 := h.1
section
variable {H : Type} {enc : TypeId × Value → H} {W : World} {base b0 : Nat} {spare : Nat → Bool} {held : Bool} {r : Reach}
theorem int_at {Φ : Value → TypeId → Prop} {cs : List Value} {ks : List Kt} (h : okKs Φ cs ks) {j : Nat} {k k' : IntKind} {n : Int} (hk : ks[j]? = some (.int k)) (hc : cs[j]? = some (.int k' n)) : (Lit.int k n).wf = true := by
  obtain ⟨v, hv, x, rfl, hw⟩ := okKs_get h j _ hk
  rw [hc] at hv
  cases hv
  exact hw
theorem tok_of {p : Pt} (h20 : p.i 55 ≤ 20) (hs : 0 ≤ p.i 54 ∧ 0 ≤ p.i 55 ∧ 0 ≤ p.i 56) (ho : trodΦ enc Try.prog W base spare held (.slice (slP (p.i 53) (p.i 54)) (p.i 55).toNat (p.i 56).toNat) 44) : TokN (tp p W) W := by
  obtain ⟨_, m, x, hx⟩ := ho
  have e0 : (tp p W).i 0 = p.i 53 := rfl
  have e1 : (tp p W).i 1 = p.i 54 := rfl
  have e2 : (tp p W).i 2 = p.i 55 := rfl
  rcases open_rows Try.underlying44 ktok (by kernel_rfl) hx with h | ⟨a, len, cap, hcs, hl, hc, hat⟩
  · simp only [List.cons.injEq, Value.slice.injEq, and_true] at h
    have h0 : p.i 55 = 0 := by omega
    exact ⟨by rw [e1]; exact hs.1, by rw [e2]; omega, fun h => by rw [e2] at h; omega, fun i h0 h1 => by rw [e2] at h1; omega⟩
  · simp only [List.cons.injEq, Value.slice.injEq, and_true] at hcs
    obtain ⟨ha, hlen, hcap⟩ := hcs
    have blk : 0 < p.i 55 → 0 ≤ p.i 53 := fun hp => by
      obtain ⟨v0, hv0, _⟩ := hat 0 (by omega) 0 (.int .u8) rfl
      have hsp : a.spot = none := by
        have := World.cell?_spot hv0
        simpa [Addr.add] using this
      rcases Int.lt_or_le (p.i 53) 0 with h | h
      · exfalso
        unfold slP at ha
        rw [if_neg (by omega)] at ha
        split at ha
        · cases ha
        · simp only [Option.some.injEq] at ha
          rw [← ha] at hsp
          cases hsp
      · exact h
    refine ⟨by rw [e1]; exact hs.1, by rw [e2]; omega, fun h => by rw [e2] at h; rw [e0]; exact blk h, fun i h0 h1 j hj => ?_⟩
    rw [e2] at h1
    rw [e0, e1]
    have hb := blk (by omega)
    rw [slP_pos hb] at ha
    simp only [Option.some.injEq] at ha
    obtain ⟨q, rfl⟩ := Int.eq_ofNat_of_zero_le h0
    have hk : tk[j]? = some (.int .u8) := by
      have : tk = List.replicate 16 (.int .u8) := rfl
      rw [this, List.getElem?_replicate, if_pos hj]
    obtain ⟨v, hv, n, rfl, hw⟩ := hat q (by omega) j (.int .u8) hk
    have e : romCell W (p.i 53) (p.i 54 + (q : Int) * 16) j = some (.int .u8 n) := by
      rw [← hv, ← ha, addr_add]
      unfold romCell
      have l16 : tk.length = 16 := rfl
      rw [l16]
      congr 2
      omega
    rw [e]
    exact ⟨by simp [valIs], u8_wf hw⟩
/-- A header's row that is given, and tells few tokens. -/
theorem hdr_of {row : List Value} (ho : okKs (trodΦ enc Try.prog W base spare held) row kh) : ∃ p : Pt, [Value.agg row.toArray] = swVals p 0 [.agg hk] ∧ row[53]? = some (.slice (slP (p.i 53) (p.i 54)) (p.i 55).toNat (p.i 56).toNat) ∧ 0 ≤ p.i 55 ∧ (p.i 55 ≤ 20 → FormN p W) := by
  obtain ⟨p, _, e1, sl⟩ := pt_of trodΦ_sl kh row 0 ho ⟨fun _ => 0, fun _ => false⟩
  rw [kh_ck] at e1 sl
  have hs := slots_at sl
  have h53 : row[53]? = some (.slice (slP (p.i 53) (p.i 54)) (p.i 55).toNat (p.i 56).toNat) := by rw [← e1]; rfl
  have h92 : row[92]? = some (.int .i64 (p.i 95)) := by rw [← e1]; rfl
  refine ⟨p, by rw [← e1]; rfl, h53, hs.2.1, fun h20 => ⟨tok_of (enc := enc) (base := base) (spare := spare) (held := held) h20 hs ?_, i64_wf (int_at ho (j := 92) rfl h92)⟩⟩
  obtain ⟨v, hv, ho'⟩ := okKs_get ho 53 (.other 44) rfl
  rw [h53] at hv
  cases hv
  exact ho'
end
end Go.Proofs.Ytngboefkhfldgaa.opH
