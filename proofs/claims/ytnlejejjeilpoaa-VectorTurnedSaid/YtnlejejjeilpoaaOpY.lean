/- How vectors and headers that are given read. -/
import Derived.Test.YtnlejejjeilpoaaVfH
import Derived.Test.YtnlejejjeilpoaaOpW
import Derived.Test.YtnlejejjeilpoaaOpU
import Derived.Test.YtnlejejjeilpoaaRead
import Derived.ProofKit
import Derived.OpenShut
import Derived.Deep.Slices
import Derived.ChangeSame
set_option linter.unusedSimpArgs false
set_option linter.unusedVariables false
set_option linter.constructorNameAsVariable false
namespace Go.Proofs.Ytnlejejjeilpoaa.opY
open Go Go.Sx Go.ChangeShapes Go.WideShapes Go.ChangeAt Go.RowKit Go.Deep Go.Proofs.Ytnlejejjeilpoaa.V2

def kh : List Ex.Kt := [.int .i64, .int .u64] ++ List.replicate 32 (.int .u8) ++ [.int .i64, .bool, .int .u64] ++ List.replicate 16 (.int .u8) ++ [.other 35] ++ List.replicate 6 (.int .u64) ++ List.replicate 32 (.int .u8) ++ [.int .i64] ++ List.replicate 32 (.int .u8)
theorem kh_eq : Ex.kindsT2 Try.prog 6 37 = some kh := by kernel_rfl
section
variable {H : Type} {enc : TypeId × Value → H} {W : World} {base b0 : Nat} {spare : Nat → Bool} {held : Bool} {r : Reach}
theorem tok16 : ∀ {n : Nat} {row : List Value}, okCs row (List.replicate n (Kd.int .u8)) → ∃ t : List Int, row = bys t ∧ t.length = n ∧ ∀ b ∈ t, 0 ≤ b ∧ b < 256
  | 0, [], _ => ⟨[], rfl, rfl, fun _ h => nomatch h⟩
  | n + 1, v :: row, h => by
    obtain ⟨t, e, hl, hb⟩ := tok16 (n := n) h.2
    obtain ⟨z, rfl, hw⟩ := h.1
    refine ⟨z :: t, by rw [e]; rfl, by rw [List.length_cons, hl], fun b hbm => ?_⟩
    rcases List.mem_cons.1 hbm with rfl | hbm
    · exact u8_wf hw
    · exact hb b hbm
theorem toks_of : ∀ {rows : List (List Value)}, (∀ row ∈ rows, okCs row tkd) → ∃ T : List (List Int), rows = T.map bys ∧ ∀ t ∈ T, t.length = 16 ∧ ∀ b ∈ t, 0 ≤ b ∧ b < 256
  | [], _ => ⟨[], rfl, fun _ h => nomatch h⟩
  | row :: rows, h => by
    obtain ⟨T, e, hT⟩ := toks_of (rows := rows) fun r hr => h r (List.mem_cons_of_mem _ hr)
    obtain ⟨t, e2, hl, hb⟩ := tok16 (n := 16) (h row (List.mem_cons_self ..))
    refine ⟨t :: T, by rw [e, e2]; rfl, fun x hx => ?_⟩
    rcases List.mem_cons.1 hx with rfl | hx
    · exact ⟨hl, hb⟩
    · exact hT x hx
/-- A header's row that is given. -/
theorem given_of {row : List Value} (ho : Ex.okKs (Ex.trodΦ enc Try.prog W base spare held) row kh) : Given (Hl.all W) row := by
  intro h20
  have hok : rowOK row hkd := by
    have := rowOK_kt Ex.trodΦ_sl ho
    rw [show kh.map ktKd = hkd by kernel_rfl] at this
    exact this
  obtain ⟨v, hv, ho53⟩ := Ex.okKs_get ho 53 (.other 35) rfl
  have ho53 : Ex.trodΦ enc Try.prog W base spare held v 35 := ho53
  obtain ⟨a, l, c, rfl⟩ := Ex.trodΦ_sl v _ ho53
  obtain ⟨_, m, x, hx⟩ := ho53
  obtain ⟨rows, hR, hrows⟩ := rdRows_of Try.underlying35 (ks := tkd) (dp := 3) (by kernel_rfl) (by kernel_rfl) (by decide) ⟨a, l, c, rfl⟩ (d := x.1) (p := x.2) ⟨m, hx⟩
  obtain ⟨T, e, hT⟩ := toks_of hrows
  subst e
  have hl : l = (T.map bys).length := by
    obtain ⟨ax, ay, ac, ae, _⟩ := hR
    simp only [Value.slice.injEq] at ae
    exact ae.2.1
  rw [hv, valP_len] at h20
  rw [List.length_map] at hl
  obtain ⟨u, hu, n, rfl, hw⟩ := Ex.okKs_get ho 92 (.int .i64) rfl
  have hw := i64_wf hw
  refine ⟨⟨row.set 53 (.bool false), T⟩, hok, ?_, rfl, ?_, hT, by show T.length ≤ 20; omega⟩
  · unfold cI
    rw [hu]
    show _ ≤ n ∧ n < _
    omega
  · rw [List.getD_eq_getElem?_getD, hv]
    exact hR
theorem vec_of {v : Value} {d : DataW H} {p : List MemPlace} (hv : Value.okWide Try.prog W r b0 24 v) (h : DataW.Trod enc Try.prog W base spare held 24 v d p) : ∃ l, v = vecV l ∧ l.length = 6 := by
  obtain ⟨cs, rfl, _⟩ := Go.Flow.okWide_array Try.underlying24 hv
  obtain ⟨fuel, hf⟩ := h
  obtain ⟨zs, hz, hcs, hw⟩ := Go.Flow.trod_ints Try.underlying24 Try.underlying22 (by kernel_rfl) (by kernel_rfl) hf
  refine ⟨zs, ?_, hz⟩
  obtain ⟨l⟩ := cs
  simp only [Value.cells] at hcs
  subst hcs
  rfl
theorem hdrs_of {v : Value} {d : DataW H} {p : List MemPlace} (hv : Value.okWide Try.prog W r b0 39 v) (h : DataW.Trod enc Try.prog W base spare held 39 v d p) : ∃ rows, RdRows (Hl.all W) v hkd rows ∧ ∀ row ∈ rows, Given (Hl.all W) row := by
  obtain ⟨Hs, hH, okH⟩ := rdRowsT Try.underlying39 (ks := kh) (dp := 6) kh_eq (by kernel_rfl) (of_decide_eq_true (by kernel_rfl)) (okWide_slice Try.underlying39 hv) h
  rw [show kh.map ktKd = hkd by kernel_rfl] at hH
  exact ⟨Hs, hH, fun row hr => given_of (okH row hr)⟩
end
end Go.Proofs.Ytnlejejjeilpoaa.opY
