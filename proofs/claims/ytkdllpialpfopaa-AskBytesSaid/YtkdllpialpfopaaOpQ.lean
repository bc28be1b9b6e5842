/- How headers, pieces and requests that are given read. -/
import Derived.Test.YtkdllpialpfopaaAqC
import Derived.Test.YtkdllpialpfopaaAqS
import Derived.Test.YtkdllpialpfopaaOpW
import Derived.Test.YtkdllpialpfopaaOpU
import Derived.ProofKit
import Derived.OpenShut
import Derived.Deep.Slices
import Derived.ChangeSame
set_option linter.unusedSimpArgs false
set_option linter.unusedVariables false
set_option linter.constructorNameAsVariable false
namespace Go.Proofs.Ytkdllpialpfopaa.opQ
open Go Go.Sx Go.ChangeShapes Go.WideShapes Go.ChangeAt Go.RowKit Go.Deep

def kh : List Ex.Kt := [.int .i64, .int .u64] ++ List.replicate 32 (.int .u8) ++ [.int .i64, .bool, .int .u64] ++ List.replicate 16 (.int .u8) ++ [.other 27] ++ List.replicate 6 (.int .u64) ++ List.replicate 32 (.int .u8) ++ [.int .i64] ++ List.replicate 32 (.int .u8)
def kp : List Ex.Kt := kh ++ [.other 31]
def kq : List Ex.Kt := [.int .u64, .int .i64] ++ kp ++ List.replicate 6 (.int .u64) ++ [.bool, .other 27] ++ [.int .i64, .int .i64, .int .u64]
theorem kp_eq : Ex.kindsT2 Try.prog 6 33 = some kp := by kernel_rfl
theorem kq_eq : Ex.kindsT2 Try.prog 6 38 = some kq := by kernel_rfl
section
variable {H : Type} {enc : TypeId × Value → H} {W : World} {base b0 : Nat} {spare : Nat → Bool} {held : Bool} {r : Reach}
theorem tok16 : ∀ {n : Nat} {row : List Value}, okCs row (List.replicate n (Kd.int .u8)) → ∃ t : List Int, row = bys t ∧ t.length = n ∧ ∀ b ∈ t, 0 ≤ b ∧ b < 256
  | 0, [], _ => ⟨[], rfl, rfl, fun _ h => nomatch h⟩
  | n + 1, v :: row, h => by
    obtain ⟨t, e, hl, hb⟩ := tok16 (n := n) h.2
    obtain ⟨z, rfl, hw⟩ := h.1
    refine ⟨z :: t, by rw [e]; rfl, by rw [List.length_cons, hl], fun b hbm => ?_⟩
    rcases List.mem_cons.1 hbm with rfl | hbm
    · exact u8_wf hw
    · exact hb b hbm
theorem toks_of : ∀ {rows : List (List Value)}, (∀ row ∈ rows, okCs row tkd) → ∃ T : List (List Int), rows = T.map bys ∧ ∀ t ∈ T, t.length = 16 ∧ ∀ b ∈ t, 0 ≤ b ∧ b < 256
  | [], _ => ⟨[], rfl, fun _ h => nomatch h⟩
  | row :: rows, h => by
    obtain ⟨T, e, hT⟩ := toks_of (rows := rows) fun r hr => h r (List.mem_cons_of_mem _ hr)
    obtain ⟨t, e2, hl, hb⟩ := tok16 (n := 16) (h row (List.mem_cons_self ..))
    refine ⟨t :: T, by rw [e, e2]; rfl, fun x hx => ?_⟩
    rcases List.mem_cons.1 hx with rfl | hx
    · exact ⟨hl, hb⟩
    · exact hT x hx
/-- Tokens that are given. -/
theorem tokens_of {v : Value} (ho : Ex.trodΦ enc Try.prog W base spare held v 27) : ∃ (T : List (List Int)) (a : Option Addr) (c : Nat), v = .slice a T.length c ∧ RdRows (Hl.all W) v tkd (T.map bys) ∧ ∀ t ∈ T, t.length = 16 ∧ bytes256 t := by
  obtain ⟨a, l, c, rfl⟩ := Ex.trodΦ_sl v _ ho
  obtain ⟨_, m, x, hx⟩ := ho
  obtain ⟨rows, hR, hrows⟩ := rdRows_of Try.underlying27 (ks := tkd) (dp := 3) (by kernel_rfl) (by kernel_rfl) (by decide) ⟨a, l, c, rfl⟩ (d := x.1) (p := x.2) ⟨m, hx⟩
  obtain ⟨T, e, hT⟩ := toks_of hrows
  subst e
  have hl : l = (T.map bys).length := by
    obtain ⟨ax, ay, ac, ae, _⟩ := id hR
    simp only [Value.slice.injEq] at ae
    exact ae.2.1
  rw [List.length_map] at hl
  subst hl
  exact ⟨T, a, c, rfl, hR, hT⟩
/-- Bytes that are given. -/
theorem body_of {v : Value} (ho : Ex.trodΦ enc Try.prog W base spare held v 31) : ∃ (b : List Int) (a : Option Addr) (c : Nat), v = .slice a b.length c ∧ RdW (Hl.all W) v b ∧ bytes256 b := by
  obtain ⟨a, l, c, rfl⟩ := Ex.trodΦ_sl v _ ho
  obtain ⟨_, m, x, hx⟩ := ho
  obtain ⟨b, hR, hb⟩ := bytes_of Try.underlying31 (dp := 1) (by kernel_rfl) (by kernel_rfl) ⟨a, l, c, rfl⟩ (d := x.1) (p := x.2) ⟨m, hx⟩
  have hl : l = b.length := by
    obtain ⟨ax, ay, ac, ae, _⟩ := id hR
    simp only [Value.slice.injEq] at ae
    exact ae.2.1
  subst hl
  exact ⟨b, a, c, rfl, hR, hb⟩
theorem rng_of {Φ : Value → TypeId → Prop} (hΦ : Ex.SlOK Φ) : ∀ {row : List Value} {ks : List Ex.Kt}, Ex.okKs Φ row ks → ∀ v ∈ row, rngV v
  | [], [], _, _, h => nomatch h
  | x :: row, k :: ks, h, v, hv => by
    rcases List.mem_cons.1 hv with rfl | hv
    · have h1 := h.1
      cases k with
      | int k =>
        obtain ⟨n, rfl, hw⟩ := h1
        cases k with
        | u8 => exact u8_wf hw
        | u64 => exact u64_wf hw
        | i64 => exact i64_wf hw
        | _ => trivial
      | bool => obtain ⟨b, rfl⟩ := h1; trivial
      | other t => obtain ⟨a, l, c, rfl⟩ := hΦ _ t h1; trivial
    · exact rng_of hΦ h.2 v hv
  | [], _ :: _, h, _, _ => h.elim
  | _ :: _, [], h, _, _ => h.elim
theorem okKs_drop {Φ : Value → TypeId → Prop} : ∀ {n : Nat} {l : List Value} {ks : List Ex.Kt}, Ex.okKs Φ l ks → Ex.okKs Φ (l.drop n) (ks.drop n)
  | 0, _, _, h => h
  | _ + 1, [], [], _ => trivial
  | n + 1, _ :: _, _ :: _, h => okKs_drop (n := n) h.2
  | _ + 1, [], _ :: _, h => h.elim
  | _ + 1, _ :: _, [], h => h.elim
theorem okKs_take {Φ : Value → TypeId → Prop} : ∀ {n : Nat} {l : List Value} {ks : List Ex.Kt}, Ex.okKs Φ l ks → Ex.okKs Φ (l.take n) (ks.take n)
  | 0, _, _, _ => trivial
  | _ + 1, [], [], _ => trivial
  | n + 1, _ :: _, _ :: _, h => ⟨h.1, okKs_take (n := n) h.2⟩
  | _ + 1, [], _ :: _, h => h.elim
  | _ + 1, _ :: _, [], h => h.elim
theorem slLen_at {row : List Value} {k n c : Nat} {a : Option Addr} (h : row[k]? = some (.slice a n c)) : slLen row k = n := by unfold slLen; rw [h]
/-- A header's row that is given. -/
theorem hd_of {row : List Value} (ho : Ex.okKs (Ex.trodΦ enc Try.prog W base spare held) row kh) (h20 : slLen row 53 ≤ 20) : ∃ h, IsHd (Hl.all W) row h ∧ h.t.length ≤ 20 := by
  have hok : rowOK row hkd := by
    have := rowOK_kt Ex.trodΦ_sl ho
    rwa [show kh.map ktKd = hkd by kernel_rfl] at this
  obtain ⟨v, hv, ho53⟩ := Ex.okKs_get ho 53 (.other 27) rfl
  obtain ⟨T, a, c, rfl, hR, hT⟩ := tokens_of ho53
  rw [slLen_at hv] at h20
  refine ⟨⟨row.set 53 noV, T⟩, ⟨hok, rng_of Ex.trodΦ_sl ho, rfl, ?_, by show T.length ≤ _; omega, hT⟩, h20⟩
  rw [List.getD_eq_getElem?_getD, hv]
  exact hR
/-- A piece's row that is given. -/
theorem pc_of {row : List Value} (ho : Ex.okKs (Ex.trodΦ enc Try.prog W base spare held) row kp) (h20 : slLen row 53 ≤ 20) (h21 : slLen row 125 ≤ 2100) : ∃ c, IsPc (Hl.all W) (Hl.all W) row c ∧ c.h.t.length ≤ 20 ∧ c.b.length ≤ 2100 := by
  have hok : rowOK row pkd := by
    have := rowOK_kt Ex.trodΦ_sl ho
    rwa [show kp.map ktKd = pkd by kernel_rfl] at this
  have h1 : Ex.okKs (Ex.trodΦ enc Try.prog W base spare held) (row.take 125) kh := by
    have := okKs_take (n := 125) ho
    rwa [show kp.take 125 = kh by kernel_rfl] at this
  have e53 : slLen (row.take 125) 53 = slLen row 53 := by unfold slLen; rw [List.getElem?_take_of_lt (by omega)]
  obtain ⟨h, hx, hh⟩ := hd_of h1 (by rw [e53]; exact h20)
  obtain ⟨v, hv, ho125⟩ := Ex.okKs_get ho 125 (.other 31) rfl
  obtain ⟨b, a, c, rfl, hR, hb⟩ := body_of ho125
  rw [slLen_at hv] at h21
  refine ⟨⟨h, b⟩, ⟨hok, hx, ?_, hb, by show b.length ≤ _; omega⟩, hh, h21⟩
  rw [List.getD_eq_getElem?_getD, hv]
  exact hR
/-- A request's row that is given. -/
theorem rq_of {row : List Value} (ho : Ex.okKs (Ex.trodΦ enc Try.prog W base spare held) row kq) : rowOK row qkd ∧ (slLen row 55 ≤ 20 → slLen row 127 ≤ 2100 → slLen row 135 ≤ 20 → ∃ r, IsRq (Hl.all W) (Hl.all W) (Hl.all W) row r) := by
  have hok : rowOK row qkd := by
    have := rowOK_kt Ex.trodΦ_sl ho
    rwa [show kq.map ktKd = qkd by kernel_rfl] at this
  refine ⟨hok, fun h55 h127 h135 => ?_⟩
  have h1 : Ex.okKs (Ex.trodΦ enc Try.prog W base spare held) ((row.drop 2).take 125) kh := by
    have := okKs_take (n := 125) (okKs_drop (n := 2) ho)
    rwa [show (kq.drop 2).take 125 = kh by kernel_rfl] at this
  have e53 : slLen ((row.drop 2).take 125) 53 = slLen row 55 := by unfold slLen; rw [List.getElem?_take_of_lt (by omega), List.getElem?_drop]
  obtain ⟨h, hx, hh⟩ := hd_of h1 (by rw [e53]; exact h55)
  obtain ⟨v, hv, ho127⟩ := Ex.okKs_get ho 127 (.other 31) rfl
  obtain ⟨b, a, c, rfl, hR, hb⟩ := body_of ho127
  rw [slLen_at hv] at h127
  obtain ⟨v2, hv2, ho135⟩ := Ex.okKs_get ho 135 (.other 27) rfl
  obtain ⟨T, a2, c2, rfl, hR2, hT⟩ := tokens_of ho135
  rw [slLen_at hv2] at h135
  refine ⟨⟨((row.set 55 noV).set 127 noV).set 135 noV, h, b, T⟩, hok, rng_of Ex.trodΦ_sl ho, rfl, hx, ?_, hb, by show b.length ≤ _; omega, ?_, by show T.length ≤ _; omega, hT⟩
  · rw [List.getD_eq_getElem?_getD, hv]; exact hR
  · rw [List.getD_eq_getElem?_getD, hv2]; exact hR2
end
end Go.Proofs.Ytkdllpialpfopaa.opQ
