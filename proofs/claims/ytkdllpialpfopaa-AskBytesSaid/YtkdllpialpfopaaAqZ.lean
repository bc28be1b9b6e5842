/- Layer 22: rows of noughts, by name. -/
import Derived.Test.YtkdllpialpfopaaAqA
set_option linter.unusedSimpArgs false
set_option linter.unusedVariables false
set_option linter.constructorNameAsVariable false
namespace Go.Proofs.Ytkdllpialpfopaa
open Go Go.Sx Go.Pk

theorem zc2 (q : Env) : (q.i 2 = 0 ∧ q.i 3 = 0 ∧ q.i 4 = 0 ∧ q.i 5 = 0 ∧ q.i 6 = 0 ∧ q.i 7 = 0 ∧ q.i 8 = 0 ∧ q.i 9 = 0 ∧ q.i 10 = 0 ∧ q.i 11 = 0 ∧ q.i 12 = 0 ∧ q.i 13 = 0 ∧ q.i 14 = 0 ∧ q.i 15 = 0 ∧ q.i 16 = 0 ∧ q.i 17 = 0 ∧ q.i 18 = 0 ∧ q.i 19 = 0 ∧ q.i 20 = 0 ∧ q.i 21 = 0 ∧ q.i 22 = 0 ∧ q.i 23 = 0 ∧ q.i 24 = 0 ∧ q.i 25 = 0 ∧ q.i 26 = 0 ∧ q.i 27 = 0 ∧ q.i 28 = 0 ∧ q.i 29 = 0 ∧ q.i 30 = 0 ∧ q.i 31 = 0 ∧ q.i 32 = 0 ∧ q.i 33 = 0) ↔ zer q.i 2 32 := Iff.rfl
theorem zc37 (q : Env) : (q.i 37 = 0 ∧ q.i 38 = 0 ∧ q.i 39 = 0 ∧ q.i 40 = 0 ∧ q.i 41 = 0 ∧ q.i 42 = 0 ∧ q.i 43 = 0 ∧ q.i 44 = 0 ∧ q.i 45 = 0 ∧ q.i 46 = 0 ∧ q.i 47 = 0 ∧ q.i 48 = 0 ∧ q.i 49 = 0 ∧ q.i 50 = 0 ∧ q.i 51 = 0 ∧ q.i 52 = 0) ↔ zer q.i 37 16 := Iff.rfl
theorem zc57 (q : Env) : (q.i 57 = 0 ∧ q.i 58 = 0 ∧ q.i 59 = 0 ∧ q.i 60 = 0 ∧ q.i 61 = 0 ∧ q.i 62 = 0) ↔ zer q.i 57 6 := Iff.rfl
theorem zc63 (q : Env) : (q.i 63 = 0 ∧ q.i 64 = 0 ∧ q.i 65 = 0 ∧ q.i 66 = 0 ∧ q.i 67 = 0 ∧ q.i 68 = 0 ∧ q.i 69 = 0 ∧ q.i 70 = 0 ∧ q.i 71 = 0 ∧ q.i 72 = 0 ∧ q.i 73 = 0 ∧ q.i 74 = 0 ∧ q.i 75 = 0 ∧ q.i 76 = 0 ∧ q.i 77 = 0 ∧ q.i 78 = 0 ∧ q.i 79 = 0 ∧ q.i 80 = 0 ∧ q.i 81 = 0 ∧ q.i 82 = 0 ∧ q.i 83 = 0 ∧ q.i 84 = 0 ∧ q.i 85 = 0 ∧ q.i 86 = 0 ∧ q.i 87 = 0 ∧ q.i 88 = 0 ∧ q.i 89 = 0 ∧ q.i 90 = 0 ∧ q.i 91 = 0 ∧ q.i 92 = 0 ∧ q.i 93 = 0 ∧ q.i 94 = 0) ↔ zer q.i 63 32 := Iff.rfl
theorem zc96 (q : Env) : (q.i 96 = 0 ∧ q.i 97 = 0 ∧ q.i 98 = 0 ∧ q.i 99 = 0 ∧ q.i 100 = 0 ∧ q.i 101 = 0 ∧ q.i 102 = 0 ∧ q.i 103 = 0 ∧ q.i 104 = 0 ∧ q.i 105 = 0 ∧ q.i 106 = 0 ∧ q.i 107 = 0 ∧ q.i 108 = 0 ∧ q.i 109 = 0 ∧ q.i 110 = 0 ∧ q.i 111 = 0 ∧ q.i 112 = 0 ∧ q.i 113 = 0 ∧ q.i 114 = 0 ∧ q.i 115 = 0 ∧ q.i 116 = 0 ∧ q.i 117 = 0 ∧ q.i 118 = 0 ∧ q.i 119 = 0 ∧ q.i 120 = 0 ∧ q.i 121 = 0 ∧ q.i 122 = 0 ∧ q.i 123 = 0 ∧ q.i 124 = 0 ∧ q.i 125 = 0 ∧ q.i 126 = 0 ∧ q.i 127 = 0) ↔ zer q.i 96 32 := Iff.rfl
theorem zc134 (q : Env) : (q.i 134 = 0 ∧ q.i 135 = 0 ∧ q.i 136 = 0 ∧ q.i 137 = 0 ∧ q.i 138 = 0 ∧ q.i 139 = 0) ↔ zer q.i 134 6 := Iff.rfl
theorem ag_zer {m : Nat} {ρ ρ' : Env} (g : Agree m ρ ρ') {a n : Nat} (h : a + n ≤ m) : zer ρ'.i a n = zer ρ.i a n := propext (zer_congr fun j hj => g.i (a + j) (by omega))
theorem ag_row {m : Nat} {ρ ρ' : Env} (g : Agree m ρ ρ') {a : Nat} {ks : List Ck} (h : a + ckLen ks ≤ m) : (ckCVs a ks).map (CV.ev ρ') = (ckCVs a ks).map (CV.ev ρ) := List.toArray_inj (Value.agg.inj (ev_ag (n := a) (ks := ks) g h))
theorem ckLen_hk : ckLen hk2 = 128 := by kernel_rfl
def hzC : List CV := [.int .i64 (.lit 0), .int .u64 (.lit 0)] ++ List.replicate 32 (CV.int .u8 (.lit 0)) ++ [.int .i64 (.lit 0), .bool .ff, .int .u64 (.lit 0)] ++ List.replicate 16 (CV.int .u8 (.lit 0)) ++ [.sl (.lit (-1)) (.lit 0) (.lit 0) (.lit 0), .int .u64 (.lit 0), .int .u64 (.lit 0), .int .u64 (.lit 0), .int .u64 (.lit 0), .int .u64 (.lit 0), .int .u64 (.lit 0)] ++ List.replicate 32 (CV.int .u8 (.lit 0)) ++ [.int .i64 (.lit 0)] ++ List.replicate 32 (CV.int .u8 (.lit 0))
theorem hzC_ev (q : Env) : hzC.map (CV.ev q) = zrow := by kernel_rfl
/-- A header of noughts. -/
def hz : Hd := ⟨zrow.set 53 (.bool false), []⟩
theorem zrow_ok : rowOK zrow hkd := by
  have e : zrow = (ckCVs 0 hk2).map (CV.ev ⟨fun k => if k = 53 then -1 else 0, fun _ => false, fun _ => .empty, fun _ => .tuple #[], fun _ => Hl.none⟩) := by kernel_rfl
  rw [e]
  exact row_of hk2 0 (hk_norms ⟨Int.le_refl _, Int.le_refl _, Int.le_refl _, Int.le_refl _⟩)
theorem zrow_mem : ∀ v ∈ zrow, v = .int .i64 0 ∨ v = .int .u64 0 ∨ v = .int .u8 0 ∨ v = .bool false ∨ v = .slice none 0 0 := by
  intro v hv
  simp only [zrow, List.mem_append, List.mem_cons, List.mem_replicate, List.mem_nil_iff, or_false] at hv
  rcases hv with (((((((hv | hv) | hv) | hv) | hv) | hv) | hv) | hv)
  all_goals grind
theorem hz_is (R : Hl) : IsHd R zrow hz := by
  refine ⟨zrow_ok, fun v hv => ?_, rfl, ?_, by unfold hz; exact ⟨by simp, fun t h => by cases h⟩⟩
  · rcases zrow_mem v hv with rfl | rfl | rfl | rfl | rfl <;> simp [rngV, i64in]
  · show RdRows R (zrow.getD 53 (.bool false)) tkd []
    rw [show zrow.getD 53 (.bool false) = .slice none 0 0 by kernel_rfl]
    exact (OwR.nil R 0 tkd).rd
end Go.Proofs.Ytkdllpialpfopaa
