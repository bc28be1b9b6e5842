/- Layer 12: what is parsed reads as a header. Plain facts of rows. -/
import Derived.Test.YtkdllpialpfopaaHdI
set_option linter.unusedSimpArgs false
set_option linter.unusedVariables false
set_option linter.constructorNameAsVariable false
namespace Go.Proofs.Ytkdllpialpfopaa
open Go Go.Sx Go.Pk

theorem rowOK_app : ∀ {a b : List Value} {ka kb : List Kd}, rowOK a ka → rowOK b kb → rowOK (a ++ b) (ka ++ kb)
  | [], _, [], _, _, h => h
  | _ :: _, _, _ :: _, _, h, h' => ⟨h.1, rowOK_app h.2 h'⟩
  | [], _, _ :: _, _, h, _ => False.elim h
  | _ :: _, _, [], _, h, _ => False.elim h
theorem rowOK_bys : ∀ {l : List Int} {n : Nat}, l.length = n → rowOK (bys l) (List.replicate n (.int .u8))
  | [], 0, _ => trivial
  | _ :: l, n + 1, h => ⟨rfl, rowOK_bys (l := l) (by simpa using h)⟩
  | [], _ + 1, h => by simp at h
  | _ :: _, 0, h => by simp at h
theorem hkd_eq : hkd = [.int .i64, .int .u64] ++ List.replicate 32 (.int .u8) ++ [.int .i64, .bool, .int .u64] ++ List.replicate 16 (.int .u8) ++ [.slice] ++ [.int .u64, .int .u64, .int .u64, .int .u64, .int .u64, .int .u64] ++ List.replicate 32 (.int .u8) ++ [.int .i64] ++ List.replicate 32 (.int .u8) := by kernel_rfl
theorem hdRow_ok (b : List Int) {u : Value} (hu : valIs (some u) .slice = true) : rowOK (hdRow b u) hkd := by
  rw [hkd_eq]
  unfold hdRow
  refine rowOK_app (rowOK_app (rowOK_app (rowOK_app (rowOK_app (rowOK_app (rowOK_app (rowOK_app ⟨rfl, rfl, trivial⟩ (rowOK_bys (padN_len _ _))) ⟨rfl, rfl, rfl, trivial⟩) (rowOK_bys (padN_len _ _))) ⟨hu, trivial⟩) ⟨rfl, rfl, rfl, rfl, rfl, rfl, trivial⟩) (rowOK_bys (padN_len _ _))) ⟨rfl, trivial⟩) (rowOK_bys (padN_len _ _))
theorem rng_bys {l : List Int} (h : bytes256 l) : ∀ v ∈ bys l, rngV v := by
  intro v hv
  obtain ⟨z, hz, rfl⟩ := List.mem_map.1 hv
  exact h z hz
theorem hdRow_rng {b : List Int} (hb : bytes256 b) {u : Value} (hu : rngV u) : ∀ v ∈ hdRow b u, rngV v := by
  have b0 : bytes256 (p0 b).l := hb
  have b1 : bytes256 (p1 b).l := num256 b0
  have b2 : bytes256 (p2 b).l := num256 b1
  have b3 : bytes256 (p3 b).l := raw256 b2
  have b4 : bytes256 (p4 b).l := num256 b3
  have b5 : bytes256 (p5 b).l := flag256 b4
  have b6 : bytes256 (p6 b).l := num256 b5
  have b7 : bytes256 (p7 b).l := raw256 b6
  have b8 : bytes256 (p8 b).l := num256 b7
  have d0 : bytes256 (k0 b).l := (toks256 _ _ b8).2
  have d6 : bytes256 (k6 b).l := num256 (num256 (num256 (num256 (num256 (num256 d0)))))
  have b16 : bytes256 (p16 b).l := num256 (raw256 d6)
  have U : ∀ {m : Int} {s : PS}, 0 ≤ m → m ≤ 1099511627776 → rngV (.int .u64 (vNum m s)) := fun {m s} h0 h1 => by
    have := vNum_in (s := s) h0
    exact ⟨this.1, by omega⟩
  have I : ∀ {m : Int} {s : PS}, 0 ≤ m → m ≤ 1099511627776 → rngV (.int .i64 (vNum m s)) := fun {m s} h0 h1 => by
    have := vNum_in (s := s) h0
    exact ⟨by omega, by omega⟩
  have y1 := rng_bys (pad256 (n := 32) (vRaw256 (n := 32) b2))
  have y2 := rng_bys (pad256 (n := 16) (vRaw256 (n := 16) b6))
  have y3 := rng_bys (pad256 (n := 32) (vRaw256 (n := 32) d6))
  have y4 := rng_bys (pad256 (n := 32) (vRaw256 (n := 32) b16))
  intro v hv
  unfold hdRow at hv
  simp only [List.mem_append, List.mem_cons, List.mem_nil_iff, or_false] at hv
  rcases hv with (((((((hv | hv) | hv) | hv) | hv) | hv) | hv) | hv) | hv
  · rcases hv with rfl | rfl
    · exact I (by omega) (by omega)
    · exact U (by omega) (by omega)
  · exact y1 v hv
  · rcases hv with rfl | rfl | rfl
    · exact I (by omega) (by omega)
    · trivial
    · exact U (by omega) (by omega)
  · exact y2 v hv
  · subst hv; exact hu
  · rcases hv with rfl | rfl | rfl | rfl | rfl | rfl <;> exact U (by omega) (by omega)
  · exact y3 v hv
  · subst hv; exact I (by omega) (by omega)
  · exact y4 v hv
theorem hd_split (b : List Int) : ∃ L B : List Value, L.length = 53 ∧ ∀ u, hdRow b u = L ++ u :: B := by
  refine ⟨[Value.int .i64 (vNum 6 (p0 b)), .int .u64 (vNum 1048576 (p1 b))] ++ bys (padN 32 (vRaw 32 (p2 b))) ++ [Value.int .i64 (vNum 255 (p3 b)), .bool (vFlag (p4 b)), .int .u64 (vNum 1099511627776 (p5 b))] ++ bys (padN 16 (vRaw 16 (p6 b))), [Value.int .u64 (vNum 1048576 (k0 b)), .int .u64 (vNum 1048576 (k1 b)), .int .u64 (vNum 1048576 (k2 b)), .int .u64 (vNum 1048576 (k3 b)), .int .u64 (vNum 1048576 (k4 b)), .int .u64 (vNum 1048576 (k5 b))] ++ bys (padN 32 (vRaw 32 (k6 b))) ++ [.int .i64 (vNum 2064 (p15 b))] ++ bys (padN 32 (vRaw 32 (p16 b))), by simp [bys, padN_len], fun u => ?_⟩
  unfold hdRow
  simp only [List.append_assoc, List.cons_append, List.nil_append]
theorem hd_is {b : List Int} (hb : bytes256 b) {R : Hl} {u : Value} (hu : valIs (some u) .slice = true) (hr : rngV u) (ht : RdRows R u tkd ((hT b).map bys)) : IsHd R (hdRow b u) (prH b) := by
  obtain ⟨L, B, hl, e⟩ := hd_split b
  have b7 : bytes256 (p8 b).l := num256 (raw256 (num256 (flag256 (num256 (raw256 (num256 (num256 (s := p0 b) hb)))))))
  refine ⟨hdRow_ok b hu, hdRow_rng hb hr, ?_, ?_, ?_, (toks256 _ _ b7).1⟩
  · show hdRow b (.bool false) = _
    rw [e, e, List.set_append_right _ _ (by omega), hl]; rfl
  · have : (hdRow b u).getD 53 (.bool false) = u := by
      rw [e, List.getD_eq_getElem?_getD, List.getElem?_append_right (by omega), hl]; rfl
    rw [this]; exact ht
  · show (pToks (hN b) (p8 b)).1.length ≤ _
    rw [toks_len]
    have := vNum_in (s := p7 b) (m := 8) (by omega)
    unfold hN; omega
end Go.Proofs.Ytkdllpialpfopaa
