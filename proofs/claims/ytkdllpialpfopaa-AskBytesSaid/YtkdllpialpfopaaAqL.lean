/- Layer 22: parts of a request are taken: takePiece, takeVector, takeWish, as contracts; plain laws. Condition: bytes below 256. -/
import Derived.Test.YtkdllpialpfopaaAqK
import Derived.Test.YtkdllpialpfopaaHdM
set_option linter.unusedSimpArgs false
set_option linter.unusedVariables false
set_option linter.constructorNameAsVariable false
namespace Go.Proofs.Ytkdllpialpfopaa
open Go Go.Sx Go.Pk

/-! ### Results whose slices have no spots -/
def normV : Value → Prop
  | .slice (some ⟨_, _, some _⟩) _ _ => False
  | .pointer (some ⟨_, _, some _⟩) => False
  | _ => True
def noMaps : List Ck → Bool
  | [] => true
  | .map :: _ => false
  | _ :: l => noMaps l
theorem slP_norm {x y : Int} (h : ∀ a b c, slP x y ≠ some ⟨a, b, some c⟩) : -1 ≤ x := by
  unfold slP at h
  split at h
  · omega
  · split at h
    · omega
    · exact absurd rfl (h _ _ _)
theorem norm_up {n : Nat} {ρ : Env} {k : Ck} (hk : k ≠ .map) (h : ckNormW n ρ k) (hv : normV ((k.cv n).ev ρ)) : ckNorm n ρ k := by
  cases k with
  | ptr =>
    refine ⟨slP_norm (y := ρ.i (n + 1)) fun a b c e => ?_, h.2⟩
    have hv : normV (.pointer (slP (ρ.i n) (ρ.i (n + 1)))) := hv
    rw [e] at hv; exact hv
  | sl =>
    refine ⟨slP_norm (y := ρ.i (n + 1)) fun a b c e => ?_, h.2⟩
    have hv : normV (.slice (slP (ρ.i n) (ρ.i (n + 1))) (ρ.i (n + 2)).toNat (ρ.i (n + 3)).toNat) := hv
    rw [e] at hv; exact hv
  | map => exact absurd rfl hk
  | _ => trivial
theorem norms_up {ρ : Env} : ∀ (ks : List Ck) (n : Nat), noMaps ks = true → ckNormsW n ks ρ → (∀ v ∈ (ckCVs n ks).map (CV.ev ρ), normV v) → ckNorms n ks ρ
  | [], _, _, _, _ => trivial
  | k :: ks, n, hm, h, hv => by
    have hk : k ≠ .map := by rintro rfl; simp [noMaps] at hm
    have hm' : noMaps ks = true := by cases k <;> first | exact hm | exact absurd rfl hk
    exact ⟨norm_up hk h.1 (hv _ (List.mem_cons_self ..)), norms_up ks _ hm' h.2 fun v h => hv v (List.mem_cons_of_mem _ h)⟩
/-- A row as a result. -/
theorem shape_row {ks : List Ck} {row : List Value} (h : rowOK row (ks.map kdOf)) (hm : noMaps ks = true) (hv : ∀ v ∈ row, normV v) : ∃ ρ2, TV.ev ρ2 (cpTV 0 [.agg ks]) = .agg row.toArray ∧ cpNorms 0 [.agg ks] ρ2 := by
  obtain ⟨q, _, hn, e⟩ := row_rep ks 0 row ⟨fun _ => 0, fun _ => false, fun _ => .empty, fun _ => .tuple #[], fun _ => Hl.none⟩ h
  refine ⟨q, ?_, norms_up ks 0 hm hn (by rw [e]; exact hv), trivial⟩
  show Value.agg ((ckCVs 0 ks).map (CV.ev q)).toArray = _
  rw [e]
/-- A row and a number as a result. -/
theorem shape_row_int {ks : List Ck} {row : List Value} {k : IntKind} (z : Int) (h : rowOK row (ks.map kdOf)) (hm : noMaps ks = true) (hv : ∀ v ∈ row, normV v) : ∃ ρ2, TV.ev ρ2 (cpTV 0 [.agg ks, .one (.int k)]) = .tuple #[.agg row.toArray, .int k z] ∧ cpNorms 0 [.agg ks, .one (.int k)] ρ2 := by
  obtain ⟨q, _, hn, e⟩ := row_rep ks 0 row ⟨fun _ => 0, fun _ => false, fun _ => .empty, fun _ => .tuple #[], fun _ => Hl.none⟩ h
  have ag : Agree (0 + ckLen ks) q (q.setI (0 + ckLen ks) z) := agree_setI q _ z (Nat.le_refl _)
  have e2 : (ckCVs 0 ks).map (CV.ev (q.setI (0 + ckLen ks) z)) = row := by rw [ag_row ag (Nat.le_refl _)]; exact e
  have hn2 : ckNormsW 0 ks (q.setI (0 + ckLen ks) z) := ckNormsW_agree ag ks 0 (Nat.le_refl _) hn
  refine ⟨q.setI (0 + ckLen ks) z, ?_, norms_up ks 0 hm hn2 (by rw [e2]; exact hv), trivial, trivial⟩
  show Value.tuple #[.agg ((ckCVs 0 ks).map (CV.ev (q.setI (0 + ckLen ks) z))).toArray, .int k ((q.setI (0 + ckLen ks) z).i (0 + ckLen ks))] = _
  rw [e2]
  congr 3
  simp [Env.setI]
theorem normV_bp {x y l c : Int} (h : -1 ≤ x) : normV (.slice (slP x y) l.toNat c.toNat) := by
  rcases Int.lt_or_le x 0 with h' | h'
  · obtain rfl : x = -1 := by omega
    trivial
  · rw [slP_pos h']; trivial
/-! ### Texts -/
def pText (m : Int) (s : PS) : PS := ⟨(inText s.l s.bad m).2.1, (inText s.l s.bad m).2.2⟩
def vText (m : Int) (s : PS) : List Int := (inText s.l s.bad m).1
section
variable {s : PS}
theorem textA {m : Int} (hb : bytes256 s.l) (h : (pText m s).bad = false) : s.bad = false ∧ s.l = textBytes (vText m s) ++ (pText m s).l ∧ ((vText m s).length : Int) ≤ m ∧ (vText m s).length ≤ 4096 := by
  unfold pText vText inText at *
  split at h
  · cases h
  · rename_i hc
    rw [if_neg hc]
    have h1 : s.bad = false := by
      cases hs : s.bad
      · rfl
      · exact absurd (Or.inl hs) hc
    have h2 : (numR s.l).2 ≠ 0 := fun e => hc (Or.inr (Or.inl e))
    have h3 : ¬ min (min m 4096) ((s.l.length : Int) - (numR s.l).2) < ((numR s.l).1 : Int) := fun e => hc (Or.inr (Or.inr (Or.inr e)))
    cases hn : numAt s.l with
    | none => unfold numR at h2; rw [hn] at h2; exact absurd rfl h2
    | some r =>
      obtain ⟨x, k⟩ := r
      obtain ⟨_, hk, h6, h7⟩ := numAt_dec hb hn
      have e : numR s.l = (x, k) := by unfold numR; rw [hn]; rfl
      rw [e] at h3 ⊢
      simp only at h3
      have hl : ((s.l.drop k).take x).length = x := by rw [List.length_take, List.length_drop]; omega
      refine ⟨h1, ?_, by show (((s.l.drop k).take x).length : Int) ≤ m; omega, by show ((s.l.drop k).take x).length ≤ 4096; omega⟩
      show s.l = textBytes ((s.l.drop k).take x) ++ s.l.drop (k + x)
      unfold textBytes
      rw [hl, ← h6, List.append_assoc, ← List.drop_drop, List.take_append_drop, List.take_append_drop]
theorem textBk {m : Int} {b t : List Int} (h1 : (b.length : Int) ≤ m) (h2 : b.length ≤ 4096) : pText m ⟨textBytes b ++ t, false⟩ = ⟨t, false⟩ ∧ vText m ⟨textBytes b ++ t, false⟩ = b := by
  have e : numR (textBytes b ++ t) = (b.length, (numB b.length).length) := by
    unfold numR textBytes
    rw [List.append_assoc, numAt_enc (by omega)]; rfl
  have hp := numB_pos b.length
  have hl : (textBytes b ++ t).length = (numB b.length).length + (b.length + t.length) := by unfold textBytes; simp only [List.length_append]; omega
  have hc : ¬ ((false : Bool) = true ∨ (numR (textBytes b ++ t)).2 = 0 ∨ m < 0 ∨ min (min m 4096) (((textBytes b ++ t).length : Int) - (numR (textBytes b ++ t)).2) < ((numR (textBytes b ++ t)).1 : Int)) := by
    rw [e, hl]
    simp only
    rintro (x | x | x | x)
    · cases x
    · omega
    · omega
    · omega
  unfold pText vText inText
  rw [if_neg hc, e]
  have d : (textBytes b ++ t).drop (numB b.length).length = b ++ t := by unfold textBytes; rw [List.append_assoc, List.drop_left]
  refine ⟨?_, ?_⟩
  · show PS.mk ((textBytes b ++ t).drop ((numB b.length).length + b.length)) false = _
    rw [← List.drop_drop, d, List.drop_left]
  · show ((textBytes b ++ t).drop (numB b.length).length).take b.length = b
    rw [d, List.take_left]
theorem text256 {m : Int} (hb : bytes256 s.l) : bytes256 (pText m s).l ∧ bytes256 (vText m s) := by
  unfold pText vText inText
  split
  · exact ⟨hb, fun z h => by cases h⟩
  · exact ⟨bytes_drop hb _, fun z hz => hb z (List.mem_of_mem_drop (List.mem_of_mem_take hz))⟩
theorem vText_len {m : Int} : (vText m s).length ≤ 4096 := by
  unfold vText inText
  split
  · simp
  · rename_i hc
    have h3 : ¬ min (min m 4096) ((s.l.length : Int) - (numR s.l).2) < ((numR s.l).1 : Int) := fun e => hc (Or.inr (Or.inr (Or.inr e)))
    show ((s.l.drop _).take _).length ≤ 4096
    rw [List.length_take]; omega
end
section
variable {q : Env} {n : Nat} {p : Value} {H : Hl} {s : PS} {K : Env → Prop}
theorem bp_of1 {F : Hl} {q' : Env} {B : List Int} {m : Nat} (hO : OwB F 5 (.slice (slP (q'.i n) (q'.i (n + 1))) (q'.i (n + 2)).toNat (q'.i (n + 3)).toNat) B) (hF : True → q'.h (n + 1) = F) (hn : cpNorms n [.one .sl] q') (hm : B.length ≤ m) : BP (q'.h (n + 1)) (q'.i n) (q'.i (n + 1)) (q'.i (n + 2)) (q'.i (n + 3)) B m := by
  have hn : -1 ≤ q'.i n ∧ 0 ≤ q'.i (n + 1) ∧ 0 ≤ q'.i (n + 2) ∧ 0 ≤ q'.i (n + 3) := hn.1
  rw [← hF trivial] at hO
  have e : (q'.i (n + 2)).toNat = B.length := by
    obtain ⟨x, y, c, e, _⟩ := hO.rd
    simp only [Value.slice.injEq] at e
    exact e.2.1
  exact ⟨hO, by omega, hn.1, hn.2.1, hn.2.2.2, hm⟩
theorem iText {m : Int} (h : InP H p s) (hm : m ≤ 1000000) (k : ∀ q', Agree n q q' → InP (q'.h n) p (pText m s) → BP (q'.h (n + 1)) (q'.i n) (q'.i (n + 1)) (q'.i (n + 2)) (q'.i (n + 3)) (vText m s) 4096 → K q') :
    textS.pre [p, .int .i64 m] [H] [] ∧ ∀ q', Agree n q q' → (∃ F, textS.post [p, .int .i64 m] [H] [] (.slice (slP (q'.i n) (q'.i (n + 1))) (q'.i (n + 2)).toNat (q'.i (n + 3)).toNat) [q'.h n] F ∧ (True → q'.h (n + 1) = F) ∧ cpNorms n [.one .sl] q') → K q' := by
  refine ⟨⟨_, m, H, s.l, s.bad, rfl, rfl, h, hm⟩, fun q' g ⟨F, ⟨p', m', H1, bs, bad, H', e1, e2, hO, e3, hO', hv⟩, hF, hn⟩ => ?_⟩
  simp only [List.cons.injEq, Value.int.injEq, true_and, and_true] at e1 e2 e3
  obtain ⟨e1, em⟩ := e1
  subst e1 em e2
  obtain ⟨e4, e5⟩ := h.uniq hO
  subst e4 e5
  rw [← e3] at hO'
  exact k q' g hO' (bp_of1 hv hF hn vText_len)
end
/-! ### A header that is taken -/
def PdHd (t : List Int) (h : Hd) : Prop := (h.Form ∧ hdB h = t) ∨ (h = hz ∧ ∀ R row h', IsHd R row h' → h'.Form → hdB h' ≠ t)
theorem hz_not : ¬ hz.Form := by
  intro h
  have := h.1.1.1
  have e : cI hz.c 0 = 0 := by kernel_rfl
  rw [e] at this; omega
def pPc (s : PS) : PS := pText 4096 (pText 4096 s)
noncomputable def takePcS : Sx.Spec where
  fn := 31
  own := [.arg 0]
  rd := []
  res := [.agg pk2]
  pre := fun xs Hs Rs => ∃ p H s, xs = [p] ∧ Hs = [H] ∧ InP H p s
  post := fun xs Hs Rs v Hs' F => ∃ p H s H' row c, xs = [p] ∧ Hs = [H] ∧ InP H p s ∧ Hs' = [H'] ∧ InP H' p (pPc s) ∧ v = .agg row.toArray ∧ IsPc F F row c ∧ PdHd (vText 4096 s) c.h ∧ c.b = vText 4096 (pText 4096 s)
noncomputable def tkΓ : List Sx.Spec := [readPS, numS, flagS, rawS, overS, textS, parseS]
theorem tkΓ_ok : ∀ t ∈ tkΓ, t.OK Try.prog := fun t ht => by
  simp only [tkΓ, List.mem_cons, List.mem_nil_iff, or_false] at ht
  rcases ht with rfl | rfl | rfl | rfl | rfl | rfl | rfl
  · exact readPS_ok
  · exact numS_ok
  · exact flagS_ok
  · exact rawS_ok
  · exact overS_ok
  · exact textS_ok
  · exact parseS_ok
def takePcNd : Nd := .ext (.alloc 2) (.and (.pre (.call 5 3 [.sv (.one (.hptr (.var 0) (.lit 0))), .sv (.one (.int .i64 (.lit 4096)))] [.hp 1 [] [.var 0] []] [])) (.ext (.call 5 3 [.sv (.one (.hptr (.var 0) (.lit 0))), .sv (.one (.int .i64 (.lit 4096)))] [.hp 1 [] [.var 0] []] []) (.and (.pre (.call 6 7 [.sv (.one (.sl (.var 3) (.var 4) (.var 5) (.var 6)))] [] [.hp 4 [] [.var 3] []])) (.ext (.call 6 7 [.sv (.one (.sl (.var 3) (.var 4) (.var 5) (.var 6)))] [] [.hp 4 [] [.var 3] []]) (.ext (.alloc 136) (.and (.pre (.call 5 137 [.sv (.one (.hptr (.var 0) (.lit 0))), .sv (.one (.int .i64 (.lit 4096)))] [.hp 3 [1] [.var 0] []] [])) (.ext (.call 5 137 [.sv (.one (.hptr (.var 0) (.lit 0))), .sv (.one (.int .i64 (.lit 4096)))] [.hp 3 [1] [.var 0] []] []) (.post [.hp 137 [3, 1] [.var 0] [], .dead, .hp 4 [] [.var 3] [], .hp 7 [] [.var 60] [], .dead, .hp 138 [] [.var 137] []] (.sv (.agg (ckCVs 7 hk2 ++ [.sl (.var 137) (.var 138) (.var 139) (.var 140)])))))))))))
noncomputable def takePcW : Walk Try.prog tkΓ 31 where
  Λ := noLoops
  args := [TP (.var 0) (.lit 0)]
  mem := [.hp 1 [] [.var 0] []]
  nv := 2
  nd := takePcNd
  ok := by kernel_rfl
end Go.Proofs.Ytkdllpialpfopaa
