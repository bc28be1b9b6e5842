/- Layer 7: slices.Sorted(maps.Keys(m)), as a contract: the keys, sorted. Condition: the keys are of 64 bits, and few. -/
import Derived.Test.YtdohcabnaihaoaaDskG
import Derived.Test.YtdohcabnaihaoaaLays
set_option linter.unusedSimpArgs false
set_option linter.unusedVariables false
set_option linter.constructorNameAsVariable false
namespace Go.Proofs.Ytdohcabnaihaoaa
open Go Go.Sx Go.RowKit Go.Maps Go.Sort Go.Shelf

abbrev fSorted : FuncId := 26
abbrev fKeys1 : FuncId := 35
theorem sortsA (m : Nat) : AnyZI.SortsIn Try.prog sortedA_ren Fence.wide m :=
  ⟨fun blk off cap ss W hH hblk hsz => callsIn_wide.2 (AnyM.slices_Sort_int sortA blk off cap ss W hH hblk hsz),
   fun p cap W => callsIn_wide.2 (AnyM.slices_Sort_int_none sortA p cap W)⟩
def sortK (l : List Int) : List Int := l.mergeSort (fun x y => decide (x ≤ y))
theorem sortK_perm {a b : List Int} (h : a.Perm b) : sortK a = sortK b := by
  unfold sortK
  have tr : ∀ (a b c : Int), decide (a ≤ b) = true → decide (b ≤ c) = true → decide (a ≤ c) = true := fun a b c h1 h2 => decide_eq_true (by have := of_decide_eq_true h1; have := of_decide_eq_true h2; omega)
  have tt : ∀ (a b : Int), (decide (a ≤ b) || decide (b ≤ a)) = true := fun a b => by
    rcases Int.le_total a b with h | h <;> simp [h]
  refine List.Perm.eq_of_pairwise (le := fun a b => decide (a ≤ b) = true) (fun a b _ _ h1 h2 => by have := of_decide_eq_true h1; have := of_decide_eq_true h2; omega) (List.pairwise_mergeSort tr tt a) (List.pairwise_mergeSort tr tt b) ?_
  exact ((List.mergeSort_perm a _).trans h).trans (List.mergeSort_perm b _).symm
theorem sortK_length (l : List Int) : (sortK l).length = l.length := (List.mergeSort_perm l _).length_eq
theorem sortK_mem {l : List Int} {x : Int} : x ∈ sortK l ↔ x ∈ l := (List.mergeSort_perm l _).mem_iff
theorem sortK_sorted (l : List Int) : (sortK l).Pairwise (fun a b => a ≤ b) := by
  have tr : ∀ (a b c : Int), decide (a ≤ b) = true → decide (b ≤ c) = true → decide (a ≤ c) = true := fun a b c h1 h2 => decide_eq_true (by have := of_decide_eq_true h1; have := of_decide_eq_true h2; omega)
  have tt : ∀ (a b : Int), (decide (a ≤ b) || decide (b ≤ a)) = true := fun a b => by
    rcases Int.le_total a b with h | h <;> simp [h]
  exact (List.pairwise_mergeSort tr tt l).imp fun h => of_decide_eq_true h

def trivR (_ : Value) : Option (DataW Unit × List MemPlace) := some (.nil, [])
theorem key_rd {es : Array MapEntry} {l : List (Int × Value)} (hM : MapIs .i64 es l) (hr : ∀ p ∈ l, -9223372036854775808 ≤ p.1 ∧ p.1 ≤ 9223372036854775807) : ∀ x ∈ es.toList, ∃ n : Int, x.key = .int .i64 n ∧ WideElems.rd Try.prog 3 trivR x = some (.int .i64 n, .nil) := by
  intro x hx
  have : (x.key, x.val) ∈ l.map fun p => (Value.int .i64 p.1, p.2) := by
    rw [← show es.toList.map (fun e => (e.key, e.val)) = _ from hM]
    exact List.mem_map.2 ⟨x, hx, rfl⟩
  obtain ⟨q, hq, e⟩ := List.mem_map.1 this
  rw [Prod.mk.injEq] at e
  have hb := hr q hq
  refine ⟨q.1, e.1.symm, ?_⟩
  have hw : (Lit.int .i64 q.1).wf = true := by
    simp only [Lit.wf, IntKind.min, IntKind.max, IntKind.signed, IntKind.bits, Bool.and_eq_true, decide_eq_true_eq]
    simp
    omega
  unfold WideElems.rd keyOf
  rw [← e.1]
  simp only [Try.underlying3]
  unfold mapKey
  simp only [Try.underlying3, hw]
  rfl
theorem sorted_calls (Bm b : Nat) {es : Array MapEntry} {clock : Nat} {l : List (Int × Value)} (w : World) (hBm : Bm < w.heap.size) (hm : w.cell? ⟨Bm, 0, none⟩ = some (.map (some b))) (hb : w.heap[b]? = some (.map es clock)) (hM : MapIs .i64 es l) (hst : MapKept.Stamped es clock)
    (hr : ∀ p ∈ l, -9223372036854775808 ≤ p.1 ∧ p.1 ≤ 9223372036854775807) (hsz : l.length ≤ 1000000) :
    Calls Try.prog fSorted #[.func (.func fKeys1) #[] #[.pointer (some ⟨Bm, 0, none⟩)]] w fun e w' => ∃ v, e = .returned v ∧ w'.ownsRow w.heap.size 3 1 v l.length ((sortK (l.map (·.1))).map (Value.int .i64)) ∧ RowKit.Below w.heap.size w w' := by
  have hsize : es.size = l.length := hM.size
  have hrd := key_rd hM hr
  have hown : w.ownsMap Try.prog 3 trivR b l.length (.map ((es.toList.map (WideElems.rg Try.prog 3 trivR)).foldr DataW.insert [])) :=
    ⟨es, clock, hb, ⟨by rw [hsize]; unfold maxLen; omega, hst, fun x hx => by obtain ⟨n, _, h⟩ := hrd x hx; exact ⟨_, h⟩⟩, by rw [hsize]; exact Nat.le_refl _, rfl⟩
  have hms : Maps.size (.map ((es.toList.map (WideElems.rg Try.prog 3 trivR)).foldr DataW.insert [])) = l.length := by
    show ((es.toList.map (WideElems.rg Try.prog 3 trivR)).foldr DataW.insert []).length = _
    rw [DataW.length_sorted, List.length_map, Array.length_toList, hsize]
  have hseq : SeqGives Fence.wide 2 Try.prog fKeys1 #[.pointer (some ⟨Bm, 0, none⟩)] encZ (fun ss => ss.Perm (intKeys (.map ((es.toList.map (WideElems.rg Try.prog 3 trivR)).foldr DataW.insert [])))) (Maps.size (.map ((es.toList.map (WideElems.rg Try.prog 3 trivR)).foldr DataW.insert []))) w :=
    AnyZI.keys_gives (ρ := keysA_ren) { keysA with } Fence.wide _ trivial rfl (by omega) Bm b l.length _ w hBm hm hown
  have cS := AnyZI.sorted_in sortedA Fence.wide 5 trivial trivial trivial trivial rfl (by omega) (sortsA _) (enters_of Try.func34 (by kernel_rfl) rfl) fKeys1 #[.pointer (some ⟨Bm, 0, none⟩)] trivial (enters_of Try.func35 (by kernel_rfl) rfl) _ _ (by rw [hms]; unfold maxLen; omega) (by rw [hms]; omega) _ hseq
  have cS := callsIn_wide.1 cS
  refine Calls.mono cS ?_
  rintro e w' ⟨v, ss, rfl, hS, hrow, _, hbl⟩
  have hp : ss.Perm (l.map (·.1)) := by
    refine hS.trans ?_
    simp only [intKeys]
    refine ((WideShapes.sorted_perm _).map _).trans (List.Perm.of_eq ?_)
    have h1 : es.toList.map (fun e => e.key) = l.map fun p => Value.int .i64 p.1 := by
      have := congrArg (List.map Prod.fst) (show es.toList.map (fun e => (e.key, e.val)) = l.map fun p => (Value.int .i64 p.1, p.2) from hM)
      rw [List.map_map, List.map_map] at this
      exact this
    have h2 : es.toList.map (fun e => valI (some e.key)) = l.map (·.1) := by
      have := congrArg (List.map fun v => valI (some v)) h1
      rw [List.map_map, List.map_map] at this
      exact this
    rw [← h2, List.map_map]
    refine List.map_congr_left fun x hx => ?_
    obtain ⟨n, hk, hd⟩ := hrd x hx
    simp only [Function.comp_apply, WideElems.rg, hd, hk]
    rfl
  have hl : ss.length = l.length := by rw [hp.length_eq, List.length_map]
  have hs : ss.mergeSort (fun x y => decide (x ≤ y)) = sortK (l.map (·.1)) := sortK_perm hp
  rw [hl, hs] at hrow
  exact ⟨v, rfl, hrow, hbl⟩
/-- slices.Sorted, of a map's keys. -/
def sortedS : Sx.Spec where
  fn := fSorted
  own := []
  rd := [0, 200]
  res := [.one .sl]
  pre := fun xs Hs Rs => ∃ (x m : Nat) (es : Array MapEntry) (clock : Nat) (l : List (Int × Value)) (R1 R2 : Hl), xs = [.func (.func fKeys1) #[] #[.pointer (some ⟨x, 0, none⟩)]] ∧ Rs = [R1, R2] ∧ R1.cell x 0 = some (.map (some m)) ∧ R2 m = some (.map es clock) ∧ MapIs .i64 es l ∧ MapKept.Stamped es clock ∧ (∀ p ∈ l, -9223372036854775808 ≤ p.1 ∧ p.1 ≤ 9223372036854775807) ∧ l.length ≤ 1000000
  post := fun xs Hs Rs v Hs' F => ∃ (x m : Nat) (es : Array MapEntry) (clock : Nat) (l : List (Int × Value)) (R1 R2 : Hl), xs = [.func (.func fKeys1) #[] #[.pointer (some ⟨x, 0, none⟩)]] ∧ Rs = [R1, R2] ∧ R1.cell x 0 = some (.map (some m)) ∧ R2 m = some (.map es clock) ∧ MapIs .i64 es l ∧ OwnsH F 3 1 v l.length ((sortK (l.map (·.1))).map (Value.int .i64))
theorem sortedS_ok : sortedS.OK Try.prog := by
  intro w xs Hs Rs hl1 hl2 hs1 hs2 hd1 hd2 ⟨x, m, es, clock, l, R1, R2, hx, hR, hc, hm, hM, hst, hr, hsz⟩
  have e0 : Hs = [] := List.length_eq_zero_iff.1 hl1
  subst e0; subst hx; subst hR
  have s1 : R1.sub w := (hs2 R1 (by simp))
  have s2 : R2.sub w := hs2 R2 (by simp)
  have hcell := Hl.sub_cell s1 hc
  have hx : x < w.heap.size := by
    unfold Hl.cell at hc
    split at hc
    · rename_i hb; exact (Array.getElem?_eq_some_iff.1 (s1 _ _ hb)).1
    · cases hc
  refine (sorted_calls x m w hx hcell (s2 _ _ hm) hM hst hr hsz).mono ?_
  rintro e w' ⟨v, rfl, ⟨hlen, hrow⟩, hbl⟩
  have post : ∀ F : Hl, OwnsH F 3 1 v l.length ((sortK (l.map (·.1))).map (Value.int .i64)) → sortedS.post [.func (.func fKeys1) #[] #[.pointer (some ⟨x, 0, none⟩)]] [] [R1, R2] v [] F := fun F hF => ⟨x, m, es, clock, l, R1, R2, rfl, rfl, hc, hm, hM, hF⟩
  rcases hrow with ⟨rfl, hn⟩ | ⟨g, cap, cur, rfl, hg, hcur, hle, hmx, hcs, ht⟩
  · refine ⟨⟨fun k => [-1, 0, 0, 0].getD k 0, fun _ => false, fun _ => .empty, fun _ => .tuple #[], fun _ => Hl.none⟩, [], Hl.none, rfl, ⟨⟨by show (-1 : Int) ≤ -1; omega, Int.le_refl _, Int.le_refl _, Int.le_refl _⟩, trivial⟩, ⟨hbl.os, hbl.tape, hbl.output, hbl.size, fun b hl _ => hbl.block b hl, rfl, (fun _ h => nomatch h), (fun _ _ h => nomatch h), (fun _ h => nomatch h), (fun b h => by simp [Hl.mem, Hl.none] at h), (fun p _ _ _ _ h => by simp at h), (fun _ h => nomatch h)⟩, post _ ⟨hlen, Or.inl ⟨rfl, hn⟩⟩⟩
  · refine ⟨⟨fun k => [(g : Int), 0, l.length, cap].getD k 0, fun _ => false, fun _ => .empty, fun _ => .tuple #[], fun _ => Hl.none⟩, [], Hl.one g (.cells cur 3 (0, 0)), ?_, ⟨⟨by show (-1 : Int) ≤ (g : Int); omega, Int.le_refl _, by show (0 : Int) ≤ (l.length : Int); omega, by show (0 : Int) ≤ (cap : Int); omega⟩, trivial⟩, ⟨hbl.os, hbl.tape, hbl.output, hbl.size, fun b hl _ => hbl.block b hl, rfl, (fun _ h => nomatch h), ?_, (fun _ h => nomatch h), ?_, (fun p _ _ _ _ h => by simp at h), (fun _ h => nomatch h)⟩, ?_⟩
    · show _ = Ending.returned (Value.slice (slP (g : Int) 0) ((l.length : Int)).toNat ((cap : Int)).toNat)
      rw [slP_pos (by omega), Int.toNat_natCast, Int.toNat_natCast, Int.toNat_natCast]; rfl
    · intro b o hb
      obtain ⟨rfl, rfl⟩ := Hl.one_eq hb
      exact hcur
    · intro b hb
      rw [Hl.one_mem] at hb
      subst hb; exact Or.inr hg
    · have e : (cpTV 0 sortedS.res).ev ⟨fun k => [(g : Int), 0, l.length, cap].getD k 0, fun _ => false, fun _ => .empty, fun _ => .tuple #[], fun _ => Hl.none⟩ = .slice (some ⟨g, 0, none⟩) l.length cap := by
        show Value.slice (slP (g : Int) 0) ((l.length : Int)).toNat ((cap : Int)).toNat = _
        rw [slP_pos (by omega), Int.toNat_natCast, Int.toNat_natCast, Int.toNat_natCast]; rfl
      rw [e]
      exact post _ ⟨hlen, Or.inr ⟨g, cap, cur, rfl, Hl.one_self _ _, hle, hmx, hcs, ht⟩⟩
end Go.Proofs.Ytdohcabnaihaoaa
