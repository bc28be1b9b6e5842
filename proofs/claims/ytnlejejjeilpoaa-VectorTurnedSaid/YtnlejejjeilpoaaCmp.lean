/- Tokens are compared byte by byte. Condition: sixteen bytes each. -/
import Derived.Test.YtnlejejjeilpoaaRows
import Derived.Test.YtnlejejjeilpoaaFlow
import Derived.WalkKit
import Derived.Lib.Hide
import Derived.WalkSpells
import Derived.WalkLawsBesides
import Derived.Test.YtnlejejjeilpoaaFlow2
import Derived.Lib.BytesEntry
set_option linter.unusedSimpArgs false
set_option linter.unusedVariables false
set_option linter.constructorNameAsVariable false
namespace Go.Proofs.Ytnlejejjeilpoaa
open Go Go.RowKit Go.Flow

/-- Where a slice's bytes stand. -/
def BytesAt (w : World) (b o : Nat) (xs : List Int) : Prop := ∀ i x, xs[i]? = some x → w.cell? ⟨b, o + i, none⟩ = some (.int .u8 x)
theorem run_bytesAt {P : Program} {w : World} {b o n c : Nat} {xs : List Int} (h : BytesAt w b o xs) (hn : xs.length = n) : (Extern.Bytes.bytesOf (.slice (some ⟨b, o, none⟩) n c)).run P w = .ok ⟨(Lib.bytesOf xs).toArray⟩ w := by
  have hl := Lib.run_loadBytesX (P := P) w xs ⟨b, o, none⟩ .empty (fun j x hj => by
    have e : (⟨b, o, none⟩ : Addr).add j = ⟨b, o + j, none⟩ := by unfold Addr.add; split <;> simp_all
    rw [e, h j x hj])
  rw [hn] at hl
  simp only [Extern.Bytes.bytesOf, hl]
  congr 1
  apply ByteArray.ext
  show (#[] : Array UInt8) ++ (Lib.bytesOf xs).toArray = (Lib.bytesOf xs).toArray
  simp
def cmpOf (xs ys : List Int) : Int := Lib.compareBytes (Lib.bytesOf xs) (Lib.bytesOf ys)
theorem run_compareAt {P : Program} {w : World} {b o n c b' o' n' c' : Nat} {xs ys : List Int} (h : BytesAt w b o xs) (hn : xs.length = n) (h' : BytesAt w b' o' ys) (hn' : ys.length = n') :
    (Extern.BytealgCompare.compare #[.slice (some ⟨b, o, none⟩) n c, .slice (some ⟨b', o', none⟩) n' c']).run P w = .ok (.int .i64 (cmpOf xs ys)) w := by
  change Sem.run P (do pure (goInt (Extern.BytealgCompare.cmp (← Extern.Bytes.bytesOf (.slice (some ⟨b, o, none⟩) n c)) (← Extern.Bytes.bytesOf (.slice (some ⟨b', o', none⟩) n' c'))))) w = _
  simp only [Sem.run_bind, run_bytesAt h hn, run_bytesAt h' hn', Result.andThen_ok, Sem.run_pure, Lib.cmp_eq]
  rfl

theorem bytesCompare {w : World} {b o n c b' o' n' c' : Nat} {xs ys : List Int} (h : BytesAt w b o xs) (hn : xs.length = n) (h' : BytesAt w b' o' ys) (hn' : ys.length = n') :
    Calls Try.prog 43 #[.slice (some ⟨b, o, none⟩) n c, .slice (some ⟨b', o', none⟩) n' c'] w fun e w' => e = .returned (.int .i64 (cmpOf xs ys)) ∧ Below w.heap.size w w' := by
  go_enter Try.func43, Try.ntmps43
  go_wp2
  rw [run_callFunc_extern Try.func44 (by kernel_rfl) (by kernel_rfl) (by kernel_rfl) (e := Extern.BytealgCompare.compare) (by kernel_rfl), run_compareAt h hn h' hn']
  simp only [Result.andThen]
  rw [Oper.upon_value]
  go_wp2
  go_ret
  exact ⟨rfl, Below.refl _ _⟩

theorem compare_any (xs ys : List Int) (ha : xs.length = 16) (hb : ys.length = 16) (w : World) :
    Calls Try.prog 38 #[.agg (xs.map (Value.int .u8)).toArray, .agg (ys.map (Value.int .u8)).toArray] w fun e w' => e = .returned (.int .i64 (cmpOf xs ys)) ∧ Below w.heap.size w w' := by
  go_enter Try.func38, Try.ntmps38
  go_wp2_with fail
  have hA : BytesAt ((w.alloc (Obj.cells (xs.map (Value.int .u8)).toArray 34)).alloc (Obj.cells (ys.map (Value.int .u8)).toArray 34)) w.heap.size 0 xs := by
    intro i x hx
    simp [hx]
  have hB : BytesAt ((w.alloc (Obj.cells (xs.map (Value.int .u8)).toArray 34)).alloc (Obj.cells (ys.map (Value.int .u8)).toArray 34)) (w.heap.size + 1) 0 ys := by
    intro i x hx
    simp [hx]
  have hG : Grow w ((w.alloc (Obj.cells (xs.map (Value.int .u8)).toArray 34)).alloc (Obj.cells (ys.map (Value.int .u8)).toArray 34)) := (Grow.alloc w _).trans (Grow.alloc _ _)
  generalize (w.alloc (Obj.cells (xs.map (Value.int .u8)).toArray 34)).alloc (Obj.cells (ys.map (Value.int .u8)).toArray 34) = W at *
  have keep : ∀ {z : World} {b : Nat} {xs : List Int}, Grow W z → BytesAt W b 0 xs → BytesAt z b 0 xs := fun hz h i x hx => Grow.cell hz (h i x hx)
  refine wp_region_flow 4 (by kernel_rfl) (by kernel_rfl) (fun M hM K hK => ?_)
  simp only [List.take_succ_cons, List.take_zero]
  repeat (first
    | (refine flow_skip (fun x => rfl) ?_; simp only [Act.put, List.setIfInBounds_toArray, List.set_cons_zero, List.set_cons_succ, Nat.zero_add, Nat.reduceAdd])
    | (apply flow_const
       · (intro x wz hz _; refine ⟨rfl, ?_⟩; unfold newAt; go_simp; simp only [newUpon]; first | exact ⟨Grow.refl _, rfl⟩ | (refine ⟨Grow.refl _, ?_⟩; first | exact calls_const (bytesCompare (keep hz hA) ha (keep hz hB) hb)))
       simp only [Act.put, List.setIfInBounds_toArray, List.set_cons_zero, List.set_cons_succ, Nat.zero_add, Nat.reduceAdd]))
  (refine flow_nil ?_; intro x w' hz hfx hap; refine hK.out _ _ ?_; clear hK hM)
  have hw := hz
  clear hz
  clear hfx hap
  simp only [List.drop_succ_cons, List.drop_zero]
  go_wp2
  go_ret
  exact ⟨rfl, hG.trans hw⟩
end Go.Proofs.Ytnlejejjeilpoaa
