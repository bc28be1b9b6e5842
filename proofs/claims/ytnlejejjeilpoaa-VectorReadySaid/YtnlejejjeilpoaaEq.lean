/- Equality of two arrays of integers: whether their numbers are the same. Conditions: both have as many cells as the type says. -/
import Derived.WalkKit
set_option linter.unusedSimpArgs false
set_option linter.unusedVariables false
set_option linter.constructorNameAsVariable false
namespace Go.Flow

section
variable {P : Program}

theorem part_ints (e : TypeId) (k k' : IntKind) (he : P.underlying e = some (.int k')) (as : List Int) (i : Nat) (x : Int) (hx : as[i]? = some x) (w : World) :
    (part e ((as.map (Value.int k)).toArray) i).run P w = .ok (.int k x) w := by
  have hagg : (isAgg e).run P w = .ok false w := by
    unfold isAgg
    rw [Sem.run_bind, run_underlying he w]
    rfl
  have hc : ((as.map (Value.int k)).toArray)[i]? = some (.int k x) := by simp [hx]
  unfold part
  simp only [Sem.run_bind, hagg, Result.andThen_ok, Bool.false_eq_true, if_false, hc]
  rfl

theorem run_equalIn_ints (d : Nat) (t e : TypeId) (len : Nat) (k k' : IntKind) (ht : P.underlying t = some (.array len e)) (he : P.underlying e = some (.int k')) (hs : (P.info? e).map (·.size) = some 1)
    (as bs : List Int) (ha : as.length = len) (hb : bs.length = len) (w : World) :
    (Op.equalIn (d + 2) t (.agg (as.map (Value.int k)).toArray) (.agg (bs.map (Value.int k)).toArray)).run P w = .ok (as == bs) w := by
  cases hq : P.info? e with
  | none => simp [hq] at hs
  | some i =>
    have hs1 : i.size = 1 := by simpa [hq] using hs
    have hsz : (sizeOf e).run P w = .ok 1 w := by simp [sizeOf, typeInfo, hq, hs1]
    rw [Op.equalIn]
    simp only [Sem.run_bind, run_underlying ht, Result.andThen_ok, hsz]
    rw [Std.Legacy.Range.forIn_eq_forIn_range']
    simp only [Std.Legacy.Range.size, Nat.sub_zero, Nat.add_sub_cancel, Nat.div_one, Nat.mul_one]
    have key : ∀ (n j : Nat), j + n = len → ∀ (X Y : List Int), X = as.drop j → Y = bs.drop j →
        Sem.run P (forIn (List.range' j n) ((none, ()) : Option Bool × Unit) (fun i r => do
              let a ← part e (as.map (Value.int k)).toArray i
              let b ← part e (bs.map (Value.int k)).toArray i
              let q ← Op.equalIn (d + 1) e a b
              if (!q) = true then pure (ForInStep.done (some false, ()))
              else pure (ForInStep.yield (none, ())))) w = .ok (if X = Y then none else some false, ()) w := by
      intro n
      induction n with
      | zero =>
        intro j hj X Y hX hY
        have h1 : X = [] := by rw [hX]; exact List.drop_eq_nil_of_le (by omega)
        have h2 : Y = [] := by rw [hY]; exact List.drop_eq_nil_of_le (by omega)
        subst h1; rw [h2]
        simp
      | succ n ih =>
        intro j hj X Y hX hY
        have hja : j < as.length := by omega
        have hjb : j < bs.length := by omega
        have pa := part_ints (P := P) e k k' he as j as[j] (List.getElem?_eq_getElem hja) w
        have pb := part_ints (P := P) e k k' he bs j bs[j] (List.getElem?_eq_getElem hjb) w
        have hX' : X = as[j] :: as.drop (j + 1) := by rw [hX, List.drop_eq_getElem_cons hja]
        have hY' : Y = bs[j] :: bs.drop (j + 1) := by rw [hY, List.drop_eq_getElem_cons hjb]
        have he' : (Op.equalIn (d + 1) e (.int k as[j]) (.int k bs[j])).run P w = .ok (as[j] == bs[j]) w := by simp [Op.equalIn, run_underlying he]
        have hih := ih (j + 1) (by omega) _ _ rfl rfl
        rw [List.range'_succ, List.forIn_cons]
        simp only [Sem.run_bind]
        simp only [pa, pb, Result.andThen_ok, he']
        rw [hX', hY']
        clear hX hY hX' hY' ih
        generalize as.drop (j + 1) = X1 at *
        generalize bs.drop (j + 1) = Y1 at *
        by_cases h : as[j] = bs[j]
        · simp only [h, beq_self_eq_true, Bool.not_true, Bool.false_eq_true, if_false, Sem.run_pure, Result.andThen_ok]
          rw [hih]
          simp
        · have hne : (as[j] == bs[j]) = false := by simpa using h
          simp [hne, h]
    rw [key len 0 (by omega) as bs rfl rfl]
    simp only [Result.andThen_ok]
    by_cases h : as = bs
    · simp [h]
    · simp [h]

/-- A number out of an array's value. -/
theorem run_index_int (t e : TypeId) (len : Nat) (k' : IntKind) (ht : P.underlying t = some (.array len e)) (he : P.underlying e = some (.int k')) (hs : (P.info? e).map (·.size) = some 1)
    (cs : Array Value) (i : Nat) (v : Value) (hi : i < len) (hc : cs[i]? = some v) (w : World) : Sem.run P (Instr.index t (.agg cs) (.int .i64 i)) w = .ok v w := by
  cases hq : P.info? e with
  | none => simp [hq] at hs
  | some j =>
    have hs1 : j.size = 1 := by simpa [hq] using hs
    have hsz : (sizeOf e).run P w = .ok 1 w := by simp [sizeOf, typeInfo, hq, hs1]
    have hagg : (isAgg e).run P w = .ok false w := by
      unfold isAgg
      rw [Sem.run_bind, run_underlying he w]
      rfl
    have hin : 0 ≤ (i : Int) ∧ (i : Int) < len := ⟨by omega, by omega⟩
    simp only [Instr.index, asIntOf, Sem.run_bind, Sem.run_pure, Result.andThen_ok, run_underlying ht, hin, and_self, if_true, hsz, Int.toNat_natCast, Nat.mul_one]
    unfold part
    simp only [Sem.run_bind, hagg, Result.andThen_ok, Bool.false_eq_true, if_false, hc]
    rfl

/-- .. of six. -/
theorem index_six (t e : TypeId) (k : IntKind) (ht : P.underlying t = some (.array 6 e)) (he : P.underlying e = some (.int k)) (hs : (P.info? e).map (·.size) = some 1) :
    (∀ (x0 x1 x2 x3 x4 x5 : Value) w, Sem.run P (Instr.index t (.agg #[x0, x1, x2, x3, x4, x5]) (.int .i64 0)) w = .ok x0 w) ∧
    (∀ (x0 x1 x2 x3 x4 x5 : Value) w, Sem.run P (Instr.index t (.agg #[x0, x1, x2, x3, x4, x5]) (.int .i64 1)) w = .ok x1 w) ∧
    (∀ (x0 x1 x2 x3 x4 x5 : Value) w, Sem.run P (Instr.index t (.agg #[x0, x1, x2, x3, x4, x5]) (.int .i64 2)) w = .ok x2 w) ∧
    (∀ (x0 x1 x2 x3 x4 x5 : Value) w, Sem.run P (Instr.index t (.agg #[x0, x1, x2, x3, x4, x5]) (.int .i64 3)) w = .ok x3 w) ∧
    (∀ (x0 x1 x2 x3 x4 x5 : Value) w, Sem.run P (Instr.index t (.agg #[x0, x1, x2, x3, x4, x5]) (.int .i64 4)) w = .ok x4 w) ∧
    (∀ (x0 x1 x2 x3 x4 x5 : Value) w, Sem.run P (Instr.index t (.agg #[x0, x1, x2, x3, x4, x5]) (.int .i64 5)) w = .ok x5 w) :=
  ⟨fun x0 x1 x2 x3 x4 x5 w => run_index_int t e 6 k ht he hs _ 0 _ (by omega) rfl w, fun x0 x1 x2 x3 x4 x5 w => run_index_int t e 6 k ht he hs _ 1 _ (by omega) rfl w,
   fun x0 x1 x2 x3 x4 x5 w => run_index_int t e 6 k ht he hs _ 2 _ (by omega) rfl w, fun x0 x1 x2 x3 x4 x5 w => run_index_int t e 6 k ht he hs _ 3 _ (by omega) rfl w,
   fun x0 x1 x2 x3 x4 x5 w => run_index_int t e 6 k ht he hs _ 4 _ (by omega) rfl w, fun x0 x1 x2 x3 x4 x5 w => run_index_int t e 6 k ht he hs _ 5 _ (by omega) rfl w⟩

/-- As the walk meets it: two arrays of six numbers. -/
theorem eql_six (t e : TypeId) (k k' : IntKind) (ht : P.underlying t = some (.array 6 e)) (he : P.underlying e = some (.int k')) (hs : (P.info? e).map (·.size) = some 1)
    (x0 x1 x2 x3 x4 x5 y0 y1 y2 y3 y4 y5 : Int) (w : World) :
    Sem.run P (Op.equalIn 10000 t (.agg #[.int k x0, .int k x1, .int k x2, .int k x3, .int k x4, .int k x5]) (.agg #[.int k y0, .int k y1, .int k y2, .int k y3, .int k y4, .int k y5])) w =
      .ok (decide (x0 = y0 ∧ x1 = y1 ∧ x2 = y2 ∧ x3 = y3 ∧ x4 = y4 ∧ x5 = y5)) w := by
  have := run_equalIn_ints (P := P) 9998 t e 6 k k' ht he hs [x0, x1, x2, x3, x4, x5] [y0, y1, y2, y3, y4, y5] rfl rfl w
  simp only [List.map_cons, List.map_nil] at this
  rw [this]
  congr 1
  rw [Bool.eq_iff_iff]
  simp
end
end Go.Flow
