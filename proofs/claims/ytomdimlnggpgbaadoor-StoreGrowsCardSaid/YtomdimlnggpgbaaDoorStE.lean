/- Layer 9: errors.Is of what a log's error was wrapped in, as Go's text walks it. No condition. -/
import Derived.Test.YtomdimlnggpgbaaDoorChecked
import Derived.WalkKit
import Derived.LaidEql
import Derived.Stop.Asserts
import Derived.RowKitTokens
set_option linter.unusedSimpArgs false
set_option linter.unusedVariables false
set_option linter.constructorNameAsVariable false
namespace Go.Proofs.YtomdimlnggpgbaaDoor
open Go Go.RowKit Go.Extern.Stop Go.Stop Go.Extern

theorem isTypeOf (v : Value) (w : World) : (Extern.ReflectliteType.typeOf #[.iface 206 v]).run Tryd.prog w = .ok (.iface 188 (.agg #[.pointer (some ⟨6, 206, none⟩)])) w := by kernel_rfl
def cmpExt : Array Value → Sem Value := Extern.ReflectliteType.method fun t => do Extern.Rtype.noPackHeld "Comparable" t; pure (.bool (← typeInfo t).comparable)
theorem isComparable (w : World) : (cmpExt #[.agg #[.pointer (some ⟨6, 206, none⟩)]]).run Tryd.prog w = .ok (.bool true) w := by kernel_rfl
theorem isMethodComparable (v : Value) (w : World) : (Go.method 344 188 v "Comparable").run Tryd.prog w = .ok (156, v) w := by kernel_rfl
theorem methodUnwrap (v : Value) (w : World) : (Go.method 344 134 v "Unwrap").run Tryd.prog w = .ok (152, v) w := by kernel_rfl
theorem isComp : (Tryd.prog.info? 206).map (·.comparable) = some true := by kernel_rfl
theorem isSize : (Tryd.prog.info? 232).map (·.size) = some 1 := by kernel_rfl
theorem noIsE (v : Value) (xT : TypeId) (w : World) : (Instr.typeAssert (.iface 206 v) xT 190 true).run Tryd.prog w = .ok (.tuple #[.nilIface, .bool false]) w := run_typeAssert_lacksB Tryd.underlying190 (by kernel_rfl) (by kernel_rfl) v xT w
theorem noUnwrapE (v : Value) (xT : TypeId) (w : World) : (Instr.typeAssert (.iface 206 v) xT 193 true).run Tryd.prog w = .ok (.tuple #[.nilIface, .bool false]) w := run_typeAssert_lacksB Tryd.underlying193 (by kernel_rfl) (by kernel_rfl) v xT w
theorem noUnwrapsE (v : Value) (xT : TypeId) (w : World) : (Instr.typeAssert (.iface 206 v) xT 195 true).run Tryd.prog w = .ok (.tuple #[.nilIface, .bool false]) w := run_typeAssert_lacksB Tryd.underlying195 (by kernel_rfl) (by kernel_rfl) v xT w
theorem noIsW (v : Value) (xT : TypeId) (w : World) : (Instr.typeAssert (.iface 134 v) xT 190 true).run Tryd.prog w = .ok (.tuple #[.nilIface, .bool false]) w := run_typeAssert_lacksB Tryd.underlying190 (by kernel_rfl) (by kernel_rfl) v xT w
theorem hasUnwrapW (v : Value) (xT : TypeId) (w : World) : (Instr.typeAssert (.iface 134 v) xT 193 true).run Tryd.prog w = .ok (.tuple #[.iface 134 v, .bool true]) w := run_typeAssert_hasB Tryd.underlying193 (by kernel_rfl) v xT w
/-- errors.Is(nil, x). -/
theorem is_nil (b : Addr) (w : World) :
    Calls Tryd.prog 73 #[.nilIface, .iface 206 (.pointer (some b))] w fun e w' => e = .returned (.bool false) ∧ w' = w := by
  have hn := run_eql_iface_nil_left (P := Tryd.prog) w 206 (.pointer (some b)) Tryd.underlying74
  go_enter Tryd.func73, Tryd.ntmps73
  go_wp2
  go_ret
  exact ⟨rfl, rfl⟩
set_option maxRecDepth 20000 in
/-- errors.Is(e, x), e a met that wraps x itself: one Unwrap, then equal. -/
theorem is_wrap_same (s : ByteArray) (b : Addr) (w : World) :
    Calls Tryd.prog 73 #[.iface 134 (.agg #[.string s, .iface 206 (.pointer (some b))]), .iface 206 (.pointer (some b))] w fun e w' => e = .returned (.bool true) ∧ Below w.heap.size w w' := by
  obtain ⟨i, hi, hcmp⟩ := Option.map_eq_some_iff.1 isComp
  obtain ⟨j, hj, hjs⟩ := Option.map_eq_some_iff.1 isSize
  have h8 := @run_callFunc_extern Tryd.prog 103 _ Extern.ReflectliteType.typeOf Tryd.func103 (by kernel_rfl) (by kernel_rfl) (by kernel_rfl) (by kernel_rfl)
  have h32 := @run_callFunc_extern Tryd.prog 156 _ cmpExt Tryd.func156 (by kernel_rfl) (by kernel_rfl) (by kernel_rfl) (by kernel_rfl)
  have tT := isTypeOf
  have cT := isComparable
  have mR := isMethodComparable
  have mU := methodUnwrap
  have nE := noIsE
  have uE := noUnwrapE
  have vE := noUnwrapsE
  have nW := noIsW
  have uW := hasUnwrapW
  have heq := fun w => run_eql_iface_ptr_same (P := Tryd.prog) w b Tryd.underlying74 Tryd.underlying206 hi hcmp hj
  have hty := run_eql_iface_types (P := Tryd.prog) 134 206 (.agg #[.string s, .iface 206 (.pointer (some b))]) (.pointer (some b)) Tryd.underlying74 (by decide) w
  go_enter Tryd.func73, Tryd.ntmps73
  go_wp2
  refine wp_loop_rounds 2 ?_
  rw [rounds_succ]
  go_wp2
  rw [rounds_succ]
  go_wp2
  go_ret
  exact ⟨rfl, (Below.refl _ _).alloc (Nat.le_refl _) _⟩
set_option maxRecDepth 20000 in
/-- errors.Is(e, x), e a met that wraps another one. -/
theorem is_wrap_other (s : ByteArray) (b a : Addr) (ca cb : Array Value) (ta tb : TypeId) (w : World) (hne : a ≠ b) (ha : w.heap[a.block]? = some (.cells ca ta (0, 0))) (hb : w.heap[b.block]? = some (.cells cb tb (0, 0))) :
    Calls Tryd.prog 73 #[.iface 134 (.agg #[.string s, .iface 206 (.pointer (some a))]), .iface 206 (.pointer (some b))] w fun e w' => e = .returned (.bool false) ∧ Below w.heap.size w w' := by
  obtain ⟨i, hi, hcmp⟩ := Option.map_eq_some_iff.1 isComp
  obtain ⟨j, hj, hjs⟩ := Option.map_eq_some_iff.1 isSize
  have h8 := @run_callFunc_extern Tryd.prog 103 _ Extern.ReflectliteType.typeOf Tryd.func103 (by kernel_rfl) (by kernel_rfl) (by kernel_rfl) (by kernel_rfl)
  have h32 := @run_callFunc_extern Tryd.prog 156 _ cmpExt Tryd.func156 (by kernel_rfl) (by kernel_rfl) (by kernel_rfl) (by kernel_rfl)
  have tT := isTypeOf
  have cT := isComparable
  have mR := isMethodComparable
  have mU := methodUnwrap
  have nE := noIsE
  have uE := noUnwrapE
  have vE := noUnwrapsE
  have nW := noIsW
  have uW := hasUnwrapW
  have ha' : (w.alloc (.cells #[.string s, .iface 206 (.pointer (some a))] 134)).heap[a.block]? = some (.cells ca ta (0, 0)) := (Below.heap_alloc _ _ _ (Array.getElem?_eq_some_iff.1 ha).1).trans ha
  have hb' : (w.alloc (.cells #[.string s, .iface 206 (.pointer (some a))] 134)).heap[b.block]? = some (.cells cb tb (0, 0)) := (Below.heap_alloc _ _ _ (Array.getElem?_eq_some_iff.1 hb).1).trans hb
  have heq := run_eql_iface_ptr_other (P := Tryd.prog) _ Tryd.underlying74 Tryd.underlying206 hi hcmp hj (by rw [hjs]; decide) hne ha' hb'
  have hty := run_eql_iface_types (P := Tryd.prog) 134 206 (.agg #[.string s, .iface 206 (.pointer (some a))]) (.pointer (some b)) Tryd.underlying74 (by decide) w
  go_enter Tryd.func73, Tryd.ntmps73
  go_wp2
  refine wp_loop_rounds 2 ?_
  rw [rounds_succ]
  go_wp2
  rw [rounds_succ]
  go_wp2
  go_ret
  exact ⟨rfl, (Below.refl _ _).alloc (Nat.le_refl _) _⟩
end Go.Proofs.YtomdimlnggpgbaaDoor
