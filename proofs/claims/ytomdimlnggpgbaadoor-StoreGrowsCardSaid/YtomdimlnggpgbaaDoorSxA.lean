/- A symbolic executor of functions that make, turn and share memory: pieces of memory, expressions, symbolic values, loads, quiet operations. What it tells of a piece of code is proved to be what the machine does. -/
import Derived.ChangeKeysEq
import Derived.Laws.BytesString
import Derived.Laws.CopyRow
import Derived.Laws.Rows
import Derived.Laws.Strings
import Derived.Laws.Tables
import Derived.WalkKit
set_option linter.unusedSimpArgs false
set_option linter.unusedVariables false
set_option linter.constructorNameAsVariable false
namespace Go.Sx
open Go

/-- A list, each with its place; in a form that the kernel reckons fast. -/
def mapIx {α β : Type} (f : Nat → α → β) : Nat → List α → List β
  | _, [] => []
  | n, a :: l => f n a :: mapIx f (n + 1) l
theorem mapIx_get {α β : Type} {f : Nat → α → β} : ∀ {l : List α} {n j : Nat}, (mapIx f n l)[j]? = (l[j]?).map (f (n + j))
  | [], _, _ => rfl
  | a :: l, n, 0 => rfl
  | a :: l, n, j + 1 => by
    show (mapIx f (n + 1) l)[j]? = (l[j]?).map (f (n + (j + 1)))
    rw [mapIx_get, show n + 1 + j = n + (j + 1) by omega]
theorem mapIx_get0 {α β : Type} {f : Nat → α → β} {l : List α} {j : Nat} : (mapIx f 0 l)[j]? = (l[j]?).map (f j) := by
  rw [mapIx_get, Nat.zero_add]
@[simp] theorem mapIx_length {α β : Type} {f : Nat → α → β} : ∀ {l : List α} {n : Nat}, (mapIx f n l).length = l.length
  | [], _ => rfl
  | a :: l, n => by simp [mapIx, mapIx_length (l := l)]
/-- Whether lists of numbers are the same. -/
def eqN : List Nat → List Nat → Bool
  | [], [] => true
  | a :: l, b :: m => Nat.beq a b && eqN l m
  | _, _ => false
/-- A piece of memory by itself. -/
abbrev Hl := Nat → Option Obj
def Hl.cell (h : Hl) (x y : Nat) : Option Value :=
  match h x with
  | some (.cells c _ _) => c[y]?
  | _ => none
def Hl.sub (h : Hl) (w : World) : Prop := ∀ (b : Nat) o, h b = some o → w.heap[b]? = some o
def Hl.mem (h : Hl) (b : Nat) : Prop := (h b).isSome = true
def Hl.dis (h k : Hl) : Prop := ∀ b, ¬ (h.mem b ∧ k.mem b)
def Hl.one (b : Nat) (o : Obj) : Hl := fun c => if c = b then some o else none
def Hl.none : Hl := fun _ => Option.none
def Hl.all (w : World) : Hl := fun b => w.heap[b]?
theorem Hl.one_self (b : Nat) (o : Obj) : Hl.one b o b = some o := if_pos rfl
theorem Hl.one_eq {b c : Nat} {o p : Obj} (h : Hl.one b o c = some p) : c = b ∧ p = o := by
  unfold Hl.one at h; split at h
  · exact ⟨‹_›, (Option.some.inj h).symm⟩
  · cases h
theorem Hl.one_mem {b c : Nat} {o : Obj} : (Hl.one b o).mem c ↔ c = b := by
  unfold Hl.mem Hl.one; split <;> simp [*]
theorem Hl.sub_cell {h : Hl} {w : World} (hs : h.sub w) {x y : Nat} {v : Value} (hc : h.cell x y = some v) : w.cell? ⟨x, y, Option.none⟩ = some v := by
  unfold Hl.cell at hc
  split at hc
  · rename_i hb; simp [World.cell?, hs _ _ hb, hc]
  · cases hc
theorem Hl.all_sub (w : World) : (Hl.all w).sub w := fun _ _ h => h
theorem Hl.dis_symm {h k : Hl} (d : h.dis k) : k.dis h := fun b ⟨x, y⟩ => d b ⟨y, x⟩

inductive Kd | int (k : IntKind) | bool | slice | ptr | str | map | any
  deriving DecidableEq

structure Env where
  i : Nat → Int
  b : Nat → Bool
  s : Nat → ByteArray
  v : Nat → Value
  h : Nat → Hl

/-- Expressions. -/
inductive E where
  | lit (n : Int) | var (i : Nat)
  | add (a b : E) | sub (a b : E) | mul (a b : E) | quo (a b : E) | rem (a b : E)
  | wrap (k : IntKind) (a : E)
  | bits (op : BinOp) (k : IntKind) (a b : E)
  | shl (k : IntKind) (a b : E) | shr (k : IntKind) (a b : E)
  | tt | ff | bvar (i : Nat)
  | not (a : E) | and (a b : E) | or (a b : E)
  | ite (c a b : E)
  | lt (a b : E) | le (a b : E) | eq (a b : E) | beq (a b : E)
  | hI (h : Nat) (x y : E) (j : Nat) | hB (h : Nat) (x y : E) (j : Nat) | hP (h : Nat) (x y : E) (j which : Nat) | hS (h : Nat) (x y : E) (j : Nat) | his (h : Nat) (x y : E) (j : Nat) (k : Kd)
  | svar (i : Nat) | slit (s : ByteArray) | scat (a b : E) | sbyte (a : E) | sof (h : Nat) (x y l : E)
  | slen (a : E) | sat (a i : E) | sext (a i j : E) | seq (a b : E) | slt (a b : E)
  | hmlen (h : Nat) (x : E) | vint (v : Nat) | hby (h : Nat) (x y l : E) | hism (h : Nat) (x : E) | hks (h : Nat) (x y : E) (ks : List Kd)
  deriving DecidableEq

def bitsI (op : BinOp) (k : IntKind) (x y : Int) : Int :=
  let a := BitVec.ofInt k.bits x
  let b := BitVec.ofInt k.bits y
  match op with
  | .and => k.wrap (a &&& b).toNat
  | .or => k.wrap (a ||| b).toNat
  | .xor => k.wrap (a ^^^ b).toNat
  | .andNot => k.wrap (a &&& ~~~b).toNat
  | _ => 0

/-- All pairs, one after the other. -/
def stepP : Nat × Nat → Nat × Nat
  | (0, b) => (b + 1, 0)
  | (a + 1, b) => (a, b + 1)
def unp : Nat → Nat × Nat
  | 0 => (0, 0)
  | n + 1 => stepP (unp n)
theorem unp_all : ∀ s b a : Nat, a + b = s → ∃ n, unp n = (a, b) := by
  intro s
  induction s with
  | zero => intro b a h; exact ⟨0, by rw [show a = 0 by omega, show b = 0 by omega]; rfl⟩
  | succ s ih =>
    intro b
    induction b with
    | zero => intro a h; obtain ⟨n, hn⟩ := ih s 0 (by omega); exact ⟨n + 1, by rw [unp, hn, show a = s + 1 by omega]; rfl⟩
    | succ b ihb => intro a h; obtain ⟨n, hn⟩ := ihb (a + 1) (by omega); exact ⟨n + 1, by rw [unp, hn]; rfl⟩
def tri : Nat → Nat
  | 0 => 0
  | n + 1 => tri n + n + 1
def pairN (a b : Nat) : Nat := tri (a + b) + b
theorem unp_tri : ∀ s b a : Nat, a + b = s → unp (tri s + b) = (a, b) := by
  intro s
  induction s with
  | zero => intro b a h; rw [show a = 0 by omega, show b = 0 by omega]; rfl
  | succ s ih =>
    intro b
    induction b with
    | zero => intro a h; rw [show tri (s + 1) + 0 = (tri s + s) + 1 from rfl, unp, ih s 0 (by omega), show a = s + 1 by omega]; rfl
    | succ b ihb => intro a h; rw [← Nat.add_assoc, unp, ihb (a + 1) (by omega)]; rfl
theorem unp_pair (a b : Nat) : unp (pairN a b) = (a, b) := unp_tri _ b a rfl
/-- What an opaque value is, as an interface's: nil, one, or no such. -/
def vcode : Value → Int
  | .nilIface => 0
  | .iface _ _ => 1
  | _ => 2
theorem vcode_le {v : Value} (h : vcode v ≤ 1) : v = .nilIface ∨ ∃ t x, v = .iface t x := by
  cases v <;> simp [vcode] at h ⊢
/-- A place told by two numbers: none where the block is -1, a place without cells where it is less. -/
def slP (x y : Int) : Option Addr := if 0 ≤ x then some ⟨x.toNat, y.toNat, none⟩ else if x = -1 then none else some ⟨(-x - 2).toNat, (unp y.toNat).1, some (unp y.toNat).2⟩
theorem slP_pos {x y : Int} (h : 0 ≤ x) : slP x y = some ⟨x.toNat, y.toNat, none⟩ := if_pos h
theorem slP_nil (y : Int) : slP (-1) y = none := rfl
theorem slP_some {x y : Int} (h : x ≠ -1) : (slP x y).isNone = false := by unfold slP; split <;> simp
theorem slP_isNone (x y : Int) : (slP x y).isNone = decide (x = -1) := by
  by_cases h : x = -1
  · subst h; rfl
  · rw [slP_some h]; simp [h]
theorem slP_all (a : Option Addr) : ∃ x y : Int, a = slP x y ∧ 0 ≤ y ∧ -1 ≤ y := by
  cases a with
  | none => exact ⟨-1, 0, rfl, by omega, by omega⟩
  | some q =>
    obtain ⟨b, o, s⟩ := q
    cases s with
    | none => exact ⟨b, o, by simp [slP], by omega, by omega⟩
    | some s =>
      obtain ⟨n, hn⟩ := unp_all (o + s) s o rfl
      refine ⟨-(b : Int) - 2, n, ?_, by omega, by omega⟩
      unfold slP
      rw [if_neg (by omega), if_neg (by omega), Int.toNat_natCast, hn, show (-(-(b : Int) - 2) - 2).toNat = b by omega]

def valI : Option Value → Int | some (.int _ n) => n | _ => 0
def valB : Option Value → Bool | some (.bool b) => b | _ => false
def valS : Option Value → ByteArray | some (.string s) => s | _ => .empty
def valP : Option Value → Nat → Int
  | some (.slice none _ _), 0 => -1
  | some (.slice (some ⟨b, _, none⟩) _ _), 0 => b
  | some (.slice (some ⟨b, _, some _⟩) _ _), 0 => -(b : Int) - 2
  | some (.slice (some ⟨_, o, none⟩) _ _), 1 => o
  | some (.slice (some ⟨_, o, some s⟩) _ _), 1 => pairN o s
  | some (.slice _ n _), 2 => n
  | some (.slice _ _ c), 3 => c
  | some (.pointer none), 0 => -1
  | some (.pointer (some ⟨b, _, _⟩)), 0 => b
  | some (.pointer (some ⟨_, o, _⟩)), 1 => o
  | some (.map none), 0 => -1
  | some (.map (some r)), 0 => r
  | _, _ => 0
def valIs : Option Value → Kd → Bool
  | some (.int k _), .int k' => k = k'
  | some (.bool _), .bool => true
  | some (.string _), .str => true
  | some (.slice _ _ _), .slice => true
  | some (.pointer (some ⟨_, _, none⟩)), .ptr => true
  | some (.pointer none), .ptr => true
  | some (.map _), .map => true
  | some _, .any => true
  | _, _ => false

/-- The bytes of a row's cells. -/
def bytesOf (ns : List Int) : ByteArray := ns.foldl (fun r n => r.push (UInt8.ofNat n.toNat)) ByteArray.empty
def cellInts (h : Hl) (x y n : Nat) : List Int := (List.range n).map fun j => valI (h.cell x (y + j))
/-- Are these cells bytes? -/
def cellBytes (h : Hl) (x y n : Nat) : Bool := (List.range n).all fun j => valIs (h.cell x (y + j)) (.int .u8)
/-- Are these cells of these kinds? -/
def rowIs (h : Hl) (x : Nat) : Nat → List Kd → Bool
  | _, [] => true
  | y, k :: l => valIs (h.cell x y) k && rowIs h x (y + 1) l
def isMap : Option Obj → Bool
  | some (.map _ _) => true
  | _ => false
def mapLen : Option Obj → Int
  | some (.map es _) => es.size
  | _ => 0

def ev (ρ : Env) : E → Int × Bool × ByteArray
  | .lit n => (n, false, .empty)
  | .var i => (ρ.i i, false, .empty)
  | .add a b => ((ev ρ a).1 + (ev ρ b).1, false, .empty)
  | .sub a b => ((ev ρ a).1 - (ev ρ b).1, false, .empty)
  | .mul a b => ((ev ρ a).1 * (ev ρ b).1, false, .empty)
  | .quo a b => ((ev ρ a).1.tdiv (ev ρ b).1, false, .empty)
  | .rem a b => ((ev ρ a).1.tmod (ev ρ b).1, false, .empty)
  | .wrap k a => (k.wrap (ev ρ a).1, false, .empty)
  | .bits op k a b => (bitsI op k (ev ρ a).1 (ev ρ b).1, false, .empty)
  | .shl k a b => (k.wrap ((ev ρ a).1 * 2 ^ (min (ev ρ b).1.toNat k.bits)), false, .empty)
  | .shr k a b => ((ev ρ a).1.fdiv (2 ^ (min (ev ρ b).1.toNat k.bits)), false, .empty)
  | .tt => (0, true, .empty)
  | .ff => (0, false, .empty)
  | .bvar i => (0, ρ.b i, .empty)
  | .not a => (0, !(ev ρ a).2.1, .empty)
  | .and a b => (0, (ev ρ a).2.1 && (ev ρ b).2.1, .empty)
  | .or a b => (0, (ev ρ a).2.1 || (ev ρ b).2.1, .empty)
  | .ite c a b => (if (ev ρ c).2.1 then (ev ρ a).1 else (ev ρ b).1, if (ev ρ c).2.1 then (ev ρ a).2.1 else (ev ρ b).2.1, if (ev ρ c).2.1 then (ev ρ a).2.2 else (ev ρ b).2.2)
  | .lt a b => (0, decide ((ev ρ a).1 < (ev ρ b).1), .empty)
  | .le a b => (0, decide ((ev ρ a).1 ≤ (ev ρ b).1), .empty)
  | .eq a b => (0, decide ((ev ρ a).1 = (ev ρ b).1), .empty)
  | .beq a b => (0, (ev ρ a).2.1 == (ev ρ b).2.1, .empty)
  | .hI h x y j => (valI ((ρ.h h).cell (ev ρ x).1.toNat ((ev ρ y).1.toNat + j)), false, .empty)
  | .hB h x y j => (0, valB ((ρ.h h).cell (ev ρ x).1.toNat ((ev ρ y).1.toNat + j)), .empty)
  | .hP h x y j k => (valP ((ρ.h h).cell (ev ρ x).1.toNat ((ev ρ y).1.toNat + j)) k, false, .empty)
  | .hS h x y j => (0, false, valS ((ρ.h h).cell (ev ρ x).1.toNat ((ev ρ y).1.toNat + j)))
  | .his h x y j k => (0, valIs ((ρ.h h).cell (ev ρ x).1.toNat ((ev ρ y).1.toNat + j)) k, .empty)
  | .svar i => (0, false, ρ.s i)
  | .slit s => (0, false, s)
  | .scat a b => (0, false, (ev ρ a).2.2 ++ (ev ρ b).2.2)
  | .sbyte a => (0, false, bytesOf [(ev ρ a).1])
  | .sof h x y l => (0, false, bytesOf (cellInts (ρ.h h) (ev ρ x).1.toNat (ev ρ y).1.toNat (ev ρ l).1.toNat))
  | .slen a => ((ev ρ a).2.2.size, false, .empty)
  | .sat a i => (((ev ρ a).2.2.data[(ev ρ i).1.toNat]?.getD 0).toNat, false, .empty)
  | .sext a i j => (0, false, (ev ρ a).2.2.extract (ev ρ i).1.toNat (ev ρ j).1.toNat)
  | .seq a b => (0, decide ((ev ρ a).2.2 = (ev ρ b).2.2), .empty)
  | .slt a b => (0, decide ((ev ρ a).2.2.data.toList < (ev ρ b).2.2.data.toList), .empty)
  | .hmlen h x => (mapLen (ρ.h h (ev ρ x).1.toNat), false, .empty)
  | .vint v => (vcode (ρ.v v), false, .empty)
  | .hism h x => (0, isMap (ρ.h h (ev ρ x).1.toNat), .empty)
  | .hks h x y ks => (0, rowIs (ρ.h h) (ev ρ x).1.toNat (ev ρ y).1.toNat ks, .empty)
  | .hby h x y l => (0, cellBytes (ρ.h h) (ev ρ x).1.toNat (ev ρ y).1.toNat (ev ρ l).1.toNat, .empty)

def iev (ρ : Env) (e : E) : Int := (ev ρ e).1
def bev (ρ : Env) (e : E) : Bool := (ev ρ e).2.1
def sev (ρ : Env) (e : E) : ByteArray := (ev ρ e).2.2

section
variable (ρ : Env) (a b c x y l : E)
theorem iev_lit (n : Int) : iev ρ (.lit n) = n := rfl
theorem iev_var (i : Nat) : iev ρ (.var i) = ρ.i i := rfl
theorem iev_add : iev ρ (.add a b) = iev ρ a + iev ρ b := rfl
theorem iev_sub : iev ρ (.sub a b) = iev ρ a - iev ρ b := rfl
theorem iev_mul : iev ρ (.mul a b) = iev ρ a * iev ρ b := rfl
theorem iev_quo : iev ρ (.quo a b) = (iev ρ a).tdiv (iev ρ b) := rfl
theorem iev_rem : iev ρ (.rem a b) = (iev ρ a).tmod (iev ρ b) := rfl
theorem iev_wrap (k : IntKind) : iev ρ (.wrap k a) = k.wrap (iev ρ a) := rfl
theorem iev_bits (op : BinOp) (k : IntKind) : iev ρ (.bits op k a b) = bitsI op k (iev ρ a) (iev ρ b) := rfl
theorem iev_shl (k : IntKind) : iev ρ (.shl k a b) = k.wrap (iev ρ a * 2 ^ (min (iev ρ b).toNat k.bits)) := rfl
theorem iev_shr (k : IntKind) : iev ρ (.shr k a b) = (iev ρ a).fdiv (2 ^ (min (iev ρ b).toNat k.bits)) := rfl
theorem iev_ite : iev ρ (.ite c a b) = if bev ρ c then iev ρ a else iev ρ b := rfl
theorem iev_hI (h j : Nat) : iev ρ (.hI h x y j) = valI ((ρ.h h).cell (iev ρ x).toNat ((iev ρ y).toNat + j)) := rfl
theorem iev_hP (h j k : Nat) : iev ρ (.hP h x y j k) = valP ((ρ.h h).cell (iev ρ x).toNat ((iev ρ y).toNat + j)) k := rfl
theorem iev_slen : iev ρ (.slen a) = (sev ρ a).size := rfl
theorem iev_sat : iev ρ (.sat a b) = ((sev ρ a).data[(iev ρ b).toNat]?.getD 0).toNat := rfl
theorem iev_hmlen (h : Nat) : iev ρ (.hmlen h x) = mapLen (ρ.h h (iev ρ x).toNat) := rfl
theorem iev_vint (v : Nat) : iev ρ (.vint v) = vcode (ρ.v v) := rfl
theorem bev_tt : bev ρ .tt = true := rfl
theorem bev_ff : bev ρ .ff = false := rfl
theorem bev_bvar (i : Nat) : bev ρ (.bvar i) = ρ.b i := rfl
theorem bev_not : bev ρ (.not a) = !bev ρ a := rfl
theorem bev_and : bev ρ (.and a b) = (bev ρ a && bev ρ b) := rfl
theorem bev_or : bev ρ (.or a b) = (bev ρ a || bev ρ b) := rfl
theorem bev_ite : bev ρ (.ite c a b) = if bev ρ c then bev ρ a else bev ρ b := rfl
theorem bev_lt : bev ρ (.lt a b) = decide (iev ρ a < iev ρ b) := rfl
theorem bev_le : bev ρ (.le a b) = decide (iev ρ a ≤ iev ρ b) := rfl
theorem bev_eq : bev ρ (.eq a b) = decide (iev ρ a = iev ρ b) := rfl
theorem bev_beq : bev ρ (.beq a b) = (bev ρ a == bev ρ b) := rfl
theorem bev_hB (h j : Nat) : bev ρ (.hB h x y j) = valB ((ρ.h h).cell (iev ρ x).toNat ((iev ρ y).toNat + j)) := rfl
theorem bev_his (h j : Nat) (k : Kd) : bev ρ (.his h x y j k) = valIs ((ρ.h h).cell (iev ρ x).toNat ((iev ρ y).toNat + j)) k := rfl
theorem bev_hks (h : Nat) (ks : List Kd) : bev ρ (.hks h x y ks) = rowIs (ρ.h h) (iev ρ x).toNat (iev ρ y).toNat ks := rfl
theorem bev_hby (h : Nat) : bev ρ (.hby h x y l) = cellBytes (ρ.h h) (iev ρ x).toNat (iev ρ y).toNat (iev ρ l).toNat := rfl
theorem bev_hism (h : Nat) : bev ρ (.hism h x) = isMap (ρ.h h (iev ρ x).toNat) := rfl
theorem bev_seq : bev ρ (.seq a b) = decide (sev ρ a = sev ρ b) := rfl
theorem bev_slt : bev ρ (.slt a b) = decide ((sev ρ a).data.toList < (sev ρ b).data.toList) := rfl
theorem sev_svar (i : Nat) : sev ρ (.svar i) = ρ.s i := rfl
theorem sev_slit (s : ByteArray) : sev ρ (.slit s) = s := rfl
theorem sev_scat : sev ρ (.scat a b) = sev ρ a ++ sev ρ b := rfl
theorem sev_sbyte : sev ρ (.sbyte a) = bytesOf [iev ρ a] := rfl
theorem sev_sof (h : Nat) : sev ρ (.sof h x y l) = bytesOf (cellInts (ρ.h h) (iev ρ x).toNat (iev ρ y).toNat (iev ρ l).toNat) := rfl
theorem sev_sext : sev ρ (.sext a x y) = (sev ρ a).extract (iev ρ x).toNat (iev ρ y).toNat := rfl
theorem sev_hS (h j : Nat) : sev ρ (.hS h x y j) = valS ((ρ.h h).cell (iev ρ x).toNat ((iev ρ y).toNat + j)) := rfl
theorem sev_ite : sev ρ (.ite c a b) = if bev ρ c then sev ρ a else sev ρ b := rfl
end

/-! ### A bool that holds, as a proposition -/
section
variable (ρ : Env) (a b c x y l : E)
theorem bT_tt : (bev ρ .tt = true) = True := by simp [bev_tt]
theorem bT_ff : (bev ρ .ff = true) = False := by simp [bev_ff]
theorem bT_bvar (i : Nat) : (bev ρ (.bvar i) = true) = (ρ.b i = true) := rfl
theorem bT_not : (bev ρ (.not a) = true) = ¬ (bev ρ a = true) := by simp [bev_not]
theorem bT_and : (bev ρ (.and a b) = true) = (bev ρ a = true ∧ bev ρ b = true) := by simp [bev_and]
theorem bT_or : (bev ρ (.or a b) = true) = (bev ρ a = true ∨ bev ρ b = true) := by simp [bev_or]
theorem bT_ite : (bev ρ (.ite c a b) = true) = if bev ρ c = true then bev ρ a = true else bev ρ b = true := by rw [bev_ite]; split <;> rfl
theorem bT_lt : (bev ρ (.lt a b) = true) = (iev ρ a < iev ρ b) := by simp [bev_lt]
theorem bT_le : (bev ρ (.le a b) = true) = (iev ρ a ≤ iev ρ b) := by simp [bev_le]
theorem bT_eq : (bev ρ (.eq a b) = true) = (iev ρ a = iev ρ b) := by simp [bev_eq]
theorem bT_beq : (bev ρ (.beq a b) = true) = ((bev ρ a = true) = (bev ρ b = true)) := by rw [bev_beq]; cases bev ρ a <;> cases bev ρ b <;> simp
theorem bT_seq : (bev ρ (.seq a b) = true) = (sev ρ a = sev ρ b) := by simp [bev_seq]
theorem bT_hB (h j : Nat) : (bev ρ (.hB h x y j) = true) = (valB ((ρ.h h).cell (iev ρ x).toNat ((iev ρ y).toNat + j)) = true) := rfl
theorem bT_his (h j : Nat) (k : Kd) : (bev ρ (.his h x y j k) = true) = (valIs ((ρ.h h).cell (iev ρ x).toNat ((iev ρ y).toNat + j)) k = true) := rfl
theorem bT_hks (h : Nat) (ks : List Kd) : (bev ρ (.hks h x y ks) = true) = (rowIs (ρ.h h) (iev ρ x).toNat (iev ρ y).toNat ks = true) := rfl
theorem bT_hby (h : Nat) : (bev ρ (.hby h x y l) = true) = (cellBytes (ρ.h h) (iev ρ x).toNat (iev ρ y).toNat (iev ρ l).toNat = true) := rfl
theorem bT_hism (h : Nat) : (bev ρ (.hism h x) = true) = (isMap (ρ.h h (iev ρ x).toNat) = true) := rfl
end

/-! ### Constructors that reckon what they can -/
def mkNot : E → E
  | .tt => .ff
  | .ff => .tt
  | .not a => a
  | a => .not a
theorem bev_mkNot (ρ : Env) (a : E) : bev ρ (mkNot a) = !bev ρ a := by
  unfold mkNot; split <;> simp [bev_tt, bev_ff, bev_not]
def mkAnd (a b : E) : E :=
  match a, b with
  | .tt, b => b
  | .ff, _ => .ff
  | a, .tt => a
  | _, .ff => .ff
  | a, b => if a = b then a else .and a b
theorem bev_mkAnd (ρ : Env) (a b : E) : bev ρ (mkAnd a b) = (bev ρ a && bev ρ b) := by
  unfold mkAnd; split <;> try simp [bev_tt, bev_ff, bev_and]
  split
  · rename_i h; rw [h]; simp
  · rfl
def mkOr (a b : E) : E :=
  match a, b with
  | .tt, _ => .tt
  | .ff, b => b
  | _, .tt => .tt
  | a, .ff => a
  | a, b => if b = mkNot a then .tt else .or a b
theorem bev_mkOr (ρ : Env) (a b : E) : bev ρ (mkOr a b) = (bev ρ a || bev ρ b) := by
  unfold mkOr; split <;> try simp [bev_tt, bev_ff, bev_or]
  split
  · rename_i h; rw [h, bev_mkNot, bev_tt]; cases bev ρ a <;> rfl
  · rfl
def mkIteB (c a b : E) : E :=
  match c, a, b with
  | .tt, a, _ => a
  | .ff, _, b => b
  | c, .tt, .ff => c
  | c, .tt, b => mkOr c b
  | c, .ff, b => mkAnd (mkNot c) b
  | c, a, .ff => mkAnd c a
  | c, a, .tt => mkOr (mkNot c) a
  | c, a, b => if a = b then a else .ite c a b
theorem bev_mkIteB (ρ : Env) (c a b : E) : bev ρ (mkIteB c a b) = if bev ρ c then bev ρ a else bev ρ b := by
  unfold mkIteB
  split <;> try simp only [bev_tt, bev_ff, bev_mkOr, bev_mkAnd, bev_mkNot, if_true, if_false, Bool.false_eq_true]
  case h_8 =>
    split
    · rename_i h; subst h; simp
    · rfl
  all_goals (split <;> simp_all)
def mkIte (c a b : E) : E :=
  match c with
  | .tt => a
  | .ff => b
  | c => if a = b then a else .ite c a b
theorem iev_mkIte (ρ : Env) (c a b : E) : iev ρ (mkIte c a b) = if bev ρ c then iev ρ a else iev ρ b := by
  unfold mkIte
  split
  · simp [bev_tt]
  · simp [bev_ff]
  · split
    · rename_i h; subst h; simp
    · rfl
def mkAdd : E → E → E
  | .lit a, .lit b => .lit (a + b)
  | .lit a, b => if a = 0 then b else .add (.lit a) b
  | .add a (.lit b), .lit c => .add a (.lit (b + c))
  | a, .lit b => if b = 0 then a else .add a (.lit b)
  | a, b => .add a b
theorem iev_mkAdd (ρ : Env) (a b : E) : iev ρ (mkAdd a b) = iev ρ a + iev ρ b := by
  unfold mkAdd; split <;> try rfl
  · split
    · rename_i h; subst h; simp [iev_lit]
    · rfl
  · simp only [iev_add, iev_lit]; omega
  · split
    · rename_i h; subst h; simp [iev_lit]
    · rfl
def mkSub : E → E → E
  | .lit a, .lit b => .lit (a - b)
  | a, .lit b => if b = 0 then a else .sub a (.lit b)
  | a, b => if a = b then .lit 0 else .sub a b
theorem iev_mkSub (ρ : Env) (a b : E) : iev ρ (mkSub a b) = iev ρ a - iev ρ b := by
  unfold mkSub; split <;> try rfl
  · split
    · rename_i h; subst h; simp [iev_lit]
    · rfl
  · split
    · rename_i h; subst h; simp [iev_lit]
    · rfl
def mkMul : E → E → E
  | .lit a, .lit b => .lit (a * b)
  | .lit a, b => if a = 1 then b else .mul (.lit a) b
  | a, .lit b => if b = 1 then a else .mul a (.lit b)
  | a, b => .mul a b
theorem iev_mkMul (ρ : Env) (a b : E) : iev ρ (mkMul a b) = iev ρ a * iev ρ b := by
  unfold mkMul; split <;> try rfl
  · split
    · rename_i h; subst h; simp [iev_lit]
    · rfl
  · split
    · rename_i h; subst h; simp [iev_lit]
    · rfl
def mkWrap (k : IntKind) : E → E
  | .lit a => .lit (k.wrap a)
  | a => .wrap k a
theorem iev_mkWrap (ρ : Env) (k : IntKind) (a : E) : iev ρ (mkWrap k a) = k.wrap (iev ρ a) := by
  unfold mkWrap; split <;> rfl
def mkLt : E → E → E
  | .lit a, .lit b => if a < b then .tt else .ff
  | a, b => .lt a b
theorem bev_mkLt (ρ : Env) (a b : E) : bev ρ (mkLt a b) = decide (iev ρ a < iev ρ b) := by
  unfold mkLt; split
  · split <;> rename_i h <;> simp [bev_tt, bev_ff, iev_lit, h] <;> omega
  · rfl
def mkLe : E → E → E
  | .lit a, .lit b => if a ≤ b then .tt else .ff
  | a, b => if a = b then .tt else .le a b
theorem bev_mkLe (ρ : Env) (a b : E) : bev ρ (mkLe a b) = decide (iev ρ a ≤ iev ρ b) := by
  unfold mkLe; split
  · split <;> rename_i h <;> simp [bev_tt, bev_ff, iev_lit, h] <;> omega
  · split
    · rename_i h; subst h; simp [bev_tt]
    · rfl
def mkEq : E → E → E
  | .lit a, .lit b => if a = b then .tt else .ff
  | a, b => if a = b then .tt else .eq a b
theorem bev_mkEq (ρ : Env) (a b : E) : bev ρ (mkEq a b) = decide (iev ρ a = iev ρ b) := by
  unfold mkEq; split
  · split <;> rename_i h <;> simp [bev_tt, bev_ff, iev_lit, h]
  · split
    · rename_i h; subst h; simp [bev_tt]
    · rfl
def mkBeq : E → E → E
  | .tt, b => b
  | .ff, b => mkNot b
  | a, .tt => a
  | a, .ff => mkNot a
  | a, b => if a = b then .tt else .beq a b
theorem bev_mkBeq (ρ : Env) (a b : E) : bev ρ (mkBeq a b) = (bev ρ a == bev ρ b) := by
  unfold mkBeq; split <;> try simp only [bev_tt, bev_ff, bev_mkNot]
  · simp
  · cases bev ρ b <;> rfl
  · simp
  · cases bev ρ a <;> rfl
  · split
    · rename_i h; subst h; simp [bev_tt]
    · rfl
def mkSeq : E → E → E
  | .slit a, .slit b => if a = b then .tt else .ff
  | a, b => if a = b then .tt else .seq a b
theorem bev_mkSeq (ρ : Env) (a b : E) : bev ρ (mkSeq a b) = decide (sev ρ a = sev ρ b) := by
  unfold mkSeq; split
  · split <;> rename_i h <;> simp [bev_tt, bev_ff, sev_slit, h]
  · split
    · rename_i h; subst h; simp [bev_tt]
    · rfl
def mkCat : E → E → E
  | .slit a, .slit b => .slit (a ++ b)
  | a, b => .scat a b
theorem sev_mkCat (ρ : Env) (a b : E) : sev ρ (mkCat a b) = sev ρ a ++ sev ρ b := by
  unfold mkCat; split <;> rfl
def mkLen : E → E
  | .slit a => .lit a.size
  | a => .slen a
theorem iev_mkLen (ρ : Env) (a : E) : iev ρ (mkLen a) = (sev ρ a).size := by
  unfold mkLen; split <;> rfl

/-! ### What the path tells -/
def Path (ρ : Env) (path : List E) : Prop := ∀ e ∈ path, bev ρ e = true
def maxO : Option Int → Option Int → Option Int
  | some a, some b => some (max a b)
  | some a, none => some a
  | none, b => b
def minO : Option Int → Option Int → Option Int
  | some a, some b => some (min a b)
  | some a, none => some a
  | none, b => b
/-- A bound that a fact gives. -/
def lbF (e : E) : E → Option Int
  | .le (.lit n) x => if x = e then some n else none
  | .lt (.lit n) x => if x = e then some (n + 1) else none
  | .eq x (.lit n) => if x = e then some n else none
  | .not (.lt x (.lit n)) => if x = e then some n else none
  | .not (.le x (.lit n)) => if x = e then some (n + 1) else none
  | _ => none
def ubF (e : E) : E → Option Int
  | .le x (.lit n) => if x = e then some n else none
  | .lt x (.lit n) => if x = e then some (n - 1) else none
  | .eq x (.lit n) => if x = e then some n else none
  | .not (.lt (.lit n) x) => if x = e then some n else none
  | .not (.le (.lit n) x) => if x = e then some (n - 1) else none
  | _ => none
def lbP (path : List E) (e : E) : Option Int := path.foldl (fun a f => maxO a (lbF e f)) none
def ubP (path : List E) (e : E) : Option Int := path.foldl (fun a f => minO a (ubF e f)) none
def lb (path : List E) : E → Option Int
  | .lit n => some n
  | .add a b => maxO (lbP path (.add a b)) (match lb path a, lb path b with | some x, some y => some (x + y) | _, _ => none)
  | .mul a (.lit k) => maxO (lbP path (.mul a (.lit k))) (match lb path a with | some x => if 0 ≤ k then some (x * k) else none | none => none)
  | .slen a => maxO (lbP path (.slen a)) (some 0)
  | e => lbP path e
def ub (path : List E) : E → Option Int
  | .lit n => some n
  | .add a b => minO (ubP path (.add a b)) (match ub path a, ub path b with | some x, some y => some (x + y) | _, _ => none)
  | .mul a (.lit k) => minO (ubP path (.mul a (.lit k))) (match ub path a with | some x => if 0 ≤ k then some (x * k) else none | none => none)
  | e => ubP path e
def leO : Option Int → Option Int → Bool
  | some a, some b => decide (a ≤ b)
  | _, _ => false
def ltO : Option Int → Option Int → Bool
  | some a, some b => decide (a < b)
  | _, _ => false
def known1 (path : List E) (e : E) : Option Bool :=
  if path.contains e then some true else if path.contains (mkNot e) then some false else match e with
  | .le a b => if leO (ub path a) (lb path b) then some true else if ltO (ub path b) (lb path a) then some false else none
  | .lt a b => if ltO (ub path a) (lb path b) then some true else if leO (ub path b) (lb path a) then some false else none
  | .eq a b => if ltO (ub path a) (lb path b) || ltO (ub path b) (lb path a) then some false else if leO (ub path a) (lb path b) && leO (ub path b) (lb path a) then some true else none
  | _ => none
/-- What the path tells of a bool. -/
def known (path : List E) (e : E) : Option Bool :=
  match e with
  | .tt => some true
  | .ff => some false
  | .not e => (known1 path e).map not
  | .and a b => match known1 path a, known1 path b with
    | some true, some true => some true
    | some false, _ => some false
    | _, some false => some false
    | _, _ => known1 path (.and a b)
  | .or a b => match known1 path a, known1 path b with
    | some false, some false => some false
    | some true, _ => some true
    | _, some true => some true
    | _, _ => known1 path (.or a b)
  | e => known1 path e

section
variable {ρ : Env} {path : List E}
theorem lbF_sound {e f : E} {n : Int} (hf : bev ρ f = true) (h : lbF e f = some n) : n ≤ iev ρ e := by
  unfold lbF at h
  split at h <;> first | (cases h; done) | skip
  all_goals (split at h <;> first | (cases h; done) | skip)
  all_goals (cases h; rename_i he; subst he; simp only [bT_le, bT_lt, bT_eq, bT_not, iev_lit] at hf; omega)
theorem ubF_sound {e f : E} {n : Int} (hf : bev ρ f = true) (h : ubF e f = some n) : iev ρ e ≤ n := by
  unfold ubF at h
  split at h <;> first | (cases h; done) | skip
  all_goals (split at h <;> first | (cases h; done) | skip)
  all_goals (cases h; rename_i he; subst he; simp only [bT_le, bT_lt, bT_eq, bT_not, iev_lit] at hf; omega)
theorem maxO_le {a b : Option Int} {x : Int} (ha : ∀ n, a = some n → n ≤ x) (hb : ∀ n, b = some n → n ≤ x) : ∀ n, maxO a b = some n → n ≤ x := by
  intro n h
  unfold maxO at h
  split at h
  · cases h; have h1 := ha _ rfl; have h2 := hb _ rfl; omega
  · cases h; exact ha _ rfl
  · exact hb _ h
theorem minO_ge {a b : Option Int} {x : Int} (ha : ∀ n, a = some n → x ≤ n) (hb : ∀ n, b = some n → x ≤ n) : ∀ n, minO a b = some n → x ≤ n := by
  intro n h
  unfold minO at h
  split at h
  · cases h; have h1 := ha _ rfl; have h2 := hb _ rfl; omega
  · cases h; exact ha _ rfl
  · exact hb _ h
theorem lbP_sound (hp : Path ρ path) {e : E} : ∀ n, lbP path e = some n → n ≤ iev ρ e := by
  have key : ∀ (l : List E) (a : Option Int), (∀ f ∈ l, bev ρ f = true) → (∀ n, a = some n → n ≤ iev ρ e) → ∀ n, l.foldl (fun a f => maxO a (lbF e f)) a = some n → n ≤ iev ρ e := by
    intro l
    induction l with
    | nil => intro a _ ha n h; exact ha n h
    | cons f l ih =>
      intro a hl ha n h
      exact ih _ (fun g hg => hl g (List.mem_cons_of_mem _ hg)) (maxO_le ha fun m hm => lbF_sound (hl f (List.mem_cons_self ..)) hm) n h
  exact key path none hp (fun n h => by cases h)
theorem ubP_sound (hp : Path ρ path) {e : E} : ∀ n, ubP path e = some n → iev ρ e ≤ n := by
  have key : ∀ (l : List E) (a : Option Int), (∀ f ∈ l, bev ρ f = true) → (∀ n, a = some n → iev ρ e ≤ n) → ∀ n, l.foldl (fun a f => minO a (ubF e f)) a = some n → iev ρ e ≤ n := by
    intro l
    induction l with
    | nil => intro a _ ha n h; exact ha n h
    | cons f l ih =>
      intro a hl ha n h
      exact ih _ (fun g hg => hl g (List.mem_cons_of_mem _ hg)) (minO_ge ha fun m hm => ubF_sound (hl f (List.mem_cons_self ..)) hm) n h
  exact key path none hp (fun n h => by cases h)
theorem lb_sound (hp : Path ρ path) : ∀ (e : E) n, lb path e = some n → n ≤ iev ρ e := by
  intro e
  fun_induction lb path e with
  | case1 m => intro n h; cases h; rw [iev_lit]; omega
  | case2 a b iha ihb =>
    refine maxO_le (lbP_sound hp) fun n h => ?_
    split at h
    · rename_i x y hx hy; cases h; have h1 := iha _ hx; have h2 := ihb _ hy; rw [iev_add]; omega
    · cases h
  | case3 a k iha =>
    refine maxO_le (lbP_sound hp) fun n h => ?_
    split at h
    · rename_i x hx
      split at h
      · cases h; have h1 := iha _ hx; rw [iev_mul, iev_lit]; exact Int.mul_le_mul_of_nonneg_right h1 ‹_›
      · cases h
    · cases h
  | case4 a =>
    refine maxO_le (lbP_sound hp) fun n h => ?_
    cases h; rw [iev_slen]; omega
  | case5 e => exact lbP_sound hp
theorem ub_sound (hp : Path ρ path) : ∀ (e : E) n, ub path e = some n → iev ρ e ≤ n := by
  intro e
  fun_induction ub path e with
  | case1 m => intro n h; cases h; rw [iev_lit]; omega
  | case2 a b iha ihb =>
    refine minO_ge (ubP_sound hp) fun n h => ?_
    split at h
    · rename_i x y hx hy; cases h; have h1 := iha _ hx; have h2 := ihb _ hy; rw [iev_add]; omega
    · cases h
  | case3 a k iha =>
    refine minO_ge (ubP_sound hp) fun n h => ?_
    split at h
    · rename_i x hx
      split at h
      · cases h; have h1 := iha _ hx; rw [iev_mul, iev_lit]; exact Int.mul_le_mul_of_nonneg_right h1 ‹_›
      · cases h
    · cases h
  | case4 e => exact ubP_sound hp
theorem leO_sound {a b : Option Int} {x y : Int} (h : leO a b = true) (ha : ∀ n, a = some n → x ≤ n) (hb : ∀ n, b = some n → n ≤ y) : x ≤ y := by
  unfold leO at h; split at h
  · have h1 := ha _ rfl; have h2 := hb _ rfl; simp only [decide_eq_true_eq] at h; omega
  · cases h
theorem ltO_sound {a b : Option Int} {x y : Int} (h : ltO a b = true) (ha : ∀ n, a = some n → x ≤ n) (hb : ∀ n, b = some n → n ≤ y) : x < y := by
  unfold ltO at h; split at h
  · have h1 := ha _ rfl; have h2 := hb _ rfl; simp only [decide_eq_true_eq] at h; omega
  · cases h
theorem known1_sound (hp : Path ρ path) {e : E} {t : Bool} (h : known1 path e = some t) : bev ρ e = t := by
  unfold known1 at h
  split at h
  · rename_i hc; cases h; exact hp e (by simpa using hc)
  · split at h
    · rename_i hc
      cases h
      have := hp _ (List.contains_iff_mem.1 hc)
      rw [bev_mkNot] at this
      simpa using this
    · split at h
      · rename_i a b _ _
        split at h
        · rename_i hc; cases h; have := leO_sound hc (ub_sound hp a) (lb_sound hp b); rw [bev_le]; simpa using this
        · split at h
          · rename_i hc; cases h; have := ltO_sound hc (ub_sound hp b) (lb_sound hp a); rw [bev_le]; simp; omega
          · cases h
      · rename_i a b _ _
        split at h
        · rename_i hc; cases h; have := ltO_sound hc (ub_sound hp a) (lb_sound hp b); rw [bev_lt]; simpa using this
        · split at h
          · rename_i hc; cases h; have := leO_sound hc (ub_sound hp b) (lb_sound hp a); rw [bev_lt]; simp; omega
          · cases h
      · rename_i a b _ _
        split at h
        · rename_i hc
          cases h
          rw [Bool.or_eq_true] at hc
          rw [bev_eq]
          rcases hc with hc | hc
          · have := ltO_sound hc (ub_sound hp a) (lb_sound hp b); simp; omega
          · have := ltO_sound hc (ub_sound hp b) (lb_sound hp a); simp; omega
        · split at h
          · rename_i hc
            cases h
            rw [Bool.and_eq_true] at hc
            have h1 := leO_sound hc.1 (ub_sound hp a) (lb_sound hp b)
            have h2 := leO_sound hc.2 (ub_sound hp b) (lb_sound hp a)
            rw [bev_eq]; simp; omega
          · cases h
      · cases h
theorem known_sound (hp : Path ρ path) {e : E} {t : Bool} (h : known path e = some t) : bev ρ e = t := by
  unfold known at h
  split at h
  · cases h; rfl
  · cases h; rfl
  · simp only [Option.map_eq_some_iff] at h
    obtain ⟨b, hb, rfl⟩ := h
    rw [bev_not, known1_sound hp hb]
  · split at h
    · rename_i h1 h2; cases h; rw [bev_and, known1_sound hp h1, known1_sound hp h2]; rfl
    · rename_i h1; cases h; rw [bev_and, known1_sound hp h1]; rfl
    · rename_i h1 _; cases h; rw [bev_and, known1_sound hp h1]; simp
    · exact known1_sound hp h
  · split at h
    · rename_i h1 h2; cases h; rw [bev_or, known1_sound hp h1, known1_sound hp h2]; rfl
    · rename_i h1; cases h; rw [bev_or, known1_sound hp h1]; rfl
    · rename_i h1 _; cases h; rw [bev_or, known1_sound hp h1]; simp
    · exact known1_sound hp h
  · exact known1_sound hp h
end

/-! ### Symbolic values -/
inductive CV where
  | int (k : IntKind) (e : E) | bool (e : E) | str (e : E)
  | pti (a o s n : Nat) (i : E)
  | hptr (x y : E) | sl (x y l c : E) | map (x : E)
  | vr (j : Nat) | hv (h : Nat) (x y : E) (j : Nat)
  | val (v : Value)
  | clo (f : Nat) (x : E)
inductive SV where | one (c : CV) | agg (l : List CV)
inductive TV where | sv (s : SV) | tup (l : List SV)

def CV.ev (ρ : Env) : CV → Value
  | .int k e => .int k (iev ρ e)
  | .bool e => .bool (bev ρ e)
  | .str e => .string (sev ρ e)
  | .pti a o s _ i => .pointer (slP (ρ.i a) ((o : Int) + (s : Int) * iev ρ i))
  | .hptr x y => .pointer (slP (iev ρ x) (iev ρ y))
  | .sl x y l c => .slice (slP (iev ρ x) (iev ρ y)) (iev ρ l).toNat (iev ρ c).toNat
  | .map x => .map (if iev ρ x = -1 then none else some (iev ρ x).toNat)
  | .vr j => ρ.v j
  | .hv h x y j => ((ρ.h h).cell (iev ρ x).toNat ((iev ρ y).toNat + j)).getD (.bool false)
  | .val v => v
  | .clo f x => .func (.func f) #[] #[.pointer (slP (iev ρ x) 0)]
def SV.ev (ρ : Env) : SV → Value
  | .one c => c.ev ρ
  | .agg l => .agg (l.map (CV.ev ρ)).toArray
def TV.ev (ρ : Env) : TV → Value
  | .sv s => s.ev ρ
  | .tup l => .tuple (l.map (SV.ev ρ)).toArray

def liftC : Value → CV
  | .int k n => .int k (.lit n)
  | .bool true => .bool .tt
  | .bool false => .bool .ff
  | .string s => .str (.slit s)
  | .slice none n c => .sl (.lit (-1)) (.lit 0) (.lit n) (.lit c)
  | .pointer none => .hptr (.lit (-1)) (.lit 0)
  | .map none => .map (.lit (-1))
  | v => .val v
theorem liftC_ev (ρ : Env) (v : Value) : (liftC v).ev ρ = v := by
  unfold liftC; split <;> rfl
def lift : Value → TV
  | .agg cs => .sv (.agg (cs.toList.map liftC))
  | v => .sv (.one (liftC v))
theorem map_liftC (ρ : Env) (l : List Value) : (l.map liftC).map (CV.ev ρ) = l := by
  induction l with
  | nil => rfl
  | cons v l ih => simp only [List.map_cons, liftC_ev, ih]
theorem lift_ev (ρ : Env) (v : Value) : (lift v).ev ρ = v := by
  unfold lift; split
  · simp only [TV.ev, SV.ev, map_liftC]
  · exact liftC_ev ρ v

def sameV : Value → Value → Bool
  | .nilFunc, .nilFunc => true
  | .nilIface, .nilIface => true
  | .func (.func f) a b, .func (.func g) c d => f == g && a.isEmpty && b.isEmpty && c.isEmpty && d.isEmpty
  | _, _ => false
theorem sameV_eq {a b : Value} (h : sameV a b = true) : a = b := by
  unfold sameV at h; split at h <;> simp_all

def mergeCV (c : E) : CV → CV → Option CV
  | .int k e, .int k' e' => if k = k' then some (.int k (mkIte c e e')) else none
  | .bool e, .bool e' => some (.bool (mkIteB c e e'))
  | .hptr x y, .hptr x' y' => some (.hptr (mkIte c x x') (mkIte c y y'))
  | .sl x y l k, .sl x' y' l' k' => some (.sl (mkIte c x x') (mkIte c y y') (mkIte c l l') (mkIte c k k'))
  | .map x, .map x' => some (.map (mkIte c x x'))
  | .vr j, .vr k => if j = k then some (.vr j) else none
  | .val v, .val v' => if sameV v v' then some (.val v) else none
  | _, _ => none
theorem mergeCV_ev {ρ : Env} {c : E} {a b v : CV} (h : mergeCV c a b = some v) : v.ev ρ = if bev ρ c then a.ev ρ else b.ev ρ := by
  unfold mergeCV at h
  split at h
  · split at h
    · rename_i hk; subst hk; cases h; simp only [CV.ev, iev_mkIte]; split <;> rfl
    · cases h
  · cases h; simp only [CV.ev, bev_mkIteB]; split <;> rfl
  · cases h; simp only [CV.ev, iev_mkIte]; split <;> rfl
  · cases h; simp only [CV.ev, iev_mkIte]; split <;> rfl
  · cases h; simp only [CV.ev, iev_mkIte]; split <;> rfl
  · split at h
    · rename_i hk; subst hk; cases h; simp
    · cases h
  · split at h
    · rename_i hv; cases h; simp [CV.ev, sameV_eq hv]
    · cases h
  · cases h
def mergeL (c : E) : List CV → List CV → Option (List CV)
  | [], [] => some []
  | a :: l, b :: m => match mergeCV c a b, mergeL c l m with
    | some v, some r => some (v :: r)
    | _, _ => none
  | _, _ => none
theorem mergeL_ev {ρ : Env} {c : E} : ∀ {l m r : List CV}, mergeL c l m = some r → r.map (CV.ev ρ) = if bev ρ c then l.map (CV.ev ρ) else m.map (CV.ev ρ)
  | [], [], r, h => by cases h; simp
  | a :: l, b :: m, r, h => by
    unfold mergeL at h
    split at h
    · rename_i v r' h1 h2
      cases h
      have e1 := mergeCV_ev (ρ := ρ) h1
      have e2 := mergeL_ev (ρ := ρ) h2
      simp only [List.map_cons, e1, e2]
      split <;> rfl
    · cases h
  | [], _ :: _, _, h => by simp [mergeL] at h
  | _ :: _, [], _, h => by simp [mergeL] at h
def mergeSV (c : E) : SV → SV → Option SV
  | .one a, .one b => (mergeCV c a b).map .one
  | .agg l, .agg m => (mergeL c l m).map .agg
  | _, _ => none
theorem mergeSV_ev {ρ : Env} {c : E} {a b v : SV} (h : mergeSV c a b = some v) : v.ev ρ = if bev ρ c then a.ev ρ else b.ev ρ := by
  unfold mergeSV at h
  split at h
  · simp only [Option.map_eq_some_iff] at h
    obtain ⟨x, hx, rfl⟩ := h
    exact mergeCV_ev hx
  · simp only [Option.map_eq_some_iff] at h
    obtain ⟨x, hx, rfl⟩ := h
    simp only [SV.ev, mergeL_ev hx]
    split <;> rfl
  · cases h

/-! ### Which variables are named -/
def E.upto (n : Nat) : E → Bool
  | .lit _ | .tt | .ff | .slit _ => true
  | .var i | .bvar i | .svar i | .vint i => decide (i < n)
  | .add a b | .sub a b | .mul a b | .quo a b | .rem a b | .bits _ _ a b | .shl _ a b | .shr _ a b | .and a b | .or a b | .lt a b | .le a b | .eq a b | .beq a b | .scat a b | .sat a b | .seq a b | .slt a b => a.upto n && b.upto n
  | .wrap _ a | .not a | .sbyte a | .slen a => a.upto n
  | .ite c a b | .sext c a b => c.upto n && a.upto n && b.upto n
  | .hks h x y _ | .hI h x y _ | .hB h x y _ | .hP h x y _ _ | .his h x y _ _ | .hS h x y _ => decide (h < n) && x.upto n && y.upto n
  | .sof h x y l | .hby h x y l => decide (h < n) && x.upto n && y.upto n && l.upto n
  | .hmlen h x | .hism h x => decide (h < n) && x.upto n

structure Agree (n : Nat) (ρ ρ' : Env) : Prop where
  i : ∀ k, k < n → ρ'.i k = ρ.i k
  b : ∀ k, k < n → ρ'.b k = ρ.b k
  s : ∀ k, k < n → ρ'.s k = ρ.s k
  v : ∀ k, k < n → ρ'.v k = ρ.v k
  h : ∀ k, k < n → ρ'.h k = ρ.h k
theorem Agree.refl (n : Nat) (ρ : Env) : Agree n ρ ρ := ⟨fun _ _ => rfl, fun _ _ => rfl, fun _ _ => rfl, fun _ _ => rfl, fun _ _ => rfl⟩
theorem Agree.trans {n : Nat} {a b c : Env} (h : Agree n a b) (k : Agree n b c) : Agree n a c :=
  ⟨fun i hi => (k.i i hi).trans (h.i i hi), fun i hi => (k.b i hi).trans (h.b i hi), fun i hi => (k.s i hi).trans (h.s i hi), fun i hi => (k.v i hi).trans (h.v i hi), fun i hi => (k.h i hi).trans (h.h i hi)⟩
theorem Agree.mono {n m : Nat} {a b : Env} (h : Agree n a b) (hm : m ≤ n) : Agree m a b := ⟨fun i hi => h.i i (by omega), fun i hi => h.b i (by omega), fun i hi => h.s i (by omega), fun i hi => h.v i (by omega), fun i hi => h.h i (by omega)⟩

theorem ev_agree {n : Nat} {ρ ρ' : Env} (h : Agree n ρ ρ') : ∀ e : E, e.upto n = true → ev ρ' e = ev ρ e := by
  intro e
  induction e with
  | var i => intro hb; simp only [E.upto, decide_eq_true_eq] at hb; simp only [ev, h.i i hb]
  | bvar i => intro hb; simp only [E.upto, decide_eq_true_eq] at hb; simp only [ev, h.b i hb]
  | svar i => intro hb; simp only [E.upto, decide_eq_true_eq] at hb; simp only [ev, h.s i hb]
  | vint i => intro hb; simp only [E.upto, decide_eq_true_eq] at hb; simp only [ev, h.v i hb]
  | lit _ => intro _; rfl
  | slit _ => intro _; rfl
  | tt => intro _; rfl
  | ff => intro _; rfl
  | wrap k a ih => intro hb; simp only [E.upto] at hb; simp only [ev, ih hb]
  | not a ih => intro hb; simp only [E.upto] at hb; simp only [ev, ih hb]
  | sbyte a ih => intro hb; simp only [E.upto] at hb; simp only [ev, ih hb]
  | slen a ih => intro hb; simp only [E.upto] at hb; simp only [ev, ih hb]
  | ite c a b ihc iha ihb => intro hb; simp only [E.upto, Bool.and_eq_true] at hb; simp only [ev, ihc hb.1.1, iha hb.1.2, ihb hb.2]
  | sext c a b ihc iha ihb => intro hb; simp only [E.upto, Bool.and_eq_true] at hb; simp only [ev, ihc hb.1.1, iha hb.1.2, ihb hb.2]
  | hI k x y j ihx ihy => intro hb; simp only [E.upto, Bool.and_eq_true, decide_eq_true_eq] at hb; simp only [ev, ihx hb.1.2, ihy hb.2, h.h k hb.1.1]
  | hB k x y j ihx ihy => intro hb; simp only [E.upto, Bool.and_eq_true, decide_eq_true_eq] at hb; simp only [ev, ihx hb.1.2, ihy hb.2, h.h k hb.1.1]
  | hS k x y j ihx ihy => intro hb; simp only [E.upto, Bool.and_eq_true, decide_eq_true_eq] at hb; simp only [ev, ihx hb.1.2, ihy hb.2, h.h k hb.1.1]
  | hP k x y j q ihx ihy => intro hb; simp only [E.upto, Bool.and_eq_true, decide_eq_true_eq] at hb; simp only [ev, ihx hb.1.2, ihy hb.2, h.h k hb.1.1]
  | his k x y j q ihx ihy => intro hb; simp only [E.upto, Bool.and_eq_true, decide_eq_true_eq] at hb; simp only [ev, ihx hb.1.2, ihy hb.2, h.h k hb.1.1]
  | hism k x ihx => intro hb; simp only [E.upto, Bool.and_eq_true, decide_eq_true_eq] at hb; simp only [ev, ihx hb.2, h.h k hb.1]
  | hmlen k x ihx => intro hb; simp only [E.upto, Bool.and_eq_true, decide_eq_true_eq] at hb; simp only [ev, ihx hb.2, h.h k hb.1]
  | hks k x y ks ihx ihy => intro hb; simp only [E.upto, Bool.and_eq_true, decide_eq_true_eq] at hb; simp only [ev, ihx hb.1.2, ihy hb.2, h.h k hb.1.1]
  | hby k x y l ihx ihy ihl => intro hb; simp only [E.upto, Bool.and_eq_true, decide_eq_true_eq] at hb; simp only [ev, ihx hb.1.1.2, ihy hb.1.2, ihl hb.2, h.h k hb.1.1.1]
  | sof k x y l ihx ihy ihl => intro hb; simp only [E.upto, Bool.and_eq_true, decide_eq_true_eq] at hb; simp only [ev, ihx hb.1.1.2, ihy hb.1.2, ihl hb.2, h.h k hb.1.1.1]
  | _ => rename_i iha ihb; intro hb; simp only [E.upto, Bool.and_eq_true] at hb; simp only [ev, iha hb.1, ihb hb.2]
theorem iev_agree {n : Nat} {ρ ρ' : Env} (h : Agree n ρ ρ') {e : E} (hb : e.upto n = true) : iev ρ' e = iev ρ e := by unfold iev; rw [ev_agree h e hb]
theorem bev_agree {n : Nat} {ρ ρ' : Env} (h : Agree n ρ ρ') {e : E} (hb : e.upto n = true) : bev ρ' e = bev ρ e := by unfold bev; rw [ev_agree h e hb]
theorem sev_agree {n : Nat} {ρ ρ' : Env} (h : Agree n ρ ρ') {e : E} (hb : e.upto n = true) : sev ρ' e = sev ρ e := by unfold sev; rw [ev_agree h e hb]

def CV.upto (n : Nat) : CV → Bool
  | .int _ e | .bool e | .str e | .map e => e.upto n
  | .pti a _ _ _ i => decide (a < n) && i.upto n
  | .hptr x y => x.upto n && y.upto n
  | .sl x y l c => x.upto n && y.upto n && l.upto n && c.upto n
  | .vr j => decide (j < n)
  | .hv h x y _ => decide (h < n) && x.upto n && y.upto n
  | .val _ => true
  | .clo _ x => x.upto n
def SV.upto (n : Nat) : SV → Bool
  | .one c => c.upto n
  | .agg l => l.all (·.upto n)
def TV.upto (n : Nat) : TV → Bool
  | .sv s => s.upto n
  | .tup l => l.all (·.upto n)
theorem CV.agree {ρ ρ' : Env} {m : Nat} (h : Agree m ρ ρ') (c : CV) (hb : c.upto m = true) : c.ev ρ' = c.ev ρ := by
  cases c <;> simp only [CV.upto, Bool.and_eq_true, decide_eq_true_eq] at hb <;> simp only [CV.ev]
  · rw [iev_agree h hb]
  · rw [bev_agree h hb]
  · rw [sev_agree h hb]
  · rw [h.i _ hb.1, iev_agree h hb.2]
  · rw [iev_agree h hb.1, iev_agree h hb.2]
  · rw [iev_agree h hb.1.1.1, iev_agree h hb.1.1.2, iev_agree h hb.1.2, iev_agree h hb.2]
  · rw [iev_agree h hb]
  · rw [h.v _ hb]
  · rw [iev_agree h hb.1.2, iev_agree h hb.2, h.h _ hb.1.1]
  · rw [iev_agree h hb]
theorem CV.agreeL {ρ ρ' : Env} {m : Nat} (h : Agree m ρ ρ') (l : List CV) (hb : l.all (·.upto m) = true) : l.map (CV.ev ρ') = l.map (CV.ev ρ) := by
  rw [List.all_eq_true] at hb
  exact List.map_congr_left fun c hc => CV.agree h c (hb c hc)
theorem SV.agree {ρ ρ' : Env} {m : Nat} (h : Agree m ρ ρ') (s : SV) (hb : s.upto m = true) : s.ev ρ' = s.ev ρ := by
  cases s with
  | one c => exact CV.agree h c hb
  | agg l => simp only [SV.ev, CV.agreeL h l hb]
theorem TV.agree {ρ ρ' : Env} {m : Nat} (h : Agree m ρ ρ') (s : TV) (hb : s.upto m = true) : s.ev ρ' = s.ev ρ := by
  cases s with
  | sv c => exact SV.agree h c hb
  | tup l =>
    simp only [TV.upto, List.all_eq_true] at hb
    simp only [TV.ev, List.map_congr_left fun c hc => SV.agree h c (hb c hc)]
theorem TV.agreeL {ρ ρ' : Env} {m : Nat} (h : Agree m ρ ρ') (l : List TV) (hb : l.all (·.upto m) = true) : l.map (TV.ev ρ') = l.map (TV.ev ρ) := by
  rw [List.all_eq_true] at hb
  exact List.map_congr_left fun c hc => TV.agree h c (hb c hc)
theorem Path.agree {ρ ρ' : Env} {m : Nat} {path : List E} (h : Agree m ρ ρ') (hp : Path ρ path) (hb : path.all (·.upto m) = true) : Path ρ' path := by
  rw [List.all_eq_true] at hb
  intro e he
  rw [bev_agree h (hb e he)]; exact hp e he
end Go.Sx

namespace Go.Sx
open Go

/-- A piece of memory that is known: a block's cells, one by one; what is owned as a whole; what is only read. -/
inductive Res where
  | blk (a : Nat) (l : List CV) (T : TypeId)
  | hp (k : Nat) (vers : List Nat) (tags links : List E)
  | ro (k : Nat) (tags : List E) (any : Bool)
  | dead
def Res.own : Res → Bool
  | .ro _ _ _ => false
  | _ => true
def Res.hl (ρ : Env) : Res → Hl
  | .blk a l T => Hl.one (ρ.i a).toNat (.cells (l.map (CV.ev ρ)).toArray T (0, 0))
  | .hp k _ _ _ => ρ.h k
  | .ro k _ _ => ρ.h k
  | .dead => Hl.none
def Res.pos (ρ : Env) : Res → Prop
  | .blk a _ _ => 0 ≤ ρ.i a
  | _ => True
def Res.same (ρ ρ' : Env) (r : Res) : Prop := r.hl ρ' = r.hl ρ ∧ (r.pos ρ → r.pos ρ')
abbrev Mem := List Res
structure St where
  tmps : List (Option TV)
  mem : Mem
  nv : Nat
  path : List E

/-- What was there ahead of a call is as it was, but for the blocks of S. -/
structure Keep (S : Nat → Prop) (w0 w : World) : Prop where
  os : w.os = w0.os
  tape : w.tape = w0.tape
  output : w.output = w0.output
  size : w0.heap.size ≤ w.heap.size
  block : ∀ k, k < w0.heap.size → ¬ S k → w.heap[k]? = w0.heap[k]?
theorem Keep.refl (S : Nat → Prop) (w : World) : Keep S w w := ⟨rfl, rfl, rfl, Nat.le_refl _, fun _ _ _ => rfl⟩
theorem Keep.below {S : Nat → Prop} {w w' : World} (h : RowKit.Below w.heap.size w w') : Keep S w w' := ⟨h.os, h.tape, h.output, h.size, fun k hk _ => h.block k hk⟩

structure MRel (S : Nat → Prop) (w0 : World) (ρ : Env) (mem : Mem) (w : World) : Prop where
  keep : Keep S w0 w
  sub : ∀ r ∈ mem, (r.hl ρ).sub w
  own : ∀ r ∈ mem, r.own = true → ∀ b, (r.hl ρ).mem b → S b ∨ w0.heap.size ≤ b
  dis : ∀ (p q : Nat) r s, p ≠ q → mem[p]? = some r → mem[q]? = some s → r.own = true → (r.hl ρ).dis (s.hl ρ)
  pos : ∀ r ∈ mem, r.pos ρ

structure Rel (S : Nat → Prop) (w0 : World) (ρ : Env) (st : St) (a : Act) (w : World) : Prop extends MRel S w0 ρ st.mem w where
  size : a.tmps.size = st.tmps.length
  defers : a.defers = []
  tmp : ∀ (t : Nat) (v : TV), st.tmps[t]? = some (some v) → a.tmps[t]? = some (v.ev ρ)
  path : Path ρ st.path

theorem Hl.sub_lt {h : Hl} {w : World} (hs : h.sub w) {b : Nat} (hb : h.mem b) : b < w.heap.size := by
  unfold Hl.mem at hb
  obtain ⟨o, ho⟩ := Option.isSome_iff_exists.1 hb
  exact (Array.getElem?_eq_some_iff.1 (hs b o ho)).1

/-! ### Agreement -/
def Res.upto (n : Nat) : Res → Bool
  | .blk a l _ => decide (a < n) && l.all (·.upto n)
  | .hp k vers tags links => decide (k < n)
  | .ro k tags _ => decide (k < n)
  | .dead => true
def optB {α : Type} (f : α → Bool) : Option α → Bool
  | some x => f x
  | none => true
def Mem.upto (n : Nat) (m : Mem) : Bool := m.all (Res.upto n)
def St.upto (n : Nat) (st : St) : Bool := st.tmps.all (optB (·.upto n)) && Mem.upto n st.mem && st.path.all (·.upto n)
theorem Res.agree {ρ ρ' : Env} {m : Nat} (h : Agree m ρ ρ') (r : Res) (hb : r.upto m = true) : r.hl ρ' = r.hl ρ := by
  cases r <;> simp only [Res.upto, Bool.and_eq_true, decide_eq_true_eq] at hb <;> simp only [Res.hl]
  · rw [h.i _ hb.1, CV.agreeL h _ hb.2]
  · rw [h.h _ hb]
  · rw [h.h _ hb]
theorem Res.agree_pos {ρ ρ' : Env} {m : Nat} (h : Agree m ρ ρ') (r : Res) (hb : r.upto m = true) : r.pos ρ → r.pos ρ' := by
  cases r <;> simp only [Res.upto, Bool.and_eq_true, decide_eq_true_eq] at hb <;> simp only [Res.pos]
  · rw [h.i _ hb.1]; exact id
  all_goals (intro; trivial)
theorem Mem.agree {ρ ρ' : Env} {m : Nat} (h : Agree m ρ ρ') {mem : Mem} (hb : Mem.upto m mem = true) : ∀ r ∈ mem, r.same ρ ρ' := by
  unfold Mem.upto at hb
  rw [List.all_eq_true] at hb
  exact fun r hr => ⟨Res.agree h r (hb r hr), Res.agree_pos h r (hb r hr)⟩

section
variable {S : Nat → Prop} {w0 : World} {ρ ρ' : Env} {st : St} {a : Act} {w w' : World} {mem mem' : Mem}

/-- The world turned, on some owned blocks, or grew; some of what is known is new. -/
theorem MRel.upd (h : MRel S w0 ρ mem w) (U : Nat → Prop) (nw : Nat → Prop)
    (hU : ∀ b, U b → ∃ r ∈ mem, r.own = true ∧ (r.hl ρ).mem b)
    (ho : w'.os = w.os) (ht : w'.tape = w.tape) (hout : w'.output = w.output) (hs : w.heap.size ≤ w'.heap.size)
    (hb : ∀ b, b < w.heap.size → ¬ U b → w'.heap[b]? = w.heap[b]?)
    (c1 : ∀ (p : Nat) r, mem'[p]? = some r → ¬ nw p → mem[p]? = some r ∧ r.same ρ ρ' ∧ ∀ b, (r.hl ρ).mem b → ¬ U b)
    (c2 : ∀ (p : Nat) r, mem'[p]? = some r → nw p → ((r.hl ρ').sub w' ∧ r.pos ρ') ∧ ∀ b, (r.hl ρ').mem b → U b ∨ w.heap.size ≤ b)
    (c3 : ∀ (p q : Nat) r s, p ≠ q → nw p → nw q → mem'[p]? = some r → mem'[q]? = some s → r.own = true → (r.hl ρ').dis (s.hl ρ')) : MRel S w0 ρ' mem' w' := by
  have hUo : ∀ b, U b → S b ∨ w0.heap.size ≤ b := fun b hb => by
    obtain ⟨r, hr, ho, hm⟩ := hU b hb; exact h.own r hr ho b hm
  refine ⟨⟨ho.trans h.keep.os, ht.trans h.keep.tape, hout.trans h.keep.output, Nat.le_trans h.keep.size hs, fun k hk hS => ?_⟩, ?_, ?_, ?_, ?_⟩
  · rw [hb k (Nat.lt_of_lt_of_le hk h.keep.size) (fun hu => (hUo k hu).elim hS (fun h => by omega))]
    exact h.keep.block k hk hS
  · intro r hr
    obtain ⟨p, hp⟩ := List.getElem?_of_mem hr
    by_cases hn : nw p
    · exact (c2 p r hp hn).1.1
    · obtain ⟨e1, ⟨e2, _⟩, e3⟩ := c1 p r hp hn
      rw [e2]
      intro b o hbo
      have hm : (r.hl ρ).mem b := by unfold Hl.mem; rw [hbo]; rfl
      have hs := h.sub r (List.mem_of_getElem? e1)
      rw [hb b (Hl.sub_lt hs hm) (e3 b hm)]
      exact hs b o hbo
  · intro r hr hown b hm
    obtain ⟨p, hp⟩ := List.getElem?_of_mem hr
    by_cases hn : nw p
    · rcases (c2 p r hp hn).2 b hm with hu | hl
      · exact hUo b hu
      · right; have := h.keep.size; omega
    · obtain ⟨e1, ⟨e2, _⟩, e3⟩ := c1 p r hp hn
      rw [e2] at hm
      exact h.own r (List.mem_of_getElem? e1) hown b hm
  · intro p q r s hpq hp hq hown
    by_cases hn : nw p <;> by_cases hm : nw q
    · exact c3 p q r s hpq hn hm hp hq hown
    · obtain ⟨e1, ⟨e2, _⟩, e3⟩ := c1 q s hq hm
      obtain ⟨f1, f2⟩ := c2 p r hp hn
      rintro b ⟨x, y⟩
      rw [e2] at y
      rcases f2 b x with hu | hl
      · exact e3 b y hu
      · have := Hl.sub_lt (h.sub s (List.mem_of_getElem? e1)) y; omega
    · obtain ⟨e1, ⟨e2, _⟩, e3⟩ := c1 p r hp hn
      obtain ⟨f1, f2⟩ := c2 q s hq hm
      rintro b ⟨x, y⟩
      rw [e2] at x
      rcases f2 b y with hu | hl
      · exact e3 b x hu
      · have := Hl.sub_lt (h.sub r (List.mem_of_getElem? e1)) x; omega
    · obtain ⟨e1, ⟨e2, _⟩, e3⟩ := c1 p r hp hn
      obtain ⟨f1, ⟨f2, _⟩, f3⟩ := c1 q s hq hm
      rw [e2, f2]
      exact h.dis p q r s hpq e1 f1 hown
  · intro r hr
    obtain ⟨p, hp⟩ := List.getElem?_of_mem hr
    by_cases hn : nw p
    · exact (c2 p r hp hn).1.2
    · obtain ⟨e1, ⟨_, e2⟩, _⟩ := c1 p r hp hn
      exact e2 (h.pos r (List.mem_of_getElem? e1))

/-- One piece turned. -/
theorem MRel.set (h : MRel S w0 ρ mem w) {p : Nat} {r r' : Res} (hp : mem[p]? = some r) (hr : r.own = true)
    (ho : w'.os = w.os) (ht : w'.tape = w.tape) (hout : w'.output = w.output) (hs : w.heap.size ≤ w'.heap.size)
    (hb : ∀ b, b < w.heap.size → ¬ (r.hl ρ).mem b → w'.heap[b]? = w.heap[b]?)
    (hag : ∀ s ∈ mem, s.same ρ ρ')
    (hsub : (r'.hl ρ').sub w') (hpos : r'.pos ρ') (hdom : ∀ b, (r'.hl ρ').mem b → (r.hl ρ).mem b ∨ w.heap.size ≤ b) : MRel S w0 ρ' (mem.set p r') w' := by
  have hlt : p < mem.length := (List.getElem?_eq_some_iff.1 hp).1
  refine h.upd (fun b => (r.hl ρ).mem b) (fun q => q = p) (fun b hb => ⟨r, List.mem_of_getElem? hp, hr, hb⟩) ho ht hout hs hb ?_ ?_ ?_
  · intro q s hq hn
    rw [List.getElem?_set_ne (fun e => hn e.symm)] at hq
    exact ⟨hq, hag s (List.mem_of_getElem? hq), fun b hb hu => h.dis p q r s (fun e => hn e.symm) hp hq hr b ⟨hu, hb⟩⟩
  · intro q s hq hn
    rw [hn, List.getElem?_set_self hlt] at hq
    cases hq
    exact ⟨⟨hsub, hpos⟩, hdom⟩
  · intro q q' s s' hne h1 h2; exact absurd (h1.trans h2.symm) hne

/-- A new piece. -/
theorem MRel.add (h : MRel S w0 ρ mem w) {r' : Res}
    (ho : w'.os = w.os) (ht : w'.tape = w.tape) (hout : w'.output = w.output) (hs : w.heap.size ≤ w'.heap.size)
    (hb : ∀ b, b < w.heap.size → w'.heap[b]? = w.heap[b]?)
    (hag : ∀ s ∈ mem, s.same ρ ρ')
    (hsub : (r'.hl ρ').sub w') (hpos : r'.pos ρ') (hdom : ∀ b, (r'.hl ρ').mem b → w.heap.size ≤ b) : MRel S w0 ρ' (mem ++ [r']) w' := by
  refine h.upd (fun b => False) (fun q => q = mem.length) (fun b hb => hb.elim) ho ht hout hs (fun b hl _ => hb b hl) ?_ ?_ ?_
  · intro q s hq hn
    rw [List.getElem?_append] at hq
    split at hq
    · exact ⟨hq, hag s (List.mem_of_getElem? hq), fun _ _ => id⟩
    · rw [List.getElem?_eq_none (by simp; omega)] at hq; cases hq
  · intro q s hq hn
    rw [hn, List.getElem?_append_right (Nat.le_refl _), Nat.sub_self] at hq
    cases hq
    exact ⟨⟨hsub, hpos⟩, fun b hb => Or.inr (hdom b hb)⟩
  · intro q q' s s' hne h1 h2; exact absurd (h1.trans h2.symm) hne

theorem MRel.agree (h : MRel S w0 ρ mem w) (hag : ∀ s ∈ mem, s.same ρ ρ') : MRel S w0 ρ' mem w :=
  h.upd (fun _ => False) (fun _ => False) (fun _ h => h.elim) rfl rfl rfl (Nat.le_refl _) (fun _ _ _ => rfl) (fun p r hp _ => ⟨hp, hag r (List.mem_of_getElem? hp), fun _ _ => id⟩) (fun _ _ _ h => h.elim) (fun _ _ _ _ _ h => h.elim)
/-- Only new memory came. -/
theorem MRel.below (h : MRel S w0 ρ mem w) (hb : RowKit.Below w.heap.size w w') : MRel S w0 ρ mem w' :=
  h.upd (fun _ => False) (fun _ => False) (fun _ h => h.elim) hb.os hb.tape hb.output hb.size (fun b hl _ => hb.block b hl) (fun p r hp _ => ⟨hp, ⟨rfl, id⟩, fun _ _ => id⟩) (fun _ _ _ h => h.elim) (fun _ _ _ _ _ h => h.elim)
/-- Some pieces are given up. -/
theorem MRel.sublist (h : MRel S w0 ρ mem w) (hm : ∀ (p : Nat) r, mem'[p]? = some r → mem[p]? = some r ∨ r = .dead) : MRel S w0 ρ mem' w := by
  refine h.upd (fun _ => False) (fun p => mem'[p]? = some .dead) (fun _ h => h.elim) rfl rfl rfl (Nat.le_refl _) (fun _ _ _ => rfl) (fun p r hp hn => ⟨(hm p r hp).resolve_right (fun e => hn (by rw [hp, e])), ⟨rfl, id⟩, fun _ _ => id⟩) ?_ ?_
  · intro p r hp hn
    rw [hp] at hn
    cases hn
    exact ⟨⟨(fun b o hb => by cases hb), trivial⟩, (fun b hb => by cases hb)⟩
  · intro p q r s _ hn _ hp _ _
    rw [hp] at hn
    cases hn
    rintro b ⟨x, _⟩
    cases x

theorem Rel.agree {m : Nat} (h : Agree m ρ ρ') (hb : st.upto m = true) (hr : Rel S w0 ρ st a w) : Rel S w0 ρ' st a w := by
  simp only [St.upto, Bool.and_eq_true] at hb
  refine ⟨hr.toMRel.agree (Mem.agree h hb.1.2), hr.size, hr.defers, fun t s hs => ?_, hr.path.agree h hb.2⟩
  have := hb.1.1
  rw [List.all_eq_true] at this
  have := this _ (List.mem_of_getElem? hs)
  simp only [optB] at this
  rw [TV.agree h s this]
  exact hr.tmp t s hs
theorem Rel.tmps_agree {m : Nat} (h : Agree m ρ ρ') (hb : st.upto m = true) (hr : Rel S w0 ρ st a w) {mem : Mem} (hm : MRel S w0 ρ' mem w') (nv : Nat) : Rel S w0 ρ' { st with mem := mem, nv := nv } a w' := by
  have := hr.agree h hb
  exact ⟨hm, this.size, this.defers, this.tmp, this.path⟩

/-! ### Operands -/
def opnd (st : St) : Operand → Option TV
  | .tmp t => match st.tmps[t]? with
    | some (some s) => some s
    | _ => none
  | .const v => some (lift v)
  | .func f => some (.sv (.one (.val (.func (.func f) #[] #[]))))
  | .global g => some (.sv (.one (.hptr (.lit g) (.lit 0))))
theorem opnd_sound (h : Rel S w0 ρ st a w) {x : Operand} {v : TV} (ho : opnd st x = some v) : a.eval x = v.ev ρ := by
  cases x with
  | tmp t =>
    simp only [opnd] at ho
    split at ho
    · rename_i s hs
      have := h.tmp t s hs
      simp only [Option.some.injEq] at ho
      subst ho
      simp [Act.eval, this]
    · cases ho
  | const v' => simp only [opnd, Option.some.injEq] at ho; rw [← ho, lift_ev]; rfl
  | func f => simp only [opnd, Option.some.injEq] at ho; rw [← ho]; rfl
  | global g => simp only [opnd, Option.some.injEq] at ho; rw [← ho]; rfl

/-! ### The slot that an operation writes -/
def St.put (st : St) (d : Option Tmp) (v : Option TV) : St :=
  match d with
  | some d => { st with tmps := st.tmps.set d v }
  | none => st
theorem St.put_mem (st : St) (d : Option Tmp) (v : Option TV) : (st.put d v).mem = st.mem := by cases d <;> rfl
theorem St.put_nv (st : St) (d : Option Tmp) (v : Option TV) : (st.put d v).nv = st.nv := by cases d <;> rfl
theorem St.put_path (st : St) (d : Option Tmp) (v : Option TV) : (st.put d v).path = st.path := by cases d <;> rfl
theorem Rel.put (h : Rel S w0 ρ st a w) (d : Option Tmp) (v : Option TV) (x : Value) (hx : ∀ y, v = some y → x = y.ev ρ) : Rel S w0 ρ (st.put d v) (a.put d x) w := by
  cases d with
  | none => exact h
  | some d =>
    refine ⟨h.toMRel, ?_, h.defers, ?_, h.path⟩
    · simp [Act.put, St.put, h.size]
    · intro t s hs
      simp only [St.put] at hs
      simp only [Act.put]
      by_cases he : d = t
      · subst he
        by_cases hlt : d < st.tmps.length
        · rw [List.getElem?_set_self hlt] at hs
          simp only [Option.some.injEq] at hs
          rw [Array.getElem?_setIfInBounds_self_of_lt (by rw [h.size]; exact hlt), hx s hs]
        · rw [List.getElem?_eq_none (by simpa using hlt)] at hs; cases hs
      · rw [List.getElem?_set_ne he] at hs
        rw [Array.getElem?_setIfInBounds_ne he]
        exact h.tmp t s hs

/-! ### Finding a piece -/
def posBlk (a : Nat) : Mem → Nat → Option (Nat × List CV × TypeId)
  | [], _ => none
  | .blk b l T :: m, p => if b = a then some (p, l, T) else posBlk a m (p + 1)
  | _ :: m, p => posBlk a m (p + 1)
theorem posBlk_sound {a : Nat} : ∀ {mem : Mem} {p q : Nat} {l : List CV} {T : TypeId}, posBlk a mem p = some (q, l, T) → p ≤ q ∧ mem[q - p]? = some (.blk a l T)
  | [], _, _, _, _, h => by cases h
  | .blk b l' T' :: m, p, q, l, T, h => by
    unfold posBlk at h
    split at h
    · rename_i e; subst e; cases h; exact ⟨Nat.le_refl _, by simp⟩
    · obtain ⟨h1, h2⟩ := posBlk_sound h
      exact ⟨by omega, by rw [show q - p = (q - (p + 1)) + 1 by omega, List.getElem?_cons_succ]; exact h2⟩
  | .hp _ _ _ _ :: m, p, q, l, T, h => by
    obtain ⟨h1, h2⟩ := posBlk_sound (mem := m) (p := p + 1) h
    exact ⟨by omega, by rw [show q - p = (q - (p + 1)) + 1 by omega, List.getElem?_cons_succ]; exact h2⟩
  | .ro _ _ _ :: m, p, q, l, T, h => by
    obtain ⟨h1, h2⟩ := posBlk_sound (mem := m) (p := p + 1) h
    exact ⟨by omega, by rw [show q - p = (q - (p + 1)) + 1 by omega, List.getElem?_cons_succ]; exact h2⟩
  | .dead :: m, p, q, l, T, h => by
    obtain ⟨h1, h2⟩ := posBlk_sound (mem := m) (p := p + 1) h
    exact ⟨by omega, by rw [show q - p = (q - (p + 1)) + 1 by omega, List.getElem?_cons_succ]; exact h2⟩
def fBlk (mem : Mem) (a : Nat) : Option (Nat × List CV × TypeId) := posBlk a mem 0
theorem fBlk_sound {a p : Nat} {l : List CV} {T : TypeId} (h : fBlk mem a = some (p, l, T)) : mem[p]? = some (.blk a l T) := by
  have := (posBlk_sound h).2; simpa using this

/-- Does a piece hold the block of this number? -/
def Res.has (x : E) : Res → Bool
  | .hp k vers tags _ => tags.contains x || (match x with | .hP h _ _ _ _ => h == k || vers.contains h | _ => false)
  | .ro k tags _ => tags.contains x || (match x with | .hP h _ _ _ _ => h == k | _ => false)
  | _ => false
def posHp (x : E) : Mem → Nat → Option (Nat × Res)
  | [], _ => none
  | r :: m, p => if r.has x then some (p, r) else posHp x m (p + 1)
theorem posHp_sound {x : E} : ∀ {mem : Mem} {p q : Nat} {r : Res}, posHp x mem p = some (q, r) → p ≤ q ∧ mem[q - p]? = some r
  | [], _, _, _, h => by cases h
  | s :: m, p, q, r, h => by
    unfold posHp at h
    split at h
    · cases h; exact ⟨Nat.le_refl _, by simp⟩
    · obtain ⟨h1, h2⟩ := posHp_sound h
      exact ⟨by omega, by rw [show q - p = (q - (p + 1)) + 1 by omega, List.getElem?_cons_succ]; exact h2⟩
def Res.hk : Res → Option Nat
  | .hp k _ _ _ => some k
  | .ro k _ _ => some k
  | _ => none
theorem Res.hk_hl {r : Res} {k : Nat} (h : r.hk = some k) : r.hl ρ = ρ.h k := by cases r <;> simp [Res.hk] at h <;> simp [Res.hl, h]
/-- What is read as a whole: of all else. -/
def Res.anyB : Res → Bool
  | .ro _ _ any => any
  | _ => false
def posAny : Mem → Nat → Option (Nat × Res)
  | [], _ => none
  | r :: m, p => if r.anyB then some (p, r) else posAny m (p + 1)
theorem posAny_sound : ∀ {mem : Mem} {p q : Nat} {r : Res}, posAny mem p = some (q, r) → p ≤ q ∧ mem[q - p]? = some r
  | [], _, _, _, h => by cases h
  | s :: m, p, q, r, h => by
    unfold posAny at h
    split at h
    · cases h; exact ⟨Nat.le_refl _, by simp⟩
    · obtain ⟨h1, h2⟩ := posAny_sound h
      exact ⟨by omega, by rw [show q - p = (q - (p + 1)) + 1 by omega, List.getElem?_cons_succ]; exact h2⟩
/-- The piece for a block's number; else the one that is read as a whole, which comes ahead of a piece that is only read and in which the number itself stood. -/
def fHp (mem : Mem) (x : E) : Option (Nat × Res) :=
  match posHp x mem 0 with
  | some (p, .ro k tags false) => if tags.contains x then some (p, .ro k tags false) else match posAny mem 0 with
    | some q => some q
    | none => some (p, .ro k tags false)
  | some r => some r
  | none => posAny mem 0
theorem fHp_sound {x : E} {p : Nat} {r : Res} (h : fHp mem x = some (p, r)) : mem[p]? = some r := by
  have any : ∀ {p r}, posAny mem 0 = some (p, r) → mem[p]? = some r := fun h => by
    have := (posAny_sound h).2; simpa using this
  have hp : ∀ {p r}, posHp x mem 0 = some (p, r) → mem[p]? = some r := fun h => by
    have := (posHp_sound h).2; simpa using this
  unfold fHp at h
  split at h
  · rename_i hr
    split at h
    · cases h; exact hp hr
    · split at h
      · rename_i hq; cases h; exact any hq
      · cases h; exact hp hr
  · rename_i hr
    cases h; exact hp hr
  · exact any h

/-! ### Types -/
theorem run_isAgg {P : Program} {t : TypeId} {d : TypeDesc} (hu : P.underlying t = some d) (w : World) : (isAgg t).run P w = .ok (match d with | .struct _ | .array _ _ => true | _ => false) w := by
  unfold isAgg
  rw [Sem.run_bind, run_underlying hu w]
  cases d <;> rfl
def aggB (P : Program) (t : TypeId) : Option Bool :=
  match P.underlying t with
  | some (.struct _) => some true
  | some (.array _ _) => some true
  | some _ => some false
  | none => none
theorem aggB_run {P : Program} {t : TypeId} {b : Bool} (h : aggB P t = some b) (w : World) : (isAgg t).run P w = .ok b w := by
  unfold aggB at h
  split at h
  · rename_i hu; cases h; exact run_isAgg hu w
  · rename_i hu; cases h; exact run_isAgg hu w
  · rename_i d hs ha hu
    cases h
    rw [run_isAgg hu w]
    cases d <;> first | rfl | (exact absurd rfl (hs _)) | (exact absurd rfl (ha _ _)) | (exact absurd hu (hs _)) | (exact absurd hu (ha _ _))
  · cases h
def sizeT (P : Program) (t : TypeId) : Option Nat := (P.info? t).map (·.size)
theorem sizeT_run {P : Program} {t : TypeId} {n : Nat} (h : sizeT P t = some n) (w : World) : (sizeOf t).run P w = .ok n w := by
  unfold sizeT at h
  cases hi : P.info? t with
  | none => simp [hi] at h
  | some i => simp [hi] at h; subst h; simp [sizeOf, typeInfo, hi]
def zeroT (P : Program) (t : TypeId) : Option Value := (P.info? t).bind (·.zero)
theorem zeroT_run {P : Program} {t : TypeId} {v : Value} (h : zeroT P t = some v) (w : World) : (zeroValue t).run P w = .ok v w := by
  unfold zeroT at h
  cases hi : P.info? t with
  | none => simp [hi] at h
  | some i => simp [hi] at h; simp [zeroValue, typeInfo, hi, h]

/-! ### Loads -/
/-- What a variable of a type holds, whose cells begin at o in a row. -/
def loadRow (P : Program) (t : TypeId) (l : List CV) (o : Nat) : Option SV :=
  match aggB P t, sizeT P t with
  | some true, some n => if o + n ≤ l.length then some (.agg ((l.drop o).take n)) else none
  | some false, _ => (l[o]?).map .one
  | _, _ => none
theorem addr_add (b o n : Nat) : (⟨b, o, none⟩ : Addr).add n = ⟨b, o + n, none⟩ := by unfold Addr.add; split <;> simp_all
theorem loadVar_cells {P : Program} {t : TypeId} {b o n : Nat} {cs : List Value} (ha : aggB P t = some true) (hs : sizeT P t = some n) (hl : cs.length = n)
    (h : ∀ j v, cs[j]? = some v → w.cell? ⟨b, o + j, none⟩ = some v) : (loadVar t ⟨b, o, none⟩).run P w = .ok (.agg cs.toArray) w := by
  unfold loadVar
  simp only [Sem.run_bind, aggB_run ha, Result.andThen_ok, if_true, sizeT_run hs]
  subst hl
  rw [run_loadCells_list w ⟨b, o, none⟩ cs (fun j v hv => by rw [addr_add]; exact h j v hv)]
  rfl
theorem loadVar_one {P : Program} {t : TypeId} {p : Addr} {v : Value} (ha : aggB P t = some false) (h : w.cell? p = some v) : (loadVar t p).run P w = .ok v w := by
  unfold loadVar
  simp only [Sem.run_bind, aggB_run ha, Result.andThen_ok, Bool.false_eq_true, if_false]
  simp [load, Sem.run, h]
theorem loadRow_sound {P : Program} {t : TypeId} {l : List CV} {o b : Nat} {v : SV} {T : TypeId} {fr : Nat × Nat} (h : loadRow P t l o = some v)
    (hb : w.heap[b]? = some (.cells (l.map (CV.ev ρ)).toArray T fr)) : (loadVar t ⟨b, o, none⟩).run P w = .ok (v.ev ρ) w := by
  have hc : ∀ j, w.cell? ⟨b, j, none⟩ = (l[j]?).map (CV.ev ρ) := fun j => by simp [World.cell?, hb]
  unfold loadRow at h
  split at h
  · rename_i n ha hs
    split at h
    · rename_i hle
      cases h
      refine loadVar_cells (cs := ((l.drop o).take n).map (CV.ev ρ)) ha hs (by simp; omega) (fun j x hx => ?_)
      rw [hc]
      rw [List.getElem?_map, List.getElem?_take] at hx
      split at hx
      · rwa [List.getElem?_drop] at hx
      · simp at hx
    · cases h
  · rename_i ha
    simp only [Option.map_eq_some_iff] at h
    obtain ⟨x, hx, rfl⟩ := h
    exact loadVar_one ha (by rw [hc, hx]; rfl)
  · cases h
theorem MRel.blk (h : MRel S w0 ρ mem w) {p a : Nat} {l : List CV} {T : TypeId} (hp : mem[p]? = some (.blk a l T)) : w.heap[(ρ.i a).toNat]? = some (.cells (l.map (CV.ev ρ)).toArray T (0, 0)) :=
  h.sub _ (List.mem_of_getElem? hp) _ _ (Hl.one_self _ _)
end
end Go.Sx

namespace Go.Sx
open Go

abbrev TI (k : IntKind) (e : E) : TV := .sv (.one (.int k e))
abbrev TB (e : E) : TV := .sv (.one (.bool e))
abbrev TS (e : E) : TV := .sv (.one (.str e))
abbrev TP (x y : E) : TV := .sv (.one (.hptr x y))

def mkShl (k : IntKind) : E → E → E
  | .lit a, .lit b => .lit (k.wrap (a * 2 ^ (min b.toNat k.bits)))
  | a, b => .shl k a b
theorem iev_mkShl (ρ : Env) (k : IntKind) (a b : E) : iev ρ (mkShl k a b) = k.wrap (iev ρ a * 2 ^ (min (iev ρ b).toNat k.bits)) := by
  unfold mkShl; split <;> rfl
def mkShr (k : IntKind) : E → E → E
  | .lit a, .lit b => .lit (a.fdiv (2 ^ (min b.toNat k.bits)))
  | a, b => .shr k a b
theorem iev_mkShr (ρ : Env) (k : IntKind) (a b : E) : iev ρ (mkShr k a b) = (iev ρ a).fdiv (2 ^ (min (iev ρ b).toNat k.bits)) := by
  unfold mkShr; split <;> rfl
def mkQuo : E → E → E
  | .lit a, .lit b => .lit (a.tdiv b)
  | a, b => .quo a b
theorem iev_mkQuo (ρ : Env) (a b : E) : iev ρ (mkQuo a b) = (iev ρ a).tdiv (iev ρ b) := by unfold mkQuo; split <;> rfl
def mkRem : E → E → E
  | .lit a, .lit b => .lit (a.tmod b)
  | a, b => .rem a b
theorem iev_mkRem (ρ : Env) (a b : E) : iev ρ (mkRem a b) = (iev ρ a).tmod (iev ρ b) := by unfold mkRem; split <;> rfl

def binI (op : BinOp) (k k' : IntKind) (a b : E) : Option (E × TV) :=
  match op with
  | .shl => some (mkLe (.lit 0) b, TI k (mkShl k a b))
  | .shr => some (mkLe (.lit 0) b, TI k (mkShr k a b))
  | op => if k = k' then match op with
    | .add => some (.tt, TI k (mkWrap k (mkAdd a b)))
    | .sub => some (.tt, TI k (mkWrap k (mkSub a b)))
    | .mul => some (.tt, TI k (mkWrap k (mkMul a b)))
    | .quo => some (mkNot (mkEq b (.lit 0)), TI k (mkWrap k (mkQuo a b)))
    | .rem => some (mkNot (mkEq b (.lit 0)), TI k (mkRem a b))
    | .and => some (.tt, TI k (.bits .and k a b))
    | .or => some (.tt, TI k (.bits .or k a b))
    | .xor => some (.tt, TI k (.bits .xor k a b))
    | .andNot => some (.tt, TI k (.bits .andNot k a b))
    | .eql => some (.tt, TB (mkEq a b))
    | .neq => some (.tt, TB (mkNot (mkEq a b)))
    | .lss => some (.tt, TB (mkLt a b))
    | .leq => some (.tt, TB (mkLe a b))
    | .gtr => some (.tt, TB (mkLt b a))
    | .geq => some (.tt, TB (mkLe b a))
    | _ => none
  else none

section
variable {P : Program} {ρ : Env} {w : World}

theorem binI_sound {op : BinOp} {T : TypeId} {k k' : IntKind} {a b n : E} {v : TV} (h : binI op k k' a b = some (n, v)) (hn : bev ρ n = true) :
    (binOp op T (.int k (iev ρ a)) (.int k' (iev ρ b))).run P w = .ok (v.ev ρ) w := by
  unfold binI at h
  split at h
  · cases h
    rw [bev_mkLe, iev_lit, decide_eq_true_eq] at hn
    have : ¬ iev ρ b < 0 := by omega
    simp only [binOp, Op.shift, this, if_false, TV.ev, SV.ev, CV.ev, iev_mkShl]; rfl
  · cases h
    rw [bev_mkLe, iev_lit, decide_eq_true_eq] at hn
    have : ¬ iev ρ b < 0 := by omega
    simp only [binOp, Op.shift, this, if_false, TV.ev, SV.ev, CV.ev, iev_mkShr]; rfl
  · split at h
    · rename_i hk; subst hk
      split at h <;> first | (cases h; done) | skip
      all_goals cases h
      case h_4 =>
        rw [bev_mkNot, bev_mkEq, Bool.not_eq_true', decide_eq_false_iff_not, iev_lit] at hn
        have hz : ¬ iev ρ b = 0 := hn
        simp only [binOp, ne_eq, not_true_eq_false, if_false, Op.intDiv, if_neg hz, TV.ev, SV.ev, CV.ev, iev_mkWrap, iev_mkQuo, Sem.run_pure]
      case h_5 =>
        rw [bev_mkNot, bev_mkEq, Bool.not_eq_true', decide_eq_false_iff_not, iev_lit] at hn
        have hz : ¬ iev ρ b = 0 := hn
        simp only [binOp, ne_eq, not_true_eq_false, if_false, Op.intDiv, if_neg hz, TV.ev, SV.ev, CV.ev, iev_mkRem, Sem.run_pure]
      all_goals
        simp only [binOp, ne_eq, not_true_eq_false, if_false, Op.intArith, Op.intBits, Op.intCmp, TV.ev, SV.ev, CV.ev, iev_mkWrap, iev_mkAdd, iev_mkSub, iev_mkMul, iev_bits, bev_mkEq, bev_mkNot, bev_mkLt, bev_mkLe, bitsI]
        try rfl
        try (simp only [Sem.run_pure]; congr 2; rw [Bool.eq_iff_iff]; simp)
    · cases h

theorem toList_beq (x y : ByteArray) : (x.toList == y.toList) = decide (x = y) := by
  rw [Bool.eq_iff_iff]; simp only [beq_iff_eq, decide_eq_true_eq]
  refine ⟨fun h => ?_, fun h => by rw [h]⟩
  rw [ByteArray.toList_eq, ByteArray.toList_eq] at h
  cases x; cases y; simp at h; rw [h]

def binS (op : BinOp) (a b : E) : Option (E × TV) :=
  match op with
  | .add => some (mkLe (mkAdd (mkLen a) (mkLen b)) (.lit 9223372036854775807), TS (mkCat a b))
  | .eql => some (.tt, TB (mkSeq a b))
  | .neq => some (.tt, TB (mkNot (mkSeq a b)))
  | _ => none
theorem binS_sound {op : BinOp} {T : TypeId} {a b n : E} {v : TV} (h : binS op a b = some (n, v)) (hn : bev ρ n = true) :
    (binOp op T (.string (sev ρ a)) (.string (sev ρ b))).run P w = .ok (v.ev ρ) w := by
  unfold binS at h
  split at h
  · cases h
    rw [bev_mkLe, iev_mkAdd, iev_mkLen, iev_mkLen, iev_lit, decide_eq_true_eq] at hn
    have : ¬ (((sev ρ a).size + (sev ρ b).size : Nat) : Int) > IntKind.i64.max := by simp only [IntKind.max, IntKind.signed, IntKind.bits]; omega
    simp only [binOp, Op.stringOp, if_neg this, TV.ev, SV.ev, CV.ev, sev_mkCat, Sem.run_pure]
  · cases h
    simp only [binOp, Op.stringOp, TV.ev, SV.ev, CV.ev, bev_mkSeq, Sem.run_pure, toList_beq]
  · cases h
    simp only [binOp, Op.stringOp, TV.ev, SV.ev, CV.ev, bev_mkNot, bev_mkSeq, Sem.run_pure, toList_beq]
  · cases h

def selSV (i : E) : Nat → List SV → Option SV
  | _, [] => none
  | _, [v] => some v
  | j, v :: l => match selSV i (j + 1) l with
    | some r => mergeSV (mkEq i (.lit j)) v r
    | none => none
theorem selSV_ev {i : E} : ∀ (l : List SV) (j : Nat) (v : SV), selSV i j l = some v → (j : Int) ≤ iev ρ i → iev ρ i < j + l.length → ∃ x, l[(iev ρ i).toNat - j]? = some x ∧ v.ev ρ = x.ev ρ
  | [], j, v, h, _, _ => by simp [selSV] at h
  | [x], j, v, h, h1, h2 => by
    simp only [selSV, Option.some.injEq] at h; subst h
    simp only [List.length_singleton] at h2
    have : (iev ρ i).toNat - j = 0 := by omega
    exact ⟨x, by rw [this]; rfl, rfl⟩
  | x :: y :: l, j, v, h, h1, h2 => by
    simp only [selSV] at h
    split at h
    · rename_i r hr
      have hm := mergeSV_ev (ρ := ρ) h
      rw [bev_mkEq, iev_lit] at hm
      by_cases he : iev ρ i = (j : Int)
      · have : (iev ρ i).toNat - j = 0 := by omega
        exact ⟨x, by rw [this]; rfl, by rw [hm]; simp [he]⟩
      · simp only [List.length_cons] at h2
        obtain ⟨z, hz, hv⟩ := selSV_ev (y :: l) (j + 1) r hr (by omega) (by simp only [List.length_cons]; omega)
        refine ⟨z, ?_, by rw [hm, ← hv]; simp [he]⟩
        have : (iev ρ i).toNat - j = ((iev ρ i).toNat - (j + 1)) + 1 := by omega
        rw [this, List.getElem?_cons_succ]; exact hz
    · cases h

def inB (i : E) (n : Nat) : E := mkAnd (mkLe (.lit 0) i) (mkLt i (.lit n))
theorem inB_sound {i : E} {n : Nat} (h : bev ρ (inB i n) = true) : 0 ≤ iev ρ i ∧ iev ρ i < n := by
  unfold inB at h
  rw [bev_mkAnd, Bool.and_eq_true, bev_mkLe, bev_mkLt, decide_eq_true_eq, decide_eq_true_eq] at h
  exact h

def allSome {α : Type} : List (Option α) → Option (List α)
  | [] => some []
  | some x :: l => (allSome l).map (x :: ·)
  | none :: _ => none
theorem allSome_get {α : Type} : ∀ {l : List (Option α)} {m : List α}, allSome l = some m → m.length = l.length ∧ ∀ (j : Nat) x, m[j]? = some x → l[j]? = some (some x)
  | [], m, h => by cases h; simp
  | some y :: l, m, h => by
    simp only [allSome, Option.map_eq_some_iff] at h
    obtain ⟨r, hr, rfl⟩ := h
    obtain ⟨h1, h2⟩ := allSome_get hr
    refine ⟨by simp [h1], fun j x hx => ?_⟩
    cases j with
    | zero => simpa using hx
    | succ j => simpa using h2 j x (by simpa using hx)
  | none :: l, m, h => by simp [allSome] at h

/-! ### Loads from memory that is owned or read as a whole -/
def kindOf : Value → Kd
  | .int k _ => .int k
  | .bool _ => .bool
  | .slice _ _ _ => .slice
  | .pointer _ => .ptr
  | .string _ => .str
  | .map _ => .map
  | _ => .any
def romC (h : Nat) (x y : E) (j : Nat) : Kd → CV
  | .int k => .int k (.hI h x y j)
  | .bool => .bool (.hB h x y j)
  | .slice => .sl (.hP h x y j 0) (.hP h x y j 1) (.hP h x y j 2) (.hP h x y j 3)
  | .ptr => .hptr (.hP h x y j 0) (.hP h x y j 1)
  | .str => .str (.hS h x y j)
  | .map => .map (.hP h x y j 0)
  | .any => .hv h x y j
theorem romC_sound {h : Nat} {x y : E} {j : Nat} {k : Kd} (hh : bev ρ (.his h x y j k) = true) : (ρ.h h).cell (iev ρ x).toNat ((iev ρ y).toNat + j) = some ((romC h x y j k).ev ρ) := by
  rw [bev_his] at hh
  cases hc : (ρ.h h).cell (iev ρ x).toNat ((iev ρ y).toNat + j) with
  | none => simp [hc, valIs] at hh
  | some v =>
    rw [hc] at hh
    cases k with
    | any => simp [romC, CV.ev, hc]
    | int k =>
      cases v <;> simp only [valIs, Bool.false_eq_true, decide_eq_true_eq] at hh
      subst hh; simp [romC, CV.ev, iev_hI, hc, valI]
    | bool =>
      cases v <;> simp only [valIs, Bool.false_eq_true] at hh
      simp [romC, CV.ev, bev_hB, hc, valB]
    | str =>
      cases v <;> simp only [valIs, Bool.false_eq_true] at hh
      simp [romC, CV.ev, sev_hS, hc, valS]
    | map =>
      cases v <;> simp only [valIs, Bool.false_eq_true] at hh
      rename_i r
      cases r <;> simp [romC, CV.ev, iev_hP, hc, valP]
    | slice =>
      cases v <;> simp only [valIs, Bool.false_eq_true] at hh
      rename_i a n c
      cases a with
      | none => simp [romC, CV.ev, iev_hP, hc, valP, slP]
      | some a =>
        obtain ⟨b, o, s⟩ := a
        cases s with
        | none => simp [romC, CV.ev, iev_hP, hc, valP, slP]
        | some s =>
          simp only [romC, CV.ev, iev_hP, hc, valP, Int.toNat_natCast]
          unfold slP
          rw [if_neg (by omega), if_neg (by omega), Int.toNat_natCast, unp_pair, show (-(-(b : Int) - 2) - 2).toNat = b by omega]
    | ptr =>
      unfold valIs at hh
      split at hh <;> first | (cases hh; done) | skip
      all_goals simp_all
      · simp [romC, CV.ev, iev_hP, hc, valP, slP]
      · simp [romC, CV.ev, iev_hP, hc, valP, slP]

def romCells (h : Nat) (x y : E) : Nat → List Kd → List CV
  | _, [] => []
  | j, k :: l => romC h x y j k :: romCells h x y (j + 1) l
def romNeed (h : Nat) (x y : E) : Nat → List Kd → E
  | _, [] => .tt
  | j, k :: l => mkAnd (.his h x y j k) (romNeed h x y (j + 1) l)
theorem romCells_sound {h : Nat} {x y : E} : ∀ (ks : List Kd) (j : Nat), bev ρ (romNeed h x y j ks) = true → ∀ (i : Nat) v, ((romCells h x y j ks).map (CV.ev ρ))[i]? = some v → (ρ.h h).cell (iev ρ x).toNat ((iev ρ y).toNat + (j + i)) = some v
  | [], _, _, i, v, h => by simp [romCells] at h
  | k :: l, j, hn, i, v, h => by
    simp only [romNeed, bev_mkAnd, Bool.and_eq_true] at hn
    cases i with
    | zero =>
      simp only [romCells, List.map_cons, List.getElem?_cons_zero, Option.some.injEq] at h
      rw [← h]; exact romC_sound hn.1
    | succ i =>
      simp only [romCells, List.map_cons, List.getElem?_cons_succ] at h
      have := romCells_sound l (j + 1) hn.2 i v h
      rwa [show j + (i + 1) = j + 1 + i by omega]
theorem romCells_length (h : Nat) (x y : E) : ∀ (ks : List Kd) (j : Nat), (romCells h x y j ks).length = ks.length
  | [], _ => rfl
  | _ :: l, j => by simp [romCells, romCells_length h x y l (j + 1)]

theorem romNeed_bytes {h : Nat} {x y : E} : ∀ (ks : List Kd) (j : Nat), ks.all (fun k => decide (k = .int .u8)) = true → (∀ i, i < ks.length → valIs ((ρ.h h).cell (iev ρ x).toNat ((iev ρ y).toNat + (j + i))) (.int .u8) = true) → bev ρ (romNeed h x y j ks) = true
  | [], _, _, _ => by simp [romNeed, bev_tt]
  | k :: l, j, ha, hb => by
    simp only [List.all_cons, Bool.and_eq_true, decide_eq_true_eq] at ha
    obtain ⟨rfl, ha⟩ := ha
    simp only [romNeed, bev_mkAnd, Bool.and_eq_true, bev_his]
    refine ⟨by have := hb 0 (by simp); simpa using this, romNeed_bytes l (j + 1) ha fun i hi => ?_⟩
    have := hb (i + 1) (by simp only [List.length_cons]; omega)
    rwa [show j + (i + 1) = j + 1 + i by omega] at this
/-- The cells are there: of many bytes it is said at once. -/
def romNeedW (h : Nat) (x y : E) (ks : List Kd) : E :=
  if decide (8 < ks.length) && ks.all (fun k => decide (k = .int .u8)) then .hby h x y (.lit ks.length) else if 8 < ks.length then .hks h x y ks else romNeed h x y 0 ks
theorem romNeed_row {h : Nat} {x y : E} : ∀ (ks : List Kd) (j : Nat), rowIs (ρ.h h) (iev ρ x).toNat ((iev ρ y).toNat + j) ks = true → bev ρ (romNeed h x y j ks) = true
  | [], _, _ => by simp [romNeed, bev_tt]
  | k :: l, j, hr => by
    simp only [rowIs, Bool.and_eq_true] at hr
    simp only [romNeed, bev_mkAnd, Bool.and_eq_true, bev_his]
    exact ⟨hr.1, romNeed_row l (j + 1) hr.2⟩
theorem romNeedW_ev {h : Nat} {x y : E} {ks : List Kd} (hn : bev ρ (romNeedW h x y ks) = true) : bev ρ (romNeed h x y 0 ks) = true := by
  unfold romNeedW at hn
  split at hn
  · rename_i hc
    simp only [Bool.and_eq_true, decide_eq_true_eq] at hc
    rw [bev_hby, iev_lit, Int.toNat_natCast] at hn
    unfold cellBytes at hn
    rw [List.all_eq_true] at hn
    refine romNeed_bytes ks 0 hc.2 fun i hi => ?_
    have := hn i (List.mem_range.2 hi)
    rwa [Nat.zero_add]
  · split at hn
    · exact romNeed_row ks 0 hn
    · exact hn
/-- A known block's place, if this is one. -/
def knownP (mem : Mem) (x y : E) : Option (Nat × Nat × List CV × TypeId × Nat) :=
  match x, y with
  | .var a, .lit o => if 0 ≤ o then (fBlk mem a).map fun r => (a, r.1, r.2.1, r.2.2, o.toNat) else none
  | _, _ => none
theorem knownP_sound {mem : Mem} {x y : E} {a p o : Nat} {l : List CV} {T : TypeId} (h : knownP mem x y = some (a, p, l, T, o)) : x = .var a ∧ y = .lit o ∧ mem[p]? = some (.blk a l T) := by
  unfold knownP at h
  split at h
  · rename_i a' o'
    split at h
    · rename_i ho
      simp only [Option.map_eq_some_iff, Prod.mk.injEq] at h
      obtain ⟨⟨q, l', T'⟩, hq, rfl, rfl, rfl, rfl, rfl⟩ := h
      refine ⟨rfl, by rw [Int.toNat_of_nonneg ho], fBlk_sound hq⟩
    · cases h
  · cases h

/-- Not none. -/
def nnX (mem : Mem) (x : E) : E :=
  match x with
  | .var a => if (fBlk mem a).isSome then .tt else .le (.lit 0) x
  | x => mkLe (.lit 0) x
theorem MRel.nnX {S : Nat → Prop} {w0 : World} {mem : Mem} (h : MRel S w0 ρ mem w) {x : E} (hx : bev ρ (nnX mem x) = true) : 0 ≤ iev ρ x := by
  unfold Sx.nnX at hx
  split at hx
  · split at hx
    · rename_i a ha
      obtain ⟨⟨p, l, T⟩, hp⟩ := Option.isSome_iff_exists.1 ha
      exact h.pos _ (List.mem_of_getElem? (fBlk_sound hp))
    · rw [bev_le, iev_lit, decide_eq_true_eq] at hx; exact hx
  · rw [bev_mkLe, iev_lit, decide_eq_true_eq] at hx; exact hx

def loadE (P : Program) (mem : Mem) (t : TypeId) : CV → Option (E × SV)
  | .pti a o s n i => match fBlk mem a with
    | some (_, l, _) => match allSome ((List.range n).map fun j => loadRow P t l (o + s * j)) with
      | some vs => (selSV i 0 vs).map fun v => (inB i n, v)
      | none => none
    | _ => none
  | .hptr x y => match knownP mem x y with
    | some (_, _, l, _, o) => (loadRow P t l o).map fun v => (.tt, v)
    | none => match (fHp mem x).bind (fun r => r.2.hk) with
      | some h => match aggB P t, zeroT P t, sizeT P t with
        | some true, some z, some n =>
          let ks := z.cells.toList.map kindOf
          if ks.length = n then some (mkAnd (mkLe (.lit 0) x) (mkAnd (mkLe (.lit 0) y) (romNeedW h x y ks)), .agg (romCells h x y 0 ks)) else none
        | some false, some z, _ => some (mkAnd (mkLe (.lit 0) x) (mkAnd (mkLe (.lit 0) y) (.his h x y 0 (kindOf z))), .one (romC h x y 0 (kindOf z)))
        | _, _, _ => none
      | none => none
  | _ => none

variable {S : Nat → Prop} {w0 : World} {mem : Mem}

theorem fHp_hk (h : MRel S w0 ρ mem w) {x : E} {k : Nat} (hf : (fHp mem x).bind (fun r => r.2.hk) = some k) : (ρ.h k).sub w := by
  cases hh : fHp mem x with
  | none => simp [hh] at hf
  | some r =>
    simp only [hh, Option.bind_some] at hf
    have := h.sub r.2 (List.mem_of_getElem? (fHp_sound (p := r.1) (r := r.2) hh))
    rwa [Res.hk_hl hf] at this

theorem loadE_sound (h : MRel S w0 ρ mem w) {t : TypeId} {c : CV} {n : E} {v : SV} (hl : loadE P mem t c = some (n, v)) (hn : bev ρ n = true) :
    ∃ p, c.ev ρ = .pointer (some p) ∧ (loadVar t p).run P w = .ok (v.ev ρ) w := by
  unfold loadE at hl
  split at hl
  · rename_i b o s m i
    split at hl
    · rename_i p l T hb
      split at hl
      · rename_i vs hvs
        simp only [Option.map_eq_some_iff, Prod.mk.injEq] at hl
        obtain ⟨v', hv, rfl, rfl⟩ := hl
        obtain ⟨h1, h2⟩ := inB_sound hn
        obtain ⟨hlen, hget⟩ := allSome_get hvs
        simp only [List.length_map, List.length_range] at hlen
        obtain ⟨x, hx, hxv⟩ := selSV_ev vs 0 v' hv (by omega) (by omega)
        have hx' := hget _ _ hx
        rw [Nat.sub_zero, List.getElem?_map, List.getElem?_range (by omega)] at hx'
        simp only [Option.map_some, Option.some.injEq] at hx'
        have hk := fBlk_sound hb
        have hpos : 0 ≤ ρ.i b := h.pos _ (List.mem_of_getElem? hk)
        refine ⟨_, by simp only [CV.ev]; rw [slP_pos hpos], ?_⟩
        have e : ((o : Int) + (s : Int) * iev ρ i).toNat = o + s * (iev ρ i).toNat := by
          obtain ⟨q, hq⟩ := Int.eq_ofNat_of_zero_le h1
          rw [hq, Int.toNat_natCast, ← Int.natCast_mul, ← Int.natCast_add, Int.toNat_natCast]
        rw [e, hxv]
        exact loadRow_sound hx' (h.blk hk)
      · cases hl
    · cases hl
  · rename_i x y
    split at hl
    · rename_i a p l T o hk0
      obtain ⟨rfl, rfl, hk⟩ := knownP_sound hk0
      simp only [Option.map_eq_some_iff, Prod.mk.injEq] at hl
      obtain ⟨v', hv, rfl, rfl⟩ := hl
      have hpos : 0 ≤ ρ.i a := h.pos _ (List.mem_of_getElem? hk)
      exact ⟨_, by simp only [CV.ev, iev_var, iev_lit]; rw [slP_pos hpos, Int.toNat_natCast], loadRow_sound hv (h.blk hk)⟩
    · split at hl
      · rename_i k hk
        have hsub := fHp_hk h hk
        split at hl
        · rename_i z m ha hz hs
          simp only at hl
          split at hl
          · rename_i hm
            cases hl
            rw [bev_mkAnd, Bool.and_eq_true, bev_mkAnd, Bool.and_eq_true, bev_mkLe, bev_mkLe, iev_lit, decide_eq_true_eq, decide_eq_true_eq] at hn
            obtain ⟨hx, hy, hn⟩ := hn
            replace hn := romNeedW_ev hn
            refine ⟨_, by simp only [CV.ev]; rw [slP_pos hx], ?_⟩
            refine loadVar_cells (cs := (romCells k x y 0 (z.cells.toList.map kindOf)).map (CV.ev ρ)) ha hs (by simp only [List.length_map, romCells_length]; simpa using hm) (fun j u hu => ?_)
            have := romCells_sound _ 0 hn j u hu
            rw [Nat.zero_add] at this
            exact Hl.sub_cell hsub this
          · cases hl
        · rename_i z _ ha hz
          cases hl
          rw [bev_mkAnd, Bool.and_eq_true, bev_mkAnd, Bool.and_eq_true, bev_mkLe, bev_mkLe, iev_lit, decide_eq_true_eq, decide_eq_true_eq] at hn
          obtain ⟨hx, hy, hn⟩ := hn
          have := romC_sound hn
          refine ⟨_, by simp only [CV.ev]; rw [slP_pos hx], loadVar_one ha ?_⟩
          exact Hl.sub_cell hsub this
        · cases hl
      · cases hl
  · cases hl
end
end Go.Sx

namespace Go.Sx
open Go

abbrev RT := Option (E × TV)
def RT.with (n : E) : RT → RT
  | some (m, v) => some (mkAnd n m, v)
  | none => none
theorem RT.with_some {n m : E} {r : RT} {v : TV} {ρ : Env} (h : r.with n = some (m, v)) (hm : bev ρ m = true) : bev ρ n = true ∧ ∃ m', r = some (m', v) ∧ bev ρ m' = true := by
  unfold RT.with at h
  split at h
  · cases h
    rw [bev_mkAnd, Bool.and_eq_true] at hm
    exact ⟨hm.1, _, rfl, hm.2⟩
  · cases h

def unE : UnOp → TV → RT
  | .not, .sv (.one (.bool e)) => some (.tt, TB (mkNot e))
  | .neg, .sv (.one (.int k e)) => some (.tt, TI k (mkWrap k (mkSub (.lit 0) e)))
  | .xor, .sv (.one (.int k e)) => some (.tt, TI k (.bits .xor k (.lit (if k.signed then -1 else k.max)) e))
  | _, _ => none

/-- The string of a row's cells that are bytes. -/
def strOf : List CV → Option E
  | [] => some (.slit .empty)
  | .int .u8 e :: l => (strOf l).map fun s => mkCat (.sbyte e) s
  | _ => none

def isU8 (P : Program) (el : TypeId) : Bool := match P.underlying el with | some (.int .u8) => true | _ => false
def convE (P : Program) (mem : Mem) (src dst : TypeId) (x : TV) : RT :=
  match P.underlying src, P.underlying dst, x with
  | some _, some (.int k), .sv (.one (.int _ e)) => some (.tt, TI k (mkWrap k e))
  | some .string, some .string, .sv (.one (.str e)) => some (.tt, TS e)
  | some (.slice el), some .string, .sv (.one (.sl x y l c)) =>
    if isU8 P el then
      if x = .lit (-1) then some (.tt, TS (.slit .empty)) else
      match knownP mem x y, l with
      | some (_, _, cs, _, o), .lit n => if o + n.toNat ≤ cs.length then (strOf ((cs.drop o).take n.toNat)).map fun s => (.tt, TS s) else none
      | _, _ => match (fHp mem x).bind (fun r => r.2.hk) with
        | some h => some (mkOr (mkEq x (.lit (-1))) (mkOr (mkEq l (.lit 0)) (mkAnd (mkLe (.lit 0) x) (mkAnd (mkLe (.lit 0) y) (.hby h x y l)))), TS (mkIte (mkEq x (.lit (-1))) (.slit .empty) (.sof h x y l)))
        | none => none
    else none
  | _, _, _ => none

def fieldAddrE (P : Program) (mem : Mem) (s : TypeId) (f : Nat) (x : TV) : RT :=
  match P.underlying s with
  | some (.struct fs) => match fs[f]? with
    | some fl => match sizeT P fl.type with
      | some (_ + 1) => match x with
        | .sv (.one (.hptr x y)) => some (mkAnd (nnX mem x) (mkLe (.lit 0) y), TP x (mkAdd y (.lit fl.offset)))
        | .sv (.one (.pti a o s n i)) => if (fBlk mem a).isSome then some (inB i n, .sv (.one (.pti a (o + fl.offset) s n i))) else none
        | _ => none
      | _ => none
    | none => none
  | _ => none

def indexAddrE (P : Program) (mem : Mem) (t : TypeId) (x i : TV) : RT :=
  match i with
  | .sv (.one (.int _ e)) => match P.underlying t with
    | some (.array len el) => match sizeT P el, x with
      | some n, .sv (.one (.pti a o s m k)) => match e with
        | .lit j => if 0 ≤ j ∧ j < len ∧ (fBlk mem a).isSome then some (inB k m, .sv (.one (.pti a (o + j.toNat * n) s m k))) else none
        | _ => none
      | some n, .sv (.one (.hptr x y)) => match e, knownP mem x y with
        | .lit j, _ => if 0 ≤ j ∧ j < len then some (mkAnd (nnX mem x) (mkLe (.lit 0) y), TP x (mkAdd y (.lit (j.toNat * n)))) else none
        | e, some (a, _, _, _, o) => some (inB e len, .sv (.one (.pti a o n len e)))
        | e, none => some (mkAnd (nnX mem x) (mkAnd (mkLe (.lit 0) y) (inB e len)), TP x (mkAdd y (mkMul e (.lit n))))
      | _, _ => none
    | some (.slice el) => match sizeT P el, x with
      | some n, .sv (.one (.sl x y l _)) => match e, knownP mem x y, l with
        | .lit j, _, _ => some (mkAnd (nnX mem x) (mkAnd (mkLe (.lit 0) y) (mkAnd (mkLe (.lit 0) (.lit j)) (mkLt (.lit j) l))), TP x (mkAdd y (mkMul (.lit j) (.lit n))))
        | e, some (a, _, _, _, o), .lit q => some (mkAnd (inB e q.toNat) (mkLe (.lit 0) (.lit q)), .sv (.one (.pti a o n q.toNat e)))
        | e, _, l => some (mkAnd (nnX mem x) (mkAnd (mkLe (.lit 0) y) (mkAnd (mkLe (.lit 0) e) (mkLt e l))), TP x (mkAdd y (mkMul e (.lit n))))
      | _, _ => none
    | _ => none
  | _ => none

def fieldE (P : Program) (t : TypeId) (f : Nat) (x : TV) : RT :=
  match P.underlying t, x with
  | some (.struct fs), .sv (.agg l) => match fs[f]? with
    | some fl => (loadRow P fl.type l fl.offset).map fun v => (.tt, .sv v)
    | none => none
  | _, _ => none

def indexE (P : Program) (t : TypeId) (x i : TV) : RT :=
  match P.underlying t, x, i with
  | some (.array len el), .sv (.agg l), .sv (.one (.int _ e)) => match sizeT P el with
    | some n => match e with
      | .lit j => if 0 ≤ j ∧ j < len then (loadRow P el l (j.toNat * n)).map fun v => (.tt, .sv v) else none
      | e => match allSome ((List.range len).map fun j => loadRow P el l (j * n)) with
        | some vs => (selSV e 0 vs).map fun v => (inB e len, .sv v)
        | none => none
    | none => none
  | some .string, .sv (.one (.str s)), .sv (.one (.int _ e)) => some (mkAnd (mkLe (.lit 0) e) (mkLt e (mkLen s)), TI .u8 (.sat s e))
  | _, _, _ => none

def extractE (i : Nat) : TV → RT
  | .tup l => (l[i]?).map fun v => (.tt, .sv v)
  | _ => none

def lenE (P : Program) (mem : Mem) (t : TypeId) (x : TV) : RT :=
  match P.underlying t, x with
  | some (.array n _), _ => some (.tt, TI .i64 (.lit n))
  | some (.slice _), .sv (.one (.sl _ _ l _)) => some (mkLe (.lit 0) l, TI .i64 l)
  | some .string, .sv (.one (.str e)) => some (.tt, TI .i64 (mkLen e))
  | some (.map _ _), .sv (.one (.map x)) => match (fHp mem x).bind (fun r => r.2.hk) with
    | some h => some (mkAnd (mkLe (.lit 0) x) (mkAnd (mkLe (.lit 0) x) (.hism h x)), TI .i64 (.hmlen h x))
    | none => none
  | _, _ => none

def minE : TV → TV → Option TV
  | .sv (.one (.int k x)), .sv (.one (.int _ y)) => some (TI k (mkIte (mkLt y x) y x))
  | _, _ => none
def maxE : TV → TV → Option TV
  | .sv (.one (.int k x)), .sv (.one (.int _ y)) => some (TI k (mkIte (mkLt x y) y x))
  | _, _ => none
def foldE (f : TV → TV → Option TV) : List TV → TV → Option TV
  | [], x => some x
  | y :: l, x => match f x y with
    | some z => foldE f l z
    | none => none

def opnds (st : St) : List Operand → Option (List TV)
  | [] => some []
  | x :: l => match opnd st x, opnds st l with
    | some v, some vs => some (v :: vs)
    | _, _ => none

def builtinE (P : Program) (mem : Mem) (b : Builtin) (ats : Array TypeId) (vs : List TV) : RT :=
  match b, vs with
  | .len, [x] => match ats[0]? with | some t => lenE P mem t x | none => none
  | .min, x :: l => (foldE minE l x).map fun v => (.tt, v)
  | .max, x :: l => (foldE maxE l x).map fun v => (.tt, v)
  | _, _ => none

def SV.cells : SV → List CV
  | .one c => [c]
  | .agg l => l
/-- Surely the value of one cell. -/
def CV.cellB : CV → Bool
  | .val v => v.oneCell'
  | .vr _ => false
  | .hv _ _ _ _ => false
  | _ => true
theorem CV.cell_one {ρ : Env} (c : CV) (h : c.cellB = true) : (c.ev ρ).oneCell' = true := by
  cases c <;> first | rfl | exact h | cases h
theorem SV.cells_ev {ρ : Env} (v : SV) (h : v.cells.all CV.cellB = true) : (v.ev ρ).cells.toList = v.cells.map (CV.ev ρ) := by
  cases v with
  | one c =>
    simp only [SV.cells, List.all_cons, List.all_nil, Bool.and_true] at h
    have := CV.cell_one (ρ := ρ) c h
    simp only [SV.ev, SV.cells, List.map_cons, List.map_nil]
    generalize c.ev ρ = x at *
    cases x <;> first | rfl | simp [Value.oneCell'] at this
  | agg l => simp [SV.ev, SV.cells, Value.cells]
def splice {α : Type} (l : List α) (o : Nat) (m : List α) : List α := l.take o ++ m ++ l.drop (o + m.length)

def fillE (place : Nat → Option (Nat × Nat)) (l : List CV) : List (Nat × SV) → Option (List CV)
  | [] => some l
  | (i, v) :: rest => match place i with
    | none => none
    | some (off, size) => if v.cells.length = size ∧ off + v.cells.length ≤ l.length ∧ v.cells.all CV.cellB = true then fillE place (splice l off v.cells) rest else none

def svs : List TV → Option (List SV)
  | [] => some []
  | .sv v :: l => (svs l).map (v :: ·)
  | _ => none

def buildE (P : Program) (t : TypeId) (is : List Nat) (vs : List TV) : RT :=
  match zeroT P t, svs vs with
  | some z, some vs => match P.underlying t with
    | some (.struct fs) => match allSome (fs.toList.map fun f => (sizeT P f.type).map fun n => (f.offset, n)) with
      | some places => (fillE (places[·]?) (z.cells.toList.map liftC) (is.zip vs)).map fun l => (.tt, .sv (.agg l))
      | none => none
    | some (.array _ el) => match sizeT P el with
      | some n => (fillE (fun i => some (i * n, n)) (z.cells.toList.map liftC) (is.zip vs)).map fun l => (.tt, .sv (.agg l))
      | none => none
    | _ => none
  | _, _ => none

def eqFsE (P : Program) (rec : TypeId → SV → SV → Option E) (xs ys : List CV) : List Field → Option E
  | [] => some .tt
  | f :: fs => if f.name ≠ "_" then
      match loadRow P f.type xs f.offset, loadRow P f.type ys f.offset with
      | some a, some b => match rec f.type a b, eqFsE P rec xs ys fs with
        | some e, some r => some (mkAnd e r)
        | _, _ => none
      | _, _ => none
    else eqFsE P rec xs ys fs
def eqIsE (P : Program) (rec : TypeId → SV → SV → Option E) (e : TypeId) (xs ys : List CV) : List Nat → Option E
  | [] => some .tt
  | i :: is => match loadRow P e xs (i * P.cellsOf e), loadRow P e ys (i * P.cellsOf e) with
      | some a, some b => match rec e a b, eqIsE P rec e xs ys is with
        | some q, some r => some (mkAnd q r)
        | _, _ => none
      | _, _ => none
def eqSV (P : Program) : Nat → TypeId → SV → SV → Option E
  | 0, _, _, _ => none
  | d + 1, t, x, y => match P.underlying t with
    | some .bool => match x, y with
      | .one (.bool a), .one (.bool b) => some (mkBeq a b)
      | _, _ => none
    | some (.int _) => match x, y with
      | .one (.int k a), .one (.int k' b) => if k = k' then some (mkEq a b) else none
      | _, _ => none
    | some .string => match x, y with
      | .one (.str a), .one (.str b) => some (mkSeq a b)
      | _, _ => none
    | some (.slice _) => match x, y with
      | .one (.sl x _ _ _), .one (.sl x' _ _ _) => if x' = .lit (-1) then some (mkEq x (.lit (-1))) else if x = .lit (-1) then some (mkEq x' (.lit (-1))) else none
      | _, _ => none
    | some (.pointer _) => match x, y with
      | .one (.hptr x _), .one (.hptr x' _) => if x' = .lit (-1) then some (mkEq x (.lit (-1))) else if x = .lit (-1) then some (mkEq x' (.lit (-1))) else none
      | _, _ => none
    | some (.map _ _) => match x, y with
      | .one (.map x), .one (.map x') => if x' = .lit (-1) then some (mkEq x (.lit (-1))) else if x = .lit (-1) then some (mkEq x' (.lit (-1))) else none
      | _, _ => none
    | some (.struct fs) => match x, y with
      | .agg xs, .agg ys => if P.stoodInHeld t = false then eqFsE P (eqSV P d) xs ys fs.toList else none
      | _, _ => none
    | some (.array n e) => match x, y with
      | .agg xs, .agg ys => match P.info? e with
        | some _ => eqIsE P (eqSV P d) e xs ys (List.range n)
        | none => none
      | _, _ => none
    | _ => none

/-- A pointer compared with nil, of a block that is known, or not. -/
def binE (P : Program) (op : BinOp) (t : TypeId) (X Y : TV) : RT :=
  match X, Y with
  | .sv (.one (.int k a)), .sv (.one (.int k' b)) => binI op k k' a b
  | .sv (.one (.str a)), .sv (.one (.str b)) => binS op a b
  | .sv (.one a), .sv (.one b) => match eqSV P 20 t (.one a) (.one b) with
      | some e => match op with
        | .eql => some (.tt, TB e)
        | .neq => some (.tt, TB (mkNot e))
        | _ => none
      | none => none
  | .sv (.agg a), .sv (.agg b) => if P.eqGuardType P.depth t = false then
      match eqSV P 20 t (.agg a) (.agg b) with
      | some e => match op with
        | .eql => some (.tt, TB e)
        | .neq => some (.tt, TB (mkNot e))
        | _ => none
      | none => none
    else none
  | _, _ => none

def nnX1 (mem : Mem) (x : E) : E :=
  match x with
  | .var a => if (fBlk mem a).isSome then .tt else .le (.lit (-1)) x
  | x => mkLe (.lit (-1)) x
/-- Bounds of a slicing: low, high, the capacity's end. -/
def boundE (d : E) : Option TV → Option E
  | none => some d
  | some (.sv (.one (.int _ e))) => some e
  | _ => none
/-- One more than the last cell's place is left where it was. -/
def shiftE (m l : E) (y : E) (n : Nat) : E := mkIte (mkEq m l) y (mkAdd y (mkMul l (.lit n)))
def sliceE (P : Program) (mem : Mem) (t : TypeId) (x : TV) (lo hi mx : Option TV) : RT :=
  match mx with
  | some _ => none
  | none => match P.underlying t, x with
    | some .string, .sv (.one (.str s)) => match boundE (.lit 0) lo, boundE (mkLen s) hi with
      | some l, some h => some (mkAnd (mkLe (.lit 0) l) (mkAnd (mkLe l h) (mkLe h (mkLen s))), TS (.sext s l h))
      | _, _ => none
    | some (.slice el), .sv (.one (.sl x y len cap)) => match boundE (.lit 0) lo, boundE len hi, sizeT P el with
      | some l, some h, some n => some (mkAnd (nnX1 mem x) (mkAnd (mkLe (.lit 0) y) (mkAnd (mkLe (.lit 0) l) (mkAnd (mkLe l h) (mkLe h cap)))),
          .sv (.one (.sl x (shiftE cap l y n) (mkSub h l) (mkSub cap l))))
      | _, _, _ => none
    | some (.array q el), .sv (.one (.hptr x y)) => match boundE (.lit 0) lo, boundE (.lit q) hi, sizeT P el with
      | some l, some h, some n => some (mkAnd (nnX mem x) (mkAnd (mkLe (.lit 0) y) (mkAnd (mkLe (.lit 0) l) (mkAnd (mkLe l h) (mkLe h (.lit q))))),
          .sv (.one (.sl x (shiftE (.lit q) l y n) (mkSub h l) (mkSub (.lit q) l))))
      | _, _, _ => none
    | _, _ => none

/-- An opaque value compared with the literal nil. -/
def nilCmp (P : Program) (st : St) (op : BinOp) (t : TypeId) (x y : Operand) : RT :=
  match opnd st x, y with
  | some (.sv (.one (.vr j))), .const .nilIface => match P.underlying t with
    | some (.interface _) => match op with
      | .eql => some (.le (.vint j) (.lit 1), TB (.eq (.vint j) (.lit 0)))
      | .neq => some (.le (.vint j) (.lit 1), TB (.not (.eq (.vint j) (.lit 0))))
      | _ => none
    | _ => none
  | _, _ => none
def quiet (P : Program) (st : St) (op : Op) : RT :=
  match op with
  | .move x => (opnd st x).map fun v => (.tt, v)
  | .assign x => (opnd st x).map fun v => (.tt, v)
  | .pick c a b => match opnd st c with
    | some (.sv (.one (.bool e))) => match known st.path e with
      | some true => (opnd st a).map fun v => (.tt, v)
      | some false => (opnd st b).map fun v => (.tt, v)
      | none => match opnd st a, opnd st b with
        | some (.sv va), some (.sv vb) => (mergeSV e va vb).map fun v => (.tt, .sv v)
        | _, _ => none
    | _ => none
  | .nilCheck x => match opnd st x with
    | some (.sv (.one (.hptr x y))) => some (nnX st.mem x, TP x y)
    | _ => none
  | .binOp op t x y _ => match nilCmp P st op t x y with
    | some r => some r
    | none => match opnd st x, opnd st y with
      | some a, some b => binE P op t a b
      | _, _ => none
  | .unOp op _ x => match opnd st x with
    | some a => unE op a
    | none => none
  | .convert s d x => match opnd st x with
    | some a => convE P st.mem s d a
    | none => none
  | .fieldAddr s x f => match opnd st x with
    | some a => fieldAddrE P st.mem s f a
    | none => none
  | .field t x f => match opnd st x with
    | some a => fieldE P t f a
    | none => none
  | .indexAddr t x i => match opnd st x, opnd st i with
    | some a, some b => indexAddrE P st.mem t a b
    | _, _ => none
  | .index t x i => match opnd st x, opnd st i with
    | some a, some b => indexE P t a b
    | _, _ => none
  | .load t x => match opnd st x with
    | some (.sv (.one c)) => (loadE P st.mem t c).map fun r => (r.1, .sv r.2)
    | _ => none
  | .extract x i => match opnd st x with
    | some a => extractE i a
    | none => none
  | .sliceToArrayPointer t x => match P.underlying t, opnd st x with
    | some (.array n _), some (.sv (.one (.sl x y l _))) => some (mkLe (.lit n) l, TP x y)
    | _, _ => none
  | .slice t x lo hi mx => match opnd st x with
    | some a => match (match lo with | none => some none | some o => (opnd st o).map some), (match hi with | none => some none | some o => (opnd st o).map some), (match mx with | none => some none | some o => (opnd st o).map some) with
      | some l, some h, some m => sliceE P st.mem t a l h m
      | _, _, _ => none
    | none => none
  | .makeFunc (.func f) first captured => if first = #[] ∧ captured = #[] then some (.tt, .sv (.one (.val (.func (.func f) #[] #[])))) else match captured.toList with
    | [c] => if first = #[] then match opnd st c with
      | some (.sv (.one (.hptr x y))) => if y = .lit 0 then some (.tt, .sv (.one (.clo f x))) else none
      | _ => none
      else none
    | _ => none
  | .call { callee := .builtin b, args, argTypes } => match opnds st args.toList with
    | some vs => builtinE P st.mem b argTypes vs
    | none => none
  | .build t parts => match opnds st (parts.toList.map (·.2)) with
    | some vs => buildE P t (parts.toList.map (·.1)) vs
    | none => none
  | _ => none
end Go.Sx
