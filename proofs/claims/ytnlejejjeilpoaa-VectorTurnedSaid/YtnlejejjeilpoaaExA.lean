/- A symbolic executor of functions: expressions, symbolic values, states, operations that yield a value. What it tells of a piece of code is proved to be what the machine does. -/
import Derived.ChangeKeysEq
import Derived.Laws.CopyRow
import Derived.Laws.Rows
import Derived.Laws.Tables
import Derived.WalkKit
set_option linter.unusedSimpArgs false
set_option linter.unusedVariables false
set_option linter.constructorNameAsVariable false
namespace Go.Ex
open Go

inductive Kd | int (k : IntKind) | bool | slice
  deriving DecidableEq

structure Env where
  i : Nat → Int
  b : Nat → Bool
  w : World

/-- Expressions of integers and of bools. -/
inductive E where
  | lit (n : Int) | var (i : Nat)
  | add (a b : E) | sub (a b : E) | mul (a b : E) | quo (a b : E) | rem (a b : E)
  | wrap (k : IntKind) (a : E)
  | bits (op : BinOp) (k : IntKind) (a b : E)
  | shl (k : IntKind) (a b : E) | shr (k : IntKind) (a b : E)
  | tt | ff | bvar (i : Nat)
  | not (a : E) | and (a b : E) | or (a b : E)
  | ite (c a b : E)
  | lt (a b : E) | le (a b : E) | eq (a b : E) | beq (a b : E)
  | romI (x y : E) (j : Nat) | romB (x y : E) (j : Nat) | romP (x y : E) (j which : Nat) | romIs (x y : E) (j : Nat) (k : Kd)
  deriving DecidableEq

def bitsI (op : BinOp) (k : IntKind) (x y : Int) : Int :=
  let a := BitVec.ofInt k.bits x
  let b := BitVec.ofInt k.bits y
  match op with
  | .and => k.wrap (a &&& b).toNat
  | .or => k.wrap (a ||| b).toNat
  | .xor => k.wrap (a ^^^ b).toNat
  | .andNot => k.wrap (a &&& ~~~b).toNat
  | _ => 0

def romCell (w : World) (x y : Int) (j : Nat) : Option Value := w.cell? ⟨x.toNat, y.toNat + j, none⟩
def valI : Option Value → Int | some (.int _ n) => n | _ => 0
def valB : Option Value → Bool | some (.bool b) => b | _ => false
/-- All pairs, one after the other. -/
def stepP : Nat × Nat → Nat × Nat
  | (0, b) => (b + 1, 0)
  | (a + 1, b) => (a, b + 1)
def unp : Nat → Nat × Nat
  | 0 => (0, 0)
  | n + 1 => stepP (unp n)
theorem unp_all : ∀ s b a : Nat, a + b = s → ∃ n, unp n = (a, b) := by
  intro s
  induction s with
  | zero => intro b a h; exact ⟨0, by rw [show a = 0 by omega, show b = 0 by omega]; rfl⟩
  | succ s ih =>
    intro b
    induction b with
    | zero => intro a h; obtain ⟨n, hn⟩ := ih s 0 (by omega); exact ⟨n + 1, by rw [unp, hn, show a = s + 1 by omega]; rfl⟩
    | succ b ihb => intro a h; obtain ⟨n, hn⟩ := ihb (a + 1) (by omega); exact ⟨n + 1, by rw [unp, hn]; rfl⟩
/-- A slice's beginning: none where the block is -1, a place without cells where it is less. -/
def slP (x y : Int) : Option Addr := if 0 ≤ x then some ⟨x.toNat, y.toNat, none⟩ else if x = -1 then none else some ⟨(-x - 2).toNat, (unp y.toNat).1, some (unp y.toNat).2⟩
theorem slP_pos {x y : Int} (h : 0 ≤ x) : slP x y = some ⟨x.toNat, y.toNat, none⟩ := if_pos h
theorem slP_nil (y : Int) : slP (-1) y = none := rfl
theorem slP_some {x y : Int} (h : x ≠ -1) : (slP x y).isNone = false := by unfold slP; split <;> simp
theorem slP_all (a : Option Addr) : ∃ x y : Int, a = slP x y ∧ 0 ≤ y := by
  cases a with
  | none => exact ⟨-1, 0, rfl, by omega⟩
  | some q =>
    obtain ⟨b, o, s⟩ := q
    cases s with
    | none => exact ⟨b, o, by simp [slP], by omega⟩
    | some s =>
      obtain ⟨n, hn⟩ := unp_all (o + s) s o rfl
      refine ⟨-(b : Int) - 2, n, ?_, by omega⟩
      unfold slP
      rw [if_neg (by omega), if_neg (by omega), Int.toNat_natCast, hn, show (-(-(b : Int) - 2) - 2).toNat = b by omega]
def valP : Option Value → Nat → Int
  | some (.slice none _ _), 0 => -1
  | some (.slice (some ⟨b, _, _⟩) _ _), 0 => b
  | some (.slice (some ⟨_, o, _⟩) _ _), 1 => o
  | some (.slice _ n _), 2 => n
  | some (.slice _ _ c), 3 => c
  | _, _ => 0
def valIs : Option Value → Kd → Bool
  | some (.int k _), .int k' => k = k'
  | some (.bool _), .bool => true
  | some (.slice (some ⟨_, _, none⟩) _ _), .slice => true
  | some (.slice none _ _), .slice => true
  | _, _ => false

def ev (ρ : Env) : E → Int × Bool
  | .lit n => (n, false)
  | .var i => (ρ.i i, false)
  | .add a b => ((ev ρ a).1 + (ev ρ b).1, false)
  | .sub a b => ((ev ρ a).1 - (ev ρ b).1, false)
  | .mul a b => ((ev ρ a).1 * (ev ρ b).1, false)
  | .quo a b => ((ev ρ a).1.tdiv (ev ρ b).1, false)
  | .rem a b => ((ev ρ a).1.tmod (ev ρ b).1, false)
  | .wrap k a => (k.wrap (ev ρ a).1, false)
  | .bits op k a b => (bitsI op k (ev ρ a).1 (ev ρ b).1, false)
  | .shl k a b => (k.wrap ((ev ρ a).1 * 2 ^ (min (ev ρ b).1.toNat k.bits)), false)
  | .shr k a b => ((ev ρ a).1.fdiv (2 ^ (min (ev ρ b).1.toNat k.bits)), false)
  | .tt => (0, true)
  | .ff => (0, false)
  | .bvar i => (0, ρ.b i)
  | .not a => (0, !(ev ρ a).2)
  | .and a b => (0, (ev ρ a).2 && (ev ρ b).2)
  | .or a b => (0, (ev ρ a).2 || (ev ρ b).2)
  | .ite c a b => (if (ev ρ c).2 then (ev ρ a).1 else (ev ρ b).1, if (ev ρ c).2 then (ev ρ a).2 else (ev ρ b).2)
  | .lt a b => (0, decide ((ev ρ a).1 < (ev ρ b).1))
  | .le a b => (0, decide ((ev ρ a).1 ≤ (ev ρ b).1))
  | .eq a b => (0, decide ((ev ρ a).1 = (ev ρ b).1))
  | .beq a b => (0, (ev ρ a).2 == (ev ρ b).2)
  | .romI x y j => (valI (romCell ρ.w (ev ρ x).1 (ev ρ y).1 j), false)
  | .romB x y j => (0, valB (romCell ρ.w (ev ρ x).1 (ev ρ y).1 j))
  | .romP x y j k => (valP (romCell ρ.w (ev ρ x).1 (ev ρ y).1 j) k, false)
  | .romIs x y j k => (0, valIs (romCell ρ.w (ev ρ x).1 (ev ρ y).1 j) k)

def iev (ρ : Env) (e : E) : Int := (ev ρ e).1
def bev (ρ : Env) (e : E) : Bool := (ev ρ e).2

section
variable (ρ : Env) (a b c x y : E)
theorem iev_lit (n : Int) : iev ρ (.lit n) = n := rfl
theorem iev_var (i : Nat) : iev ρ (.var i) = ρ.i i := rfl
theorem iev_add : iev ρ (.add a b) = iev ρ a + iev ρ b := rfl
theorem iev_sub : iev ρ (.sub a b) = iev ρ a - iev ρ b := rfl
theorem iev_mul : iev ρ (.mul a b) = iev ρ a * iev ρ b := rfl
theorem iev_quo : iev ρ (.quo a b) = (iev ρ a).tdiv (iev ρ b) := rfl
theorem iev_rem : iev ρ (.rem a b) = (iev ρ a).tmod (iev ρ b) := rfl
theorem iev_wrap (k : IntKind) : iev ρ (.wrap k a) = k.wrap (iev ρ a) := rfl
theorem iev_bits (op : BinOp) (k : IntKind) : iev ρ (.bits op k a b) = bitsI op k (iev ρ a) (iev ρ b) := rfl
theorem iev_shl (k : IntKind) : iev ρ (.shl k a b) = k.wrap (iev ρ a * 2 ^ (min (iev ρ b).toNat k.bits)) := rfl
theorem iev_shr (k : IntKind) : iev ρ (.shr k a b) = (iev ρ a).fdiv (2 ^ (min (iev ρ b).toNat k.bits)) := rfl
theorem iev_ite : iev ρ (.ite c a b) = if bev ρ c then iev ρ a else iev ρ b := rfl
theorem iev_romI (j : Nat) : iev ρ (.romI x y j) = valI (romCell ρ.w (iev ρ x) (iev ρ y) j) := rfl
theorem iev_romP (j k : Nat) : iev ρ (.romP x y j k) = valP (romCell ρ.w (iev ρ x) (iev ρ y) j) k := rfl
theorem bev_tt : bev ρ .tt = true := rfl
theorem bev_ff : bev ρ .ff = false := rfl
theorem bev_bvar (i : Nat) : bev ρ (.bvar i) = ρ.b i := rfl
theorem bev_not : bev ρ (.not a) = !bev ρ a := rfl
theorem bev_and : bev ρ (.and a b) = (bev ρ a && bev ρ b) := rfl
theorem bev_or : bev ρ (.or a b) = (bev ρ a || bev ρ b) := rfl
theorem bev_ite : bev ρ (.ite c a b) = if bev ρ c then bev ρ a else bev ρ b := rfl
theorem bev_lt : bev ρ (.lt a b) = decide (iev ρ a < iev ρ b) := rfl
theorem bev_le : bev ρ (.le a b) = decide (iev ρ a ≤ iev ρ b) := rfl
theorem bev_eq : bev ρ (.eq a b) = decide (iev ρ a = iev ρ b) := rfl
theorem bev_beq : bev ρ (.beq a b) = (bev ρ a == bev ρ b) := rfl
theorem bev_romB (j : Nat) : bev ρ (.romB x y j) = valB (romCell ρ.w (iev ρ x) (iev ρ y) j) := rfl
theorem bev_romIs (j : Nat) (k : Kd) : bev ρ (.romIs x y j k) = valIs (romCell ρ.w (iev ρ x) (iev ρ y) j) k := rfl
end

/-! ### Constructors that reckon what they can -/
def mkNot : E → E
  | .tt => .ff
  | .ff => .tt
  | .not a => a
  | a => .not a
theorem bev_mkNot (ρ : Env) (a : E) : bev ρ (mkNot a) = !bev ρ a := by
  unfold mkNot; split <;> simp [bev_tt, bev_ff, bev_not]

def mkAnd (a b : E) : E :=
  match a, b with
  | .tt, b => b
  | .ff, _ => .ff
  | a, .tt => a
  | _, .ff => .ff
  | a, b => .and a b
theorem bev_mkAnd (ρ : Env) (a b : E) : bev ρ (mkAnd a b) = (bev ρ a && bev ρ b) := by
  unfold mkAnd; split <;> simp [bev_tt, bev_ff, bev_and]

def mkOr (a b : E) : E :=
  match a, b with
  | .tt, _ => .tt
  | .ff, b => b
  | _, .tt => .tt
  | a, .ff => a
  | a, b => if b = mkNot a then .tt else .or a b
theorem bev_mkOr (ρ : Env) (a b : E) : bev ρ (mkOr a b) = (bev ρ a || bev ρ b) := by
  unfold mkOr; split <;> try simp [bev_tt, bev_ff, bev_or]
  split
  · rename_i h; rw [h, bev_mkNot, bev_tt]; cases bev ρ a <;> rfl
  · rfl

/-- Is c one of g's conjuncts? -/
def conjIn (c : E) : E → Bool
  | .and a b => conjIn c a || conjIn c b || decide (E.and a b = c)
  | e => decide (e = c)
theorem conjIn_sound (ρ : Env) (c : E) : ∀ g, conjIn c g = true → bev ρ g = true → bev ρ c = true := by
  intro g
  induction g with
  | and a b iha ihb =>
    intro h hg
    simp only [conjIn, Bool.or_eq_true, decide_eq_true_eq] at h
    rw [bev_and, Bool.and_eq_true] at hg
    rcases h with (h | h) | h
    · exact iha h hg.1
    · exact ihb h hg.2
    · rw [← h, bev_and, hg.1, hg.2]; rfl
  | _ => intro h hg; simp only [conjIn, decide_eq_true_eq] at h; exact h ▸ hg

def mkImp (g c : E) : E := if conjIn c g then .tt else mkOr (mkNot g) c
theorem bev_mkImp (ρ : Env) (g c : E) (h : bev ρ (mkImp g c) = true) (hg : bev ρ g = true) : bev ρ c = true := by
  unfold mkImp at h
  split at h
  · rename_i hc; exact conjIn_sound ρ c g hc hg
  · rw [bev_mkOr, bev_mkNot, hg] at h; simpa using h

def mkIteB (c a b : E) : E :=
  match c, a, b with
  | .tt, a, _ => a
  | .ff, _, b => b
  | c, .tt, .ff => c
  | c, .tt, b => mkOr c b
  | c, .ff, b => mkAnd (mkNot c) b
  | c, a, .ff => mkAnd c a
  | c, a, .tt => mkOr (mkNot c) a
  | c, a, b => if a = b then a else if a = c then mkOr c b else if b = c then mkAnd c a else .ite c a b
theorem bev_mkIteB (ρ : Env) (c a b : E) : bev ρ (mkIteB c a b) = if bev ρ c then bev ρ a else bev ρ b := by
  unfold mkIteB
  split <;> try simp only [bev_tt, bev_ff, bev_mkOr, bev_mkAnd, bev_mkNot, if_true, if_false, Bool.false_eq_true]
  case h_8 =>
    split
    · rename_i h; subst h; simp
    · split
      · rename_i h; subst h; rw [bev_mkOr]; split <;> simp_all
      · split
        · rename_i h; subst h; rw [bev_mkAnd]; split <;> simp_all
        · rfl
  all_goals (split <;> simp_all)

def mkIteI (c a b : E) : E :=
  match c with
  | .tt => a
  | .ff => b
  | c => if a = b then a else .ite c a b
theorem iev_mkIteI (ρ : Env) (c a b : E) : iev ρ (mkIteI c a b) = if bev ρ c then iev ρ a else iev ρ b := by
  unfold mkIteI
  split
  · simp [bev_tt]
  · simp [bev_ff]
  · split
    · rename_i h; subst h; simp
    · rfl

def mkAdd : E → E → E
  | .lit a, .lit b => .lit (a + b)
  | .lit a, b => if a = 0 then b else .add (.lit a) b
  | a, .lit b => if b = 0 then a else .add a (.lit b)
  | a, b => .add a b
theorem iev_mkAdd (ρ : Env) (a b : E) : iev ρ (mkAdd a b) = iev ρ a + iev ρ b := by
  unfold mkAdd; split <;> try rfl
  · split
    · rename_i h; subst h; simp [iev_lit]
    · rfl
  · split
    · rename_i h; subst h; simp [iev_lit]
    · rfl
def mkSub : E → E → E
  | .lit a, .lit b => .lit (a - b)
  | a, .lit b => if b = 0 then a else .sub a (.lit b)
  | a, b => .sub a b
theorem iev_mkSub (ρ : Env) (a b : E) : iev ρ (mkSub a b) = iev ρ a - iev ρ b := by
  unfold mkSub; split <;> try rfl
  · split
    · rename_i h; subst h; simp [iev_lit]
    · rfl
def mkMul : E → E → E
  | .lit a, .lit b => .lit (a * b)
  | .lit a, b => if a = 1 then b else .mul (.lit a) b
  | a, .lit b => if b = 1 then a else .mul a (.lit b)
  | a, b => .mul a b
theorem iev_mkMul (ρ : Env) (a b : E) : iev ρ (mkMul a b) = iev ρ a * iev ρ b := by
  unfold mkMul; split <;> try rfl
  · split
    · rename_i h; subst h; simp [iev_lit]
    · rfl
  · split
    · rename_i h; subst h; simp [iev_lit]
    · rfl
def mkWrap (k : IntKind) : E → E
  | .lit a => .lit (k.wrap a)
  | a => .wrap k a
theorem iev_mkWrap (ρ : Env) (k : IntKind) (a : E) : iev ρ (mkWrap k a) = k.wrap (iev ρ a) := by
  unfold mkWrap; split <;> rfl
def mkLt : E → E → E
  | .lit a, .lit b => if a < b then .tt else .ff
  | a, b => .lt a b
theorem bev_mkLt (ρ : Env) (a b : E) : bev ρ (mkLt a b) = decide (iev ρ a < iev ρ b) := by
  unfold mkLt; split
  · split <;> rename_i h <;> simp [bev_tt, bev_ff, iev_lit, h] <;> omega
  · rfl
def mkLe : E → E → E
  | .lit a, .lit b => if a ≤ b then .tt else .ff
  | a, b => .le a b
theorem bev_mkLe (ρ : Env) (a b : E) : bev ρ (mkLe a b) = decide (iev ρ a ≤ iev ρ b) := by
  unfold mkLe; split
  · split <;> rename_i h <;> simp [bev_tt, bev_ff, iev_lit, h] <;> omega
  · rfl
def mkEq : E → E → E
  | .lit a, .lit b => if a = b then .tt else .ff
  | a, b => if a = b then .tt else .eq a b
theorem bev_mkEq (ρ : Env) (a b : E) : bev ρ (mkEq a b) = decide (iev ρ a = iev ρ b) := by
  unfold mkEq; split
  · split <;> rename_i h <;> simp [bev_tt, bev_ff, iev_lit, h]
  · split
    · rename_i h; subst h; simp [bev_tt]
    · rfl
def mkBeq : E → E → E
  | .tt, b => b
  | .ff, b => mkNot b
  | a, .tt => a
  | a, .ff => mkNot a
  | a, b => if a = b then .tt else .beq a b
theorem bev_mkBeq (ρ : Env) (a b : E) : bev ρ (mkBeq a b) = (bev ρ a == bev ρ b) := by
  unfold mkBeq; split <;> try simp only [bev_tt, bev_ff, bev_mkNot]
  · simp
  · cases bev ρ b <;> rfl
  · simp
  · cases bev ρ a <;> rfl
  · split
    · rename_i h; subst h; simp [bev_tt]
    · rfl

/-! ### Symbolic values -/
inductive CV where
  | int (k : IntKind) (e : E) | bool (e : E)
  | ptr (b o : Nat) | pti (b o s n : Nat) (i : E)
  | rptr (x y : E) | rsl (x y l c : E)
  | val (v : Value)
inductive SV where | one (c : CV) | agg (l : List CV)
inductive TV where | sv (s : SV) | tup (l : List SV)

def CV.ev (β : Nat → Nat) (ρ : Env) : CV → Value
  | .int k e => .int k (iev ρ e)
  | .bool e => .bool (bev ρ e)
  | .ptr b o => .pointer (some ⟨β b, o, none⟩)
  | .pti b o s _ i => .pointer (some ⟨β b, o + s * (iev ρ i).toNat, none⟩)
  | .rptr x y => .pointer (some ⟨(iev ρ x).toNat, (iev ρ y).toNat, none⟩)
  | .rsl x y l c => .slice (slP (iev ρ x) (iev ρ y)) (iev ρ l).toNat (iev ρ c).toNat
  | .val v => v
def SV.ev (β : Nat → Nat) (ρ : Env) : SV → Value
  | .one c => c.ev β ρ
  | .agg l => .agg (l.map (CV.ev β ρ)).toArray
def TV.ev (β : Nat → Nat) (ρ : Env) : TV → Value
  | .sv s => s.ev β ρ
  | .tup l => .tuple (l.map (SV.ev β ρ)).toArray

def liftC : Value → CV
  | .int k n => .int k (.lit n)
  | .bool true => .bool .tt
  | .bool false => .bool .ff
  | .slice none n c => .rsl (.lit (-1)) (.lit 0) (.lit n) (.lit c)
  | v => .val v
theorem liftC_ev (β : Nat → Nat) (ρ : Env) (v : Value) : (liftC v).ev β ρ = v := by
  unfold liftC; split <;> rfl
def lift : Value → TV
  | .agg cs => .sv (.agg (cs.toList.map liftC))
  | v => .sv (.one (liftC v))
theorem map_liftC (β : Nat → Nat) (ρ : Env) (l : List Value) : (l.map liftC).map (CV.ev β ρ) = l := by
  induction l with
  | nil => rfl
  | cons v l ih => simp only [List.map_cons, liftC_ev, ih]
theorem lift_ev (β : Nat → Nat) (ρ : Env) (v : Value) : (lift v).ev β ρ = v := by
  unfold lift; split
  · simp only [TV.ev, SV.ev, map_liftC]
  · exact liftC_ev β ρ v

def sameV : Value → Value → Bool
  | .pointer none, .pointer none => true
  | .slice none n c, .slice none m d => n == m && c == d
  | .nilFunc, .nilFunc => true
  | .nilIface, .nilIface => true
  | .map none, .map none => true
  | .string s, .string t => decide (s = t)
  | _, _ => false
theorem sameV_eq {a b : Value} (h : sameV a b = true) : a = b := by
  unfold sameV at h; split at h <;> simp_all

def mergeCV (c : E) : CV → CV → Option CV
  | .int k e, .int k' e' => if k = k' then some (.int k (mkIteI c e e')) else none
  | .bool e, .bool e' => some (.bool (mkIteB c e e'))
  | .ptr b o, .ptr b' o' => if b = b' ∧ o = o' then some (.ptr b o) else none
  | .rptr x y, .rptr x' y' => some (.rptr (mkIteI c x x') (mkIteI c y y'))
  | .rsl x y l k, .rsl x' y' l' k' => some (.rsl (mkIteI c x x') (mkIteI c y y') (mkIteI c l l') (mkIteI c k k'))
  | .val v, .val v' => if sameV v v' then some (.val v) else none
  | _, _ => none
theorem mergeCV_ev {β : Nat → Nat} {ρ : Env} {c : E} {a b v : CV} (h : mergeCV c a b = some v) : v.ev β ρ = if bev ρ c then a.ev β ρ else b.ev β ρ := by
  unfold mergeCV at h
  split at h
  · split at h
    · rename_i hk; subst hk; cases h; simp only [CV.ev, iev_mkIteI]; split <;> rfl
    · cases h
  · cases h; simp only [CV.ev, bev_mkIteB]; split <;> rfl
  · split at h
    · rename_i hk; obtain ⟨rfl, rfl⟩ := hk; cases h; simp
    · cases h
  · cases h; simp only [CV.ev, iev_mkIteI]; split <;> rfl
  · cases h; simp only [CV.ev, iev_mkIteI]; split <;> rfl
  · split at h
    · rename_i hv; cases h; simp [CV.ev, sameV_eq hv]
    · cases h
  · cases h

def mergeL (c : E) : List CV → List CV → Option (List CV)
  | [], [] => some []
  | a :: l, b :: m => match mergeCV c a b, mergeL c l m with
    | some v, some r => some (v :: r)
    | _, _ => none
  | _, _ => none
theorem mergeL_ev {β : Nat → Nat} {ρ : Env} {c : E} : ∀ {l m r : List CV}, mergeL c l m = some r → r.map (CV.ev β ρ) = if bev ρ c then l.map (CV.ev β ρ) else m.map (CV.ev β ρ)
  | [], [], r, h => by cases h; simp
  | a :: l, b :: m, r, h => by
    unfold mergeL at h
    split at h
    · rename_i v r' h1 h2
      cases h
      have e1 := mergeCV_ev (β := β) (ρ := ρ) h1
      have e2 := mergeL_ev (β := β) (ρ := ρ) h2
      simp only [List.map_cons, e1, e2]
      split <;> rfl
    · cases h
  | [], _ :: _, _, h => by simp [mergeL] at h
  | _ :: _, [], _, h => by simp [mergeL] at h

def mergeSV (c : E) : SV → SV → Option SV
  | .one a, .one b => (mergeCV c a b).map .one
  | .agg l, .agg m => (mergeL c l m).map .agg
  | _, _ => none
theorem mergeSV_ev {β : Nat → Nat} {ρ : Env} {c : E} {a b v : SV} (h : mergeSV c a b = some v) : v.ev β ρ = if bev ρ c then a.ev β ρ else b.ev β ρ := by
  unfold mergeSV at h
  split at h
  · simp only [Option.map_eq_some_iff] at h
    obtain ⟨x, hx, rfl⟩ := h
    exact mergeCV_ev hx
  · simp only [Option.map_eq_some_iff] at h
    obtain ⟨x, hx, rfl⟩ := h
    simp only [SV.ev, mergeL_ev hx]
    split <;> rfl
  · cases h

def mergeT (c : E) : TV → TV → Option TV
  | .sv a, .sv b => (mergeSV c a b).map .sv
  | .tup l, .tup m => (go l m).map .tup
  | _, _ => none
where go : List SV → List SV → Option (List SV)
  | [], [] => some []
  | a :: l, b :: m => match mergeSV c a b, go l m with
    | some v, some r => some (v :: r)
    | _, _ => none
  | _, _ => none
theorem mergeT_go {β : Nat → Nat} {ρ : Env} {c : E} : ∀ {l m r : List SV}, mergeT.go c l m = some r → r.map (SV.ev β ρ) = if bev ρ c then l.map (SV.ev β ρ) else m.map (SV.ev β ρ)
  | [], [], r, h => by cases h; simp
  | a :: l, b :: m, r, h => by
    unfold mergeT.go at h
    split at h
    · rename_i v r' h1 h2
      cases h
      have e1 := mergeSV_ev (β := β) (ρ := ρ) h1
      have e2 := mergeT_go (β := β) (ρ := ρ) h2
      simp only [List.map_cons, e1, e2]
      split <;> rfl
    · cases h
  | [], _ :: _, _, h => by simp [mergeT.go] at h
  | _ :: _, [], _, h => by simp [mergeT.go] at h
theorem mergeT_ev {β : Nat → Nat} {ρ : Env} {c : E} {a b v : TV} (h : mergeT c a b = some v) : v.ev β ρ = if bev ρ c then a.ev β ρ else b.ev β ρ := by
  unfold mergeT at h
  split at h
  · simp only [Option.map_eq_some_iff] at h
    obtain ⟨x, hx, rfl⟩ := h
    exact mergeSV_ev hx
  · simp only [Option.map_eq_some_iff] at h
    obtain ⟨x, hx, rfl⟩ := h
    simp only [TV.ev, mergeT_go hx]
    split <;> rfl
  · cases h
end Go.Ex

namespace Go.Ex
open Go

structure Slot where
  c : E
  v : TV
structure St where
  tmps : List (Option Slot)
  mem : List (Option (List CV × TypeId))
  live : E
  nv : Nat

/-- What was there ahead of a call is as it was, but for the blocks of S. -/
structure Keep (S : Nat → Prop) (w0 w : World) : Prop where
  os : w.os = w0.os
  tape : w.tape = w0.tape
  output : w.output = w0.output
  size : w0.heap.size ≤ w.heap.size
  block : ∀ k, k < w0.heap.size → ¬ S k → w.heap[k]? = w0.heap[k]?

/-- What is read of memory that stays. -/
def Rom (S : Nat → Prop) (w0 : World) (ρ : Env) : Prop := ∀ k o, ρ.w.heap[k]? = some o → ¬ S k ∧ w0.heap[k]? = some o

abbrev Mem := List (Option (List CV × TypeId))

structure MRel (S : Nat → Prop) (w0 : World) (β : Nat → Nat) (ρ : Env) (mem : Mem) (w : World) : Prop where
  rom : Rom S w0 ρ
  keep : Keep S w0 w
  blk : ∀ (b : Nat) l T, mem[b]? = some (some (l, T)) → w.heap[β b]? = some (.cells (l.map (CV.ev β ρ)).toArray T (0, 0))
  own : ∀ (b : Nat) x, mem[b]? = some (some x) → S (β b) ∨ w0.heap.size ≤ β b
  inj : ∀ (b c : Nat) x y, mem[b]? = some (some x) → mem[c]? = some (some y) → β b = β c → b = c

structure Rel (S : Nat → Prop) (w0 : World) (β : Nat → Nat) (ρ : Env) (st : St) (a : Act) (w : World) : Prop extends MRel S w0 β ρ st.mem w where
  size : a.tmps.size = st.tmps.length
  defers : a.defers = []
  tmp : ∀ (t : Nat) (s : Slot), st.tmps[t]? = some (some s) → a.tmps[t]? = some (if bev ρ s.c then s.v.ev β ρ else undef)

section
variable {S : Nat → Prop} {w0 : World} {β : Nat → Nat} {ρ : Env} {st : St} {a : Act} {w : World}

theorem MRel.rom_cell {mem : Mem} (h : MRel S w0 β ρ mem w) {p : Addr} {v : Value} (hv : ρ.w.cell? p = some v) : w.cell? p = some v := by
  unfold World.cell? at hv
  cases hb : ρ.w.heap[p.block]? with
  | none => simp [hb] at hv
  | some o =>
    obtain ⟨h1, h2⟩ := h.rom p.block o hb
    have hlt : p.block < w0.heap.size := (Array.getElem?_eq_some_iff.1 h2).1
    have h3 := h.keep.block p.block hlt h1
    rw [hb] at hv
    unfold World.cell?
    rw [h3, h2]
    exact hv

/-! ### Operands -/
def opnd (st : St) (g : E) : Operand → Option (E × TV)
  | .tmp t => match st.tmps[t]? with
    | some (some s) => some (mkImp g s.c, s.v)
    | _ => none
  | .const v => some (.tt, lift v)
  | .func f => some (.tt, .sv (.one (.val (.func (.func f) #[] #[]))))
  | .global _ => none

theorem opnd_sound (h : Rel S w0 β ρ st a w) {g n : E} {x : Operand} {v : TV} (ho : opnd st g x = some (n, v)) (hg : bev ρ g = true) (hn : bev ρ n = true) : a.eval x = v.ev β ρ := by
  cases x with
  | tmp t =>
    simp only [opnd] at ho
    split at ho
    · rename_i s hs
      simp only [Option.some.injEq, Prod.mk.injEq] at ho
      obtain ⟨rfl, rfl⟩ := ho
      have := h.tmp t s hs
      simp [Act.eval, this, bev_mkImp ρ g s.c hn hg]
    · cases ho
  | const v' => simp only [opnd, Option.some.injEq, Prod.mk.injEq] at ho; rw [← ho.2, lift_ev]; rfl
  | func f => simp only [opnd, Option.some.injEq, Prod.mk.injEq] at ho; rw [← ho.2]; rfl
  | global g => cases ho

/-! ### The slot that an operation writes -/
def St.put (st : St) (d : Option Tmp) (c : E) (v : TV) : St :=
  match d with
  | some d => { st with tmps := st.tmps.set d (some ⟨c, v⟩) }
  | none => st

theorem Rel.put (h : Rel S w0 β ρ st a w) (d : Option Tmp) (c : E) (v : TV) (x : Value) (hx : x = if bev ρ c then v.ev β ρ else undef) : Rel S w0 β ρ (st.put d c v) (a.put d x) w := by
  cases d with
  | none => exact h
  | some d =>
    refine ⟨h.toMRel, ?_, h.defers, ?_⟩
    · simp [Act.put, St.put, h.size]
    · intro t s hs
      simp only [St.put] at hs
      simp only [Act.put]
      by_cases he : d = t
      · subst he
        by_cases hlt : d < st.tmps.length
        · rw [List.getElem?_set_self hlt] at hs
          simp only [Option.some.injEq] at hs
          subst hs
          rw [Array.getElem?_setIfInBounds_self_of_lt (by rw [h.size]; exact hlt), hx]
        · rw [List.getElem?_eq_none (by simpa using hlt)] at hs; cases hs
      · rw [List.getElem?_set_ne he] at hs
        rw [Array.getElem?_setIfInBounds_ne he]
        exact h.tmp t s hs

/-! ### Loads -/
theorem run_isAgg {P : Program} {t : TypeId} {d : TypeDesc} (hu : P.underlying t = some d) (w : World) : (isAgg t).run P w = .ok (match d with | .struct _ | .array _ _ => true | _ => false) w := by
  unfold isAgg
  rw [Sem.run_bind, run_underlying hu w]
  cases d <;> rfl

def aggB (P : Program) (t : TypeId) : Option Bool :=
  match P.underlying t with
  | some (.struct _) => some true
  | some (.array _ _) => some true
  | some _ => some false
  | none => none
theorem aggB_run {P : Program} {t : TypeId} {b : Bool} (h : aggB P t = some b) (w : World) : (isAgg t).run P w = .ok b w := by
  unfold aggB at h
  split at h
  · rename_i hu; cases h; exact run_isAgg hu w
  · rename_i hu; cases h; exact run_isAgg hu w
  · rename_i d hs ha hu
    cases h
    rw [run_isAgg hu w]
    cases d <;> first | rfl | (exact absurd rfl (hs _)) | (exact absurd rfl (ha _ _)) | (exact absurd hu (hs _)) | (exact absurd hu (ha _ _))
  · cases h

def sizeT (P : Program) (t : TypeId) : Option Nat := (P.info? t).map (·.size)
theorem sizeT_run {P : Program} {t : TypeId} {n : Nat} (h : sizeT P t = some n) (w : World) : (sizeOf t).run P w = .ok n w := by
  unfold sizeT at h
  cases hi : P.info? t with
  | none => simp [hi] at h
  | some i => simp [hi] at h; subst h; simp [sizeOf, typeInfo, hi]

/-- What a variable of a type holds, whose cells begin at o in a row. -/
def loadRow (P : Program) (t : TypeId) (l : List CV) (o : Nat) : Option SV :=
  match aggB P t, sizeT P t with
  | some true, some n => if o + n ≤ l.length then some (.agg ((l.drop o).take n)) else none
  | some false, _ => (l[o]?).map .one
  | _, _ => none

theorem addr_add (b o n : Nat) : (⟨b, o, none⟩ : Addr).add n = ⟨b, o + n, none⟩ := by unfold Addr.add; split <;> simp_all

theorem loadVar_cells {P : Program} {t : TypeId} {b o n : Nat} {cs : List Value} (ha : aggB P t = some true) (hs : sizeT P t = some n) (hl : cs.length = n)
    (h : ∀ j v, cs[j]? = some v → w.cell? ⟨b, o + j, none⟩ = some v) : (loadVar t ⟨b, o, none⟩).run P w = .ok (.agg cs.toArray) w := by
  unfold loadVar
  simp only [Sem.run_bind, aggB_run ha, Result.andThen_ok, if_true, sizeT_run hs]
  subst hl
  rw [run_loadCells_list w ⟨b, o, none⟩ cs (fun j v hv => by rw [addr_add]; exact h j v hv)]
  rfl

theorem loadVar_one {P : Program} {t : TypeId} {p : Addr} {v : Value} (ha : aggB P t = some false) (h : w.cell? p = some v) : (loadVar t p).run P w = .ok v w := by
  unfold loadVar
  simp only [Sem.run_bind, aggB_run ha, Result.andThen_ok, Bool.false_eq_true, if_false]
  simp [load, Sem.run, h]

theorem loadRow_sound {P : Program} {t : TypeId} {l : List CV} {o b : Nat} {v : SV} {T : TypeId} {fr : Nat × Nat} (h : loadRow P t l o = some v)
    (hb : w.heap[b]? = some (.cells (l.map (CV.ev β ρ)).toArray T fr)) : (loadVar t ⟨b, o, none⟩).run P w = .ok (v.ev β ρ) w := by
  have hc : ∀ j, w.cell? ⟨b, j, none⟩ = (l[j]?).map (CV.ev β ρ) := fun j => by simp [World.cell?, hb]
  unfold loadRow at h
  split at h
  · rename_i n ha hs
    split at h
    · rename_i hle
      cases h
      refine loadVar_cells (cs := ((l.drop o).take n).map (CV.ev β ρ)) ha hs (by simp; omega) (fun j x hx => ?_)
      rw [hc]
      rw [List.getElem?_map, List.getElem?_take] at hx
      split at hx
      · rwa [List.getElem?_drop] at hx
      · simp at hx
    · cases h
  · rename_i ha
    simp only [Option.map_eq_some_iff] at h
    obtain ⟨x, hx, rfl⟩ := h
    exact loadVar_one ha (by rw [hc, hx]; rfl)
  · cases h

/-! ### A store -/
def SV.cells : SV → List CV
  | .one c => [c]
  | .agg l => l
def CV.cellB : CV → Bool
  | .val v => v.oneCell'
  | _ => true
theorem CV.cell_one (c : CV) (h : c.cellB = true) : (c.ev β ρ).oneCell' = true := by
  cases c <;> first | rfl | exact h
theorem SV.cells_ev (v : SV) (h : v.cells.all CV.cellB = true) : (v.ev β ρ).cells.toList = v.cells.map (CV.ev β ρ) := by
  cases v with
  | one c =>
    simp only [SV.cells, List.all_cons, List.all_nil, Bool.and_true] at h
    have := CV.cell_one (β := β) (ρ := ρ) c h
    simp only [SV.ev, SV.cells, List.map_cons, List.map_nil]
    generalize c.ev β ρ = x at *
    cases x <;> first | rfl | simp [Value.oneCell'] at this
  | agg l => simp [SV.ev, SV.cells, Value.cells]

def splice {α : Type} (l : List α) (o : Nat) (m : List α) : List α := l.take o ++ m ++ l.drop (o + m.length)

theorem storeVar_sound {P : Program} {t : TypeId} {l : List CV} {o b : Nat} {v : SV} {T : TypeId} (hs : sizeT P t = some v.cells.length) (h1 : v.cells.all CV.cellB = true) (hle : o + v.cells.length ≤ l.length)
    (hb : w.heap[b]? = some (.cells (l.map (CV.ev β ρ)).toArray T (0, 0))) :
    (storeVar t ⟨b, o, none⟩ (v.ev β ρ)).run P w = .ok () (w.setRow b ((splice l o v.cells).map (CV.ev β ρ)).toArray) := by
  unfold storeVar
  have hcs := SV.cells_ev (β := β) (ρ := ρ) v h1
  have hsz : (v.ev β ρ).cells.size = v.cells.length := by rw [← Array.length_toList, hcs]; simp
  simp only [Sem.run_bind, sizeT_run hs, Result.andThen_ok, hsz, ne_eq, not_true_eq_false, if_false]
  rw [hcs]
  have := run_storeCells_at (P := P) b o T (v.cells.map (CV.ev β ρ)) 0 (l.map (CV.ev β ρ)).toArray w hb (by simp; omega)
    (fun x hx => by
      obtain ⟨c, hc, rfl⟩ := List.mem_map.1 hx
      exact CV.cell_one c (List.all_eq_true.1 h1 c hc))
  simp only [Nat.add_zero] at this
  simp only [this]
  congr 2
  simp [splice, List.map_append, List.map_take, List.map_drop]

theorem Keep.setRow {b : Nat} {cs : Array Value} (h : Keep S w0 w) (hb : S b ∨ w0.heap.size ≤ b) : Keep S w0 (w.setRow b cs) :=
  ⟨h.os, h.tape, h.output, by rw [setRow_size]; exact h.size, fun k hk hS => by
    rw [setRow_other w b k cs (fun e => by subst e; exact hb.elim hS (fun h => by omega))]; exact h.block k hk hS⟩

def St.setBlk (st : St) (b : Nat) (l : List CV) (T : TypeId) : St := { st with mem := st.mem.set b (some (l, T)) }

theorem MRel.setBlk {mem : Mem} (h : MRel S w0 β ρ mem w) {b : Nat} {l l' : List CV} {T : TypeId} (hb : mem[b]? = some (some (l, T))) : MRel S w0 β ρ (mem.set b (some (l', T))) (w.setRow (β b) (l'.map (CV.ev β ρ)).toArray) := by
  have hlt : b < mem.length := (List.getElem?_eq_some_iff.1 hb).1
  have key : ∀ (c : Nat) x, (mem.set b (some (l', T)))[c]? = some (some x) → ∃ y, mem[c]? = some (some y) := by
    intro c x hx
    by_cases he : b = c
    · subst he; exact ⟨_, hb⟩
    · rw [List.getElem?_set_ne he] at hx; exact ⟨x, hx⟩
  refine ⟨h.rom, h.keep.setRow (h.own b _ hb), ?_, ?_, ?_⟩
  · intro c m U hc
    by_cases he : b = c
    · subst he
      rw [List.getElem?_set_self hlt] at hc
      simp only [Option.some.injEq, Prod.mk.injEq] at hc
      obtain ⟨rfl, rfl⟩ := hc
      exact setRow_heap w (β b) _ _ _ _ (h.blk b l T hb)
    · rw [List.getElem?_set_ne he] at hc
      rw [setRow_other w (β b) (β c) _ (fun e => he (h.inj b c _ _ hb hc e.symm))]
      exact h.blk c m U hc
  · intro c x hc
    obtain ⟨y, hy⟩ := key c x hc
    exact h.own c y hy
  · intro c d x y hc hd
    obtain ⟨x', hx⟩ := key c x hc
    obtain ⟨y', hy⟩ := key d y hd
    exact h.inj c d x' y' hx hy

/-! ### A new block -/
def St.newBlk (st : St) (l : List CV) (T : TypeId) : St := { st with mem := st.mem ++ [some (l, T)] }

theorem Keep.alloc {o : Obj} (h : Keep S w0 w) : Keep S w0 (w.alloc o) :=
  ⟨h.os, h.tape, h.output, by have := h.size; show _ ≤ (w.heap.push o).size; simp; omega, fun k hk hS => by
    rw [← h.block k hk hS]; show (w.heap.push o)[k]? = _; rw [Array.getElem?_push, if_neg (by have := h.size; omega)]⟩

theorem MRel.lt {mem : Mem} (h : MRel S w0 β ρ mem w) {b : Nat} {x : List CV × TypeId} (hb : mem[b]? = some (some x)) : β b < w.heap.size :=
  (Array.getElem?_eq_some_iff.1 (h.blk b x.1 x.2 hb)).1

theorem MRel.newBlk {mem : Mem} (h : MRel S w0 β ρ mem w) {l : List CV} {T : TypeId} (hβ : β mem.length = w.heap.size) :
    MRel S w0 β ρ (mem ++ [some (l, T)]) (w.alloc (.cells (l.map (CV.ev β ρ)).toArray T)) := by
  have key : ∀ (c : Nat) x, (mem ++ [some (l, T)])[c]? = some (some x) → (mem[c]? = some (some x)) ∨ (c = mem.length ∧ x = (l, T)) := by
    intro c x hx
    rw [List.getElem?_append] at hx
    split at hx
    · exact Or.inl hx
    · rename_i hc
      have : c - mem.length = 0 := by
        rcases Nat.eq_zero_or_pos (c - mem.length) with h0 | h0
        · exact h0
        · rw [List.getElem?_eq_none (by simp; omega)] at hx; cases hx
      rw [this] at hx
      simp only [List.getElem?_cons_zero, Option.some.injEq] at hx
      exact Or.inr ⟨by omega, hx.symm⟩
  refine ⟨h.rom, h.keep.alloc, ?_, ?_, ?_⟩
  · intro b m U hb
    rcases key b _ hb with hb | ⟨rfl, e⟩
    · show (w.heap.push _)[β b]? = _
      rw [Array.getElem?_push, if_neg (by have := h.lt hb; omega)]
      exact h.blk b m U hb
    · cases e
      show (w.heap.push _)[β mem.length]? = _
      rw [hβ]; simp
  · intro b x hb
    rcases key b _ hb with hb | ⟨rfl, e⟩
    · exact h.own b x hb
    · right; rw [hβ]; exact h.keep.size
  · intro b c x y hb hc e
    rcases key b _ hb with hb | ⟨rfl, _⟩ <;> rcases key c _ hc with hc | ⟨rfl, _⟩
    · exact h.inj b c x y hb hc e
    · have := h.lt hb; omega
    · have := h.lt hc; omega
    · rfl

/-- Two tables of blocks' places that agree below n. -/
def AgB (n : Nat) (β β' : Nat → Nat) : Prop := ∀ b, b < n → β' b = β b
theorem AgB.refl (n : Nat) (β : Nat → Nat) : AgB n β β := fun _ _ => rfl
theorem AgB.trans {n : Nat} {a b c : Nat → Nat} (h : AgB n a b) (k : AgB n b c) : AgB n a c := fun i hi => (k i hi).trans (h i hi)
theorem AgB.mono {n m : Nat} {a b : Nat → Nat} (h : AgB n a b) (hm : m ≤ n) : AgB m a b := fun i hi => h i (by omega)

def MRelA (S : Nat → Prop) (w0 : World) (β : Nat → Nat) (ρ : Env) (mem : Mem) (w : World) : Prop := ∀ β', AgB mem.length β β' → MRel S w0 β' ρ mem w
def RelA (S : Nat → Prop) (w0 : World) (β : Nat → Nat) (ρ : Env) (st : St) (a : Act) (w : World) : Prop := ∀ β', AgB st.mem.length β β' → Rel S w0 β' ρ st a w
theorem RelA.self (h : RelA S w0 β ρ st a w) : Rel S w0 β ρ st a w := h β (AgB.refl _ _)
theorem MRelA.self {mem : Mem} (h : MRelA S w0 β ρ mem w) : MRel S w0 β ρ mem w := h β (AgB.refl _ _)
theorem RelA.mem (h : RelA S w0 β ρ st a w) : MRelA S w0 β ρ st.mem w := fun β' hb => (h β' hb).toMRel

/-- A place for the next block. -/
def place (β : Nat → Nat) (n x : Nat) : Nat → Nat := fun b => if b = n then x else β b
theorem place_agB (β : Nat → Nat) (n x : Nat) : AgB n β (place β n x) := fun b hb => by simp [place]; omega
theorem place_self (β : Nat → Nat) (n x : Nat) : place β n x n = x := by simp [place]
end
end Go.Ex

namespace Go.Ex
open Go

abbrev TI (k : IntKind) (e : E) : TV := .sv (.one (.int k e))
abbrev TB (e : E) : TV := .sv (.one (.bool e))

def mkShl (k : IntKind) : E → E → E
  | .lit a, .lit b => .lit (k.wrap (a * 2 ^ (min b.toNat k.bits)))
  | a, b => .shl k a b
theorem iev_mkShl (ρ : Env) (k : IntKind) (a b : E) : iev ρ (mkShl k a b) = k.wrap (iev ρ a * 2 ^ (min (iev ρ b).toNat k.bits)) := by
  unfold mkShl; split <;> rfl
def mkShr (k : IntKind) : E → E → E
  | .lit a, .lit b => .lit (a.fdiv (2 ^ (min b.toNat k.bits)))
  | a, b => .shr k a b
theorem iev_mkShr (ρ : Env) (k : IntKind) (a b : E) : iev ρ (mkShr k a b) = (iev ρ a).fdiv (2 ^ (min (iev ρ b).toNat k.bits)) := by
  unfold mkShr; split <;> rfl

def binI (op : BinOp) (k k' : IntKind) (a b : E) : Option (E × TV) :=
  match op with
  | .shl => some (mkLe (.lit 0) b, TI k (mkShl k a b))
  | .shr => some (mkLe (.lit 0) b, TI k (mkShr k a b))
  | op => if k = k' then match op with
    | .add => some (.tt, TI k (mkWrap k (mkAdd a b)))
    | .sub => some (.tt, TI k (mkWrap k (mkSub a b)))
    | .mul => some (.tt, TI k (mkWrap k (mkMul a b)))
    | .quo => some (mkNot (mkEq b (.lit 0)), TI k (mkWrap k (.quo a b)))
    | .rem => some (mkNot (mkEq b (.lit 0)), TI k (.rem a b))
    | .and => some (.tt, TI k (.bits .and k a b))
    | .or => some (.tt, TI k (.bits .or k a b))
    | .xor => some (.tt, TI k (.bits .xor k a b))
    | .andNot => some (.tt, TI k (.bits .andNot k a b))
    | .eql => some (.tt, TB (mkEq a b))
    | .neq => some (.tt, TB (mkNot (mkEq a b)))
    | .lss => some (.tt, TB (mkLt a b))
    | .leq => some (.tt, TB (mkLe a b))
    | .gtr => some (.tt, TB (mkLt b a))
    | .geq => some (.tt, TB (mkLe b a))
    | _ => none
  else none

section
variable {P : Program} {β : Nat → Nat} {ρ : Env} {w : World}

theorem binI_sound {op : BinOp} {T : TypeId} {k k' : IntKind} {a b n : E} {v : TV} (h : binI op k k' a b = some (n, v)) (hn : bev ρ n = true) :
    (binOp op T (.int k (iev ρ a)) (.int k' (iev ρ b))).run P w = .ok (v.ev β ρ) w := by
  unfold binI at h
  split at h
  · cases h
    rw [bev_mkLe, iev_lit, decide_eq_true_eq] at hn
    have : ¬ iev ρ b < 0 := by omega
    simp only [binOp, Op.shift, this, if_false, TV.ev, SV.ev, CV.ev, iev_mkShl]; rfl
  · cases h
    rw [bev_mkLe, iev_lit, decide_eq_true_eq] at hn
    have : ¬ iev ρ b < 0 := by omega
    simp only [binOp, Op.shift, this, if_false, TV.ev, SV.ev, CV.ev, iev_mkShr]; rfl
  · split at h
    · rename_i hk; subst hk
      split at h <;> first | (cases h; done) | skip
      all_goals cases h
      case h_4 =>
        rw [bev_mkNot, bev_mkEq, Bool.not_eq_true', decide_eq_false_iff_not, iev_lit] at hn
        have hz : ¬ iev ρ b = 0 := hn
        simp only [binOp, ne_eq, not_true_eq_false, if_false, Op.intDiv, if_neg hz, TV.ev, SV.ev, CV.ev, iev_mkWrap, iev_quo, Sem.run_pure]
      case h_5 =>
        rw [bev_mkNot, bev_mkEq, Bool.not_eq_true', decide_eq_false_iff_not, iev_lit] at hn
        have hz : ¬ iev ρ b = 0 := hn
        simp only [binOp, ne_eq, not_true_eq_false, if_false, Op.intDiv, if_neg hz, TV.ev, SV.ev, CV.ev, iev_rem, Sem.run_pure]
      all_goals
        simp only [binOp, ne_eq, not_true_eq_false, if_false, Op.intArith, Op.intBits, Op.intCmp, TV.ev, SV.ev, CV.ev, iev_mkWrap, iev_mkAdd, iev_mkSub, iev_mkMul, iev_bits, bev_mkEq, bev_mkNot, bev_mkLt, bev_mkLe, bitsI]
        try rfl
        try (simp only [Sem.run_pure]; congr 2; rw [Bool.eq_iff_iff]; simp)
    · cases h

def selSV (i : E) : Nat → List SV → Option SV
  | _, [] => none
  | _, [v] => some v
  | j, v :: l => match selSV i (j + 1) l with
    | some r => mergeSV (mkEq i (.lit j)) v r
    | none => none
theorem selSV_ev {i : E} : ∀ (l : List SV) (j : Nat) (v : SV), selSV i j l = some v → (j : Int) ≤ iev ρ i → iev ρ i < j + l.length → ∃ x, l[(iev ρ i).toNat - j]? = some x ∧ v.ev β ρ = x.ev β ρ
  | [], j, v, h, _, _ => by simp [selSV] at h
  | [x], j, v, h, h1, h2 => by
    simp only [selSV, Option.some.injEq] at h; subst h
    simp only [List.length_singleton] at h2
    have : (iev ρ i).toNat - j = 0 := by omega
    exact ⟨x, by rw [this]; rfl, rfl⟩
  | x :: y :: l, j, v, h, h1, h2 => by
    simp only [selSV] at h
    split at h
    · rename_i r hr
      have hm := mergeSV_ev (β := β) (ρ := ρ) h
      rw [bev_mkEq, iev_lit] at hm
      by_cases he : iev ρ i = (j : Int)
      · have : (iev ρ i).toNat - j = 0 := by omega
        exact ⟨x, by rw [this]; rfl, by rw [hm]; simp [he]⟩
      · simp only [List.length_cons] at h2
        obtain ⟨z, hz, hv⟩ := selSV_ev (y :: l) (j + 1) r hr (by omega) (by simp only [List.length_cons]; omega)
        refine ⟨z, ?_, by rw [hm, ← hv]; simp [he]⟩
        have : (iev ρ i).toNat - j = ((iev ρ i).toNat - (j + 1)) + 1 := by omega
        rw [this, List.getElem?_cons_succ]; exact hz
    · cases h

def inB (i : E) (n : Nat) : E := mkAnd (mkLe (.lit 0) i) (mkLt i (.lit n))
theorem inB_sound {i : E} {n : Nat} (h : bev ρ (inB i n) = true) : 0 ≤ iev ρ i ∧ iev ρ i < n := by
  unfold inB at h
  rw [bev_mkAnd, Bool.and_eq_true, bev_mkLe, bev_mkLt, decide_eq_true_eq, decide_eq_true_eq] at h
  exact h

def allSome {α : Type} : List (Option α) → Option (List α)
  | [] => some []
  | some x :: l => (allSome l).map (x :: ·)
  | none :: _ => none
theorem allSome_get {α : Type} : ∀ {l : List (Option α)} {m : List α}, allSome l = some m → m.length = l.length ∧ ∀ (j : Nat) x, m[j]? = some x → l[j]? = some (some x)
  | [], m, h => by cases h; simp
  | some y :: l, m, h => by
    simp only [allSome, Option.map_eq_some_iff] at h
    obtain ⟨r, hr, rfl⟩ := h
    obtain ⟨h1, h2⟩ := allSome_get hr
    refine ⟨by simp [h1], fun j x hx => ?_⟩
    cases j with
    | zero => simpa using hx
    | succ j => simpa using h2 j x (by simpa using hx)
  | none :: l, m, h => by simp [allSome] at h

/-! ### Loads -/
def kindOf : Value → Option Kd
  | .int k _ => some (.int k)
  | .bool _ => some .bool
  | .slice _ _ _ => some .slice
  | _ => none
def romC (x y : E) (j : Nat) : Kd → CV
  | .int k => .int k (.romI x y j)
  | .bool => .bool (.romB x y j)
  | .slice => .rsl (.romP x y j 0) (.romP x y j 1) (.romP x y j 2) (.romP x y j 3)
theorem romC_sound {x y : E} {j : Nat} {k : Kd} (h : bev ρ (.romIs x y j k) = true) : romCell ρ.w (iev ρ x) (iev ρ y) j = some ((romC x y j k).ev β ρ) := by
  rw [bev_romIs] at h
  cases hc : romCell ρ.w (iev ρ x) (iev ρ y) j with
  | none => simp [hc, valIs] at h
  | some v =>
    rw [hc] at h
    unfold valIs at h
    split at h
    · rename_i k' n k2 e1
      simp only [decide_eq_true_eq] at h; cases e1; subst h
      simp [romC, CV.ev, iev_romI, hc, valI]
    · rename_i e1; cases e1
      simp [romC, CV.ev, bev_romB, hc, valB]
    · rename_i e1; cases e1
      simp [romC, CV.ev, iev_romP, hc, valP, slP]
    · rename_i e1; cases e1
      simp [romC, CV.ev, iev_romP, hc, valP, slP]
    · cases h

def romCells (x y : E) : Nat → List Kd → List CV
  | _, [] => []
  | j, k :: l => romC x y j k :: romCells x y (j + 1) l
def romNeed (x y : E) : Nat → List Kd → E
  | _, [] => .tt
  | j, k :: l => mkAnd (.romIs x y j k) (romNeed x y (j + 1) l)
theorem romCells_sound {x y : E} : ∀ (ks : List Kd) (j : Nat), bev ρ (romNeed x y j ks) = true → ∀ (i : Nat) v, ((romCells x y j ks).map (CV.ev β ρ))[i]? = some v → romCell ρ.w (iev ρ x) (iev ρ y) (j + i) = some v
  | [], _, _, i, v, h => by simp [romCells] at h
  | k :: l, j, hn, i, v, h => by
    simp only [romNeed, bev_mkAnd, Bool.and_eq_true] at hn
    cases i with
    | zero =>
      simp only [romCells, List.map_cons, List.getElem?_cons_zero, Option.some.injEq] at h
      rw [← h]; exact romC_sound hn.1
    | succ i =>
      simp only [romCells, List.map_cons, List.getElem?_cons_succ] at h
      have := romCells_sound l (j + 1) hn.2 i v h
      rwa [show j + (i + 1) = j + 1 + i by omega]
theorem romCells_length (x y : E) : ∀ (ks : List Kd) (j : Nat), (romCells x y j ks).length = ks.length
  | [], _ => rfl
  | _ :: l, j => by simp [romCells, romCells_length x y l (j + 1)]

def zeroT (P : Program) (t : TypeId) : Option Value := (P.info? t).bind (·.zero)
theorem zeroT_run {t : TypeId} {v : Value} (h : zeroT P t = some v) (w : World) : (zeroValue t).run P w = .ok v w := by
  unfold zeroT at h
  cases hi : P.info? t with
  | none => simp [hi] at h
  | some i => simp [hi] at h; simp [zeroValue, typeInfo, hi, h]

def loadE (P : Program) (st : St) (t : TypeId) : CV → Option (E × SV)
  | .ptr b o => match st.mem[b]? with
    | some (some (l, _)) => (loadRow P t l o).map fun v => (.tt, v)
    | _ => none
  | .pti b o s n i => match st.mem[b]? with
    | some (some (l, _)) => match allSome ((List.range n).map fun j => loadRow P t l (o + s * j)) with
      | some vs => (selSV i 0 vs).map fun v => (inB i n, v)
      | none => none
    | _ => none
  | .rptr x y => match aggB P t, zeroT P t, sizeT P t with
    | some true, some z, some n => match allSome (z.cells.toList.map kindOf) with
      | some ks => if ks.length = n then some (mkAnd (mkLe (.lit 0) y) (romNeed x y 0 ks), .agg (romCells x y 0 ks)) else none
      | none => none
    | some false, some z, _ => match kindOf z with
      | some k => some (.romIs x y 0 k, .one (romC x y 0 k))
      | none => none
    | _, _, _ => none
  | _ => none

variable {S : Nat → Prop} {w0 : World} {st : St} {a : Act}

theorem loadE_sound (h : Rel S w0 β ρ st a w) {t : TypeId} {c : CV} {n : E} {v : SV} (hl : loadE P st t c = some (n, v)) (hn : bev ρ n = true) :
    ∃ p, c.ev β ρ = .pointer (some p) ∧ (loadVar t p).run P w = .ok (v.ev β ρ) w := by
  unfold loadE at hl
  split at hl
  · rename_i b o
    split at hl
    · rename_i l T hb
      simp only [Option.map_eq_some_iff, Prod.mk.injEq] at hl
      obtain ⟨v', hv, rfl, rfl⟩ := hl
      exact ⟨_, rfl, loadRow_sound hv (h.blk b l T hb)⟩
    · cases hl
  · rename_i b o s m i
    split at hl
    · rename_i l T hb
      split at hl
      · rename_i vs hvs
        simp only [Option.map_eq_some_iff, Prod.mk.injEq] at hl
        obtain ⟨v', hv, rfl, rfl⟩ := hl
        obtain ⟨h1, h2⟩ := inB_sound hn
        obtain ⟨hlen, hget⟩ := allSome_get hvs
        simp only [List.length_map, List.length_range] at hlen
        obtain ⟨x, hx, hxv⟩ := selSV_ev (β := β) vs 0 v' hv (by omega) (by omega)
        have hx' := hget _ _ hx
        rw [Nat.sub_zero, List.getElem?_map, List.getElem?_range (by omega)] at hx'
        simp only [Option.map_some, Option.some.injEq] at hx'
        exact ⟨_, rfl, by rw [hxv]; exact loadRow_sound hx' (h.blk b l T hb)⟩
      · cases hl
    · cases hl
  · rename_i x y
    split at hl
    · rename_i z m ha hz hs
      split at hl
      · rename_i ks hks
        split at hl
        · rename_i hm
          cases hl
          rw [bev_mkAnd, Bool.and_eq_true] at hn
          refine ⟨_, rfl, ?_⟩
          refine loadVar_cells (cs := (romCells x y 0 ks).map (CV.ev β ρ)) ha hs (by simp [romCells_length, hm]) (fun j u hu => ?_)
          have := romCells_sound ks 0 hn.2 j u hu
          rw [Nat.zero_add] at this
          exact h.rom_cell this
        · cases hl
      · cases hl
    · rename_i z _ ha hz
      split at hl
      · rename_i k hk
        cases hl
        have := romC_sound (β := β) hn
        refine ⟨_, rfl, loadVar_one ha ?_⟩
        exact h.rom_cell (p := ⟨(iev ρ x).toNat, (iev ρ y).toNat, none⟩) this
      · cases hl
    · cases hl
  · cases hl
end
end Go.Ex

namespace Go.Ex
open Go

abbrev RT := Option (E × TV)

/-- Two needs' and a value. -/
def RT.with (n : E) : RT → RT
  | some (m, v) => some (mkAnd n m, v)
  | none => none
theorem RT.with_some {n m : E} {r : RT} {v : TV} {ρ : Env} (h : r.with n = some (m, v)) (hm : bev ρ m = true) : bev ρ n = true ∧ ∃ m', r = some (m', v) ∧ bev ρ m' = true := by
  unfold RT.with at h
  split at h
  · cases h
    rw [bev_mkAnd, Bool.and_eq_true] at hm
    exact ⟨hm.1, _, rfl, hm.2⟩
  · cases h

/-- The need under a condition. -/
def RT.under (g : E) : RT → RT
  | some (m, v) => some (mkImp g m, v)
  | none => none
theorem RT.under_some {g m : E} {r : RT} {v : TV} {ρ : Env} (h : r.under g = some (m, v)) (hm : bev ρ m = true) (hg : bev ρ g = true) : ∃ m', r = some (m', v) ∧ bev ρ m' = true := by
  unfold RT.under at h
  split at h
  · cases h; exact ⟨_, rfl, bev_mkImp ρ _ _ hm hg⟩
  · cases h

def unE : UnOp → TV → RT
  | .not, .sv (.one (.bool e)) => some (.tt, TB (mkNot e))
  | .neg, .sv (.one (.int k e)) => some (.tt, TI k (mkWrap k (mkSub (.lit 0) e)))
  | .xor, .sv (.one (.int k e)) => some (.tt, TI k (.bits .xor k (.lit (if k.signed then -1 else k.max)) e))
  | _, _ => none

def convE (P : Program) (src dst : TypeId) (x : TV) : RT :=
  match P.underlying src, P.underlying dst, x with
  | some _, some (.int k), .sv (.one (.int _ e)) => some (.tt, TI k (mkWrap k e))
  | _, _, _ => none

def fieldAddrE (P : Program) (s : TypeId) (f : Nat) (x : TV) : RT :=
  match P.underlying s with
  | some (.struct fs) => match fs[f]? with
    | some fl => match sizeT P fl.type with
      | some (_ + 1) => match x with
        | .sv (.one (.ptr b o)) => some (.tt, .sv (.one (.ptr b (o + fl.offset))))
        | .sv (.one (.pti b o s n i)) => some (.tt, .sv (.one (.pti b (o + fl.offset) s n i)))
        | .sv (.one (.rptr x y)) => some (mkLe (.lit 0) y, .sv (.one (.rptr x (mkAdd y (.lit fl.offset)))))
        | _ => none
      | _ => none
    | none => none
  | _ => none

def indexAddrE (P : Program) (t : TypeId) (x i : TV) : RT :=
  match i with
  | .sv (.one (.int _ e)) => match P.underlying t with
    | some (.array len el) => match sizeT P el, x with
      | some n, .sv (.one (.ptr b o)) => match e with
        | .lit j => if 0 ≤ j ∧ j < len then some (.tt, .sv (.one (.ptr b (o + j.toNat * n)))) else none
        | e => some (inB e len, .sv (.one (.pti b o n len e)))
      | some n, .sv (.one (.pti b o s m k)) => match e with
        | .lit j => if 0 ≤ j ∧ j < len then some (.tt, .sv (.one (.pti b (o + j.toNat * n) s m k))) else none
        | _ => none
      | some n, .sv (.one (.rptr x y)) => some (mkAnd (mkLe (.lit 0) y) (inB e len), .sv (.one (.rptr x (mkAdd y (mkMul e (.lit n))))))
      | _, _ => none
    | some (.slice el) => match sizeT P el, x with
      | some n, .sv (.one (.rsl x y l _)) => some (mkAnd (mkLe (.lit 0) x) (mkAnd (mkLe (.lit 0) y) (mkAnd (mkLe (.lit 0) e) (mkLt e l))), .sv (.one (.rptr x (mkAdd y (mkMul e (.lit n))))))
      | _, _ => none
    | _ => none
  | _ => none

def fieldE (P : Program) (t : TypeId) (f : Nat) (x : TV) : RT :=
  match P.underlying t, x with
  | some (.struct fs), .sv (.agg l) => match fs[f]? with
    | some fl => (loadRow P fl.type l fl.offset).map fun v => (.tt, .sv v)
    | none => none
  | _, _ => none

def indexE (P : Program) (t : TypeId) (x i : TV) : RT :=
  match P.underlying t, x, i with
  | some (.array len el), .sv (.agg l), .sv (.one (.int _ e)) => match sizeT P el with
    | some n => match e with
      | .lit j => if 0 ≤ j ∧ j < len then (loadRow P el l (j.toNat * n)).map fun v => (.tt, .sv v) else none
      | e => match allSome ((List.range len).map fun j => loadRow P el l (j * n)) with
        | some vs => (selSV e 0 vs).map fun v => (inB e len, .sv v)
        | none => none
    | none => none
  | _, _, _ => none

def extractE (i : Nat) : TV → RT
  | .tup l => (l[i]?).map fun v => (.tt, .sv v)
  | _ => none

def lenE (P : Program) (t : TypeId) (x : TV) : RT :=
  match P.underlying t, x with
  | some (.array n _), _ => some (.tt, TI .i64 (.lit n))
  | some (.slice _), .sv (.one (.rsl _ _ l _)) => some (mkLe (.lit 0) l, TI .i64 l)
  | some (.slice _), .sv (.one (.val (.slice _ n _))) => some (.tt, TI .i64 (.lit n))
  | _, _ => none

def minE : TV → TV → Option TV
  | .sv (.one (.int k x)), .sv (.one (.int _ y)) => some (TI k (mkIteI (mkLt y x) y x))
  | _, _ => none
def maxE : TV → TV → Option TV
  | .sv (.one (.int k x)), .sv (.one (.int _ y)) => some (TI k (mkIteI (mkLt x y) y x))
  | _, _ => none
def foldE (f : TV → TV → Option TV) : List TV → TV → Option TV
  | [], x => some x
  | y :: l, x => match f x y with
    | some z => foldE f l z
    | none => none

/-- The operands' values, and what they need. -/
def opnds (st : St) (g : E) : List Operand → Option (E × List TV)
  | [] => some (.tt, [])
  | x :: l => match opnd st g x, opnds st g l with
    | some (n, v), some (m, vs) => some (mkAnd n m, v :: vs)
    | _, _ => none

def builtinE (P : Program) (b : Builtin) (ats : Array TypeId) (vs : List TV) : RT :=
  match b, vs with
  | .len, [x] => match ats[0]? with | some t => lenE P t x | none => none
  | .min, x :: l => (foldE minE l x).map fun v => (.tt, v)
  | .max, x :: l => (foldE maxE l x).map fun v => (.tt, v)
  | _, _ => none

def fillE (place : Nat → Option (Nat × Nat)) (l : List CV) : List (Nat × SV) → Option (List CV)
  | [] => some l
  | (i, v) :: rest => match place i with
    | none => none
    | some (off, size) => if v.cells.length = size ∧ off + v.cells.length ≤ l.length ∧ v.cells.all CV.cellB = true then fillE place (splice l off v.cells) rest else none

def svs : List TV → Option (List SV)
  | [] => some []
  | .sv v :: l => (svs l).map (v :: ·)
  | _ => none

def buildE (P : Program) (t : TypeId) (is : List Nat) (vs : List TV) : RT :=
  match zeroT P t, svs vs with
  | some z, some vs => match P.underlying t with
    | some (.struct fs) => match allSome (fs.toList.map fun f => (sizeT P f.type).map fun n => (f.offset, n)) with
      | some places => (fillE (places[·]?) (z.cells.toList.map liftC) (is.zip vs)).map fun l => (.tt, .sv (.agg l))
      | none => none
    | some (.array _ el) => match sizeT P el with
      | some n => (fillE (fun i => some (i * n, n)) (z.cells.toList.map liftC) (is.zip vs)).map fun l => (.tt, .sv (.agg l))
      | none => none
    | _ => none
  | _, _ => none

/-- Equality of fields, of a row's items, of values of a type. -/
def eqFsE (P : Program) (rec : TypeId → SV → SV → Option E) (xs ys : List CV) : List Field → Option E
  | [] => some .tt
  | f :: fs => if f.name ≠ "_" then
      match loadRow P f.type xs f.offset, loadRow P f.type ys f.offset with
      | some a, some b => match rec f.type a b, eqFsE P rec xs ys fs with
        | some e, some r => some (mkAnd e r)
        | _, _ => none
      | _, _ => none
    else eqFsE P rec xs ys fs
def eqIsE (P : Program) (rec : TypeId → SV → SV → Option E) (e : TypeId) (xs ys : List CV) : List Nat → Option E
  | [] => some .tt
  | i :: is => match loadRow P e xs (i * P.cellsOf e), loadRow P e ys (i * P.cellsOf e) with
      | some a, some b => match rec e a b, eqIsE P rec e xs ys is with
        | some q, some r => some (mkAnd q r)
        | _, _ => none
      | _, _ => none
def eqSV (P : Program) : Nat → TypeId → SV → SV → Option E
  | 0, _, _, _ => none
  | d + 1, t, x, y => match P.underlying t with
    | some .bool => match x, y with
      | .one (.bool a), .one (.bool b) => some (mkBeq a b)
      | _, _ => none
    | some (.int _) => match x, y with
      | .one (.int k a), .one (.int k' b) => if k = k' then some (mkEq a b) else none
      | _, _ => none
    | some (.struct fs) => match x, y with
      | .agg xs, .agg ys => if P.stoodInHeld t = false then eqFsE P (eqSV P d) xs ys fs.toList else none
      | _, _ => none
    | some (.array n e) => match x, y with
      | .agg xs, .agg ys => match P.info? e with
        | some _ => eqIsE P (eqSV P d) e xs ys (List.range n)
        | none => none
      | _, _ => none
    | _ => none

def binE (P : Program) (op : BinOp) (t : TypeId) : TV → TV → RT
  | .sv (.one (.int k a)), .sv (.one (.int k' b)) => binI op k k' a b
  | .sv (.one (.bool a)), .sv (.one (.bool b)) => match P.underlying t with
    | some .bool => match op with
      | .eql => some (.tt, TB (mkBeq a b))
      | .neq => some (.tt, TB (mkNot (mkBeq a b)))
      | _ => none
    | _ => none
  | .sv (.one (.rsl x _ _ _)), .sv (.one (.rsl x' _ _ _)) => match P.underlying t with
    | some (.slice _) => match (if x' = .lit (-1) then some (mkEq x (.lit (-1))) else if x = .lit (-1) then some (mkEq x' (.lit (-1))) else none) with
      | some e => match op with
        | .eql => some (.tt, TB e)
        | .neq => some (.tt, TB (mkNot e))
        | _ => none
      | none => none
    | _ => none
  | .sv (.agg a), .sv (.agg b) => if P.eqGuardType P.depth t = false then
      match eqSV P 20 t (.agg a) (.agg b) with
      | some e => match op with
        | .eql => some (.tt, TB e)
        | .neq => some (.tt, TB (mkNot e))
        | _ => none
      | none => none
    else none
  | _, _ => none

def quiet (P : Program) (st : St) (g : E) (op : Op) : RT :=
  match op with
  | .move x => opnd st g x
  | .assign x => opnd st g x
  | .pick c a b => match opnd st g c with
    | some (nc, .sv (.one (.bool e))) => match e with
      | .tt => RT.with nc (opnd st g a)
      | .ff => RT.with nc (opnd st g b)
      | e => match opnd st (mkAnd g e) a, opnd st (mkAnd g (mkNot e)) b with
        | some (na, va), some (nb, vb) => (mergeT e va vb).map fun v => (mkAnd nc (mkAnd na nb), v)
        | _, _ => none
    | _ => none
  | .binOp op t x y _ => match opnd st g x, opnd st g y with
    | some (n, a), some (m, b) => RT.with n (RT.with m (RT.under g (binE P op t a b)))
    | _, _ => none
  | .unOp op _ x => match opnd st g x with
    | some (n, a) => RT.with n (RT.under g (unE op a))
    | none => none
  | .convert s d x => match opnd st g x with
    | some (n, a) => RT.with n (RT.under g (convE P s d a))
    | none => none
  | .fieldAddr s x f => match opnd st g x with
    | some (n, a) => RT.with n (RT.under g (fieldAddrE P s f a))
    | none => none
  | .field t x f => match opnd st g x with
    | some (n, a) => RT.with n (RT.under g (fieldE P t f a))
    | none => none
  | .indexAddr t x i => match opnd st g x, opnd st g i with
    | some (n, a), some (m, b) => RT.with n (RT.with m (RT.under g (indexAddrE P t a b)))
    | _, _ => none
  | .index t x i => match opnd st g x, opnd st g i with
    | some (n, a), some (m, b) => RT.with n (RT.with m (RT.under g (indexE P t a b)))
    | _, _ => none
  | .load t x => match opnd st g x with
    | some (n, .sv (.one c)) => RT.with n (RT.under g ((loadE P st t c).map fun r => (r.1, .sv r.2)))
    | _ => none
  | .extract x i => match opnd st g x with
    | some (n, a) => RT.with n (RT.under g (extractE i a))
    | none => none
  | .call { callee := .builtin b, args, argTypes } => match opnds st g args.toList with
    | some (n, vs) => RT.with n (RT.under g (builtinE P b argTypes vs))
    | none => none
  | .build t parts => match opnds st g (parts.toList.map (·.2)) with
    | some (n, vs) => RT.with n (RT.under g (buildE P t (parts.toList.map (·.1)) vs))
    | none => none
  | _ => none
end Go.Ex

namespace Go.Ex
open Go

section
variable {P : Program} {S : Nat → Prop} {w0 : World} {β : Nat → Nat} {ρ : Env} {st : St} {a : Act} {w : World} {g n : E} {v : TV}

theorem loadRow_part {t : TypeId} {l : List CV} {o : Nat} {v : SV} (h : loadRow P t l o = some v) : (part t (l.map (CV.ev β ρ)).toArray o).run P w = .ok (v.ev β ρ) w := by
  unfold loadRow at h
  unfold part
  split at h
  · rename_i n ha hs
    split at h
    · rename_i hle
      cases h
      simp only [Sem.run_bind, aggB_run ha, Result.andThen_ok, if_true, sizeT_run hs, Sem.run_pure, SV.ev]
      congr 2
      simp [List.map_take, List.map_drop, List.extract_eq_take_drop]
    · cases h
  · rename_i ha
    simp only [Option.map_eq_some_iff] at h
    obtain ⟨x, hx, rfl⟩ := h
    simp only [Sem.run_bind, aggB_run ha, Result.andThen_ok, Bool.false_eq_true, if_false]
    have : (l.map (CV.ev β ρ)).toArray[o]? = some (x.ev β ρ) := by simp [hx]
    simp only [this]
    rfl
  · cases h

theorem unE_sound {op : UnOp} {x : TV} (h : unE op x = some (n, v)) : (Op.unary op (x.ev β ρ)).run P w = .ok (v.ev β ρ) w := by
  unfold unE at h
  split at h
  · cases h; simp only [TV.ev, SV.ev, CV.ev, bev_mkNot, Op.unary, Sem.run_pure]
  · cases h; simp only [TV.ev, SV.ev, CV.ev, iev_mkWrap, iev_mkSub, iev_lit, Op.unary, Op.intArith, Sem.run_pure]
  · cases h; simp only [TV.ev, SV.ev, CV.ev, iev_bits, iev_lit, Op.unary, Op.intBits, Sem.run_pure, bitsI]
  · cases h

theorem convE_sound {s d : TypeId} {x : TV} (h : convE P s d x = some (n, v)) : (convert s d (x.ev β ρ)).run P w = .ok (v.ev β ρ) w := by
  unfold convE at h
  split at h
  · rename_i k k' e hs hd
    cases h
    simp only [TV.ev, SV.ev, CV.ev, iev_mkWrap]
    unfold convert
    simp only [Sem.run_bind, run_underlying hs, run_underlying hd, Result.andThen_ok, Conv.intToInt]
    rfl
  · cases h

theorem fieldPlace_run {t : TypeId} {m b o off : Nat} (fl : Field) (hs : sizeT P fl.type = some (m + 1)) : (fieldPlace ⟨b, o, none⟩ fl).run P w = .ok ⟨b, o + fl.offset, none⟩ w := by
  unfold fieldPlace
  simp only [Sem.run_bind, sizeT_run hs, Result.andThen_ok, Nat.add_eq_zero_iff, Nat.one_ne_zero, and_false, if_false, Sem.run_pure, addr_add]

theorem fieldAddrE_sound {s : TypeId} {f : Nat} {x : TV} (h : fieldAddrE P s f x = some (n, v)) (hn : bev ρ n = true) : (Instr.fieldAt s (x.ev β ρ) f).run P w = .ok (v.ev β ρ) w := by
  unfold fieldAddrE at h
  split at h
  · rename_i fs hu
    split at h
    · rename_i fl hf
      split at h
      · rename_i m hs
        have key : ∀ b o, (Instr.fieldAt s (.pointer (some ⟨b, o, none⟩)) f).run P w = .ok (.pointer (some ⟨b, o + fl.offset, none⟩)) w := fun b o => by
          unfold Instr.fieldAt
          simp only [Sem.run_bind, run_underlying hu, Result.andThen_ok, hf, Instr.sureAddr, Sem.run_pure, fieldPlace_run (t := s) (off := 0) fl hs]
        split at h
        · cases h; exact key _ _
        · cases h
          have := key (β ‹Nat›) 
          simp only [TV.ev, SV.ev, CV.ev]
          rw [key]; congr 4; omega
        · cases h
          rw [bev_mkLe, decide_eq_true_eq, iev_lit] at hn
          simp only [TV.ev, SV.ev, CV.ev, iev_mkAdd, iev_lit]
          rw [key]; congr 4; omega
        · cases h
      · cases h
    · cases h
  · cases h

theorem indexAt_arr {t el : TypeId} {len m b o : Nat} {k : IntKind} {i : Int} (hu : P.underlying t = some (.array len el)) (hs : sizeT P el = some m) (h0 : 0 ≤ i) (h1 : i < len) :
    (Instr.indexAt t (.pointer (some ⟨b, o, none⟩)) (.int k i)).run P w = .ok (.pointer (some ⟨b, o + i.toNat * m, none⟩)) w := by
  unfold Instr.indexAt
  simp only [asIntOf, Sem.run_bind, Sem.run_pure, Result.andThen_ok, run_underlying hu, Instr.sureAddr, h0, h1, and_self, if_true, sizeT_run hs, addr_add]

theorem indexAt_slice {t el : TypeId} {len c m b o : Nat} {k : IntKind} {i : Int} (hu : P.underlying t = some (.slice el)) (hs : sizeT P el = some m) (h0 : 0 ≤ i) (h1 : i < len) :
    (Instr.indexAt t (.slice (some ⟨b, o, none⟩) len c) (.int k i)).run P w = .ok (.pointer (some ⟨b, o + i.toNat * m, none⟩)) w := by
  unfold Instr.indexAt
  simp only [asIntOf, Sem.run_bind, Sem.run_pure, Result.andThen_ok, run_underlying hu, h0, h1, and_self, if_true, sizeT_run hs, addr_add]

theorem indexAddrE_sound {t : TypeId} {x i : TV} (h : indexAddrE P t x i = some (n, v)) (hn : bev ρ n = true) : (Instr.indexAt t (x.ev β ρ) (i.ev β ρ)).run P w = .ok (v.ev β ρ) w := by
  unfold indexAddrE at h
  split at h
  · rename_i k e
    split at h
    · rename_i len el hu
      split at h
      · rename_i m b o hs
        split at h
        · rename_i j
          split at h
          · rename_i hj
            cases h
            simp only [TV.ev, SV.ev, CV.ev, iev_lit]
            exact indexAt_arr hu hs hj.1 hj.2
          · cases h
        · cases h
          obtain ⟨h0, h1⟩ := inB_sound hn
          simp only [TV.ev, SV.ev, CV.ev]
          rw [indexAt_arr hu hs h0 h1, Nat.mul_comm]
      · rename_i m b o s q kk hs
        split at h
        · rename_i j
          split at h
          · rename_i hj
            cases h
            simp only [TV.ev, SV.ev, CV.ev, iev_lit]
            rw [indexAt_arr hu hs hj.1 hj.2]; congr 4; omega
          · cases h
        · cases h
      · rename_i m x y hs
        cases h
        rw [bev_mkAnd, Bool.and_eq_true] at hn
        obtain ⟨hy, hb⟩ := hn
        rw [bev_mkLe, decide_eq_true_eq, iev_lit] at hy
        obtain ⟨h0, h1⟩ := inB_sound hb
        simp only [TV.ev, SV.ev, CV.ev, iev_mkAdd, iev_mkMul, iev_lit]
        rw [indexAt_arr hu hs h0 h1]; congr 4
        have : (iev ρ e * (m : Int)).toNat = (iev ρ e).toNat * m := by
          obtain ⟨q, hq⟩ := Int.eq_ofNat_of_zero_le h0
          rw [hq, ← Int.natCast_mul, Int.toNat_natCast, Int.toNat_natCast]
        have h2 : 0 ≤ iev ρ e * (m : Int) := Int.mul_nonneg h0 (by omega)
        omega
      · cases h
    · rename_i el hu
      split at h
      · rename_i m x y l c hs
        cases h
        rw [bev_mkAnd, Bool.and_eq_true, bev_mkAnd, Bool.and_eq_true, bev_mkAnd, Bool.and_eq_true, bev_mkLe, bev_mkLe, bev_mkLe, bev_mkLt, decide_eq_true_eq, decide_eq_true_eq, decide_eq_true_eq, decide_eq_true_eq, iev_lit] at hn
        obtain ⟨hx, hy, h0, h1⟩ := hn
        simp only [TV.ev, SV.ev, CV.ev, iev_mkAdd, iev_mkMul, iev_lit, slP_pos hx]
        rw [indexAt_slice hu hs h0 (by omega)]; congr 4
        have : (iev ρ e * (m : Int)).toNat = (iev ρ e).toNat * m := by
          obtain ⟨q, hq⟩ := Int.eq_ofNat_of_zero_le h0
          rw [hq, ← Int.natCast_mul, Int.toNat_natCast, Int.toNat_natCast]
        have h2 : 0 ≤ iev ρ e * (m : Int) := Int.mul_nonneg h0 (by omega)
        omega
      · cases h
    · cases h
  · cases h

theorem fieldE_sound {t : TypeId} {f : Nat} {x : TV} (h : fieldE P t f x = some (n, v)) : (Instr.field t (x.ev β ρ) f).run P w = .ok (v.ev β ρ) w := by
  unfold fieldE at h
  split at h
  · rename_i fs l hu
    split at h
    · rename_i fl hf
      simp only [Option.map_eq_some_iff, Prod.mk.injEq] at h
      obtain ⟨u, hu', _, rfl⟩ := h
      unfold Instr.field
      simp only [Sem.run_bind, run_underlying hu, Result.andThen_ok, hf, TV.ev, SV.ev, asAgg, Sem.run_pure]
      exact loadRow_part hu'
    · cases h
  · cases h

theorem index_arr {t el : TypeId} {len m : Nat} {k : IntKind} {i : Int} {l : List CV} {u : SV} (hu : P.underlying t = some (.array len el)) (hs : sizeT P el = some m) (h0 : 0 ≤ i) (h1 : i < len)
    (hl : loadRow P el l (i.toNat * m) = some u) : (Instr.index t (.agg (l.map (CV.ev β ρ)).toArray) (.int k i)).run P w = .ok (u.ev β ρ) w := by
  unfold Instr.index
  simp only [asIntOf, Sem.run_bind, Sem.run_pure, Result.andThen_ok, run_underlying hu, h0, h1, and_self, if_true, sizeT_run hs]
  exact loadRow_part hl

theorem indexE_sound {t : TypeId} {x i : TV} (h : indexE P t x i = some (n, v)) (hn : bev ρ n = true) : (Instr.index t (x.ev β ρ) (i.ev β ρ)).run P w = .ok (v.ev β ρ) w := by
  unfold indexE at h
  split at h
  · rename_i len el l k e hu
    split at h
    · rename_i m hs
      split at h
      · rename_i j
        split at h
        · rename_i hj
          simp only [Option.map_eq_some_iff, Prod.mk.injEq] at h
          obtain ⟨u, hu', _, rfl⟩ := h
          simp only [TV.ev, SV.ev, CV.ev, iev_lit]
          exact index_arr hu hs hj.1 hj.2 hu'
        · cases h
      · split at h
        · rename_i vs hvs
          simp only [Option.map_eq_some_iff, Prod.mk.injEq] at h
          obtain ⟨u, hu', rfl, rfl⟩ := h
          obtain ⟨h0, h1⟩ := inB_sound hn
          obtain ⟨hlen, hget⟩ := allSome_get hvs
          simp only [List.length_map, List.length_range] at hlen
          obtain ⟨z, hz, hzv⟩ := selSV_ev (β := β) vs 0 u hu' (by omega) (by omega)
          have hz' := hget _ _ hz
          rw [Nat.sub_zero, List.getElem?_map, List.getElem?_range (by omega)] at hz'
          simp only [Option.map_some, Option.some.injEq] at hz'
          simp only [TV.ev, hzv]
          exact index_arr hu hs h0 h1 hz'
        · cases h
    · cases h
  · cases h

theorem extractE_sound {i : Nat} {x : TV} (h : extractE i x = some (n, v)) : (Instr.extract (x.ev β ρ) i).run P w = .ok (v.ev β ρ) w := by
  unfold extractE at h
  split at h
  · simp only [Option.map_eq_some_iff, Prod.mk.injEq] at h
    obtain ⟨u, hu, _, rfl⟩ := h
    unfold Instr.extract
    simp only [TV.ev]
    have : ((List.map (SV.ev β ρ) ‹_›).toArray)[i]? = some (u.ev β ρ) := by simp [hu]
    simp only [this]
    rfl
  · cases h

theorem lenE_sound {t ty : TypeId} {ats : Array TypeId} {x : TV} (ht : ats[0]? = some t) (h : lenE P t x = some (n, v)) (hn : bev ρ n = true) : (Builtin.len_ ats ty #[x.ev β ρ]).run P w = .ok (v.ev β ρ) w := by
  unfold lenE at h
  unfold Builtin.len_
  have h0 : (#[x.ev β ρ] : Array Value)[0]? = some (x.ev β ρ) := rfl
  simp only [ht, h0]
  split at h
  · rename_i m _ hu
    cases h
    simp only [Sem.run_bind, run_underlying hu, Result.andThen_ok]
    rfl
  · rename_i el _ _ l _ hu
    cases h
    rw [bev_mkLe, decide_eq_true_eq, iev_lit] at hn
    simp only [Sem.run_bind, run_underlying hu, Result.andThen_ok, TV.ev, SV.ev, CV.ev, Sem.run_pure, goInt, Int.toNat_of_nonneg hn]
  · rename_i el _ m _ hu
    cases h
    simp only [Sem.run_bind, run_underlying hu, Result.andThen_ok, TV.ev, SV.ev, CV.ev, Sem.run_pure, goInt, iev_lit]
  · cases h

theorem minE_sound {x y z : TV} (h : minE x y = some z) : (Builtin.min2 (x.ev β ρ) (y.ev β ρ)).run P w = .ok (z.ev β ρ) w := by
  unfold minE at h
  split at h
  · cases h
    simp only [TV.ev, SV.ev, CV.ev, Builtin.min2, iev_mkIteI, bev_mkLt, decide_eq_true_eq, Sem.run_pure]
  · cases h
theorem maxE_sound {x y z : TV} (h : maxE x y = some z) : (Builtin.max2 (x.ev β ρ) (y.ev β ρ)).run P w = .ok (z.ev β ρ) w := by
  unfold maxE at h
  split at h
  · cases h
    simp only [TV.ev, SV.ev, CV.ev, Builtin.max2, iev_mkIteI, bev_mkLt, decide_eq_true_eq, Sem.run_pure, GT.gt]
  · cases h
theorem foldE_sound {f : TV → TV → Option TV} {F : Value → Value → Sem Value} (hf : ∀ x y z, f x y = some z → (F (x.ev β ρ) (y.ev β ρ)).run P w = .ok (z.ev β ρ) w) :
    ∀ (l : List TV) (x z : TV), foldE f l x = some z → ((l.map (TV.ev β ρ)).foldlM F (x.ev β ρ)).run P w = .ok (z.ev β ρ) w
  | [], x, z, h => by cases h; rfl
  | y :: l, x, z, h => by
    simp only [foldE] at h
    split at h
    · rename_i u hu
      simp only [List.map_cons, List.foldlM_cons, Sem.run_bind, hf x y u hu, Result.andThen_ok]
      exact foldE_sound hf l u z h
    · cases h

theorem opnds_sound (h : Rel S w0 β ρ st a w) (hg : bev ρ g = true) : ∀ (l : List Operand) (n : E) (vs : List TV), opnds st g l = some (n, vs) → bev ρ n = true → l.map a.eval = vs.map (TV.ev β ρ)
  | [], n, vs, ho, _ => by cases ho; rfl
  | x :: l, n, vs, ho, hn => by
    simp only [opnds] at ho
    split at ho
    · rename_i n1 v1 n2 v2 h1 h2
      cases ho
      rw [bev_mkAnd, Bool.and_eq_true] at hn
      simp only [List.map_cons, opnd_sound h h1 hg hn.1, opnds_sound h hg l _ _ h2 hn.2]
    · cases ho

theorem builtinE_sound {b : Builtin} {ats : Array TypeId} {ty : TypeId} {cs : Array Bool} {vs : List TV} (h : builtinE P b ats vs = some (n, v)) (hn : bev ρ n = true) :
    (builtin b ats ty cs (vs.map (TV.ev β ρ)).toArray).run P w = .ok (.value (v.ev β ρ)) w := by
  unfold builtinE at h
  split at h
  · split at h
    · rename_i t ht
      have := lenE_sound (β := β) (w := w) (ty := ty) ht h hn
      unfold builtin
      simp only [List.map_cons, List.map_nil, Sem.run_bind, this, Result.andThen_ok, Sem.run_pure]
    · cases h
  · simp only [Option.map_eq_some_iff, Prod.mk.injEq] at h
    obtain ⟨u, hu, _, rfl⟩ := h
    have := foldE_sound (P := P) (w := w) (β := β) (ρ := ρ) (fun x y z => minE_sound) _ _ _ hu
    unfold builtin
    simp only [List.map_cons, Sem.run_bind, Builtin.min_, this, Result.andThen_ok, Sem.run_pure]
  · simp only [Option.map_eq_some_iff, Prod.mk.injEq] at h
    obtain ⟨u, hu, _, rfl⟩ := h
    have := foldE_sound (P := P) (w := w) (β := β) (ρ := ρ) (fun x y z => maxE_sound) _ _ _ hu
    unfold builtin
    simp only [List.map_cons, Sem.run_bind, Builtin.max_, this, Result.andThen_ok, Sem.run_pure]
  · cases h

theorem foldl_splice (off : Nat) : ∀ (vs : List Value) (k : Nat) (arr : Array Value), off + k + vs.length ≤ arr.size →
    (vs.zipIdx k).foldl (fun cs (p : Value × Nat) => cs.setIfInBounds (off + p.2) p.1) arr = (splice arr.toList (off + k) vs).toArray
  | [], k, arr, h => by simp [splice]
  | x :: vs, k, arr, h => by
    simp only [List.length_cons] at h
    rw [List.zipIdx_cons, List.foldl_cons, foldl_splice off vs (k + 1) _ (by simp; omega)]
    congr 1
    have := list_seg_step arr.toList (off + k) x vs (by simp; omega)
    simpa [splice, Array.toList_setIfInBounds, Nat.add_assoc] using this

theorem fillE_sound {place : Nat → Option (Nat × Nat)} : ∀ (ps : List (Nat × SV)) (l r : List CV), fillE place l ps = some r →
    Instr.fill place (l.map (CV.ev β ρ)).toArray (ps.map fun p => (p.1, p.2.ev β ρ)) = some (r.map (CV.ev β ρ)).toArray
  | [], l, r, h => by cases h; rfl
  | (i, v) :: ps, l, r, h => by
    simp only [fillE] at h
    split at h
    · cases h
    · rename_i off size hp
      split at h
      · rename_i hc
        obtain ⟨h1, h2, h3⟩ := hc
        have hcs := SV.cells_ev (β := β) (ρ := ρ) v h3
        have hsz : (v.ev β ρ).cells.size = v.cells.length := by rw [← Array.length_toList, hcs]; simp
        have hle : ¬ off + (v.ev β ρ).cells.size > (l.map (CV.ev β ρ)).toArray.size := by rw [hsz]; simp; omega
        simp only [List.map_cons, Instr.fill, hp]
        rw [if_neg (by simp only [hsz, h1, ne_eq, not_true_eq_false, decide_false, Bool.false_or, decide_eq_true_eq]; rw [← h1, ← hsz]; exact hle)]
        have e : (v.ev β ρ).cells.zipIdx.foldl (fun cs (p : Value × Nat) => cs.setIfInBounds (off + p.2) p.1) (l.map (CV.ev β ρ)).toArray = ((splice l off v.cells).map (CV.ev β ρ)).toArray := by
          rw [← Array.foldl_toList, Array.toList_zipIdx, hcs]
          have := foldl_splice off (v.cells.map (CV.ev β ρ)) 0 (l.map (CV.ev β ρ)).toArray (by simp; omega)
          rw [this]
          simp [splice, List.map_append, List.map_take, List.map_drop]
        have ih := fillE_sound ps _ _ h
        rw [← ih]
        exact congrArg (fun z => Instr.fill place z _) e
      · cases h

theorem svs_ev : ∀ (l : List TV) (m : List SV), svs l = some m → l.map (TV.ev β ρ) = m.map (SV.ev β ρ)
  | [], m, h => by cases h; rfl
  | .sv v :: l, m, h => by
    simp only [svs, Option.map_eq_some_iff] at h
    obtain ⟨r, hr, rfl⟩ := h
    simp only [List.map_cons, svs_ev l r hr]; rfl
  | .tup _ :: l, m, h => by simp [svs] at h

theorem places_run : ∀ (fs : List Field) (ps : List (Nat × Nat)), allSome (fs.map fun f => (sizeT P f.type).map fun n => (f.offset, n)) = some ps →
    (fs.mapM fun (f : Field) => (do pure (f.offset, ← sizeOf f.type) : Sem (Nat × Nat))).run P w = .ok ps w
  | [], ps, h => by cases h; rfl
  | f :: fs, ps, h => by
    simp only [List.map_cons] at h
    cases hs : sizeT P f.type with
    | none => simp [hs, allSome] at h
    | some m =>
      simp only [hs, Option.map_some, allSome, Option.map_eq_some_iff] at h
      obtain ⟨r, hr, rfl⟩ := h
      have ih := places_run fs r hr
      simp only [List.mapM_cons, Sem.run_bind, sizeT_run hs, Result.andThen_ok, Sem.run_pure, ih]

theorem _root_.List.map_prod_left_eq_zip' {α β γ : Type} {f : α → β} {h : α → γ} : ∀ (l : List α), l.map (fun x => (f x, h x)) = (l.map f).zip (l.map h)
  | [] => rfl
  | x :: l => by simp [List.map_prod_left_eq_zip' l]
theorem zip_ev : ∀ (is : List Nat) (vs : List SV), (is.zip vs).map (fun p => (p.1, p.2.ev β ρ)) = is.zip (vs.map (SV.ev β ρ))
  | [], _ => rfl
  | _ :: _, [] => rfl
  | i :: is, v :: vs => by simp [zip_ev is vs]

theorem buildE_sound {t : TypeId} {is : List Nat} {vs : List TV} (h : buildE P t is vs = some (n, v)) : (Instr.build t (is.zip (vs.map (TV.ev β ρ))).toArray).run P w = .ok (v.ev β ρ) w := by
  unfold buildE at h
  split at h
  · rename_i z us hz hus
    rw [svs_ev _ _ hus, ← zip_ev]
    have hzc : z.cells = ((z.cells.toList.map liftC).map (CV.ev β ρ)).toArray := by rw [map_liftC]
    unfold Instr.build
    simp only [Sem.run_bind, zeroT_run hz, Result.andThen_ok]
    split at h
    · rename_i fs hu
      split at h
      · rename_i places hp
        simp only [Option.map_eq_some_iff, Prod.mk.injEq] at h
        obtain ⟨r, hr, _, rfl⟩ := h
        have hf := fillE_sound (β := β) (ρ := ρ) _ _ _ hr
        rw [← hzc] at hf
        have hpl : (fs.mapM fun (f : Field) => (do pure (f.offset, ← sizeOf f.type) : Sem (Nat × Nat))).run P w = .ok places.toArray w := by
          have := places_run (w := w) _ _ hp
          obtain ⟨fs⟩ := fs
          simp only [List.mapM_toArray, Sem.run_map, this, Result.andThen_ok]
        simp only [run_underlying hu, Result.andThen_ok, Sem.run_bind, hpl]
        have e : (fun (i : Nat) => places.toArray[i]?) = (fun (i : Nat) => places[i]?) := by funext i; simp
        simp only [e, hf]
        rfl
      · cases h
    · rename_i m el hu
      split at h
      · rename_i q hs
        simp only [Option.map_eq_some_iff, Prod.mk.injEq] at h
        obtain ⟨r, hr, _, rfl⟩ := h
        have hf := fillE_sound (β := β) (ρ := ρ) _ _ _ hr
        rw [← hzc] at hf
        simp only [run_underlying hu, Result.andThen_ok, Sem.run_bind, sizeT_run hs, hf]
        rfl
      · cases h
    · cases h
  · cases h

theorem eqFsE_sound {rec : TypeId → SV → SV → Option E} {D : Nat} (hrec : ∀ t x y e, rec t x y = some e → (Op.equalIn D t (x.ev β ρ) (y.ev β ρ)).run P w = .ok (bev ρ e) w) {xs ys : List CV} :
    ∀ (fs : List Field) (e : E), eqFsE P rec xs ys fs = some e → (Op.eqFields D (xs.map (CV.ev β ρ)).toArray (ys.map (CV.ev β ρ)).toArray fs).run P w = .ok (bev ρ e) w
  | [], e, h => by cases h; simp [Op.eqFields, bev_tt]
  | f :: fs, e, h => by
    unfold eqFsE at h
    unfold Op.eqFields
    split at h
    · rename_i hn
      rw [if_pos hn]
      split at h
      · rename_i a b ha hb
        split at h
        · rename_i q r hq hr
          cases h
          have ih := eqFsE_sound hrec fs r hr
          simp only [Sem.run_bind, loadRow_part ha, loadRow_part hb, Result.andThen_ok, hrec _ _ _ _ hq, bev_mkAnd]
          cases hb : bev ρ q with
          | true => simpa using ih
          | false => simp
        · cases h
      · cases h
    · rename_i hn
      rw [if_neg hn]
      exact eqFsE_sound hrec fs e h
theorem eqIsE_sound {rec : TypeId → SV → SV → Option E} {D : Nat} (hrec : ∀ t x y e, rec t x y = some e → (Op.equalIn D t (x.ev β ρ) (y.ev β ρ)).run P w = .ok (bev ρ e) w) {t : TypeId} {xs ys : List CV} :
    ∀ (is : List Nat) (e : E), eqIsE P rec t xs ys is = some e → (Op.eqItems D t (P.cellsOf t) (xs.map (CV.ev β ρ)).toArray (ys.map (CV.ev β ρ)).toArray is).run P w = .ok (bev ρ e) w
  | [], e, h => by cases h; simp [Op.eqItems, bev_tt]
  | i :: is, e, h => by
    unfold eqIsE at h
    unfold Op.eqItems
    split at h
    · rename_i a b ha hb
      split at h
      · rename_i q r hq hr
        cases h
        have ih := eqIsE_sound hrec is r hr
        simp only [Sem.run_bind, loadRow_part ha, loadRow_part hb, Result.andThen_ok, hrec _ _ _ _ hq, bev_mkAnd]
        cases hb : bev ρ q with
        | true => simpa using ih
        | false => simp
      · cases h
    · cases h
theorem eqSV_sound : ∀ (d : Nat) (t : TypeId) (x y : SV) (e : E) (D : Nat), d ≤ D → eqSV P d t x y = some e → (Op.equalIn D t (x.ev β ρ) (y.ev β ρ)).run P w = .ok (bev ρ e) w
  | 0, _, _, _, _, _, _, h => by cases h
  | d + 1, t, x, y, e, D, hD, h => by
    obtain ⟨D, rfl⟩ : ∃ D', D = D' + 1 := ⟨D - 1, by omega⟩
    have ih : ∀ t x y e, eqSV P d t x y = some e → (Op.equalIn D t (x.ev β ρ) (y.ev β ρ)).run P w = .ok (bev ρ e) w := fun t x y e h => eqSV_sound d t x y e D (by omega) h
    unfold eqSV at h
    split at h
    · rename_i hu
      split at h
      · cases h
        simp [Op.equalIn, Sem.run_bind, run_underlying hu, SV.ev, CV.ev, bev_mkBeq]
      · cases h
    · rename_i kk hu
      split at h
      · split at h
        · rename_i hk
          subst hk
          cases h
          simp [Op.equalIn, Sem.run_bind, run_underlying hu, SV.ev, CV.ev, bev_mkEq]
          rfl
        · cases h
      · cases h
    · rename_i fs hu
      split at h
      · split at h
        · rename_i hp
          have hf : P.fieldsOf t = fs := by simp [Program.fieldsOf, hu]
          simp only [SV.ev]
          rw [run_equalIn_struct w D t _ _ (by rw [hf]; exact hu) hp, hf]
          exact eqFsE_sound ih _ _ h
        · cases h
      · cases h
    · rename_i n el hu
      split at h
      · split at h
        · rename_i i hi
          simp only [SV.ev]
          rw [run_equalIn_array w D _ _ hu hi]
          exact eqIsE_sound ih _ _ h
        · cases h
      · cases h
    · cases h

theorem binE_sound {op : BinOp} {t : TypeId} {x y : TV} {X Y : Operand} (h : binE P op t x y = some (n, v)) (hn : bev ρ n = true) :
    Sem.run P (do eqGuard op t X Y (x.ev β ρ) (y.ev β ρ); binOp op t (x.ev β ρ) (y.ev β ρ)) w = .ok (v.ev β ρ) w := by
  unfold binE at h
  split at h
  · rename_i k a k' b
    have := binI_sound (T := t) (β := β) (w := w) (P := P) h hn
    simp only [TV.ev, SV.ev, CV.ev] at this ⊢
    have hg : (eqGuard op t X Y (.int k (iev ρ a)) (.int k' (iev ρ b))).run P w = .ok () w := by
      unfold eqGuard; split <;> rfl
    simp only [Sem.run_bind, hg, Result.andThen_ok]
    exact this
  · rename_i a b
    have hg : ∀ op, (eqGuard op t X Y (.bool (bev ρ a)) (.bool (bev ρ b))).run P w = .ok () w := by
      intro op; unfold eqGuard; split <;> rfl
    split at h
    · rename_i hu
      have heq : (Op.equal t (.bool (bev ρ a)) (.bool (bev ρ b))).run P w = .ok (bev ρ a == bev ρ b) w := by
        unfold Op.equal Op.maxDepth
        rw [Op.equalIn]
        simp only [Sem.run_bind, run_underlying hu, Result.andThen_ok]
        rfl
      split at h
      · cases h
        simp only [TV.ev, SV.ev, CV.ev, Sem.run_bind, hg, Result.andThen_ok, binOp, heq, Sem.run_pure, bev_mkBeq]
      · cases h
        simp only [TV.ev, SV.ev, CV.ev, Sem.run_bind, hg, Result.andThen_ok, binOp, heq, Sem.run_pure, bev_mkBeq, bev_mkNot]
      · cases h
    · cases h
  · rename_i x l1 q1 z1 x' l2 q2 z2
    split at h
    · rename_i el hu
      have hg : ∀ op, (eqGuard op t X Y (CV.ev β ρ (.rsl x l1 q1 z1)) (CV.ev β ρ (.rsl x' l2 q2 z2))).run P w = .ok () w := by
        intro op; cases op <;> simp [eqGuard, CV.ev]
      split at h
      · rename_i e he
        have heq : (Op.equal t (CV.ev β ρ (.rsl x l1 q1 z1)) (CV.ev β ρ (.rsl x' l2 q2 z2))).run P w = .ok (bev ρ e) w := by
          unfold Op.equal Op.maxDepth
          split at he
          · rename_i hx
            cases he; subst hx
            rw [Op.equalIn]
            simp only [Sem.run_bind, run_underlying hu, Result.andThen_ok, CV.ev, iev_lit, bev_mkEq, slP_nil]
            by_cases h : iev ρ x = -1
            · rw [h, slP_nil]; simp
            · have h2 := slP_some (y := iev ρ l1) h
              cases hs : slP (iev ρ x) (iev ρ l1) with
              | none => rw [hs] at h2; cases h2
              | some q => simp [h]
          · split at he
            · rename_i hx
              cases he; subst hx
              rw [Op.equalIn]
              simp only [Sem.run_bind, run_underlying hu, Result.andThen_ok, CV.ev, iev_lit, bev_mkEq, slP_nil]
              by_cases h : iev ρ x' = -1
              · rw [h, slP_nil]; simp
              · have h2 := slP_some (y := iev ρ l2) h
                simp [h, h2]
            · cases he
        split at h
        · cases h
          simp only [CV.ev] at hg heq
          simp only [TV.ev, SV.ev, CV.ev, Sem.run_bind, hg, Result.andThen_ok, binOp, heq, Sem.run_pure]
        · cases h
          simp only [CV.ev] at hg heq
          simp only [TV.ev, SV.ev, CV.ev, Sem.run_bind, hg, Result.andThen_ok, binOp, heq, Sem.run_pure, bev_mkNot]
        · cases h
      · cases h
    · cases h
  · rename_i a b
    split at h
    · rename_i hgt
      have hg : ∀ op, (eqGuard op t X Y (SV.ev β ρ (.agg a)) (SV.ev β ρ (.agg b))).run P w = .ok () w := by
        intro op; cases op <;> simp [eqGuard, SV.ev, Sem.run_bind, run_program, hgt]
      split at h
      · rename_i e he
        have heq : (Op.equal t (SV.ev β ρ (.agg a)) (SV.ev β ρ (.agg b))).run P w = .ok (bev ρ e) w := eqSV_sound 20 t _ _ e 10000 (by decide) he
        split at h
        · cases h
          simp only [SV.ev] at hg heq
          simp only [TV.ev, SV.ev, CV.ev, Sem.run_bind, hg, Result.andThen_ok, binOp, heq, Sem.run_pure]
        · cases h
          simp only [SV.ev] at hg heq
          simp only [TV.ev, SV.ev, CV.ev, Sem.run_bind, hg, Result.andThen_ok, binOp, heq, Sem.run_pure, bev_mkNot]
        · cases h
      · cases h
    · cases h
  · cases h

theorem quiet_sound (hr : Rel S w0 β ρ st a w) {o : Oper} (h : quiet P st g o.op = some (n, v)) (hg : bev ρ g = true) (hn : bev ρ n = true) :
    (execOp a.eval o).run P w = .ok (.value (v.ev β ρ)) w := by
  obtain ⟨dst, op, ty, pos, af, gd⟩ := o
  simp only at h
  unfold quiet at h
  split at h
  · rename_i x
    simp only [execOp, Sem.run_pure, opnd_sound hr h hg hn]
  · rename_i x
    simp only [execOp, Sem.run_pure, opnd_sound hr h hg hn]
  · rename_i c x y
    split at h
    · rename_i nc e hc
      split at h
      · obtain ⟨h1, m, h2, h3⟩ := RT.with_some h hn
        have e1 := opnd_sound hr hc hg h1
        have e2 := opnd_sound hr h2 hg h3
        simp only [TV.ev, SV.ev, CV.ev, bev_tt] at e1
        simp only [execOp, Sem.run_bind, e1, asBool, Sem.run_pure, Result.andThen_ok, if_true, e2]
      · obtain ⟨h1, m, h2, h3⟩ := RT.with_some h hn
        have e1 := opnd_sound hr hc hg h1
        have e2 := opnd_sound hr h2 hg h3
        simp only [TV.ev, SV.ev, CV.ev, bev_ff] at e1
        simp only [execOp, Sem.run_bind, e1, asBool, Sem.run_pure, Result.andThen_ok, if_false, Bool.false_eq_true, e2]
      · split at h
        · rename_i na va nb vb ha hb
          simp only [Option.map_eq_some_iff, Prod.mk.injEq] at h
          obtain ⟨u, hu, rfl, rfl⟩ := h
          simp only [bev_mkAnd, Bool.and_eq_true] at hn
          obtain ⟨h1, h2, h3⟩ := hn
          have e1 := opnd_sound hr hc hg h1
          have em := mergeT_ev (β := β) (ρ := ρ) hu
          simp only [TV.ev, SV.ev, CV.ev] at e1
          simp only [execOp, Sem.run_bind, e1, asBool, Sem.run_pure, Result.andThen_ok]
          cases hc' : bev ρ e with
          | true =>
            rw [hc', if_pos rfl] at em
            simp only [if_true, em, opnd_sound hr ha (by rw [bev_mkAnd, hg, hc']; rfl) h2]
          | false =>
            rw [hc', if_neg (by simp)] at em
            simp only [Bool.false_eq_true, if_false, em, opnd_sound hr hb (by rw [bev_mkAnd, bev_mkNot, hg, hc']; rfl) h3]
        · cases h
    · cases h
  · rename_i op t x y _
    split at h
    · rename_i n1 v1 n2 v2 hx hy
      obtain ⟨h1, m, h2, h3⟩ := RT.with_some h hn
      obtain ⟨h4, m', h5, h6⟩ := RT.with_some h2 h3
      obtain ⟨m'', h7, h8⟩ := RT.under_some h5 h6 hg
      have e1 := opnd_sound hr hx hg h1
      have e2 := opnd_sound hr hy hg h4
      have := binE_sound (β := β) (w := w) (X := x) (Y := y) h7 h8
      rw [← e1, ← e2] at this
      unfold execOp
      simp only [Sem.run_bind] at this ⊢
      rw [this]
      simp only [Result.andThen_ok, Sem.run_pure]
    · cases h
  · rename_i op t x
    split at h
    · rename_i n1 v1 hx
      obtain ⟨h1, m, h2, h3⟩ := RT.with_some h hn
      obtain ⟨m', h4, h5⟩ := RT.under_some h2 h3 hg
      have e1 := opnd_sound hr hx hg h1
      simp only [execOp, Sem.run_bind, e1, unE_sound (w := w) (P := P) (β := β) (ρ := ρ) h4, Result.andThen_ok, Sem.run_pure]
    · cases h
  · rename_i s d x
    split at h
    · rename_i n1 v1 hx
      obtain ⟨h1, m, h2, h3⟩ := RT.with_some h hn
      obtain ⟨m', h4, h5⟩ := RT.under_some h2 h3 hg
      have e1 := opnd_sound hr hx hg h1
      simp only [execOp, Sem.run_bind, e1, convE_sound (w := w) (β := β) (ρ := ρ) h4, Result.andThen_ok, Sem.run_pure]
    · cases h
  · rename_i s x f
    split at h
    · rename_i n1 v1 hx
      obtain ⟨h1, m, h2, h3⟩ := RT.with_some h hn
      obtain ⟨m', h4, h5⟩ := RT.under_some h2 h3 hg
      have e1 := opnd_sound hr hx hg h1
      simp only [execOp, Sem.run_bind, e1, fieldAddrE_sound (w := w) (β := β) (ρ := ρ) h4 h5, Result.andThen_ok, Sem.run_pure]
    · cases h
  · rename_i s x f
    split at h
    · rename_i n1 v1 hx
      obtain ⟨h1, m, h2, h3⟩ := RT.with_some h hn
      obtain ⟨m', h4, h5⟩ := RT.under_some h2 h3 hg
      have e1 := opnd_sound hr hx hg h1
      simp only [execOp, Sem.run_bind, e1, fieldE_sound (w := w) (β := β) (ρ := ρ) h4, Result.andThen_ok, Sem.run_pure]
    · cases h
  · rename_i t x y
    split at h
    · rename_i n1 v1 n2 v2 hx hy
      obtain ⟨h1, m, h2, h3⟩ := RT.with_some h hn
      obtain ⟨h4, m', h5, h6⟩ := RT.with_some h2 h3
      obtain ⟨m'', h7, h8⟩ := RT.under_some h5 h6 hg
      have e1 := opnd_sound hr hx hg h1
      have e2 := opnd_sound hr hy hg h4
      simp only [execOp, Sem.run_bind, e1, e2, indexAddrE_sound (w := w) (β := β) (ρ := ρ) h7 h8, Result.andThen_ok, Sem.run_pure]
    · cases h
  · rename_i t x y
    split at h
    · rename_i n1 v1 n2 v2 hx hy
      obtain ⟨h1, m, h2, h3⟩ := RT.with_some h hn
      obtain ⟨h4, m', h5, h6⟩ := RT.with_some h2 h3
      obtain ⟨m'', h7, h8⟩ := RT.under_some h5 h6 hg
      have e1 := opnd_sound hr hx hg h1
      have e2 := opnd_sound hr hy hg h4
      simp only [execOp, Sem.run_bind, e1, e2, indexE_sound (w := w) (β := β) (ρ := ρ) h7 h8, Result.andThen_ok, Sem.run_pure]
    · cases h
  · rename_i t x
    split at h
    · rename_i n1 c hx
      obtain ⟨h1, m, h2, h3⟩ := RT.with_some h hn
      obtain ⟨m', h4, h5⟩ := RT.under_some h2 h3 hg
      simp only [Option.map_eq_some_iff, Prod.mk.injEq] at h4
      obtain ⟨⟨nn, u⟩, hu, rfl, rfl⟩ := h4
      have e1 := opnd_sound hr hx hg h1
      obtain ⟨p, hp, hl⟩ := loadE_sound hr hu h5
      simp only [TV.ev, SV.ev, hp] at e1
      simp only [execOp, Sem.run_bind, e1, Instr.loadAt, Instr.sureAddr, Sem.run_pure, Result.andThen_ok, hl, TV.ev]
    · cases h
  · rename_i x i
    split at h
    · rename_i n1 v1 hx
      obtain ⟨h1, m, h2, h3⟩ := RT.with_some h hn
      obtain ⟨m', h4, h5⟩ := RT.under_some h2 h3 hg
      have e1 := opnd_sound hr hx hg h1
      simp only [execOp, Sem.run_bind, e1, extractE_sound (w := w) (P := P) (β := β) (ρ := ρ) h4, Result.andThen_ok, Sem.run_pure]
    · cases h
  · rename_i b args ats
    split at h
    · rename_i n1 vs hx
      obtain ⟨h1, m, h2, h3⟩ := RT.with_some h hn
      obtain ⟨m', h4, h5⟩ := RT.under_some h2 h3 hg
      have e1 := opnds_sound hr hg _ _ _ hx h1
      have e2 : args.map a.eval = (vs.map (TV.ev β ρ)).toArray := by
        rw [← e1]; obtain ⟨l⟩ := args; exact List.map_toArray
      rw [BigFrame.execOp_builtin, e2]
      exact builtinE_sound h4 h5
    · cases h
  · rename_i t parts
    split at h
    · rename_i n1 vs hx
      obtain ⟨h1, m, h2, h3⟩ := RT.with_some h hn
      obtain ⟨m', h4, h5⟩ := RT.under_some h2 h3 hg
      have e1 := opnds_sound hr hg _ _ _ hx h1
      have e2 : (parts.map fun p => (p.1, a.eval p.2)) = ((parts.toList.map (·.1)).zip (vs.map (TV.ev β ρ))).toArray := by
        rw [← e1, List.map_map, ← List.map_prod_left_eq_zip' parts.toList]
        obtain ⟨l⟩ := parts; exact List.map_toArray
      have := buildE_sound (w := w) (β := β) (ρ := ρ) h4
      rw [← e2] at this
      simp only [execOp, Sem.run_bind, this, Result.andThen_ok, Sem.run_pure]
    · cases h
  · cases h
end
end Go.Ex
