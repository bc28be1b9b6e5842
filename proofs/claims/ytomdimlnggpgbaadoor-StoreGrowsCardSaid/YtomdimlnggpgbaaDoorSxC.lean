/- A symbolic executor of functions that make, turn and share memory: operations that turn memory, calls of contracts, maps. What it tells of a piece of code is proved to be what the machine does. -/
import Derived.Test.YtomdimlnggpgbaaDoorSxB
set_option linter.unusedSimpArgs false
set_option linter.unusedVariables false
set_option linter.constructorNameAsVariable false
namespace Go.Sx
open Go

structure XR where
  st : St
  need : Nd
  x : Option X

def posOf (mem : Mem) (x : E) : Option (Nat × Res) :=
  match x with
  | .var a => match fBlk mem a with
    | some (p, l, T) => some (p, .blk a l T)
    | none => fHp mem x
  | x => fHp mem x
theorem posOf_sound {mem : Mem} {x : E} {p : Nat} {r : Res} (h : posOf mem x = some (p, r)) : mem[p]? = some r := by
  unfold posOf at h
  split at h
  · split at h
    · rename_i q l T hb; cases h; exact fBlk_sound hb
    · exact fHp_sound h
  · exact fHp_sound h

/-- The cells of a slice that is made. -/
def madeCVs (z : List CV) (n : Nat) : List CV := (List.range n).map fun j => z.getD (j % z.length) (.bool .tt)
def rootOf : TV → Option E
  | .sv (.one (.hptr x _)) => some x
  | .sv (.one (.sl x _ _ _)) => some x
  | .sv (.one (.map x)) => some x
  | .sv (.one (.clo _ x)) => some x
  | _ => none
def srcOf (mem : Mem) (size : Nat) (t : TV) : Option (Src × E) :=
  match t with
  | .sv (.one (.sl x y l c)) =>
    if x = .lit (-1) then (if y = .lit 0 ∧ l = .lit 0 ∧ c = .lit 0 then some (.cvs [] 0, .lit 0) else none) else
    match knownP mem x y, l with
    | some (_, _, cs, _, o), .lit m => if 0 ≤ m ∧ o + m.toNat * size ≤ cs.length ∧ (((cs.drop o).take (m.toNat * size)).all CV.cellB = true) then some (.cvs ((cs.drop o).take (m.toNat * size)) m.toNat, .lit m) else none
    | _, l => match (fHp mem x).bind (fun r => r.2.hk) with
      | some h => some (.seg h x y l, l)
      | none => none
  | _ => none

def storeE (P : Program) (st : St) (t : TypeId) (p : CV) (v : SV) : Option (E × Mem ⊕ X × Mem) :=
  match p with
  | .pti a o s k i => match fBlk st.mem a, v with
    | some (p, l, T), .one c => if sizeT P t = some 1 ∧ c.cellB = true ∧ (∀ j, j < k → o + s * j < l.length) then
        (updSel l o s i c k).map fun l' => .inl (inB i k, st.mem.set p (.blk a l' T))
      else none
    | _, _ => none
  | .hptr x y => if sizeT P t = some v.cells.length ∧ v.cells.all CV.cellB = true then match knownP st.mem x y with
    | some (a, p, l, T, o) => if o + v.cells.length ≤ l.length then some (.inl (.tt, st.mem.set p (.blk a (splice l o v.cells) T))) else none
    | none => match fHp st.mem x with
      | some (p, .hp k vers tags links) => some (.inr (.put st.nv k x y v.cells, st.mem.set p (.hp st.nv (k :: vers) tags links)))
      | _ => none
    else none
  | _ => none
where updSel (l : List CV) (o s : Nat) (i : E) (c : CV) : Nat → Option (List CV)
  | 0 => some l
  | m + 1 => match updSel l o s i c m with
    | some l' => match l'[o + s * m]? with
      | some old => match mergeCV (mkEq i (.lit m)) c old with
        | some v => some (l'.set (o + s * m) v)
        | none => none
      | none => none
    | none => none

def selPos (args : List TV) (mem : Mem) : Sel → Option (Nat × Res)
  | .arg i => match (args[i]?).bind rootOf with
    | some x => match posOf mem x with
      | some (p, r) => if r.own then some (p, r) else none
      | none => none
    | none => none
  | .link i j => match (args[i]?).bind rootOf with
    | some x => match posOf mem x with
      | some (_, .hp _ _ _ links) => match links[j]? with
        | some y => match posOf mem y with
          | some (p, r) => if r.own then some (p, r) else none
          | none => none
        | none => none
      | some (_, .blk _ l _) => match l[j]? with
        | some (.hptr y _) => match posOf mem y with
          | some (p, r) => if r.own then some (p, r) else none
          | none => none
        | _ => none
      | _ => none
    | none => none
/-- What a block's cell points to. -/
def rootCV : CV → Option E
  | .hptr x _ => some x
  | .sl x _ _ _ => some x
  | .map x => some x
  | _ => none
/-- Where the elements of a slice point to: the piece of the first one, of all else, or the slice's own. -/
def rowsRes (mem : Mem) (r : Nat × Res) : Nat × Res := match r.2 with
  | .blk _ l _ => match (l.head?).bind rootCV with
    | some y => match posOf mem y with
      | some q => q
      | none => (mem.length, .dead)
    | none => (mem.length, .dead)
  | .ro _ _ any => if any then r else match posAny mem 0 with
    | some q => q
    | none => r
  | _ => r
/-- A piece that a call reads: of an argument; 100: of all else; 200 + i: of the map that a closure's block holds; 1000 + 100 i + j: of cell j of argument i's block; 10000 + 100 i + j, 1000000 + 1000 i + j: of cell j of argument i, a struct; 2000000 + g: of the package variable g; 3000000 + i: of argument i's elements. -/
def rdRes (args : List TV) (mem : Mem) (i : Nat) : Nat × Res :=
  if 3000000 ≤ i then match (args[i - 3000000]?).bind rootOf with
    | some x => match posOf mem x with
      | some r => rowsRes mem r
      | none => (mem.length, .dead)
    | none => (mem.length, .dead)
  else if 2000000 ≤ i then match posOf mem (.lit ((i - 2000000 : Nat) : Int)) with
    | some r => r
    | none => (mem.length, .dead)
  else if 1000000 ≤ i then match args[(i - 1000000) / 1000]? with
    | some (.sv (.agg l)) => match (l[(i - 1000000) % 1000]?).bind rootCV with
      | some y => match posOf mem y with
        | some r => r
        | none => (mem.length, .dead)
      | none => (mem.length, .dead)
    | _ => (mem.length, .dead)
  else if 10000 ≤ i then match args[(i - 10000) / 100]? with
    | some (.sv (.agg l)) => match (l[(i - 10000) % 100]?).bind rootCV with
      | some y => match posOf mem y with
        | some r => r
        | none => (mem.length, .dead)
      | none => (mem.length, .dead)
    | _ => (mem.length, .dead)
  else if 1000 ≤ i then match (args[(i - 1000) / 100]?).bind rootOf with
    | some x => match posOf mem x with
      | some (_, .blk _ l _) => match (l[(i - 1000) % 100]?).bind rootCV with
        | some y => match posOf mem y with
          | some r => r
          | none => (mem.length, .dead)
        | none => (mem.length, .dead)
      | some r => r
      | none => (mem.length, .dead)
    | none => (mem.length, .dead)
  else if 200 ≤ i then match (args[i - 200]?).bind rootOf with
    | some x => match posOf mem x with
      | some (_, .blk _ (.map y :: _) _) => match posOf mem y with
        | some r => r
        | none => (mem.length, .dead)
      | _ => (mem.length, .dead)
    | none => (mem.length, .dead)
  else if 100 ≤ i then match posAny mem 0 with
    | some r => r
    | none => (mem.length, .dead)
  else match (args[i]?).bind rootOf with
    | some x => match posOf mem x with
      | some r => r
      | none => (mem.length, .dead)
    | none => (mem.length, .dead)
/-- A piece behind a call. -/
def Res.turned (n : Nat) : Res → Res
  | .blk a _ _ => .hp n [] [.var a] []
  | .hp k vers tags links => .hp n (k :: vers) tags links
  | .dead => .hp n [] [] []
  | r => r
def setAll (mem : Mem) (ps : List (Nat × Res)) : Mem := mapIx (fun p r => match ps.find? fun q => q.1 == p with
  | some q => q.2
  | none => r) 0 mem
def argRoots (args : List TV) (l : List Nat) : List E := l.filterMap fun i => (args[i]?).bind rootOf

def callE (Γ : List Spec) (st : St) (f : FuncId) (args : List TV) (dst : Option Tmp) : Option XR :=
  match Γ.findIdx? fun s => s.fn == f with
  | some j => match Γ[j]? with
    | some s => match allSome (s.own.map (selPos args st.mem)) with
      | some own =>
        let rd := s.rd.map (rdRes args st.mem)
        let ps := own.map (·.1)
        if decide ps.Nodup && (rd.all fun r => !ps.contains r.1) then
          let x : X := .call j st.nv args (own.map (·.2)) (rd.map (·.2))
          let nps := own.zipIdx.map fun q => (q.1.1, q.1.2.turned (st.nv + q.2))
          let mem := setAll st.mem nps ++ (if cpRoots 0 s.res = [] then [] else [.hp (st.nv + own.length) [] (cpRoots st.nv s.res) (argRoots args s.links)])
          some ⟨({ st with mem := mem, nv := st.nv + max (cpLen s.res) (own.length + 1) } : St).put dst (some (cpTV st.nv s.res)), .pre x, some x⟩
        else none
      | none => none
    | none => none
  | none => none

/-- A function with a body of its own. -/
def enterB (P : Program) (f : FuncId) : Bool :=
  match P.funcs[f]? with
  | some fn => fn.body.isSome && !(fn.name == "runtime.NumGoroutine")
  | none => false

/-- A function that is called by its name, or by a value that is one without captured ones. -/
def calleeOf (st : St) : Operand → Option FuncId
  | .func f => some f
  | .tmp t => match st.tmps[t]? with
    | some (some (.sv (.one (.val (.func (.func f) a b))))) => if a.isEmpty && b.isEmpty then some f else none
    | _ => none
  | _ => none

def newBlk (st : St) (l : List CV) (T : TypeId) (dst : Option Tmp) (v : TV) : Option XR :=
  if l.all (·.upto st.nv) = true then some ⟨({ st with mem := st.mem ++ [.blk st.nv l T], nv := st.nv + 1 } : St).put dst (some v), .tt, some (.alloc st.nv)⟩ else none

def appE (P : Program) (st : St) (t : TypeId) (a b : TV) (dst : Option Tmp) : Option XR :=
  match P.underlying t with
  | some (.slice el) => match P.info? el with
    | some i => match i.zero with
      | some z => if z.cells.size = i.size ∧ 0 < i.size then
        match a, srcOf st.mem i.size b with
        | .sv (.one (.sl x y l c)), some (src, le) => if (l.upto st.nv && le.upto st.nv) = true then
          let n := st.nv
          let r : TV := .sv (.one (.sl (.var n) (.lit 0) (mkAdd l le) (.var (n + 1))))
          let fin (mem : Mem) (x : X) : XR := ⟨({ st with mem := mem, nv := n + 2 } : St).put dst (some r), .pre x, some x⟩
          if x = .lit (-1) then
            if y = .lit 0 ∧ l = .lit 0 ∧ c = .lit 0 then
              some (fin (st.mem ++ [.hp n [] [.var n] []]) (.app n el i.size i.bytes (.sl x y l c) l .dead src))
            else none
          else match posOf st.mem x with
            | some (p, .hp k vers tags links) => some (fin (st.mem.set p (.hp n (k :: vers) (.var n :: tags) links)) (.app n el i.size i.bytes (.sl x y l c) l (.hp k vers tags links) src))
            | some (p, .blk a cells T) => match y, l, c with
              | .lit o, .lit l, .lit c => if T = el ∧ o = 0 then
                  some (fin (st.mem.set p (.hp n [] [.var n, .var a] [])) (.app n el i.size i.bytes (.sl x y (.lit l) (.lit c)) (.lit l) (.blk a cells T) src))
                else if 0 ≤ o ∧ 0 ≤ l ∧ l ≤ c ∧ o.toNat + l.toNat * i.size ≤ cells.length ∧ x = .var a then
                  some (fin (st.mem ++ [.hp n [] [.var n] []]) (.grow n el i.size i.bytes ((cells.drop o.toNat).take (l.toNat * i.size)) l.toNat c.toNat src))
                else none
              | _, _, _ => none
            | _ => none
          else none
        | _, _ => none
        else none
      | none => none
    | none => none
  | _ => none

def makeE (P : Program) (st : St) (t : TypeId) (a b : TV) (dst : Option Tmp) : Option XR :=
  match P.underlying t, a, b with
  | some (.slice el), .sv (.one (.int k l)), .sv (.one (.int k' c)) => if l = c then match P.info? el with
    | some i => match i.zero with
      | some z => if z.cells.size = i.size ∧ 0 < i.size ∧ l.upto st.nv = true then
        let zs := z.cells.toList.map liftC
        let n := st.nv
        let x : X := .mk n el zs i.bytes l
        match l with
        | .lit m => if m.toNat * i.size ≤ 128 then
            some ⟨({ st with mem := st.mem ++ [.blk n (madeCVs zs (m.toNat * i.size)) el], nv := n + 1 } : St).put dst (some (.sv (.one (.sl (.var n) (.lit 0) l l)))), .pre x, some x⟩
          else some ⟨({ st with mem := st.mem ++ [.hp n [] [.var n] []], nv := n + 1 } : St).put dst (some (.sv (.one (.sl (.var n) (.lit 0) l l)))), .pre x, some x⟩
        | l => some ⟨({ st with mem := st.mem ++ [.hp n [] [.var n] []], nv := n + 1 } : St).put dst (some (.sv (.one (.sl (.var n) (.lit 0) l l)))), .pre x, some x⟩
        else none
      | none => none
    | none => none
    else none
  | _, _, _ => none

def bslE (P : Program) (st : St) (t : TypeId) (len : Nat) (is : List Nat) (vs : List TV) (dst : Option Tmp) : Option XR :=
  match P.underlying t with
  | some (.slice el) => match sizeT P el, zeroT P el, svs vs with
    | some n, some z, some vs => if len * n ≤ 4096 ∧ z.cells.size = n then
        match fillE (fun i => some (i * n, n)) (madeCVs (z.cells.toList.map liftC) (len * n)) (is.zip vs) with
        | some l => newBlk st l el dst (.sv (.one (.sl (.var st.nv) (.lit 0) (.lit len) (.lit len))))
        | none => none
      else none
    | _, _, _ => none
  | _ => none

def keyKd (P : Program) (t : TypeId) : Option Kd :=
  match P.underlying t with
  | some (.int k) => some (.int k)
  | some .string => some .str
  | _ => none
def keyOK : Kd → CV → Bool
  | .int k, .int k' _ => decide (k = k')
  | .str, .str _ => true
  | _, _ => false
def mapE (P : Program) (st : St) (op : Op) (dst : Option Tmp) : Option XR :=
  match op with
  | .makeMap t none => match P.underlying t with
    | some (.map _ _) => some ⟨({ st with mem := st.mem ++ [.hp st.nv [] [.var st.nv] []], nv := st.nv + 1 } : St).put dst (some (.sv (.one (.map (.var st.nv))))), .pre (.mnew st.nv), some (.mnew st.nv)⟩
    | _ => none
  | .lookup t m k ok => match P.underlying t with
    | some (.map kt vt) => match keyKd P kt, zeroT P vt, aggB P vt, opnd st m, opnd st k with
      | some kd, some z, some agg, some (.sv (.one (.map x))), some (.sv (.one key)) => match (fHp st.mem x).bind (fun r => r.2.hk), lift z with
        | some h, .sv zs =>
          let ks := z.cells.toList.map ckOf
          if keyOK kd key && (agg == isAgg z) && (agg || ks.length == 1) then
            let X : X := .mget st.nv h x kd key zs ks agg
            let v := mshape st.nv ks agg
            some ⟨({ st with nv := st.nv + ckLen ks + 1 } : St).put dst (some (if ok then .tup [v, .one (.bool (.bvar (st.nv + ckLen ks)))] else .sv v)), .pre X, some X⟩
          else none
        | _, _ => none
      | _, _, _, _, _ => none
    | _ => none
  | .mapUpdate t m k v => match P.underlying t with
    | some (.map kt _) => match keyKd P kt, opnd st m, opnd st k, opnd st v with
      | some kd, some (.sv (.one (.map x))), some (.sv (.one key)), some (.sv vs) => if keyOK kd key then match fHp st.mem x with
        | some (p, .hp h vers tags links) => some ⟨({ st with mem := st.mem.set p (.hp st.nv (h :: vers) tags links), nv := st.nv + 1 } : St).put dst none, .pre (.mset st.nv h x kd key vs), some (.mset st.nv h x kd key vs)⟩
        | _ => none
        else none
      | _, _, _, _ => none
    | _ => none
  | .call { callee := .builtin .clear, args, argTypes } => match args.toList, argTypes.toList with
    | [m], [t] => match P.underlying t, opnd st m with
      | some (.map _ _), some (.sv (.one (.map x))) => match fHp st.mem x with
        | some (p, .hp h vers tags links) => some ⟨({ st with mem := st.mem.set p (.hp st.nv (h :: vers) tags links), nv := st.nv + 1 } : St).put dst none, .pre (.mclr st.nv h x), some (.mclr st.nv h x)⟩
        | _ => none
      | _, _ => none
    | _, _ => none
  | _ => none

/-- What is copied: where it comes from, index by index of what it is copied to. -/
def copySrc (P : Program) (mem : Mem) (el : TypeId) (p L : Nat) (yd n xs ys ls : E) : Option (E × (Nat → Option CV)) :=
  match (match xs with | .var bs => fBlk mem bs | _ => none) with
  | some (q, m, _) =>
    if q = p then none else
    if yd = ys ∧ m.length = L then some (.tt, fun j => m[j]?)
    else match yd, ys with
      | .lit o, .lit o' => if 0 ≤ o ∧ 0 ≤ o' then some (mkLe (mkAdd (.lit o') n) (.lit m.length), fun j => if o.toNat ≤ j then m[j - o.toNat + o'.toNat]? else none) else none
      | _, _ => none
  | none => match yd, (fHp mem xs).bind (fun r => r.2.hk) with
    | .lit o, some h => if 0 ≤ o ∧ isU8 P el = true then some (mkOr (mkAnd (mkEq xs (.lit (-1))) (mkEq ls (.lit 0))) (mkAnd (mkLe (.lit 0) xs) (mkAnd (mkLe (.lit 0) ys) (.hby h xs ys n))), fun j => if o.toNat ≤ j then some (.int .u8 (.hI h xs ys (j - o.toNat))) else none) else none
    | _, _ => none
/-- Cells behind what there is room for stay. -/
def copyCut (yd ld : E) (src : Nat → Option CV) (j : Nat) : Option CV := match yd, ld with
  | .lit o, .lit l => if (j : Int) < o + l then src j else none
  | _, _ => src j
def copyIn (yd n : E) (j : Nat) : E := mkAnd (mkLe yd (.lit j)) (mkLt (.lit j) (mkAdd yd n))
def copyCell (c : E) (src : Option CV) (old : CV) : Option CV :=
  match src with
  | none => some old
  | some s => if s.cellB = true then (if c = .tt then some s else if c = .ff then some old else mergeCV c s old) else none
def copyL (yd n : E) (src : Nat → Option CV) : Nat → List CV → Option (List CV)
  | _, [] => some []
  | j, c :: l => match copyCell (copyIn yd n j) (src j) c, copyL yd n src (j + 1) l with
    | some x, some r => some (x :: r)
    | _, _ => none
def copyE (P : Program) (st : St) (t : TypeId) (a b : TV) (dst : Option Tmp) : Option XR :=
  match P.underlying t with
  | some (.slice el) => if sizeT P el = some 1 then match a, b with
    | .sv (.one (.sl (.var ad) yd ld _)), .sv (.one (.sl xs ys ls _)) => match fBlk st.mem ad with
      | some (p, l, T) =>
        let n := mkIte (mkLt ls ld) ls ld
        match copySrc P st.mem el p l.length yd n xs ys ls with
        | some (k, src) => match copyL yd n (copyCut yd ld src) 0 l with
          | some l' => some ⟨({ st with mem := st.mem.set p (.blk ad l' T) } : St).put dst (some (TI .i64 n)), ndE (mkAnd k (mkAnd (mkLe (.lit 0) yd) (mkAnd (mkLe (.lit 0) ld) (mkAnd (mkLe (.lit 0) ls) (mkLe (mkAdd yd n) (.lit l.length)))))), none⟩
          | none => none
        | none => none
      | none => none
    | _, _ => none
    else none
  | _ => none
/-- A constant's bytes: their row is marked behind its last cell. -/
def cbsE (P : Program) (st : St) (s d : TypeId) (x : TV) (dst : Option Tmp) : Option XR :=
  if s = d then match P.underlying s with
    | some (.slice el) => if isU8 P el = true ∧ x.upto st.nv = true then match x with
      | .sv (.one (.sl (.var a) y l c)) => match fBlk st.mem a with
        | some (p, cs, T) => some ⟨({ st with mem := st.mem.set p (.hp st.nv [] [.var a] []), nv := st.nv + 1 } : St).put dst (some (.sv (.one (.sl (.var a) y l c)))), .tt, some (.cbs st.nv a cs T)⟩
        | none => none
      | _ => none
      else none
    | _ => none
  else none
def extE (P : Program) (Γ : List Spec) (st : St) (o : Oper) : Option XR :=
  if st.upto st.nv = true then
    match o.op with
    | .alloc t => match zeroT P t with
      | some z => newBlk st (z.cells.toList.map liftC) t o.dst (TP (.var st.nv) (.lit 0))
      | none => none
    | .box t x => match opnd st x with
      | some (.sv v) => if v.cells.all CV.cellB = true then newBlk st v.cells t o.dst (TP (.var st.nv) (.lit 0)) else none
      | _ => none
    | .store t p x => match opnd st p, opnd st x with
      | some (.sv (.one pv)), some (.sv v) => match storeE P st t pv v with
        | some (.inl (n, mem)) => some ⟨({ st with mem := mem } : St).put o.dst none, ndE n, none⟩
        | some (.inr (x, mem)) => some ⟨({ st with mem := mem, nv := st.nv + 1 } : St).put o.dst none, .pre x, some x⟩
        | none => none
      | _, _ => none
    | .makeSlice t l c => match opnd st l, opnd st c with
      | some a, some b => makeE P st t a b o.dst
      | _, _ => none
    | .buildSlice t len parts => match opnds st (parts.toList.map (·.2)) with
      | some vs => bslE P st t len (parts.toList.map (·.1)) vs o.dst
      | none => none
    | .call { callee := .builtin .append, args, argTypes } => match args.toList, argTypes.toList with
      | [a, b], [t, t'] => if t = t' then match opnd st a, opnd st b with
        | some x, some y => appE P st t x y o.dst
        | _, _ => none
        else none
      | _, _ => none
    | .call { callee := .builtin .copy, args, argTypes } => match args.toList, argTypes.toList with
      | [a, b], [t, _] => match opnd st a, opnd st b with
        | some x, some y => copyE P st t x y o.dst
        | _, _ => none
      | _, _ => none
    | .convert s d x => match opnd st x with
      | some x => cbsE P st s d x o.dst
      | none => none
    | .makeMap t none => mapE P st (.makeMap t none) o.dst
    | .lookup t m k ok => mapE P st (.lookup t m k ok) o.dst
    | .mapUpdate t m k v => mapE P st (.mapUpdate t m k v) o.dst
    | .call { callee := .builtin .clear, args, argTypes } => mapE P st (.call { callee := .builtin .clear, args, argTypes }) o.dst
    | .call { callee := .value c, args, argTypes := _ } => match calleeOf st c, opnds st args.toList with
      | some f, some vs => if enterB P f then callE Γ st f vs o.dst else none
      | _, _ => none
    | _ => none
  else none

/-! ### Pieces that become one -/
/-- What an operation puts into a piece's block. -/
def mrgT (P : Program) (st : St) (o : Oper) : Option (E × List CV) :=
  match o.op with
  | .call { callee := .builtin .append, args, argTypes } => match args.toList, argTypes.toList with
    | [a, b], [t, _] => match P.underlying t with
      | some (.slice el) => match P.info? el, opnd st a, opnd st b with
        | some i, some (.sv (.one (.sl x _ _ _))), some y => match srcOf st.mem i.size y with
          | some (.cvs l _, _) => some (x, l)
          | _ => none
        | _, _, _ => none
      | _ => none
    | _, _ => none
  | .store _ p x => match opnd st p, opnd st x with
    | some (.sv (.one (.hptr x _))), some (.sv v) => some (x, v.cells)
    | _, _ => none
  | _ => none
def mrgQ (mem : Mem) (p : Nat) : List CV → Option (E × Nat × Res)
  | [] => none
  | c :: l => match (rootCV c).bind (fun y => (posOf mem y).map fun r => (y, r)) with
    | some (y, q, r) => if r.own = true ∧ q ≠ p then some (y, q, r) else mrgQ mem p l
    | none => mrgQ mem p l
def Res.ks : Res → List Nat
  | .hp k vers _ _ => k :: vers
  | _ => []
def Res.tagL : Res → List E
  | .hp _ _ tags _ => tags
  | _ => []
/-- A piece whose pointer is put into another one becomes a part of that one. -/
def mrgOf (P : Program) (st : St) (o : Oper) : Option (St × X) :=
  match mrgT P st o with
  | some (x, l) => match posOf st.mem x with
    | some (p, .hp k vers tags links) => match mrgQ st.mem p l with
      | some (y, q, r) => if st.upto st.nv = true then some ({ st with mem := (st.mem.set p (.hp st.nv (k :: r.ks ++ vers) (tags ++ y :: r.tagL) links)).set q .dead, nv := st.nv + 1 }, .mrg st.nv (.hp k vers tags links) r) else none
      | none => none
    | _ => none
  | none => none
end Go.Sx

namespace Go.Sx
open Go

section
variable {P : Program} {C : Ctx} {ms : Nat → Nat} {S : Nat → Prop} {w0 : World} {ρ ρ' : Env} {st : St} {mem mem' : Mem} {a : Act} {w w' : World}

theorem Rel.step (hA : Rel S w0 ρ st a w) (hu : st.upto st.nv = true) (hg : Agree st.nv ρ ρ') (hm : MRel S w0 ρ' mem' w') (nv : Nat) (d : Option Tmp) (v : Option TV) (x : Value) (hx : ∀ y, v = some y → x = y.ev ρ') :
    Rel S w0 ρ' (({ st with mem := mem', nv := nv } : St).put d v) (a.put d x) w' :=
  Rel.put (Rel.tmps_agree hg hu hA hm nv) d v x hx

theorem St.upto_mem {n : Nat} (h : st.upto n = true) : Mem.upto n st.mem = true := by
  simp only [St.upto, Bool.and_eq_true] at h; exact h.1.2

/-- What 'the operation comes to its end' means. -/
def Fin (S : Nat → Prop) (w0 : World) (C : Ctx) (ρ : Env) (st : St) (a : Act) (d : Option Tmp) (R : XR) (K : Act → World → Prop) : Prop :=
  ∀ ρ' x w', Agree st.nv ρ ρ' → (match R.x with | some y => y.rel C ρ ρ' ∧ y.n = st.nv | none => ρ' = ρ) → Rel S w0 ρ' R.st (a.put d x) w' → K (a.put d x) w'

theorem wp_value {o : Oper} {K : Act → World → Prop} {Q : Exit → Act → World → Prop} {v : Value} (h : (execOp a.eval o).run P w = .ok (.value v) w') (hK : K (a.put o.dst v) w') : o.wp P a w K Q := by
  unfold Oper.wp; rw [h]; exact hK
theorem wp_skip' {o : Oper} {K : Act → World → Prop} {Q : Exit → Act → World → Prop} (h : (execOp a.eval o).run P w = .ok .skip w') (hK : K (a.put o.dst undef) w') : o.wp P a w K Q := by
  unfold Oper.wp; rw [h]; exact hK

/-! ### A new block -/
theorem newBlk_sound {l : List CV} {T : TypeId} {d : Option Tmp} {v : TV} {R : XR} {K : Act → World → Prop} (h : newBlk st l T d v = some R) (hu : st.upto st.nv = true) (hA : Rel S w0 ρ st a w) (hK : Fin S w0 C ρ st a d R K)
    {cs : Array Value} (hc : cs = (l.map (CV.ev ρ)).toArray) {x : Value} (hx : ∀ ρ', Agree st.nv ρ ρ' → ρ'.i st.nv = w.heap.size → x = v.ev ρ') : K (a.put d x) (w.alloc (.cells cs T)) := by
  unfold newBlk at h
  split at h
  · rename_i hl
    cases h
    let ρ' := ρ.setI st.nv w.heap.size
    have hg : Agree st.nv ρ ρ' := agree_setI _ _ _ (Nat.le_refl _)
    have hi : ρ'.i st.nv = w.heap.size := setI_i _ _ _
    refine hK ρ' x _ hg ⟨show 0 ≤ ρ'.i st.nv by rw [hi]; omega, rfl⟩ (Rel.step hA hu hg ?_ _ _ _ _ (fun y hy => by cases hy; exact hx ρ' hg hi))
    refine hA.toMRel.add rfl rfl rfl (by simp) (fun b hb => RowKit.Below.heap_alloc w _ b hb) (Mem.agree hg (St.upto_mem hu)) ?_ (by show 0 ≤ ρ'.i st.nv; rw [hi]; omega) ?_
    · intro b o hb
      obtain ⟨rfl, rfl⟩ := Hl.one_eq hb
      rw [hi, Int.toNat_natCast, CV.agreeL hg l hl, hc]
      exact heap_alloc_new w _
    · intro b hb
      rw [show b = (ρ'.i st.nv).toNat from Hl.one_mem.1 hb, hi, Int.toNat_natCast]
      exact Nat.le_refl _
  · cases h

/-! ### A store -/
theorem set_same {α : Type} : ∀ (l : List α) (k : Nat) (x : α), l[k]? = some x → l.set k x = l
  | [], _, _, _ => rfl
  | y :: l, 0, x, h => by simp at h; simp [h]
  | y :: l, k + 1, x, h => by simp at h; simp [set_same l k x h]
theorem updSel_sound {l : List CV} {o s : Nat} {i : E} {c : CV} (h0 : 0 ≤ iev ρ i) : ∀ (m : Nat) (l' : List CV), storeE.updSel l o s i c m = some l' →
    l'.length = l.length ∧ l'.map (CV.ev ρ) = if iev ρ i < m then (l.map (CV.ev ρ)).set (o + s * (iev ρ i).toNat) (c.ev ρ) else l.map (CV.ev ρ)
  | 0, l', h => by
    cases h
    refine ⟨rfl, ?_⟩
    rw [if_neg (by simpa using h0)]
  | m + 1, l', h => by
    simp only [storeE.updSel] at h
    split at h
    · rename_i l1 h1
      split at h
      · rename_i old hold
        split at h
        · rename_i v hv
          cases h
          obtain ⟨e1, e2⟩ := updSel_sound h0 m l1 h1
          refine ⟨by simp [e1], ?_⟩
          have hm := mergeCV_ev (ρ := ρ) hv
          rw [bev_mkEq, iev_lit] at hm
          rw [List.map_set]
          by_cases hc : iev ρ i = (m : Int)
          · have e3 : (iev ρ i).toNat = m := by omega
            rw [if_neg (by omega)] at e2
            rw [if_pos (show iev ρ i < ((m + 1 : Nat) : Int) by omega), e3, e2, hm, if_pos (by simpa using hc)]
          · rw [if_neg (by simpa using hc)] at hm
            rw [hm, set_same _ _ _ (show (l1.map (CV.ev ρ))[o + s * m]? = some (old.ev ρ) by simp [hold]), e2]
            by_cases hi : iev ρ i < m
            · rw [if_pos hi, if_pos (by omega)]
            · rw [if_neg hi, if_neg (by omega)]
        · cases h
      · cases h
    · cases h

theorem MRel.setBlk (h : MRel S w0 ρ mem w) {p b : Nat} {l l' : List CV} {T : TypeId} (hp : mem[p]? = some (.blk b l T)) {cs : Array Value} (hc : cs = (l'.map (CV.ev ρ)).toArray) :
    MRel S w0 ρ (mem.set p (.blk b l' T)) (w.setRow (ρ.i b).toNat cs) := by
  refine h.set hp rfl rfl rfl rfl (by simp) (fun c _ hn => setRow_other w _ c _ (fun e => hn (Hl.one_mem.2 e))) (fun s _ => ⟨rfl, id⟩) ?_ (show 0 ≤ ρ.i b from h.pos _ (List.mem_of_getElem? hp)) ?_
  · intro c o hc'
    obtain ⟨rfl, rfl⟩ := Hl.one_eq hc'
    rw [hc]
    exact setRow_heap w _ _ _ T _ (h.blk hp)
  · intro c hc'
    exact Or.inl (Hl.one_mem.2 (Hl.one_mem.1 hc'))

theorem storeVar_cells {t : TypeId} {b o : Nat} {v : SV} {l : List CV} {T : TypeId} (hs : sizeT P t = some v.cells.length) (h1 : v.cells.all CV.cellB = true) (hle : o + v.cells.length ≤ l.length)
    (hb : w.heap[b]? = some (.cells (l.map (CV.ev ρ)).toArray T (0, 0))) :
    (storeVar t ⟨b, o, none⟩ (v.ev ρ)).run P w = .ok () (w.setRow b ((splice l o v.cells).map (CV.ev ρ)).toArray) := by
  unfold storeVar
  have hcs := SV.cells_ev (ρ := ρ) v h1
  have hsz : (v.ev ρ).cells.size = v.cells.length := by rw [← Array.length_toList, hcs]; simp
  simp only [Sem.run_bind, sizeT_run hs, Result.andThen_ok, hsz, ne_eq, not_true_eq_false, if_false]
  rw [hcs]
  have := run_storeCells_at (P := P) b o T (v.cells.map (CV.ev ρ)) 0 (l.map (CV.ev ρ)).toArray w hb (by simp; omega)
    (fun x hx => by
      obtain ⟨c, hc, rfl⟩ := List.mem_map.1 hx
      exact CV.cell_one c (List.all_eq_true.1 h1 c hc))
  simp only [Nat.add_zero] at this
  simp only [this]
  congr 2
  simp [splice, List.map_append, List.map_take, List.map_drop]

theorem storeE_inl (hA : MRel S w0 ρ st.mem w) {t : TypeId} {p : CV} {v : SV} {k : E} (h : storeE P st t p v = some (.inl (k, mem'))) (hk : bev ρ k = true) :
    ∃ q w', p.ev ρ = .pointer (some q) ∧ (storeVar t q (v.ev ρ)).run P w = .ok () w' ∧ MRel S w0 ρ mem' w' := by
  unfold storeE at h
  split at h
  · rename_i b o s m i
    split at h
    · rename_i q l T c hb
      split at h
      · rename_i hc
        simp only [Option.map_eq_some_iff, Sum.inl.injEq, Prod.mk.injEq] at h
        obtain ⟨l', hl', rfl, rfl⟩ := h
        obtain ⟨h0, h1⟩ := inB_sound hk
        obtain ⟨e1, e2⟩ := updSel_sound (c := c) h0 m l' hl'
        rw [if_pos h1] at e2
        have hlt := hc.2.2 (iev ρ i).toNat (by omega)
        have hp := fBlk_sound hb
        have hpos : 0 ≤ ρ.i b := hA.pos _ (List.mem_of_getElem? hp)
        refine ⟨_, _, by simp only [CV.ev]; rw [pti_nat h0, slP_pos hpos, Int.toNat_natCast], storeVar_cells (v := .one c) hc.1 (by simp [SV.cells, hc.2.1]) (by simp only [SV.cells, List.length_singleton]; omega) (hA.blk hp), ?_⟩
        refine hA.setBlk hp ?_
        rw [e2]
        simp only [splice, SV.cells, List.map_append, List.map_take, List.map_drop, List.map_cons, List.map_nil, List.length_singleton]
        rw [List.set_eq_take_append_cons_drop, if_pos (by simpa using hlt)]
        simp
      · cases h
    · cases h
  · rename_i x y
    split at h
    · rename_i hc
      split at h
      · rename_i b q l T o hk0
        obtain ⟨rfl, rfl, hp⟩ := knownP_sound hk0
        split at h
        · rename_i hle
          cases h
          have hpos : 0 ≤ ρ.i b := hA.pos _ (List.mem_of_getElem? hp)
          exact ⟨_, _, by simp only [CV.ev, iev_var, iev_lit]; rw [slP_pos hpos, Int.toNat_natCast], storeVar_cells hc.1 hc.2 hle (hA.blk hp), hA.setBlk hp rfl⟩
        · cases h
      · split at h <;> cases h
    · cases h
  · cases h

theorem storeE_inr (hA : Rel S w0 ρ st a w) (hu : st.upto st.nv = true) {t : TypeId} {p : CV} {v : SV} {x : X} (h : storeE P st t p v = some (.inr (x, mem'))) (hk : x.pre C ρ) :
    ∃ q w' ρ', p.ev ρ = .pointer (some q) ∧ (storeVar t q (v.ev ρ)).run P w = .ok () w' ∧ Agree st.nv ρ ρ' ∧ x.rel C ρ ρ' ∧ x.n = st.nv ∧ MRel S w0 ρ' mem' w' := by
  unfold storeE at h
  split at h
  · split at h
    · split at h
      · simp at h
      · cases h
    · cases h
  · rename_i x y
    split at h
    · rename_i hc
      split at h
      · split at h <;> cases h
      · split at h
        · rename_i q k vers tags links hf
          cases h
          have hp := fHp_sound hf
          obtain ⟨hx, hy, hw⟩ := hk
          have hsub : (ρ.h k).sub w := hA.sub _ (List.mem_of_getElem? hp)
          have hcs := SV.cells_ev (ρ := ρ) v hc.2
          obtain ⟨cs, hrun, hsub'⟩ := store_hl (P := P) hsub (t := t) (vs := v.cells.map (CV.ev ρ)) (by simpa using hc.1) hcs
            (fun u hu => by obtain ⟨c, hcm, rfl⟩ := List.mem_map.1 hu; exact CV.cell_one c (List.all_eq_true.1 hc.2 c hcm)) (by simpa using hw)
          let H' := (ρ.h k).put (iev ρ x).toNat (iev ρ y).toNat (v.cells.map (CV.ev ρ))
          let ρ' := ρ.setH st.nv H'
          have hg : Agree st.nv ρ ρ' := agree_setH _ _ _ (Nat.le_refl _)
          have hh : ρ'.h st.nv = H' := setH_h _ _ _
          refine ⟨_, _, ρ', by simp only [CV.ev]; rw [slP_pos hx], hrun, hg, hh, rfl, ?_⟩
          have hxm : (ρ.h k).mem (iev ρ x).toNat := by
            obtain ⟨c, T, fr, hx', _⟩ := wr_cells hw
            unfold Hl.mem; rw [hx']; rfl
          refine hA.toMRel.set hp rfl rfl rfl rfl (by simp) (fun b _ hn => setRow_other w _ b _ (fun e => hn (by subst e; exact hxm))) (Mem.agree hg (St.upto_mem hu)) ?_ trivial ?_
          · show (ρ'.h st.nv).sub _
            rw [hh]; exact hsub'
          · intro b hb
            have hb : (ρ'.h st.nv).mem b := hb
            rw [hh] at hb
            exact Or.inl (Hl.put_mem.1 hb)
        · cases h
    · cases h
  · cases h
end
end Go.Sx

namespace Go.Sx
open Go

section
variable {P : Program} {C : Ctx} {ms : Nat → Nat} {S : Nat → Prop} {w0 : World} {ρ ρ' : Env} {st : St} {mem mem' : Mem} {a : Act} {w w' : World}

theorem madeCVs_ev {z : List CV} {zs : List Value} (hz : z.map (CV.ev ρ) = zs) (hp : 0 < zs.length) (n : Nat) : (madeCVs z n).map (CV.ev ρ) = (madeCells zs.toArray n).toList := by
  have hlen : z.length = zs.length := by rw [← hz]; simp
  unfold madeCVs madeCells
  simp only [List.map_map, Array.toList_map, Array.toList_range]
  refine List.map_congr_left fun j _ => ?_
  simp only [Function.comp, List.size_toArray]
  have hlt : j % z.length < z.length := Nat.mod_lt _ (by omega)
  rw [List.getD_eq_getElem?_getD, List.getElem?_eq_getElem hlt, Option.getD_some]
  have h2 : zs[j % zs.length]? = some ((z[j % z.length]).ev ρ) := by
    rw [← hz, List.getElem?_map, List.length_map, List.getElem?_eq_getElem hlt]; rfl
  rw [getElem!_def]
  simp [h2]

theorem srcOf_sound (hm : MRel S w0 ρ mem w) {size : Nat} {t : TV} {src : Src} {le : E} (h : srcOf mem size t = some (src, le)) (hok : src.ok ρ size) :
    SrcAt w (t.ev ρ) (src.len ρ) (src.vals ρ size) ∧ (src.vals ρ size).length = src.len ρ * size ∧ (∀ u ∈ src.vals ρ size, u.oneCell' = true) ∧ iev ρ le = src.len ρ := by
  unfold srcOf at h
  split at h
  · rename_i x y l c
    split at h
    · rename_i hx
      split at h
      · rename_i hc
        cases h
        obtain ⟨rfl, rfl, rfl⟩ := hc
        subst hx
        exact ⟨Or.inr ⟨⟨_, rfl⟩, rfl, rfl⟩, by simp [Src.vals, Src.len], by simp [Src.vals], rfl⟩
      · cases h
    · split at h
      · rename_i a p cs T o m hk0
        obtain ⟨rfl, rfl, hp⟩ := knownP_sound hk0
        split at h
        · rename_i hc
          cases h
          have hpos : 0 ≤ ρ.i a := hm.pos _ (List.mem_of_getElem? hp)
          refine ⟨Or.inl ⟨⟨(ρ.i a).toNat, o, none⟩, (iev ρ c).toNat, ?_, ?_⟩, ?_, ?_, ?_⟩
          · simp only [TV.ev, SV.ev, CV.ev, iev_var, iev_lit, Src.len]
            rw [slP_pos hpos, Int.toNat_natCast]
          · intro j u hu
            rw [addr_add]
            simp only [Src.vals, List.getElem?_map, List.getElem?_take] at hu
            simp only [World.cell?, hm.blk hp]
            split at hu
            · rw [List.getElem?_drop] at hu; simpa using hu
            · simp at hu
          · simp only [Src.vals, Src.len, List.length_map, List.length_take, List.length_drop]; omega
          · intro u hu
            simp only [Src.vals] at hu
            obtain ⟨q, hq, rfl⟩ := List.mem_map.1 hu
            exact CV.cell_one q (List.all_eq_true.1 hc.2.2 q hq)
          · simp only [iev_lit, Src.len]; omega
        · cases h
      · split at h
        · rename_i l _ _ _ _ k hk
          have hsub := fHp_hk hm hk
          obtain ⟨e1, e2⟩ : Src.seg k x y l = src ∧ l = le := by simpa using h
          subst e1; subst e2
          rcases hok with ⟨hx, hy, hl, hj⟩ | hl
          · refine ⟨Or.inl ⟨⟨(iev ρ x).toNat, (iev ρ y).toNat, none⟩, (iev ρ c).toNat, ?_, ?_⟩, ?_, ?_, ?_⟩
            · simp only [TV.ev, SV.ev, CV.ev, Src.len]
              rw [slP_pos hx]
            · intro j u hu
              rw [addr_add]
              simp only [Src.vals, segVals, List.getElem?_map] at hu
              by_cases hlt : j < (iev ρ l).toNat * size
              · rw [List.getElem?_range hlt] at hu
                simp only [Option.map_some, Option.some.injEq] at hu
                obtain ⟨v, hv, _⟩ := hj j hlt
                rw [hv, Option.getD_some] at hu
                subst hu
                exact Hl.sub_cell hsub hv
              · rw [List.getElem?_eq_none (by simp; omega)] at hu; cases hu
            · simp [Src.vals, Src.len, segVals]
            · intro u hu
              simp only [Src.vals, segVals] at hu
              obtain ⟨j, hj', rfl⟩ := List.mem_map.1 hu
              obtain ⟨v, hv, h1⟩ := hj j (List.mem_range.1 hj')
              rw [hv]; exact h1
            · simp only [Src.len]; omega
          · refine ⟨?_, ?_, ?_, ?_⟩
            · cases hp : slP (iev ρ x) (iev ρ y) with
              | none =>
                refine Or.inr ⟨⟨(iev ρ c).toNat, ?_⟩, ?_, ?_⟩
                · simp only [TV.ev, SV.ev, CV.ev, hp, hl]; rfl
                · simp [Src.len, hl]
                · simp [Src.vals, segVals, hl]
              | some a0 =>
                refine Or.inl ⟨a0, (iev ρ c).toNat, ?_, ?_⟩
                · simp only [TV.ev, SV.ev, CV.ev, hp, Src.len]
                · intro j u hu
                  simp [Src.vals, segVals, hl] at hu
            · simp [Src.vals, Src.len, segVals, hl]
            · simp [Src.vals, segVals, hl]
            · simp [Src.len, hl]
        · cases h
  · cases h


theorem appE_sound (hA : Rel S w0 ρ st a w) (hu : st.upto st.nv = true) {t : TypeId} {x y : TV} {d : Option Tmp} {R : XR} {ty : TypeId} (h : appE P st t x y d = some R) (hn : R.need.holds C ms ρ)
    {K : Act → World → Prop} (hK : Fin S w0 C ρ st a d R K) : ∃ v' w', (Builtin.append_ #[t, t] ty #[x.ev ρ, y.ev ρ]).run P w = .ok v' w' ∧ K (a.put d v') w' := by
  unfold appE at h
  split at h
  · rename_i el ht
    split at h
    · rename_i i hi
      split at h
      · rename_i z hz
        split at h
        · rename_i hzs
          split at h
          · rename_i sx sy sl sc src le hsrc
            split at h
            · rename_i hup
              simp only [Bool.and_eq_true] at hup
              simp only at h
              -- what is common to all ends
              have fin : ∀ (mem' : Mem) (H : Res) (Hw : (H.hl ρ).sub w) (R' : XR), R' = ⟨({ st with mem := mem', nv := st.nv + 2 } : St).put d (some (.sv (.one (.sl (.var st.nv) (.lit 0) (mkAdd sl le) (.var (st.nv + 1)))))), .pre (.app st.nv el i.size i.bytes (.sl sx sy sl sc) sl H src), some (.app st.nv el i.size i.bytes (.sl sx sy sl sc) sl H src)⟩ →
                  R'.need.holds C ms ρ → Fin S w0 C ρ st a d R' K →
                  (∀ w' (H' : Hl) ρ', w.grownBy w' (CV.ev ρ (.sl sx sy sl sc)).ownBlock → Agree st.nv ρ ρ' → H'.sub w' → ρ'.h st.nv = H' → (∀ b, H'.mem b → (H.hl ρ).mem b ∨ w.heap.size ≤ b) → (∀ b, (CV.ev ρ (.sl sx sy sl sc)).ownBlock = some b → (H.hl ρ).mem b) → MRel S w0 ρ' mem' w') →
                  ∃ v' w', (Builtin.append_ #[t, t] ty #[TV.ev ρ (.sv (.one (.sl sx sy sl sc))), y.ev ρ]).run P w = .ok v' w' ∧ K (a.put d v') w' := by
                intro mem' H Hw R' hR' hn hK hmem
                subst hR'
                obtain ⟨⟨xs, hown⟩, hl0, hok, h63, hby⟩ := hn
                obtain ⟨s1, s2, s3, s4⟩ := srcOf_sound hA.toMRel hsrc hok
                obtain ⟨v', w', H', hr, o1, o2, o3, o4, o5, o6⟩ := append_own (P := P) (ty := ty) Hw ht hi hz rfl rfl hzs.1 hzs.2 hown s2 s1 s3 h63 hby
                obtain ⟨x', c', hv', hx1, hc1⟩ : ∃ x' c' : Int, v' = .slice (slP x' 0) ((iev ρ sl).toNat + src.len ρ) c'.toNat ∧ -1 ≤ x' ∧ 0 ≤ c' := by
                  rcases o1.2 with ⟨rfl, h0⟩ | ⟨g, cap, cur, rfl, _⟩
                  · exact ⟨-1, 0, by rw [h0]; rfl, by omega, by omega⟩
                  · exact ⟨g, cap, by rw [slP_pos (by omega)]; simp, by omega, by omega⟩
                subst hv'
                let ρ' := ((ρ.setI st.nv x').setI (st.nv + 1) c').setH st.nv H'
                have hg : Agree st.nv ρ ρ' := ((agree_setI _ _ _ (Nat.le_refl _)).trans (agree_setI _ _ _ (by omega))).trans (agree_setH _ _ _ (Nat.le_refl _))
                have e1 : ρ'.i st.nv = x' := by show ((ρ.setI st.nv x').setI (st.nv + 1) c').i st.nv = x'; rw [setI_ne _ _ _ _ (by omega), setI_i]
                have e2 : ρ'.i (st.nv + 1) = c' := by show ((ρ.setI st.nv x').setI (st.nv + 1) c').i (st.nv + 1) = c'; rw [setI_i]
                have e3 : ρ'.h st.nv = H' := setH_h _ _ _
                have hob : ∀ b, (CV.ev ρ (.sl sx sy sl sc)).ownBlock = some b → (H.hl ρ).mem b := by
                  intro b hb
                  simp only [SV.ev, CV.ev] at hown hb
                  rcases hown.2 with ⟨hq, _⟩ | ⟨g, cap, cur, hq, hgg, _⟩
                  · rw [hq] at hb; cases hb
                  · rw [hq] at hb; cases hb; unfold Hl.mem; rw [hgg]; rfl
                refine ⟨_, w', hr, hK ρ' _ w' hg ⟨⟨by rw [e1]; exact hx1, by rw [e2]; exact hc1, ?_, ?_, ?_, ?_⟩, rfl⟩ (Rel.step hA hu hg (hmem w' H' ρ' o3 hg o2 e3 (fun b hb => (o5 b hb).imp id And.right) hob) _ _ _ _ ?_)⟩
                · intro xs' hxs'
                  have : xs' = xs := by
                    rcases hown.2 with ⟨hq, h0⟩ | ⟨g, cap, cur, hq, hgg, _, _, _, ht⟩
                    · have a1 := hown.1; have a2 := hxs'.1
                      rw [h0] at a1 a2
                      have b1 : xs = [] := List.eq_nil_of_length_eq_zero (by simpa using a1)
                      have b2 : xs' = [] := List.eq_nil_of_length_eq_zero (by simpa using a2)
                      rw [b1, b2]
                    · rcases hxs'.2 with ⟨hq', h0⟩ | ⟨g', cap', cur', hq', hgg', _, _, _, ht'⟩
                      · rw [hq] at hq'; cases hq'
                      · rw [hq] at hq'; cases hq'
                        rw [hgg] at hgg'; cases hgg'
                        rw [← ht, ← ht']
                  subst this
                  rw [e1, e2, e3]
                  exact o1
                · intro b hb hne
                  rw [e3]; exact o4 b hb hne
                · intro b hb
                  rw [e3] at hb
                  rcases o5 b hb with h | ⟨h, _⟩
                  · exact Or.inl h
                  · right
                    rw [e1]
                    by_cases hx : 0 ≤ x'
                    · rw [slP_pos hx] at h; simp only [Value.ownBlock, Option.some.injEq] at h; exact ⟨h.symm, hx⟩
                    · have : x' = -1 := by omega
                      rw [this] at h; cases h
                · rw [e1]
                  by_cases hx : 0 ≤ x'
                  · rcases o6 with h | ⟨b, hb, hl⟩
                    · left; rw [← h, slP_pos hx]; rfl
                    · right; left
                      rw [slP_pos hx] at hb; simp only [Value.ownBlock, Option.some.injEq] at hb
                      intro hm; have := Hl.sub_lt Hw hm; omega
                  · right; right; omega
                · intro u hu'
                  cases hu'
                  simp only [TV.ev, SV.ev, CV.ev, iev_var, iev_lit, e1, e2, iev_mkAdd, iev_agree hg hup.1, iev_agree hg hup.2, s4]
                  congr 1
                  omega
              split at h
              · rename_i hx
                split at h
                · cases h
                  refine fin _ .dead (fun b o hb => by cases hb) _ rfl hn hK ?_
                  intro w' H' ρ' hgr hg hs he hd hob
                  have hown : (CV.ev ρ (.sl sx sy sl sc)).ownBlock = none := by
                    cases hb : (CV.ev ρ (.sl sx sy sl sc)).ownBlock with
                    | none => rfl
                    | some b => have := hob b hb; cases this
                  rw [hown] at hgr
                  refine hA.toMRel.add hgr.os hgr.tape hgr.output hgr.size (fun b hb => hgr.block b hb (by simp)) (Mem.agree hg (St.upto_mem hu)) (by show (ρ'.h st.nv).sub w'; rw [he]; exact hs) trivial ?_
                  intro b hb
                  have hb : (ρ'.h st.nv).mem b := hb
                  rw [he] at hb
                  rcases hd b hb with h | h
                  · cases h
                  · exact h
                · cases h
              · split at h
                · rename_i p k vers tags links hp
                  cases h
                  have hp := posOf_sound hp
                  refine fin _ (.hp k vers tags links) (hA.sub _ (List.mem_of_getElem? hp)) _ rfl hn hK ?_
                  intro w' H' ρ' hgr hg hs he hd hob
                  refine hA.toMRel.set hp rfl hgr.os hgr.tape hgr.output hgr.size (fun b hb hnm => hgr.block b hb (fun e => hnm (hob b e.symm))) (Mem.agree hg (St.upto_mem hu)) (by show (ρ'.h st.nv).sub w'; rw [he]; exact hs) trivial ?_
                  intro b hb
                  have hb : (ρ'.h st.nv).mem b := hb
                  rw [he] at hb
                  exact hd b hb
                · rename_i p b cells T hp
                  split at h
                  · rename_i o l c
                    split at h
                    · cases h
                      have hp := posOf_sound hp
                      refine fin _ (.blk b cells T) (hA.sub _ (List.mem_of_getElem? hp)) _ rfl hn hK ?_
                      intro w' H' ρ' hgr hg hs he hd hob
                      refine hA.toMRel.set hp rfl hgr.os hgr.tape hgr.output hgr.size (fun b hb hnm => hgr.block b hb (fun e => hnm (hob b e.symm))) (Mem.agree hg (St.upto_mem hu)) (by show (ρ'.h st.nv).sub w'; rw [he]; exact hs) trivial ?_
                      intro b hb
                      have hb : (ρ'.h st.nv).mem b := hb
                      rw [he] at hb
                      exact hd b hb
                    · split at h
                      · rename_i hc
                        obtain ⟨c0, c1, c2, c3, rfl⟩ := hc
                        cases h
                        have hp := posOf_sound hp
                        obtain ⟨hok, hg1, h63, hby⟩ := hn
                        obtain ⟨s1, s2, s3, s4⟩ := srcOf_sound hA.toMRel hsrc hok
                        have hpos : 0 ≤ ρ.i b := hA.pos _ (List.mem_of_getElem? hp)
                        have hb := hA.toMRel.blk hp
                        obtain ⟨cp, ob, hr, ho⟩ := append_grow (P := P) (w := w) (ty := ty) ht hi hz rfl rfl hzs.1 (b := ⟨(ρ.i b).toNat, o.toNat, none⟩) (n := l.toNat) (cap := c.toNat) (olds := ((cells.drop o.toNat).take (l.toNat * i.size)).map (CV.ev ρ))
                          (by simp only [List.length_map, List.length_take, List.length_drop]; omega)
                          (fun j u hu' => by
                            rw [addr_add]
                            simp only [List.getElem?_map, List.getElem?_take] at hu'
                            simp only [World.cell?, hb]
                            split at hu'
                            · rw [List.getElem?_drop] at hu'; simpa using hu'
                            · simp at hu') s2 s1 hg1 (by omega) h63 hby
                        let ρ' := ((ρ.setI st.nv w.heap.size).setI (st.nv + 1) cp).setH st.nv (Hl.one w.heap.size ob)
                        have hg : Agree st.nv ρ ρ' := ((agree_setI _ _ _ (Nat.le_refl _)).trans (agree_setI _ _ _ (by omega))).trans (agree_setH _ _ _ (Nat.le_refl _))
                        have e1 : ρ'.i st.nv = w.heap.size := by show ((ρ.setI st.nv w.heap.size).setI (st.nv + 1) cp).i st.nv = _; rw [setI_ne _ _ _ _ (by omega), setI_i]
                        have e2 : ρ'.i (st.nv + 1) = cp := by show ((ρ.setI st.nv w.heap.size).setI (st.nv + 1) cp).i (st.nv + 1) = _; rw [setI_i]
                        have e3 : ρ'.h st.nv = Hl.one w.heap.size ob := setH_h _ _ _
                        refine ⟨_, _, ?_, hK ρ' (.slice (some ⟨w.heap.size, 0, none⟩) (l.toNat + src.len ρ) cp) (w.drew.alloc ob) hg ⟨⟨by rw [e1]; omega, by rw [e2]; omega, ?_, ?_⟩, rfl⟩ (Rel.step hA hu hg ?_ _ _ _ _ ?_)⟩
                        · simp only [TV.ev, SV.ev, CV.ev, iev_var, iev_lit]
                          have hoo : slP (ρ.i b) o = some ⟨(ρ.i b).toNat, o.toNat, none⟩ := slP_pos hpos
                          rw [hoo]; exact hr
                        · rw [e1, e2, e3, slP_pos (by omega)]
                          simpa using ho
                        · intro b' hb'
                          rw [e3] at hb'
                          rw [e1, Hl.one_mem.1 hb']; simp
                        · refine hA.toMRel.add rfl rfl rfl (by simp) (fun b' hb' => RowKit.Below.heap_alloc w.drew _ b' hb') (Mem.agree hg (St.upto_mem hu)) ?_ trivial ?_
                          · show (ρ'.h st.nv).sub _
                            rw [e3]
                            intro b' o' hb'
                            obtain ⟨rfl, rfl⟩ := Hl.one_eq hb'
                            exact heap_alloc_new w.drew _
                          · intro b' hb'
                            have hb' : (ρ'.h st.nv).mem b' := hb'
                            rw [e3] at hb'
                            rw [Hl.one_mem.1 hb']; exact Nat.le_refl _
                        · intro u hu'
                          cases hu'
                          simp only [TV.ev, SV.ev, CV.ev, iev_var, iev_lit, e1, e2, iev_mkAdd, iev_agree hg hup.2, s4]
                          rw [slP_pos (by omega)]
                          simp
                          omega
                      · cases h
                  · cases h
                · cases h
            · cases h
          · cases h
        · cases h
      · cases h
    · cases h
  · cases h
end
end Go.Sx

namespace Go.Sx
open Go

section
variable {P : Program} {C : Ctx} {ms : Nat → Nat} {S : Nat → Prop} {w0 : World} {ρ ρ' : Env} {st : St} {mem mem' : Mem} {a : Act} {w w' : World}

/-! ### A result's variables -/
def Env.shift (ρ r : Env) (n : Nat) (hs : Nat → Hl) : Env where
  i := fun k => if n ≤ k then r.i (k - n) else ρ.i k
  b := fun k => if n ≤ k then r.b (k - n) else ρ.b k
  s := fun k => if n ≤ k then r.s (k - n) else ρ.s k
  v := fun k => if n ≤ k then r.v (k - n) else ρ.v k
  h := fun k => if n ≤ k then hs (k - n) else ρ.h k
theorem shift_agree (ρ r : Env) (n : Nat) (hs : Nat → Hl) : Agree n ρ (ρ.shift r n hs) :=
  ⟨fun k hk => if_neg (by omega), fun k hk => if_neg (by omega), fun k hk => if_neg (by omega), fun k hk => if_neg (by omega), fun k hk => if_neg (by omega)⟩
theorem shift_h (ρ r : Env) (n : Nat) (hs : Nat → Hl) (k : Nat) : (ρ.shift r n hs).h (n + k) = hs k := by simp [Env.shift]
section
variable (ρ r : Env) (n : Nat) (hs : Nat → Hl)
theorem ck_shift (m : Nat) (k : Ck) : (k.cv (n + m)).ev (ρ.shift r n hs) = (k.cv m).ev r := by
  have e : ∀ j, n ≤ n + m + j := fun j => by omega
  have d : ∀ j, n + m + j - n = m + j := fun j => by omega
  have e0 : n ≤ n + m := by omega
  have d0 : n + m - n = m := by omega
  cases k <;> simp [Ck.cv, CV.ev, iev_var, bev_bvar, sev_svar, Env.shift, e, d, e0, d0] <;> rfl
theorem ckCVs_shift : ∀ (ks : List Ck) (m : Nat), (ckCVs (n + m) ks).map (CV.ev (ρ.shift r n hs)) = (ckCVs m ks).map (CV.ev r)
  | [], _ => rfl
  | k :: ks, m => by simp only [ckCVs, List.map_cons, ck_shift, Nat.add_assoc, ckCVs_shift ks (m + k.len)]
theorem cp_shift (m : Nat) (c : Cp) : (c.sv (n + m)).ev (ρ.shift r n hs) = (c.sv m).ev r := by
  cases c with
  | one k => exact ck_shift ρ r n hs m k
  | agg ks => simp only [Cp.sv, SV.ev, ckCVs_shift]
theorem cpSVs_shift : ∀ (l : List Cp) (m : Nat), (cpSVs (n + m) l).map (SV.ev (ρ.shift r n hs)) = (cpSVs m l).map (SV.ev r)
  | [], _ => rfl
  | c :: l, m => by simp only [cpSVs, List.map_cons, cp_shift, Nat.add_assoc, cpSVs_shift l (m + c.len)]
theorem ckNorm_shift (m : Nat) (k : Ck) : ckNorm (n + m) (ρ.shift r n hs) k ↔ ckNorm m r k := by
  have e : ∀ j, n ≤ n + m + j := fun j => by omega
  have d : ∀ j, n + m + j - n = m + j := fun j => by omega
  have e0 : n ≤ n + m := by omega
  have d0 : n + m - n = m := by omega
  cases k <;> simp [ckNorm, Env.shift, e, d, e0, d0]
theorem ckNorms_shift : ∀ (ks : List Ck) (m : Nat), ckNorms (n + m) ks (ρ.shift r n hs) ↔ ckNorms m ks r
  | [], _ => Iff.rfl
  | k :: ks, m => by simp only [ckNorms, ckNorm_shift, Nat.add_assoc, ckNorms_shift ks (m + k.len)]
theorem cpNorms_shift : ∀ (l : List Cp) (m : Nat), cpNorms (n + m) l (ρ.shift r n hs) ↔ cpNorms m l r
  | [], _ => Iff.rfl
  | c :: l, m => by
    have h : cpNorm (n + m) (ρ.shift r n hs) c ↔ cpNorm m r c := by
      cases c with
      | one k => exact ckNorm_shift ρ r n hs m k
      | agg ks => exact ckNorms_shift ρ r n hs ks m
    simp only [cpNorms, h, Nat.add_assoc, cpNorms_shift l (m + c.len)]
theorem cpTV_shift (l : List Cp) : (cpTV n l).ev (ρ.shift r n hs) = (cpTV 0 l).ev r := by
  unfold cpTV
  split
  · exact cp_shift ρ r n hs 0 _
  · have := cpSVs_shift ρ r n hs l 0
    rw [Nat.add_zero] at this
    simp only [TV.ev, this]
end

/-! ### All pieces at once -/
theorem setAll_get (mem : Mem) (ps : List (Nat × Res)) (q : Nat) : (setAll mem ps)[q]? = (mem[q]?).map fun r => match ps.find? fun x => x.1 == q with | some x => x.2 | none => r := by
  unfold setAll; exact mapIx_get0
theorem setAll_length (mem : Mem) (ps : List (Nat × Res)) : (setAll mem ps).length = mem.length := by simp [setAll]

theorem selPos_sound {args : List TV} {s : Sel} {p : Nat} {r : Res} (h : selPos args mem s = some (p, r)) : mem[p]? = some r ∧ r.own = true := by
  unfold selPos at h
  split at h
  · split at h
    · split at h
      · rename_i hp
        split at h
        · cases h; exact ⟨posOf_sound hp, ‹_›⟩
        · cases h
      · cases h
    · cases h
  · split at h
    · split at h
      · split at h
        · split at h
          · rename_i hp
            split at h
            · cases h; exact ⟨posOf_sound hp, ‹_›⟩
            · cases h
          · cases h
        · cases h
      · split at h
        · split at h
          · rename_i hp
            split at h
            · cases h; exact ⟨posOf_sound hp, ‹_›⟩
            · cases h
          · cases h
        · cases h
      · cases h
    · cases h

theorem rowsRes_sound {mem : Mem} {r : Nat × Res} (h : mem[r.1]? = some r.2) : mem[(rowsRes mem r).1]? = some (rowsRes mem r).2 ∨ (rowsRes mem r = (mem.length, .dead)) := by
  unfold rowsRes
  split
  · split
    · split
      · rename_i q hp
        left; exact posOf_sound (p := q.1) (r := q.2) hp
      · right; rfl
    · right; rfl
  · split
    · left; exact h
    · split
      · rename_i q hp
        left; have := (posAny_sound (q := q.1) (r := q.2) hp).2; simpa using this
      · left; exact h
  · left; exact h
theorem rdRes_sound (args : List TV) (mem : Mem) (i : Nat) : mem[(rdRes args mem i).1]? = some (rdRes args mem i).2 ∨ (rdRes args mem i = (mem.length, .dead)) := by
  unfold rdRes
  split
  · split
    · split
      · rename_i r hp
        exact rowsRes_sound (posOf_sound (p := r.1) (r := r.2) hp)
      · right; rfl
    · right; rfl
  split
  · split
    · rename_i r hp
      left; exact posOf_sound (p := r.1) (r := r.2) hp
    · right; rfl
  split
  · split
    · split
      · split
        · rename_i r hp
          left; exact posOf_sound (p := r.1) (r := r.2) hp
        · right; rfl
      · right; rfl
    · right; rfl
  split
  · split
    · split
      · split
        · rename_i r hp
          left; exact posOf_sound (p := r.1) (r := r.2) hp
        · right; rfl
      · right; rfl
    · right; rfl
  split
  · split
    · split
      · split
        · split
          · rename_i r hp
            left; exact posOf_sound (p := r.1) (r := r.2) hp
          · right; rfl
        · right; rfl
      · rename_i r _ hp
        left; exact posOf_sound (p := r.1) (r := r.2) hp
      · right; rfl
    · right; rfl
  split
  · split
    · split
      · split
        · rename_i r hp
          left; exact posOf_sound (p := r.1) (r := r.2) hp
        · right; rfl
      · right; rfl
    · right; rfl
  split
  · split
    · rename_i r hp
      left; have := (posAny_sound (q := r.1) (r := r.2) hp).2; simpa using this
    · right; rfl
  · split
    · split
      · rename_i r hp
        left; exact posOf_sound (p := r.1) (r := r.2) hp
      · right; rfl
    · right; rfl

theorem allSome_map {α β : Type} {f : α → Option β} : ∀ {l : List α} {m : List β}, allSome (l.map f) = some m → m.length = l.length ∧ ∀ x ∈ m, ∃ y ∈ l, f y = some x := by
  intro l m h
  obtain ⟨h1, h2⟩ := allSome_get h
  refine ⟨by simpa using h1, fun x hx => ?_⟩
  obtain ⟨j, hj⟩ := List.getElem?_of_mem hx
  have := h2 j x hj
  rw [List.getElem?_map, Option.map_eq_some_iff] at this
  obtain ⟨y, hy, e⟩ := this
  exact ⟨y, List.mem_of_getElem? hy, e⟩

theorem find_nodup {ps : List (Nat × Res)} (hn : (ps.map (·.1)).Nodup) {q : Nat × Res} (hq : q ∈ ps) : ps.find? (fun x => x.1 == q.1) = some q := by
  induction ps with
  | nil => cases hq
  | cons x l ih =>
    rw [List.map_cons, List.nodup_cons] at hn
    rw [List.find?_cons]
    rcases List.mem_cons.1 hq with rfl | hq
    · simp
    · have : ¬ x.1 = q.1 := fun e => hn.1 (e ▸ List.mem_map_of_mem hq)
      have hb : (x.1 == q.1) = false := by simpa using this
      rw [hb]
      exact ih hn.2 hq

theorem callE_sound (hΓ : ∀ s ∈ C.Γ, s.OK P) (hA : Rel S w0 ρ st a w) (hu : st.upto st.nv = true) {f : FuncId} {args : List TV} {d : Option Tmp} {R : XR} (h : callE C.Γ st f args d = some R) (hn : R.need.holds C ms ρ)
    {K : Act → World → Prop} (hK : Fin S w0 C ρ st a d R K) : Calls P f (args.map (TV.ev ρ)).toArray w fun e w' => ∃ v, e = .returned v ∧ K (a.put d v) w' := by
  unfold callE at h
  split at h
  · rename_i j hj
    split at h
    · rename_i s hs
      split at h
      · rename_i own hown
        simp only at h
        split at h
        · rename_i hnd
          cases h
          simp only [Bool.and_eq_true, decide_eq_true_eq, List.all_eq_true, Bool.not_eq_true'] at hnd
          obtain ⟨hnd, hrd⟩ := hnd
          have hf : s.fn = f := by
            have := List.findIdx?_eq_some_iff_getElem.1 hj
            obtain ⟨hlt, hp, _⟩ := this
            rw [List.getElem?_eq_getElem hlt] at hs
            cases hs
            simpa using hp
          obtain ⟨hlen, hsel⟩ := allSome_map hown
          have hm := hA.toMRel
          have hpos : ∀ q ∈ own, st.mem[q.1]? = some q.2 ∧ q.2.own = true := fun q hq => by
            obtain ⟨y, _, hy⟩ := hsel q hq
            exact selPos_sound hy
          have hpos' : ∀ (i : Nat) q, own[i]? = some q → st.mem[q.1]? = some q.2 ∧ q.2.own = true := fun i q hq => hpos q (List.mem_of_getElem? hq)
          have hne : ∀ (i k : Nat) q q', i ≠ k → own[i]? = some q → own[k]? = some q' → q.1 ≠ q'.1 := by
            intro i k q q' hik hi hk e
            have h1 : (own.map (·.1))[i]? = some q.1 := by rw [List.getElem?_map, hi]; rfl
            have h2 : (own.map (·.1))[k]? = some q.1 := by rw [List.getElem?_map, hk, e]; rfl
            exact hik ((List.getElem?_inj (List.getElem?_eq_some_iff.1 h1).1 hnd).1 (h1.trans h2.symm))
          let Hs := own.map (fun q => q.2.hl ρ)
          let Rs := (s.rd.map (rdRes args st.mem)).map (fun q => q.2.hl ρ)
          have hn : s.pre (args.map (TV.ev ρ)) Hs Rs := by
            have hn : (X.call j st.nv args (own.map (·.2)) ((s.rd.map (rdRes args st.mem)).map (·.2))).pre C ρ := hn
            simp only [X.pre, hs] at hn
            simpa [Hs, Rs, Function.comp_def] using hn
          have hcall := hΓ s (List.mem_of_getElem? hs) w (args.map (TV.ev ρ)) Hs Rs (by simp [Hs, hlen]) (by simp [Rs])
            (fun H hH => by obtain ⟨q, hq, rfl⟩ := List.mem_map.1 hH; exact hm.sub _ (List.mem_of_getElem? (hpos q hq).1))
            (fun H hH => by
              obtain ⟨q, hq, rfl⟩ := List.mem_map.1 hH
              obtain ⟨i, _, rfl⟩ := List.mem_map.1 hq
              rcases rdRes_sound args st.mem i with h | h
              · exact hm.sub _ (List.mem_of_getElem? h)
              · rw [h]; intro b o hb; cases hb)
            (fun p q H K hpq hp hq => by
              simp only [Hs, List.getElem?_map, Option.map_eq_some_iff] at hp hq
              obtain ⟨x, hx, rfl⟩ := hp
              obtain ⟨y, hy, rfl⟩ := hq
              exact hm.dis _ _ _ _ (hne p q x y hpq hx hy) (hpos' p x hx).1 (hpos' q y hy).1 (hpos' p x hx).2)
            (fun H hH K hK' => by
              obtain ⟨q, hq, rfl⟩ := List.mem_map.1 hH
              obtain ⟨r, hr, rfl⟩ := List.mem_map.1 hK'
              obtain ⟨i, hi, rfl⟩ := List.mem_map.1 hr
              rcases rdRes_sound args st.mem i with h | h
              · refine hm.dis _ _ _ _ (fun e => ?_) (hpos q hq).1 h (hpos q hq).2
                have := hrd _ hr
                rw [← e] at this
                have hc : (own.map (·.1)).contains q.1 = true := List.contains_iff_mem.2 (List.mem_map_of_mem hq)
                rw [hc] at this; cases this
              · rw [h]; rintro b ⟨_, y⟩; cases y)
            hn
          rw [hf] at hcall
          refine hcall.mono fun e w' ⟨r, Hs', F, he, hnorm, ht, hpost⟩ => ⟨_, he, ?_⟩
          have hl' : Hs'.length = own.length := by rw [ht.len]; simp [Hs]
          let ρ' := ρ.shift r st.nv (fun k => if k < own.length then Hs'.getD k Hl.none else F)
          have hg : Agree st.nv ρ ρ' := shift_agree _ _ _ _
          have eh : ∀ k, k < own.length → ρ'.h (st.nv + k) = Hs'.getD k Hl.none := fun k hk => by rw [shift_h]; exact if_pos hk
          have eF : ρ'.h (st.nv + own.length) = F := by rw [shift_h]; exact if_neg (by omega)
          have hnew : newHs ρ' st.nv own.length = Hs' := by
            apply List.ext_getElem?
            intro k
            unfold newHs
            rw [List.getElem?_map]
            by_cases hk : k < own.length
            · rw [List.getElem?_range hk]
              simp only [Option.map_some]
              rw [eh k hk, List.getD_eq_getElem?_getD, List.getElem?_eq_getElem (by omega)]
              rfl
            · rw [List.getElem?_eq_none (by simp; omega), List.getElem?_eq_none (by omega)]; rfl
          have etv : (cpTV st.nv s.res).ev ρ' = (cpTV 0 s.res).ev r := cpTV_shift _ _ _ _ _
          -- the pieces behind the call
          let nps := own.zipIdx.map fun q => (q.1.1, q.1.2.turned (st.nv + q.2))
          have hnps : nps.map (·.1) = own.map (·.1) := by
            simp only [nps, List.map_map]
            have : ((fun (x : Nat × Res) => x.1) ∘ fun (q : (Nat × Res) × Nat) => (q.1.1, q.1.2.turned (st.nv + q.2))) = (fun (x : Nat × Res) => x.1) ∘ Prod.fst := by funext q; rfl
            rw [this, ← List.map_map]
            congr 1
            exact List.zipIdx_map_fst 0 own
          have hturn : ∀ (k : Nat) q, own[k]? = some q → (setAll st.mem nps)[q.1]? = some (q.2.turned (st.nv + k)) := by
            intro k q hq
            have hmem : (q.1, q.2.turned (st.nv + k)) ∈ nps := List.mem_map.2 ⟨(q, k), List.mk_mem_zipIdx_iff_getElem?.2 hq, rfl⟩
            rw [setAll_get, (hpos' k q hq).1]
            have := find_nodup (by rw [hnps]; exact hnd) hmem
            simp only at this
            simp [this]
          have hkeep : ∀ (p : Nat), (∀ q ∈ own, q.1 ≠ p) → (setAll st.mem nps)[p]? = st.mem[p]? := by
            intro p hp
            rw [setAll_get]
            have : nps.find? (fun x => x.1 == p) = none := by
              rw [List.find?_eq_none]
              intro x hx
              have : x.1 ∈ own.map (·.1) := by rw [← hnps]; exact List.mem_map_of_mem hx
              obtain ⟨q, hq, e⟩ := List.mem_map.1 this
              simpa [← e] using hp q hq
            rw [this]
            simp
          have hturnhl : ∀ (k : Nat) q, own[k]? = some q → (q.2.turned (st.nv + k)).hl ρ' = Hs'.getD k Hl.none ∧ (q.2.turned (st.nv + k)).pos ρ' := by
            intro k q hq
            have hk : k < own.length := (List.getElem?_eq_some_iff.1 hq).1
            have := (hpos' k q hq).2
            cases hr : q.2 with
            | blk b l T => exact ⟨eh k hk, trivial⟩
            | hp kk vers tags links => exact ⟨eh k hk, trivial⟩
            | ro kk tags any => rw [hr] at this; cases this
            | dead => exact ⟨eh k hk, trivial⟩
          have hsubH : ∀ k, k < own.length → Hs'.getD k Hl.none ∈ Hs' := fun k hk => by
            rw [List.getD_eq_getElem?_getD, List.getElem?_eq_getElem (by omega)]; exact List.getElem_mem _
          have hgetH : ∀ k, k < own.length → Hs'[k]? = some (Hs'.getD k Hl.none) := fun k hk => by
            rw [List.getD_eq_getElem?_getD, List.getElem?_eq_getElem (by omega)]; rfl
          have hU : ∀ b, (∃ H ∈ Hs, H.mem b) → ∃ q ∈ own, (q.2.hl ρ).mem b := fun b ⟨H, hH, hb⟩ => by
            obtain ⟨q, hq, rfl⟩ := List.mem_map.1 hH; exact ⟨q, hq, hb⟩
          -- what stands at a place behind the call
          have place : ∀ (p : Nat) x, (setAll st.mem nps ++ (if cpRoots 0 s.res = [] then [] else [Res.hp (st.nv + own.length) [] (cpRoots st.nv s.res) (argRoots args s.links)]))[p]? = some x →
              (∃ (k : Nat) (q : Nat × Res), own[k]? = some q ∧ q.1 = p ∧ x = q.2.turned (st.nv + k)) ∨ ((∀ q ∈ own, q.1 ≠ p) ∧ p < st.mem.length ∧ st.mem[p]? = some x) ∨
              (p = st.mem.length ∧ cpRoots 0 s.res ≠ [] ∧ x = Res.hp (st.nv + own.length) [] (cpRoots st.nv s.res) (argRoots args s.links)) := by
            intro p x hp
            rw [List.getElem?_append] at hp
            split at hp
            · rename_i hlt
              by_cases hq : ∃ q ∈ own, q.1 = p
              · obtain ⟨q, hq, rfl⟩ := hq
                obtain ⟨k, hk⟩ := List.getElem?_of_mem hq
                rw [hturn k q hk] at hp
                exact Or.inl ⟨k, q, hk, rfl, (Option.some.inj hp).symm⟩
              · have hq' : ∀ q ∈ own, q.1 ≠ p := fun q hm e => hq ⟨q, hm, e⟩
                rw [hkeep p hq'] at hp
                rw [setAll_length] at hlt
                exact Or.inr (Or.inl ⟨hq', hlt, hp⟩)
            · rename_i hge
              rw [setAll_length] at hp hge
              split at hp
              · simp at hp
              · rename_i hr
                have : p - st.mem.length = 0 := by
                  rcases Nat.eq_zero_or_pos (p - st.mem.length) with h0 | h0
                  · exact h0
                  · rw [List.getElem?_eq_none (by simp; omega)] at hp; cases hp
                rw [this] at hp
                simp only [List.getElem?_cons_zero, Option.some.injEq] at hp
                exact Or.inr (Or.inr ⟨by omega, hr, hp.symm⟩)
          have hownlt : ∀ q ∈ own, q.1 < st.mem.length := fun q hq => (List.getElem?_eq_some_iff.1 (hpos q hq).1).1
          refine hK ρ' _ w' hg ⟨?_, rfl⟩ (Rel.step hA hu hg ?_ _ _ _ _ (fun y hy => by cases hy; exact etv.symm))
          · show X.rel C ρ ρ' (.call j st.nv args (own.map (·.2)) ((s.rd.map (rdRes args st.mem)).map (·.2)))
            simp only [X.rel, hs]
            refine ⟨F, ?_, fun _ => by rw [List.length_map]; exact eF, (cpNorms_shift ρ r st.nv _ s.res 0).2 hnorm⟩
            rw [etv, List.length_map, hnew]
            simpa [Hs, Rs, Function.comp_def] using hpost
          · refine hm.upd (fun b => ∃ H ∈ Hs, H.mem b) (fun p => (∃ q ∈ own, q.1 = p) ∨ p = st.mem.length) (fun b hb => ?_) ht.os ht.tape ht.output ht.size (fun b hl hb => ht.block b hl (fun H hH hm => hb ⟨H, hH, hm⟩)) ?_ ?_ ?_
            · obtain ⟨q, hq, hb⟩ := hU b hb
              exact ⟨q.2, List.mem_of_getElem? (hpos q hq).1, (hpos q hq).2, hb⟩
            · intro p x hp hnw
              rcases place p x hp with ⟨k, q, hk, rfl, _⟩ | ⟨h1, h2, h3⟩ | ⟨h1, _⟩
              · exact absurd (Or.inl ⟨q, List.mem_of_getElem? hk, rfl⟩) hnw
              · refine ⟨h3, Mem.agree hg (St.upto_mem hu) x (List.mem_of_getElem? h3), fun b hb hu' => ?_⟩
                obtain ⟨q, hq, hqb⟩ := hU b hu'
                exact hm.dis _ _ _ _ (h1 q hq) (hpos q hq).1 h3 (hpos q hq).2 b ⟨hqb, hb⟩
              · exact absurd (Or.inr h1) hnw
            · intro p x hp hnw
              rcases place p x hp with ⟨k, q, hk, rfl, rfl⟩ | ⟨h1, h2, h3⟩ | ⟨h1, h2, rfl⟩
              · have hkl := (List.getElem?_eq_some_iff.1 hk).1
                obtain ⟨e1, e2⟩ := hturnhl k q hk
                rw [e1]
                exact ⟨⟨ht.sub _ (hsubH k hkl), e2⟩, fun b hb => ht.dom _ (hsubH k hkl) b hb⟩
              · rcases hnw with ⟨q, hq, e⟩ | e
                · exact absurd e (h1 q hq)
                · omega
              · have e : (Res.hp (st.nv + own.length) [] (cpRoots st.nv s.res) (argRoots args s.links)).hl ρ' = F := eF
                rw [e]
                exact ⟨⟨ht.fsub, trivial⟩, fun b hb => ht.fdom b hb⟩
            · intro p p' x y hne' hnw hnw' hp hp' _
              rcases place p x hp with ⟨k, q, hk, rfl, rfl⟩ | ⟨h1, h2, h3⟩ | ⟨h1, h2, rfl⟩
              · have hkl := (List.getElem?_eq_some_iff.1 hk).1
                rw [(hturnhl k q hk).1]
                rcases place p' y hp' with ⟨k', q', hk', rfl, rfl⟩ | ⟨h1', h2', h3'⟩ | ⟨h1', h2', rfl⟩
                · have hkl' := (List.getElem?_eq_some_iff.1 hk').1
                  rw [(hturnhl k' q' hk').1]
                  exact ht.dis k k' _ _ (fun e => by subst e; rw [hk] at hk'; cases hk'; exact hne' rfl) (hgetH k hkl) (hgetH k' hkl')
                · rcases hnw' with ⟨q', hq', e⟩ | e
                  · exact absurd e (h1' q' hq')
                  · omega
                · have e : (Res.hp (st.nv + own.length) [] (cpRoots st.nv s.res) (argRoots args s.links)).hl ρ' = F := eF
                  rw [e]
                  exact ht.fdis _ (hsubH k hkl)
              · rcases hnw with ⟨q, hq, e⟩ | e
                · exact absurd e (h1 q hq)
                · omega
              · have e : (Res.hp (st.nv + own.length) [] (cpRoots st.nv s.res) (argRoots args s.links)).hl ρ' = F := eF
                rw [e]
                rcases place p' y hp' with ⟨k', q', hk', rfl, rfl⟩ | ⟨h1', h2', h3'⟩ | ⟨h1', h2', rfl⟩
                · have hkl' := (List.getElem?_eq_some_iff.1 hk').1
                  rw [(hturnhl k' q' hk').1]
                  exact Hl.dis_symm (ht.fdis _ (hsubH k' hkl'))
                · rcases hnw' with ⟨q', hq', e⟩ | e
                  · exact absurd e (h1' q' hq')
                  · omega
                · exact absurd (h1.trans h1'.symm) hne'
        · cases h
      · cases h
    · cases h
  · cases h
end
end Go.Sx

namespace Go.Sx
open Go

section
variable {P : Program} {C : Ctx} {ms : Nat → Nat} {S : Nat → Prop} {w0 : World} {ρ ρ' : Env} {st : St} {mem mem' : Mem} {a : Act} {w w' : World}

/-! ### Values as variables -/
theorem ck_head (v : Value) : ∃ q : Env, ((ckOf v).cv 0).ev q = v := by
  let e0 : Env := ⟨fun _ => 0, fun _ => false, fun _ => .empty, fun _ => .tuple #[], fun _ => Hl.none⟩
  cases v with
  | int k n => exact ⟨{ e0 with i := fun _ => n }, rfl⟩
  | bool b => exact ⟨{ e0 with b := fun _ => b }, rfl⟩
  | string s => exact ⟨{ e0 with s := fun _ => s }, rfl⟩
  | pointer p =>
    obtain ⟨x, y, h, _⟩ := slP_all p
    exact ⟨{ e0 with i := fun k => if k = 0 then x else y }, by simp [ckOf, Ck.cv, CV.ev, iev_var, h]⟩
  | slice p n c =>
    obtain ⟨x, y, h, _⟩ := slP_all p
    exact ⟨{ e0 with i := fun k => if k = 0 then x else if k = 1 then y else if k = 2 then n else c }, by simp [ckOf, Ck.cv, CV.ev, iev_var, h]⟩
  | map r =>
    cases r with
    | none => exact ⟨{ e0 with i := fun _ => -1 }, rfl⟩
    | some r =>
      refine ⟨{ e0 with i := fun _ => r }, ?_⟩
      have e : ¬ ((r : Int) = -1) := by omega
      simp only [ckOf, Ck.cv, CV.ev, iev_var, e, if_false, Int.toNat_natCast]
  | _ => exact ⟨⟨fun _ => 0, fun _ => false, fun _ => .empty, fun _ => _, fun _ => Hl.none⟩, rfl⟩
theorem ck_upto (k : Ck) (n : Nat) : (k.cv n).upto (n + k.len) = true := by
  cases k <;> simp [Ck.cv, CV.upto, E.upto, Ck.len]
theorem ckCVs_upto : ∀ (ks : List Ck) (n : Nat), (ckCVs n ks).all (·.upto (n + ckLen ks)) = true
  | [], _ => rfl
  | k :: ks, n => by
    simp only [ckCVs, List.all_cons, Bool.and_eq_true]
    have e : n + ckLen (k :: ks) = n + k.len + ckLen ks := by simp [ckLen]; omega
    rw [e]
    refine ⟨?_, ckCVs_upto ks (n + k.len)⟩
    have : ∀ m, n + k.len ≤ m → (k.cv n).upto m = true := by
      intro m hm
      cases k <;> simp [Ck.cv, CV.upto, E.upto, Ck.len] at hm ⊢ <;> omega
    exact this _ (by omega)
theorem ck_all : ∀ (vs : List Value), ∃ q : Env, (ckCVs 0 (vs.map ckOf)).map (CV.ev q) = vs
  | [] => ⟨⟨fun _ => 0, fun _ => false, fun _ => .empty, fun _ => .tuple #[], fun _ => Hl.none⟩, rfl⟩
  | v :: vs => by
    obtain ⟨q1, h1⟩ := ck_head v
    obtain ⟨q2, h2⟩ := ck_all vs
    refine ⟨q1.shift q2 (ckOf v).len (fun _ => Hl.none), ?_⟩
    simp only [List.map_cons, ckCVs, Nat.zero_add]
    congr 1
    · rw [CV.agree (shift_agree q1 q2 (ckOf v).len _) _ (by have := ck_upto (ckOf v) 0; rwa [Nat.zero_add] at this)]; exact h1
    · have := ckCVs_shift q1 q2 (ckOf v).len (fun _ => Hl.none) (vs.map ckOf) 0
      rw [Nat.add_zero] at this
      rw [this]; exact h2

theorem shape_all {ks : List Ck} {agg : Bool} {v : Value} (h : hasShape ks agg v) : ∃ q : Env, (mshape 0 ks agg).ev q = v := by
  unfold hasShape at h
  unfold mshape
  split at h
  · rename_i ha
    obtain ⟨cs, rfl, hk⟩ := h
    obtain ⟨q, hq⟩ := ck_all cs.toList
    rw [hk] at hq
    exact ⟨q, by rw [if_pos ha]; simp only [SV.ev, hq]⟩
  · rename_i ha
    obtain ⟨k, rfl, rfl⟩ := h
    obtain ⟨q, hq⟩ := ck_head v
    exact ⟨q, by rw [if_neg ha]; exact hq⟩
theorem mshape_shift (ρ r : Env) (n : Nat) (hs : Nat → Hl) (ks : List Ck) (agg : Bool) : (mshape n ks agg).ev (ρ.shift r n hs) = (mshape 0 ks agg).ev r := by
  have h1 := ckCVs_shift ρ r n hs ks 0
  rw [Nat.add_zero] at h1
  unfold mshape
  split
  · simp only [SV.ev, h1]
  · split
    · rename_i k
      exact ck_shift ρ r n hs 0 k
    · simp only [SV.ev, h1]
theorem mshape_agree {n : Nat} {ks : List Ck} {agg : Bool} (hg : Agree (n + ckLen ks) ρ ρ') : (mshape n ks agg).ev ρ' = (mshape n ks agg).ev ρ := by
  have h1 := CV.agreeL hg _ (ckCVs_upto ks n)
  unfold mshape
  split
  · simp only [SV.ev, h1]
  · split
    · rename_i k
      refine CV.agree hg _ ?_
      have := ck_upto k n
      simpa [ckLen] using this
    · simp only [SV.ev, h1]

/-! ### Finding -/
theorem findNow_spec {kind : TypeDesc} {key : Value} : ∀ (l : List MapEntry) (i0 i : Nat) (v : Value), Instr.findNow kind key l i0 = some (some (i, v)) → i0 ≤ i ∧ ∃ e, l[i - i0]? = some e ∧ e.val = v ∧ Instr.sameNow kind key e.key = some true
  | [], _, _, _, h => by simp [Instr.findNow] at h
  | e :: l, i0, i, v, h => by
    unfold Instr.findNow at h
    split at h
    · rename_i hs
      simp only [Option.some.injEq, Prod.mk.injEq] at h
      obtain ⟨rfl, rfl⟩ := h
      exact ⟨Nat.le_refl _, e, by simp, rfl, hs⟩
    · obtain ⟨h1, e', h2, h3, h4⟩ := findNow_spec l (i0 + 1) i v h
      exact ⟨by omega, e', by rw [show i - i0 = (i - (i0 + 1)) + 1 by omega, List.getElem?_cons_succ]; exact h2, h3, h4⟩
    · cases h

theorem keyKd_eq {t : TypeId} {kd : Kd} (h : keyKd P t = some kd) : (∃ k, kd = .int k ∧ P.underlying t = some (.int k)) ∨ (kd = .str ∧ P.underlying t = some .string) := by
  unfold keyKd at h
  split at h
  · rename_i k hu; cases h; exact Or.inl ⟨k, rfl, hu⟩
  · rename_i hu; cases h; exact Or.inr ⟨rfl, hu⟩
  · cases h
theorem keyOK_ev {kd : Kd} {c : CV} (h : keyOK kd c = true) (ρ : Env) : (∃ k n, kd = .int k ∧ c.ev ρ = .int k n) ∨ (∃ s, kd = .str ∧ c.ev ρ = .string s) := by
  unfold keyOK at h
  split at h
  · simp only [decide_eq_true_eq] at h; subst h; exact Or.inl ⟨_, _, rfl, rfl⟩
  · exact Or.inr ⟨_, rfl, rfl⟩
  · cases h
theorem checkKey_run {t : TypeId} {kd : Kd} (h : keyKd P t = some kd) (e : Bool) (v : Value) : (Instr.checkKey e 10000 t v).run P w = .ok () w := by
  unfold Instr.checkKey
  rcases keyKd_eq h with ⟨k, _, hu⟩ | ⟨_, hu⟩
  · simp only [Sem.run_bind, run_underlying hu, Result.andThen_ok]
    cases v <;> rfl
  · simp only [Sem.run_bind, run_underlying hu, Result.andThen_ok]
    cases v <;> rfl
theorem findKey_run {t : TypeId} {kd : Kd} (h : keyKd P t = some kd) {key : Value} {es : Array MapEntry} {r : Option (Nat × Value)} (hf : mapFind kd key es = some r) : (Instr.findKey t key es.toList).run P w = .ok r w := by
  unfold Instr.findKey
  rcases keyKd_eq h with ⟨k, rfl, hu⟩ | ⟨rfl, hu⟩
  · simp only [Sem.run_bind, run_underlying hu, Result.andThen_ok]
    simp only [mapFind] at hf
    rw [hf]; rfl
  · simp only [Sem.run_bind, run_underlying hu, Result.andThen_ok]
    simp only [mapFind] at hf
    rw [hf]; rfl
theorem getObj_map {r : Nat} {es : Array MapEntry} {c : Nat} (h : w.heap[r]? = some (.map es c)) : (getObj r).run P w = .ok (.map es c) w := by
  simp [getObj, Sem.run, h]
theorem setObj_map {r : Nat} {es : Array MapEntry} {c : Nat} {o : Obj} (h : w.heap[r]? = some (.map es c)) : (setObj r o).run P w = .ok () { w with heap := w.heap.setIfInBounds r o } := by
  simp [setObj, Sem.run, h]
theorem sameBits_of {kd : Kd} {kind : TypeDesc} {key old : Value} (hk : (∃ k, kd = .int k ∧ kind = .int k) ∨ (kd = .str ∧ kind = .string)) (hs : Instr.sameNow kind key old = some true) : Instr.sameBits 10000 old key = true := by
  rcases hk with ⟨k, rfl, rfl⟩ | ⟨rfl, rfl⟩
  · unfold Instr.sameNow at hs
    split at hs
    · split at hs
      · rename_i k1 a k2 b hk
        simp only [Option.some.injEq, beq_iff_eq] at hs
        subst hk; subst hs
        simp [Instr.sameBits]
      · cases hs
    · cases ‹TypeDesc.int k = .string›
    · cases ‹TypeDesc.int k = .bool›
    · cases hs
  · unfold Instr.sameNow at hs
    split at hs
    · cases ‹TypeDesc.string = .int _›
    · simp only [Option.some.injEq] at hs
      rename_i a b _
      rw [ba_beq, decide_eq_true_eq] at hs
      subst hs
      simp [Instr.sameBits, ba_beq]
    · cases ‹TypeDesc.string = .bool›
    · cases hs

theorem Hl.setObj_mem {h : Hl} {x b : Nat} {o : Obj} (hx : h.mem x) : (h.setObj x o).mem b ↔ h.mem b := by
  unfold Hl.mem Hl.setObj
  split
  · rename_i e; subst e; exact ⟨fun _ => hx, fun _ => rfl⟩
  · rfl
theorem setObj_sub {h : Hl} (hs : h.sub w) {x : Nat} {o : Obj} (hx : h.mem x) : (h.setObj x o).sub { w with heap := w.heap.setIfInBounds x o } := by
  intro b o' hb
  unfold Hl.setObj at hb
  have hlt := Hl.sub_lt hs hx
  split at hb
  · rename_i e; subst e; cases hb; simp [hlt]
  · rename_i e
    show (w.heap.setIfInBounds x o)[b]? = _
    rw [Array.getElem?_setIfInBounds_ne (fun h => e h.symm)]; exact hs b o' hb

theorem set_map (hA : Rel S w0 ρ st a w) (hu : st.upto st.nv = true) {p h : Nat} {vers : List Nat} {tags links : List E} {x : Nat} {o : Obj} (hp : st.mem[p]? = some (.hp h vers tags links)) (hx : (ρ.h h).mem x) :
    Agree st.nv ρ (ρ.setH st.nv ((ρ.h h).setObj x o)) ∧ MRel S w0 (ρ.setH st.nv ((ρ.h h).setObj x o)) (st.mem.set p (.hp st.nv (h :: vers) tags links)) { w with heap := w.heap.setIfInBounds x o } := by
  have hg : Agree st.nv ρ (ρ.setH st.nv ((ρ.h h).setObj x o)) := agree_setH _ _ _ (Nat.le_refl _)
  have e : (ρ.setH st.nv ((ρ.h h).setObj x o)).h st.nv = (ρ.h h).setObj x o := setH_h _ _ _
  have hsub : (ρ.h h).sub w := hA.sub _ (List.mem_of_getElem? hp)
  refine ⟨hg, hA.toMRel.set hp rfl rfl rfl rfl (by simp) (fun b _ hn => ?_) (Mem.agree hg (St.upto_mem hu)) ?_ trivial ?_⟩
  · show (w.heap.setIfInBounds x o)[b]? = _
    rw [Array.getElem?_setIfInBounds_ne (fun e => hn (by subst e; exact hx))]
  · show ((ρ.setH st.nv ((ρ.h h).setObj x o)).h st.nv).sub _
    rw [e]; exact setObj_sub hsub hx
  · intro b hb
    have hb : ((ρ.setH st.nv ((ρ.h h).setObj x o)).h st.nv).mem b := hb
    rw [e] at hb
    exact Or.inl ((Hl.setObj_mem hx).1 hb)

theorem mapE_sound (hA : Rel S w0 ρ st a w) (hu : st.upto st.nv = true) {o : Oper} {R : XR} (h : mapE P st o.op o.dst = some R) (hn : R.need.holds C ms ρ)
    {K : Act → World → Prop} {Q : Exit → Act → World → Prop} (hK : Fin S w0 C ρ st a o.dst R K) : o.wp P a w K Q := by
  unfold mapE at h
  split at h
  · rename_i t hop
    split at h
    · rename_i kt vt hu'
      cases h
      let ρ' := (ρ.setI st.nv w.heap.size).setH st.nv (Hl.one w.heap.size (.map #[] 0))
      have hg : Agree st.nv ρ ρ' := (agree_setI _ _ _ (Nat.le_refl _)).trans (agree_setH _ _ _ (Nat.le_refl _))
      have e1 : ρ'.i st.nv = w.heap.size := by show (ρ.setI st.nv w.heap.size).i st.nv = _; rw [setI_i]
      have e3 : ρ'.h st.nv = Hl.one w.heap.size (.map #[] 0) := setH_h _ _ _
      have hrun : (execOp a.eval o).run P w = .ok (.value (.map (some w.heap.size))) (w.alloc (.map #[] 0)) := by
        unfold execOp; rw [hop]
        simp [Instr.makeMap, Sem.run_bind]
      refine wp_value hrun (hK ρ' _ _ hg ⟨⟨by rw [e1]; omega, by rw [e1, Int.toNat_natCast]; exact e3⟩, rfl⟩ (Rel.step hA hu hg ?_ _ _ _ _ ?_))
      · refine hA.toMRel.add rfl rfl rfl (by simp) (fun b hb => RowKit.Below.heap_alloc w _ b hb) (Mem.agree hg (St.upto_mem hu)) ?_ trivial ?_
        · show (ρ'.h st.nv).sub _
          rw [e3]; intro b o hb
          obtain ⟨rfl, rfl⟩ := Hl.one_eq hb
          exact heap_alloc_new w _
        · intro b hb
          have hb : (ρ'.h st.nv).mem b := hb
          rw [e3] at hb
          rw [Hl.one_mem.1 hb]; exact Nat.le_refl _
      · intro y hy; cases hy
        simp only [TV.ev, SV.ev, CV.ev, iev_var, e1]
        rw [if_neg (by omega)]; simp
    · cases h
  · rename_i t m k ok hop
    split at h
    · rename_i kt vt hut
      split at h
      · rename_i kd z agg x key hkd hz hagg hm hk
        split at h
        · rename_i hh zs hfh hlz
          by_cases hcond : (keyOK kd key && (agg == isAgg z) && (agg || (z.cells.toList.map ckOf).length == 1)) = true
          · rw [if_pos hcond] at h
            have h := Option.some.inj h
            subst h
            simp only [Bool.and_eq_true] at hcond
            obtain ⟨⟨hkey, hag⟩, hlen⟩ := hcond
            have hsub := fHp_hk hA.toMRel hfh
            obtain ⟨hx, es, clock, r, hes, hf, hshape⟩ := hn
            have em := opnd_sound hA hm
            have ek := opnd_sound hA hk
            simp only [TV.ev, SV.ev, CV.ev] at em
            simp only [TV.ev, SV.ev] at ek
            rw [if_neg (by omega)] at em
            have hw := hsub _ _ hes
            have hzv : zs.ev ρ = z := by
              have := lift_ev ρ z
              rw [hlz] at this; exact this
            let v : Value := match r with | some (_, v) => v | none => z
            have hsh : hasShape (z.cells.toList.map ckOf) agg v := by
              cases r with
              | some p => exact hshape p.1 p.2 rfl
              | none =>
                show hasShape _ _ z
                unfold hasShape
                cases agg with
                | true =>
                  rw [if_pos rfl]
                  cases z with
                  | agg cs => exact ⟨cs, rfl, rfl⟩
                  | _ => simp [isAgg] at hag
                | false =>
                  rw [if_neg (by simp)]
                  cases z with
                  | agg cs => simp [isAgg] at hag
                  | _ => exact ⟨_, rfl, rfl⟩
            obtain ⟨q, hq⟩ := shape_all hsh
            let ρ1 := ρ.shift q st.nv (fun _ => Hl.none)
            let ρ' := ρ1.setB (st.nv + ckLen (z.cells.toList.map ckOf)) r.isSome
            have hg1 : Agree st.nv ρ ρ1 := shift_agree _ _ _ _
            have hg2 : Agree (st.nv + ckLen (z.cells.toList.map ckOf)) ρ1 ρ' := agree_setB _ _ _ (Nat.le_refl _)
            have hg : Agree st.nv ρ ρ' := hg1.trans (hg2.mono (by omega))
            have ev : (mshape st.nv (z.cells.toList.map ckOf) agg).ev ρ' = v := by
              rw [mshape_agree hg2, mshape_shift]; exact hq
            have eb : ρ'.b (st.nv + ckLen (z.cells.toList.map ckOf)) = r.isSome := by simp [ρ', Env.setB]
            have hrun : (execOp a.eval o).run P w = .ok (.value (if ok then .tuple #[v, .bool r.isSome] else v)) w := by
              unfold execOp; rw [hop]
              simp only [Sem.run_bind, em, ek, Instr.lookup, run_underlying hut, Result.andThen_ok, getObj_map hw, Sem.run_pure, checkKey_run hkd, findKey_run hkd hf]
              cases r with
              | some p => simp only [Sem.run_pure, Result.andThen_ok]; rfl
              | none => simp only [Sem.run_pure, Result.andThen_ok, Sem.run_bind, zeroT_run hz]; rfl
            refine wp_value hrun (hK ρ' _ _ hg ⟨?_, rfl⟩ (Rel.step hA hu hg (hA.toMRel.agree (Mem.agree hg (St.upto_mem hu))) _ _ _ _ ?_))
            · intro es' clock' r' h1 h2
              rw [hes] at h1; cases h1
              rw [hf] at h2; cases h2
              refine ⟨?_, eb⟩
              rw [ev]
              cases r with
              | some p => rfl
              | none => exact hzv.symm
            · intro y hy; cases hy
              cases ok with
              | true =>
                have e2 : (SV.one (CV.bool (.bvar (st.nv + ckLen (z.cells.toList.map ckOf))))).ev ρ' = .bool r.isSome := by show Value.bool (ρ'.b _) = _; rw [eb]
                simp only [if_true, TV.ev, List.map_cons, List.map_nil, ev, e2]
              | false => simp only [Bool.false_eq_true, if_false, TV.ev, ev]
          · rw [if_neg hcond] at h; cases h
        · cases h
      · cases h
    · cases h
  · rename_i t m k v hop
    split at h
    · rename_i kt vt hut
      split at h
      · rename_i kd x key vs hkd hm hk hv
        split at h
        · rename_i hkey
          split at h
          · rename_i p hh vers tags links hfp
            cases h
            have hp := fHp_sound hfp
            obtain ⟨hx, es, clock, r, hes, hf⟩ := hn
            have em := opnd_sound hA hm
            have ek := opnd_sound hA hk
            have ev := opnd_sound hA hv
            simp only [TV.ev, SV.ev, CV.ev] at em
            simp only [TV.ev, SV.ev] at ek
            simp only [TV.ev] at ev
            rw [if_neg (by omega)] at em
            have hsub : (ρ.h hh).sub w := hA.sub _ (List.mem_of_getElem? hp)
            have hw := hsub _ _ hes
            have hxm : (ρ.h hh).mem (iev ρ x).toNat := by unfold Hl.mem; rw [hes]; rfl
            obtain ⟨hg, hm'⟩ := set_map (o := mapPut kd (key.ev ρ) (vs.ev ρ) es clock) hA hu hp hxm
            have hrun : (execOp a.eval o).run P w = .ok .skip { w with heap := w.heap.setIfInBounds (iev ρ x).toNat (mapPut kd (key.ev ρ) (vs.ev ρ) es clock) } := by
              unfold execOp; rw [hop]
              simp only [Sem.run_bind, em, ek, ev, Instr.mapUpdate, run_underlying hut, Result.andThen_ok, getObj_map hw, checkKey_run hkd, findKey_run hkd hf]
              cases r with
              | some q =>
                obtain ⟨i, v0⟩ := q
                have hsame : Instr.sameBits 10000 (((es[i]?).map (·.key)).getD (key.ev ρ)) (key.ev ρ) = true := by
                  rcases keyKd_eq hkd with ⟨kk, rfl, _⟩ | ⟨rfl, _⟩
                  · obtain ⟨_, e, he, _, hs⟩ := findNow_spec _ _ _ _ hf
                    rw [Nat.sub_zero] at he
                    have he' : es[i]? = some e := by simpa using he
                    rw [he']
                    exact sameBits_of (Or.inl ⟨kk, rfl, rfl⟩) hs
                  · obtain ⟨_, e, he, _, hs⟩ := findNow_spec _ _ _ _ hf
                    rw [Nat.sub_zero] at he
                    have he' : es[i]? = some e := by simpa using he
                    rw [he']
                    exact sameBits_of (Or.inr ⟨rfl, rfl⟩) hs
                simp only [Instr.keyThatStays, hsame, if_true, Sem.run_bind, Sem.run_pure, Result.andThen_ok, setObj_map hw, mapPut, hf]
              | none => simp only [setObj_map hw, mapPut, hf, Result.andThen_ok, Sem.run_pure]
            refine wp_skip' hrun (hK _ _ _ hg ⟨?_, rfl⟩ (Rel.step hA hu hg hm' _ _ _ _ (fun y hy => by cases hy)))
            intro es' clock' h1
            rw [hes] at h1; cases h1
            exact setH_h _ _ _
          · cases h
        · cases h
      · cases h
    · cases h
  · rename_i args ats hop
    split at h
    · rename_i m t ha hts
      split at h
      · rename_i kt vt x hut hm
        split at h
        · rename_i p hh vers tags links hfp
          cases h
          have hp := fHp_sound hfp
          obtain ⟨hx, es, clock, hes⟩ := hn
          have em := opnd_sound hA hm
          simp only [TV.ev, SV.ev, CV.ev] at em
          rw [if_neg (by omega)] at em
          have hsub : (ρ.h hh).sub w := hA.sub _ (List.mem_of_getElem? hp)
          have hw := hsub _ _ hes
          have hxm : (ρ.h hh).mem (iev ρ x).toNat := by unfold Hl.mem; rw [hes]; rfl
          obtain ⟨hg, hm'⟩ := set_map (o := .map #[] clock) hA hu hp hxm
          have ea : args.map a.eval = #[.map (some (iev ρ x).toNat)] := by
            obtain ⟨l⟩ := args
            simp only at ha
            subst ha
            simp [em]
          have et : ats = #[t] := by obtain ⟨l⟩ := ats; simp only at hts; rw [hts]
          have hrun : (execOp a.eval o).run P w = .ok (.value (.tuple #[])) { w with heap := w.heap.setIfInBounds (iev ρ x).toNat (.map #[] clock) } := by
            obtain ⟨dst, op, ty, pos, af, gd⟩ := o
            simp only at hop
            subst hop
            rw [BigFrame.execOp_builtin, ea, et]
            unfold builtin
            have e5 : (Builtin.clear_ #[t] ty #[Value.map (some (iev ρ x).toNat)]).run P w = .ok (.tuple #[]) { w with heap := w.heap.setIfInBounds (iev ρ x).toNat (.map #[] clock) } := by
              unfold Builtin.clear_
              simp [run_underlying hut, getObj_map hw, setObj_map hw, Sem.run_bind]
            rw [Sem.run_bind, e5]; rfl
          refine wp_value hrun (hK _ _ _ hg ⟨?_, rfl⟩ (Rel.step hA hu hg hm' _ _ _ _ (fun y hy => by cases hy)))
          intro es' clock' h1
          rw [hes] at h1; cases h1
          exact setH_h _ _ _
        · cases h
      · cases h
    · cases h
  · cases h
end
end Go.Sx

namespace Go.Sx
open Go

section
variable {P : Program} {C : Ctx} {ms : Nat → Nat} {S : Nat → Prop} {w0 : World} {ρ : Env} {st : St} {mem : Mem} {a : Act} {w : World}

theorem hhk_sub (hA : MRel S w0 ρ mem w) {x : E} {h : Nat} (hf : (fHp mem x).bind (fun r => r.2.hk) = some h) : (ρ.h h).sub w := by
  cases hq : fHp mem x with
  | none => rw [hq] at hf; cases hf
  | some r =>
    rw [hq] at hf
    obtain ⟨q, r⟩ := r
    have hp := fHp_sound hq
    have hs := hA.sub _ (List.mem_of_getElem? hp)
    cases r <;> simp [Res.hk] at hf
    · subst hf; exact hs
    · subst hf; exact hs
theorem cellBytes_at {h : Hl} {x y n j : Nat} (hb : cellBytes h x y n = true) (hj : j < n) : ∃ z, h.cell x (y + j) = some (.int .u8 z) := by
  unfold cellBytes at hb
  have := List.all_eq_true.1 hb j (List.mem_range.2 hj)
  cases hc : h.cell x (y + j) with
  | none => rw [hc] at this; cases this
  | some v =>
    rw [hc] at this
    cases v <;> simp [valIs] at this
    subst this; exact ⟨_, rfl⟩

theorem blk_at (hA : MRel S w0 ρ mem w) {q b : Nat} {m : List CV} {T : TypeId} (hq : mem[q]? = some (.blk b m T)) {j : Nat} {c : CV} (hc : m[j]? = some c) : w.cell? ⟨(ρ.i b).toNat, j, none⟩ = some (c.ev ρ) := by
  have := hA.blk hq
  have hj : j < m.length := (List.getElem?_eq_some_iff.1 hc).1
  simp [World.cell?, this, hj, (List.getElem?_eq_some_iff.1 hc).2]

theorem copySrc_sound (hA : MRel S w0 ρ mem w) {el : TypeId} {p L : Nat} {yd n xs ys ls k : E} {src : Nat → Option CV} (h : copySrc P mem el p L yd n xs ys ls = some (k, src)) (hk : bev ρ k = true) (hy0 : 0 ≤ iev ρ yd) (hfit : iev ρ yd + iev ρ n ≤ L) :
    (iev ρ xs = -1 ∧ iev ρ ls = 0) ∨ ∃ b o, slP (iev ρ xs) (iev ρ ys) = some ⟨b, o, none⟩ ∧ ∀ j : Nat, iev ρ yd ≤ j → (j : Int) < iev ρ yd + iev ρ n → ∃ s, src j = some s ∧ w.cell? ⟨b, o + (j - (iev ρ yd).toNat), none⟩ = some (s.ev ρ) := by
  unfold copySrc at h
  split at h
  · rename_i q m T hq
    split at h
    · cases h
    · rename_i hqp
      have hx : ∃ bs, xs = .var bs ∧ fBlk mem bs = some (q, m, T) := by
        cases xs <;> simp at hq
        exact ⟨_, rfl, hq⟩
      obtain ⟨bs, rfl, hf⟩ := hx
      have hp := fBlk_sound hf
      have hpos : 0 ≤ ρ.i bs := hA.pos _ (List.mem_of_getElem? hp)
      split at h
      · rename_i hc
        cases h
        obtain ⟨rfl, hl⟩ := hc
        refine Or.inr ⟨(ρ.i bs).toNat, (iev ρ yd).toNat, by rw [iev_var, slP_pos hpos], fun j h0 h1 => ?_⟩
        have hj : j < m.length := by omega
        refine ⟨m[j], List.getElem?_eq_getElem hj, ?_⟩
        rw [show (iev ρ yd).toNat + (j - (iev ρ yd).toNat) = j by omega]
        exact blk_at hA hp (List.getElem?_eq_getElem hj)
      · split at h
        · rename_i o o' _
          split at h
          · rename_i hoo
            cases h
            simp only [bev_mkLe, iev_mkAdd, iev_lit, decide_eq_true_eq] at hk
            rw [iev_lit] at hy0 hfit
            refine Or.inr ⟨(ρ.i bs).toNat, o'.toNat, by rw [iev_var, iev_lit, slP_pos hpos], fun j h0 h1 => ?_⟩
            rw [iev_lit] at h0 h1 ⊢
            have hj : j - o.toNat + o'.toNat < m.length := by omega
            refine ⟨m[j - o.toNat + o'.toNat], by simp only; rw [if_pos (by omega), List.getElem?_eq_getElem hj], ?_⟩
            rw [Nat.add_comm o'.toNat]
            exact blk_at hA hp (List.getElem?_eq_getElem hj)
          · cases h
        · cases h
  · split at h
    · rename_i o hh hhk
      split at h
      · rename_i hoo
        cases h
        simp only [bev_mkOr, bev_mkEq, bev_mkAnd, bev_mkLe, iev_lit, Bool.and_eq_true, Bool.or_eq_true, decide_eq_true_eq, bev_hby] at hk
        rcases hk with hk | ⟨hx, hy, hb⟩
        · exact Or.inl ⟨of_decide_eq_true hk.1, of_decide_eq_true hk.2⟩
        have hx := of_decide_eq_true hx
        refine Or.inr ⟨(iev ρ xs).toNat, (iev ρ ys).toNat, by rw [slP_pos hx], fun j h0 h1 => ?_⟩
        rw [iev_lit] at h0 h1 ⊢
        obtain ⟨z, hz⟩ := cellBytes_at hb (j := j - o.toNat) (by omega)
        refine ⟨_, by simp only; rw [if_pos (by omega)], ?_⟩
        rw [Hl.sub_cell (hhk_sub hA hhk) hz]
        simp only [CV.ev, iev_hI, hz, valI]
      · cases h
    · cases h

theorem copyCut_some {yd ld n : E} {src : Nat → Option CV} {j : Nat} (hn : iev ρ n ≤ iev ρ ld) (h : (j : Int) < iev ρ yd + iev ρ n) : copyCut yd ld src j = src j := by
  unfold copyCut
  split
  · rw [iev_lit] at h hn
    rw [if_pos (by omega)]
  · rfl
theorem setRow_self {w : World} {g : Nat} {cs : Array Value} {T : TypeId} (h : w.heap[g]? = some (.cells cs T (0, 0))) : w.setRow g cs = w := by
  have e : (w.setRow g cs).heap = w.heap := by
    apply Array.ext_getElem?
    intro k
    by_cases hk : k = g
    · subst hk; rw [setRow_heap w _ _ cs T _ h, h]
    · exact setRow_other w _ _ _ hk
  show ({ w with heap := (w.setRow g cs).heap } : World) = w
  rw [e]
theorem run_copy_none (w : World) (dT sT ty elem : TypeId) (a : Addr) (dLen dCap c : Nat) (hu : P.underlying dT = some (.slice elem)) (hs : ((P.info? elem).map (·.size)).isSome = true) :
    (Builtin.copy_ #[dT, sT] ty #[.slice (some a) dLen dCap, .slice none 0 c]).run P w = .ok (goInt 0) w := by
  cases hq : P.info? elem with
  | none => simp [hq] at hs
  | some i => simp [Builtin.copy_, run_underlying hu, Builtin.lenOf, Builtin.firstCells, sizeOf, typeInfo, hq, storeCells]
theorem copyIn_true {yd n : E} {j : Nat} : bev ρ (copyIn yd n j) = decide (iev ρ yd ≤ j ∧ (j : Int) < iev ρ yd + iev ρ n) := by
  unfold copyIn
  rw [bev_mkAnd, bev_mkLe, bev_mkLt, iev_lit, iev_mkAdd, Bool.decide_and]
def srcVal (ρ : Env) (src : Option CV) (old : CV) : Value := match src with
  | some s => s.ev ρ
  | none => old.ev ρ
theorem copyCell_sound {c : E} {src : Option CV} {old x : CV} (h : copyCell c src old = some x) : x.ev ρ = if bev ρ c = true then srcVal ρ src old else old.ev ρ := by
  unfold copyCell at h
  cases src with
  | none => cases h; simp [srcVal]
  | some s =>
    simp only at h
    split at h
    · split at h
      · rename_i hc; cases h; subst hc; simp [bev_tt, srcVal]
      · split at h
        · rename_i hc; cases h; subst hc; simp [bev_ff]
        · rw [mergeCV_ev h]; rfl
    · cases h
theorem copyL_sound {yd n : E} {src : Nat → Option CV} : ∀ (l : List CV) (j : Nat) (l' : List CV), copyL yd n src j l = some l' → l'.length = l.length ∧ ∀ i c x, l[i]? = some c → l'[i]? = some x →
    (∃ y, copyCell (copyIn yd n (j + i)) (src (j + i)) c = some y) ∧ x.ev ρ = if bev ρ (copyIn yd n (j + i)) = true then srcVal ρ (src (j + i)) c else c.ev ρ
  | [], j, l', h => by cases h; simp
  | c :: l, j, l', h => by
    unfold copyL at h
    split at h
    · rename_i x r h1 h2
      cases h
      obtain ⟨hl, ih⟩ := copyL_sound l (j + 1) r h2
      refine ⟨by simp [hl], fun i c' x' hc hx => ?_⟩
      cases i with
      | zero =>
        simp only [List.getElem?_cons_zero, Option.some.injEq] at hc hx
        subst hc; subst hx
        exact ⟨⟨_, h1⟩, copyCell_sound h1⟩
      | succ i =>
        simp only [List.getElem?_cons_succ] at hc hx
        have := ih i c' x' hc hx
        rw [show j + 1 + i = j + (i + 1) by omega] at this
        exact this
    · cases h

theorem copyE_sound (hA : Rel S w0 ρ st a w) {t t' ty : TypeId} {x y : TV} {d : Option Tmp} {R : XR} (h : copyE P st t x y d = some R) (hn : R.need.holds C ms ρ) {K : Act → World → Prop} (hK : Fin S w0 C ρ st a d R K) :
    ∃ v' w', (Builtin.copy_ #[t, t'] ty #[x.ev ρ, y.ev ρ]).run P w = .ok v' w' ∧ K (a.put d v') w' := by
  unfold copyE at h
  split at h
  · rename_i el hu
    split at h
    · rename_i hsz
      split at h
      · rename_i ad yd ld cd xs ys ls cs
        split at h
        · rename_i p l T hf
          have hp := fBlk_sound hf
          have hpos : 0 ≤ ρ.i ad := hA.toMRel.pos _ (List.mem_of_getElem? hp)
          simp only at h
          generalize hN : mkIte (mkLt ls ld) ls ld = N at h
          split at h
          · rename_i k src hsrc
            split at h
            · rename_i l' hl'
              cases h
              simp only [ndE_holds, bev_mkAnd, bev_mkLe, iev_lit, iev_mkAdd, Bool.and_eq_true, decide_eq_true_eq] at hn
              obtain ⟨hk, hy0, hd0, hs0, hfit⟩ := hn
              have hy0 := of_decide_eq_true hy0
              have hd0 := of_decide_eq_true hd0
              have hs0 := of_decide_eq_true hs0
              have eN : iev ρ N = min (iev ρ ls) (iev ρ ld) := by
                rw [← hN, iev_mkIte, bev_mkLt]
                by_cases hc : iev ρ ls < iev ρ ld
                · rw [if_pos (by simpa using hc)]; omega
                · rw [if_neg (by simpa using hc)]; omega
              rcases copySrc_sound hA.toMRel hsrc hk hy0 hfit with ⟨hxn, hl0⟩ | ⟨b, o, hpl, hcells⟩
              · have hN0 : iev ρ N ≤ 0 := by rw [eN, hl0]; omega
                obtain ⟨hlen, hat⟩ := copyL_sound (ρ := ρ) l 0 l' hl'
                have same : l'.map (CV.ev ρ) = l.map (CV.ev ρ) := by
                  apply List.ext_getElem?
                  intro j
                  by_cases hjl : j < l.length
                  · have hjl' : j < l'.length := by omega
                    obtain ⟨_, e2⟩ := hat j _ _ (List.getElem?_eq_getElem hjl) (List.getElem?_eq_getElem hjl')
                    rw [Nat.zero_add, copyIn_true] at e2
                    rw [List.getElem?_map, List.getElem?_eq_getElem hjl', List.getElem?_map, List.getElem?_eq_getElem hjl, Option.map_some, Option.map_some, e2, if_neg (by simp only [decide_eq_true_eq]; omega)]
                  · rw [List.getElem?_eq_none (by simp; omega), List.getElem?_eq_none (by simp; omega)]
                have ex : TV.ev ρ (.sv (.one (.sl (.var ad) yd ld cd))) = .slice (some ⟨(ρ.i ad).toNat, (iev ρ yd).toNat, none⟩) (iev ρ ld).toNat (iev ρ cd).toNat := by
                  simp only [TV.ev, SV.ev, CV.ev, iev_var, slP_pos hpos]
                have ey : TV.ev ρ (.sv (.one (.sl xs ys ls cs))) = .slice none 0 (iev ρ cs).toNat := by
                  simp only [TV.ev, SV.ev, CV.ev, hxn, hl0]; rfl
                rw [ex, ey]
                have hcs := hA.toMRel.blk hp
                have hself := setRow_self hcs
                have hM := hA.toMRel.setBlk (l' := l') hp (cs := (l.map (CV.ev ρ)).toArray) (by rw [same])
                rw [hself] at hM
                have hsome : ((P.info? el).map (·.size)).isSome = true := by
                  have : (P.info? el).map (·.size) = some 1 := by simpa [sizeT] using hsz
                  rw [this]; rfl
                refine ⟨_, _, run_copy_none w t t' ty el _ _ _ _ hu hsome, ?_⟩
                refine hK ρ _ _ (Agree.refl _ _) rfl (Rel.put (st := { st with mem := st.mem.set p (.blk ad l' T) }) ⟨hM, hA.size, hA.defers, hA.tmp, hA.path⟩ _ _ _ (fun z hz => ?_))
                cases hz
                simp only [TV.ev, SV.ev, CV.ev]
                unfold goInt
                congr 1
                rw [eN, hl0]; omega
              obtain ⟨hlen, hat⟩ := copyL_sound (ρ := ρ) l 0 l' hl'
              let nn := (iev ρ N).toNat
              let oo := (iev ρ yd).toNat
              let vs : List Value := (List.range nn).map fun i => (w.cell? ⟨b, o + i, none⟩).getD (.bool false)
              have hvs : ∀ i, i < nn → ∃ s, copyCut yd ld src (oo + i) = some s ∧ w.cell? ⟨b, o + i, none⟩ = some (s.ev ρ) := by
                intro i hi
                have hi' : (i : Int) < iev ρ N := by omega
                obtain ⟨s, h1, h2⟩ := hcells (oo + i) (by omega) (by omega)
                rw [show oo + i - (iev ρ yd).toNat = i by omega] at h2
                exact ⟨s, (copyCut_some (ρ := ρ) (n := N) (by rw [eN]; omega) (by omega)).trans h1, h2⟩
              have hone : ∀ v ∈ vs, v.oneCell' = true := by
                intro v hv
                obtain ⟨i, hi, rfl⟩ := List.mem_map.1 hv
                have hi := List.mem_range.1 hi
                obtain ⟨s, h1, h2⟩ := hvs i hi
                rw [h2, Option.getD_some]
                have hjl : oo + i < l.length := by omega
                have hjl' : oo + i < l'.length := by omega
                obtain ⟨⟨z, hz⟩, _⟩ := hat (oo + i) _ _ (List.getElem?_eq_getElem hjl) (List.getElem?_eq_getElem hjl')
                rw [Nat.zero_add, h1] at hz
                unfold copyCell at hz
                simp only at hz
                split at hz
                · rename_i hc; exact CV.cell_one s hc
                · cases hz
              have hrow := run_copy_row P w t t' ty el (ρ.i ad).toNat oo (iev ρ ld).toNat (iev ρ cd).toNat ⟨b, o, none⟩ (iev ρ ls).toNat (iev ρ cs).toNat (l.map (CV.ev ρ)).toArray T vs hu (by simpa [sizeT] using hsz) (hA.toMRel.blk hp)
                (by simp only [vs, List.length_map, List.length_range, nn, eN]; show (min (iev ρ ls) (iev ρ ld)).toNat = min _ _; omega)
                (fun j v hj => by
                  have hjn : j < nn := by have := (List.getElem?_eq_some_iff.1 hj).1; simpa [vs] using this
                  obtain ⟨s, h1, h2⟩ := hvs j hjn
                  have : v = s.ev ρ := by
                    simp only [vs, List.getElem?_map, List.getElem?_range hjn, Option.map_some, h2, Option.getD_some, Option.some.injEq] at hj
                    exact hj.symm
                  subst this
                  rw [show (⟨b, o, none⟩ : Addr).add j = ⟨b, o + j, none⟩ by unfold Addr.add; split <;> simp_all]
                  exact h2)
                (by simp only [vs, List.length_map, List.length_range, nn]; simp; omega) hone
              have ex : TV.ev ρ (.sv (.one (.sl (.var ad) yd ld cd))) = .slice (some ⟨(ρ.i ad).toNat, oo, none⟩) (iev ρ ld).toNat (iev ρ cd).toNat := by
                simp only [TV.ev, SV.ev, CV.ev, iev_var, slP_pos hpos, oo]
              have ey : TV.ev ρ (.sv (.one (.sl xs ys ls cs))) = .slice (some ⟨b, o, none⟩) (iev ρ ls).toNat (iev ρ cs).toNat := by
                simp only [TV.ev, SV.ev, CV.ev, hpl]
              rw [ex, ey]
              refine ⟨_, _, hrow, ?_⟩
              have hnew : (l.map (CV.ev ρ)).toArray.toList.take oo ++ vs ++ (l.map (CV.ev ρ)).toArray.toList.drop (oo + vs.length) = l'.map (CV.ev ρ) := by
                have lv : vs.length = nn := by simp [vs]
                apply List.ext_getElem?
                intro j
                rw [lv]
                by_cases hjl : j < l.length
                · have hjl' : j < l'.length := by omega
                  obtain ⟨_, e2⟩ := hat j _ _ (List.getElem?_eq_getElem hjl) (List.getElem?_eq_getElem hjl')
                  rw [Nat.zero_add, copyIn_true] at e2
                  rw [List.getElem?_map, List.getElem?_eq_getElem hjl', Option.map_some, e2]
                  simp only [decide_eq_true_eq]
                  by_cases h1 : j < oo
                  · rw [if_neg (by omega), List.append_assoc, List.getElem?_append_left (by simp; omega)]
                    simp [List.getElem?_take, h1, hjl]
                  · by_cases h2 : j < oo + nn
                    · rw [if_pos (by omega), List.getElem?_append_left (by simp [lv]; omega), List.getElem?_append_right (by simp; omega)]
                      obtain ⟨s, h3, h4⟩ := hvs (j - oo) (by omega)
                      rw [show oo + (j - oo) = j by omega] at h3
                      rw [h3]
                      show _ = some (s.ev ρ)
                      have hm : (List.take oo (List.map (CV.ev ρ) l).toArray.toList).length = oo := by simp; omega
                      rw [hm]
                      simp only [vs, List.getElem?_map, List.getElem?_range (show j - oo < nn by omega), Option.map_some, h4, Option.getD_some]
                    · rw [if_neg (by omega), List.getElem?_append_right (by simp [lv]; omega)]
                      simp only [List.length_append, List.length_take, List.length_map, lv, List.getElem?_drop, List.getElem?_map]
                      rw [show oo + nn + (j - (min oo l.length + nn)) = j by omega]
                      simp [hjl]
                · rw [List.getElem?_eq_none (by simp [lv]; omega), List.getElem?_eq_none (by simp [hlen]; omega)]
              refine hK ρ _ _ (Agree.refl _ _) rfl (Rel.put (st := { st with mem := st.mem.set p (.blk ad l' T) }) ⟨hA.toMRel.setBlk hp (by rw [hnew]), hA.size, hA.defers, hA.tmp, hA.path⟩ _ _ _ (fun z hz => ?_))
              cases hz
              simp only [TV.ev, SV.ev, CV.ev, vs, List.length_map, List.length_range, nn]
              unfold goInt
              congr 1
              omega
            · cases h
          · cases h
        · cases h
      · cases h
    · cases h
  · cases h
end
end Go.Sx
