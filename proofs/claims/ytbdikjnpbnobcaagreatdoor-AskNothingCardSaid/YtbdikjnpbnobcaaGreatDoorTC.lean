/- Bytes that are no request are told nothing and change nothing: a part of the proof. No condition. -/
import Derived.Test.YtbdikjnpbnobcaaGreatDoorTB
set_option linter.all false
namespace Go.Sx
open Go
variable {K:Act->World->Prop}{es:Array MapEntry}{cs:Array Value}{agg:Bool}{k ld le ls xs yd ys:E}{Q:Exit->Act->World->Prop}{kd:Kd}{l l' m z:List CV}{args:List TV}{L ad b c g h j p size x:Nat}{src:Nat->Option CV}{o:Obj}{d:Option Tmp}{y:TV}{T el t t' ty:TypeId}{key old v:Value}
structure XR where
 st:St
 need:Nd
 x:Option X
variable {R:XR}
def posOf (mem:Mem) (x:E):Option (Nat×Res) :=
 match x with
 | .var a=>match fBlk mem a with
  | some (p,l,T)=>some (p,.blk a l T)
  | none=>fHp mem x
 | x=>fHp mem x
def posOf_sound {mem:Mem} {x:E} {r:Res} (h:posOf mem x=some (p,r)):mem[p]?=some r:=by
 unfold posOf at h;split at h
 .split at h
  .rename_i q l T hb;cases h;exact fBlk_sound hb
  .exact fHp_sound h
 .exact fHp_sound h
def madeCVs (z:List CV) (n:Nat):List CV:=(List.range n).map fun j=>z.getD (j%z.length) (.bool .tt)
def rootOf:TV->Option E
 | .sv (.one (.hptr x _))=>some x
 | .sv (.one (.sl x _ _ _))=>some x
 | .sv (.one (.map x))=>some x
 | .sv (.one (.clo _ x))=>some x
 | _=>none
def srcOf (mem:Mem) (size:Nat) (t:TV):Option (Src×E) :=
 match t with
 | .sv (.one (.sl x y l c)) =>
  if x=.lit (-1)then(if y=.lit 0/\l=.lit 0/\c=.lit 0 then some (.cvs [] 0,.lit 0)else none)else
  match knownP mem x y,l with
  | some (_,_,cs,_,o),.lit m=>if 0<=m/\o+m.toNat*size<=cs.length/\(((cs.drop o).take (m.toNat*size)).all CV.cellB=true)then some (.cvs ((cs.drop o).take (m.toNat*size)) m.toNat,.lit m)else none
  | _,l=>match(fHp mem x).bind (fun r=>r.2.hk)with
   | some h=>some (.seg h x y l,l)
   | none=>none
 | _=>none
def storeE (P:Program) (st:St) (t:TypeId) (p:CV) (v:SV):Option (E×Mem ⊕ X×Mem) :=
 match p with
 | .pti a o s k i=>match fBlk st.mem a,v with
  | some (p,l,T),.one c=>if sizeT P t=some 1/\c.cellB=true/\(∀ j,j<k->o+s*j<l.length)then
   (updSel l o s i c k).map fun l'=>.inl (inB i k,st.mem.set p (.blk a l' T))
   else none
  | _,_=>none
 | .hptr x y=>if sizeT P t=some v.cells.length/\v.cells.all CV.cellB=true then match knownP st.mem x y with
  | some (a,p,l,T,o)=>if o+v.cells.length<=l.length then some (.inl (.tt,st.mem.set p (.blk a (splice l o v.cells) T)))else none
  | none=>match fHp st.mem x with
   | some (p,.hp k vers tags links)=>some (.inr (.put st.nv k x y v.cells,st.mem.set p (.hp st.nv (k::vers) tags links)))
   | _=>none
  else none
 | _=>none
where updSel (l:List CV) (o s:Nat) (i:E) (c:CV):Nat->Option (List CV)
 | 0=>some l
 | m+1=>match updSel l o s i c m with
  | some l'=>match l'[o+s*m]? with
   | some old=>match mergeCV (mkEq i (.lit m)) c old with
    | some v=>some (l'.set (o+s*m) v)
    | none=>none
   | none=>none
  | none=>none
def selPos (args:List TV) (mem:Mem):Sel->Option (Nat×Res)
 | .arg i=>match(args[i]?).bind rootOf with
  | some x=>match posOf mem x with
   | some (p,r)=>if r.own then some (p,r)else none
   | none=>none
  | none=>none
 | .link i j=>match(args[i]?).bind rootOf with
  | some x=>match posOf mem x with
   | some (_,.hp _ _ _ links)=>match links[j]? with
    | some y=>match posOf mem y with
     | some (p,r)=>if r.own then some (p,r)else none
     | none=>none
    | none=>none
   | some (_,.blk _ l _)=>match l[j]? with
    | some (.hptr y _)=>match posOf mem y with
     | some (p,r)=>if r.own then some (p,r)else none
     | none=>none
    | _=>none
   | _=>none
  | none=>none
 | .far i j k=>match(args[i]?).bind rootOf with
  | some x=>match posOf mem x with
   | some (_,.blk _ l _)=>match l[j]? with
    | some (.hptr y _)=>match posOf mem y with
     | some (_,.hp _ _ _ links)=>match links[k]? with
      | some z=>match posOf mem z with
       | some (p,r)=>if r.own then some (p,r)else none
       | none=>none
      | none=>none
     | _=>none
    | _=>none
   | _=>none
  | none=>none
def rootCV:CV->Option E
 | .hptr x _=>some x
 | .sl x _ _ _=>some x
 | .map x=>some x
 | _=>none
def rowsRes (mem:Mem) (r:Nat×Res):Nat×Res:=match r.2 with
 | .blk _ l _=>match(l.head?).bind rootCV with
  | some y=>match posOf mem y with
   | some q=>q
   | none=>(mem.length,.dead)
  | none=>(mem.length,.dead)
 | .ro _ _ any=>if any then r else match posAny mem 0 with
  | some q=>q
  | none=>r
 | _=>r
def blkOf:Mem->TypeId->Nat->Option (Nat×Res)
 | [],_,_=>none
 | .blk a l T::m,t,k=>match blkOf m t (k+1)with
  | some r=>some r
  | none=>if T=t then some (k,.blk a l T)else none
 | _::m,t,k=>blkOf m t (k+1)
def rdRes (args:List TV) (mem:Mem) (i:Nat):Nat×Res :=
 if 7000000<=i then match blkOf mem (i-7000000) 0 with
  | some r=>r
  | none=>(mem.length,.dead)
 else if 6000000<=i then match mem[i-6000000]? with
  | some r=>(i-6000000,r)
  | none=>(mem.length,.dead)
 else if 5000000<=i then match args[(i-5000000)/1000]? with
  | some (.sv (.one (.hptr x y)))=>match posOf mem x with
   | some (_,.blk _ l _)=>match(l[(i-5000000)%1000]?).bind rootCV with
    | some z=>match posOf mem z with
     | some r=>r
     | none=>(mem.length,.dead)
    | none=>(mem.length,.dead)
   | some (_,.ro k _ _)=>match posOf mem (.hP k x y ((i-5000000)%1000) 0)with
    | some r=>r
    | none=>(mem.length,.dead)
   | _=>(mem.length,.dead)
  | _=>(mem.length,.dead)
 else if 4000000<=i then match args[(i-4000000)/1000]? with
  | some (.sv (.agg l))=>match(l[(i-4000000)%1000]?).bind rootCV with
   | some y=>match posOf mem y with
    | some r=>rowsRes mem r
    | none=>(mem.length,.dead)
   | none=>(mem.length,.dead)
  | _=>(mem.length,.dead)
 else if 3000000<=i then match(args[i-3000000]?).bind rootOf with
  | some x=>match posOf mem x with
   | some r=>rowsRes mem r
   | none=>(mem.length,.dead)
  | none=>(mem.length,.dead)
 else if 2000000<=i then match posOf mem (.lit ((i-2000000:Nat):Int))with
  | some r=>r
  | none=>(mem.length,.dead)
 else if 1000000<=i then match args[(i-1000000)/1000]? with
  | some (.sv (.agg l))=>match(l[(i-1000000)%1000]?).bind rootCV with
   | some y=>match posOf mem y with
    | some r=>r
    | none=>(mem.length,.dead)
   | none=>(mem.length,.dead)
  | _=>(mem.length,.dead)
 else if 10000<=i then match args[(i-10000)/100]? with
  | some (.sv (.agg l))=>match(l[(i-10000)%100]?).bind rootCV with
   | some y=>match posOf mem y with
    | some r=>r
    | none=>(mem.length,.dead)
   | none=>(mem.length,.dead)
  | _=>(mem.length,.dead)
 else if 1000<=i then match(args[(i-1000)/100]?).bind rootOf with
  | some x=>match posOf mem x with
   | some (_,.blk _ l _)=>match(l[(i-1000)%100]?).bind rootCV with
    | some y=>match posOf mem y with
     | some r=>r
     | none=>(mem.length,.dead)
    | none=>(mem.length,.dead)
   | some r=>r
   | none=>(mem.length,.dead)
  | none=>(mem.length,.dead)
 else if 200<=i then match(args[i-200]?).bind rootOf with
  | some x=>match posOf mem x with
   | some (_,.blk _ (.map y::_) _)=>match posOf mem y with
    | some r=>r
    | none=>(mem.length,.dead)
   | _=>(mem.length,.dead)
  | none=>(mem.length,.dead)
 else if 100<=i then match posAny mem 0 with
  | some r=>r
  | none=>(mem.length,.dead)
 else match(args[i]?).bind rootOf with
  | some x=>match posOf mem x with
   | some r=>r
   | none=>(mem.length,.dead)
  | none=>(mem.length,.dead)
def Res.turned (n:Nat):Res->Res
 | .blk a _ _=>.hp n [] [.var a] []
 | .hp k vers tags links=>.hp n (k::vers) tags links
 | .dead=>.hp n [] [] []
 | r=>r
def setAll (mem:Mem) (ps:List (Nat×Res)):Mem:=mapIx (fun p r=>match ps.find? fun q=>q.1==p with
 | some q=>q.2
 | none=>r) 0 mem
def argRoots (args:List TV) (l:List Nat):List E:=l.filterMap fun i=>(args[i]?).bind rootOf
def callE (Γ:List Spec) (st:St) (f:FuncId) (args:List TV) (dst:Option Tmp):Option XR :=
 match Γ.findIdx? fun s=>s.fn==f with
 | some j=>match Γ[j]? with
  | some s=>match allSome (s.own.map (selPos args st.mem))with
   | some own =>
    let rd:=s.rd.map (rdRes args st.mem)
    let ps:=own.map (·.1)
    if decide ps.Nodup&&(rd.all fun r=>!ps.contains r.1)then
     let x:X:=.call j st.nv args (own.map (·.2)) (rd.map (·.2))
     let a:=own.zipIdx.map fun q=>(q.1.1,q.1.2.turned (st.nv+q.2))
     let mem:=setAll st.mem a++(if cpRoots 0 s.res=[]then []else [.hp (st.nv+own.length) [] (cpRoots st.nv s.res) (argRoots args s.links)])
     some ⟨({st with mem:=mem,nv:=st.nv+max (cpLen s.res) (own.length+1)} : St).put dst (some (cpTV st.nv s.res)),.pre x,some x⟩
    else none
   | none=>none
  | none=>none
 | none=>none
def enterB (P:Program) (f:FuncId):Bool :=
 match P.funcs[f]? with
 | some fn=>fn.body.isSome&&!(fn.name== "runtime.NumGoroutine")
 | none=>false
def calleeOf (st:St):Operand->Option FuncId
 | .func f=>some f
 | .tmp t=>match st.tmps[t]? with
  | some (some (.sv (.one (.val (.func (.func f) a b)))))=>if a.isEmpty&&b.isEmpty then some f else none
  | _=>none
 | _=>none
def closOf (st:St) (c:Operand):Option (FuncId×List TV) :=
 match calleeOf st c with
 | some f=>some (f,[])
 | none=>match c with
  | .tmp t=>match st.tmps[t]? with
   | some (some (.sv (.one (.clo f x))))=>some (f,[.sv (.one (.hptr x (.lit 0)))])
   | some (some (.sv (.one (.clo2 f x y))))=>some (f,[.sv (.one (.hptr x (.lit 0))),.sv (.one (.hptr y (.lit 0)))])
   | _=>none
  | _=>none
def newBlk (st:St) (l:List CV) (T:TypeId) (dst:Option Tmp) (v:TV):Option XR :=
 if l.all (·.upto st.nv)=true then some ⟨({st with mem:=st.mem++[.blk st.nv l T],nv:=st.nv+1} : St).put dst (some v),.tt,some (.alloc st.nv)⟩else none
def appE (P:Program) (st:St) (t:TypeId) (a b:TV) (dst:Option Tmp):Option XR :=
 match P.underlying t with
 | some (.slice el)=>match P.info? el with
  | some i=>match i.zero with
   | some z=>if z.cells.size=i.size/\0<i.size then
    match a,srcOf st.mem i.size b with
    | .sv (.one (.sl x y l c)),some (src,le)=>if(l.upto st.nv&&le.upto st.nv)=true then
     let n:=st.nv
     let r:TV:=.sv (.one (.sl (.var n) (.lit 0) (mkAdd l le) (.var (n+1))))
     let fin (mem:Mem) (x:X):XR:=⟨({st with mem:=mem,nv:=n+2} : St).put dst (some r),.pre x,some x⟩
     if x=.lit (-1)then
      if y=.lit 0/\l=.lit 0/\c=.lit 0 then
       some (fin (st.mem++[.hp n [] [.var n] []]) (.app n el i.size i.bytes (.sl x y l c) l .dead src))
      else none
     else match posOf st.mem x with
      | some (p,.hp k vers tags links)=>some (fin (st.mem.set p (.hp n (k::vers) (.var n::tags) links)) (.app n el i.size i.bytes (.sl x y l c) l (.hp k vers tags links) src))
      | some (p,.blk a cells T)=>match y,l,c with
       | .lit o,.lit l,.lit c=>if T=el/\o=0 then
        some (fin (st.mem.set p (.hp n [] [.var n,.var a] [])) (.app n el i.size i.bytes (.sl x y (.lit l) (.lit c)) (.lit l) (.blk a cells T) src))
        else if 0<=o/\0<=l/\l<=c/\o.toNat+l.toNat*i.size<=cells.length/\x=.var a then
         some (fin (st.mem++[.hp n [] [.var n] []]) (.grow n el i.size i.bytes ((cells.drop o.toNat).take (l.toNat*i.size)) l.toNat c.toNat src))
        else none
       | _,_,_=>none
      | _=>none
     else none
    | _,_=>none
    else none
   | none=>none
  | none=>none
 | _=>none
def makeE (P:Program) (st:St) (t:TypeId) (a b:TV) (dst:Option Tmp):Option XR :=
 match P.underlying t,a,b with
 | some (.slice el),.sv (.one (.int k l)),.sv (.one (.int d c))=>if l=c then match P.info? el with
  | some i=>match i.zero with
   | some z=>if z.cells.size=i.size/\0<i.size/\l.upto st.nv=true then
    let zs:=z.cells.toList.map liftC
    let n:=st.nv
    let x:X:=.mk n el zs i.bytes l
    match l with
    | .lit m=>if m.toNat*i.size<=128 then
     some ⟨({st with mem:=st.mem++[.blk n (madeCVs zs (m.toNat*i.size)) el],nv:=n+1} : St).put dst (some (.sv (.one (.sl (.var n) (.lit 0) l l)))),.pre x,some x⟩
     else some ⟨({st with mem:=st.mem++[.hp n [] [.var n] []],nv:=n+1} : St).put dst (some (.sv (.one (.sl (.var n) (.lit 0) l l)))),.pre x,some x⟩
    | l=>some ⟨({st with mem:=st.mem++[.hp n [] [.var n] []],nv:=n+1} : St).put dst (some (.sv (.one (.sl (.var n) (.lit 0) l l)))),.pre x,some x⟩
    else none
   | none=>none
  | none=>none
  else none
 | _,_,_=>none
def bslE (P:Program) (st:St) (t:TypeId) (len:Nat) (is:List Nat) (vs:List TV) (dst:Option Tmp):Option XR :=
 match P.underlying t with
 | some (.slice el)=>match sizeT P el,zeroT P el,svs vs with
  | some n,some z,some vs=>if len*n<=4096/\z.cells.size=n then
   match fillE (fun i=>some (i*n,n)) (madeCVs (z.cells.toList.map liftC) (len*n)) (is.zip vs)with
   | some l=>newBlk st l el dst (.sv (.one (.sl (.var st.nv) (.lit 0) (.lit len) (.lit len))))
   | none=>none
   else none
  | _,_,_=>none
 | _=>none
def keyKd (P:Program) (t:TypeId):Option Kd :=
 match P.underlying t with
 | some (.int k)=>some (.int k)
 | some .string=>some .str
 | _=>none
def keyOK:Kd->CV->Bool
 | .int k,.int a _=>decide (k=a)
 | .str,.str _=>true
 | _,_=>false
def mapE (P:Program) (st:St) (op:Op) (dst:Option Tmp):Option XR :=
 match op with
 | .makeMap t none=>match P.underlying t with
  | some (.map _ _)=>some ⟨({st with mem:=st.mem++[.hp st.nv [] [.var st.nv] []],nv:=st.nv+1} : St).put dst (some (.sv (.one (.map (.var st.nv))))),.pre (.mnew st.nv),some (.mnew st.nv)⟩
  | _=>none
 | .lookup t m k ok=>match P.underlying t with
  | some (.map a b)=>match keyKd P a,zeroT P b,aggB P b,opnd st m,opnd st k with
   | some kd,some z,some agg,some (.sv (.one (.map x))),some (.sv (.one key))=>match(fHp st.mem x).bind (fun r=>r.2.hk),lift z with
    | some h,.sv zs =>
     let ks:=z.cells.toList.map ckOf
     if keyOK kd key&&(agg==isAgg z)&&(agg||ks.length==1)then
      let X:X:=.mget st.nv h x kd key zs ks agg
      let v:=mshape st.nv ks agg
      some ⟨({st with nv:=st.nv+ckLen ks+1} : St).put dst (some (if ok then .tup [v,.one (.bool (.bvar (st.nv+ckLen ks)))]else .sv v)),.pre X,some X⟩
     else none
    | _,_=>none
   | _,_,_,_,_=>none
  | _=>none
 | .mapUpdate t m k v=>match P.underlying t with
  | some (.map a _)=>match keyKd P a,opnd st m,opnd st k,opnd st v with
   | some kd,some (.sv (.one (.map x))),some (.sv (.one key)),some (.sv vs)=>if keyOK kd key then match fHp st.mem x with
    | some (p,.hp h vers tags links)=>some ⟨({st with mem:=st.mem.set p (.hp st.nv (h::vers) tags links),nv:=st.nv+1} : St).put dst none,.pre (.mset st.nv h x kd key vs),some (.mset st.nv h x kd key vs)⟩
    | _=>none
    else none
   | _,_,_,_=>none
  | _=>none
 | .call {callee:=.builtin .clear,args,argTypes}=>match args.toList,argTypes.toList with
  | [m],[t]=>match P.underlying t,opnd st m with
   | some (.map _ _),some (.sv (.one (.map x)))=>match fHp st.mem x with
    | some (p,.hp h vers tags links)=>some ⟨({st with mem:=st.mem.set p (.hp st.nv (h::vers) tags links),nv:=st.nv+1} : St).put dst none,.pre (.mclr st.nv h x),some (.mclr st.nv h x)⟩
    | _=>none
   | _,_=>none
  | _,_=>none
 | _=>none
def copySrc (P:Program) (mem:Mem) (el:TypeId) (p L:Nat) (yd n xs ys ls:E):Option (E×(Nat->Option CV)) :=
 match(match xs with | .var bs=>fBlk mem bs | _=>none)with
 | some (q,m,_) =>
  if q=p then none else
  if yd=ys/\m.length=L then some (.tt,fun j=>m[j]?)
  else match yd,ys with
   | .lit o,.lit o'=>if 0<=o/\0<=o' then some (mkLe (mkAdd (.lit o') n) (.lit m.length),fun j=>if o.toNat<=j then m[j-o.toNat+o'.toNat]? else none)else none
   | _,_=>none
 | none=>match yd,(fHp mem xs).bind (fun r=>r.2.hk)with
  | .lit o,some h=>if 0<=o/\isU8 P el=true then some (mkOr (mkAnd (mkEq xs (.lit (-1))) (mkEq ls (.lit 0))) (mkAnd (mkLe (.lit 0) xs) (mkAnd (mkLe (.lit 0) ys) (.hby h xs ys n))),fun j=>if o.toNat<=j then some (.int .u8 (.hI h xs ys (j-o.toNat)))else none)else none
  | _,_=>none
def copyCut (yd ld:E) (src:Nat->Option CV) (j:Nat):Option CV:=match yd,ld with
 | .lit o,.lit l=>if(j:Int)<o+l then src j else none
 | _,_=>src j
def copyIn (yd n:E) (j:Nat):E:=mkAnd (mkLe yd (.lit j)) (mkLt (.lit j) (mkAdd yd n))
def copyCell (c:E) (src:Option CV) (old:CV):Option CV :=
 match src with
 | none=>some old
 | some s=>if s.cellB=true then(if c=.tt then some s else if c=.ff then some old else mergeCV c s old)else none
def copyL (yd n:E) (src:Nat->Option CV):Nat->List CV->Option (List CV)
 | _,[]=>some []
 | j,c::l=>match copyCell (copyIn yd n j) (src j) c,copyL yd n src (j+1) l with
  | some x,some r=>some (x::r)
  | _,_=>none
def copyH (P:Program) (st:St) (el:TypeId) (ad:Nat) (yd ld xs ys ls:E) (dst:Option Tmp):Option XR :=
 match fHp st.mem (.var ad),(fHp st.mem xs).bind (fun r=>r.2.hk)with
 | some (p,.hp k vers tags links),some h=>if isU8 P el=true then
  let x:X:=.cpy st.nv k (.var ad) yd ld h xs ys ls
  some ⟨({st with mem:=st.mem.set p (.hp st.nv (k::vers) tags links),nv:=st.nv+1} : St).put dst none,.pre x,some x⟩
  else none
 | _,_=>none
def copyE (P:Program) (st:St) (t:TypeId) (a b:TV) (dst:Option Tmp):Option XR :=
 match P.underlying t with
 | some (.slice el)=>if sizeT P el=some 1 then match a,b with
  | .sv (.one (.sl (.var ad) yd ld _)),.sv (.one (.sl xs ys ls _))=>match fBlk st.mem ad with
   | some (p,l,T) =>
    let n:=mkIte (mkLt ls ld) ls ld
    match copySrc P st.mem el p l.length yd n xs ys ls with
    | some (k,src)=>match copyL yd n (copyCut yd ld src) 0 l with
     | some l'=>some ⟨({st with mem:=st.mem.set p (.blk ad l' T)} : St).put dst (some (TI .i64 n)),ndE (mkAnd k (mkAnd (mkLe (.lit 0) yd) (mkAnd (mkLe (.lit 0) ld) (mkAnd (mkLe (.lit 0) ls) (mkLe (mkAdd yd n) (.lit l.length)))))),none⟩
     | none=>none
    | none=>none
   | none=>copyH P st el ad yd ld xs ys ls dst
  | _,_=>none
  else none
 | _=>none
def cbsE (P:Program) (st:St) (s d:TypeId) (x:TV) (dst:Option Tmp):Option XR :=
 if s=d then match P.underlying s with
  | some (.slice el)=>if isU8 P el=true/\x.upto st.nv=true then match x with
   | .sv (.one (.sl (.var a) y l c))=>match fBlk st.mem a with
    | some (p,cs,T)=>some ⟨({st with mem:=st.mem.set p (.hp st.nv [] [.var a] []),nv:=st.nv+1} : St).put dst (some (.sv (.one (.sl (.var a) y l c)))),.tt,some (.cbs st.nv a cs T)⟩
    | none=>none
   | _=>none
   else none
  | _=>none
 else none
def mkiE (P:Program) (st:St) (T:TypeId) (x:TV) (dst:Option Tmp):Option XR :=
 match x with
 | .sv v=>match P.underlying T with
  | some (.pointer _) | some (.struct _)=>some ⟨({st with nv:=st.nv+1} : St).put dst (some (.sv (.one (.vr st.nv)))),.tt,some (.mki st.nv T v)⟩
  | _=>none
 | _=>none
def extE (P:Program) (Γ:List Spec) (st:St) (o:Oper):Option XR :=
 if st.upto st.nv=true then
  match o.op with
  | .alloc t=>match zeroT P t with
   | some z=>newBlk st (z.cells.toList.map liftC) t o.dst (TP (.var st.nv) (.lit 0))
   | none=>none
  | .box t x=>match opnd st x with
   | some (.sv v)=>if v.cells.all CV.cellB=true then newBlk st v.cells t o.dst (TP (.var st.nv) (.lit 0))else none
   | _=>none
  | .store t p x=>match opnd st p,opnd st x with
   | some (.sv (.one e)),some (.sv v)=>match storeE P st t e v with
    | some (.inl (n,mem))=>some ⟨({st with mem:=mem} : St).put o.dst none,ndE n,none⟩
    | some (.inr (x,mem))=>some ⟨({st with mem:=mem,nv:=st.nv+1} : St).put o.dst none,.pre x,some x⟩
    | none=>none
   | _,_=>none
  | .makeSlice t l c=>match opnd st l,opnd st c with
   | some a,some b=>makeE P st t a b o.dst
   | _,_=>none
  | .buildSlice t len parts=>match opnds st (parts.toList.map (·.2))with
   | some vs=>bslE P st t len (parts.toList.map (·.1)) vs o.dst
   | none=>none
  | .call {callee:=.builtin .append,args,argTypes}=>match args.toList,argTypes.toList with
   | [a,b],[t,t']=>if t=t' then match opnd st a,opnd st b with
    | some x,some y=>appE P st t x y o.dst
    | _,_=>none
    else none
   | _,_=>none
  | .call {callee:=.builtin .copy,args,argTypes}=>match args.toList,argTypes.toList with
   | [a,b],[t,_]=>match opnd st a,opnd st b with
    | some x,some y=>copyE P st t x y o.dst
    | _,_=>none
   | _,_=>none
  | .convert s d x=>match opnd st x with
   | some x=>cbsE P st s d x o.dst
   | none=>none
  | .makeInterface T x=>match opnd st x with
   | some x=>mkiE P st T x o.dst
   | none=>none
  | .makeMap t none=>mapE P st (.makeMap t none) o.dst
  | .lookup t m k ok=>mapE P st (.lookup t m k ok) o.dst
  | .mapUpdate t m k v=>mapE P st (.mapUpdate t m k v) o.dst
  | .call {callee:=.builtin .clear,args,argTypes}=>mapE P st (.call {callee:=.builtin .clear,args,argTypes}) o.dst
  | .call {callee:=.value c,args,argTypes:=_}=>match calleeOf st c,opnds st args.toList with
   | some f,some vs=>if enterB P f then callE Γ st f vs o.dst else none
   | _,_=>none
  | _=>none
 else none
def takesB (mem:Mem) (x:E):Bool:=match posOf mem x with
 | some (_,.hp _ _ tags _)=>tags.contains (.lit (-7))
 | _=>false
def tvCells:TV->List CV
 | .sv v=>v.cells
 | _=>[]
def mrgT (P:Program) (st:St) (o:Oper):Option (E×List CV) :=
 match o.op with
 | .call {callee:=.builtin .append,args,argTypes}=>match args.toList,argTypes.toList with
  | [a,b],[t,_]=>match P.underlying t with
   | some (.slice el)=>match P.info? el,opnd st a,opnd st b with
    | some i,some (.sv (.one (.sl x _ _ _))),some y=>match srcOf st.mem i.size y with
     | some (.cvs l _,_)=>some (x,l)
     | _=>none
    | _,_,_=>none
   | _=>none
  | _,_=>none
 | .store _ p x=>match opnd st p,opnd st x with
  | some (.sv (.one (.hptr x _))),some (.sv v)=>some (x,v.cells)
  | _,_=>none
 | .call {callee:=.value _,args,argTypes:=_}=>match opnds st args.toList with
  | some (.sv (.one (.hptr x _))::vs)=>if takesB st.mem x then some (x,vs.flatMap tvCells)else none
  | _=>none
 | _=>none
def mrgQ (mem:Mem) (p:Nat):List CV->Option (E×Nat×Res)
 | []=>none
 | c::l=>match(rootCV c).bind (fun y=>(posOf mem y).map fun r=>(y,r))with
  | some (y,q,r)=>if r.own=true/\q≠p then some (y,q,r)else mrgQ mem p l
  | none=>mrgQ mem p l
def Res.ks:Res->List Nat
 | .hp k vers _ _=>k::vers
 | _=>[]
def Res.tagL:Res->List E
 | .hp _ _ tags _=>tags
 | _=>[]
def mrgOf (P:Program) (st:St) (o:Oper):Option (St×X) :=
 match mrgT P st o with
 | some (x,l)=>match posOf st.mem x with
  | some (p,.hp k vers tags links)=>match mrgQ st.mem p l with
   | some (y,q,r)=>if st.upto st.nv=true then some ({st with mem:=(st.mem.set p (.hp st.nv (k::r.ks++vers) (tags++y::r.tagL) links)).set q .dead,nv:=st.nv+1},.mrg st.nv (.hp k vers tags links) r)else none
   | none=>none
  | _=>none
 | none=>none
section
variable {P:Program} {C:Ctx} {ms:Nat->Nat} {S:Nat->Prop} {w0:World} {J J':Env} {st:St} {mem mem':Mem} {a:Act} {w w':World}
def Rel.step (hA:Rel S w0 J st a w) (hu:st.upto st.nv=true) (hg:Agree st.nv J J') (hm:MRel S w0 J' mem' w') (nv:Nat) (d:Option Tmp) (v:Option TV) (x:Value) (hx:∀ y,v=some y->x=y.ev J') :
 Rel S w0 J' (({st with mem:=mem',nv:=nv} : St).put d v) (a.put d x) w' :=
 Rel.put (Rel.tmps_agree hg hu hA hm nv) d v x hx
def St.upto_mem {n:Nat} (h:st.upto n=true):Mem.upto n st.mem=true:=by
 simp only[St.upto,ML]at h;exact h.1.2
def Fin (S:Nat->Prop) (w0:World) (C:Ctx) (J:Env) (st:St) (a:Act) (d:Option Tmp) (R:XR) (K:Act->World->Prop):Prop :=
 ∀ J' x w',Agree st.nv J J'->(match R.x with | some y=>y.rel C J J'/\y.n=st.nv | none=>J'=J)->Rel S w0 J' R.st (a.put d x) w'->K (a.put d x) w'
structure OpJ (P:Program) where
 j:Oper->Act->World->(Act->World->Prop)->(Exit->Act->World->Prop)->Prop
 val:∀ {o:Oper} {a:Act} {w w':World} {v:Value} {K:Act->World->Prop} {Q:Exit->Act->World->Prop},(execOp a.eval o).run P w=.ok (.value v) w'->K (a.put o.dst v) w'->j o a w K Q
 skip:∀ {o:Oper} {a:Act} {w w':World} {K:Act->World->Prop} {Q:Exit->Act->World->Prop},(execOp a.eval o).run P w=.ok .skip w'->K (a.put o.dst undef) w'->j o a w K Q
 call:∀ {o:Oper} {a:Act} {w:World} {f:FuncId} {xs:Array Value} {K:Act->World->Prop} {Q:Exit->Act->World->Prop},(execOp a.eval o).run P w=.ok (.enter f xs) w->(Calls P f xs w fun e w'=>∃ v,e=.returned v/\K (a.put o.dst v) w')->j o a w K Q
def wpJ (P:Program):OpJ P where
 j o a w K Q:=o.wp P a w K Q
 val h hK:=by unfold Oper.wp;rw[h];exact hK
 skip h hK:=by unfold Oper.wp;rw[h];exact hK
 call h b:=by
  unfold Oper.wp;rw[h];refine b.mono fun e w' ⟨v,he,hk⟩=>?_;subst he;exact hk
variable {W:OpJ P}
def wp_value {o:Oper} (h:(execOp a.eval o).run P w=.ok (.value v) w') (hK:K (a.put o.dst v) w'):W.j o a w K Q:=W.val h hK
def wp_skip' {o:Oper} (h:(execOp a.eval o).run P w=.ok .skip w') (hK:K (a.put o.dst undef) w'):W.j o a w K Q:=W.skip h hK
def newBlk_sound {v:TV} (h:newBlk st l T d v=some R) (hu:st.upto st.nv=true) (hA:Rel S w0 J st a w) (hK:Fin S w0 C J st a d R K)
 {cs:Array Value} (c:cs=(l.map (CV.ev J)).toArray) {x:Value} (hx:∀ J',Agree st.nv J J'->J'.i st.nv=w.heap.size->x=v.ev J'):K (a.put d x) (w.alloc (.cells cs T)):=by
 unfold newBlk at h;split at h
 .rename_i hl;cases h
  let J':=J.setI st.nv w.heap.size
  have hg:Agree st.nv J J':=agree_setI _ _ _ (M1 _);have hi:J'.i st.nv=w.heap.size:=setI_i _ _ _;refine hK J' x _ hg ⟨show 0<=J'.i st.nv by rw[hi];omega,rfl⟩ (Rel.step hA hu hg ?_ _ _ _ _ (fun y hy=>by cases hy;exact hx J' hg hi));refine hA.toMRel.add rfl rfl rfl ar (fun b hb=>RowKit.Below.heap_alloc w _ b hb) (Mem.agree hg (St.upto_mem hu)) ?_ (by show 0<=J'.i st.nv;rw[hi];omega) ?_
  .intro b o hb;obtain⟨rfl,rfl⟩:=Hl.one_eq hb;rw[hi,MD,CV.agreeL hg l hl,c];exact heap_alloc_new w _
  .intro b hb;rw[show b=(J'.i st.nv).toNat from Hl.one_mem.1 hb,hi,MD];exact M1 _
 .cases h
def set_same {α:Type} : ∀ (l:List α) (k:Nat) (x:α),l[k]?=some x->l.set k x=l
 | [],_,_,_=>rfl
 | y::l,0,x,h=>by simp at h;simp [h]
 | y::l,k+1,x,h=>by simp at h;simp [set_same l k x h]
def updSel_sound {l:List CV} {o s:Nat} {i:E} {c:CV} (h0:0<=iev J i):∀ (m:Nat) (l':List CV),storeE.updSel l o s i c m=some l' ->
 l'.length=l.length/\l'.map (CV.ev J)=if iev J i<m then(l.map (CV.ev J)).set (o+s*(iev J i).toNat) (c.ev J)else l.map (CV.ev J)
 | 0,l',h=>by
  cases h;refine⟨rfl,?_⟩;rw[MM (by simpa using h0)]
 | m+1,l',h=>by
  simp only[storeE.updSel]at h;split at h
  .rename_i b h1;split at h
   .rename_i old hold;split at h
    .rename_i v hv;cases h;obtain⟨e1,a⟩:=updSel_sound h0 m b h1;refine⟨by simp [e1],?_⟩;have hm:=mergeCV_ev (J:=J) hv;rw[bev_mkEq,iev_lit]at hm;rw[List.map_set];by_cases d:iev J i=(m:Int)
     .have e:(iev J i).toNat=m:=ae;rw[MM ae]at a;rw[M0 (show iev J i<((m+1:Nat):Int)by omega),e,a,hm,M0 (by simpa using d)]
     .rw[MM (by simpa using d)]at hm;rw[hm,set_same _ _ _ (show(b.map (CV.ev J))[o+s*m]?=some (old.ev J)by simp [hold]),a];by_cases hi:iev J i<m
      .rw[M0 hi,M0 ae]
      .rw[MM hi,MM ae]
    .cases h
   .cases h
  .cases h
def MRel.setBlk (h:MRel S w0 J mem w) (hp:mem[p]?=some (.blk b l T)) (d:cs=(l'.map (CV.ev J)).toArray) :
 MRel S w0 J (mem.set p (.blk b l' T)) (w.setRow (J.i b).toNat cs):=by
 refine h.set hp rfl rfl rfl rfl ar (fun c _ hn=>setRow_other w _ c _ (fun e=>hn (Hl.one_mem.2 e))) (fun s _=>⟨rfl,id⟩) ?_ (show 0<=J.i b from h.pos _ (MG hp)) ?_
 .intro c o a;obtain⟨rfl,rfl⟩:=Hl.one_eq a;rw[d];exact setRow_heap w _ _ _ T _ (h.blk hp)
 .intro c a;exact Or.inl (Hl.one_mem.2 (Hl.one_mem.1 a))
def storeVar_cells {o:Nat} {v:SV} (hs:sizeT P t=some v.cells.length) (h1:v.cells.all CV.cellB=true) (hle:o+v.cells.length<=l.length)
 (hb:w.heap[b]?=some (.cells (l.map (CV.ev J)).toArray T (0,0))) :
 (storeVar t ⟨b,o,none⟩ (v.ev J)).run P w=.ok () (w.setRow b ((splice l o v.cells).map (CV.ev J)).toArray):=by
 unfold storeVar;have a:=SV.cells_ev (J:=J) v h1;have hsz:(v.ev J).cells.size=v.cells.length:=by rw[<-Of,a];simp
 simp only[Sem.run_bind,sizeT_run hs,Result.andThen_ok,hsz,ne_eq,OJ,Om];rw[a];have:=run_storeCells_at (P:=P) b o T (v.cells.map (CV.ev J)) 0 (l.map (CV.ev J)).toArray w hb (by simp;omega)
  (fun x hx=>by
   obtain⟨c,d,rfl⟩:=Np.1 hx;exact CV.cell_one c (M8.1 h1 c d))
 simp only[NH]at this;simp only[this]
 congr 2
 simp [splice,M9,Pa,Pt]
def storeE_inl (hA:MRel S w0 J st.mem w) {p:CV} {v:SV} (h:storeE P st t p v=some (.inl (k,mem'))) (hk:bev J k=true) :
 ∃ q w',p.ev J=.pointer (some q)/\(storeVar t q (v.ev J)).run P w=.ok () w'/\MRel S w0 J mem' w':=by
 unfold storeE at h;split at h
 .rename_i b o s m i;split at h
  .rename_i q l T c hb;split at h
   .rename_i d;simp only[MN,Sum.inl.injEq,Nr]at h;obtain⟨l',e,rfl,rfl⟩:=h;obtain⟨h0,h1⟩:=inB_sound hk;obtain⟨e1,j⟩:=updSel_sound (c:=c) h0 m l' e;rw[M0 h1]at j;have f:=d.2.2 (iev J i).toNat ae;have hp:=fBlk_sound hb;have a:0<=J.i b:=hA.pos _ (MG hp);refine⟨_,_,by simp only[CV.ev];rw[pti_nat h0,slP_pos a,MD],storeVar_cells (v:=.one c) d.1 (by simp [SV.cells,d.2.1]) (by simp only[SV.cells,Nq];omega) (hA.blk hp),?_⟩;refine hA.setBlk hp ?_;rw[j];simp only[splice,SV.cells,M9,Pa,Pt,M6,NN,Nq];rw[List.set_eq_take_append_cons_drop,M0 (by simpa using f)];simp
   .cases h
  .cases h
 .rename_i x y;split at h
  .rename_i d;split at h
   .rename_i b q l T o g;obtain⟨rfl,rfl,hp⟩:=knownP_sound g;split at h
    .rename_i hle;cases h;have a:0<=J.i b:=hA.pos _ (MG hp);exact⟨_,_,by simp only[CV.ev,iev_var,iev_lit];rw[slP_pos a,MD],storeVar_cells d.1 d.2 hle (hA.blk hp),hA.setBlk hp rfl⟩
    .cases h
   .split at h<;>cases h
  .cases h
 .cases h
def storeE_inr (hA:Rel S w0 J st a w) (hu:st.upto st.nv=true) {p:CV} {v:SV} {x:X} (h:storeE P st t p v=some (.inr (x,mem'))) (hk:x.pre C J) :
 ∃ q w' J',p.ev J=.pointer (some q)/\(storeVar t q (v.ev J)).run P w=.ok () w'/\Agree st.nv J J'/\x.rel C J J'/\x.n=st.nv/\MRel S w0 J' mem' w':=by
 unfold storeE at h;split at h
 .split at h
  .split at h
   .simp at h
   .cases h
  .cases h
 .rename_i x y;split at h
  .rename_i g;split at h
   .split at h<;>cases h
   .split at h
    .rename_i q k vers tags links hf;cases h;have hp:=fHp_sound hf;obtain⟨hx,hy,hw⟩:=hk;have hsub:(J.h k).sub w:=hA.sub _ (MG hp);have i:=SV.cells_ev (J:=J) v g.2;obtain⟨cs,f,d⟩:=store_hl (P:=P) hsub (t:=t) (vs:=v.cells.map (CV.ev J)) (by simpa using g.1) i
      (fun u hu=>by obtain⟨c,j,rfl⟩:=Np.1 hu;exact CV.cell_one c (M8.1 g.2 c j)) (by simpa using hw)
     let H':=(J.h k).put (iev J x).toNat (iev J y).toNat (v.cells.map (CV.ev J))
     let J':=J.setH st.nv H'
     have hg:Agree st.nv J J':=agree_setH _ _ _ (M1 _);have hh:J'.h st.nv=H':=setH_h _ _ _;refine⟨_,_,J',by simp only[CV.ev];rw[slP_pos hx],f,hg,hh,rfl,?_⟩;have l:(J.h k).mem (iev J x).toNat:=by
      obtain⟨c,T,o,m,_⟩:=wr_cells hw;unfold Hl.mem;rw[m];rfl
     refine hA.toMRel.set hp rfl rfl rfl rfl ar (fun b _ hn=>setRow_other w _ b _ (fun e=>hn (by subst e;exact l))) (Mem.agree hg (St.upto_mem hu)) ?_ trivial ?_
     .show(J'.h st.nv).sub _;rw[hh];exact d
     .intro b hb;have hb:(J'.h st.nv).mem b:=hb;rw[hh]at hb;exact Or.inl (Hl.put_mem.1 hb)
    .cases h
  .cases h
 .cases h
end
section
variable {P:Program} {C:Ctx} {ms:Nat->Nat} {S:Nat->Prop} {w0:World} {J J':Env} {st:St} {mem mem':Mem} {a:Act} {w w':World}
def madeCVs_ev {zs:List Value} (hz:z.map (CV.ev J)=zs) (hp:0<zs.length) (n:Nat):(madeCVs z n).map (CV.ev J)=(madeCells zs.toArray n).toList:=by
 have hlen:z.length=zs.length:=by rw[<-hz];simp
 unfold madeCVs madeCells;simp only[NY,Array.toList_map,Array.toList_range];refine NL fun j _=>?_;simp only[Function.comp,OL];have a:j%z.length<z.length:=Qg _ ae;rw[MR,ME a,Oe];have h2:zs[j%zs.length]?=some ((z[j%z.length]).ev J):=by
  rw[<-hz,MU,M7,ME a];rfl
 rw[getElem!_def];simp [h2]
def srcOf_sound (hm:MRel S w0 J mem w) {t:TV} {src:Src} (h:srcOf mem size t=some (src,le)) (hok:src.ok J size) :
 SrcAt w (t.ev J) (src.len J) (src.vals J size)/\(src.vals J size).length=src.len J*size/\(∀ u∈src.vals J size,u.oneCell'=true)/\iev J le=src.len J:=by
 unfold srcOf at h;split at h
 .rename_i x y l c;split at h
  .rename_i hx;split at h
   .rename_i e;cases h;obtain⟨rfl,rfl,rfl⟩:=e;subst hx;exact⟨Or.inr ⟨⟨_,rfl⟩,rfl,rfl⟩,by simp [Src.vals,Src.len],by simp [Src.vals],rfl⟩
   .cases h
  .split at h
   .rename_i a p cs T o m f;obtain⟨rfl,rfl,hp⟩:=knownP_sound f;split at h
    .rename_i e;cases h;have b:0<=J.i a:=hm.pos _ (MG hp);refine⟨Or.inl ⟨⟨(J.i a).toNat,o,none⟩,(iev J c).toNat,?_,?_⟩,?_,?_,?_⟩
     .simp only[TV.ev,SV.ev,CV.ev,iev_var,iev_lit,Src.len];rw[slP_pos b,MD]
     .intro j u hu;rw[addr_add];simp only[Src.vals,MU,NB]at hu;simp only[World.cell?,hm.blk hp];split at hu
      .rw[Nm]at hu;simpa using hu
      .simp at hu
     .simp only[Src.vals,Src.len,M7,M3,Nj];omega
     .intro u hu;simp only[Src.vals]at hu;obtain⟨q,r,rfl⟩:=Np.1 hu;exact CV.cell_one q (M8.1 e.2.2 q r)
     .simp only[iev_lit,Src.len];omega
    .cases h
   .split at h
    .rename_i l _ _ _ _ k hk;have hsub:=fHp_hk hm hk;obtain⟨e1,s⟩:Src.seg k x y l=src/\l=le:=by simpa using h
     subst e1;subst s;rcases hok with ⟨hx,hy,hl,n⟩ | hl
     .refine⟨Or.inl ⟨⟨(iev J x).toNat,(iev J y).toNat,none⟩,(iev J c).toNat,?_,?_⟩,?_,?_,?_⟩
      .simp only[TV.ev,SV.ev,CV.ev,Src.len];rw[slP_pos hx]
      .intro j u hu;rw[addr_add];simp only[Src.vals,segVals,MU]at hu;by_cases d:j<(iev J l).toNat*size
       .rw[Nf d]at hu;simp only[Nl,MP]at hu;obtain⟨v,hv,_⟩:=n j d;rw[hv,Oe]at hu;subst hu;exact Hl.sub_cell hsub hv
       .rw[MS (by simp;omega)]at hu;cases hu
      .simp [Src.vals,Src.len,segVals]
      .intro u hu;simp only[Src.vals,segVals]at hu;obtain⟨j,g,rfl⟩:=Np.1 hu;obtain⟨v,hv,h1⟩:=n j (Nn.1 g);rw[hv];exact h1
      .simp only[Src.len];omega
     .refine⟨?_,?_,?_,?_⟩
      .cases hp:slP (iev J x) (iev J y)with
       | none =>
        refine Or.inr ⟨⟨(iev J c).toNat,?_⟩,?_,?_⟩
        .simp only[TV.ev,SV.ev,CV.ev,hp,hl];rfl
        .simp [Src.len,hl]
        .simp [Src.vals,segVals,hl]
       | some a0 =>
        refine Or.inl ⟨a0,(iev J c).toNat,?_,?_⟩
        .simp only[TV.ev,SV.ev,CV.ev,hp,Src.len]
        .intro j u hu;simp [Src.vals,segVals,hl]at hu
      .simp [Src.vals,Src.len,segVals,hl]
      .simp [Src.vals,segVals,hl]
      .simp [Src.len,hl]
    .cases h
 .cases h
def appE_sound (hA:Rel S w0 J st a w) (hu:st.upto st.nv=true) {x:TV} (h:appE P st t x y d=some R) (hn:R.need.holds C ms J)
 {K:Act->World->Prop} (hK:Fin S w0 C J st a d R K):∃ v' w',(Builtin.append_ #[t,t] ty #[x.ev J,y.ev J]).run P w=.ok v' w'/\K (a.put d v') w':=by
 unfold appE at h;split at h
 .rename_i el X;split at h
  .rename_i i hi;split at h
   .rename_i z hz;split at h
    .rename_i I;split at h
     .rename_i sx sy sl sc src le F;split at h
      .rename_i E;simp only[ML]at E;simp only at h;have fin:∀ (mem':Mem) (H:Res) (Y:(H.hl J).sub w) (R':XR),R'=⟨({st with mem:=mem',nv:=st.nv+2} : St).put d (some (.sv (.one (.sl (.var st.nv) (.lit 0) (mkAdd sl le) (.var (st.nv+1)))))),.pre (.app st.nv el i.size i.bytes (.sl sx sy sl sc) sl H src),some (.app st.nv el i.size i.bytes (.sl sx sy sl sc) sl H src)⟩ ->
        R'.need.holds C ms J->Fin S w0 C J st a d R' K ->
        (∀ w' (H':Hl) J',w.grownBy w' (CV.ev J (.sl sx sy sl sc)).ownBlock->Agree st.nv J J'->H'.sub w'->J'.h st.nv=H'->(∀ b,H'.mem b->(H.hl J).mem b\/w.heap.size<=b)->(∀ b,(CV.ev J (.sl sx sy sl sc)).ownBlock=some b->(H.hl J).mem b)->MRel S w0 J' mem' w') ->
        ∃ v' w',(Builtin.append_ #[t,t] ty #[TV.ev J (.sv (.one (.sl sx sy sl sc))),y.ev J]).run P w=.ok v' w'/\K (a.put d v') w':=by
        intro mem' H Y R' Z hn hK U;subst Z;obtain⟨⟨xs,m⟩,aj,hok,L,hby⟩:=hn;obtain⟨s1,s2,s3,s4⟩:=srcOf_sound hA.toMRel F hok;obtain⟨v',w',H',hr,o1,o2,o3,o4,o5,o6,o7⟩:=append_own (P:=P) (ty:=ty) Y X hi hz rfl rfl I.1 I.2 m s2 s1 s3 L hby;obtain⟨x',c',aa,ab,ad⟩:∃ x' c':Int,v'=.slice (slP x' 0) ((iev J sl).toNat+src.len J) c'.toNat/\ -1<=x'/\0<=c':=by
         rcases o1.2 with ⟨rfl,h0⟩ | ⟨g,cap,cur,rfl,_⟩
         .exact⟨-1,0,by rw[h0];rfl,ae,ae⟩
         .exact⟨g,cap,by rw[slP_pos ae];simp,ae,ae⟩
        subst aa
        let J':=((J.setI st.nv x').setI (st.nv+1) c').setH st.nv H'
        have hg:Agree st.nv J J':=((agree_setI _ _ _ (M1 _)).trans (agree_setI _ _ _ ae)).trans (agree_setH _ _ _ (M1 _));have e1:J'.i st.nv=x':=by show((J.setI st.nv x').setI (st.nv+1) c').i st.nv=x';rw[setI_ne _ _ _ _ ae,setI_i]
        have M:J'.i (st.nv+1)=c':=by show((J.setI st.nv x').setI (st.nv+1) c').i (st.nv+1)=c';rw[setI_i]
        have D:J'.h st.nv=H':=setH_h _ _ _;have A:∀ b,(CV.ev J (.sl sx sy sl sc)).ownBlock=some b->(H.hl J).mem b:=by
         intro b hb;simp only[SV.ev,CV.ev]at m hb;rcases m.2 with ⟨N,_⟩ | ⟨g,cap,cur,N,O,_⟩
         .rw[N]at hb;cases hb
         .rw[N]at hb;cases hb;unfold Hl.mem;rw[O];rfl
        have uq:∀ v,OwnsH (H.hl J) el i.size (CV.ev J (.sl sx sy sl sc)) (iev J sl).toNat v->v=xs:=by
         intro v r;rcases m.2 with ⟨N,h0⟩ | ⟨g,cap,cur,N,O,_,_,_,X⟩
         .have a1:=m.1;have a2:=r.1;rw[h0]at a1 a2;have b1:xs=[]:=Oo (by simpa using a1);have b2:v=[]:=Oo (by simpa using a2);rw[b1,b2]
         .rcases r.2 with ⟨B,h0⟩ | ⟨g',ai,cur',B,G,_,_,_,af⟩
          .rw[N]at B;cases B
          .rw[N]at B;cases B;rw[O]at G;cases G;rw[<-X,<-af]
        refine⟨_,w',hr,hK J' _ w' hg ⟨⟨by rw[e1];exact ab,by rw[M];exact ad,?_,?_,?_,?_⟩,rfl⟩ (Rel.step hA hu hg (U w' H' J' o3 hg o2 D (fun b hb=>(o5 b hb).imp id And.right) A) _ _ _ _ ?_)⟩
        .intro v r;have:=uq v r;subst this;rw[e1,M,D];exact o1
        .intro b hb ag;rw[D];exact o4 b hb ag
        .refine⟨?_,fun v r=>by have:=uq v r;subst this;rw[D];exact o7⟩;intro b hb;rw[D]at hb;rcases o5 b hb with h | ⟨h,_⟩
         .exact Or.inl h
         .right;rw[e1];by_cases hx:0<=x'
          .rw[slP_pos hx]at h;simp only[Value.ownBlock,MP]at h;exact⟨h.symm,hx⟩
          .have:x'= -1:=ae;rw[this]at h;cases h
        .rw[e1];by_cases hx:0<=x'
         .rcases o6 with h | ⟨b,hb,hl⟩
          .left;rw[<-h,slP_pos hx];rfl
          .right;left;rw[slP_pos hx]at hb;simp only[Value.ownBlock,MP]at hb;intro hm;have:=Hl.sub_lt Y hm;omega
         .right;right;omega
        .intro u s;cases s;simp only[TV.ev,SV.ev,CV.ev,iev_var,iev_lit,e1,M,iev_mkAdd,iev_agree hg E.1,iev_agree hg E.2,s4]
         congr 1
         omega
       split at h
       .rename_i hx;split at h
        .cases h;refine fin _ .dead (fun b o hb=>by cases hb) _ rfl hn hK ?_;intro w' H' J' f hg hs he hd A;have m:(CV.ev J (.sl sx sy sl sc)).ownBlock=none:=by
          cases hb:(CV.ev J (.sl sx sy sl sc)).ownBlock with
          | none=>rfl
          | some b=>have:=A b hb;cases this
         rw[m]at f;refine hA.toMRel.add f.os f.tape f.output f.size (fun b hb=>f.block b hb ar) (Mem.agree hg (St.upto_mem hu)) (by show(J'.h st.nv).sub w';rw[he];exact hs) trivial ?_;intro b hb;have hb:(J'.h st.nv).mem b:=hb;rw[he]at hb;rcases hd b hb with h | h
         .cases h
         .exact h
        .cases h
       .split at h
        .rename_i p k vers tags links hp;cases h;have hp:=posOf_sound hp;refine fin _ (.hp k vers tags links) (hA.sub _ (MG hp)) _ rfl hn hK ?_;intro w' H' J' f hg hs he hd A;refine hA.toMRel.set hp rfl f.os f.tape f.output f.size (fun b hb Q=>f.block b hb (fun e=>Q (A b e.symm))) (Mem.agree hg (St.upto_mem hu)) (by show(J'.h st.nv).sub w';rw[he];exact hs) trivial ?_;intro b hb;have hb:(J'.h st.nv).mem b:=hb;rw[he]at hb;exact hd b hb
        .rename_i p b cells T hp;split at h
         .rename_i o l c;split at h
          .cases h;have hp:=posOf_sound hp;refine fin _ (.blk b cells T) (hA.sub _ (MG hp)) _ rfl hn hK ?_;intro w' H' J' f hg hs he hd A;refine hA.toMRel.set hp rfl f.os f.tape f.output f.size (fun b hb Q=>f.block b hb (fun e=>Q (A b e.symm))) (Mem.agree hg (St.upto_mem hu)) (by show(J'.h st.nv).sub w';rw[he];exact hs) trivial ?_;intro b hb;have hb:(J'.h st.nv).mem b:=hb;rw[he]at hb;exact hd b hb
          .split at h
           .rename_i hc;obtain⟨c0,c1,c2,c3,rfl⟩:=hc;cases h;have hp:=posOf_sound hp;obtain⟨hok,zJ,L,hby⟩:=hn;obtain⟨s1,s2,s3,s4⟩:=srcOf_sound hA.toMRel F hok;have V:0<=J.i b:=hA.pos _ (MG hp);have hb:=hA.toMRel.blk hp;obtain⟨W,ob,hr,ho⟩:=append_grow (P:=P) (w:=w) (ty:=ty) X hi hz rfl rfl I.1 (b:=⟨(J.i b).toNat,o.toNat,none⟩) (n:=l.toNat) (cap:=c.toNat) (olds:=((cells.drop o.toNat).take (l.toNat*i.size)).map (CV.ev J))
             (by simp only[M7,M3,Nj];omega)
             (fun j u s=>by
              rw[addr_add];simp only[MU,NB]at s;simp only[World.cell?,hb];split at s
              .rw[Nm]at s;simpa using s
              .simp at s) s2 s1 zJ ae L hby
            let J':=((J.setI st.nv w.heap.size).setI (st.nv+1) W).setH st.nv (Hl.one w.heap.size ob)
            have hg:Agree st.nv J J':=((agree_setI _ _ _ (M1 _)).trans (agree_setI _ _ _ ae)).trans (agree_setH _ _ _ (M1 _));have e1:J'.i st.nv=w.heap.size:=by show((J.setI st.nv w.heap.size).setI (st.nv+1) W).i st.nv=_;rw[setI_ne _ _ _ _ ae,setI_i]
            have M:J'.i (st.nv+1)=W:=by show((J.setI st.nv w.heap.size).setI (st.nv+1) W).i (st.nv+1)=_;rw[setI_i]
            have D:J'.h st.nv=Hl.one w.heap.size ob:=setH_h _ _ _;refine⟨_,_,?_,hK J' (.slice (some ⟨w.heap.size,0,none⟩) (l.toNat+src.len J) W) (w.drew.alloc ob) hg ⟨⟨by rw[e1];omega,by rw[M];omega,?_,?_⟩,rfl⟩ (Rel.step hA hu hg ?_ _ _ _ _ ?_)⟩
            .simp only[TV.ev,SV.ev,CV.ev,iev_var,iev_lit];have ah:slP (J.i b) o=some ⟨(J.i b).toNat,o.toNat,none⟩:=slP_pos V;rw[ah];exact hr
            .rw[e1,M,D,slP_pos ae];simpa using ho
            .intro b' q;rw[D]at q;rw[e1,Hl.one_mem.1 q];simp
            .refine hA.toMRel.add rfl rfl rfl ar (fun b' q=>RowKit.Below.heap_alloc w.drew _ b' q) (Mem.agree hg (St.upto_mem hu)) ?_ trivial ?_
             .show(J'.h st.nv).sub _;rw[D];intro b' o' q;obtain⟨rfl,rfl⟩:=Hl.one_eq q;exact heap_alloc_new w.drew _
             .intro b' q;have q:(J'.h st.nv).mem b':=q;rw[D]at q;rw[Hl.one_mem.1 q];exact M1 _
            .intro u s;cases s;simp only[TV.ev,SV.ev,CV.ev,iev_var,iev_lit,e1,M,iev_mkAdd,iev_agree hg E.2,s4];rw[slP_pos ae];simp;omega
           .cases h
         .cases h
        .cases h
      .cases h
     .cases h
    .cases h
   .cases h
  .cases h
 .cases h
end
section
variable {P:Program} {C:Ctx} {ms:Nat->Nat} {S:Nat->Prop} {w0:World} {J J':Env} {st:St} {mem mem':Mem} {a:Act} {w w':World}
def Env.shift (J r:Env) (n:Nat) (hs:Nat->Hl):Env where
 i:=fun k=>if n<=k then r.i (k-n)else J.i k
 b:=fun k=>if n<=k then r.b (k-n)else J.b k
 s:=fun k=>if n<=k then r.s (k-n)else J.s k
 v:=fun k=>if n<=k then r.v (k-n)else J.v k
 h:=fun k=>if n<=k then hs (k-n)else J.h k
def shift_agree (J r:Env) (n:Nat) (hs:Nat->Hl):Agree n J (J.shift r n hs) :=
 ⟨fun k hk=>MM ae,fun k hk=>MM ae,fun k hk=>MM ae,fun k hk=>MM ae,fun k hk=>MM ae⟩
def shift_h (J r:Env) (n:Nat) (hs:Nat->Hl) (k:Nat):(J.shift r n hs).h (n+k)=hs k:=by simp [Env.shift]
section
variable (J r:Env) (n:Nat) (hs:Nat->Hl)
def ck_shift (m:Nat) (k:Ck):(k.cv (n+m)).ev (J.shift r n hs)=(k.cv m).ev r:=by
 have e:∀ j,n<=n+m+j:=fun j=>ae;have d:∀ j,n+m+j-n=m+j:=fun j=>ae;have e0:n<=n+m:=ae;have d0:n+m-n=m:=ae;cases k<;>simp [Ck.cv,CV.ev,iev_var,bev_bvar,sev_svar,Env.shift,e,d,e0,d0]<;>rfl
def ckCVs_shift:∀ (ks:List Ck) (m:Nat),(ckCVs (n+m) ks).map (CV.ev (J.shift r n hs))=(ckCVs m ks).map (CV.ev r)
 | [],_=>rfl
 | k::ks,m=>by simp only[ckCVs,M6,ck_shift,Ow,ckCVs_shift ks (m+k.len)]
def cp_shift (m:Nat) (c:Cp):(c.sv (n+m)).ev (J.shift r n hs)=(c.sv m).ev r:=by
 cases c with
 | one k=>exact ck_shift J r n hs m k
 | agg ks=>simp only[Cp.sv,SV.ev,ckCVs_shift]
def cpSVs_shift:∀ (l:List Cp) (m:Nat),(cpSVs (n+m) l).map (SV.ev (J.shift r n hs))=(cpSVs m l).map (SV.ev r)
 | [],_=>rfl
 | c::l,m=>by simp only[cpSVs,M6,cp_shift,Ow,cpSVs_shift l (m+c.len)]
def ckNorm_shift (m:Nat) (k:Ck):ckNorm (n+m) (J.shift r n hs) k↔ckNorm m r k:=by
 have e:∀ j,n<=n+m+j:=fun j=>ae;have d:∀ j,n+m+j-n=m+j:=fun j=>ae;have e0:n<=n+m:=ae;have d0:n+m-n=m:=ae;cases k<;>simp [ckNorm,Env.shift,e,d,e0,d0]
def ckNorms_shift:∀ (ks:List Ck) (m:Nat),ckNorms (n+m) ks (J.shift r n hs)↔ckNorms m ks r
 | [],_=>Qd
 | k::ks,m=>by simp only[ckNorms,ckNorm_shift,Ow,ckNorms_shift ks (m+k.len)]
def cpNorms_shift:∀ (l:List Cp) (m:Nat),cpNorms (n+m) l (J.shift r n hs)↔cpNorms m l r
 | [],_=>Qd
 | c::l,m=>by
  have h:cpNorm (n+m) (J.shift r n hs) c↔cpNorm m r c:=by
   cases c with
   | one k=>exact ckNorm_shift J r n hs m k
   | agg ks=>exact ckNorms_shift J r n hs ks m
  simp only[cpNorms,h,Ow,cpNorms_shift l (m+c.len)]
def cpTV_shift (l:List Cp):(cpTV n l).ev (J.shift r n hs)=(cpTV 0 l).ev r:=by
 unfold cpTV;split
 .exact cp_shift J r n hs 0 _
 .have:=cpSVs_shift J r n hs l 0;rw[NH]at this;simp only[TV.ev,this]
end
def setAll_get (mem:Mem) (ps:List (Nat×Res)) (q:Nat):(setAll mem ps)[q]?=(mem[q]?).map fun r=>match ps.find? fun x=>x.1==q with | some x=>x.2 | none=>r:=by
 unfold setAll;exact mapIx_get0
def setAll_length (mem:Mem) (ps:List (Nat×Res)):(setAll mem ps).length=mem.length:=by simp [setAll]
def selPos_sound {s:Sel} {r:Res} (h:selPos args mem s=some (p,r)):mem[p]?=some r/\r.own=true:=by
 unfold selPos at h;split at h
 .split at h
  .split at h
   .rename_i hp;split at h
    .cases h;exact⟨posOf_sound hp,‹_›⟩
    .cases h
   .cases h
  .cases h
 .split at h
  .split at h
   .split at h
    .split at h
     .rename_i hp;split at h
      .cases h;exact⟨posOf_sound hp,‹_›⟩
      .cases h
     .cases h
    .cases h
   .split at h
    .split at h
     .rename_i hp;split at h
      .cases h;exact⟨posOf_sound hp,‹_›⟩
      .cases h
     .cases h
    .cases h
   .cases h
  .cases h
 .split at h
  .split at h
   .split at h
    .split at h
     .split at h
      .split at h
       .rename_i hp;split at h
        .cases h;exact⟨posOf_sound hp,‹_›⟩
        .cases h
       .cases h
      .cases h
     .cases h
    .cases h
   .cases h
  .cases h
def rowsRes_sound {mem:Mem} {r:Nat×Res} (h:mem[r.1]?=some r.2):mem[(rowsRes mem r).1]?=some (rowsRes mem r).2\/(rowsRes mem r=(mem.length,.dead)):=by
 unfold rowsRes;split
 .split
  .split
   .rename_i q hp;left;exact posOf_sound (p:=q.1) (r:=q.2) hp
   .right;rfl
  .right;rfl
 .split
  .left;exact h
  .split
   .rename_i q hp;left;have:=(posAny_sound (q:=q.1) (r:=q.2) hp).2;simpa using this
   .left;exact h
 .left;exact h
def blkOf_sound:∀ {mem:Mem} {t:TypeId} {k:Nat} {r:Nat×Res},blkOf mem t k=some r->k<=r.1/\mem[r.1-k]?=some r.2
 | [],_,_,_,h=>by simp [blkOf]at h
 | s::m,t,k,r,h=>by
  have step:∀ {r},blkOf m t (k+1)=some r->k<=r.1/\(s::m)[r.1-k]?=some r.2:=fun {r} h=>by
   obtain⟨h1,h2⟩:=blkOf_sound h;refine⟨ae,?_⟩;rw[show r.1-k=(r.1-(k+1))+1 by omega,NC];exact h2
  cases s with
  | blk a l T =>
   simp only[blkOf]at h;split at h
   .rename_i r' hr;cases h;exact step hr
   .split at h
    .cases h;exact⟨M1 _,ar⟩
    .cases h
  | _=>exact step h
def rdRes_sound (args:List TV) (mem:Mem) (i:Nat):mem[(rdRes args mem i).1]?=some (rdRes args mem i).2\/(rdRes args mem i=(mem.length,.dead)):=by
 unfold rdRes;by_cases a:7000000<=i
 .rw[M0 a];cases hp:blkOf mem (i-7000000) 0 with
  | some r=>left;have:=(blkOf_sound hp).2;simpa using this
  | none=>right;rfl
 rw[MM a];by_cases b:6000000<=i
 .rw[M0 b];cases hp:mem[i-6000000]? with
  | some r=>left;exact hp
  | none=>right;rfl
 rw[MM b];split
 .split
  .split
   .split
    .split
     .rename_i r hp;left;exact posOf_sound (p:=r.1) (r:=r.2) hp
     .right;rfl
    .right;rfl
   .split
    .rename_i r hp;left;exact posOf_sound (p:=r.1) (r:=r.2) hp
    .right;rfl
   .right;rfl
  .right;rfl
 split
 .split
  .split
   .split
    .rename_i r hp;exact rowsRes_sound (posOf_sound (p:=r.1) (r:=r.2) hp)
    .right;rfl
   .right;rfl
  .right;rfl
 split
 .split
  .split
   .rename_i r hp;exact rowsRes_sound (posOf_sound (p:=r.1) (r:=r.2) hp)
   .right;rfl
  .right;rfl
 split
 .split
  .rename_i r hp;left;exact posOf_sound (p:=r.1) (r:=r.2) hp
  .right;rfl
 split
 .split
  .split
   .split
    .rename_i r hp;left;exact posOf_sound (p:=r.1) (r:=r.2) hp
    .right;rfl
   .right;rfl
  .right;rfl
 split
 .split
  .split
   .split
    .rename_i r hp;left;exact posOf_sound (p:=r.1) (r:=r.2) hp
    .right;rfl
   .right;rfl
  .right;rfl
 split
 .split
  .split
   .split
    .split
     .rename_i r hp;left;exact posOf_sound (p:=r.1) (r:=r.2) hp
     .right;rfl
    .right;rfl
   .rename_i r _ hp;left;exact posOf_sound (p:=r.1) (r:=r.2) hp
   .right;rfl
  .right;rfl
 split
 .split
  .split
   .split
    .rename_i r hp;left;exact posOf_sound (p:=r.1) (r:=r.2) hp
    .right;rfl
   .right;rfl
  .right;rfl
 split
 .split
  .rename_i r hp;left;have:=(posAny_sound (q:=r.1) (r:=r.2) hp).2;simpa using this
  .right;rfl
 .split
  .split
   .rename_i r hp;left;exact posOf_sound (p:=r.1) (r:=r.2) hp
   .right;rfl
  .right;rfl
def allSome_map {α β:Type} {f:α->Option β} : ∀ {l:List α} {m:List β},allSome (l.map f)=some m->m.length=l.length/\∀ x∈m,∃ y∈l,f y=some x:=by
 intro l m h;obtain⟨h1,h2⟩:=allSome_get h;refine⟨by simpa using h1,fun x hx=>?_⟩;obtain⟨j,a⟩:=NA hx;have:=h2 j x a;rw[MU,MN]at this;obtain⟨y,hy,e⟩:=this;exact⟨y,MG hy,e⟩
def find_nodup {ps:List (Nat×Res)} (hn:(ps.map (·.1)).Nodup) {q:Nat×Res} (a:q∈ps):ps.find? (fun x=>x.1==q.1)=some q:=by
 induction ps with
 | nil=>cases a
 | cons x l ih =>
  rw[M6,List.nodup_cons]at hn;rw[PR];rcases MQ.1 a with rfl | a
  .simp
  .have:¬x.1=q.1:=fun e=>hn.1 (e▸Pv a);have hb:(x.1==q.1)=false:=by simpa using this
   rw[hb];exact ih hn.2 a
def callE_sound (ai:∀ s∈C.Γ,s.OK P) (hA:Rel S w0 J st a w) (hu:st.upto st.nv=true) {f:FuncId} (h:callE C.Γ st f args d=some R) (hn:R.need.holds C ms J)
 {K:Act->World->Prop} (hK:Fin S w0 C J st a d R K):Calls P f (args.map (TV.ev J)).toArray w fun e w'=>∃ v,e=.returned v/\K (a.put d v) w':=by
 unfold callE at h;split at h
 .rename_i j hj;split at h
  .rename_i s hs;split at h
   .rename_i own aa;simp only at h;split at h
    .rename_i G;cases h;simp only[ML,MI,M8,NK]at G;obtain⟨G,aj⟩:=G;have hf:s.fn=f:=by
      have:=List.findIdx?_eq_some_iff_getElem.1 hj;obtain⟨N,hp,_⟩:=this;rw[ME N]at hs;cases hs;simpa using hp
     obtain⟨hlen,ab⟩:=allSome_map aa;have hm:=hA.toMRel;have g:∀ q∈own,st.mem[q.1]?=some q.2/\q.2.own=true:=fun q c=>by
      obtain⟨y,_,hy⟩:=ab q c;exact selPos_sound hy
     have n:∀ (i:Nat) q,own[i]?=some q->st.mem[q.1]?=some q.2/\q.2.own=true:=fun i q c=>g q (MG c);have ak:∀ (i k:Nat) q q',i≠k->own[i]?=some q->own[k]?=some q'->q.1≠q'.1:=by
      intro i k q q' al hi hk e;have h1:(own.map (·.1))[i]?=some q.1:=by rw[MU,hi];rfl
      have h2:(own.map (·.1))[k]?=some q.1:=by rw[MU,hk,e];rfl
      exact al ((List.getElem?_inj (MK.1 h1).1 G).1 (h1.trans h2.symm))
     let Hs:=own.map (fun q=>q.2.hl J)
     let Rs:=(s.rd.map (rdRes args st.mem)).map (fun q=>q.2.hl J)
     have hn:s.pre (args.map (TV.ev J)) Hs Rs:=by
      have hn:(X.call j st.nv args (own.map (·.2)) ((s.rd.map (rdRes args st.mem)).map (·.2))).pre C J:=hn;simp only[X.pre,hs]at hn;simpa [Hs,Rs,PK] using hn
     have I:=ai s (MG hs) w (args.map (TV.ev J)) Hs Rs (by simp [Hs,hlen]) (by simp [Rs])
      (fun H O=>by obtain⟨q,c,rfl⟩:=Np.1 O;exact hm.sub _ (MG (g q c).1))
      (fun H O=>by
       obtain⟨q,c,rfl⟩:=Np.1 O;obtain⟨i,_,rfl⟩:=Np.1 c;rcases rdRes_sound args st.mem i with h | h
       .exact hm.sub _ (MG h)
       .rw[h];intro b o hb;cases hb)
      (fun p q H K an hp c=>by
       simp only[Hs,MU,MN]at hp c;obtain⟨x,hx,rfl⟩:=hp;obtain⟨y,hy,rfl⟩:=c;exact hm.dis _ _ _ _ (ak p q x y an hx hy) (n p x hx).1 (n q y hy).1 (n p x hx).2)
      (fun H O K ao=>by
       obtain⟨q,c,rfl⟩:=Np.1 O;obtain⟨r,hr,rfl⟩:=Np.1 ao;obtain⟨i,hi,rfl⟩:=Np.1 hr;rcases rdRes_sound args st.mem i with h | h
       .refine hm.dis _ _ _ _ (fun e=>?_) (g q c).1 h (g q c).2;have:=aj _ hr;rw[<-e]at this;have hc:(own.map (·.1)).contains q.1=true:=NP.2 (Pv c);rw[hc]at this;cases this
       .rw[h];rintro b ⟨_,y⟩;cases y)
      hn
     rw[hf]at I;refine I.mono fun e w' ⟨r,Hs',F,he,W,A,hpost⟩=>⟨_,he,?_⟩;have aw:Hs'.length=own.length:=by rw[A.len];simp [Hs]
     let J':=J.shift r st.nv (fun k=>if k<own.length then Hs'.getD k Hl.none else F)
     have hg:Agree st.nv J J':=shift_agree _ _ _ _;have eh:∀ k,k<own.length->J'.h (st.nv+k)=Hs'.getD k Hl.none:=fun k hk=>by rw[shift_h];exact M0 hk
     have eF:J'.h (st.nv+own.length)=F:=by rw[shift_h];exact MM ae
     have hnew:newHs J' st.nv own.length=Hs':=by
      apply Ni;intro k;unfold newHs;rw[MU];by_cases hk:k<own.length
      .rw[Nf hk];simp only[Nl];rw[eh k hk,MR,ME ae];rfl
      .rw[MS (by simp;omega),MS ae];rfl
     have ad:(cpTV st.nv s.res).ev J'=(cpTV 0 s.res).ev r:=cpTV_shift _ _ _ _ _
     let u:=own.zipIdx.map fun q=>(q.1.1,q.1.2.turned (st.nv+q.2))
     have Q:u.map (·.1)=own.map (·.1):=by
      simp only[u,NY];have:((fun(x:Nat×Res)=>x.1)∘fun(q:(Nat×Res)×Nat)=>(q.1.1,q.1.2.turned (st.nv+q.2)))=(fun(x:Nat×Res)=>x.1)∘Prod.fst:=by funext q;rfl
      rw[this,<-NY]
      congr 1
      exact List.zipIdx_map_fst 0 own
     have Y:∀ (k:Nat) q,own[k]?=some q->(setAll st.mem u)[q.1]?=some (q.2.turned (st.nv+k)):=by
      intro k q c;have af:(q.1,q.2.turned (st.nv+k))∈u:=Np.2 ⟨(q,k),List.mk_mem_zipIdx_iff_getElem?.2 c,rfl⟩;rw[setAll_get,(n k q c).1];have:=find_nodup (by rw[Q];exact G) af;simp only at this;simp [this]
     have hkeep:∀ (p:Nat),(∀ q∈own,q.1≠p)->(setAll st.mem u)[p]?=st.mem[p]?:=by
      intro p hp;rw[setAll_get];have:u.find? (fun x=>x.1==p)=none:=by
       rw[OQ];intro x hx;have:x.1∈own.map (·.1):=by rw[<-Q];exact Pv hx
       obtain⟨q,c,e⟩:=Np.1 this;simpa [<-e] using hp q c
      rw[this];simp
     have m:∀ (k:Nat) q,own[k]?=some q->(q.2.turned (st.nv+k)).hl J'=Hs'.getD k Hl.none/\(q.2.turned (st.nv+k)).pos J':=by
      intro k q c;have hk:k<own.length:=(MK.1 c).1;have:=(n k q c).2;cases hr:q.2 with
      | blk b l T=>exact⟨eh k hk,zzT⟩
      | hp kk vers tags links=>exact⟨eh k hk,zzT⟩
      | ro kk tags any=>rw[hr]at this;cases this
      | dead=>exact⟨eh k hk,zzT⟩
     have t:∀ k,k<own.length->Hs'.getD k Hl.none∈Hs':=fun k hk=>by
      rw[MR,ME ae];exact NM _
     have L:∀ k,k<own.length->Hs'[k]?=some (Hs'.getD k Hl.none):=fun k hk=>by
      rw[MR,ME ae];rfl
     have hU:∀ b,(∃ H∈Hs,H.mem b)->∃ q∈own,(q.2.hl J).mem b:=fun b ⟨H,O,hb⟩=>by
      obtain⟨q,c,rfl⟩:=Np.1 O;exact⟨q,c,hb⟩
     have place:∀ (p:Nat) x,(setAll st.mem u++(if cpRoots 0 s.res=[]then []else [Res.hp (st.nv+own.length) [] (cpRoots st.nv s.res) (argRoots args s.links)]))[p]?=some x ->
      (∃ (k:Nat) (q:Nat×Res),own[k]?=some q/\q.1=p/\x=q.2.turned (st.nv+k))\/((∀ q∈own,q.1≠p)/\p<st.mem.length/\st.mem[p]?=some x) \/
      (p=st.mem.length/\cpRoots 0 s.res≠[]/\x=Res.hp (st.nv+own.length) [] (cpRoots st.nv s.res) (argRoots args s.links)):=by
      intro p x hp;rw[O0]at hp;split at hp
      .rename_i N;by_cases c:∃ q∈own,q.1=p
       .obtain⟨q,c,rfl⟩:=c;obtain⟨k,hk⟩:=NA c;rw[Y k q hk]at hp;exact Or.inl ⟨k,q,hk,rfl,(Nx hp).symm⟩
       .have B:∀ q∈own,q.1≠p:=fun q hm e=>c ⟨q,hm,e⟩;rw[hkeep p B]at hp;rw[setAll_length]at N;exact Or.inr (Or.inl ⟨B,N,hp⟩)
      .rename_i aq;rw[setAll_length]at hp aq;split at hp
       .simp at hp
       .rename_i hr;have:p-st.mem.length=0:=by
         rcases OR (p-st.mem.length)with h0 | h0
         .exact h0
         .rw[MS (by simp;omega)]at hp;cases hp
        rw[this]at hp;simp only[NG,MP]at hp;exact Or.inr (Or.inr ⟨ae,hr,hp.symm⟩)
     have ah:∀ q∈own,q.1<st.mem.length:=fun q c=>(MK.1 (g q c).1).1;refine hK J' _ w' hg ⟨?_,rfl⟩ (Rel.step hA hu hg ?_ _ _ _ _ (fun y hy=>by cases hy;exact ad.symm))
     .show X.rel C J J' (.call j st.nv args (own.map (·.2)) ((s.rd.map (rdRes args st.mem)).map (·.2)));simp only[X.rel,hs];refine⟨F,?_,fun _=>by rw[M7];exact eF,(cpNorms_shift J r st.nv _ s.res 0).2 W⟩;rw[ad,M7,hnew];simpa [Hs,Rs,PK] using hpost
     .refine hm.upd (fun b=>∃ H∈Hs,H.mem b) (fun p=>(∃ q∈own,q.1=p)\/p=st.mem.length) (fun b hb=>?_) A.os A.tape A.output A.size (fun b hl hb=>A.block b hl (fun H O hm=>hb ⟨H,O,hm⟩)) ?_ ?_ ?_
      .obtain⟨q,c,hb⟩:=hU b hb;exact⟨q.2,MG (g q c).1,(g q c).2,hb⟩
      .intro p x hp D;rcases place p x hp with ⟨k,q,hk,rfl,_⟩ | ⟨h1,h2,h3⟩ | ⟨h1,_⟩
       .exact absurd (Or.inl ⟨q,MG hk,rfl⟩) D
       .refine⟨h3,Mem.agree hg (St.upto_mem hu) x (MG h3),fun b hb ar=>?_⟩;obtain⟨q,c,au⟩:=hU b ar;exact hm.dis _ _ _ _ (h1 q c) (g q c).1 h3 (g q c).2 b ⟨au,hb⟩
       .exact absurd (Or.inr h1) D
      .intro p x hp D;rcases place p x hp with ⟨k,q,hk,rfl,rfl⟩ | ⟨h1,h2,h3⟩ | ⟨h1,h2,rfl⟩
       .have kD:=(MK.1 hk).1;obtain⟨e1,e2⟩:=m k q hk;rw[e1];exact⟨⟨A.sub _ (t k kD),e2⟩,fun b hb=>A.dom _ (t k kD) b hb⟩
       .rcases D with ⟨q,c,e⟩ | e
        .exact absurd e (h1 q c)
        .omega
       .have e:(Res.hp (st.nv+own.length) [] (cpRoots st.nv s.res) (argRoots args s.links)).hl J'=F:=eF;rw[e];exact⟨⟨A.fsub,zzT⟩,fun b hb=>A.fdom b hb⟩
      .intro p p' x y U D V hp ag _;rcases place p x hp with ⟨k,q,hk,rfl,rfl⟩ | ⟨h1,h2,h3⟩ | ⟨h1,h2,rfl⟩
       .have kD:=(MK.1 hk).1;rw[(m k q hk).1];rcases place p' y ag with ⟨k',q',z,rfl,rfl⟩ | ⟨E,Z,av⟩ | ⟨E,Z,rfl⟩
        .have M:=(MK.1 z).1;rw[(m k' q' z).1];exact A.dis k k' _ _ (fun e=>by subst e;rw[hk]at z;cases z;exact U rfl) (L k kD) (L k' M)
        .rcases V with ⟨q',B,e⟩ | e
         .exact absurd e (E q' B)
         .omega
        .have e:(Res.hp (st.nv+own.length) [] (cpRoots st.nv s.res) (argRoots args s.links)).hl J'=F:=eF;rw[e];exact A.fdis _ (t k kD)
       .rcases D with ⟨q,c,e⟩ | e
        .exact absurd e (h1 q c)
        .omega
       .have e:(Res.hp (st.nv+own.length) [] (cpRoots st.nv s.res) (argRoots args s.links)).hl J'=F:=eF;rw[e];rcases place p' y ag with ⟨k',q',z,rfl,rfl⟩ | ⟨E,Z,av⟩ | ⟨E,Z,rfl⟩
        .have M:=(MK.1 z).1;rw[(m k' q' z).1];exact Hl.dis_symm (A.fdis _ (t k' M))
        .rcases V with ⟨q',B,e⟩ | e
         .exact absurd e (E q' B)
         .omega
        .exact absurd (h1.trans E.symm) U
    .cases h
   .cases h
  .cases h
 .cases h
end
section
variable {P:Program} {C:Ctx} {ms:Nat->Nat} {S:Nat->Prop} {w0:World} {J J':Env} {st:St} {mem mem':Mem} {a:Act} {w w':World} {W:OpJ P}
def ck_head (v:Value):∃ q:Env,((ckOf v).cv 0).ev q=v:=by
 let e0:Env:=⟨fun _=>0,fun _=>false,fun _=>.empty,fun _=>.tuple #[],fun _=>Hl.none⟩
 cases v with
 | int k n=>exact⟨{e0 with i:=fun _=>n},rfl⟩
 | bool b=>exact⟨{e0 with b:=fun _=>b},rfl⟩
 | string s=>exact⟨{e0 with s:=fun _=>s},rfl⟩
 | pointer p =>
  obtain⟨x,y,h,_⟩:=slP_all p;exact⟨{e0 with i:=fun k=>if k=0 then x else y},by simp [ckOf,Ck.cv,CV.ev,iev_var,h]⟩
 | slice p n c =>
  obtain⟨x,y,h,_⟩:=slP_all p;exact⟨{e0 with i:=fun k=>if k=0 then x else if k=1 then y else if k=2 then n else c},by simp [ckOf,Ck.cv,CV.ev,iev_var,h]⟩
 | map r =>
  cases r with
  | none=>exact⟨{e0 with i:=fun _=> -1},rfl⟩
  | some r =>
   refine⟨{e0 with i:=fun _=>r},?_⟩;have e:¬((r:Int)= -1):=ae;simp only[ckOf,Ck.cv,CV.ev,iev_var,e,Om,MD]
 | _=>exact⟨⟨fun _=>0,fun _=>false,fun _=>.empty,fun _=>_,fun _=>Hl.none⟩,rfl⟩
def ck_upto (k:Ck) (n:Nat):(k.cv n).upto (n+k.len)=true:=by
 cases k<;>simp [Ck.cv,CV.upto,E.upto,Ck.len]
def ckCVs_upto:∀ (ks:List Ck) (n:Nat),(ckCVs n ks).all (·.upto (n+ckLen ks))=true
 | [],_=>rfl
 | k::ks,n=>by
  simp only[ckCVs,PO,ML];have e:n+ckLen (k::ks)=n+k.len+ckLen ks:=by simp [ckLen];omega
  rw[e];refine⟨?_,ckCVs_upto ks (n+k.len)⟩;have:∀ m,n+k.len<=m->(k.cv n).upto m=true:=by
   intro m hm;cases k<;>simp [Ck.cv,CV.upto,E.upto,Ck.len]at hm ⊢<;>omega
  exact this _ ae
def ck_all:∀ (vs:List Value),∃ q:Env,(ckCVs 0 (vs.map ckOf)).map (CV.ev q)=vs
 | []=>⟨⟨fun _=>0,fun _=>false,fun _=>.empty,fun _=>.tuple #[],fun _=>Hl.none⟩,rfl⟩
 | v::vs=>by
  obtain⟨q1,h1⟩:=ck_head v;obtain⟨q2,h2⟩:=ck_all vs;refine⟨q1.shift q2 (ckOf v).len (fun _=>Hl.none),?_⟩;simp only[M6,ckCVs,Nw]
  congr 1
  .rw[CV.agree (shift_agree q1 q2 (ckOf v).len _) _ (by have:=ck_upto (ckOf v) 0;rwa[Nw]at this)];exact h1
  .have:=ckCVs_shift q1 q2 (ckOf v).len (fun _=>Hl.none) (vs.map ckOf) 0;rw[NH]at this;rw[this];exact h2
def shape_all {ks:List Ck} (h:hasShape ks agg v):∃ q:Env,(mshape 0 ks agg).ev q=v:=by
 unfold hasShape at h;unfold mshape;split at h
 .rename_i b;obtain⟨cs,rfl,hk⟩:=h;obtain⟨q,a⟩:=ck_all cs.toList;rw[hk]at a;exact⟨q,by rw[M0 b];simp only[SV.ev,a]⟩
 .rename_i b;obtain⟨k,rfl,rfl⟩:=h;obtain⟨q,a⟩:=ck_head v;exact⟨q,by rw[MM b];exact a⟩
def mshape_shift (J r:Env) (n:Nat) (hs:Nat->Hl) (ks:List Ck) (agg:Bool):(mshape n ks agg).ev (J.shift r n hs)=(mshape 0 ks agg).ev r:=by
 have h1:=ckCVs_shift J r n hs ks 0;rw[NH]at h1;unfold mshape;split
 .simp only[SV.ev,h1]
 .split
  .rename_i k;exact ck_shift J r n hs 0 k
  .simp only[SV.ev,h1]
def mshape_agree {n:Nat} {ks:List Ck} (hg:Agree (n+ckLen ks) J J'):(mshape n ks agg).ev J'=(mshape n ks agg).ev J:=by
 have h1:=CV.agreeL hg _ (ckCVs_upto ks n);unfold mshape;split
 .simp only[SV.ev,h1]
 .split
  .rename_i k;refine CV.agree hg _ ?_;have:=ck_upto k n;simpa [ckLen] using this
  .simp only[SV.ev,h1]
def findNow_spec {kind:TypeDesc} {key:Value} : ∀ (l:List MapEntry) (i0 i:Nat) (v:Value),Instr.findNow kind key l i0=some (some (i,v))->i0<=i/\∃ e,l[i-i0]?=some e/\e.val=v/\Instr.sameNow kind key e.key=some true
 | [],_,_,_,h=>by simp [Instr.findNow]at h
 | e::l,i0,i,v,h=>by
  unfold Instr.findNow at h;split at h
  .rename_i hs;simp only[MP,Nr]at h;obtain⟨rfl,rfl⟩:=h;exact⟨M1 _,e,ar,rfl,hs⟩
  .obtain⟨h1,a,h2,b,c⟩:=findNow_spec l (i0+1) i v h;exact⟨ae,a,by rw[show i-i0=(i-(i0+1))+1 by omega,NC];exact h2,b,c⟩
  .cases h
def keyKd_eq (h:keyKd P t=some kd):(∃ k,kd=.int k/\P.underlying t=some (.int k))\/(kd=.str/\P.underlying t=some .string):=by
 unfold keyKd at h;split at h
 .rename_i k hu;cases h;exact Or.inl ⟨k,rfl,hu⟩
 .rename_i hu;cases h;exact Or.inr ⟨rfl,hu⟩
 .cases h
def checkKey_run (h:keyKd P t=some kd) (e:Bool) (v:Value):(Instr.checkKey e 10000 t v).run P w=.ok () w:=by
 unfold Instr.checkKey;rcases keyKd_eq h with ⟨k,_,hu⟩ | ⟨_,hu⟩
 .simp only[Sem.run_bind,run_underlying hu,Result.andThen_ok];cases v<;>rfl
 .simp only[Sem.run_bind,run_underlying hu,Result.andThen_ok];cases v<;>rfl
def findKey_run (h:keyKd P t=some kd) {r:Option (Nat×Value)} (hf:mapFind kd key es=some r):(Instr.findKey t key es.toList).run P w=.ok r w:=by
 unfold Instr.findKey;rcases keyKd_eq h with ⟨k,rfl,hu⟩ | ⟨rfl,hu⟩
 .simp only[Sem.run_bind,run_underlying hu,Result.andThen_ok];simp only[mapFind]at hf;rw[hf];rfl
 .simp only[Sem.run_bind,run_underlying hu,Result.andThen_ok];simp only[mapFind]at hf;rw[hf];rfl
def getObj_map {r:Nat} (h:w.heap[r]?=some (.map es c)):(getObj r).run P w=.ok (.map es c) w:=by
 simp [getObj,Sem.run,h]
def setObj_map {r:Nat} (h:w.heap[r]?=some (.map es c)):(setObj r o).run P w=.ok () {w with heap:=w.heap.setIfInBounds r o}:=by
 simp [setObj,Sem.run,h]
def sameBits_of {kind:TypeDesc} (hk:(∃ k,kd=.int k/\kind=.int k)\/(kd=.str/\kind=.string)) (hs:Instr.sameNow kind key old=some true):Instr.sameBits 10000 old key=true:=by
 rcases hk with ⟨k,rfl,rfl⟩ | ⟨rfl,rfl⟩
 .unfold Instr.sameNow at hs;split at hs
  .split at hs
   .rename_i k1 a k2 b hk;simp only[MP,Pe]at hs;subst hk;subst hs;simp [Instr.sameBits]
   .cases hs
  .cases ‹TypeDesc.int k=.string›
  .cases ‹TypeDesc.int k=.bool›
  .cases hs
 .unfold Instr.sameNow at hs;split at hs
  .cases ‹TypeDesc.string=.int _›
  .simp only[MP]at hs;rename_i a b _;rw[ba_beq,MI]at hs;subst hs;simp [Instr.sameBits,ba_beq]
  .cases ‹TypeDesc.string=.bool›
  .cases hs
def Hl.setObj_mem {h:Hl} (hx:h.mem x):(h.setObj x o).mem b↔h.mem b:=by
 unfold Hl.mem Hl.setObj;split
 .rename_i e;subst e;exact⟨fun _=>hx,fun _=>rfl⟩
 .rfl
def setObj_sub {h:Hl} (hs:h.sub w) (hx:h.mem x):(h.setObj x o).sub {w with heap:=w.heap.setIfInBounds x o}:=by
 intro b o' hb;unfold Hl.setObj at hb;have a:=Hl.sub_lt hs hx;split at hb
 .rename_i e;subst e;cases hb;simp [a]
 .rename_i e;show(w.heap.setIfInBounds x o)[b]?=_;rw[Oa (fun h=>e h.symm)];exact hs b o' hb
def set_map (hA:Rel S w0 J st a w) (hu:st.upto st.nv=true) {vers:List Nat} {tags links:List E} (hp:st.mem[p]?=some (.hp h vers tags links)) (hx:(J.h h).mem x) :
 Agree st.nv J (J.setH st.nv ((J.h h).setObj x o))/\MRel S w0 (J.setH st.nv ((J.h h).setObj x o)) (st.mem.set p (.hp st.nv (h::vers) tags links)) {w with heap:=w.heap.setIfInBounds x o}:=by
 have hg:Agree st.nv J (J.setH st.nv ((J.h h).setObj x o)):=agree_setH _ _ _ (M1 _);have e:(J.setH st.nv ((J.h h).setObj x o)).h st.nv=(J.h h).setObj x o:=setH_h _ _ _;have hsub:(J.h h).sub w:=hA.sub _ (MG hp);refine⟨hg,hA.toMRel.set hp rfl rfl rfl rfl ar (fun b _ hn=>?_) (Mem.agree hg (St.upto_mem hu)) ?_ trivial ?_⟩
 .show(w.heap.setIfInBounds x o)[b]?=_;rw[Oa (fun e=>hn (by subst e;exact hx))]
 .show((J.setH st.nv ((J.h h).setObj x o)).h st.nv).sub _;rw[e];exact setObj_sub hsub hx
 .intro b hb;have hb:((J.setH st.nv ((J.h h).setObj x o)).h st.nv).mem b:=hb;rw[e]at hb;exact Or.inl ((Hl.setObj_mem hx).1 hb)
def mapE_sound (hA:Rel S w0 J st a w) (hu:st.upto st.nv=true) {o:Oper} (h:mapE P st o.op o.dst=some R) (hn:R.need.holds C ms J)
 {K:Act->World->Prop} {Q:Exit->Act->World->Prop} (hK:Fin S w0 C J st a o.dst R K):W.j o a w K Q:=by
 unfold mapE at h;split at h
 .rename_i t g;split at h
  .rename_i L M aa;cases h
   let J':=(J.setI st.nv w.heap.size).setH st.nv (Hl.one w.heap.size (.map #[] 0))
   have hg:Agree st.nv J J':=(agree_setI _ _ _ (M1 _)).trans (agree_setH _ _ _ (M1 _));have e1:J'.i st.nv=w.heap.size:=by show(J.setI st.nv w.heap.size).i st.nv=_;rw[setI_i]
   have N:J'.h st.nv=Hl.one w.heap.size (.map #[] 0):=setH_h _ _ _;have c:(execOp a.eval o).run P w=.ok (.value (.map (some w.heap.size))) (w.alloc (.map #[] 0)):=by
    unfold execOp;rw[g];simp [Instr.makeMap,Sem.run_bind]
   refine wp_value c (hK J' _ _ hg ⟨⟨by rw[e1];omega,by rw[e1,MD];exact N⟩,rfl⟩ (Rel.step hA hu hg ?_ _ _ _ _ ?_))
   .refine hA.toMRel.add rfl rfl rfl ar (fun b hb=>RowKit.Below.heap_alloc w _ b hb) (Mem.agree hg (St.upto_mem hu)) ?_ trivial ?_
    .show(J'.h st.nv).sub _;rw[N];intro b o hb;obtain⟨rfl,rfl⟩:=Hl.one_eq hb;exact heap_alloc_new w _
    .intro b hb;have hb:(J'.h st.nv).mem b:=hb;rw[N]at hb;rw[Hl.one_mem.1 hb];exact M1 _
   .intro y hy;cases hy;simp only[TV.ev,SV.ev,CV.ev,iev_var,e1];rw[MM ae];simp
  .cases h
 .rename_i t m k ok g;split at h
  .rename_i L M n;split at h
   .rename_i kd z agg x key cj hz X hm hk;split at h
    .rename_i hh zs O T;by_cases f:(keyOK kd key&&(agg==isAgg z)&&(agg||(z.cells.toList.map ckOf).length==1))=true
     .rw[M0 f]at h;have h:=Nx h;subst h;simp only[ML]at f;obtain⟨⟨G,hag⟩,hlen⟩:=f;have hsub:=fHp_hk hA.toMRel O;obtain⟨hx,es,clock,r,d,hf,s⟩:=hn;have em:=opnd_sound hA hm;have H:=opnd_sound hA hk;simp only[TV.ev,SV.ev,CV.ev]at em;simp only[TV.ev,SV.ev]at H;rw[MM ae]at em;have hw:=hsub _ _ d;have U:zs.ev J=z:=by
       have:=lift_ev J z;rw[T]at this;exact this
      let v:Value:=match r with | some (_,v)=>v | none=>z
      have V:hasShape (z.cells.toList.map ckOf) agg v:=by
       cases r with
       | some p=>exact s p.1 p.2 rfl
       | none =>
        show hasShape _ _ z;unfold hasShape;cases agg with
        | true =>
         rw[M0 rfl];cases z with
         | agg cs=>exact⟨cs,rfl,rfl⟩
         | _=>simp [isAgg]at hag
        | false =>
         rw[MM ar];cases z with
         | agg cs=>simp [isAgg]at hag
         | _=>exact⟨_,rfl,rfl⟩
      obtain⟨q,hq⟩:=shape_all V
      let u:=J.shift q st.nv (fun _=>Hl.none)
      let J':=u.setB (st.nv+ckLen (z.cells.toList.map ckOf)) r.isSome
      have zJ:Agree st.nv J u:=shift_agree _ _ _ _;have oB:Agree (st.nv+ckLen (z.cells.toList.map ckOf)) u J':=agree_setB _ _ _ (M1 _);have hg:Agree st.nv J J':=zJ.tr oB;have ev:(mshape st.nv (z.cells.toList.map ckOf) agg).ev J'=v:=by
       rw[mshape_agree oB,mshape_shift];exact hq
      have Y:J'.b (st.nv+ckLen (z.cells.toList.map ckOf))=r.isSome:=by simp [J',Env.setB]
      have c:(execOp a.eval o).run P w=.ok (.value (if ok then .tuple #[v,.bool r.isSome]else v)) w:=by
       unfold execOp;rw[g];simp only[Sem.run_bind,em,H,Instr.lookup,run_underlying n,Result.andThen_ok,getObj_map hw,Sem.run_pure,checkKey_run cj,findKey_run cj hf];cases r with
       | some p=>simp only[Sem.run_pure,Result.andThen_ok];rfl
       | none=>simp only[Sem.run_pure,Result.andThen_ok,Sem.run_bind,zeroT_run hz];rfl
      refine wp_value c (hK J' _ _ hg ⟨?_,rfl⟩ (Rel.step hA hu hg (hA.toMRel.agree (Mem.agree hg (St.upto_mem hu))) _ _ _ _ ?_))
      .intro es' clock' r' h1 h2;rw[d]at h1;cases h1;rw[hf]at h2;cases h2;refine⟨?_,Y⟩;rw[ev];cases r with
       | some p=>rfl
       | none=>exact U.symm
      .intro y hy;cases hy;cases ok with
       | true =>
        have e2:(SV.one (CV.bool (.bvar (st.nv+ckLen (z.cells.toList.map ckOf))))).ev J'=.bool r.isSome:=by show Value.bool (J'.b _)=_;rw[Y]
        simp only[OA,TV.ev,M6,NN,ev,e2]
       | false=>simp only[NI,Om,TV.ev,ev]
     .rw[MM f]at h;cases h
    .cases h
   .cases h
  .cases h
 .rename_i t m k v g;split at h
  .rename_i L M n;split at h
   .rename_i kd x key vs cj hm hk hv;split at h
    .rename_i G;split at h
     .rename_i p hh vers tags links A;cases h;have hp:=fHp_sound A;obtain⟨hx,es,clock,r,d,hf⟩:=hn;have em:=opnd_sound hA hm;have H:=opnd_sound hA hk;have ev:=opnd_sound hA hv;simp only[TV.ev,SV.ev,CV.ev]at em;simp only[TV.ev,SV.ev]at H;simp only[TV.ev]at ev;rw[MM ae]at em;have hsub:(J.h hh).sub w:=hA.sub _ (MG hp);have hw:=hsub _ _ d;have B:(J.h hh).mem (iev J x).toNat:=by unfold Hl.mem;rw[d];rfl
      obtain⟨hg,D⟩:=set_map (o:=mapPut kd (key.ev J) (vs.ev J) es clock) hA hu hp B;have c:(execOp a.eval o).run P w=.ok .skip {w with heap:=w.heap.setIfInBounds (iev J x).toNat (mapPut kd (key.ev J) (vs.ev J) es clock)}:=by
       unfold execOp;rw[g];simp only[Sem.run_bind,em,H,ev,Instr.mapUpdate,run_underlying n,Result.andThen_ok,getObj_map hw,checkKey_run cj,findKey_run cj hf];cases r with
       | some q =>
        obtain⟨i,v0⟩:=q;have E:Instr.sameBits 10000 (((es[i]?).map (·.key)).getD (key.ev J)) (key.ev J)=true:=by
         rcases keyKd_eq cj with ⟨kk,rfl,_⟩ | ⟨rfl,_⟩
         .obtain⟨_,e,he,_,hs⟩:=findNow_spec _ _ _ _ hf;rw[PQ]at he;have F:es[i]?=some e:=by simpa using he
          rw[F];exact sameBits_of (Or.inl ⟨kk,rfl,rfl⟩) hs
         .obtain⟨_,e,he,_,hs⟩:=findNow_spec _ _ _ _ hf;rw[PQ]at he;have F:es[i]?=some e:=by simpa using he
          rw[F];exact sameBits_of (Or.inr ⟨rfl,rfl⟩) hs
        simp only[Instr.keyThatStays,E,OA,Sem.run_bind,Sem.run_pure,Result.andThen_ok,setObj_map hw,mapPut,hf]
       | none=>simp only[setObj_map hw,mapPut,hf,Result.andThen_ok,Sem.run_pure]
      refine wp_skip' c (hK _ _ _ hg ⟨?_,rfl⟩ (Rel.step hA hu hg D _ _ _ _ (fun y hy=>by cases hy)));intro es' clock' h1;rw[d]at h1;cases h1;exact setH_h _ _ _
     .cases h
    .cases h
   .cases h
  .cases h
 .rename_i args ats g;split at h
  .rename_i m t Z I;split at h
   .rename_i L M x n hm;split at h
    .rename_i p hh vers tags links A;cases h;have hp:=fHp_sound A;obtain⟨hx,es,clock,d⟩:=hn;have em:=opnd_sound hA hm;simp only[TV.ev,SV.ev,CV.ev]at em;rw[MM ae]at em;have hsub:(J.h hh).sub w:=hA.sub _ (MG hp);have hw:=hsub _ _ d;have B:(J.h hh).mem (iev J x).toNat:=by unfold Hl.mem;rw[d];rfl
     obtain⟨hg,D⟩:=set_map (o:=.map #[] clock) hA hu hp B;have ea:args.map a.eval=#[.map (some (iev J x).toNat)]:=by
      obtain⟨l⟩:=args;simp only at Z;subst Z;simp [em]
     have et:ats=#[t]:=by obtain⟨l⟩:=ats;simp only at I;rw[I]
     have c:(execOp a.eval o).run P w=.ok (.value (.tuple #[])) {w with heap:=w.heap.setIfInBounds (iev J x).toNat (.map #[] clock)}:=by
      obtain⟨dst,op,ty,pos,af,gd⟩:=o;simp only at g;subst g;rw[BigFrame.execOp_builtin,ea,et];unfold builtin;have e5:(Builtin.clear_ #[t] ty #[Value.map (some (iev J x).toNat)]).run P w=.ok (.tuple #[]) {w with heap:=w.heap.setIfInBounds (iev J x).toNat (.map #[] clock)}:=by
       unfold Builtin.clear_;simp [run_underlying n,getObj_map hw,setObj_map hw,Sem.run_bind]
      rw[Sem.run_bind,e5];rfl
     refine wp_value c (hK _ _ _ hg ⟨?_,rfl⟩ (Rel.step hA hu hg D _ _ _ _ (fun y hy=>by cases hy)));intro es' clock' h1;rw[d]at h1;cases h1;exact setH_h _ _ _
    .cases h
   .cases h
  .cases h
 .cases h
end
section
variable {P:Program} {C:Ctx} {ms:Nat->Nat} {S:Nat->Prop} {w0:World} {J:Env} {st:St} {mem:Mem} {a:Act} {w:World}
def hhk_sub (hA:MRel S w0 J mem w) {x:E} (hf:(fHp mem x).bind (fun r=>r.2.hk)=some h):(J.h h).sub w:=by
 cases a:fHp mem x with
 | none=>rw[a]at hf;cases hf
 | some r =>
  rw[a]at hf;obtain⟨q,r⟩:=r;have hp:=fHp_sound a;have hs:=hA.sub _ (MG hp);cases r<;>simp [Res.hk]at hf
  .subst hf;exact hs
  .subst hf;exact hs
def cellBytes_at {h:Hl} {y n:Nat} (hb:cellBytes h x y n=true) (b:j<n):∃ z,h.cell x (y+j)=some (.int .u8 z):=by
 unfold cellBytes at hb;have:=M8.1 hb j (Nn.2 b);cases a:h.cell x (y+j)with
 | none=>rw[a]at this;cases this
 | some v =>
  rw[a]at this;cases v<;>simp [valIs]at this
  subst this;exact⟨_,rfl⟩
def blk_at (hA:MRel S w0 J mem w) {q:Nat} (d:mem[q]?=some (.blk b m T)) {c:CV} (a:m[j]?=some c):w.cell? ⟨(J.i b).toNat,j,none⟩=some (c.ev J):=by
 have:=hA.blk d;have e:j<m.length:=(MK.1 a).1;simp [World.cell?,this,e,(MK.1 a).2]
def copySrc_sound (hA:MRel S w0 J mem w) {n:E} (h:copySrc P mem el p L yd n xs ys ls=some (k,src)) (hk:bev J k=true) (e:0<=iev J yd) (c:iev J yd+iev J n<=L) :
 (iev J xs= -1/\iev J ls=0)\/∃ b o,slP (iev J xs) (iev J ys)=some ⟨b,o,none⟩/\∀ j:Nat,iev J yd<=j->(j:Int)<iev J yd+iev J n->∃ s,src j=some s/\w.cell? ⟨b,o+(j-(iev J yd).toNat),none⟩=some (s.ev J):=by
 unfold copySrc at h;split at h
 .rename_i q m T l;split at h
  .cases h
  .rename_i r;have hx:∃ bs,xs=.var bs/\fBlk mem bs=some (q,m,T):=by
    cases xs<;>simp at l
    exact⟨_,rfl,l⟩
   obtain⟨bs,rfl,hf⟩:=hx;have hp:=fBlk_sound hf;have a:0<=J.i bs:=hA.pos _ (MG hp);split at h
   .rename_i t;cases h;obtain⟨rfl,hl⟩:=t;refine Or.inr ⟨(J.i bs).toNat,(iev J yd).toNat,by rw[iev_var,slP_pos a],fun j h0 h1=>?_⟩;have d:j<m.length:=ae;refine⟨m[j],ME d,?_⟩;rw[show(iev J yd).toNat+(j-(iev J yd).toNat)=j by omega];exact blk_at hA hp (ME d)
   .split at h
    .rename_i o o' _;split at h
     .rename_i f;cases h;simp only[bev_mkLe,iev_mkAdd,iev_lit,MI]at hk;rw[iev_lit]at e c;refine Or.inr ⟨(J.i bs).toNat,o'.toNat,by rw[iev_var,iev_lit,slP_pos a],fun j h0 h1=>?_⟩;rw[iev_lit]at h0 h1 ⊢;have d:j-o.toNat+o'.toNat<m.length:=ae;refine⟨m[j-o.toNat+o'.toNat],by simp only;rw[M0 ae,ME d],?_⟩;rw[PT o'.toNat];exact blk_at hA hp (ME d)
     .cases h
    .cases h
 .split at h
  .rename_i o hh g;split at h
   .rename_i f;cases h;simp only[bev_mkOr,bev_mkEq,bev_mkAnd,bev_mkLe,iev_lit,ML,N6,MI,bev_hby]at hk;rcases hk with hk | ⟨hx,hy,hb⟩
    .exact Or.inl ⟨Ol hk.1,Ol hk.2⟩
    have hx:=Ol hx;refine Or.inr ⟨(iev J xs).toNat,(iev J ys).toNat,by rw[slP_pos hx],fun j h0 h1=>?_⟩;rw[iev_lit]at h0 h1 ⊢;obtain⟨z,hz⟩:=cellBytes_at hb (j:=j-o.toNat) ae;refine⟨_,by simp only;rw[M0 ae],?_⟩;rw[Hl.sub_cell (hhk_sub hA g) hz];simp only[CV.ev,iev_hI,hz,valI]
   .cases h
  .cases h
def copyCut_some {n:E} (hn:iev J n<=iev J ld) (h:(j:Int)<iev J yd+iev J n):copyCut yd ld src j=src j:=by
 unfold copyCut;split
 .rw[iev_lit]at h hn;rw[M0 ae]
 .rfl
def setRow_self {w:World} (h:w.heap[g]?=some (.cells cs T (0,0))):w.setRow g cs=w:=by
 have e:(w.setRow g cs).heap=w.heap:=by
  apply Array.ext_getElem?;intro k;by_cases hk:k=g
  .subst hk;rw[setRow_heap w _ _ cs T _ h,h]
  .exact setRow_other w _ _ _ hk
 show({w with heap:=(w.setRow g cs).heap} : World)=w;rw[e]
def run_copy_none (w:World) (dT f ty elem:TypeId) (a:Addr) (b d c:Nat) (hu:P.underlying dT=some (.slice elem)) (hs:((P.info? elem).map (·.size)).isSome=true) :
 (Builtin.copy_ #[dT,f] ty #[.slice (some a) b d,.slice none 0 c]).run P w=.ok (goInt 0) w:=by
 cases e:P.info? elem with
 | none=>simp [e]at hs
 | some i=>simp [Builtin.copy_,run_underlying hu,Builtin.lenOf,Builtin.firstCells,sizeOf,typeInfo,e,storeCells]
def copyIn_true {n:E} : bev J (copyIn yd n j)=decide (iev J yd<=j/\(j:Int)<iev J yd+iev J n):=by
 unfold copyIn;rw[bev_mkAnd,bev_mkLe,bev_mkLt,iev_lit,iev_mkAdd,Bool.decide_and]
def srcVal (J:Env) (src:Option CV) (old:CV):Value:=match src with
 | some s=>s.ev J
 | none=>old.ev J
def copyCell_sound {c:E} {src:Option CV} {old x:CV} (h:copyCell c src old=some x):x.ev J=if bev J c=true then srcVal J src old else old.ev J:=by
 unfold copyCell at h;cases src with
 | none=>cases h;simp [srcVal]
 | some s =>
  simp only at h;split at h
  .split at h
   .rename_i a;cases h;subst a;simp [bev_tt,srcVal]
   .split at h
    .rename_i a;cases h;subst a;simp [bev_ff]
    .rw[mergeCV_ev h];rfl
  .cases h
def copyL_sound {yd n:E} {src:Nat->Option CV} : ∀ (l:List CV) (j:Nat) (l':List CV),copyL yd n src j l=some l'->l'.length=l.length/\∀ i c x,l[i]?=some c->l'[i]?=some x ->
 (∃ y,copyCell (copyIn yd n (j+i)) (src (j+i)) c=some y)/\x.ev J=if bev J (copyIn yd n (j+i))=true then srcVal J (src (j+i)) c else c.ev J
 | [],j,l',h=>by cases h;simp
 | c::l,j,l',h=>by
  unfold copyL at h;split at h
  .rename_i x r h1 h2;cases h;obtain⟨hl,ih⟩:=copyL_sound l (j+1) r h2;refine⟨by simp [hl],fun i c' x' a hx=>?_⟩;cases i with
   | zero =>
    simp only[NG,MP]at a hx;subst a;subst hx;exact⟨⟨_,h1⟩,copyCell_sound h1⟩
   | succ i =>
    simp only[NC]at a hx;have:=ih i c' x' a hx;rw[show j+1+i=j+(i+1)by omega]at this;exact this
  .cases h
def run_copy_zero (w:World) (dT g ty elem:TypeId) (a b:Option Addr) (d e c:Nat) (hu:P.underlying dT=some (.slice elem)) (hs:((P.info? elem).map (·.size)).isSome=true) (sl:Nat) (h0:min sl d=0) :
 (Builtin.copy_ #[dT,g] ty #[.slice a d e,.slice b sl c]).run P w=.ok (goInt 0) w:=by
 cases f:P.info? elem with
 | none=>simp [f]at hs
 | some i =>
  have hl:∀ x:Addr,_:=fun x=>run_loadCells_list (P:=P) w x [] (fun j v h=>by simp at h);simp only[N0]at hl;cases a<;>cases b<;>simp [Builtin.copy_,run_underlying hu,Builtin.lenOf,Builtin.firstCells,sizeOf,typeInfo,f,storeCells,h0,hl]
def copyH_sound (hA:Rel S w0 J st a w) (hu:st.upto st.nv=true) (x:P.underlying t=some (.slice el)) (hsz:sizeT P el=some 1) {G cs:E} (h:copyH P st el ad yd ld xs ys ls d=some R) (hn:R.need.holds C ms J) (hK:Fin S w0 C J st a d R K) :
 ∃ v' w',(Builtin.copy_ #[t,t'] ty #[TV.ev J (.sv (.one (.sl (.var ad) yd ld G))),TV.ev J (.sv (.one (.sl xs ys ls cs)))]).run P w=.ok v' w'/\K (a.put d v') w':=by
 unfold copyH at h;split at h
 .rename_i p k vers tags links hh hf I;split at h
  .cases h;have hp:=fHp_sound hf;obtain⟨⟨hx,hy,hd,hs⟩,⟨c,T,H,N⟩,A⟩:X.pre C J (.cpy st.nv k (.var ad) yd ld hh xs ys ls):=hn;rw[iev_var]at hx H;have hsub:(J.h k).sub w:=hA.sub _ (MG hp);have l:(J.h hh).sub w:=hhk_sub hA.toMRel I;have m:((P.info? el).map (·.size)).isSome=true:=by
    have:(P.info? el).map (·.size)=some 1:=by simpa [sizeT] using hsz
    rw[this];rfl
   obtain⟨vs,n⟩:∃ vs,vs=segVals (J.h hh) (iev J xs).toNat (iev J ys).toNat (min (iev J ls) (iev J ld)).toNat:=⟨_,rfl⟩;have hlen:vs.length=(min (iev J ls) (iev J ld)).toNat:=by rw[n];simp [segVals]
   let H':=(J.h k).put (J.i ad).toNat (iev J yd).toNat vs
   let J':=J.setH st.nv H'
   have hg:Agree st.nv J J':=agree_setH _ _ _ (M1 _);have q:J'.h st.nv=H':=setH_h _ _ _;have r:w.heap[(J.i ad).toNat]?=some (.cells c T (0,0)):=hsub _ _ H;have B:H' (J.i ad).toNat=some (.cells (splice c.toList (iev J yd).toNat vs).toArray T (0,0)):=by
    show(J.h k).put _ _ _ _=_;unfold Hl.put;rw[M0 rfl,H]
   have fin:∀ w',w'=w.setRow (J.i ad).toNat (splice c.toList (iev J yd).toNat vs).toArray->K (a.put d (goInt vs.length)) w':=by
    rintro w' rfl;have L:(J.h k).mem (J.i ad).toNat:=by unfold Hl.mem;rw[H];rfl
    have O:MRel S w0 J' (st.mem.set p (.hp st.nv (k::vers) tags links)) (w.setRow (J.i ad).toNat (splice c.toList (iev J yd).toNat vs).toArray):=by
     refine hA.toMRel.set hp rfl rfl rfl rfl ar (fun b _ hn=>setRow_other w _ b _ (fun e=>hn (by subst e;exact L))) (Mem.agree hg (St.upto_mem hu)) ?_ trivial ?_
     .show(J'.h st.nv).sub _;rw[q];intro b o hb;by_cases s:b=(J.i ad).toNat
      .subst s;rw[B]at hb;rw[<-hb];exact setRow_heap w _ _ _ T _ r
      .have hb:(J.h k).put (J.i ad).toNat (iev J yd).toNat vs b=some o:=hb;unfold Hl.put at hb;rw[MM s]at hb;rw[setRow_other w _ b _ s];exact hsub _ _ hb
     .intro b hb;have hb:(J'.h st.nv).mem b:=hb;rw[q]at hb;exact Or.inl (Hl.put_mem.1 hb)
    exact hK J' _ _ hg ⟨by show J'.h st.nv=_;rw[q,<-n,iev_var],rfl⟩ (Rel.step hA hu hg O _ _ _ _ (fun y hy=>by cases hy))
   have lenV:vs.length=Nat.min (iev J ls).toNat (iev J ld).toNat:=by rw[hlen];show _=min _ _;omega
   have ex:TV.ev J (.sv (.one (.sl (.var ad) yd ld G)))=.slice (some ⟨(J.i ad).toNat,(iev J yd).toNat,none⟩) (iev J ld).toNat (iev J G).toNat:=by
    simp only[TV.ev,SV.ev,CV.ev,iev_var,slP_pos hx]
   rw[ex];rcases A with h0 | ⟨M,Q,hb⟩
   .have D:vs=[]:=MF.1 (by rw[hlen,h0];rfl);refine⟨_,_,run_copy_zero w t t' ty el _ _ _ _ _ x m _ ae,?_⟩;have:=fin w (by
     rw[D];have:(splice c.toList (iev J yd).toNat []).toArray=c:=by simp [splice]
     rw[this,setRow_self r])
    rw[D]at this;exact this
   .have u:∀ j,j<(min (iev J ls) (iev J ld)).toNat->∃ z,(J.h hh).cell (iev J xs).toNat ((iev J ys).toNat+j)=some (.int .u8 z):=fun j f=>cellBytes_at hb f;have g:∀ j v,vs[j]?=some v->∃ z,v=.int .u8 z/\(J.h hh).cell (iev J xs).toNat ((iev J ys).toNat+j)=some v:=by
     intro j v f;have F:j<(min (iev J ls) (iev J ld)).toNat:=by rw[<-hlen];exact(MK.1 f).1
     obtain⟨z,hz⟩:=u j F;rw[n]at f;simp only[segVals,MU,Nf F,Nl,hz,Oe,MP]at f;exact⟨z,f.symm,by rw[<-f];exact hz⟩
    have av:=run_copy_row P w t t' ty el (J.i ad).toNat (iev J yd).toNat (iev J ld).toNat (iev J G).toNat ⟨(iev J xs).toNat,(iev J ys).toNat,none⟩ (iev J ls).toNat (iev J cs).toNat c T vs x (by simpa [sizeT] using hsz) r lenV
     (fun j v f=>by
      obtain⟨z,_,hz⟩:=g j v f;rw[show(⟨(iev J xs).toNat,(iev J ys).toNat,none⟩:Addr).add j=⟨(iev J xs).toNat,(iev J ys).toNat+j,none⟩by unfold Addr.add;split<;>simp_all];exact Hl.sub_cell l hz)
     (by rw[hlen];omega)
     (fun v hv=>by
      obtain⟨j,f⟩:=N2.1 hv;obtain⟨z,rfl,_⟩:=g j v f;rfl)
    have U:TV.ev J (.sv (.one (.sl xs ys ls cs)))=.slice (some ⟨(iev J xs).toNat,(iev J ys).toNat,none⟩) (iev J ls).toNat (iev J cs).toNat:=by
     simp only[TV.ev,SV.ev,CV.ev,slP_pos M]
    rw[U];refine⟨_,_,av,fin _ ?_⟩;simp [splice]
  .cases h
 .cases h
def copyE_sound (hA:Rel S w0 J st a w) (V:st.upto st.nv=true) {x:TV} (h:copyE P st t x y d=some R) (hn:R.need.holds C ms J) (hK:Fin S w0 C J st a d R K) :
 ∃ v' w',(Builtin.copy_ #[t,t'] ty #[x.ev J,y.ev J]).run P w=.ok v' w'/\K (a.put d v') w':=by
 unfold copyE at h;split at h
 .rename_i el hu;split at h
  .rename_i hsz;split at h
   .rename_i ad yd ld F xs ys ls cs;split at h
    .rename_i p l T hf;have hp:=fBlk_sound hf;have r:0<=J.i ad:=hA.toMRel.pos _ (MG hp);simp only at h;generalize hN:mkIte (mkLt ls ld) ls ld=N at h;split at h
     .rename_i k src G;split at h
      .rename_i l' H;cases h;simp only[ndE_holds,bev_mkAnd,bev_mkLe,iev_lit,iev_mkAdd,ML,MI]at hn;obtain⟨hk,u,I,hs0,L⟩:=hn;have u:=Ol u;have I:=Ol I;have hs0:=Ol hs0;have eN:iev J N=min (iev J ls) (iev J ld):=by
        rw[<-hN,iev_mkIte,bev_mkLt];by_cases U:iev J ls<iev J ld
        .rw[M0 (by simpa using U)];omega
        .rw[MM (by simpa using U)];omega
       rcases copySrc_sound hA.toMRel G hk u L with ⟨W,A⟩ | ⟨b,o,X,m⟩
       .have aa:iev J N<=0:=by rw[eN,A];omega
        obtain⟨hlen,q⟩:=copyL_sound (J:=J) l 0 l' H;have same:l'.map (CV.ev J)=l.map (CV.ev J):=by
         apply Ni;intro j;by_cases f:j<l.length
         .have c:j<l'.length:=ae;obtain⟨_,M⟩:=q j _ _ (ME f) (ME c);rw[Nw,copyIn_true]at M;rw[MU,ME c,MU,ME f,Nl,Nl,M,MM (by simp only[MI];omega)]
         .rw[MS (by simp;omega),MS (by simp;omega)]
        have ex:TV.ev J (.sv (.one (.sl (.var ad) yd ld F)))=.slice (some ⟨(J.i ad).toNat,(iev J yd).toNat,none⟩) (iev J ld).toNat (iev J F).toNat:=by
         simp only[TV.ev,SV.ev,CV.ev,iev_var,slP_pos r]
        have Y:TV.ev J (.sv (.one (.sl xs ys ls cs)))=.slice none 0 (iev J cs).toNat:=by
         simp only[TV.ev,SV.ev,CV.ev,W,A];rfl
        rw[ex,Y];have Z:=hA.toMRel.blk hp;have B:=setRow_self Z;have hM:=hA.toMRel.setBlk (l':=l') hp (cs:=(l.map (CV.ev J)).toArray) (by rw[same]);rw[B]at hM;have D:((P.info? el).map (·.size)).isSome=true:=by
         have:(P.info? el).map (·.size)=some 1:=by simpa [sizeT] using hsz
         rw[this];rfl
        refine⟨_,_,run_copy_none w t t' ty el _ _ _ _ hu D,?_⟩;refine hK J _ _ (Agree.refl _ _) rfl (Rel.put (st:={st with mem:=st.mem.set p (.blk ad l' T)}) ⟨hM,hA.size,hA.defers,hA.tmp,hA.path⟩ _ _ _ (fun z hz=>?_));cases hz;simp only[TV.ev,SV.ev,CV.ev];unfold goInt
        congr 1
        rw[eN,A];omega
       obtain⟨hlen,q⟩:=copyL_sound (J:=J) l 0 l' H
       let g:=(iev J N).toNat
       let e:=(iev J yd).toNat
       let vs:List Value:=(List.range g).map fun i=>(w.cell? ⟨b,o+i,none⟩).getD (.bool false)
       have E:∀ i,i<g->∃ s,copyCut yd ld src (e+i)=some s/\w.cell? ⟨b,o+i,none⟩=some (s.ev J):=by
        intro i hi;have ab:(i:Int)<iev J N:=ae;obtain⟨s,h1,h2⟩:=m (e+i) ae ae;rw[show e+i-(iev J yd).toNat=i by omega]at h2;exact⟨s,(copyCut_some (J:=J) (n:=N) (by rw[eN];omega) ae).trans h1,h2⟩
       have O:∀ v∈vs,v.oneCell'=true:=by
        intro v hv;obtain⟨i,hi,rfl⟩:=Np.1 hv;have hi:=Nn.1 hi;obtain⟨s,h1,h2⟩:=E i hi;rw[h2,Oe];have f:e+i<l.length:=ae;have c:e+i<l'.length:=ae;obtain⟨⟨z,hz⟩,_⟩:=q (e+i) _ _ (ME f) (ME c);rw[Nw,h1]at hz;unfold copyCell at hz;simp only at hz;split at hz
        .rename_i U;exact CV.cell_one s U
        .cases hz
       have av:=run_copy_row P w t t' ty el (J.i ad).toNat e (iev J ld).toNat (iev J F).toNat ⟨b,o,none⟩ (iev J ls).toNat (iev J cs).toNat (l.map (CV.ev J)).toArray T vs hu (by simpa [sizeT] using hsz) (hA.toMRel.blk hp)
        (by simp only[vs,M7,Oy,g,eN];show(min (iev J ls) (iev J ld)).toNat=min _ _;omega)
        (fun j v hj=>by
         have Q:j<g:=by have:=(MK.1 hj).1;simpa [vs] using this
         obtain⟨s,h1,h2⟩:=E j Q;have:v=s.ev J:=by
          simp only[vs,MU,Nf Q,Nl,h2,Oe,MP]at hj;exact hj.symm
         subst this;rw[show(⟨b,o,none⟩:Addr).add j=⟨b,o+j,none⟩by unfold Addr.add;split<;>simp_all];exact h2)
        (by simp only[vs,M7,Oy,g];simp;omega) O
       have ex:TV.ev J (.sv (.one (.sl (.var ad) yd ld F)))=.slice (some ⟨(J.i ad).toNat,e,none⟩) (iev J ld).toNat (iev J F).toNat:=by
        simp only[TV.ev,SV.ev,CV.ev,iev_var,slP_pos r,e]
       have Y:TV.ev J (.sv (.one (.sl xs ys ls cs)))=.slice (some ⟨b,o,none⟩) (iev J ls).toNat (iev J cs).toNat:=by
        simp only[TV.ev,SV.ev,CV.ev,X]
       rw[ex,Y];refine⟨_,_,av,?_⟩;have hnew:(l.map (CV.ev J)).toArray.toList.take e++vs++(l.map (CV.ev J)).toArray.toList.drop (e+vs.length)=l'.map (CV.ev J):=by
        have lv:vs.length=g:=by simp [vs]
        apply Ni;intro j;rw[lv];by_cases f:j<l.length
        .have c:j<l'.length:=ae;obtain⟨_,M⟩:=q j _ _ (ME f) (ME c);rw[Nw,copyIn_true]at M;rw[MU,ME c,Nl,M];simp only[MI];by_cases h1:j<e
         .rw[MM ae,MY,M5 (by simp;omega)];simp [NB,h1,f]
         .by_cases h2:j<e+g
          .rw[M0 ae,M5 (by simp [lv];omega),MX (by simp;omega)];obtain⟨s,h3,h4⟩:=E (j-e) ae;rw[show e+(j-e)=j by omega]at h3;rw[h3];show _=some (s.ev J);have hm:(List.take e (List.map (CV.ev J) l).toArray.toList).length=e:=by simp;omega
           rw[hm];simp only[vs,MU,Nf (show j-e<g by omega),Nl,h4,Oe]
          .rw[MM ae,MX (by simp [lv];omega)];simp only[MJ,M3,M7,lv,Nm,MU];rw[show e+g+(j-(min e l.length+g))=j by omega];simp [f]
        .rw[MS (by simp [lv];omega),MS (by simp [hlen];omega)]
       refine hK J _ _ (Agree.refl _ _) rfl (Rel.put (st:={st with mem:=st.mem.set p (.blk ad l' T)}) ⟨hA.toMRel.setBlk hp (by rw[hnew]),hA.size,hA.defers,hA.tmp,hA.path⟩ _ _ _ (fun z hz=>?_));cases hz;simp only[TV.ev,SV.ev,CV.ev,vs,M7,Oy,g];unfold goInt
       congr 1
       omega
      .cases h
     .cases h
    .exact copyH_sound hA V hu hsz h hn hK
   .cases h
  .cases h
 .cases h
end
end Go.Sx
