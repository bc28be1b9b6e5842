/- RelayCrashes. -/
import Derived.Test.YtomdimlnggpgbaaGreatDoorTB
set_option linter.all false
namespace Go.Sx
open Go
variable {K:Act->World->Prop}{es:Array MapEntry}{cs:Array Value}{agg:Bool}{k ld le ls xs yd ys:E}{Q:Exit->Act->World->Prop}{kd:Kd}{l l' m z:List CV}{args:List TV}{mem:Mem}{L ad b c g h j n p size x:Nat}{src:Nat->Option CV}{o:Obj}{d:Option Tmp}{y:TV}{T el t t' ty:TypeId}{key old v:Value}
structure XR where
 st:St
 need:Nd
 x:Option X
variable {R:XR}
def posOf (mem:Mem) (x:E):Option (Nat×bL) :=
 match x with
 | .var a=>match tX mem a with
  | some (p,l,T)=>some (p,.bj a l T)
  | none=>Dc mem x
 | x=>Dc mem x
def bu {x:E} {r:bL} (h:posOf mem x=some (p,r)):mem[p]?=some r:=by
 unfold posOf at h;split at h
 .split at h
  .rename_i q l T hb;cases h;exact gH hb
  .exact iZ h
 .exact iZ h
def oY (z:List CV) (n:Nat):List CV:=(List.range n).map fun j=>z.getD (j%z.length) (.bool .tt)
def rootOf:TV->Option E
 | .sv (.one (.hptr x _))=>some x
 | .sv (.one (.sl x _ _ _))=>some x
 | .sv (.one (.map x))=>some x
 | .sv (.one (.clo _ x))=>some x
 | _=>none
def KV (mem:Mem) (size:Nat) (t:TV):Option (Src×E) :=
 match t with
 | .sv (.one (.sl x y l c)) =>
  if x=.lit (-1)then(if y=.lit 0/\l=.lit 0/\c=.lit 0 then some (.cvs [] 0,.lit 0)else none)else
  match qj mem x y,l with
  | some (_,_,cs,_,o),.lit m=>if 0<=m/\o+m.toNat*size<=cs.length/\(((cs.drop o).take (m.toNat*size)).all CV.sf=true)then some (.cvs ((cs.drop o).take (m.toNat*size)) m.toNat,.lit m)else none
  | _,l=>match(Dc mem x).bind (fun r=>r.2.hk)with
   | some h=>some (.seg h x y l,l)
   | none=>none
 | _=>none
def tv (P:Program) (st:St) (t:TypeId) (p:CV) (v:SV):Option (E×Mem ⊕ X×Mem) :=
 match p with
 | .pti a o s k i=>match tX st.mem a,v with
  | some (p,l,T),.one c=>if fI P t=some 1/\c.sf=true/\(∀ j,j<k->o+s*j<l.length)then
   (updSel l o s i c k).map fun l'=>.inl (Qy i k,st.mem.set p (.bj a l' T))
   else none
  | _,_=>none
 | .hptr x y=>if fI P t=some v.cells.length/\v.cells.all CV.sf=true then match qj st.mem x y with
  | some (a,p,l,T,o)=>if o+v.cells.length<=l.length then some (.inl (.tt,st.mem.set p (.bj a (br l o v.cells) T)))else none
  | none=>match Dc st.mem x with
   | some (p,.hp k vers tags links)=>some (.inr (.put st.nv k x y v.cells,st.mem.set p (.hp st.nv (k::vers) tags links)))
   | _=>none
  else none
 | _=>none
where updSel (l:List CV) (o s:Nat) (i:E) (c:CV):Nat->Option (List CV)
 | 0=>some l
 | m+1=>match updSel l o s i c m with
  | some l'=>match l'[o+s*m]? with
   | some old=>match rp (mkEq i (.lit m)) c old with
    | some v=>some (l'.set (o+s*m) v)
    | none=>none
   | none=>none
  | none=>none
def I2 (args:List TV) (mem:Mem):YA->Option (Nat×bL)
 | .arg i=>match(args[i]?).bind rootOf with
  | some x=>match posOf mem x with
   | some (p,r)=>if r.own then some (p,r)else none
   | none=>none
  | none=>none
 | .link i j=>match(args[i]?).bind rootOf with
  | some x=>match posOf mem x with
   | some (_,.hp _ _ _ links)=>match links[j]? with
    | some y=>match posOf mem y with
     | some (p,r)=>if r.own then some (p,r)else none
     | none=>none
    | none=>none
   | some (_,.bj _ l _)=>match l[j]? with
    | some (.hptr y _)=>match posOf mem y with
     | some (p,r)=>if r.own then some (p,r)else none
     | none=>none
    | _=>none
   | _=>none
  | none=>none
 | .VK i j k=>match(args[i]?).bind rootOf with
  | some x=>match posOf mem x with
   | some (_,.bj _ l _)=>match l[j]? with
    | some (.hptr y _)=>match posOf mem y with
     | some (_,.hp _ _ _ links)=>match links[k]? with
      | some z=>match posOf mem z with
       | some (p,r)=>if r.own then some (p,r)else none
       | none=>none
      | none=>none
     | _=>none
    | _=>none
   | _=>none
  | none=>none
def qK:CV->Option E
 | .hptr x _=>some x
 | .sl x _ _ _=>some x
 | .map x=>some x
 | _=>none
def rH (mem:Mem) (r:Nat×bL):Nat×bL:=match r.2 with
 | .bj _ l _=>match(l.head?).bind qK with
  | some y=>match posOf mem y with
   | some q=>q
   | none=>(mem.length,.dead)
  | none=>(mem.length,.dead)
 | .ro _ _ any=>if any then r else match qC mem 0 with
  | some q=>q
  | none=>r
 | _=>r
def wv:Mem->TypeId->Nat->Option (Nat×bL)
 | [],_,_=>none
 | .bj a l T::m,t,k=>match wv m t (k+1)with
  | some r=>some r
  | none=>if T=t then some (k,.bj a l T)else none
 | _::m,t,k=>wv m t (k+1)
def xg (args:List TV) (mem:Mem) (i:Nat):Nat×bL :=
 if 7000000<=i then match wv mem (i-7000000) 0 with
  | some r=>r
  | none=>(mem.length,.dead)
 else if 6000000<=i then match mem[i-6000000]? with
  | some r=>(i-6000000,r)
  | none=>(mem.length,.dead)
 else if 5000000<=i then match args[(i-5000000)/1000]? with
  | some (.sv (.one (.hptr x y)))=>match posOf mem x with
   | some (_,.bj _ l _)=>match(l[(i-5000000)%1000]?).bind qK with
    | some z=>match posOf mem z with
     | some r=>r
     | none=>(mem.length,.dead)
    | none=>(mem.length,.dead)
   | some (_,.ro k _ _)=>match posOf mem (.hP k x y ((i-5000000)%1000) 0)with
    | some r=>r
    | none=>(mem.length,.dead)
   | _=>(mem.length,.dead)
  | _=>(mem.length,.dead)
 else if 4000000<=i then match args[(i-4000000)/1000]? with
  | some (.sv (.agg l))=>match(l[(i-4000000)%1000]?).bind qK with
   | some y=>match posOf mem y with
    | some r=>rH mem r
    | none=>(mem.length,.dead)
   | none=>(mem.length,.dead)
  | _=>(mem.length,.dead)
 else if 3000000<=i then match(args[i-3000000]?).bind rootOf with
  | some x=>match posOf mem x with
   | some r=>rH mem r
   | none=>(mem.length,.dead)
  | none=>(mem.length,.dead)
 else if 2000000<=i then match posOf mem (.lit ((i-2000000:Nat):Int))with
  | some r=>r
  | none=>(mem.length,.dead)
 else if 1000000<=i then match args[(i-1000000)/1000]? with
  | some (.sv (.agg l))=>match(l[(i-1000000)%1000]?).bind qK with
   | some y=>match posOf mem y with
    | some r=>r
    | none=>(mem.length,.dead)
   | none=>(mem.length,.dead)
  | _=>(mem.length,.dead)
 else if 10000<=i then match args[(i-10000)/100]? with
  | some (.sv (.agg l))=>match(l[(i-10000)%100]?).bind qK with
   | some y=>match posOf mem y with
    | some r=>r
    | none=>(mem.length,.dead)
   | none=>(mem.length,.dead)
  | _=>(mem.length,.dead)
 else if 1000<=i then match(args[(i-1000)/100]?).bind rootOf with
  | some x=>match posOf mem x with
   | some (_,.bj _ l _)=>match(l[(i-1000)%100]?).bind qK with
    | some y=>match posOf mem y with
     | some r=>r
     | none=>(mem.length,.dead)
    | none=>(mem.length,.dead)
   | some r=>r
   | none=>(mem.length,.dead)
  | none=>(mem.length,.dead)
 else if 200<=i then match(args[i-200]?).bind rootOf with
  | some x=>match posOf mem x with
   | some (_,.bj _ (.map y::_) _)=>match posOf mem y with
    | some r=>r
    | none=>(mem.length,.dead)
   | _=>(mem.length,.dead)
  | none=>(mem.length,.dead)
 else if 100<=i then match qC mem 0 with
  | some r=>r
  | none=>(mem.length,.dead)
 else match(args[i]?).bind rootOf with
  | some x=>match posOf mem x with
   | some r=>r
   | none=>(mem.length,.dead)
  | none=>(mem.length,.dead)
def bL.pF (n:Nat):bL->bL
 | .bj a _ _=>.hp n [] [.var a] []
 | .hp k vers tags links=>.hp n (k::vers) tags links
 | .dead=>.hp n [] [] []
 | r=>r
def qM (mem:Mem) (ps:List (Nat×bL)):Mem:=qu (fun p r=>match ps.find? fun q=>q.1==p with
 | some q=>q.2
 | none=>r) 0 mem
def nO (args:List TV) (l:List Nat):List E:=l.filterMap fun i=>(args[i]?).bind rootOf
def NF (Γ:List Spec) (st:St) (f:FuncId) (args:List TV) (dst:Option Tmp):Option XR :=
 match Γ.findIdx? fun s=>s.fn==f with
 | some j=>match Γ[j]? with
  | some s=>match iv (s.own.map (I2 args st.mem))with
   | some own =>
    let rd:=s.rd.map (xg args st.mem)
    let ps:=own.map (·.1)
    if decide ps.Nodup&&(rd.all fun r=>!ps.contains r.1)then
     let x:X:=.call j st.nv args (own.map (·.2)) (rd.map (·.2))
     let a:=own.zipIdx.map fun q=>(q.1.1,q.1.2.pF (st.nv+q.2))
     let mem:=qM st.mem a++(if aK 0 s.res=[]then []else [.hp (st.nv+own.length) [] (aK st.nv s.res) (nO args s.links)])
     some ⟨({st with mem:=mem,nv:=st.nv+max (Wo s.res) (own.length+1)} : St).put dst (some (kS st.nv s.res)),.pre x,some x⟩
    else none
   | none=>none
  | none=>none
 | none=>none
def yX (P:Program) (f:FuncId):Bool :=
 match P.funcs[f]? with
 | some fn=>fn.body.isSome&&!(fn.name== "runtime.NumGoroutine")
 | none=>false
def tL (st:St):Operand->Option FuncId
 | .func f=>some f
 | .tmp t=>match st.tmps[t]? with
  | some (some (.sv (.one (.val (.func (.func f) a b)))))=>if a.isEmpty&&b.isEmpty then some f else none
  | _=>none
 | _=>none
def zW (st:St) (l:List CV) (T:TypeId) (dst:Option Tmp) (v:TV):Option XR :=
 if l.all (·.upto st.nv)=true then some ⟨({st with mem:=st.mem++[.bj st.nv l T],nv:=st.nv+1} : St).put dst (some v),.tt,some (.alloc st.nv)⟩else none
def Tu (P:Program) (st:St) (t:TypeId) (a b:TV) (dst:Option Tmp):Option XR :=
 match P.underlying t with
 | some (.slice el)=>match P.info? el with
  | some i=>match i.zero with
   | some z=>if z.cells.size=i.size/\0<i.size then
    match a,KV st.mem i.size b with
    | .sv (.one (.sl x y l c)),some (src,le)=>if(l.upto st.nv&&le.upto st.nv)=true then
     let n:=st.nv
     let r:TV:=.sv (.one (.sl (.var n) (.lit 0) (mkAdd l le) (.var (n+1))))
     let fin (mem:Mem) (x:X):XR:=⟨({st with mem:=mem,nv:=n+2} : St).put dst (some r),.pre x,some x⟩
     if x=.lit (-1)then
      if y=.lit 0/\l=.lit 0/\c=.lit 0 then
       some (fin (st.mem++[.hp n [] [.var n] []]) (.app n el i.size i.bytes (.sl x y l c) l .dead src))
      else none
     else match posOf st.mem x with
      | some (p,.hp k vers tags links)=>some (fin (st.mem.set p (.hp n (k::vers) (.var n::tags) links)) (.app n el i.size i.bytes (.sl x y l c) l (.hp k vers tags links) src))
      | some (p,.bj a cells T)=>match y,l,c with
       | .lit o,.lit l,.lit c=>if T=el/\o=0 then
        some (fin (st.mem.set p (.hp n [] [.var n,.var a] [])) (.app n el i.size i.bytes (.sl x y (.lit l) (.lit c)) (.lit l) (.bj a cells T) src))
        else if 0<=o/\0<=l/\l<=c/\o.toNat+l.toNat*i.size<=cells.length/\x=.var a then
         some (fin (st.mem++[.hp n [] [.var n] []]) (.grow n el i.size i.bytes ((cells.drop o.toNat).take (l.toNat*i.size)) l.toNat c.toNat src))
        else none
       | _,_,_=>none
      | _=>none
     else none
    | _,_=>none
    else none
   | none=>none
  | none=>none
 | _=>none
def OP (P:Program) (st:St) (t:TypeId) (a b:TV) (dst:Option Tmp):Option XR :=
 match P.underlying t,a,b with
 | some (.slice el),.sv (.one (.int k l)),.sv (.one (.int d c))=>if l=c then match P.info? el with
  | some i=>match i.zero with
   | some z=>if z.cells.size=i.size/\0<i.size/\l.upto st.nv=true then
    let zs:=z.cells.toList.map iG
    let n:=st.nv
    let x:X:=.mk n el zs i.bytes l
    match l with
    | .lit m=>if m.toNat*i.size<=128 then
     some ⟨({st with mem:=st.mem++[.bj n (oY zs (m.toNat*i.size)) el],nv:=n+1} : St).put dst (some (.sv (.one (.sl (.var n) (.lit 0) l l)))),.pre x,some x⟩
     else some ⟨({st with mem:=st.mem++[.hp n [] [.var n] []],nv:=n+1} : St).put dst (some (.sv (.one (.sl (.var n) (.lit 0) l l)))),.pre x,some x⟩
    | l=>some ⟨({st with mem:=st.mem++[.hp n [] [.var n] []],nv:=n+1} : St).put dst (some (.sv (.one (.sl (.var n) (.lit 0) l l)))),.pre x,some x⟩
    else none
   | none=>none
  | none=>none
  else none
 | _,_,_=>none
def TJ (P:Program) (st:St) (t:TypeId) (len:Nat) (is:List Nat) (vs:List TV) (dst:Option Tmp):Option XR :=
 match P.underlying t with
 | some (.slice el)=>match fI P el,mD P el,VS vs with
  | some n,some z,some vs=>if len*n<=4096/\z.cells.size=n then
   match zk (fun i=>some (i*n,n)) (oY (z.cells.toList.map iG) (len*n)) (is.zip vs)with
   | some l=>zW st l el dst (.sv (.one (.sl (.var st.nv) (.lit 0) (.lit len) (.lit len))))
   | none=>none
   else none
  | _,_,_=>none
 | _=>none
def BH (P:Program) (t:TypeId):Option Kd :=
 match P.underlying t with
 | some (.int k)=>some (.int k)
 | some .string=>some .str
 | _=>none
def OB:Kd->CV->Bool
 | .int k,.int a _=>decide (k=a)
 | .str,.str _=>true
 | _,_=>false
def L3 (P:Program) (st:St) (op:Op) (dst:Option Tmp):Option XR :=
 match op with
 | .makeMap t none=>match P.underlying t with
  | some (.map _ _)=>some ⟨({st with mem:=st.mem++[.hp st.nv [] [.var st.nv] []],nv:=st.nv+1} : St).put dst (some (.sv (.one (.map (.var st.nv))))),.pre (.mnew st.nv),some (.mnew st.nv)⟩
  | _=>none
 | .lookup t m k ok=>match P.underlying t with
  | some (.map a b)=>match BH P a,mD P b,Ha P b,de st m,de st k with
   | some kd,some z,some agg,some (.sv (.one (.map x))),some (.sv (.one key))=>match(Dc st.mem x).bind (fun r=>r.2.hk),lift z with
    | some h,.sv zs =>
     let ks:=z.cells.toList.map ma
     if OB kd key&&(agg==isAgg z)&&(agg||ks.length==1)then
      let X:X:=.mget st.nv h x kd key zs ks agg
      let v:=mn st.nv ks agg
      some ⟨({st with nv:=st.nv+bd ks+1} : St).put dst (some (if ok then .tup [v,.one (.bool (.bvar (st.nv+bd ks)))]else .sv v)),.pre X,some X⟩
     else none
    | _,_=>none
   | _,_,_,_,_=>none
  | _=>none
 | .mapUpdate t m k v=>match P.underlying t with
  | some (.map a _)=>match BH P a,de st m,de st k,de st v with
   | some kd,some (.sv (.one (.map x))),some (.sv (.one key)),some (.sv vs)=>if OB kd key then match Dc st.mem x with
    | some (p,.hp h vers tags links)=>some ⟨({st with mem:=st.mem.set p (.hp st.nv (h::vers) tags links),nv:=st.nv+1} : St).put dst none,.pre (.mset st.nv h x kd key vs),some (.mset st.nv h x kd key vs)⟩
    | _=>none
    else none
   | _,_,_,_=>none
  | _=>none
 | .call {callee:=.builtin .clear,args,argTypes}=>match args.toList,argTypes.toList with
  | [m],[t]=>match P.underlying t,de st m with
   | some (.map _ _),some (.sv (.one (.map x)))=>match Dc st.mem x with
    | some (p,.hp h vers tags links)=>some ⟨({st with mem:=st.mem.set p (.hp st.nv (h::vers) tags links),nv:=st.nv+1} : St).put dst none,.pre (.mclr st.nv h x),some (.mclr st.nv h x)⟩
    | _=>none
   | _,_=>none
  | _,_=>none
 | _=>none
def C9 (P:Program) (mem:Mem) (el:TypeId) (p L:Nat) (yd n xs ys ls:E):Option (E×(Nat->Option CV)) :=
 match(match xs with | .var bs=>tX mem bs | _=>none)with
 | some (q,m,_) =>
  if q=p then none else
  if yd=ys/\m.length=L then some (.tt,fun j=>m[j]?)
  else match yd,ys with
   | .lit o,.lit o'=>if 0<=o/\0<=o' then some (mkLe (mkAdd (.lit o') n) (.lit m.length),fun j=>if o.toNat<=j then m[j-o.toNat+o'.toNat]? else none)else none
   | _,_=>none
 | none=>match yd,(Dc mem xs).bind (fun r=>r.2.hk)with
  | .lit o,some h=>if 0<=o/\LP P el=true then some (mkOr (mkAnd (mkEq xs (.lit (-1))) (mkEq ls (.lit 0))) (mkAnd (mkLe (.lit 0) xs) (mkAnd (mkLe (.lit 0) ys) (.hby h xs ys n))),fun j=>if o.toNat<=j then some (.int .u8 (.hI h xs ys (j-o.toNat)))else none)else none
  | _,_=>none
def xU (yd ld:E) (src:Nat->Option CV) (j:Nat):Option CV:=match yd,ld with
 | .lit o,.lit l=>if(j:Int)<o+l then src j else none
 | _,_=>src j
def yN (yd n:E) (j:Nat):E:=mkAnd (mkLe yd (.lit j)) (mkLt (.lit j) (mkAdd yd n))
def qb (c:E) (src:Option CV) (old:CV):Option CV :=
 match src with
 | none=>some old
 | some s=>if s.sf=true then(if c=.tt then some s else if c=.ff then some old else rp c s old)else none
def JF (yd n:E) (src:Nat->Option CV):Nat->List CV->Option (List CV)
 | _,[]=>some []
 | j,c::l=>match qb (yN yd n j) (src j) c,JF yd n src (j+1) l with
  | some x,some r=>some (x::r)
  | _,_=>none
def NN (P:Program) (st:St) (el:TypeId) (ad:Nat) (yd ld xs ys ls:E) (dst:Option Tmp):Option XR :=
 match Dc st.mem (.var ad),(Dc st.mem xs).bind (fun r=>r.2.hk)with
 | some (p,.hp k vers tags links),some h=>if LP P el=true then
  let x:X:=.cpy st.nv k (.var ad) yd ld h xs ys ls
  some ⟨({st with mem:=st.mem.set p (.hp st.nv (k::vers) tags links),nv:=st.nv+1} : St).put dst none,.pre x,some x⟩
  else none
 | _,_=>none
def NM (P:Program) (st:St) (t:TypeId) (a b:TV) (dst:Option Tmp):Option XR :=
 match P.underlying t with
 | some (.slice el)=>if fI P el=some 1 then match a,b with
  | .sv (.one (.sl (.var ad) yd ld _)),.sv (.one (.sl xs ys ls _))=>match tX st.mem ad with
   | some (p,l,T) =>
    let n:=mkIte (mkLt ls ld) ls ld
    match C9 P st.mem el p l.length yd n xs ys ls with
    | some (k,src)=>match JF yd n (xU yd ld src) 0 l with
     | some l'=>some ⟨({st with mem:=st.mem.set p (.bj ad l' T)} : St).put dst (some (TI .i64 n)),W4 (mkAnd k (mkAnd (mkLe (.lit 0) yd) (mkAnd (mkLe (.lit 0) ld) (mkAnd (mkLe (.lit 0) ls) (mkLe (mkAdd yd n) (.lit l.length)))))),none⟩
     | none=>none
    | none=>none
   | none=>NN P st el ad yd ld xs ys ls dst
  | _,_=>none
  else none
 | _=>none
def TN (P:Program) (st:St) (s d:TypeId) (x:TV) (dst:Option Tmp):Option XR :=
 if s=d then match P.underlying s with
  | some (.slice el)=>if LP P el=true/\x.upto st.nv=true then match x with
   | .sv (.one (.sl (.var a) y l c))=>match tX st.mem a with
    | some (p,cs,T)=>some ⟨({st with mem:=st.mem.set p (.hp st.nv [] [.var a] []),nv:=st.nv+1} : St).put dst (some (.sv (.one (.sl (.var a) y l c)))),.tt,some (.cbs st.nv a cs T)⟩
    | none=>none
   | _=>none
   else none
  | _=>none
 else none
def UG (P:Program) (st:St) (T:TypeId) (x:TV) (dst:Option Tmp):Option XR :=
 match x with
 | .sv v=>match P.underlying T with
  | some (.pointer _) | some (.struct _)=>some ⟨({st with nv:=st.nv+1} : St).put dst (some (.sv (.one (.vr st.nv)))),.tt,some (.mki st.nv T v)⟩
  | _=>none
 | _=>none
def Q5 (P:Program) (Γ:List Spec) (st:St) (o:Oper):Option XR :=
 if st.upto st.nv=true then
  match o.op with
  | .alloc t=>match mD P t with
   | some z=>zW st (z.cells.toList.map iG) t o.dst (TP (.var st.nv) (.lit 0))
   | none=>none
  | .box t x=>match de st x with
   | some (.sv v)=>if v.cells.all CV.sf=true then zW st v.cells t o.dst (TP (.var st.nv) (.lit 0))else none
   | _=>none
  | .store t p x=>match de st p,de st x with
   | some (.sv (.one e)),some (.sv v)=>match tv P st t e v with
    | some (.inl (n,mem))=>some ⟨({st with mem:=mem} : St).put o.dst none,W4 n,none⟩
    | some (.inr (x,mem))=>some ⟨({st with mem:=mem,nv:=st.nv+1} : St).put o.dst none,.pre x,some x⟩
    | none=>none
   | _,_=>none
  | .makeSlice t l c=>match de st l,de st c with
   | some a,some b=>OP P st t a b o.dst
   | _,_=>none
  | .buildSlice t len parts=>match uB st (parts.toList.map (·.2))with
   | some vs=>TJ P st t len (parts.toList.map (·.1)) vs o.dst
   | none=>none
  | .call {callee:=.builtin .append,args,argTypes}=>match args.toList,argTypes.toList with
   | [a,b],[t,t']=>if t=t' then match de st a,de st b with
    | some x,some y=>Tu P st t x y o.dst
    | _,_=>none
    else none
   | _,_=>none
  | .call {callee:=.builtin .copy,args,argTypes}=>match args.toList,argTypes.toList with
   | [a,b],[t,_]=>match de st a,de st b with
    | some x,some y=>NM P st t x y o.dst
    | _,_=>none
   | _,_=>none
  | .convert s d x=>match de st x with
   | some x=>TN P st s d x o.dst
   | none=>none
  | .makeInterface T x=>match de st x with
   | some x=>UG P st T x o.dst
   | none=>none
  | .makeMap t none=>L3 P st (.makeMap t none) o.dst
  | .lookup t m k ok=>L3 P st (.lookup t m k ok) o.dst
  | .mapUpdate t m k v=>L3 P st (.mapUpdate t m k v) o.dst
  | .call {callee:=.builtin .clear,args,argTypes}=>L3 P st (.call {callee:=.builtin .clear,args,argTypes}) o.dst
  | .call {callee:=.value c,args,argTypes:=_}=>match tL st c,uB st args.toList with
   | some f,some vs=>if yX P f then NF Γ st f vs o.dst else none
   | _,_=>none
  | _=>none
 else none
def VB (mem:Mem) (x:E):Bool:=match posOf mem x with
 | some (_,.hp _ _ tags _)=>tags.contains (.lit (-7))
 | _=>false
def Sy:TV->List CV
 | .sv v=>v.cells
 | _=>[]
def Zs (P:Program) (st:St) (o:Oper):Option (E×List CV) :=
 match o.op with
 | .call {callee:=.builtin .append,args,argTypes}=>match args.toList,argTypes.toList with
  | [a,b],[t,_]=>match P.underlying t with
   | some (.slice el)=>match P.info? el,de st a,de st b with
    | some i,some (.sv (.one (.sl x _ _ _))),some y=>match KV st.mem i.size y with
     | some (.cvs l _,_)=>some (x,l)
     | _=>none
    | _,_,_=>none
   | _=>none
  | _,_=>none
 | .store _ p x=>match de st p,de st x with
  | some (.sv (.one (.hptr x _))),some (.sv v)=>some (x,v.cells)
  | _,_=>none
 | .call {callee:=.value _,args,argTypes:=_}=>match uB st args.toList with
  | some (.sv (.one (.hptr x _))::vs)=>if VB st.mem x then some (x,vs.flatMap Sy)else none
  | _=>none
 | _=>none
def OY (mem:Mem) (p:Nat):List CV->Option (E×Nat×bL)
 | []=>none
 | c::l=>match(qK c).bind (fun y=>(posOf mem y).map fun r=>(y,r))with
  | some (y,q,r)=>if r.own=true/\q≠p then some (y,q,r)else OY mem p l
  | none=>OY mem p l
def bL.ks:bL->List Nat
 | .hp k vers _ _=>k::vers
 | _=>[]
def bL.XD:bL->List E
 | .hp _ _ tags _=>tags
 | _=>[]
def BP (P:Program) (st:St) (o:Oper):Option (St×X) :=
 match Zs P st o with
 | some (x,l)=>match posOf st.mem x with
  | some (p,.hp k vers tags links)=>match OY st.mem p l with
   | some (y,q,r)=>if st.upto st.nv=true then some ({st with mem:=(st.mem.set p (.hp st.nv (k::r.ks++vers) (tags++y::r.XD) links)).set q .dead,nv:=st.nv+1},.Rr st.nv (.hp k vers tags links) r)else none
   | none=>none
  | _=>none
 | none=>none
section
variable {P:Program} {C:Ctx} {ms:Nat->Nat} {S:Nat->Prop} {w0:World} {J J':Env} {st:St} {mem mem':Mem} {a:Act} {w w':World}
def Rel.step (hA:Rel S w0 J st a w) (hu:st.upto st.nv=true) (b:ai st.nv J J') (hm:MRel S w0 J' mem' w') (nv:Nat) (d:Option Tmp) (v:Option TV) (x:Value) (hx:∀ y,v=some y->x=y.ev J') :
 Rel S w0 J' (({st with mem:=mem',nv:=nv} : St).put d v) (a.put d x) w' :=
 Rel.put (Rel.pD b hu hA hm nv) d v x hx
def St.dt (h:st.upto n=true):Mem.upto n st.mem=true:=by
 simp only[St.upto,aaE]at h;exact h.1.2
def Fin (S:Nat->Prop) (w0:World) (C:Ctx) (J:Env) (st:St) (a:Act) (d:Option Tmp) (R:XR) (K:Act->World->Prop):Prop :=
 ∀ J' x w',ai st.nv J J'->(match R.x with | some y=>y.rel C J J'/\y.n=st.nv | none=>J'=J)->Rel S w0 J' R.st (a.put d x) w'->K (a.put d x) w'
def fK {o:Oper} (h:(execOp a.eval o).run P w=.ok (.value v) w') (hK:K (a.put o.dst v) w'):o.wp P a w K Q:=by
 unfold Oper.wp;rw[h];exact hK
def Bb {o:Oper} (h:(execOp a.eval o).run P w=.ok .skip w') (hK:K (a.put o.dst undef) w'):o.wp P a w K Q:=by
 unfold Oper.wp;rw[h];exact hK
def pf {v:TV} (h:zW st l T d v=some R) (hu:st.upto st.nv=true) (hA:Rel S w0 J st a w) (hK:Fin S w0 C J st a d R K)
 {cs:Array Value} (hc:cs=(l.map (CV.ev J)).toArray) {x:Value} (hx:∀ J',ai st.nv J J'->J'.i st.nv=w.heap.size->x=v.ev J'):K (a.put d x) (w.alloc (.cells cs T)):=by
 unfold zW at h;split at h
 .rename_i hl;cases h
  let J':=J.gf st.nv w.heap.size
  have c:ai st.nv J J':=ct _ _ _ (aaS _);have hi:J'.i st.nv=w.heap.size:=nM _ _ _;refine hK J' x _ c ⟨show 0<=J'.i st.nv by rw[hi];omega,rfl⟩ (Rel.step hA hu c ?_ _ _ _ _ (fun y e=>by cases e;exact hx J' c hi));refine hA.toMRel.add rfl rfl rfl aF (fun b hb=>RowKit.Below.heap_alloc w _ b hb) (Mem.agree c (St.dt hu)) ?_ (by show 0<=J'.i st.nv;rw[hi];omega) ?_
  .intro b o hb;obtain⟨rfl,rfl⟩:=Hl.nI hb;rw[hi,aar,CV.gF c l hl,hc];exact heap_alloc_new w _
  .intro b hb;rw[show b=(J'.i st.nv).toNat from Hl.dJ.1 hb,hi,aar];exact aaS _
 .cases h
def GF {α:Type} : ∀ (l:List α) (k:Nat) (x:α),l[k]?=some x->l.set k x=l
 | [],_,_,_=>rfl
 | y::l,0,x,h=>by simp at h;simp [h]
 | y::l,k+1,x,h=>by simp at h;simp [GF l k x h]
def uX {l:List CV} {o s:Nat} {i:E} {c:CV} (h0:0<=aB J i):∀ (m:Nat) (l':List CV),tv.updSel l o s i c m=some l' ->
 l'.length=l.length/\l'.map (CV.ev J)=if aB J i<m then(l.map (CV.ev J)).set (o+s*(aB J i).toNat) (c.ev J)else l.map (CV.ev J)
 | 0,l',h=>by
  cases h;refine⟨rfl,?_⟩;rw[aaG (by simpa using h0)]
 | m+1,l',h=>by
  simp only[tv.updSel]at h;split at h
  .rename_i b h1;split at h
   .rename_i old hold;split at h
    .rename_i v hv;cases h;obtain⟨e1,a⟩:=uX h0 m b h1;refine⟨by simp [e1],?_⟩;have hm:=pc (J:=J) hv;rw[gj,ak]at hm;rw[adX];by_cases hc:aB J i=(m:Int)
     .have d:(aB J i).toNat=m:=ah;rw[aaG ah]at a;rw[aaR (show aB J i<((m+1:Nat):Int)by omega),d,a,hm,aaR (by simpa using hc)]
     .rw[aaG (by simpa using hc)]at hm;rw[hm,GF _ _ _ (show(b.map (CV.ev J))[o+s*m]?=some (old.ev J)by simp [hold]),a];by_cases hi:aB J i<m
      .rw[aaR hi,aaR ah]
      .rw[aaG hi,aaG ah]
    .cases h
   .cases h
  .cases h
def MRel.D4 (h:MRel S w0 J mem w) (hp:mem[p]?=some (.bj b l T)) (hc:cs=(l'.map (CV.ev J)).toArray) :
 MRel S w0 J (mem.set p (.bj b l' T)) (w.setRow (J.i b).toNat cs):=by
 refine h.set hp rfl rfl rfl rfl aF (fun c _ hn=>setRow_other w _ c _ (fun e=>hn (Hl.dJ.2 e))) (fun s _=>⟨rfl,id⟩) ?_ (show 0<=J.i b from h.pos _ (aaA hp)) ?_
 .intro c o a;obtain⟨rfl,rfl⟩:=Hl.nI a;rw[hc];exact setRow_heap w _ _ _ T _ (h.bj hp)
 .intro c a;exact Or.inl (Hl.dJ.2 (Hl.dJ.1 a))
def qP {o:Nat} {v:SV} (hs:fI P t=some v.cells.length) (h1:v.cells.all CV.sf=true) (hle:o+v.cells.length<=l.length)
 (hb:w.heap[b]?=some (.cells (l.map (CV.ev J)).toArray T (0,0))) :
 (storeVar t ⟨b,o,none⟩ (v.ev J)).run P w=.ok () (w.setRow b ((br l o v.cells).map (CV.ev J)).toArray):=by
 unfold storeVar;have a:=SV.tN (J:=J) v h1;have d:(v.ev J).cells.size=v.cells.length:=by rw[<-ab2,a];simp
 simp only[Sem.run_bind,fe hs,Result.andThen_ok,d,ne_eq,acw,aca];rw[a];have:=run_storeCells_at (P:=P) b o T (v.cells.map (CV.ev J)) 0 (l.map (CV.ev J)).toArray w hb (by simp;omega)
  (fun x hx=>by
   obtain⟨c,hc,rfl⟩:=abb.1 hx;exact CV.qa c (aa3.1 h1 c hc))
 simp only[abj]at this;simp only[this]
 congr 2
 simp [br,aba,ac0,adl]
def Jf (hA:MRel S w0 J st.mem w) {p:CV} {v:SV} (h:tv P st t p v=some (.inl (k,mem'))) (hk:bh J k=true) :
 ∃ q w',p.ev J=.pointer (some q)/\(storeVar t q (v.ev J)).run P w=.ok () w'/\MRel S w0 J mem' w':=by
 unfold tv at h;split at h
 .rename_i b o s m i;split at h
  .rename_i q l T c hb;split at h
   .rename_i hc;simp only[aaI,Sum.inl.injEq,abl]at h;obtain⟨l',d,rfl,rfl⟩:=h;obtain⟨h0,h1⟩:=jc hk;obtain⟨e1,g⟩:=uX (c:=c) h0 m l' d;rw[aaR h1]at g;have e:=hc.2.2 (aB J i).toNat ah;have hp:=gH hb;have a:0<=J.i b:=hA.pos _ (aaA hp);refine⟨_,_,by simp only[CV.ev];rw[pg h0,au a,aar],qP (v:=.one c) hc.1 (by simp [SV.cells,hc.2.1]) (by simp only[SV.cells,aaW];omega) (hA.bj hp),?_⟩;refine hA.D4 hp ?_;rw[g];simp only[br,SV.cells,aba,ac0,adl,aaY,abN,aaW];rw[List.set_eq_take_append_cons_drop,aaR (by simpa using e)];simp
   .cases h
  .cases h
 .rename_i x y;split at h
  .rename_i hc;split at h
   .rename_i b q l T o f;obtain⟨rfl,rfl,hp⟩:=iw f;split at h
    .rename_i hle;cases h;have a:0<=J.i b:=hA.pos _ (aaA hp);exact⟨_,_,by simp only[CV.ev,al,ak];rw[au a,aar],qP hc.1 hc.2 hle (hA.bj hp),hA.D4 hp rfl⟩
    .cases h
   .split at h<;>cases h
  .cases h
 .cases h
def Jg (hA:Rel S w0 J st a w) (hu:st.upto st.nv=true) {p:CV} {v:SV} {x:X} (h:tv P st t p v=some (.inr (x,mem'))) (hk:x.pre C J) :
 ∃ q w' J',p.ev J=.pointer (some q)/\(storeVar t q (v.ev J)).run P w=.ok () w'/\ai st.nv J J'/\x.rel C J J'/\x.n=st.nv/\MRel S w0 J' mem' w':=by
 unfold tv at h;split at h
 .split at h
  .split at h
   .simp at h
   .cases h
  .cases h
 .rename_i x y;split at h
  .rename_i hc;split at h
   .split at h<;>cases h
   .split at h
    .rename_i q k vers tags links hf;cases h;have hp:=iZ hf;obtain⟨hx,o,hw⟩:=hk;have hsub:(J.h k).sub w:=hA.sub _ (aaA hp);have g:=SV.tN (J:=J) v hc.2;obtain⟨cs,f,d⟩:=Qi (P:=P) hsub (t:=t) (vs:=v.cells.map (CV.ev J)) (by simpa using hc.1) g
      (fun u hu=>by obtain⟨c,i,rfl⟩:=abb.1 hu;exact CV.qa c (aa3.1 hc.2 c i)) (by simpa using hw)
     let H':=(J.h k).put (aB J x).toNat (aB J y).toNat (v.cells.map (CV.ev J))
     let J':=J.mC st.nv H'
     have m:ai st.nv J J':=fF _ _ _ (aaS _);have hh:J'.h st.nv=H':=gL _ _ _;refine⟨_,_,J',by simp only[CV.ev];rw[au hx],f,m,hh,rfl,?_⟩;have j:(J.h k).mem (aB J x).toNat:=by
      obtain⟨c,T,fr,l,_⟩:=jI hw;unfold Hl.mem;rw[l];rfl
     refine hA.toMRel.set hp rfl rfl rfl rfl aF (fun b _ hn=>setRow_other w _ b _ (fun e=>hn (by subst e;exact j))) (Mem.agree m (St.dt hu)) ?_ trivial ?_
     .show(J'.h st.nv).sub _;rw[hh];exact d
     .intro b hb;have hb:(J'.h st.nv).mem b:=hb;rw[hh]at hb;exact Or.inl (Hl.iA.1 hb)
    .cases h
  .cases h
 .cases h
end
section
variable {P:Program} {C:Ctx} {ms:Nat->Nat} {S:Nat->Prop} {w0:World} {J J':Env} {st:St} {mem mem':Mem} {a:Act} {w w':World}
def zP {zs:List Value} (b:z.map (CV.ev J)=zs) (hp:0<zs.length) (n:Nat):(oY z n).map (CV.ev J)=(madeCells zs.toArray n).toList:=by
 have hlen:z.length=zs.length:=by rw[<-b];simp
 unfold oY madeCells;simp only[abD,Array.toList_map,Array.toList_range];refine abr fun j _=>?_;simp only[Function.comp,acm];have a:j%z.length<z.length:=adz _ ah;rw[aaD,aax a,abL];have h2:zs[j%zs.length]?=some ((z[j%z.length]).ev J):=by
  rw[<-b,aaL,aaT,aax a];rfl
 rw[getElem!_def];simp [h2]
def xp (hm:MRel S w0 J mem w) {t:TV} {src:Src} (h:KV mem size t=some (src,le)) (hok:src.ok J size) :
 Nn w (t.ev J) (src.len J) (src.iW J size)/\(src.iW J size).length=src.len J*size/\(∀ u∈src.iW J size,u.oneCell'=true)/\aB J le=src.len J:=by
 unfold KV at h;split at h
 .rename_i x y l c;split at h
  .rename_i hx;split at h
   .rename_i hc;cases h;obtain⟨rfl,rfl,rfl⟩:=hc;subst hx;exact⟨Or.inr ⟨⟨_,rfl⟩,rfl,rfl⟩,by simp [Src.iW,Src.len],by simp [Src.iW],rfl⟩
   .cases h
  .split at h
   .rename_i a p cs T o m e;obtain⟨rfl,rfl,hp⟩:=iw e;split at h
    .rename_i hc;cases h;have b:0<=J.i a:=hm.pos _ (aaA hp);refine⟨Or.inl ⟨⟨(J.i a).toNat,o,none⟩,(aB J c).toNat,?_,?_⟩,?_,?_,?_⟩
     .simp only[TV.ev,SV.ev,CV.ev,al,ak,Src.len];rw[au b,aar]
     .intro j u hu;rw[fE];simp only[Src.iW,aaL,abf]at hu;simp only[World.cell?,hm.bj hp];split at hu
      .rw[aa9]at hu;simpa using hu
      .simp at hu
     .simp only[Src.iW,Src.len,aaT,aaU,aa7];omega
     .intro u hu;simp only[Src.iW]at hu;obtain⟨q,n,rfl⟩:=abb.1 hu;exact CV.qa q (aa3.1 hc.2.2 q n)
     .simp only[ak,Src.len];omega
    .cases h
   .split at h
    .rename_i l _ _ _ _ k hk;have hsub:=zh hm hk;obtain⟨e1,r⟩:Src.seg k x y l=src/\l=le:=by simpa using h
     subst e1;subst r;rcases hok with ⟨hx,s,hl,g⟩ | hl
     .refine⟨Or.inl ⟨⟨(aB J x).toNat,(aB J y).toNat,none⟩,(aB J c).toNat,?_,?_⟩,?_,?_,?_⟩
      .simp only[TV.ev,SV.ev,CV.ev,Src.len];rw[au hx]
      .intro j u hu;rw[fE];simp only[Src.iW,cn,aaL]at hu;by_cases d:j<(aB J l).toNat*size
       .rw[aaZ d]at hu;simp only[abe,aaF]at hu;obtain⟨v,hv,_⟩:=g j d;rw[hv,abL]at hu;subst hu;exact Hl.iu hsub hv
       .rw[aaK (by simp;omega)]at hu;cases hu
      .simp [Src.iW,Src.len,cn]
      .intro u hu;simp only[Src.iW,cn]at hu;obtain⟨j,f,rfl⟩:=abb.1 hu;obtain⟨v,hv,h1⟩:=g j (abd.1 f);rw[hv];exact h1
      .simp only[Src.len];omega
     .refine⟨?_,?_,?_,?_⟩
      .cases hp:az (aB J x) (aB J y)with
       | none =>
        refine Or.inr ⟨⟨(aB J c).toNat,?_⟩,?_,?_⟩
        .simp only[TV.ev,SV.ev,CV.ev,hp,hl];rfl
        .simp [Src.len,hl]
        .simp [Src.iW,cn,hl]
       | some a0 =>
        refine Or.inl ⟨a0,(aB J c).toNat,?_,?_⟩
        .simp only[TV.ev,SV.ev,CV.ev,hp,Src.len]
        .intro j u hu;simp [Src.iW,cn,hl]at hu
      .simp [Src.iW,Src.len,cn,hl]
      .simp [Src.iW,cn,hl]
      .simp [Src.len,hl]
    .cases h
 .cases h
def Hc (hA:Rel S w0 J st a w) (hu:st.upto st.nv=true) {x:TV} (h:Tu P st t x y d=some R) (hn:R.need.holds C ms J)
 {K:Act->World->Prop} (hK:Fin S w0 C J st a d R K):∃ v' w',(Builtin.append_ #[t,t] ty #[x.ev J,y.ev J]).run P w=.ok v' w'/\K (a.put d v') w':=by
 unfold Tu at h;split at h
 .rename_i el Z;split at h
  .rename_i i hi;split at h
   .rename_i z hz;split at h
    .rename_i N;split at h
     .rename_i F G sl sc src le L;split at h
      .rename_i I;simp only[aaE]at I;simp only at h;have fin:∀ (mem':Mem) (H:bL) (Hw:(H.hl J).sub w) (R':XR),R'=⟨({st with mem:=mem',nv:=st.nv+2} : St).put d (some (.sv (.one (.sl (.var st.nv) (.lit 0) (mkAdd sl le) (.var (st.nv+1)))))),.pre (.app st.nv el i.size i.bytes (.sl F G sl sc) sl H src),some (.app st.nv el i.size i.bytes (.sl F G sl sc) sl H src)⟩ ->
        R'.need.holds C ms J->Fin S w0 C J st a d R' K ->
        (∀ w' (H':Hl) J',w.grownBy w' (CV.ev J (.sl F G sl sc)).ownBlock->ai st.nv J J'->H'.sub w'->J'.h st.nv=H'->(∀ b,H'.mem b->(H.hl J).mem b\/w.heap.size<=b)->(∀ b,(CV.ev J (.sl F G sl sc)).ownBlock=some b->(H.hl J).mem b)->MRel S w0 J' mem' w') ->
        ∃ v' w',(Builtin.append_ #[t,t] ty #[TV.ev J (.sv (.one (.sl F G sl sc))),y.ev J]).run P w=.ok v' w'/\K (a.put d v') w':=by
        intro mem' H Hw R' aa hn hK X;subst aa;obtain⟨⟨xs,m⟩,aq,hok,O,hby⟩:=hn;obtain⟨s1,s2,s3,s4⟩:=xp hA.toMRel L hok;obtain⟨v',w',H',hr,o1,o2,o3,o4,o5,o6,o7⟩:=Hf (P:=P) (ty:=ty) Hw Z hi hz rfl rfl N.1 N.2 m s2 s1 s3 O hby;obtain⟨x',c',ab,ad,ae⟩:∃ x' c':Int,v'=.slice (az x' 0) ((aB J sl).toNat+src.len J) c'.toNat/\ -1<=x'/\0<=c':=by
         rcases o1.2 with ⟨rfl,h0⟩ | ⟨g,cap,cur,rfl,_⟩
         .exact⟨-1,0,by rw[h0];rfl,ah,ah⟩
         .exact⟨g,cap,by rw[au ah];simp,ah,ah⟩
        subst ab
        let J':=((J.gf st.nv x').gf (st.nv+1) c').mC st.nv H'
        have A:ai st.nv J J':=((ct _ _ _ (aaS _)).trans (ct _ _ _ ah)).trans (fF _ _ _ (aaS _));have e1:J'.i st.nv=x':=by show((J.gf st.nv x').gf (st.nv+1) c').i st.nv=x';rw[KQ _ _ _ _ ah,nM]
        have Q:J'.i (st.nv+1)=c':=by show((J.gf st.nv x').gf (st.nv+1) c').i (st.nv+1)=c';rw[nM]
        have E:J'.h st.nv=H':=gL _ _ _;have B:∀ b,(CV.ev J (.sl F G sl sc)).ownBlock=some b->(H.hl J).mem b:=by
         intro b hb;simp only[SV.ev,CV.ev]at m hb;rcases m.2 with ⟨U,_⟩ | ⟨g,cap,cur,U,V,_⟩
         .rw[U]at hb;cases hb
         .rw[U]at hb;cases hb;unfold Hl.mem;rw[V];rfl
        have uq:∀ v,aP (H.hl J) el i.size (CV.ev J (.sl F G sl sc)) (aB J sl).toNat v->v=xs:=by
         intro v r;rcases m.2 with ⟨U,h0⟩ | ⟨g,cap,cur,U,V,_,_,_,Z⟩
         .have a1:=m.1;have a2:=r.1;rw[h0]at a1 a2;have b1:xs=[]:=ach (by simpa using a1);have b2:v=[]:=ach (by simpa using a2);rw[b1,b2]
         .rcases r.2 with ⟨D,h0⟩ | ⟨g',an,ao,D,M,_,_,_,af⟩
          .rw[U]at D;cases D
          .rw[U]at D;cases D;rw[V]at M;cases M;rw[<-Z,<-af]
        refine⟨_,w',hr,hK J' _ w' A ⟨⟨by rw[e1];exact ad,by rw[Q];exact ae,?_,?_,?_,?_⟩,rfl⟩ (Rel.step hA hu A (X w' H' J' o3 A o2 E (fun b hb=>(o5 b hb).imp id And.right) B) _ _ _ _ ?_)⟩
        .intro v r;have:=uq v r;subst this;rw[e1,Q,E];exact o1
        .intro b hb ag;rw[E];exact o4 b hb ag
        .refine⟨?_,fun v r=>by have:=uq v r;subst this;rw[E];exact o7⟩;intro b hb;rw[E]at hb;rcases o5 b hb with h | ⟨h,_⟩
         .exact Or.inl h
         .right;rw[e1];by_cases hx:0<=x'
          .rw[au hx]at h;simp only[Value.ownBlock,aaF]at h;exact⟨h.symm,hx⟩
          .have:x'= -1:=ah;rw[this]at h;cases h
        .rw[e1];by_cases hx:0<=x'
         .rcases o6 with h | ⟨b,hb,hl⟩
          .left;rw[<-h,au hx];rfl
          .right;left;rw[au hx]at hb;simp only[Value.ownBlock,aaF]at hb;intro hm;have:=Hl.sub_lt Hw hm;omega
         .right;right;omega
        .intro u s;cases s;simp only[TV.ev,SV.ev,CV.ev,al,ak,e1,Q,fD,cJ A I.1,cJ A I.2,s4]
         congr 1
         omega
       split at h
       .rename_i hx;split at h
        .cases h;refine fin _ .dead (fun b o hb=>by cases hb) _ rfl hn hK ?_;intro w' H' J' f A hs he hd B;have m:(CV.ev J (.sl F G sl sc)).ownBlock=none:=by
          cases hb:(CV.ev J (.sl F G sl sc)).ownBlock with
          | none=>rfl
          | some b=>have:=B b hb;cases this
         rw[m]at f;refine hA.toMRel.add f.os f.tape f.output f.size (fun b hb=>f.block b hb aF) (Mem.agree A (St.dt hu)) (by show(J'.h st.nv).sub w';rw[he];exact hs) trivial ?_;intro b hb;have hb:(J'.h st.nv).mem b:=hb;rw[he]at hb;rcases hd b hb with h | h
         .cases h
         .exact h
        .cases h
       .split at h
        .rename_i p k vers tags links hp;cases h;have hp:=bu hp;refine fin _ (.hp k vers tags links) (hA.sub _ (aaA hp)) _ rfl hn hK ?_;intro w' H' J' f A hs he hd B;refine hA.toMRel.set hp rfl f.os f.tape f.output f.size (fun b hb W=>f.block b hb (fun e=>W (B b e.symm))) (Mem.agree A (St.dt hu)) (by show(J'.h st.nv).sub w';rw[he];exact hs) trivial ?_;intro b hb;have hb:(J'.h st.nv).mem b:=hb;rw[he]at hb;exact hd b hb
        .rename_i p b cells T hp;split at h
         .rename_i o l c;split at h
          .cases h;have hp:=bu hp;refine fin _ (.bj b cells T) (hA.sub _ (aaA hp)) _ rfl hn hK ?_;intro w' H' J' f A hs he hd B;refine hA.toMRel.set hp rfl f.os f.tape f.output f.size (fun b hb W=>f.block b hb (fun e=>W (B b e.symm))) (Mem.agree A (St.dt hu)) (by show(J'.h st.nv).sub w';rw[he];exact hs) trivial ?_;intro b hb;have hb:(J'.h st.nv).mem b:=hb;rw[he]at hb;exact hd b hb
          .split at h
           .rename_i hc;obtain⟨c0,c1,c2,c3,rfl⟩:=hc;cases h;have hp:=bu hp;obtain⟨hok,H0,O,hby⟩:=hn;obtain⟨s1,s2,s3,s4⟩:=xp hA.toMRel L hok;have Y:0<=J.i b:=hA.pos _ (aaA hp);have hb:=hA.toMRel.bj hp;obtain⟨cp,ob,hr,ho⟩:=EA (P:=P) (w:=w) (ty:=ty) Z hi hz rfl rfl N.1 (b:=⟨(J.i b).toNat,o.toNat,none⟩) (n:=l.toNat) (cap:=c.toNat) (olds:=((cells.drop o.toNat).take (l.toNat*i.size)).map (CV.ev J))
             (by simp only[aaT,aaU,aa7];omega)
             (fun j u s=>by
              rw[fE];simp only[aaL,abf]at s;simp only[World.cell?,hb];split at s
              .rw[aa9]at s;simpa using s
              .simp at s) s2 s1 H0 ah O hby
            let J':=((J.gf st.nv w.heap.size).gf (st.nv+1) cp).mC st.nv (Hl.one w.heap.size ob)
            have A:ai st.nv J J':=((ct _ _ _ (aaS _)).trans (ct _ _ _ ah)).trans (fF _ _ _ (aaS _));have e1:J'.i st.nv=w.heap.size:=by show((J.gf st.nv w.heap.size).gf (st.nv+1) cp).i st.nv=_;rw[KQ _ _ _ _ ah,nM]
            have Q:J'.i (st.nv+1)=cp:=by show((J.gf st.nv w.heap.size).gf (st.nv+1) cp).i (st.nv+1)=_;rw[nM]
            have E:J'.h st.nv=Hl.one w.heap.size ob:=gL _ _ _;refine⟨_,_,?_,hK J' (.slice (some ⟨w.heap.size,0,none⟩) (l.toNat+src.len J) cp) (w.drew.alloc ob) A ⟨⟨by rw[e1];omega,by rw[Q];omega,?_,?_⟩,rfl⟩ (Rel.step hA hu A ?_ _ _ _ _ ?_)⟩
            .simp only[TV.ev,SV.ev,CV.ev,al,ak];have aj:az (J.i b) o=some ⟨(J.i b).toNat,o.toNat,none⟩:=au Y;rw[aj];exact hr
            .rw[e1,Q,E,au ah];simpa using ho
            .intro b' q;rw[E]at q;rw[e1,Hl.dJ.1 q];simp
            .refine hA.toMRel.add rfl rfl rfl aF (fun b' q=>RowKit.Below.heap_alloc w.drew _ b' q) (Mem.agree A (St.dt hu)) ?_ trivial ?_
             .show(J'.h st.nv).sub _;rw[E];intro b' o' q;obtain⟨rfl,rfl⟩:=Hl.nI q;exact heap_alloc_new w.drew _
             .intro b' q;have q:(J'.h st.nv).mem b':=q;rw[E]at q;rw[Hl.dJ.1 q];exact aaS _
            .intro u s;cases s;simp only[TV.ev,SV.ev,CV.ev,al,ak,e1,Q,fD,cJ A I.2,s4];rw[au ah];simp;omega
           .cases h
         .cases h
        .cases h
      .cases h
     .cases h
    .cases h
   .cases h
  .cases h
 .cases h
end
section
variable {P:Program} {C:Ctx} {ms:Nat->Nat} {S:Nat->Prop} {w0:World} {J J':Env} {st:St} {mem mem':Mem} {a:Act} {w w':World}
def Env.shift (J r:Env) (n:Nat) (hs:Nat->Hl):Env where
 i:=fun k=>if n<=k then r.i (k-n)else J.i k
 b:=fun k=>if n<=k then r.b (k-n)else J.b k
 s:=fun k=>if n<=k then r.s (k-n)else J.s k
 v:=fun k=>if n<=k then r.v (k-n)else J.v k
 h:=fun k=>if n<=k then hs (k-n)else J.h k
def qN (J r:Env) (n:Nat) (hs:Nat->Hl):ai n J (J.shift r n hs) :=
 ⟨fun k hk=>aaG ah,fun k hk=>aaG ah,fun k hk=>aaG ah,fun k hk=>aaG ah,fun k hk=>aaG ah⟩
def KS (J r:Env) (n:Nat) (hs:Nat->Hl) (k:Nat):(J.shift r n hs).h (n+k)=hs k:=by simp [Env.shift]
section
variable (J r:Env) (n:Nat) (hs:Nat->Hl)
def yK (m:Nat) (k:Ck):(k.cv (n+m)).ev (J.shift r n hs)=(k.cv m).ev r:=by
 have e:∀ j,n<=n+m+j:=fun j=>ah;have d:∀ j,n+m+j-n=m+j:=fun j=>ah;have a:n<=n+m:=ah;have d0:n+m-n=m:=ah;cases k<;>simp [Ck.cv,CV.ev,al,bD,fY,Env.shift,e,d,a,d0]<;>rfl
def mQ:∀ (ks:List Ck) (m:Nat),(ar (n+m) ks).map (CV.ev (J.shift r n hs))=(ar m ks).map (CV.ev r)
 | [],_=>rfl
 | k::ks,m=>by simp only[ar,aaY,yK,ab7,mQ ks (m+k.len)]
def ET (m:Nat) (c:Cp):(c.sv (n+m)).ev (J.shift r n hs)=(c.sv m).ev r:=by
 cases c with
 | one k=>exact yK J r n hs m k
 | agg ks=>simp only[Cp.sv,SV.ev,mQ]
def wC:∀ (l:List Cp) (m:Nat),(cA (n+m) l).map (SV.ev (J.shift r n hs))=(cA m l).map (SV.ev r)
 | [],_=>rfl
 | c::l,m=>by simp only[cA,aaY,ET,ab7,wC l (m+c.len)]
def tP (m:Nat) (k:Ck):jt (n+m) (J.shift r n hs) k↔jt m r k:=by
 have e:∀ j,n<=n+m+j:=fun j=>ah;have d:∀ j,n+m+j-n=m+j:=fun j=>ah;have a:n<=n+m:=ah;have d0:n+m-n=m:=ah;cases k<;>simp [jt,Env.shift,e,d,a,d0]
def sg:∀ (ks:List Ck) (m:Nat),cW (n+m) ks (J.shift r n hs)↔cW m ks r
 | [],_=>adC
 | k::ks,m=>by simp only[cW,tP,ab7,sg ks (m+k.len)]
def sh:∀ (l:List Cp) (m:Nat),ft (n+m) l (J.shift r n hs)↔ft m l r
 | [],_=>adC
 | c::l,m=>by
  have h:HC (n+m) (J.shift r n hs) c↔HC m r c:=by
   cases c with
   | one k=>exact tP J r n hs m k
   | agg ks=>exact sg J r n hs ks m
  simp only[ft,h,ab7,sh l (m+c.len)]
def HE (l:List Cp):(kS n l).ev (J.shift r n hs)=(kS 0 l).ev r:=by
 unfold kS;split
 .exact ET J r n hs 0 _
 .have:=wC J r n hs l 0;rw[abj]at this;simp only[TV.ev,this]
end
def AI (mem:Mem) (ps:List (Nat×bL)) (q:Nat):(qM mem ps)[q]?=(mem[q]?).map fun r=>match ps.find? fun x=>x.1==q with | some x=>x.2 | none=>r:=by
 unfold qM;exact o9
def sE (mem:Mem) (ps:List (Nat×bL)):(qM mem ps).length=mem.length:=by simp [qM]
def D3 {s:YA} {r:bL} (h:I2 args mem s=some (p,r)):mem[p]?=some r/\r.own=true:=by
 unfold I2 at h;split at h
 .split at h
  .split at h
   .rename_i hp;split at h
    .cases h;exact⟨bu hp,‹_›⟩
    .cases h
   .cases h
  .cases h
 .split at h
  .split at h
   .split at h
    .split at h
     .rename_i hp;split at h
      .cases h;exact⟨bu hp,‹_›⟩
      .cases h
     .cases h
    .cases h
   .split at h
    .split at h
     .rename_i hp;split at h
      .cases h;exact⟨bu hp,‹_›⟩
      .cases h
     .cases h
    .cases h
   .cases h
  .cases h
 .split at h
  .split at h
   .split at h
    .split at h
     .split at h
      .split at h
       .rename_i hp;split at h
        .cases h;exact⟨bu hp,‹_›⟩
        .cases h
       .cases h
      .cases h
     .cases h
    .cases h
   .cases h
  .cases h
def sD {r:Nat×bL} (h:mem[r.1]?=some r.2):mem[(rH mem r).1]?=some (rH mem r).2\/(rH mem r=(mem.length,.dead)):=by
 unfold rH;split
 .split
  .split
   .rename_i q hp;left;exact bu (p:=q.1) (r:=q.2) hp
   .right;rfl
  .right;rfl
 .split
  .left;exact h
  .split
   .rename_i q hp;left;have:=(lE (q:=q.1) (r:=q.2) hp).2;simpa using this
   .left;exact h
 .left;exact h
def wx:∀ {mem:Mem} {t:TypeId} {k:Nat} {r:Nat×bL},wv mem t k=some r->k<=r.1/\mem[r.1-k]?=some r.2
 | [],_,_,_,h=>by simp [wv]at h
 | s::m,t,k,r,h=>by
  have step:∀ {r},wv m t (k+1)=some r->k<=r.1/\(s::m)[r.1-k]?=some r.2:=fun {r} h=>by
   obtain⟨h1,h2⟩:=wx h;refine⟨ah,?_⟩;rw[show r.1-k=(r.1-(k+1))+1 by omega,abq];exact h2
  cases s with
  | bj a l T =>
   simp only[wv]at h;split at h
   .rename_i r' hr;cases h;exact step hr
   .split at h
    .cases h;exact⟨aaS _,aF⟩
    .cases h
  | _=>exact step h
def xh (args:List TV) (mem:Mem) (i:Nat):mem[(xg args mem i).1]?=some (xg args mem i).2\/(xg args mem i=(mem.length,.dead)):=by
 unfold xg;by_cases a:7000000<=i
 .rw[aaR a];cases hp:wv mem (i-7000000) 0 with
  | some r=>left;have:=(wx hp).2;simpa using this
  | none=>right;rfl
 rw[aaG a];by_cases b:6000000<=i
 .rw[aaR b];cases hp:mem[i-6000000]? with
  | some r=>left;exact hp
  | none=>right;rfl
 rw[aaG b];split
 .split
  .split
   .split
    .split
     .rename_i r hp;left;exact bu (p:=r.1) (r:=r.2) hp
     .right;rfl
    .right;rfl
   .split
    .rename_i r hp;left;exact bu (p:=r.1) (r:=r.2) hp
    .right;rfl
   .right;rfl
  .right;rfl
 split
 .split
  .split
   .split
    .rename_i r hp;exact sD (bu (p:=r.1) (r:=r.2) hp)
    .right;rfl
   .right;rfl
  .right;rfl
 split
 .split
  .split
   .rename_i r hp;exact sD (bu (p:=r.1) (r:=r.2) hp)
   .right;rfl
  .right;rfl
 split
 .split
  .rename_i r hp;left;exact bu (p:=r.1) (r:=r.2) hp
  .right;rfl
 split
 .split
  .split
   .split
    .rename_i r hp;left;exact bu (p:=r.1) (r:=r.2) hp
    .right;rfl
   .right;rfl
  .right;rfl
 split
 .split
  .split
   .split
    .rename_i r hp;left;exact bu (p:=r.1) (r:=r.2) hp
    .right;rfl
   .right;rfl
  .right;rfl
 split
 .split
  .split
   .split
    .split
     .rename_i r hp;left;exact bu (p:=r.1) (r:=r.2) hp
     .right;rfl
    .right;rfl
   .rename_i r _ hp;left;exact bu (p:=r.1) (r:=r.2) hp
   .right;rfl
  .right;rfl
 split
 .split
  .split
   .split
    .rename_i r hp;left;exact bu (p:=r.1) (r:=r.2) hp
    .right;rfl
   .right;rfl
  .right;rfl
 split
 .split
  .rename_i r hp;left;have:=(lE (q:=r.1) (r:=r.2) hp).2;simpa using this
  .right;rfl
 .split
  .split
   .rename_i r hp;left;exact bu (p:=r.1) (r:=r.2) hp
   .right;rfl
  .right;rfl
def Ez {α β:Type} {f:α->Option β} : ∀ {l:List α} {m:List β},iv (l.map f)=some m->m.length=l.length/\∀ x∈m,∃ y∈l,f y=some x:=by
 intro l m h;obtain⟨h1,h2⟩:=mN h;refine⟨by simpa using h1,fun x hx=>?_⟩;obtain⟨j,a⟩:=abB hx;have:=h2 j x a;rw[aaL,aaI]at this;obtain⟨y,b,e⟩:=this;exact⟨y,aaA b,e⟩
def HQ {ps:List (Nat×bL)} (hn:(ps.map (·.1)).Nodup) {q:Nat×bL} (a:q∈ps):ps.find? (fun x=>x.1==q.1)=some q:=by
 induction ps with
 | nil=>cases a
 | cons x l ih =>
  rw[aaY,List.nodup_cons]at hn;rw[adI];rcases aaN.1 a with rfl | a
  .simp
  .have:¬x.1=q.1:=fun e=>hn.1 (e▸adn a);have hb:(x.1==q.1)=false:=by simpa using this
   rw[hb];exact ih hn.2 a
def EI (aj:∀ s∈C.Γ,s.OK P) (hA:Rel S w0 J st a w) (hu:st.upto st.nv=true) {f:FuncId} (h:NF C.Γ st f args d=some R) (hn:R.need.holds C ms J)
 {K:Act->World->Prop} (hK:Fin S w0 C J st a d R K):Calls P f (args.map (TV.ev J)).toArray w fun e w'=>∃ v,e=.returned v/\K (a.put d v) w':=by
 unfold NF at h;split at h
 .rename_i j hj;split at h
  .rename_i s hs;split at h
   .rename_i own aa;simp only at h;split at h
    .rename_i G;cases h;simp only[aaE,aaB,aa3,abE]at G;obtain⟨G,ak⟩:=G;have hf:s.fn=f:=by
      have:=List.findIdx?_eq_some_iff_getElem.1 hj;obtain⟨N,hp,_⟩:=this;rw[aax N]at hs;cases hs;simpa using hp
     obtain⟨hlen,ab⟩:=Ez aa;have hm:=hA.toMRel;have g:∀ q∈own,st.mem[q.1]?=some q.2/\q.2.own=true:=fun q c=>by
      obtain⟨y,_,hy⟩:=ab q c;exact D3 hy
     have n:∀ (i:Nat) q,own[i]?=some q->st.mem[q.1]?=some q.2/\q.2.own=true:=fun i q c=>g q (aaA c);have al:∀ (i k:Nat) q q',i≠k->own[i]?=some q->own[k]?=some q'->q.1≠q'.1:=by
      intro i k q q' an hi hk e;have h1:(own.map (·.1))[i]?=some q.1:=by rw[aaL,hi];rfl
      have h2:(own.map (·.1))[k]?=some q.1:=by rw[aaL,hk,e];rfl
      exact an ((List.getElem?_inj (aaH.1 h1).1 G).1 (h1.trans h2.symm))
     let Hs:=own.map (fun q=>q.2.hl J)
     let Rs:=(s.rd.map (xg args st.mem)).map (fun q=>q.2.hl J)
     have hn:s.pre (args.map (TV.ev J)) Hs Rs:=by
      have hn:(X.call j st.nv args (own.map (·.2)) ((s.rd.map (xg args st.mem)).map (·.2))).pre C J:=hn;simp only[X.pre,hs]at hn;simpa [Hs,Rs,Function.comp_def] using hn
     have I:=aj s (aaA hs) w (args.map (TV.ev J)) Hs Rs (by simp [Hs,hlen]) (by simp [Rs])
      (fun H O=>by obtain⟨q,c,rfl⟩:=abb.1 O;exact hm.sub _ (aaA (g q c).1))
      (fun H O=>by
       obtain⟨q,c,rfl⟩:=abb.1 O;obtain⟨i,_,rfl⟩:=abb.1 c;rcases xh args st.mem i with h | h
       .exact hm.sub _ (aaA h)
       .rw[h];intro b o hb;cases hb)
      (fun p q H K ao hp c=>by
       simp only[Hs,aaL,aaI]at hp c;obtain⟨x,hx,rfl⟩:=hp;obtain⟨y,hy,rfl⟩:=c;exact hm.bV _ _ _ _ (al p q x y ao hx hy) (n p x hx).1 (n q y hy).1 (n p x hx).2)
      (fun H O K aq=>by
       obtain⟨q,c,rfl⟩:=abb.1 O;obtain⟨r,hr,rfl⟩:=abb.1 aq;obtain⟨i,hi,rfl⟩:=abb.1 hr;rcases xh args st.mem i with h | h
       .refine hm.bV _ _ _ _ (fun e=>?_) (g q c).1 h (g q c).2;have:=ak _ hr;rw[<-e]at this;have hc:(own.map (·.1)).contains q.1=true:=abW.2 (adn c);rw[hc]at this;cases this
       .rw[h];rintro b ⟨_,y⟩;cases y)
      hn
     rw[hf]at I;refine I.mono fun e w' ⟨r,Hs',F,he,W,A,hpost⟩=>⟨_,he,?_⟩;have ax:Hs'.length=own.length:=by rw[A.len];simp [Hs]
     let J':=J.shift r st.nv (fun k=>if k<own.length then Hs'.getD k Hl.none else F)
     have hg:ai st.nv J J':=qN _ _ _ _;have eh:∀ k,k<own.length->J'.h (st.nv+k)=Hs'.getD k Hl.none:=fun k hk=>by rw[KS];exact aaR hk
     have eF:J'.h (st.nv+own.length)=F:=by rw[KS];exact aaG ah
     have hnew:newHs J' st.nv own.length=Hs':=by
      apply aa2;intro k;unfold newHs;rw[aaL];by_cases hk:k<own.length
      .rw[aaZ hk];simp only[abe];rw[eh k hk,aaD,aax ah];rfl
      .rw[aaK (by simp;omega),aaK ah];rfl
     have ad:(kS st.nv s.res).ev J'=(kS 0 s.res).ev r:=HE _ _ _ _ _
     let u:=own.zipIdx.map fun q=>(q.1.1,q.1.2.pF (st.nv+q.2))
     have Q:u.map (·.1)=own.map (·.1):=by
      simp only[u,abD];have:((fun(x:Nat×bL)=>x.1)∘fun(q:(Nat×bL)×Nat)=>(q.1.1,q.1.2.pF (st.nv+q.2)))=(fun(x:Nat×bL)=>x.1)∘Prod.fst:=by funext q;rfl
      rw[this,<-abD]
      congr 1
      exact List.zipIdx_map_fst 0 own
     have Y:∀ (k:Nat) q,own[k]?=some q->(qM st.mem u)[q.1]?=some (q.2.pF (st.nv+k)):=by
      intro k q c;have ae:(q.1,q.2.pF (st.nv+k))∈u:=abb.2 ⟨(q,k),List.mk_mem_zipIdx_iff_getElem?.2 c,rfl⟩;rw[AI,(n k q c).1];have:=HQ (by rw[Q];exact G) ae;simp only at this;simp [this]
     have hkeep:∀ (p:Nat),(∀ q∈own,q.1≠p)->(qM st.mem u)[p]?=st.mem[p]?:=by
      intro p hp;rw[AI];have:u.find? (fun x=>x.1==p)=none:=by
       rw[ace];intro x hx;have:x.1∈own.map (·.1):=by rw[<-Q];exact adn hx
       obtain⟨q,c,e⟩:=abb.1 this;simpa [<-e] using hp q c
      rw[this];simp
     have m:∀ (k:Nat) q,own[k]?=some q->(q.2.pF (st.nv+k)).hl J'=Hs'.getD k Hl.none/\(q.2.pF (st.nv+k)).pos J':=by
      intro k q c;have hk:k<own.length:=(aaH.1 c).1;have:=(n k q c).2;cases hr:q.2 with
      | bj b l T=>exact⟨eh k hk,zzT⟩
      | hp kk vers tags links=>exact⟨eh k hk,zzT⟩
      | ro kk tags any=>rw[hr]at this;cases this
      | dead=>exact⟨eh k hk,zzT⟩
     have t:∀ k,k<own.length->Hs'.getD k Hl.none∈Hs':=fun k hk=>by
      rw[aaD,aax ah];exact abM _
     have L:∀ k,k<own.length->Hs'[k]?=some (Hs'.getD k Hl.none):=fun k hk=>by
      rw[aaD,aax ah];rfl
     have hU:∀ b,(∃ H∈Hs,H.mem b)->∃ q∈own,(q.2.hl J).mem b:=fun b ⟨H,O,hb⟩=>by
      obtain⟨q,c,rfl⟩:=abb.1 O;exact⟨q,c,hb⟩
     have place:∀ (p:Nat) x,(qM st.mem u++(if aK 0 s.res=[]then []else [bL.hp (st.nv+own.length) [] (aK st.nv s.res) (nO args s.links)]))[p]?=some x ->
      (∃ (k:Nat) (q:Nat×bL),own[k]?=some q/\q.1=p/\x=q.2.pF (st.nv+k))\/((∀ q∈own,q.1≠p)/\p<st.mem.length/\st.mem[p]?=some x) \/
      (p=st.mem.length/\aK 0 s.res≠[]/\x=bL.hp (st.nv+own.length) [] (aK st.nv s.res) (nO args s.links)):=by
      intro p x hp;rw[acN]at hp;split at hp
      .rename_i N;by_cases c:∃ q∈own,q.1=p
       .obtain⟨q,c,rfl⟩:=c;obtain⟨k,hk⟩:=abB c;rw[Y k q hk]at hp;exact Or.inl ⟨k,q,hk,rfl,(abp hp).symm⟩
       .have B:∀ q∈own,q.1≠p:=fun q hm e=>c ⟨q,hm,e⟩;rw[hkeep p B]at hp;rw[sE]at N;exact Or.inr (Or.inl ⟨B,N,hp⟩)
      .rename_i ar;rw[sE]at hp ar;split at hp
       .simp at hp
       .rename_i hr;have:p-st.mem.length=0:=by
         rcases acG (p-st.mem.length)with h0 | h0
         .exact h0
         .rw[aaK (by simp;omega)]at hp;cases hp
        rw[this]at hp;simp only[abv,aaF]at hp;exact Or.inr (Or.inr ⟨ah,hr,hp.symm⟩)
     have ag:∀ q∈own,q.1<st.mem.length:=fun q c=>(aaH.1 (g q c).1).1;refine hK J' _ w' hg ⟨?_,rfl⟩ (Rel.step hA hu hg ?_ _ _ _ _ (fun y hy=>by cases hy;exact ad.symm))
     .show X.rel C J J' (.call j st.nv args (own.map (·.2)) ((s.rd.map (xg args st.mem)).map (·.2)));simp only[X.rel,hs];refine⟨F,?_,fun _=>by rw[aaT];exact eF,(sh J r st.nv _ s.res 0).2 W⟩;rw[ad,aaT,hnew];simpa [Hs,Rs,Function.comp_def] using hpost
     .refine hm.vf (fun b=>∃ H∈Hs,H.mem b) (fun p=>(∃ q∈own,q.1=p)\/p=st.mem.length) (fun b hb=>?_) A.os A.tape A.output A.size (fun b hl hb=>A.block b hl (fun H O hm=>hb ⟨H,O,hm⟩)) ?_ ?_ ?_
      .obtain⟨q,c,hb⟩:=hU b hb;exact⟨q.2,aaA (g q c).1,(g q c).2,hb⟩
      .intro p x hp D;rcases place p x hp with ⟨k,q,hk,rfl,_⟩ | ⟨h1,h2,h3⟩ | ⟨h1,_⟩
       .exact absurd (Or.inl ⟨q,aaA hk,rfl⟩) D
       .refine⟨h3,Mem.agree hg (St.dt hu) x (aaA h3),fun b hb au=>?_⟩;obtain⟨q,c,av⟩:=hU b au;exact hm.bV _ _ _ _ (h1 q c) (g q c).1 h3 (g q c).2 b ⟨av,hb⟩
       .exact absurd (Or.inr h1) D
      .intro p x hp D;rcases place p x hp with ⟨k,q,hk,rfl,rfl⟩ | ⟨h1,h2,h3⟩ | ⟨h1,h2,rfl⟩
       .have sj:=(aaH.1 hk).1;obtain⟨e1,e2⟩:=m k q hk;rw[e1];exact⟨⟨A.sub _ (t k sj),e2⟩,fun b hb=>A.dom _ (t k sj) b hb⟩
       .rcases D with ⟨q,c,e⟩ | e
        .exact absurd e (h1 q c)
        .omega
       .have e:(bL.hp (st.nv+own.length) [] (aK st.nv s.res) (nO args s.links)).hl J'=F:=eF;rw[e];exact⟨⟨A.fsub,zzT⟩,fun b hb=>A.fdom b hb⟩
      .intro p p' x y U D V hp af _;rcases place p x hp with ⟨k,q,hk,rfl,rfl⟩ | ⟨h1,h2,h3⟩ | ⟨h1,h2,rfl⟩
       .have sj:=(aaH.1 hk).1;rw[(m k q hk).1];rcases place p' y af with ⟨k',q',z,rfl,rfl⟩ | ⟨E,Z,aw⟩ | ⟨E,Z,rfl⟩
        .have M:=(aaH.1 z).1;rw[(m k' q' z).1];exact A.bV k k' _ _ (fun e=>by subst e;rw[hk]at z;cases z;exact U rfl) (L k sj) (L k' M)
        .rcases V with ⟨q',B,e⟩ | e
         .exact absurd e (E q' B)
         .omega
        .have e:(bL.hp (st.nv+own.length) [] (aK st.nv s.res) (nO args s.links)).hl J'=F:=eF;rw[e];exact A.fdis _ (t k sj)
       .rcases D with ⟨q,c,e⟩ | e
        .exact absurd e (h1 q c)
        .omega
       .have e:(bL.hp (st.nv+own.length) [] (aK st.nv s.res) (nO args s.links)).hl J'=F:=eF;rw[e];rcases place p' y af with ⟨k',q',z,rfl,rfl⟩ | ⟨E,Z,aw⟩ | ⟨E,Z,rfl⟩
        .have M:=(aaH.1 z).1;rw[(m k' q' z).1];exact Hl.jv (A.fdis _ (t k' M))
        .rcases V with ⟨q',B,e⟩ | e
         .exact absurd e (E q' B)
         .omega
        .exact absurd (h1.trans E.symm) U
    .cases h
   .cases h
  .cases h
 .cases h
end
section
variable {P:Program} {C:Ctx} {ms:Nat->Nat} {S:Nat->Prop} {w0:World} {J J':Env} {st:St} {mem mem':Mem} {a:Act} {w w':World}
def Jz (v:Value):∃ q:Env,((ma v).cv 0).ev q=v:=by
 let a:Env:=⟨fun _=>0,fun _=>false,fun _=>.empty,fun _=>.tuple #[],fun _=>Hl.none⟩
 cases v with
 | int k n=>exact⟨{a with i:=fun _=>n},rfl⟩
 | bool b=>exact⟨{a with b:=fun _=>b},rfl⟩
 | string s=>exact⟨{a with s:=fun _=>s},rfl⟩
 | pointer p =>
  obtain⟨x,y,h,_⟩:=rO p;exact⟨{a with i:=fun k=>if k=0 then x else y},by simp [ma,Ck.cv,CV.ev,al,h]⟩
 | slice p n c =>
  obtain⟨x,y,h,_⟩:=rO p;exact⟨{a with i:=fun k=>if k=0 then x else if k=1 then y else if k=2 then n else c},by simp [ma,Ck.cv,CV.ev,al,h]⟩
 | map r =>
  cases r with
  | none=>exact⟨{a with i:=fun _=> -1},rfl⟩
  | some r =>
   refine⟨{a with i:=fun _=>r},?_⟩;have e:¬((r:Int)= -1):=ah;simp only[ma,Ck.cv,CV.ev,al,e,aca,aar]
 | _=>exact⟨⟨fun _=>0,fun _=>false,fun _=>.empty,fun _=>_,fun _=>Hl.none⟩,rfl⟩
def JA (k:Ck) (n:Nat):(k.cv n).upto (n+k.len)=true:=by
 cases k<;>simp [Ck.cv,CV.upto,E.upto,Ck.len]
def cU:∀ (ks:List Ck) (n:Nat),(ar n ks).all (·.upto (n+bd ks))=true
 | [],_=>rfl
 | k::ks,n=>by
  simp only[ar,adV,aaE];have e:n+bd (k::ks)=n+k.len+bd ks:=by simp [bd];omega
  rw[e];refine⟨?_,cU ks (n+k.len)⟩;have:∀ m,n+k.len<=m->(k.cv n).upto m=true:=by
   intro m hm;cases k<;>simp [Ck.cv,CV.upto,E.upto,Ck.len]at hm ⊢<;>omega
  exact this _ ah
def NJ:∀ (vs:List Value),∃ q:Env,(ar 0 (vs.map ma)).map (CV.ev q)=vs
 | []=>⟨⟨fun _=>0,fun _=>false,fun _=>.empty,fun _=>.tuple #[],fun _=>Hl.none⟩,rfl⟩
 | v::vs=>by
  obtain⟨q1,h1⟩:=Jz v;obtain⟨q2,h2⟩:=NJ vs;refine⟨q1.shift q2 (ma v).len (fun _=>Hl.none),?_⟩;simp only[aaY,ar,aa6]
  congr 1
  .rw[CV.agree (qN q1 q2 (ma v).len _) _ (by have:=JA (ma v) 0;rwa[aa6]at this)];exact h1
  .have:=mQ q1 q2 (ma v).len (fun _=>Hl.none) (vs.map ma) 0;rw[abj]at this;rw[this];exact h2
def MP {ks:List Ck} (h:nY ks agg v):∃ q:Env,(mn 0 ks agg).ev q=v:=by
 unfold nY at h;unfold mn;split at h
 .rename_i b;obtain⟨cs,rfl,hk⟩:=h;obtain⟨q,a⟩:=NJ cs.toList;rw[hk]at a;exact⟨q,by rw[aaR b];simp only[SV.ev,a]⟩
 .rename_i b;obtain⟨k,rfl,rfl⟩:=h;obtain⟨q,a⟩:=Jz v;exact⟨q,by rw[aaG b];exact a⟩
def Dz (J r:Env) (n:Nat) (hs:Nat->Hl) (ks:List Ck) (agg:Bool):(mn n ks agg).ev (J.shift r n hs)=(mn 0 ks agg).ev r:=by
 have h1:=mQ J r n hs ks 0;rw[abj]at h1;unfold mn;split
 .simp only[SV.ev,h1]
 .split
  .rename_i k;exact yK J r n hs 0 k
  .simp only[SV.ev,h1]
def Dw {ks:List Ck} (a:ai (n+bd ks) J J'):(mn n ks agg).ev J'=(mn n ks agg).ev J:=by
 have h1:=CV.gF a _ (cU ks n);unfold mn;split
 .simp only[SV.ev,h1]
 .split
  .rename_i k;refine CV.agree a _ ?_;have:=JA k n;simpa [bd] using this
  .simp only[SV.ev,h1]
def findNow_spec {kind:TypeDesc} {key:Value} : ∀ (l:List MapEntry) (i0 i:Nat) (v:Value),Instr.findNow kind key l i0=some (some (i,v))->i0<=i/\∃ e,l[i-i0]?=some e/\e.val=v/\Instr.sameNow kind key e.key=some true
 | [],_,_,_,h=>by simp [Instr.findNow]at h
 | e::l,i0,i,v,h=>by
  unfold Instr.findNow at h;split at h
  .rename_i hs;simp only[aaF,abl]at h;obtain⟨rfl,rfl⟩:=h;exact⟨aaS _,e,aF,rfl,hs⟩
  .obtain⟨h1,a,h2,b,c⟩:=findNow_spec l (i0+1) i v h;exact⟨ah,a,by rw[show i-i0=(i-(i0+1))+1 by omega,abq];exact h2,b,c⟩
  .cases h
def zF (h:BH P t=some kd):(∃ k,kd=.int k/\P.underlying t=some (.int k))\/(kd=.str/\P.underlying t=some .string):=by
 unfold BH at h;split at h
 .rename_i k hu;cases h;exact Or.inl ⟨k,rfl,hu⟩
 .rename_i hu;cases h;exact Or.inr ⟨rfl,hu⟩
 .cases h
def tO (h:BH P t=some kd) (e:Bool) (v:Value):(Instr.checkKey e 10000 t v).run P w=.ok () w:=by
 unfold Instr.checkKey;rcases zF h with ⟨k,_,hu⟩ | ⟨_,hu⟩
 .simp only[Sem.run_bind,run_underlying hu,Result.andThen_ok];cases v<;>rfl
 .simp only[Sem.run_bind,run_underlying hu,Result.andThen_ok];cases v<;>rfl
def wF (h:BH P t=some kd) {r:Option (Nat×Value)} (hf:mY kd key es=some r):(Instr.findKey t key es.toList).run P w=.ok r w:=by
 unfold Instr.findKey;rcases zF h with ⟨k,rfl,hu⟩ | ⟨rfl,hu⟩
 .simp only[Sem.run_bind,run_underlying hu,Result.andThen_ok];simp only[mY]at hf;rw[hf];rfl
 .simp only[Sem.run_bind,run_underlying hu,Result.andThen_ok];simp only[mY]at hf;rw[hf];rfl
def sN {r:Nat} (h:w.heap[r]?=some (.map es c)):(getObj r).run P w=.ok (.map es c) w:=by
 simp [getObj,Sem.run,h]
def tp {r:Nat} (h:w.heap[r]?=some (.map es c)):(setObj r o).run P w=.ok () {w with heap:=w.heap.setIfInBounds r o}:=by
 simp [setObj,Sem.run,h]
def xm {kind:TypeDesc} (hk:(∃ k,kd=.int k/\kind=.int k)\/(kd=.str/\kind=.string)) (hs:Instr.sameNow kind key old=some true):Instr.sameBits 10000 old key=true:=by
 rcases hk with ⟨k,rfl,rfl⟩ | ⟨rfl,rfl⟩
 .unfold Instr.sameNow at hs;split at hs
  .split at hs
   .rename_i k1 a k2 b hk;simp only[aaF,adx]at hs;subst hk;subst hs;simp [Instr.sameBits]
   .cases hs
  .cases ‹TypeDesc.int k=.string›
  .cases ‹TypeDesc.int k=.bool›
  .cases hs
 .unfold Instr.sameNow at hs;split at hs
  .cases ‹TypeDesc.string=.int _›
  .simp only[aaF]at hs;rename_i a b _;rw[Hh,aaB]at hs;subst hs;simp [Instr.sameBits,Hh]
  .cases ‹TypeDesc.string=.bool›
  .cases hs
def Hl.I3 {h:Hl} (hx:h.mem x):(h.setObj x o).mem b↔h.mem b:=by
 unfold Hl.mem Hl.setObj;split
 .rename_i e;subst e;exact⟨fun _=>hx,fun _=>rfl⟩
 .rfl
def I4 {h:Hl} (hs:h.sub w) (hx:h.mem x):(h.setObj x o).sub {w with heap:=w.heap.setIfInBounds x o}:=by
 intro b o' hb;unfold Hl.setObj at hb;have a:=Hl.sub_lt hs hx;split at hb
 .rename_i e;subst e;cases hb;simp [a]
 .rename_i e;show(w.heap.setIfInBounds x o)[b]?=_;rw[ab3 (fun h=>e h.symm)];exact hs b o' hb
def KR (hA:Rel S w0 J st a w) (hu:st.upto st.nv=true) {vers:List Nat} {tags links:List E} (hp:st.mem[p]?=some (.hp h vers tags links)) (hx:(J.h h).mem x) :
 ai st.nv J (J.mC st.nv ((J.h h).setObj x o))/\MRel S w0 (J.mC st.nv ((J.h h).setObj x o)) (st.mem.set p (.hp st.nv (h::vers) tags links)) {w with heap:=w.heap.setIfInBounds x o}:=by
 have c:ai st.nv J (J.mC st.nv ((J.h h).setObj x o)):=fF _ _ _ (aaS _);have e:(J.mC st.nv ((J.h h).setObj x o)).h st.nv=(J.h h).setObj x o:=gL _ _ _;have hsub:(J.h h).sub w:=hA.sub _ (aaA hp);refine⟨c,hA.toMRel.set hp rfl rfl rfl rfl aF (fun b _ hn=>?_) (Mem.agree c (St.dt hu)) ?_ trivial ?_⟩
 .show(w.heap.setIfInBounds x o)[b]?=_;rw[ab3 (fun e=>hn (by subst e;exact hx))]
 .show((J.mC st.nv ((J.h h).setObj x o)).h st.nv).sub _;rw[e];exact I4 hsub hx
 .intro b hb;have hb:((J.mC st.nv ((J.h h).setObj x o)).h st.nv).mem b:=hb;rw[e]at hb;exact Or.inl ((Hl.I3 hx).1 hb)
def oZ (hA:Rel S w0 J st a w) (hu:st.upto st.nv=true) {o:Oper} (h:L3 P st o.op o.dst=some R) (hn:R.need.holds C ms J)
 {K:Act->World->Prop} {Q:Exit->Act->World->Prop} (hK:Fin S w0 C J st a o.dst R K):o.wp P a w K Q:=by
 unfold L3 at h;split at h
 .rename_i t g;split at h
  .rename_i L M Z;cases h
   let J':=(J.gf st.nv w.heap.size).mC st.nv (Hl.one w.heap.size (.map #[] 0))
   have j:ai st.nv J J':=(ct _ _ _ (aaS _)).trans (fF _ _ _ (aaS _));have e1:J'.i st.nv=w.heap.size:=by show(J.gf st.nv w.heap.size).i st.nv=_;rw[nM]
   have N:J'.h st.nv=Hl.one w.heap.size (.map #[] 0):=gL _ _ _;have c:(execOp a.eval o).run P w=.ok (.value (.map (some w.heap.size))) (w.alloc (.map #[] 0)):=by
    unfold execOp;rw[g];simp [Instr.makeMap,Sem.run_bind]
   refine fK c (hK J' _ _ j ⟨⟨by rw[e1];omega,by rw[e1,aar];exact N⟩,rfl⟩ (Rel.step hA hu j ?_ _ _ _ _ ?_))
   .refine hA.toMRel.add rfl rfl rfl aF (fun b hb=>RowKit.Below.heap_alloc w _ b hb) (Mem.agree j (St.dt hu)) ?_ trivial ?_
    .show(J'.h st.nv).sub _;rw[N];intro b o hb;obtain⟨rfl,rfl⟩:=Hl.nI hb;exact heap_alloc_new w _
    .intro b hb;have hb:(J'.h st.nv).mem b:=hb;rw[N]at hb;rw[Hl.dJ.1 hb];exact aaS _
   .intro y u;cases u;simp only[TV.ev,SV.ev,CV.ev,al,e1];rw[aaG ah];simp
  .cases h
 .rename_i t m k ok g;split at h
  .rename_i L M n;split at h
   .rename_i kd z agg x key fu hz W hm hk;split at h
    .rename_i hh zs O T;by_cases f:(OB kd key&&(agg==isAgg z)&&(agg||(z.cells.toList.map ma).length==1))=true
     .rw[aaR f]at h;have h:=abp h;subst h;simp only[aaE]at f;obtain⟨⟨G,hag⟩,hlen⟩:=f;have hsub:=zh hA.toMRel O;obtain⟨hx,es,clock,r,d,hf,s⟩:=hn;have em:=aH hA hm;have H:=aH hA hk;simp only[TV.ev,SV.ev,CV.ev]at em;simp only[TV.ev,SV.ev]at H;rw[aaG ah]at em;have hw:=hsub _ _ d;have U:zs.ev J=z:=by
       have:=Ke J z;rw[T]at this;exact this
      let v:Value:=match r with | some (_,v)=>v | none=>z
      have V:nY (z.cells.toList.map ma) agg v:=by
       cases r with
       | some p=>exact s p.1 p.2 rfl
       | none =>
        show nY _ _ z;unfold nY;cases agg with
        | true =>
         rw[aaR rfl];cases z with
         | agg cs=>exact⟨cs,rfl,rfl⟩
         | _=>simp [isAgg]at hag
        | false =>
         rw[aaG aF];cases z with
         | agg cs=>simp [isAgg]at hag
         | _=>exact⟨_,rfl,rfl⟩
      obtain⟨q,hq⟩:=MP V
      let A:=J.shift q st.nv (fun _=>Hl.none)
      let J':=A.MN (st.nv+bd (z.cells.toList.map ma)) r.isSome
      have H0:ai st.nv J A:=qN _ _ _ _;have zx:ai (st.nv+bd (z.cells.toList.map ma)) A J':=yx _ _ _ (aaS _);have j:ai st.nv J J':=H0.tr zx;have ev:(mn st.nv (z.cells.toList.map ma) agg).ev J'=v:=by
       rw[Dw zx,Dz];exact hq
      have X:J'.b (st.nv+bd (z.cells.toList.map ma))=r.isSome:=by simp [J',Env.MN]
      have c:(execOp a.eval o).run P w=.ok (.value (if ok then .tuple #[v,.bool r.isSome]else v)) w:=by
       unfold execOp;rw[g];simp only[Sem.run_bind,em,H,Instr.lookup,run_underlying n,Result.andThen_ok,sN hw,Sem.run_pure,tO fu,wF fu hf];cases r with
       | some p=>simp only[Sem.run_pure,Result.andThen_ok];rfl
       | none=>simp only[Sem.run_pure,Result.andThen_ok,Sem.run_bind,lX hz];rfl
      refine fK c (hK J' _ _ j ⟨?_,rfl⟩ (Rel.step hA hu j (hA.toMRel.agree (Mem.agree j (St.dt hu))) _ _ _ _ ?_))
      .intro es' clock' r' h1 h2;rw[d]at h1;cases h1;rw[hf]at h2;cases h2;refine⟨?_,X⟩;rw[ev];cases r with
       | some p=>rfl
       | none=>exact U.symm
      .intro y u;cases u;cases ok with
       | true =>
        have e2:(SV.one (CV.bool (.bvar (st.nv+bd (z.cells.toList.map ma))))).ev J'=.bool r.isSome:=by show Value.bool (J'.b _)=_;rw[X]
        simp only[ab6,TV.ev,aaY,abN,ev,e2]
       | false=>simp only[abz,aca,TV.ev,ev]
     .rw[aaG f]at h;cases h
    .cases h
   .cases h
  .cases h
 .rename_i t m k v g;split at h
  .rename_i L M n;split at h
   .rename_i kd x key vs fu hm hk hv;split at h
    .rename_i G;split at h
     .rename_i p hh vers tags links B;cases h;have hp:=iZ B;obtain⟨hx,es,clock,r,d,hf⟩:=hn;have em:=aH hA hm;have H:=aH hA hk;have ev:=aH hA hv;simp only[TV.ev,SV.ev,CV.ev]at em;simp only[TV.ev,SV.ev]at H;simp only[TV.ev]at ev;rw[aaG ah]at em;have hsub:(J.h hh).sub w:=hA.sub _ (aaA hp);have hw:=hsub _ _ d;have D:(J.h hh).mem (aB J x).toNat:=by unfold Hl.mem;rw[d];rfl
      obtain⟨j,E⟩:=KR (o:=sW kd (key.ev J) (vs.ev J) es clock) hA hu hp D;have c:(execOp a.eval o).run P w=.ok .skip {w with heap:=w.heap.setIfInBounds (aB J x).toNat (sW kd (key.ev J) (vs.ev J) es clock)}:=by
       unfold execOp;rw[g];simp only[Sem.run_bind,em,H,ev,Instr.mapUpdate,run_underlying n,Result.andThen_ok,sN hw,tO fu,wF fu hf];cases r with
       | some q =>
        obtain⟨i,v0⟩:=q;have hsame:Instr.sameBits 10000 (((es[i]?).map (·.key)).getD (key.ev J)) (key.ev J)=true:=by
         rcases zF fu with ⟨kk,rfl,_⟩ | ⟨rfl,_⟩
         .obtain⟨_,e,he,_,hs⟩:=findNow_spec _ _ _ _ hf;rw[adH]at he;have F:es[i]?=some e:=by simpa using he
          rw[F];exact xm (Or.inl ⟨kk,rfl,rfl⟩) hs
         .obtain⟨_,e,he,_,hs⟩:=findNow_spec _ _ _ _ hf;rw[adH]at he;have F:es[i]?=some e:=by simpa using he
          rw[F];exact xm (Or.inr ⟨rfl,rfl⟩) hs
        simp only[Instr.keyThatStays,hsame,ab6,Sem.run_bind,Sem.run_pure,Result.andThen_ok,tp hw,sW,hf]
       | none=>simp only[tp hw,sW,hf,Result.andThen_ok,Sem.run_pure]
      refine Bb c (hK _ _ _ j ⟨?_,rfl⟩ (Rel.step hA hu j E _ _ _ _ (fun y u=>by cases u)));intro es' clock' h1;rw[d]at h1;cases h1;exact gL _ _ _
     .cases h
    .cases h
   .cases h
  .cases h
 .rename_i args ats g;split at h
  .rename_i m t Y I;split at h
   .rename_i L M x n hm;split at h
    .rename_i p hh vers tags links B;cases h;have hp:=iZ B;obtain⟨hx,es,clock,d⟩:=hn;have em:=aH hA hm;simp only[TV.ev,SV.ev,CV.ev]at em;rw[aaG ah]at em;have hsub:(J.h hh).sub w:=hA.sub _ (aaA hp);have hw:=hsub _ _ d;have D:(J.h hh).mem (aB J x).toNat:=by unfold Hl.mem;rw[d];rfl
     obtain⟨j,E⟩:=KR (o:=.map #[] clock) hA hu hp D;have ea:args.map a.eval=#[.map (some (aB J x).toNat)]:=by
      obtain⟨l⟩:=args;simp only at Y;subst Y;simp [em]
     have et:ats=#[t]:=by obtain⟨l⟩:=ats;simp only at I;rw[I]
     have c:(execOp a.eval o).run P w=.ok (.value (.tuple #[])) {w with heap:=w.heap.setIfInBounds (aB J x).toNat (.map #[] clock)}:=by
      obtain⟨dst,op,ty,pos,af,gd⟩:=o;simp only at g;subst g;rw[BigFrame.execOp_builtin,ea,et];unfold builtin;have e5:(Builtin.clear_ #[t] ty #[Value.map (some (aB J x).toNat)]).run P w=.ok (.tuple #[]) {w with heap:=w.heap.setIfInBounds (aB J x).toNat (.map #[] clock)}:=by
       unfold Builtin.clear_;simp [run_underlying n,sN hw,tp hw,Sem.run_bind]
      rw[Sem.run_bind,e5];rfl
     refine fK c (hK _ _ _ j ⟨?_,rfl⟩ (Rel.step hA hu j E _ _ _ _ (fun y u=>by cases u)));intro es' clock' h1;rw[d]at h1;cases h1;exact gL _ _ _
    .cases h
   .cases h
  .cases h
 .cases h
end
section
variable {P:Program} {C:Ctx} {ms:Nat->Nat} {S:Nat->Prop} {w0:World} {J:Env} {st:St} {mem:Mem} {a:Act} {w:World}
def J0 (hA:MRel S w0 J mem w) {x:E} (hf:(Dc mem x).bind (fun r=>r.2.hk)=some h):(J.h h).sub w:=by
 cases a:Dc mem x with
 | none=>rw[a]at hf;cases hf
 | some r =>
  rw[a]at hf;obtain⟨q,r⟩:=r;have hp:=iZ a;have hs:=hA.sub _ (aaA hp);cases r<;>simp [bL.hk]at hf
  .subst hf;exact hs
  .subst hf;exact hs
def tM {h:Hl} {y:Nat} (hb:bM h x y n=true) (a:j<n):∃ z,h.cell x (y+j)=some (.int .u8 z):=by
 unfold bM at hb;have:=aa3.1 hb j (abd.2 a);cases hc:h.cell x (y+j)with
 | none=>rw[hc]at this;cases this
 | some v =>
  rw[hc]at this;cases v<;>simp [bz]at this
  subst this;exact⟨_,rfl⟩
def Nz (hA:MRel S w0 J mem w) {q:Nat} (a:mem[q]?=some (.bj b m T)) {c:CV} (hc:m[j]?=some c):w.cell? ⟨(J.i b).toNat,j,none⟩=some (c.ev J):=by
 have:=hA.bj a;have d:j<m.length:=(aaH.1 hc).1;simp [World.cell?,this,d,(aaH.1 hc).2]
def Bi (hA:MRel S w0 J mem w) {n:E} (h:C9 P mem el p L yd n xs ys ls=some (k,src)) (hk:bh J k=true) (e:0<=aB J yd) (c:aB J yd+aB J n<=L) :
 (aB J xs= -1/\aB J ls=0)\/∃ b o,az (aB J xs) (aB J ys)=some ⟨b,o,none⟩/\∀ j:Nat,aB J yd<=j->(j:Int)<aB J yd+aB J n->∃ s,src j=some s/\w.cell? ⟨b,o+(j-(aB J yd).toNat),none⟩=some (s.ev J):=by
 unfold C9 at h;split at h
 .rename_i q m T l;split at h
  .cases h
  .rename_i t;have hx:∃ bs,xs=.var bs/\tX mem bs=some (q,m,T):=by
    cases xs<;>simp at l
    exact⟨_,rfl,l⟩
   obtain⟨bs,rfl,hf⟩:=hx;have hp:=gH hf;have a:0<=J.i bs:=hA.pos _ (aaA hp);split at h
   .rename_i hc;cases h;obtain⟨rfl,hl⟩:=hc;refine Or.inr ⟨(J.i bs).toNat,(aB J yd).toNat,by rw[al,au a],fun j h0 h1=>?_⟩;have d:j<m.length:=ah;refine⟨m[j],aax d,?_⟩;rw[show(aB J yd).toNat+(j-(aB J yd).toNat)=j by omega];exact Nz hA hp (aax d)
   .split at h
    .rename_i o o' _;split at h
     .rename_i f;cases h;simp only[ba,fD,ak,aaB]at hk;rw[ak]at e c;refine Or.inr ⟨(J.i bs).toNat,o'.toNat,by rw[al,ak,au a],fun j h0 h1=>?_⟩;rw[ak]at h0 h1 ⊢;have d:j-o.toNat+o'.toNat<m.length:=ah;refine⟨m[j-o.toNat+o'.toNat],by simp only;rw[aaR ah,aax d],?_⟩;rw[acY o'.toNat];exact Nz hA hp (aax d)
     .cases h
    .cases h
 .split at h
  .rename_i o hh g;split at h
   .rename_i f;cases h;simp only[tJ,gj,aO,ba,ak,aaE,ab1,aaB,CT]at hk;rcases hk with hk | ⟨hx,u,hb⟩
    .exact Or.inl ⟨abK hk.1,abK hk.2⟩
    have hx:=abK hx;refine Or.inr ⟨(aB J xs).toNat,(aB J ys).toNat,by rw[au hx],fun j h0 h1=>?_⟩;rw[ak]at h0 h1 ⊢;obtain⟨z,r⟩:=tM hb (j:=j-o.toNat) ah;refine⟨_,by simp only;rw[aaR ah],?_⟩;rw[Hl.iu (J0 hA g) r];simp only[CV.ev,fh,r,cf]
   .cases h
  .cases h
def C8 {n:E} (hn:aB J n<=aB J ld) (h:(j:Int)<aB J yd+aB J n):xU yd ld src j=src j:=by
 unfold xU;split
 .rw[ak]at h hn;rw[aaR ah]
 .rfl
def setRow_self {w:World} (h:w.heap[g]?=some (.cells cs T (0,0))):w.setRow g cs=w:=by
 have e:(w.setRow g cs).heap=w.heap:=by
  apply Array.ext_getElem?;intro k;by_cases hk:k=g
  .subst hk;rw[setRow_heap w _ _ cs T _ h,h]
  .exact setRow_other w _ _ _ hk
 show({w with heap:=(w.setRow g cs).heap} : World)=w;rw[e]
def run_copy_none (w:World) (dT f ty elem:TypeId) (a:Addr) (b d c:Nat) (hu:P.underlying dT=some (.slice elem)) (hs:((P.info? elem).map (·.size)).isSome=true) :
 (Builtin.copy_ #[dT,f] ty #[.slice (some a) b d,.slice none 0 c]).run P w=.ok (goInt 0) w:=by
 cases e:P.info? elem with
 | none=>simp [e]at hs
 | some i=>simp [Builtin.copy_,run_underlying hu,Builtin.lenOf,Builtin.firstCells,sizeOf,typeInfo,e,storeCells]
def wB {n:E} : bh J (yN yd n j)=decide (aB J yd<=j/\(j:Int)<aB J yd+aB J n):=by
 unfold yN;rw[aO,ba,js,ak,fD,Bool.decide_and]
def Eb (J:Env) (src:Option CV) (old:CV):Value:=match src with
 | some s=>s.ev J
 | none=>old.ev J
def yM {c:E} {src:Option CV} {old x:CV} (h:qb c src old=some x):x.ev J=if bh J c=true then Eb J src old else old.ev J:=by
 unfold qb at h;cases src with
 | none=>cases h;simp [Eb]
 | some s =>
  simp only at h;split at h
  .split at h
   .rename_i hc;cases h;subst hc;simp [cZ,Eb]
   .split at h
    .rename_i hc;cases h;subst hc;simp [du]
    .rw[pc h];rfl
  .cases h
def qc {yd n:E} {src:Nat->Option CV} : ∀ (l:List CV) (j:Nat) (l':List CV),JF yd n src j l=some l'->l'.length=l.length/\∀ i c x,l[i]?=some c->l'[i]?=some x ->
 (∃ y,qb (yN yd n (j+i)) (src (j+i)) c=some y)/\x.ev J=if bh J (yN yd n (j+i))=true then Eb J (src (j+i)) c else c.ev J
 | [],j,l',h=>by cases h;simp
 | c::l,j,l',h=>by
  unfold JF at h;split at h
  .rename_i x r h1 h2;cases h;obtain⟨hl,ih⟩:=qc l (j+1) r h2;refine⟨by simp [hl],fun i c' x' hc hx=>?_⟩;cases i with
   | zero =>
    simp only[abv,aaF]at hc hx;subst hc;subst hx;exact⟨⟨_,h1⟩,yM h1⟩
   | succ i =>
    simp only[abq]at hc hx;have:=ih i c' x' hc hx;rw[show j+1+i=j+(i+1)by omega]at this;exact this
  .cases h
def Bp (w:World) (dT g ty elem:TypeId) (a b:Option Addr) (d e c:Nat) (hu:P.underlying dT=some (.slice elem)) (hs:((P.info? elem).map (·.size)).isSome=true) (sl:Nat) (h0:min sl d=0) :
 (Builtin.copy_ #[dT,g] ty #[.slice a d e,.slice b sl c]).run P w=.ok (goInt 0) w:=by
 cases f:P.info? elem with
 | none=>simp [f]at hs
 | some i =>
  have hl:∀ x:Addr,_:=fun x=>run_loadCells_list (P:=P) w x [] (fun j v h=>by simp at h);simp only[abt]at hl;cases a<;>cases b<;>simp [Builtin.copy_,run_underlying hu,Builtin.lenOf,Builtin.firstCells,sizeOf,typeInfo,f,storeCells,h0,hl]
def EP (hA:Rel S w0 J st a w) (hu:st.upto st.nv=true) (x:P.underlying t=some (.slice el)) (A:fI P el=some 1) {H cs:E} (h:NN P st el ad yd ld xs ys ls d=some R) (hn:R.need.holds C ms J) (hK:Fin S w0 C J st a d R K) :
 ∃ v' w',(Builtin.copy_ #[t,t'] ty #[TV.ev J (.sv (.one (.sl (.var ad) yd ld H))),TV.ev J (.sv (.one (.sl xs ys ls cs)))]).run P w=.ok v' w'/\K (a.put d v') w':=by
 unfold NN at h;split at h
 .rename_i p k vers tags links hh hf L;split at h
  .cases h;have hp:=iZ hf;obtain⟨⟨hx,Q,hd,hs⟩,⟨c,T,hc,U⟩,B⟩:X.pre C J (.cpy st.nv k (.var ad) yd ld hh xs ys ls):=hn;rw[al]at hx hc;have hsub:(J.h k).sub w:=hA.sub _ (aaA hp);have l:(J.h hh).sub w:=J0 hA.toMRel L;have m:((P.info? el).map (·.size)).isSome=true:=by
    have:(P.info? el).map (·.size)=some 1:=by simpa [fI] using A
    rw[this];rfl
   obtain⟨vs,n⟩:∃ vs,vs=cn (J.h hh) (aB J xs).toNat (aB J ys).toNat (min (aB J ls) (aB J ld)).toNat:=⟨_,rfl⟩;have hlen:vs.length=(min (aB J ls) (aB J ld)).toNat:=by rw[n];simp [cn]
   let H':=(J.h k).put (J.i ad).toNat (aB J yd).toNat vs
   let J':=J.mC st.nv H'
   have M:ai st.nv J J':=fF _ _ _ (aaS _);have q:J'.h st.nv=H':=gL _ _ _;have r:w.heap[(J.i ad).toNat]?=some (.cells c T (0,0)):=hsub _ _ hc;have D:H' (J.i ad).toNat=some (.cells (br c.toList (aB J yd).toNat vs).toArray T (0,0)):=by
    show(J.h k).put _ _ _ _=_;unfold Hl.put;rw[aaR rfl,hc]
   have fin:∀ w',w'=w.setRow (J.i ad).toNat (br c.toList (aB J yd).toNat vs).toArray->K (a.put d (goInt vs.length)) w':=by
    rintro w' rfl;have N:(J.h k).mem (J.i ad).toNat:=by unfold Hl.mem;rw[hc];rfl
    have V:MRel S w0 J' (st.mem.set p (.hp st.nv (k::vers) tags links)) (w.setRow (J.i ad).toNat (br c.toList (aB J yd).toNat vs).toArray):=by
     refine hA.toMRel.set hp rfl rfl rfl rfl aF (fun b _ hn=>setRow_other w _ b _ (fun e=>hn (by subst e;exact N))) (Mem.agree M (St.dt hu)) ?_ trivial ?_
     .show(J'.h st.nv).sub _;rw[q];intro b o hb;by_cases s:b=(J.i ad).toNat
      .subst s;rw[D]at hb;rw[<-hb];exact setRow_heap w _ _ _ T _ r
      .have hb:(J.h k).put (J.i ad).toNat (aB J yd).toNat vs b=some o:=hb;unfold Hl.put at hb;rw[aaG s]at hb;rw[setRow_other w _ b _ s];exact hsub _ _ hb
     .intro b hb;have hb:(J'.h st.nv).mem b:=hb;rw[q]at hb;exact Or.inl (Hl.iA.1 hb)
    exact hK J' _ _ M ⟨by show J'.h st.nv=_;rw[q,<-n,al],rfl⟩ (Rel.step hA hu M V _ _ _ _ (fun y Q=>by cases Q))
   have WW:vs.length=Nat.min (aB J ls).toNat (aB J ld).toNat:=by rw[hlen];show _=min _ _;omega
   have ex:TV.ev J (.sv (.one (.sl (.var ad) yd ld H)))=.slice (some ⟨(J.i ad).toNat,(aB J yd).toNat,none⟩) (aB J ld).toNat (aB J H).toNat:=by
    simp only[TV.ev,SV.ev,CV.ev,al,au hx]
   rw[ex];rcases B with h0 | ⟨O,W,hb⟩
   .have F:vs=[]:=aaz.1 (by rw[hlen,h0];rfl);refine⟨_,_,Bp w t t' ty el _ _ _ _ _ x m _ ah,?_⟩;have:=fin w (by
     rw[F];have:(br c.toList (aB J yd).toNat []).toArray=c:=by simp [br]
     rw[this,setRow_self r])
    rw[F]at this;exact this
   .have u:∀ j,j<(min (aB J ls) (aB J ld)).toNat->∃ z,(J.h hh).cell (aB J xs).toNat ((aB J ys).toNat+j)=some (.int .u8 z):=fun j f=>tM hb f;have g:∀ j v,vs[j]?=some v->∃ z,v=.int .u8 z/\(J.h hh).cell (aB J xs).toNat ((aB J ys).toNat+j)=some v:=by
     intro j v f;have G:j<(min (aB J ls) (aB J ld)).toNat:=by rw[<-hlen];exact(aaH.1 f).1
     obtain⟨z,I⟩:=u j G;rw[n]at f;simp only[cn,aaL,aaZ G,abe,I,abL,aaF]at f;exact⟨z,f.symm,by rw[<-f];exact I⟩
    have aE:=run_copy_row P w t t' ty el (J.i ad).toNat (aB J yd).toNat (aB J ld).toNat (aB J H).toNat ⟨(aB J xs).toNat,(aB J ys).toNat,none⟩ (aB J ls).toNat (aB J cs).toNat c T vs x (by simpa [fI] using A) r WW
     (fun j v f=>by
      obtain⟨z,_,I⟩:=g j v f;rw[show(⟨(aB J xs).toNat,(aB J ys).toNat,none⟩:Addr).add j=⟨(aB J xs).toNat,(aB J ys).toNat+j,none⟩by unfold Addr.add;split<;>simp_all];exact Hl.iu l I)
     (by rw[hlen];omega)
     (fun v hv=>by
      obtain⟨j,f⟩:=ada.1 hv;obtain⟨z,rfl,_⟩:=g j v f;rfl)
    have Y:TV.ev J (.sv (.one (.sl xs ys ls cs)))=.slice (some ⟨(aB J xs).toNat,(aB J ys).toNat,none⟩) (aB J ls).toNat (aB J cs).toNat:=by
     simp only[TV.ev,SV.ev,CV.ev,au O]
    rw[Y];refine⟨_,_,aE,fin _ ?_⟩;simp [br]
  .cases h
 .cases h
def EO (hA:Rel S w0 J st a w) (X:st.upto st.nv=true) {x:TV} (h:NM P st t x y d=some R) (hn:R.need.holds C ms J) (hK:Fin S w0 C J st a d R K) :
 ∃ v' w',(Builtin.copy_ #[t,t'] ty #[x.ev J,y.ev J]).run P w=.ok v' w'/\K (a.put d v') w':=by
 unfold NM at h;split at h
 .rename_i el hu;split at h
  .rename_i A;split at h
   .rename_i ad yd ld H xs ys ls cs;split at h
    .rename_i p l T hf;have hp:=gH hf;have u:0<=J.i ad:=hA.toMRel.pos _ (aaA hp);simp only at h;generalize hN:mkIte (mkLt ls ld) ls ld=N at h;split at h
     .rename_i k src I;split at h
      .rename_i l' L;cases h;simp only[vC,aO,ba,ak,fD,aaE,aaB]at hn;obtain⟨hk,B,M,O,Q⟩:=hn;have B:=abK B;have M:=abK M;have O:=abK O;have eN:aB J N=min (aB J ls) (aB J ld):=by
        rw[<-hN,jb,js];by_cases hc:aB J ls<aB J ld
        .rw[aaR (by simpa using hc)];omega
        .rw[aaG (by simpa using hc)];omega
       rcases Bi hA.toMRel I hk B Q with ⟨Y,D⟩ | ⟨b,o,Z,m⟩
       .have ab:aB J N<=0:=by rw[eN,D];omega
        obtain⟨hlen,q⟩:=qc (J:=J) l 0 l' L;have same:l'.map (CV.ev J)=l.map (CV.ev J):=by
         apply aa2;intro j;by_cases f:j<l.length
         .have c:j<l'.length:=ah;obtain⟨_,U⟩:=q j _ _ (aax f) (aax c);rw[aa6,wB]at U;rw[aaL,aax c,aaL,aax f,abe,abe,U,aaG (by simp only[aaB];omega)]
         .rw[aaK (by simp;omega),aaK (by simp;omega)]
        have ex:TV.ev J (.sv (.one (.sl (.var ad) yd ld H)))=.slice (some ⟨(J.i ad).toNat,(aB J yd).toNat,none⟩) (aB J ld).toNat (aB J H).toNat:=by
         simp only[TV.ev,SV.ev,CV.ev,al,au u]
        have ey:TV.ev J (.sv (.one (.sl xs ys ls cs)))=.slice none 0 (aB J cs).toNat:=by
         simp only[TV.ev,SV.ev,CV.ev,Y,D];rfl
        rw[ex,ey];have aa:=hA.toMRel.bj hp;have E:=setRow_self aa;have hM:=hA.toMRel.D4 (l':=l') hp (cs:=(l.map (CV.ev J)).toArray) (by rw[same]);rw[E]at hM;have F:((P.info? el).map (·.size)).isSome=true:=by
         have:(P.info? el).map (·.size)=some 1:=by simpa [fI] using A
         rw[this];rfl
        refine⟨_,_,run_copy_none w t t' ty el _ _ _ _ hu F,?_⟩;refine hK J _ _ (ai.refl _ _) rfl (Rel.put (st:={st with mem:=st.mem.set p (.bj ad l' T)}) ⟨hM,hA.size,hA.defers,hA.tmp,hA.path⟩ _ _ _ (fun z r=>?_));cases r;simp only[TV.ev,SV.ev,CV.ev];unfold goInt
        congr 1
        rw[eN,D];omega
       obtain⟨hlen,q⟩:=qc (J:=J) l 0 l' L
       let g:=(aB J N).toNat
       let e:=(aB J yd).toNat
       let vs:List Value:=(List.range g).map fun i=>(w.cell? ⟨b,o+i,none⟩).getD (.bool false)
       have G:∀ i,i<g->∃ s,xU yd ld src (e+i)=some s/\w.cell? ⟨b,o+i,none⟩=some (s.ev J):=by
        intro i hi;have ae:(i:Int)<aB J N:=ah;obtain⟨s,h1,h2⟩:=m (e+i) ah ah;rw[show e+i-(aB J yd).toNat=i by omega]at h2;exact⟨s,(C8 (J:=J) (n:=N) (by rw[eN];omega) ah).trans h1,h2⟩
       have V:∀ v∈vs,v.oneCell'=true:=by
        intro v hv;obtain⟨i,hi,rfl⟩:=abb.1 hv;have hi:=abd.1 hi;obtain⟨s,h1,h2⟩:=G i hi;rw[h2,abL];have f:e+i<l.length:=ah;have c:e+i<l'.length:=ah;obtain⟨⟨z,r⟩,_⟩:=q (e+i) _ _ (aax f) (aax c);rw[aa6,h1]at r;unfold qb at r;simp only at r;split at r
        .rename_i hc;exact CV.qa s hc
        .cases r
       have aE:=run_copy_row P w t t' ty el (J.i ad).toNat e (aB J ld).toNat (aB J H).toNat ⟨b,o,none⟩ (aB J ls).toNat (aB J cs).toNat (l.map (CV.ev J)).toArray T vs hu (by simpa [fI] using A) (hA.toMRel.bj hp)
        (by simp only[vs,aaT,ab5,g,eN];show(min (aB J ls) (aB J ld)).toNat=min _ _;omega)
        (fun j v hj=>by
         have W:j<g:=by have:=(aaH.1 hj).1;simpa [vs] using this
         obtain⟨s,h1,h2⟩:=G j W;have:v=s.ev J:=by
          simp only[vs,aaL,aaZ W,abe,h2,abL,aaF]at hj;exact hj.symm
         subst this;rw[show(⟨b,o,none⟩:Addr).add j=⟨b,o+j,none⟩by unfold Addr.add;split<;>simp_all];exact h2)
        (by simp only[vs,aaT,ab5,g];simp;omega) V
       have ex:TV.ev J (.sv (.one (.sl (.var ad) yd ld H)))=.slice (some ⟨(J.i ad).toNat,e,none⟩) (aB J ld).toNat (aB J H).toNat:=by
        simp only[TV.ev,SV.ev,CV.ev,al,au u,e]
       have ey:TV.ev J (.sv (.one (.sl xs ys ls cs)))=.slice (some ⟨b,o,none⟩) (aB J ls).toNat (aB J cs).toNat:=by
        simp only[TV.ev,SV.ev,CV.ev,Z]
       rw[ex,ey];refine⟨_,_,aE,?_⟩;have hnew:(l.map (CV.ev J)).toArray.toList.take e++vs++(l.map (CV.ev J)).toArray.toList.drop (e+vs.length)=l'.map (CV.ev J):=by
        have lv:vs.length=g:=by simp [vs]
        apply aa2;intro j;rw[lv];by_cases f:j<l.length
        .have c:j<l'.length:=ah;obtain⟨_,U⟩:=q j _ _ (aax f) (aax c);rw[aa6,wB]at U;rw[aaL,aax c,abe,U];simp only[aaB];by_cases h1:j<e
         .rw[aaG ah,aaV,aa0 (by simp;omega)];simp [abf,h1,f]
         .by_cases h2:j<e+g
          .rw[aaR ah,aa0 (by simp [lv];omega),aaQ (by simp;omega)];obtain⟨s,h3,h4⟩:=G (j-e) ah;rw[show e+(j-e)=j by omega]at h3;rw[h3];show _=some (s.ev J);have hm:(List.take e (List.map (CV.ev J) l).toArray.toList).length=e:=by simp;omega
           rw[hm];simp only[vs,aaL,aaZ (show j-e<g by omega),abe,h4,abL]
          .rw[aaG ah,aaQ (by simp [lv];omega)];simp only[aay,aaU,aaT,lv,aa9,aaL];rw[show e+g+(j-(min e l.length+g))=j by omega];simp [f]
        .rw[aaK (by simp [lv];omega),aaK (by simp [hlen];omega)]
       refine hK J _ _ (ai.refl _ _) rfl (Rel.put (st:={st with mem:=st.mem.set p (.bj ad l' T)}) ⟨hA.toMRel.D4 hp (by rw[hnew]),hA.size,hA.defers,hA.tmp,hA.path⟩ _ _ _ (fun z r=>?_));cases r;simp only[TV.ev,SV.ev,CV.ev,vs,aaT,ab5,g];unfold goInt
       congr 1
       omega
      .cases h
     .cases h
    .exact EP hA X hu A h hn hK
   .cases h
  .cases h
 .cases h
end
end Go.Sx
