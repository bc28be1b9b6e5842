/- Pull after pull, for all and with bodies, brings every piece laid in a door once, each whole and in its writer's order: a part of the proof. No condition. -/
import Derived.Test.YtbdikjnpbnobcaaGreatDoorTA
set_option linter.all false
namespace Go.Sx
open Go
variable {K:Act->World->Prop}{es:Array MapEntry}{cs:Array Value}{agg:Bool}{k ld le ls xs yd ys:E}{Q:Exit->Act->World->Prop}{kd:Kd}{l l' m z:List CV}{args:List TV}{L ad b c g h j p size x:Nat}{src:Nat->Option CV}{o:Obj}{d:Option Tmp}{y:TV}{T el t t' ty:TypeId}{key old v:Value}
structure XR where
 st:St
 need:Nd
 x:Option X
variable {R:XR}
def posOf (mem:Mem) (x:E):Option (Nat×bo) :=
 match x with
 | .var a=>match vv mem a with
  | some (p,l,T)=>some (p,.bc a l T)
  | none=>Ed mem x
 | x=>Ed mem x
def bj {mem:Mem} {x:E} {r:bo} (h:posOf mem x=some (p,r)):mem[p]?=some r:=by
 unfold posOf at h;split at h
 .split at h
  .rename_i q l T hb;cases h;exact gk hb
  .exact ja h
 .exact ja h
def pU (z:List CV) (n:Nat):List CV:=(List.range n).map fun j=>z.getD (j%z.length) (.bool .tt)
def rootOf:TV->Option E
 | .sv (.one (.hptr x _))=>some x
 | .sv (.one (.sl x _ _ _))=>some x
 | .sv (.one (.map x))=>some x
 | .sv (.one (.clo _ x))=>some x
 | _=>none
def Mm (mem:Mem) (size:Nat) (t:TV):Option (Src×E) :=
 match t with
 | .sv (.one (.sl x y l c)) =>
  if x=.lit (-1)then(if y=.lit 0/\l=.lit 0/\c=.lit 0 then some (.cvs [] 0,.lit 0)else none)else
  match qW mem x y,l with
  | some (_,_,cs,_,o),.lit m=>if 0<=m/\o+m.toNat*size<=cs.length/\(((cs.drop o).take (m.toNat*size)).all CV.tI=true)then some (.cvs ((cs.drop o).take (m.toNat*size)) m.toNat,.lit m)else none
  | _,l=>match(Ed mem x).bind (fun r=>r.2.hk)with
   | some h=>some (.seg h x y l,l)
   | none=>none
 | _=>none
def uQ (P:Program) (st:St) (t:TypeId) (p:CV) (v:SV):Option (E×Mem ⊕ X×Mem) :=
 match p with
 | .pti a o s k i=>match vv st.mem a,v with
  | some (p,l,T),.one c=>if fj P t=some 1/\c.tI=true/\(∀ j,j<k->o+s*j<l.length)then
   (updSel l o s i c k).map fun l'=>.inl (SU i k,st.mem.set p (.bc a l' T))
   else none
  | _,_=>none
 | .hptr x y=>if fj P t=some v.cells.length/\v.cells.all CV.tI=true then match qW st.mem x y with
  | some (a,p,l,T,o)=>if o+v.cells.length<=l.length then some (.inl (.tt,st.mem.set p (.bc a (bm l o v.cells) T)))else none
  | none=>match Ed st.mem x with
   | some (p,.hp k vers tags links)=>some (.inr (.put st.nv k x y v.cells,st.mem.set p (.hp st.nv (k::vers) tags links)))
   | _=>none
  else none
 | _=>none
where updSel (l:List CV) (o s:Nat) (i:E) (c:CV):Nat->Option (List CV)
 | 0=>some l
 | m+1=>match updSel l o s i c m with
  | some l'=>match l'[o+s*m]? with
   | some old=>match sF (mkEq i (.lit m)) c old with
    | some v=>some (l'.set (o+s*m) v)
    | none=>none
   | none=>none
  | none=>none
def J7 (args:List TV) (mem:Mem):Sel->Option (Nat×bo)
 | .arg i=>match(args[i]?).bind rootOf with
  | some x=>match posOf mem x with
   | some (p,r)=>if r.own then some (p,r)else none
   | none=>none
  | none=>none
 | .link i j=>match(args[i]?).bind rootOf with
  | some x=>match posOf mem x with
   | some (_,.hp _ _ _ links)=>match links[j]? with
    | some y=>match posOf mem y with
     | some (p,r)=>if r.own then some (p,r)else none
     | none=>none
    | none=>none
   | some (_,.bc _ l _)=>match l[j]? with
    | some (.hptr y _)=>match posOf mem y with
     | some (p,r)=>if r.own then some (p,r)else none
     | none=>none
    | _=>none
   | _=>none
  | none=>none
 | .far i j k=>match(args[i]?).bind rootOf with
  | some x=>match posOf mem x with
   | some (_,.bc _ l _)=>match l[j]? with
    | some (.hptr y _)=>match posOf mem y with
     | some (_,.hp _ _ _ links)=>match links[k]? with
      | some z=>match posOf mem z with
       | some (p,r)=>if r.own then some (p,r)else none
       | none=>none
      | none=>none
     | _=>none
    | _=>none
   | _=>none
  | none=>none
def rQ:CV->Option E
 | .hptr x _=>some x
 | .sl x _ _ _=>some x
 | .map x=>some x
 | _=>none
def sW (mem:Mem) (r:Nat×bo):Nat×bo:=match r.2 with
 | .bc _ l _=>match(l.head?).bind rQ with
  | some y=>match posOf mem y with
   | some q=>q
   | none=>(mem.length,.dead)
  | none=>(mem.length,.dead)
 | .ro _ _ any=>if any then r else match rF mem 0 with
  | some q=>q
  | none=>r
 | _=>r
def zZ:Mem->TypeId->Nat->Option (Nat×bo)
 | [],_,_=>none
 | .bc a l T::m,t,k=>match zZ m t (k+1)with
  | some r=>some r
  | none=>if T=t then some (k,.bc a l T)else none
 | _::m,t,k=>zZ m t (k+1)
def yy (args:List TV) (mem:Mem) (i:Nat):Nat×bo :=
 if 7000000<=i then match zZ mem (i-7000000) 0 with
  | some r=>r
  | none=>(mem.length,.dead)
 else if 6000000<=i then match mem[i-6000000]? with
  | some r=>(i-6000000,r)
  | none=>(mem.length,.dead)
 else if 5000000<=i then match args[(i-5000000)/1000]? with
  | some (.sv (.one (.hptr x y)))=>match posOf mem x with
   | some (_,.bc _ l _)=>match(l[(i-5000000)%1000]?).bind rQ with
    | some z=>match posOf mem z with
     | some r=>r
     | none=>(mem.length,.dead)
    | none=>(mem.length,.dead)
   | some (_,.ro k _ _)=>match posOf mem (.hP k x y ((i-5000000)%1000) 0)with
    | some r=>r
    | none=>(mem.length,.dead)
   | _=>(mem.length,.dead)
  | _=>(mem.length,.dead)
 else if 4000000<=i then match args[(i-4000000)/1000]? with
  | some (.sv (.agg l))=>match(l[(i-4000000)%1000]?).bind rQ with
   | some y=>match posOf mem y with
    | some r=>sW mem r
    | none=>(mem.length,.dead)
   | none=>(mem.length,.dead)
  | _=>(mem.length,.dead)
 else if 3000000<=i then match(args[i-3000000]?).bind rootOf with
  | some x=>match posOf mem x with
   | some r=>sW mem r
   | none=>(mem.length,.dead)
  | none=>(mem.length,.dead)
 else if 2000000<=i then match posOf mem (.lit ((i-2000000:Nat):Int))with
  | some r=>r
  | none=>(mem.length,.dead)
 else if 1000000<=i then match args[(i-1000000)/1000]? with
  | some (.sv (.agg l))=>match(l[(i-1000000)%1000]?).bind rQ with
   | some y=>match posOf mem y with
    | some r=>r
    | none=>(mem.length,.dead)
   | none=>(mem.length,.dead)
  | _=>(mem.length,.dead)
 else if 10000<=i then match args[(i-10000)/100]? with
  | some (.sv (.agg l))=>match(l[(i-10000)%100]?).bind rQ with
   | some y=>match posOf mem y with
    | some r=>r
    | none=>(mem.length,.dead)
   | none=>(mem.length,.dead)
  | _=>(mem.length,.dead)
 else if 1000<=i then match(args[(i-1000)/100]?).bind rootOf with
  | some x=>match posOf mem x with
   | some (_,.bc _ l _)=>match(l[(i-1000)%100]?).bind rQ with
    | some y=>match posOf mem y with
     | some r=>r
     | none=>(mem.length,.dead)
    | none=>(mem.length,.dead)
   | some r=>r
   | none=>(mem.length,.dead)
  | none=>(mem.length,.dead)
 else if 200<=i then match(args[i-200]?).bind rootOf with
  | some x=>match posOf mem x with
   | some (_,.bc _ (.map y::_) _)=>match posOf mem y with
    | some r=>r
    | none=>(mem.length,.dead)
   | _=>(mem.length,.dead)
  | none=>(mem.length,.dead)
 else if 100<=i then match rF mem 0 with
  | some r=>r
  | none=>(mem.length,.dead)
 else match(args[i]?).bind rootOf with
  | some x=>match posOf mem x with
   | some r=>r
   | none=>(mem.length,.dead)
  | none=>(mem.length,.dead)
def bo.qs (n:Nat):bo->bo
 | .bc a _ _=>.hp n [] [.var a] []
 | .hp k vers tags links=>.hp n (k::vers) tags links
 | .dead=>.hp n [] [] []
 | r=>r
def rU (mem:Mem) (ps:List (Nat×bo)):Mem:=re (fun p r=>match ps.find? fun q=>q.1==p with
 | some q=>q.2
 | none=>r) 0 mem
def oB (args:List TV) (l:List Nat):List E:=l.filterMap fun i=>(args[i]?).bind rootOf
def Pu (Γ:List Spec) (st:St) (f:FuncId) (args:List TV) (dst:Option Tmp):Option XR :=
 match Γ.findIdx? fun s=>s.fn==f with
 | some j=>match Γ[j]? with
  | some s=>match iN (s.own.map (J7 args st.mem))with
   | some own =>
    let rd:=s.rd.map (yy args st.mem)
    let ps:=own.map (·.1)
    if decide ps.Nodup&&(rd.all fun r=>!ps.contains r.1)then
     let x:X:=.call j st.nv args (own.map (·.2)) (rd.map (·.2))
     let a:=own.zipIdx.map fun q=>(q.1.1,q.1.2.qs (st.nv+q.2))
     let mem:=rU st.mem a++(if aL 0 s.res=[]then []else [.hp (st.nv+own.length) [] (aL st.nv s.res) (oB args s.links)])
     some ⟨({st with mem:=mem,nv:=st.nv+max (aab s.res) (own.length+1)} : St).put dst (some (jO st.nv s.res)),.pre x,some x⟩
    else none
   | none=>none
  | none=>none
 | none=>none
def xc (P:Program) (f:FuncId):Bool :=
 match P.funcs[f]? with
 | some fn=>fn.body.isSome&&!(fn.name== "runtime.NumGoroutine")
 | none=>false
def vl (st:St):Operand->Option FuncId
 | .func f=>some f
 | .tmp t=>match st.tmps[t]? with
  | some (some (.sv (.one (.val (.func (.func f) a b)))))=>if a.isEmpty&&b.isEmpty then some f else none
  | _=>none
 | _=>none
def IX (st:St) (c:Operand):Option (FuncId×List TV) :=
 match vl st c with
 | some f=>some (f,[])
 | none=>match c with
  | .tmp t=>match st.tmps[t]? with
   | some (some (.sv (.one (.clo f x))))=>some (f,[.sv (.one (.hptr x (.lit 0)))])
   | some (some (.sv (.one (.clo2 f x y))))=>some (f,[.sv (.one (.hptr x (.lit 0))),.sv (.one (.hptr y (.lit 0)))])
   | _=>none
  | _=>none
def Bp (st:St) (l:List CV) (T:TypeId) (dst:Option Tmp) (v:TV):Option XR :=
 if l.all (·.upto st.nv)=true then some ⟨({st with mem:=st.mem++[.bc st.nv l T],nv:=st.nv+1} : St).put dst (some v),.tt,some (.alloc st.nv)⟩else none
def Ws (P:Program) (st:St) (t:TypeId) (a b:TV) (dst:Option Tmp):Option XR :=
 match P.underlying t with
 | some (.slice el)=>match P.info? el with
  | some i=>match i.zero with
   | some z=>if z.cells.size=i.size/\0<i.size then
    match a,Mm st.mem i.size b with
    | .sv (.one (.sl x y l c)),some (src,le)=>if(l.upto st.nv&&le.upto st.nv)=true then
     let n:=st.nv
     let r:TV:=.sv (.one (.sl (.var n) (.lit 0) (mkAdd l le) (.var (n+1))))
     let fin (mem:Mem) (x:X):XR:=⟨({st with mem:=mem,nv:=n+2} : St).put dst (some r),.pre x,some x⟩
     if x=.lit (-1)then
      if y=.lit 0/\l=.lit 0/\c=.lit 0 then
       some (fin (st.mem++[.hp n [] [.var n] []]) (.app n el i.size i.bytes (.sl x y l c) l .dead src))
      else none
     else match posOf st.mem x with
      | some (p,.hp k vers tags links)=>some (fin (st.mem.set p (.hp n (k::vers) (.var n::tags) links)) (.app n el i.size i.bytes (.sl x y l c) l (.hp k vers tags links) src))
      | some (p,.bc a cells T)=>match y,l,c with
       | .lit o,.lit l,.lit c=>if T=el/\o=0 then
        some (fin (st.mem.set p (.hp n [] [.var n,.var a] [])) (.app n el i.size i.bytes (.sl x y (.lit l) (.lit c)) (.lit l) (.bc a cells T) src))
        else if 0<=o/\0<=l/\l<=c/\o.toNat+l.toNat*i.size<=cells.length/\x=.var a then
         some (fin (st.mem++[.hp n [] [.var n] []]) (.grow n el i.size i.bytes ((cells.drop o.toNat).take (l.toNat*i.size)) l.toNat c.toNat src))
        else none
       | _,_,_=>none
      | _=>none
     else none
    | _,_=>none
    else none
   | none=>none
  | none=>none
 | _=>none
def QN (P:Program) (st:St) (t:TypeId) (a b:TV) (dst:Option Tmp):Option XR :=
 match P.underlying t,a,b with
 | some (.slice el),.sv (.one (.int k l)),.sv (.one (.int d c))=>if l=c then match P.info? el with
  | some i=>match i.zero with
   | some z=>if z.cells.size=i.size/\0<i.size/\l.upto st.nv=true then
    let zs:=z.cells.toList.map il
    let n:=st.nv
    let x:X:=.mk n el zs i.bytes l
    match l with
    | .lit m=>if m.toNat*i.size<=128 then
     some ⟨({st with mem:=st.mem++[.bc n (pU zs (m.toNat*i.size)) el],nv:=n+1} : St).put dst (some (.sv (.one (.sl (.var n) (.lit 0) l l)))),.pre x,some x⟩
     else some ⟨({st with mem:=st.mem++[.hp n [] [.var n] []],nv:=n+1} : St).put dst (some (.sv (.one (.sl (.var n) (.lit 0) l l)))),.pre x,some x⟩
    | l=>some ⟨({st with mem:=st.mem++[.hp n [] [.var n] []],nv:=n+1} : St).put dst (some (.sv (.one (.sl (.var n) (.lit 0) l l)))),.pre x,some x⟩
    else none
   | none=>none
  | none=>none
  else none
 | _,_,_=>none
def WM (P:Program) (st:St) (t:TypeId) (len:Nat) (is:List Nat) (vs:List TV) (dst:Option Tmp):Option XR :=
 match P.underlying t with
 | some (.slice el)=>match fj P el,nc P el,svs vs with
  | some n,some z,some vs=>if len*n<=4096/\z.cells.size=n then
   match Ay (fun i=>some (i*n,n)) (pU (z.cells.toList.map il) (len*n)) (is.zip vs)with
   | some l=>Bp st l el dst (.sv (.one (.sl (.var st.nv) (.lit 0) (.lit len) (.lit len))))
   | none=>none
   else none
  | _,_,_=>none
 | _=>none
def CW (P:Program) (t:TypeId):Option Kd :=
 match P.underlying t with
 | some (.int k)=>some (.int k)
 | some .string=>some .str
 | _=>none
def QB:Kd->CV->Bool
 | .int k,.int a _=>decide (k=a)
 | .str,.str _=>true
 | _,_=>false
def NB (P:Program) (st:St) (op:Op) (dst:Option Tmp):Option XR :=
 match op with
 | .makeMap t none=>match P.underlying t with
  | some (.map _ _)=>some ⟨({st with mem:=st.mem++[.hp st.nv [] [.var st.nv] []],nv:=st.nv+1} : St).put dst (some (.sv (.one (.map (.var st.nv))))),.pre (.mnew st.nv),some (.mnew st.nv)⟩
  | _=>none
 | .lookup t m k ok=>match P.underlying t with
  | some (.map a b)=>match CW P a,nc P b,DN P b,cA st m,cA st k with
   | some kd,some z,some agg,some (.sv (.one (.map x))),some (.sv (.one key))=>match(Ed st.mem x).bind (fun r=>r.2.hk),lift z with
    | some h,.sv zs =>
     let ks:=z.cells.toList.map nV
     if QB kd key&&(agg==isAgg z)&&(agg||ks.length==1)then
      let X:X:=.mget st.nv h x kd key zs ks agg
      let v:=mN st.nv ks agg
      some ⟨({st with nv:=st.nv+aQ ks+1} : St).put dst (some (if ok then .tup [v,.one (.bool (.bvar (st.nv+aQ ks)))]else .sv v)),.pre X,some X⟩
     else none
    | _,_=>none
   | _,_,_,_,_=>none
  | _=>none
 | .mapUpdate t m k v=>match P.underlying t with
  | some (.map a _)=>match CW P a,cA st m,cA st k,cA st v with
   | some kd,some (.sv (.one (.map x))),some (.sv (.one key)),some (.sv vs)=>if QB kd key then match Ed st.mem x with
    | some (p,.hp h vers tags links)=>some ⟨({st with mem:=st.mem.set p (.hp st.nv (h::vers) tags links),nv:=st.nv+1} : St).put dst none,.pre (.mset st.nv h x kd key vs),some (.mset st.nv h x kd key vs)⟩
    | _=>none
    else none
   | _,_,_,_=>none
  | _=>none
 | .call {callee:=.builtin .clear,args,argTypes}=>match args.toList,argTypes.toList with
  | [m],[t]=>match P.underlying t,cA st m with
   | some (.map _ _),some (.sv (.one (.map x)))=>match Ed st.mem x with
    | some (p,.hp h vers tags links)=>some ⟨({st with mem:=st.mem.set p (.hp st.nv (h::vers) tags links),nv:=st.nv+1} : St).put dst none,.pre (.mclr st.nv h x),some (.mclr st.nv h x)⟩
    | _=>none
   | _,_=>none
  | _,_=>none
 | _=>none
def D9 (P:Program) (mem:Mem) (el:TypeId) (p L:Nat) (yd n xs ys ls:E):Option (E×(Nat->Option CV)) :=
 match(match xs with | .var bs=>vv mem bs | _=>none)with
 | some (q,m,_) =>
  if q=p then none else
  if yd=ys/\m.length=L then some (.tt,fun j=>m[j]?)
  else match yd,ys with
   | .lit o,.lit o'=>if 0<=o/\0<=o' then some (mkLe (mkAdd (.lit o') n) (.lit m.length),fun j=>if o.toNat<=j then m[j-o.toNat+o'.toNat]? else none)else none
   | _,_=>none
 | none=>match yd,(Ed mem xs).bind (fun r=>r.2.hk)with
  | .lit o,some h=>if 0<=o/\Nm P el=true then some (mkOr (mkAnd (mkEq xs (.lit (-1))) (mkEq ls (.lit 0))) (mkAnd (mkLe (.lit 0) xs) (mkAnd (mkLe (.lit 0) ys) (.hby h xs ys n))),fun j=>if o.toNat<=j then some (.int .u8 (.hI h xs ys (j-o.toNat)))else none)else none
  | _,_=>none
def zm (yd ld:E) (src:Nat->Option CV) (j:Nat):Option CV:=match yd,ld with
 | .lit o,.lit l=>if(j:Int)<o+l then src j else none
 | _,_=>src j
def Ai (yd n:E) (j:Nat):E:=mkAnd (mkLe yd (.lit j)) (mkLt (.lit j) (mkAdd yd n))
def qJ (c:E) (src:Option CV) (old:CV):Option CV :=
 match src with
 | none=>some old
 | some s=>if s.tI=true then(if c=.tt then some s else if c=.ff then some old else sF c s old)else none
def KS (yd n:E) (src:Nat->Option CV):Nat->List CV->Option (List CV)
 | _,[]=>some []
 | j,c::l=>match qJ (Ai yd n j) (src j) c,KS yd n src (j+1) l with
  | some x,some r=>some (x::r)
  | _,_=>none
def PH (P:Program) (st:St) (el:TypeId) (ad:Nat) (yd ld xs ys ls:E) (dst:Option Tmp):Option XR :=
 match Ed st.mem (.var ad),(Ed st.mem xs).bind (fun r=>r.2.hk)with
 | some (p,.hp k vers tags links),some h=>if Nm P el=true then
  let x:X:=.cpy st.nv k (.var ad) yd ld h xs ys ls
  some ⟨({st with mem:=st.mem.set p (.hp st.nv (k::vers) tags links),nv:=st.nv+1} : St).put dst none,.pre x,some x⟩
  else none
 | _,_=>none
def PG (P:Program) (st:St) (t:TypeId) (a b:TV) (dst:Option Tmp):Option XR :=
 match P.underlying t with
 | some (.slice el)=>if fj P el=some 1 then match a,b with
  | .sv (.one (.sl (.var ad) yd ld _)),.sv (.one (.sl xs ys ls _))=>match vv st.mem ad with
   | some (p,l,T) =>
    let n:=mkIte (mkLt ls ld) ls ld
    match D9 P st.mem el p l.length yd n xs ys ls with
    | some (k,src)=>match KS yd n (zm yd ld src) 0 l with
     | some l'=>some ⟨({st with mem:=st.mem.set p (.bc ad l' T)} : St).put dst (some (TI .i64 n)),ndE (mkAnd k (mkAnd (mkLe (.lit 0) yd) (mkAnd (mkLe (.lit 0) ld) (mkAnd (mkLe (.lit 0) ls) (mkLe (mkAdd yd n) (.lit l.length)))))),none⟩
     | none=>none
    | none=>none
   | none=>PH P st el ad yd ld xs ys ls dst
  | _,_=>none
  else none
 | _=>none
def WR (P:Program) (st:St) (s d:TypeId) (x:TV) (dst:Option Tmp):Option XR :=
 if s=d then match P.underlying s with
  | some (.slice el)=>if Nm P el=true/\x.upto st.nv=true then match x with
   | .sv (.one (.sl (.var a) y l c))=>match vv st.mem a with
    | some (p,cs,T)=>some ⟨({st with mem:=st.mem.set p (.hp st.nv [] [.var a] []),nv:=st.nv+1} : St).put dst (some (.sv (.one (.sl (.var a) y l c)))),.tt,some (.cbs st.nv a cs T)⟩
    | none=>none
   | _=>none
   else none
  | _=>none
 else none
def XW (P:Program) (st:St) (T:TypeId) (x:TV) (dst:Option Tmp):Option XR :=
 match x with
 | .sv v=>match P.underlying T with
  | some (.pointer _) | some (.struct _)=>some ⟨({st with nv:=st.nv+1} : St).put dst (some (.sv (.one (.vr st.nv)))),.tt,some (.mki st.nv T v)⟩
  | _=>none
 | _=>none
def TG (P:Program) (Γ:List Spec) (st:St) (o:Oper):Option XR :=
 if st.upto st.nv=true then
  match o.op with
  | .alloc t=>match nc P t with
   | some z=>Bp st (z.cells.toList.map il) t o.dst (TP (.var st.nv) (.lit 0))
   | none=>none
  | .box t x=>match cA st x with
   | some (.sv v)=>if v.cells.all CV.tI=true then Bp st v.cells t o.dst (TP (.var st.nv) (.lit 0))else none
   | _=>none
  | .store t p x=>match cA st p,cA st x with
   | some (.sv (.one e)),some (.sv v)=>match uQ P st t e v with
    | some (.inl (n,mem))=>some ⟨({st with mem:=mem} : St).put o.dst none,ndE n,none⟩
    | some (.inr (x,mem))=>some ⟨({st with mem:=mem,nv:=st.nv+1} : St).put o.dst none,.pre x,some x⟩
    | none=>none
   | _,_=>none
  | .makeSlice t l c=>match cA st l,cA st c with
   | some a,some b=>QN P st t a b o.dst
   | _,_=>none
  | .buildSlice t len parts=>match wc st (parts.toList.map (·.2))with
   | some vs=>WM P st t len (parts.toList.map (·.1)) vs o.dst
   | none=>none
  | .call {callee:=.builtin .append,args,argTypes}=>match args.toList,argTypes.toList with
   | [a,b],[t,t']=>if t=t' then match cA st a,cA st b with
    | some x,some y=>Ws P st t x y o.dst
    | _,_=>none
    else none
   | _,_=>none
  | .call {callee:=.builtin .copy,args,argTypes}=>match args.toList,argTypes.toList with
   | [a,b],[t,_]=>match cA st a,cA st b with
    | some x,some y=>PG P st t x y o.dst
    | _,_=>none
   | _,_=>none
  | .convert s d x=>match cA st x with
   | some x=>WR P st s d x o.dst
   | none=>none
  | .makeInterface T x=>match cA st x with
   | some x=>XW P st T x o.dst
   | none=>none
  | .makeMap t none=>NB P st (.makeMap t none) o.dst
  | .lookup t m k ok=>NB P st (.lookup t m k ok) o.dst
  | .mapUpdate t m k v=>NB P st (.mapUpdate t m k v) o.dst
  | .call {callee:=.builtin .clear,args,argTypes}=>NB P st (.call {callee:=.builtin .clear,args,argTypes}) o.dst
  | .call {callee:=.value c,args,argTypes:=_}=>match vl st c,wc st args.toList with
   | some f,some vs=>if xc P f then Pu Γ st f vs o.dst else none
   | _,_=>none
  | _=>none
 else none
def YW (mem:Mem) (x:E):Bool:=match posOf mem x with
 | some (_,.hp _ _ tags _)=>tags.contains (.lit (-7))
 | _=>false
def Vl:TV->List CV
 | .sv v=>v.cells
 | _=>[]
def ad5 (P:Program) (st:St) (o:Oper):Option (E×List CV) :=
 match o.op with
 | .call {callee:=.builtin .append,args,argTypes}=>match args.toList,argTypes.toList with
  | [a,b],[t,_]=>match P.underlying t with
   | some (.slice el)=>match P.info? el,cA st a,cA st b with
    | some i,some (.sv (.one (.sl x _ _ _))),some y=>match Mm st.mem i.size y with
     | some (.cvs l _,_)=>some (x,l)
     | _=>none
    | _,_,_=>none
   | _=>none
  | _,_=>none
 | .store _ p x=>match cA st p,cA st x with
  | some (.sv (.one (.hptr x _))),some (.sv v)=>some (x,v.cells)
  | _,_=>none
 | .call {callee:=.value _,args,argTypes:=_}=>match wc st args.toList with
  | some (.sv (.one (.hptr x _))::vs)=>if YW st.mem x then some (x,vs.flatMap Vl)else none
  | _=>none
 | _=>none
def QW (mem:Mem) (p:Nat):List CV->Option (E×Nat×bo)
 | []=>none
 | c::l=>match(rQ c).bind (fun y=>(posOf mem y).map fun r=>(y,r))with
  | some (y,q,r)=>if r.own=true/\q≠p then some (y,q,r)else QW mem p l
  | none=>QW mem p l
def bo.ks:bo->List Nat
 | .hp k vers _ _=>k::vers
 | _=>[]
def bo.abY:bo->List E
 | .hp _ _ tags _=>tags
 | _=>[]
def C5 (P:Program) (st:St) (o:Oper):Option (St×X) :=
 match ad5 P st o with
 | some (x,l)=>match posOf st.mem x with
  | some (p,.hp k vers tags links)=>match QW st.mem p l with
   | some (y,q,r)=>if st.upto st.nv=true then some ({st with mem:=(st.mem.set p (.hp st.nv (k::r.ks++vers) (tags++y::r.abY) links)).set q .dead,nv:=st.nv+1},.Ub st.nv (.hp k vers tags links) r)else none
   | none=>none
  | _=>none
 | none=>none
section
variable {P:Program} {C:Ctx} {ms:Nat->Nat} {S:Nat->Prop} {w0:World} {J J':Env} {st:St} {mem mem':Mem} {a:Act} {w w':World}
def Rel.step (hA:Rel S w0 J st a w) (hu:st.upto st.nv=true) (hg:ai st.nv J J') (hm:MRel S w0 J' mem' w') (nv:Nat) (d:Option Tmp) (v:Option TV) (x:Value) (hx:∀ y,v=some y->x=y.ev J') :
 Rel S w0 J' (({st with mem:=mem',nv:=nv} : St).put d v) (a.put d x) w' :=
 Rel.put (Rel.qo hg hu hA hm nv) d v x hx
def St.cR {n:Nat} (h:st.upto n=true):Mem.upto n st.mem=true:=by
 simp only[St.upto,aaM]at h;exact h.1.2
def Fin (S:Nat->Prop) (w0:World) (C:Ctx) (J:Env) (st:St) (a:Act) (d:Option Tmp) (R:XR) (K:Act->World->Prop):Prop :=
 ∀ J' x w',ai st.nv J J'->(match R.x with | some y=>y.rel C J J'/\y.n=st.nv | none=>J'=J)->Rel S w0 J' R.st (a.put d x) w'->K (a.put d x) w'
structure Za (P:Program) where
 j:Oper->Act->World->(Act->World->Prop)->(Exit->Act->World->Prop)->Prop
 val:∀ {o:Oper} {a:Act} {w w':World} {v:Value} {K:Act->World->Prop} {Q:Exit->Act->World->Prop},(execOp a.eval o).run P w=.ok (.value v) w'->K (a.put o.dst v) w'->j o a w K Q
 skip:∀ {o:Oper} {a:Act} {w w':World} {K:Act->World->Prop} {Q:Exit->Act->World->Prop},(execOp a.eval o).run P w=.ok .skip w'->K (a.put o.dst undef) w'->j o a w K Q
 call:∀ {o:Oper} {a:Act} {w:World} {f:FuncId} {xs:Array Value} {K:Act->World->Prop} {Q:Exit->Act->World->Prop},(execOp a.eval o).run P w=.ok (.enter f xs) w->(Calls P f xs w fun e w'=>∃ v,e=.returned v/\K (a.put o.dst v) w')->j o a w K Q
def Y7 (P:Program):Za P where
 j o a w K Q:=o.wp P a w K Q
 val h hK:=by unfold Oper.wp;rw[h];exact hK
 skip h hK:=by unfold Oper.wp;rw[h];exact hK
 call h b:=by
  unfold Oper.wp;rw[h];refine b.mono fun e w' ⟨v,he,hk⟩=>?_
  grind
variable {W:Za P}
def fk {o:Oper} (h:(execOp a.eval o).run P w=.ok (.value v) w') (hK:K (a.put o.dst v) w'):W.j o a w K Q:=W.val h hK
def Ch {o:Oper} (h:(execOp a.eval o).run P w=.ok .skip w') (hK:K (a.put o.dst undef) w'):W.j o a w K Q:=W.skip h hK
theorem qa {v:TV} (h:Bp st l T d v=some R) (hu:st.upto st.nv=true) (hA:Rel S w0 J st a w) (hK:Fin S w0 C J st a d R K)
 {cs:Array Value} (c:cs=(l.map (CV.ev J)).toArray) {x:Value} (hx:∀ J',ai st.nv J J'->J'.i st.nv=w.heap.size->x=v.ev J'):K (a.put d x) (w.alloc (.cells cs T)):=by
 unfold Bp at h;split at h
 .rename_i hl;cases h
  let J':=J.dw st.nv w.heap.size
  have hg:ai st.nv J J':=bI _ _ _ (ab8 _);have hi:J'.i st.nv=w.heap.size:=oq _ _ _;refine hK J' x _ hg ⟨show 0<=J'.i st.nv by grind,rfl⟩ (Rel.step hA hu hg ?_ _ _ _ _ (fun y hy=>by grind));refine hA.toMRel.add rfl rfl rfl aC (fun b hb=>RowKit.Below.heap_alloc w _ b hb) (Mem.bF hg (St.cR hu)) ?_ (by show 0<=J'.i st.nv;grind) ?_
  .intro b o hb;obtain⟨rfl,rfl⟩:=Hl.oh hb;rw[hi,aac,CV.gN hg l hl,c];exact heap_alloc_new w _
  .intro b hb;rw[show b=(J'.i st.nv).toNat from Hl.cn.1 hb,hi,aac]
   grind
 .cases h
theorem HZ {α:Type} : ∀ (l:List α) (k:Nat) (x:α),l[k]?=some x->l.set k x=l
 | [],_,_,_=>rfl
 | y::l,0,x,h=>by grind
 | y::l,k+1,x,h=>by simp at h;simp [HZ l k x h]
theorem wT {l:List CV} {o s:Nat} {i:E} {c:CV} (h0:0<=aw J i):∀ (m:Nat) (l':List CV),uQ.updSel l o s i c m=some l' ->
 l'.length=l.length/\l'.map (CV.ev J)=if aw J i<m then(l.map (CV.ev J)).set (o+s*(aw J i).toNat) (c.ev J)else l.map (CV.ev J)
 | 0,l',h=>by
  cases h
  grind
 | m+1,l',h=>by
  simp only[uQ.updSel]at h;split at h
  .rename_i a h1;split at h
   .rename_i old hold;split at h
    .rename_i v hv;cases h;obtain⟨e1,b⟩:=wT h0 m a h1;refine⟨by simp [e1],?_⟩;have hm:=pX (J:=J) hv;rw[fN,aq]at hm;rw[agX];by_cases d:aw J i=(m:Int)
     .grind
     .rw[aa8 (by grind)]at hm;rw[hm,HZ _ _ _ (show(a.map (CV.ev J))[o+s*m]?=some (old.ev J)by simp [hold]),b]
      grind
    .cases h
   .cases h
  .cases h
def MRel.E3 (h:MRel S w0 J mem w) (hp:mem[p]?=some (.bc b l T)) (d:cs=(l'.map (CV.ev J)).toArray) :
 MRel S w0 J (mem.set p (.bc b l' T)) (w.setRow (J.i b).toNat cs):=by
 refine h.set hp rfl rfl rfl rfl aC (fun c _ hn=>setRow_other w _ c _ (fun e=>hn (Hl.cn.2 e))) (fun s _=>⟨rfl,id⟩) ?_ (show 0<=J.i b from h.pos _ (aah hp)) ?_
 .intro c o a;obtain⟨rfl,rfl⟩:=Hl.oh a;rw[d];exact setRow_heap w _ _ _ T _ (h.bc hp)
 .intro c a;exact Or.inl (Hl.cn.2 (Hl.cn.1 a))
def r5 {o:Nat} {v:SV} (hs:fj P t=some v.cells.length) (h1:v.cells.all CV.tI=true) (hle:o+v.cells.length<=l.length)
 (hb:w.heap[b]?=some (.cells (l.map (CV.ev J)).toArray T (0,0))) :
 (storeVar t ⟨b,o,none⟩ (v.ev J)).run P w=.ok () (w.setRow b ((bm l o v.cells).map (CV.ev J)).toArray):=by
 unfold storeVar;have a:=SV.vo (J:=J) v h1;have hsz:(v.ev J).cells.size=v.cells.length:=by rw[<-agn,a];simp
 simp only[Sem.run_bind,dq hs,Result.andThen_ok,hsz,ne_eq,afW,afw];rw[a];have:=run_storeCells_at (P:=P) b o T (v.cells.map (CV.ev J)) 0 (l.map (CV.ev J)).toArray w hb (by simp;omega)
  (fun x hx=>by
   obtain⟨c,d,rfl⟩:=acw.1 hx;exact CV.qI c (acd.1 h1 c d))
 simp only[acJ]at this;simp only[this]
 congr 2
 simp [bm,acm,agT,agU]
theorem Km (hA:MRel S w0 J st.mem w) {p:CV} {v:SV} (h:uQ P st t p v=some (.inl (k,mem'))) (hk:aY J k=true) :
 ∃ q w',p.ev J=.pointer (some q)/\(storeVar t q (v.ev J)).run P w=.ok () w'/\MRel S w0 J mem' w':=by
 unfold uQ at h;split at h
 .rename_i b o s m i;split at h
  .rename_i q l T c hb;split at h
   .rename_i d;simp only[aaH,Sum.inl.injEq,acx]at h;obtain⟨l',e,rfl,rfl⟩:=h;obtain⟨h0,h1⟩:=jd hk;obtain⟨e1,g⟩:=wT (c:=c) h0 m l' e;rw[ab9 h1]at g;have j:=d.2.2 (aw J i).toNat ah;have hp:=gk hb;have a:0<=J.i b:=hA.pos _ (aah hp);refine⟨_,_,by simp only[CV.ev];rw[qd h0,av a,aac],r5 (v:=.one c) d.1 (by simp [SV.cells,d.2.1]) (by trivial) (hA.bc hp),?_⟩;refine hA.E3 hp ?_;rw[g];simp only[bm,SV.cells,acm,agT,agU,abW,acI,acB];rw[List.set_eq_take_append_cons_drop,ab9 (by grind)];simp
   .cases h
  .cases h
 .rename_i x y;split at h
  .rename_i d;split at h
   .rename_i b q l T o f;obtain⟨rfl,rfl,hp⟩:=hJ f;split at h
    .rename_i hle;cases h;have a:0<=J.i b:=hA.pos _ (aah hp);exact⟨_,_,by simp only[CV.ev,ar,aq];rw[av a,aac],r5 d.1 d.2 hle (hA.bc hp),hA.E3 hp rfl⟩
    .cases h
   grind
  .cases h
 .cases h
theorem Kn (hA:Rel S w0 J st a w) (hu:st.upto st.nv=true) {p:CV} {v:SV} {x:X} (h:uQ P st t p v=some (.inr (x,mem'))) (hk:x.pre C J) :
 ∃ q w' J',p.ev J=.pointer (some q)/\(storeVar t q (v.ev J)).run P w=.ok () w'/\ai st.nv J J'/\x.rel C J J'/\x.n=st.nv/\MRel S w0 J' mem' w':=by
 unfold uQ at h;split at h
 .split at h
  .simp_all
  .cases h
 .rename_i x y;split at h
  .rename_i m;split at h
   .grind
   .split at h
    .rename_i q k vers tags links hf;cases h;have hp:=ja hf;obtain⟨hx,hy,hw⟩:=hk;have hsub:(J.h k).sub w:=hA.sub _ (aah hp);have f:=SV.vo (J:=J) v m.2;obtain⟨cs,d,g⟩:=Sy (P:=P) hsub (t:=t) (vs:=v.cells.map (CV.ev J)) (by grind) f
      (fun u hu=>by obtain⟨c,i,rfl⟩:=acw.1 hu;exact CV.qI c (acd.1 m.2 c i)) (by simpa using hw)
     let H':=(J.h k).put (aw J x).toNat (aw J y).toNat (v.cells.map (CV.ev J))
     let J':=J.mY st.nv H'
     have hg:ai st.nv J J':=fh _ _ _ (ab8 _);have hh:J'.h st.nv=H':=gu _ _ _;refine⟨_,_,J',by simp only[CV.ev];rw[av hx],d,hg,hh,rfl,?_⟩;have j:(J.h k).mem (aw J x).toNat:=by
      obtain⟨c,T,fr,l,_⟩:=jM hw;unfold Hl.mem;rw[l];rfl
     refine hA.toMRel.set hp rfl rfl rfl rfl aC (fun b _ hn=>setRow_other w _ b _ (fun e=>hn (by subst e;exact j))) (Mem.bF hg (St.cR hu)) ?_ trivial ?_
     .show(J'.h st.nv).sub _
      grind
     .intro b hb;have hb:(J'.h st.nv).mem b:=hb;rw[hh]at hb;exact Or.inl (Hl.ic.1 hb)
    .cases h
  .cases h
 .cases h
end
section
variable {P:Program} {C:Ctx} {ms:Nat->Nat} {S:Nat->Prop} {w0:World} {J J':Env} {st:St} {mem mem':Mem} {a:Act} {w w':World}
theorem Bk {zs:List Value} (hz:z.map (CV.ev J)=zs) (hp:0<zs.length) (n:Nat):(pU z n).map (CV.ev J)=(madeCells zs.toArray n).toList:=by
 have hlen:z.length=zs.length:=by rw[<-hz];simp
 unfold pU madeCells;simp only[adv,Array.toList_map,Array.toList_range];refine acL fun j _=>?_;simp only[Function.comp,af5];have a:j%z.length<z.length:=agW _ ah
 grind
theorem yJ (hm:MRel S w0 J mem w) {t:TV} {src:Src} (h:Mm mem size t=some (src,le)) (hok:src.ok J size) :
 OZ w (t.ev J) (src.len J) (src.iX J size)/\(src.iX J size).length=src.len J*size/\(∀ u∈src.iX J size,u.oneCell'=true)/\aw J le=src.len J:=by
 unfold Mm at h;split at h
 .rename_i x y l c;split at h
  .rename_i hx;split at h
   .rename_i e;cases h;obtain⟨rfl,rfl,rfl⟩:=e;subst hx;exact⟨Or.inr ⟨⟨_,rfl⟩,rfl,rfl⟩,by simp [Src.iX,Src.len],by simp [Src.iX],rfl⟩
   .cases h
  .split at h
   .rename_i a p cs T o m f;obtain⟨rfl,rfl,hp⟩:=hJ f;split at h
    .rename_i e;cases h;have b:0<=J.i a:=hm.pos _ (aah hp);refine⟨Or.inl ⟨⟨(J.i a).toNat,o,none⟩,(aw J c).toNat,?_,?_⟩,?_,?_,?_⟩
     .simp only[TV.ev,SV.ev,CV.ev,ar,aq,Src.len];rw[av b,aac]
     .intro j u hu;rw[fg];simp only[Src.iX,abl,acC]at hu;simp only[World.cell?,hm.bc hp]
      grind
     .simp only[Src.iX,Src.len,aca,ace,acy];omega
     .intro u hu;simp only[Src.iX]at hu;obtain⟨q,g,rfl⟩:=acw.1 hu;exact CV.qI q (acd.1 e.2.2 q g)
     .simp only[aq,Src.len];omega
    .cases h
   .split at h
    .rename_i l _ _ _ _ k hk;have hsub:=Aw hm hk;obtain⟨e1,n⟩:Src.seg k x y l=src/\l=le:=by simpa using h
     subst e1;subst n;rcases hok with ⟨hx,hy,hl,r⟩ | hl
     .refine⟨Or.inl ⟨⟨(aw J x).toNat,(aw J y).toNat,none⟩,(aw J c).toNat,?_,?_⟩,?_,?_,?_⟩
      .simp only[TV.ev,SV.ev,CV.ev,Src.len];rw[av hx]
      .intro j u hu;rw[fg];simp only[Src.iX,bK,abl]at hu;by_cases d:j<(aw J l).toNat*size
       .rw[acf d]at hu;simp only[acr,aa3]at hu;obtain⟨v,hv,_⟩:=r j d;rw[hv,afb]at hu;subst hu;exact Hl.gW hsub hv
       grind
      .simp [Src.iX,Src.len,bK]
      .intro u hu;simp only[Src.iX,bK]at hu
       grind
      .simp only[Src.len];omega
     .refine⟨?_,?_,?_,?_⟩
      .cases hp:au (aw J x) (aw J y)with
       | none =>
        refine Or.inr ⟨⟨(aw J c).toNat,?_⟩,?_,?_⟩
        .simp only[TV.ev,SV.ev,CV.ev,hp,hl];rfl
        .simp [Src.len,hl]
        .simp [Src.iX,bK,hl]
       | some a0 =>
        refine Or.inl ⟨a0,(aw J c).toNat,?_,?_⟩
        .simp only[TV.ev,SV.ev,CV.ev,hp,Src.len]
        .intro j u hu;simp [Src.iX,bK,hl]at hu
      .simp [Src.iX,Src.len,bK,hl]
      .simp [Src.iX,bK,hl]
      .simp [Src.len,hl]
    .cases h
 .cases h
theorem IC (hA:Rel S w0 J st a w) (hu:st.upto st.nv=true) {x:TV} (h:Ws P st t x y d=some R) (hn:R.need.holds C ms J)
 {K:Act->World->Prop} (hK:Fin S w0 C J st a d R K):∃ v' w',(Builtin.append_ #[t,t] ty #[x.ev J,y.ev J]).run P w=.ok v' w'/\K (a.put d v') w':=by
 unfold Ws at h;split at h
 .rename_i el V;split at h
  .rename_i i hi;split at h
   .rename_i z hz;split at h
    .rename_i E;split at h
     .rename_i sx sy sl sc src le D;split at h
      .rename_i A;simp only[aaM]at A;simp only at h;have fin:∀ (mem':Mem) (H:bo) (W:(H.hl J).sub w) (R':XR),R'=⟨({st with mem:=mem',nv:=st.nv+2} : St).put d (some (.sv (.one (.sl (.var st.nv) (.lit 0) (mkAdd sl le) (.var (st.nv+1)))))),.pre (.app st.nv el i.size i.bytes (.sl sx sy sl sc) sl H src),some (.app st.nv el i.size i.bytes (.sl sx sy sl sc) sl H src)⟩ ->
        R'.need.holds C ms J->Fin S w0 C J st a d R' K ->
        (∀ w' (H':Hl) J',w.grownBy w' (CV.ev J (.sl sx sy sl sc)).ownBlock->ai st.nv J J'->H'.sub w'->J'.h st.nv=H'->(∀ b,H'.mem b->(H.hl J).mem b\/w.heap.size<=b)->(∀ b,(CV.ev J (.sl sx sy sl sc)).ownBlock=some b->(H.hl J).mem b)->MRel S w0 J' mem' w') ->
        ∃ v' w',(Builtin.append_ #[t,t] ty #[TV.ev J (.sv (.one (.sl sx sy sl sc))),y.ev J]).run P w=.ok v' w'/\K (a.put d v') w':=by
        intro mem' H W R' X hn hK L;subst X;obtain⟨⟨xs,m⟩,ag,hok,F,hby⟩:=hn;obtain⟨s1,s2,s3,Y⟩:=yJ hA.toMRel D hok;obtain⟨v',w',H',hr,o1,o2,o3,o4,o5,o6,o7⟩:=IE (P:=P) (ty:=ty) W V hi hz rfl rfl E.1 E.2 m s2 s1 s3 F hby;obtain⟨x',c',Z,aj,ak⟩:∃ x' c':Int,v'=.slice (au x' 0) ((aw J sl).toNat+src.len J) c'.toNat/\ -1<=x'/\0<=c':=by
         rcases o1.2 with ⟨rfl,h0⟩ | ⟨g,cap,cur,rfl,_⟩
         .exact⟨-1,0,by rw[h0];rfl,ah,ah⟩
         .exact⟨g,cap,by trivial,ah,ah⟩
        subst Z
        let J':=((J.dw st.nv x').dw (st.nv+1) c').mY st.nv H'
        have hg:ai st.nv J J':=((bI _ _ _ (ab8 _)).trans (bI _ _ _ ah)).trans (fh _ _ _ (ab8 _));have e1:J'.i st.nv=x':=by show((J.dw st.nv x').dw (st.nv+1) c').i st.nv=x';rw[Mi _ _ _ _ ah,oq]
        have U:J'.i (st.nv+1)=c':=by show((J.dw st.nv x').dw (st.nv+1) c').i (st.nv+1)=c';rw[oq]
        have G:J'.h st.nv=H':=gu _ _ _;have r:∀ b,(CV.ev J (.sl sx sy sl sc)).ownBlock=some b->(H.hl J).mem b:=by
         intro b hb;simp only[SV.ev,CV.ev]at m hb;rcases m.2 with ⟨M,_⟩ | ⟨g,cap,cur,M,N,_⟩
         .rw[M]at hb;cases hb
         .rw[M]at hb;cases hb;unfold Hl.mem;rw[N];rfl
        have uq:∀ B,aO (H.hl J) el i.size (CV.ev J (.sl sx sy sl sc)) (aw J sl).toNat B->B=xs:=by
         intro B s;rcases m.2 with ⟨M,h0⟩ | ⟨g,cap,cur,M,N,_,_,_,V⟩
         .have a1:=m.1;have a2:=s.1;rw[h0]at a1 a2
          grind
         .rcases s.2 with ⟨aa,h0⟩ | ⟨g',ae,cur',aa,af,_,_,_,al⟩
          .grind
          grind
        refine⟨_,w',hr,hK J' _ w' hg ⟨⟨by grind,by grind,?_,?_,?_,?_⟩,rfl⟩ (Rel.step hA hu hg (L w' H' J' o3 hg o2 G (fun b hb=>(o5 b hb).imp id And.right) r) _ _ _ _ ?_)⟩
        .grind
        .grind
        .refine⟨?_,fun B s=>by grind⟩;intro b hb;rw[G]at hb;rcases o5 b hb with h | ⟨h,_⟩
         .grind
         .right;rw[e1];by_cases hx:0<=x'
          .rw[av hx]at h;simp only[Value.ownBlock,aa3]at h;grind
          .have:x'= -1:=ah;rw[this]at h;cases h
        .rw[e1];by_cases hx:0<=x'
         .rcases o6 with h | ⟨b,hb,hl⟩
          .left;rw[<-h,av hx];rfl
          .right;left;rw[av hx]at hb;simp only[Value.ownBlock,aa3]at hb;intro hm;have:=Hl.sub_lt W hm;omega
         grind
        .intro u v;cases v;simp only[TV.ev,SV.ev,CV.ev,ar,aq,e1,U,fc,bz hg A.1,bz hg A.2,Y]
         grind
       split at h
       .rename_i hx;split at h
        .cases h;refine fin _ .dead (fun b o hb=>by cases hb) _ rfl hn hK ?_;intro w' H' J' f hg hs he hd r;have m:(CV.ev J (.sl sx sy sl sc)).ownBlock=none:=by
          cases hb:(CV.ev J (.sl sx sy sl sc)).ownBlock with
          | none=>rfl
          | some b=>have:=r b hb;cases this
         rw[m]at f;refine hA.toMRel.add f.os f.tape f.output f.size (fun b hb=>f.block b hb aC) (Mem.bF hg (St.cR hu)) (by show(J'.h st.nv).sub w';grind) trivial ?_;intro b hb;have hb:(J'.h st.nv).mem b:=hb;rw[he]at hb;rcases hd b hb with h | h
         .cases h
         .exact h
        .cases h
       .split at h
        .rename_i p k vers tags links hp;cases h;have hp:=bj hp;refine fin _ (.hp k vers tags links) (hA.sub _ (aah hp)) _ rfl hn hK ?_;intro w' H' J' f hg hs he hd r;refine hA.toMRel.set hp rfl f.os f.tape f.output f.size (fun b hb I=>f.block b hb (fun e=>I (r b e.symm))) (Mem.bF hg (St.cR hu)) (by show(J'.h st.nv).sub w';grind) trivial ?_;intro b hb;have hb:(J'.h st.nv).mem b:=hb
         grind
        .rename_i p b cells T hp;split at h
         .rename_i o l c;split at h
          .cases h;have hp:=bj hp;refine fin _ (.bc b cells T) (hA.sub _ (aah hp)) _ rfl hn hK ?_;intro w' H' J' f hg hs he hd r;refine hA.toMRel.set hp rfl f.os f.tape f.output f.size (fun b hb I=>f.block b hb (fun e=>I (r b e.symm))) (Mem.bF hg (St.cR hu)) (by show(J'.h st.nv).sub w';grind) trivial ?_;intro b hb;have hb:(J'.h st.nv).mem b:=hb
           grind
          .split at h
           .rename_i hc;obtain⟨c0,c1,c2,c3,rfl⟩:=hc;cases h;have hp:=bj hp;obtain⟨hok,ab,F,hby⟩:=hn;obtain⟨s1,s2,s3,Y⟩:=yJ hA.toMRel D hok;have O:0<=J.i b:=hA.pos _ (aah hp);have hb:=hA.toMRel.bc hp;obtain⟨Q,ob,hr,ho⟩:=FC (P:=P) (w:=w) (ty:=ty) V hi hz rfl rfl E.1 (b:=⟨(J.i b).toNat,o.toNat,none⟩) (n:=l.toNat) (cap:=c.toNat) (olds:=((cells.drop o.toNat).take (l.toNat*i.size)).map (CV.ev J))
             (by grind)
             (fun j u v=>by
              rw[fg];simp only[abl,acC]at v;simp only[World.cell?,hb]
              grind) s2 s1 ab ah F hby
            let J':=((J.dw st.nv w.heap.size).dw (st.nv+1) Q).mY st.nv (Hl.one w.heap.size ob)
            have hg:ai st.nv J J':=((bI _ _ _ (ab8 _)).trans (bI _ _ _ ah)).trans (fh _ _ _ (ab8 _));have e1:J'.i st.nv=w.heap.size:=by show((J.dw st.nv w.heap.size).dw (st.nv+1) Q).i st.nv=_;rw[Mi _ _ _ _ ah,oq]
            have U:J'.i (st.nv+1)=Q:=by show((J.dw st.nv w.heap.size).dw (st.nv+1) Q).i (st.nv+1)=_;rw[oq]
            have G:J'.h st.nv=Hl.one w.heap.size ob:=gu _ _ _;refine⟨_,_,?_,hK J' (.slice (some ⟨w.heap.size,0,none⟩) (l.toNat+src.len J) Q) (w.drew.alloc ob) hg ⟨⟨by grind,by grind,?_,?_⟩,rfl⟩ (Rel.step hA hu hg ?_ _ _ _ _ ?_)⟩
            .simp only[TV.ev,SV.ev,CV.ev,ar,aq];have ad:au (J.i b) o=some ⟨(J.i b).toNat,o.toNat,none⟩:=av O;rw[ad];exact hr
            .rw[e1,U,G,av ah]
             grind
            .intro b' q;rw[G]at q;rw[e1,Hl.cn.1 q];simp
            .refine hA.toMRel.add rfl rfl rfl aC (fun b' q=>RowKit.Below.heap_alloc w.drew _ b' q) (Mem.bF hg (St.cR hu)) ?_ trivial ?_
             .show(J'.h st.nv).sub _;rw[G];intro b' o' q;obtain⟨rfl,rfl⟩:=Hl.oh q;exact heap_alloc_new w.drew _
             .intro b' q;have q:(J'.h st.nv).mem b':=q;rw[G]at q;rw[Hl.cn.1 q];grind
            .intro u v;cases v;simp only[TV.ev,SV.ev,CV.ev,ar,aq,e1,U,fc,bz hg A.2,Y];rw[av ah]
             grind
           .cases h
         .cases h
        .cases h
      .cases h
     .cases h
    .cases h
   .cases h
  .cases h
 .cases h
end
section
variable {P:Program} {C:Ctx} {ms:Nat->Nat} {S:Nat->Prop} {w0:World} {J J':Env} {st:St} {mem mem':Mem} {a:Act} {w w':World}
def Env.shift (J r:Env) (n:Nat) (hs:Nat->Hl):Env where
 i:=fun k=>if n<=k then r.i (k-n)else J.i k
 b:=fun k=>if n<=k then r.b (k-n)else J.b k
 s:=fun k=>if n<=k then r.s (k-n)else J.s k
 v:=fun k=>if n<=k then r.v (k-n)else J.v k
 h:=fun k=>if n<=k then hs (k-n)else J.h k
def rV (J r:Env) (n:Nat) (hs:Nat->Hl):ai n J (J.shift r n hs) :=
 ⟨fun k hk=>aa8 ah,fun k hk=>aa8 ah,fun k hk=>aa8 ah,fun k hk=>aa8 ah,fun k hk=>aa8 ah⟩
def Mk (J r:Env) (n:Nat) (hs:Nat->Hl) (k:Nat):(J.shift r n hs).h (n+k)=hs k:=by simp [Env.shift]
section
variable (J r:Env) (n:Nat) (hs:Nat->Hl)
def Af (m:Nat) (k:Ck):(k.cv (n+m)).ev (J.shift r n hs)=(k.cv m).ev r:=by
 have e:∀ j,n<=n+m+j:=fun j=>ah;have d:∀ j,n+m+j-n=m+j:=fun j=>ah;have e0:n<=n+m:=ah;have d0:n+m-n=m:=ah;cases k<;>simp [Ck.cv,CV.ev,ar,bn,fW,Env.shift,e,d,e0,d0]<;>rfl
def ny:∀ (ks:List Ck) (m:Nat),(aj (n+m) ks).map (CV.ev (J.shift r n hs))=(aj m ks).map (CV.ev r)
 | [],_=>rfl
 | k::ks,m=>by simp only[aj,abW,Af,afp,ny ks (m+k.len)]
def FV (m:Nat) (c:Cp):(c.sv (n+m)).ev (J.shift r n hs)=(c.sv m).ev r:=by
 cases c with
 | one k=>exact Af J r n hs m k
 | agg ks=>simp only[Cp.sv,SV.ev,ny]
def x9:∀ (l:List Cp) (m:Nat),(bQ (n+m) l).map (SV.ev (J.shift r n hs))=(bQ m l).map (SV.ev r)
 | [],_=>rfl
 | c::l,m=>by simp only[bQ,abW,FV,afp,x9 l (m+c.len)]
def vq (m:Nat) (k:Ck):ir (n+m) (J.shift r n hs) k↔ir m r k:=by
 have e:∀ j,n<=n+m+j:=fun j=>ah;have d:∀ j,n+m+j-n=m+j:=fun j=>ah;have e0:n<=n+m:=ah;have d0:n+m-n=m:=ah;cases k<;>simp [ir,Env.shift,e,d,e0,d0]
def tJ:∀ (ks:List Ck) (m:Nat),bZ (n+m) ks (J.shift r n hs)↔bZ m ks r
 | [],_=>agD
 | k::ks,m=>by simp only[bZ,vq,afp,tJ ks (m+k.len)]
def tK:∀ (l:List Cp) (m:Nat),bR (n+m) l (J.shift r n hs)↔bR m l r
 | [],_=>agD
 | c::l,m=>by
  have h:IZ (n+m) (J.shift r n hs) c↔IZ m r c:=by
   cases c with
   | one k=>exact vq J r n hs m k
   | agg ks=>exact tJ J r n hs ks m
  simp only[bR,h,afp,tK l (m+c.len)]
def I0 (l:List Cp):(jO n l).ev (J.shift r n hs)=(jO 0 l).ev r:=by
 unfold jO;split
 .exact FV J r n hs 0 _
 .have:=x9 J r n hs l 0;rw[acJ]at this;simp only[TV.ev,this]
end
def BX (mem:Mem) (ps:List (Nat×bo)) (q:Nat):(rU mem ps)[q]?=(mem[q]?).map fun r=>match ps.find? fun x=>x.1==q with | some x=>x.2 | none=>r:=by
 unfold rU;exact pW
def tW (mem:Mem) (ps:List (Nat×bo)):(rU mem ps).length=mem.length:=by simp [rU]
def E2 {s:Sel} {r:bo} (h:J7 args mem s=some (p,r)):mem[p]?=some r/\r.own=true:=by
 unfold J7 at h;split at h
 .split at h
  .split at h
   .rename_i hp;split at h
    .cases h;exact⟨bj hp,‹_›⟩
    .cases h
   .cases h
  .cases h
 .split at h
  .split at h
   .split at h
    .split at h
     .rename_i hp;split at h
      .cases h;exact⟨bj hp,‹_›⟩
      .cases h
     .cases h
    .cases h
   .split at h
    .split at h
     .rename_i hp;split at h
      .cases h;exact⟨bj hp,‹_›⟩
      .cases h
     .cases h
    .cases h
   .cases h
  .cases h
 .split at h
  .split at h
   .split at h
    .split at h
     .split at h
      .split at h
       .rename_i hp;split at h
        .cases h;exact⟨bj hp,‹_›⟩
        .cases h
       .cases h
      .cases h
     .cases h
    .cases h
   .cases h
  .cases h
theorem tU {mem:Mem} {r:Nat×bo} (h:mem[r.1]?=some r.2):mem[(sW mem r).1]?=some (sW mem r).2\/(sW mem r=(mem.length,.dead)):=by
 unfold sW;split
 .split
  .split
   .rename_i q hp;left;exact bj (p:=q.1) (r:=q.2) hp
   .right;rfl
  .right;rfl
 .split
  .left;exact h
  .split
   .rename_i q hp;left;have:=(lV (q:=q.1) (r:=q.2) hp).2;grind
   grind
 grind
theorem xX:∀ {mem:Mem} {t:TypeId} {k:Nat} {r:Nat×bo},zZ mem t k=some r->k<=r.1/\mem[r.1-k]?=some r.2
 | [],_,_,_,h=>by trivial
 | s::m,t,k,r,h=>by
  have step:∀ {r},zZ m t (k+1)=some r->k<=r.1/\(s::m)[r.1-k]?=some r.2:=fun {r} h=>by
   obtain⟨h1,b⟩:=xX h
   grind
  cases s with
  | bc a l T =>
   simp only[zZ]at h
   grind
  | _=>exact step h
theorem yz (args:List TV) (mem:Mem) (i:Nat):mem[(yy args mem i).1]?=some (yy args mem i).2\/(yy args mem i=(mem.length,.dead)):=by
 unfold yy;by_cases a:7000000<=i
 .rw[ab9 a];cases hp:zZ mem (i-7000000) 0 with
  | some r=>left;have:=(xX hp).2;grind
  | none=>right;rfl
 rw[aa8 a];by_cases b:6000000<=i
 .rw[ab9 b];cases hp:mem[i-6000000]? with
  | some r=>grind
  | none=>right;rfl
 rw[aa8 b];split
 .split
  .split
   .split
    .split
     .rename_i r hp;left;exact bj (p:=r.1) (r:=r.2) hp
     .right;rfl
    .right;rfl
   .split
    .rename_i r hp;left;exact bj (p:=r.1) (r:=r.2) hp
    .right;rfl
   .right;rfl
  .right;rfl
 split
 .split
  .split
   .split
    .rename_i r hp;exact tU (bj (p:=r.1) (r:=r.2) hp)
    .right;rfl
   .right;rfl
  .right;rfl
 split
 .split
  .split
   .rename_i r hp;exact tU (bj (p:=r.1) (r:=r.2) hp)
   .right;rfl
  .right;rfl
 split
 .split
  .rename_i r hp;left;exact bj (p:=r.1) (r:=r.2) hp
  .right;rfl
 split
 .split
  .split
   .split
    .rename_i r hp;left;exact bj (p:=r.1) (r:=r.2) hp
    .right;rfl
   .right;rfl
  .right;rfl
 split
 .split
  .split
   .split
    .rename_i r hp;left;exact bj (p:=r.1) (r:=r.2) hp
    .right;rfl
   .right;rfl
  .right;rfl
 split
 .split
  .split
   .split
    .split
     .rename_i r hp;left;exact bj (p:=r.1) (r:=r.2) hp
     .right;rfl
    .right;rfl
   .rename_i r _ hp;left;exact bj (p:=r.1) (r:=r.2) hp
   .right;rfl
  .right;rfl
 split
 .split
  .split
   .split
    .rename_i r hp;left;exact bj (p:=r.1) (r:=r.2) hp
    .right;rfl
   .right;rfl
  .right;rfl
 split
 .split
  .rename_i r hp;left;have:=(lV (q:=r.1) (r:=r.2) hp).2;grind
  .right;rfl
 .split
  .split
   .rename_i r hp;left;exact bj (p:=r.1) (r:=r.2) hp
   .right;rfl
  .right;rfl
theorem FB {α β:Type} {f:α->Option β} : ∀ {l:List α} {m:List β},iN (l.map f)=some m->m.length=l.length/\∀ x∈m,∃ y∈l,f y=some x:=by
 intro l m h;obtain⟨h1,a⟩:=np h;refine⟨by grind,fun x hx=>?_⟩;obtain⟨j,b⟩:=acG hx
 grind
theorem I9 {ps:List (Nat×bo)} (hn:(ps.map (·.1)).Nodup) {q:Nat×bo} (a:q∈ps):ps.find? (fun x=>x.1==q.1)=some q:=by
 induction ps with
 | nil=>cases a
 | cons x l ih =>
  grind
def FM (aj:∀ s∈C.Γ,s.OK P) (hA:Rel S w0 J st a w) (hu:st.upto st.nv=true) {f:FuncId} (h:Pu C.Γ st f args d=some R) (hn:R.need.holds C ms J)
 {K:Act->World->Prop} (hK:Fin S w0 C J st a d R K):Calls P f (args.map (TV.ev J)).toArray w fun e w'=>∃ v,e=.returned v/\K (a.put d v) w':=by
 unfold Pu at h;split at h
 .rename_i j hj;split at h
  .rename_i s hs;split at h
   .rename_i own aa;simp only at h;split at h
    .rename_i G;cases h;simp only[aaM,aas,acd,ad0]at G;obtain⟨G,ak⟩:=G;have hf:s.fn=f:=by
      have:=List.findIdx?_eq_some_iff_getElem.1 hj;obtain⟨N,hp,_⟩:=this;rw[aad N]at hs;cases hs;simpa using hp
     obtain⟨hlen,ab⟩:=FB aa;have hm:=hA.toMRel;have g:∀ q∈own,st.mem[q.1]?=some q.2/\q.2.own=true:=fun q c=>by
      obtain⟨y,_,hy⟩:=ab q c;exact E2 hy
     have n:∀ (i:Nat) q,own[i]?=some q->st.mem[q.1]?=some q.2/\q.2.own=true:=fun i q c=>g q (aah c);have al:∀ (i k:Nat) q q',i≠k->own[i]?=some q->own[k]?=some q'->q.1≠q'.1:=by
      intro i k q q' an hi hk e;have h1:(own.map (·.1))[i]?=some q.1:=by rw[abl,hi];rfl
      have h2:(own.map (·.1))[k]?=some q.1:=by rw[abl,hk,e];rfl
      exact an ((List.getElem?_inj (aaG.1 h1).1 G).1 (h1.trans h2.symm))
     let Hs:=own.map (fun q=>q.2.hl J)
     let Rs:=(s.rd.map (yy args st.mem)).map (fun q=>q.2.hl J)
     have hn:s.pre (args.map (TV.ev J)) Hs Rs:=by
      have hn:(X.call j st.nv args (own.map (·.2)) ((s.rd.map (yy args st.mem)).map (·.2))).pre C J:=hn;simp only[X.pre,hs]at hn;simpa [Hs,Rs,agx] using hn
     have I:=aj s (aah hs) w (args.map (TV.ev J)) Hs Rs (by simp [Hs,hlen]) (by simp [Rs])
      (fun H O=>by obtain⟨q,c,rfl⟩:=acw.1 O;exact hm.sub _ (aah (g q c).1))
      (fun H O=>by
       obtain⟨q,c,rfl⟩:=acw.1 O;obtain⟨i,_,rfl⟩:=acw.1 c;rcases yz args st.mem i with h | h
       .exact hm.sub _ (aah h)
       .rw[h];intro b o hb;cases hb)
      (fun p q H K ao hp c=>by
       simp only[Hs,abl,aaH]at hp c;obtain⟨x,hx,rfl⟩:=hp;obtain⟨y,hy,rfl⟩:=c;exact hm.bq _ _ _ _ (al p q x y ao hx hy) (n p x hx).1 (n q y hy).1 (n p x hx).2)
      (fun H O K aq=>by
       obtain⟨q,c,rfl⟩:=acw.1 O;obtain⟨r,hr,rfl⟩:=acw.1 aq;obtain⟨i,hi,rfl⟩:=acw.1 hr;rcases yz args st.mem i with h | h
       .refine hm.bq _ _ _ _ (fun e=>?_) (g q c).1 h (g q c).2;have:=ak _ hr;rw[<-e]at this;have hc:(own.map (·.1)).contains q.1=true:=afy.2 (agQ c);rw[hc]at this;cases this
       .rw[h];rintro b ⟨_,y⟩;cases y)
      hn
     rw[hf]at I;refine I.mono fun e w' ⟨r,Hs',F,he,W,A,hpost⟩=>⟨_,he,?_⟩;have ax:Hs'.length=own.length:=by rw[A.len];simp [Hs]
     let J':=J.shift r st.nv (fun k=>if k<own.length then Hs'.getD k Hl.none else F)
     have hg:ai st.nv J J':=rV _ _ _ _;have eh:∀ k,k<own.length->J'.h (st.nv+k)=Hs'.getD k Hl.none:=fun k hk=>by rw[Mk];exact ab9 hk
     have eF:J'.h (st.nv+own.length)=F:=by rw[Mk];exact aa8 ah
     have hnew:newHs J' st.nv own.length=Hs':=by
      apply ack;intro k;unfold newHs;rw[abl];by_cases hk:k<own.length
      .rw[acf hk];simp only[acr];rw[eh k hk,abv,aad ah];rfl
      .rw[abA (by simp;omega),abA ah];rfl
     have ad:(jO st.nv s.res).ev J'=(jO 0 s.res).ev r:=I0 _ _ _ _ _
     let u:=own.zipIdx.map fun q=>(q.1.1,q.1.2.qs (st.nv+q.2))
     have Q:u.map (·.1)=own.map (·.1):=by
      simp only[u,adv];have:((fun(x:Nat×bo)=>x.1)∘fun(q:(Nat×bo)×Nat)=>(q.1.1,q.1.2.qs (st.nv+q.2)))=(fun(x:Nat×bo)=>x.1)∘Prod.fst:=by funext q;rfl
      rw[this,<-adv]
      congr 1
      exact List.zipIdx_map_fst 0 own
     have Y:∀ (k:Nat) q,own[k]?=some q->(rU st.mem u)[q.1]?=some (q.2.qs (st.nv+k)):=by
      intro k q c;have ae:(q.1,q.2.qs (st.nv+k))∈u:=acw.2 ⟨(q,k),List.mk_mem_zipIdx_iff_getElem?.2 c,rfl⟩;rw[BX,(n k q c).1];have:=I9 (by rw[Q];exact G) ae;simp only at this;simp [this]
     have hkeep:∀ (p:Nat),(∀ q∈own,q.1≠p)->(rU st.mem u)[p]?=st.mem[p]?:=by
      intro p hp;rw[BX];have:u.find? (fun x=>x.1==p)=none:=by
       rw[afL];intro x hx;have:x.1∈own.map (·.1):=by rw[<-Q];exact agQ hx
       obtain⟨q,c,e⟩:=acw.1 this;simpa [<-e] using hp q c
      rw[this];simp
     have m:∀ (k:Nat) q,own[k]?=some q->(q.2.qs (st.nv+k)).hl J'=Hs'.getD k Hl.none/\(q.2.qs (st.nv+k)).pos J':=by
      intro k q c;have hk:k<own.length:=(aaG.1 c).1;have:=(n k q c).2;cases hr:q.2 with
      | bc b l T=>exact⟨eh k hk,zzT⟩
      | hp kk vers tags links=>exact⟨eh k hk,zzT⟩
      | ro kk tags any=>rw[hr]at this;cases this
      | dead=>exact⟨eh k hk,zzT⟩
     have t:∀ k,k<own.length->Hs'.getD k Hl.none∈Hs':=fun k hk=>by
      rw[abv,aad ah];exact acK _
     have L:∀ k,k<own.length->Hs'[k]?=some (Hs'.getD k Hl.none):=fun k hk=>by
      rw[abv,aad ah];rfl
     have hU:∀ b,(∃ H∈Hs,H.mem b)->∃ q∈own,(q.2.hl J).mem b:=fun b ⟨H,O,hb⟩=>by
      obtain⟨q,c,rfl⟩:=acw.1 O;exact⟨q,c,hb⟩
     have place:∀ (p:Nat) x,(rU st.mem u++(if aL 0 s.res=[]then []else [bo.hp (st.nv+own.length) [] (aL st.nv s.res) (oB args s.links)]))[p]?=some x ->
      (∃ (k:Nat) (q:Nat×bo),own[k]?=some q/\q.1=p/\x=q.2.qs (st.nv+k))\/((∀ q∈own,q.1≠p)/\p<st.mem.length/\st.mem[p]?=some x) \/
      (p=st.mem.length/\aL 0 s.res≠[]/\x=bo.hp (st.nv+own.length) [] (aL st.nv s.res) (oB args s.links)):=by
      intro p x hp;rw[agk]at hp;split at hp
      .rename_i N;by_cases c:∃ q∈own,q.1=p
       .obtain⟨q,c,rfl⟩:=c;obtain⟨k,hk⟩:=acG c;rw[Y k q hk]at hp;exact Or.inl ⟨k,q,hk,rfl,(acE hp).symm⟩
       .have B:∀ q∈own,q.1≠p:=fun q hm e=>c ⟨q,hm,e⟩;rw[hkeep p B]at hp;rw[tW]at N;exact Or.inr (Or.inl ⟨B,N,hp⟩)
      .rename_i ar;rw[tW]at hp ar;split at hp
       .simp at hp
       .rename_i hr;have:p-st.mem.length=0:=by
         rcases afr (p-st.mem.length)with h0 | h0
         .exact h0
         .rw[abA (by simp;omega)]at hp;cases hp
        rw[this]at hp;simp only[acF,aa3]at hp;exact Or.inr (Or.inr ⟨ah,hr,hp.symm⟩)
     have ag:∀ q∈own,q.1<st.mem.length:=fun q c=>(aaG.1 (g q c).1).1;refine hK J' _ w' hg ⟨?_,rfl⟩ (Rel.step hA hu hg ?_ _ _ _ _ (fun y hy=>by cases hy;exact ad.symm))
     .show X.rel C J J' (.call j st.nv args (own.map (·.2)) ((s.rd.map (yy args st.mem)).map (·.2)));simp only[X.rel,hs];refine⟨F,?_,fun _=>by rw[aca];exact eF,(tK J r st.nv _ s.res 0).2 W⟩;rw[ad,aca,hnew];simpa [Hs,Rs,agx] using hpost
     .refine hm.pE (fun b=>∃ H∈Hs,H.mem b) (fun p=>(∃ q∈own,q.1=p)\/p=st.mem.length) (fun b hb=>?_) A.os A.tape A.output A.size (fun b hl hb=>A.block b hl (fun H O hm=>hb ⟨H,O,hm⟩)) ?_ ?_ ?_
      .obtain⟨q,c,hb⟩:=hU b hb;exact⟨q.2,aah (g q c).1,(g q c).2,hb⟩
      .intro p x hp D;rcases place p x hp with ⟨k,q,hk,rfl,_⟩ | ⟨h1,h2,h3⟩ | ⟨h1,_⟩
       .exact absurd (Or.inl ⟨q,aah hk,rfl⟩) D
       .refine⟨h3,Mem.bF hg (St.cR hu) x (aah h3),fun b hb au=>?_⟩;obtain⟨q,c,av⟩:=hU b au;exact hm.bq _ _ _ _ (h1 q c) (g q c).1 h3 (g q c).2 b ⟨av,hb⟩
       .exact absurd (Or.inr h1) D
      .intro p x hp D;rcases place p x hp with ⟨k,q,hk,rfl,rfl⟩ | ⟨h1,h2,h3⟩ | ⟨h1,h2,rfl⟩
       .have ot:=(aaG.1 hk).1;obtain⟨e1,e2⟩:=m k q hk;rw[e1];exact⟨⟨A.sub _ (t k ot),e2⟩,fun b hb=>A.dom _ (t k ot) b hb⟩
       .rcases D with ⟨q,c,e⟩ | e
        .exact absurd e (h1 q c)
        .omega
       .have e:(bo.hp (st.nv+own.length) [] (aL st.nv s.res) (oB args s.links)).hl J'=F:=eF;rw[e];exact⟨⟨A.fsub,zzT⟩,fun b hb=>A.fdom b hb⟩
      .intro p p' x y U D V hp af _;rcases place p x hp with ⟨k,q,hk,rfl,rfl⟩ | ⟨h1,h2,h3⟩ | ⟨h1,h2,rfl⟩
       .have ot:=(aaG.1 hk).1;rw[(m k q hk).1];rcases place p' y af with ⟨k',q',z,rfl,rfl⟩ | ⟨E,Z,aw⟩ | ⟨E,Z,rfl⟩
        .have M:=(aaG.1 z).1;rw[(m k' q' z).1];exact A.bq k k' _ _ (fun e=>by subst e;rw[hk]at z;cases z;exact U rfl) (L k ot) (L k' M)
        .rcases V with ⟨q',B,e⟩ | e
         .exact absurd e (E q' B)
         .omega
        .have e:(bo.hp (st.nv+own.length) [] (aL st.nv s.res) (oB args s.links)).hl J'=F:=eF;rw[e];exact A.fdis _ (t k ot)
       .rcases D with ⟨q,c,e⟩ | e
        .exact absurd e (h1 q c)
        .omega
       .have e:(bo.hp (st.nv+own.length) [] (aL st.nv s.res) (oB args s.links)).hl J'=F:=eF;rw[e];rcases place p' y af with ⟨k',q',z,rfl,rfl⟩ | ⟨E,Z,aw⟩ | ⟨E,Z,rfl⟩
        .have M:=(aaG.1 z).1;rw[(m k' q' z).1];exact Hl.kE (A.fdis _ (t k' M))
        .rcases V with ⟨q',B,e⟩ | e
         .exact absurd e (E q' B)
         .omega
        .exact absurd (h1.trans E.symm) U
    .cases h
   .cases h
  .cases h
 .cases h
end
section
variable {P:Program} {C:Ctx} {ms:Nat->Nat} {S:Nat->Prop} {w0:World} {J J':Env} {st:St} {mem mem':Mem} {a:Act} {w w':World} {W:Za P}
def KM (v:Value):∃ q:Env,((nV v).cv 0).ev q=v:=by
 let e0:Env:=⟨fun _=>0,fun _=>false,fun _=>.empty,fun _=>.tuple #[],fun _=>Hl.none⟩
 cases v with
 | int k n=>exact⟨{e0 with i:=fun _=>n},rfl⟩
 | bool b=>exact⟨{e0 with b:=fun _=>b},rfl⟩
 | string s=>exact⟨{e0 with s:=fun _=>s},rfl⟩
 | pointer p =>
  obtain⟨x,y,h,_⟩:=td p;exact⟨{e0 with i:=fun k=>if k=0 then x else y},by simp [nV,Ck.cv,CV.ev,ar,h]⟩
 | slice p n c =>
  obtain⟨x,y,h,_⟩:=td p;exact⟨{e0 with i:=fun k=>if k=0 then x else if k=1 then y else if k=2 then n else c},by simp [nV,Ck.cv,CV.ev,ar,h]⟩
 | map r =>
  cases r with
  | none=>exact⟨{e0 with i:=fun _=> -1},rfl⟩
  | some r =>
   refine⟨{e0 with i:=fun _=>r},?_⟩;trivial
 | _=>exact⟨⟨fun _=>0,fun _=>false,fun _=>.empty,fun _=>_,fun _=>Hl.none⟩,rfl⟩
def KN (k:Ck) (n:Nat):(k.cv n).upto (n+k.len)=true:=by
 cases k<;>simp [Ck.cv,CV.upto,E.upto,Ck.len]
theorem cV:∀ (ks:List Ck) (n:Nat),(aj n ks).all (·.upto (n+aQ ks))=true
 | [],_=>rfl
 | k::ks,n=>by
  simp only[aj,agC,aaM];have e:n+aQ (k::ks)=n+k.len+aQ ks:=by simp [aQ];omega
  rw[e];refine⟨?_,cV ks (n+k.len)⟩;have:∀ m,n+k.len<=m->(k.cv n).upto m=true:=by
   intro m hm;cases k<;>simp [Ck.cv,CV.upto,E.upto,Ck.len]at hm ⊢<;>omega
  grind
theorem Pz:∀ (vs:List Value),∃ q:Env,(aj 0 (vs.map nV)).map (CV.ev q)=vs
 | []=>⟨⟨fun _=>0,fun _=>false,fun _=>.empty,fun _=>.tuple #[],fun _=>Hl.none⟩,rfl⟩
 | v::vs=>by
  obtain⟨q1,h1⟩:=KM v;obtain⟨q2,a⟩:=Pz vs;refine⟨q1.shift q2 (nV v).len (fun _=>Hl.none),?_⟩;simp only[abW,aj,aco]
  congr 1
  .rw[CV.bF (rV q1 q2 (nV v).len _) _ (by have:=KN (nV v) 0;grind)];exact h1
  .have:=ny q1 q2 (nV v).len (fun _=>Hl.none) (vs.map nV) 0
   grind
def Ov {ks:List Ck} (h:oJ ks agg v):∃ q:Env,(mN 0 ks agg).ev q=v:=by
 unfold oJ at h;unfold mN;split at h
 .rename_i b;obtain⟨cs,rfl,hk⟩:=h;obtain⟨q,a⟩:=Pz cs.toList;rw[hk]at a;exact⟨q,by rw[ab9 b];simp only[SV.ev,a]⟩
 .rename_i b;obtain⟨k,rfl,rfl⟩:=h;obtain⟨q,a⟩:=KM v;exact⟨q,by rw[aa8 b];exact a⟩
def Ew (J r:Env) (n:Nat) (hs:Nat->Hl) (ks:List Ck) (agg:Bool):(mN n ks agg).ev (J.shift r n hs)=(mN 0 ks agg).ev r:=by
 have h1:=ny J r n hs ks 0;rw[acJ]at h1;unfold mN;split
 .simp only[SV.ev,h1]
 .split
  .rename_i k;exact Af J r n hs 0 k
  .simp only[SV.ev,h1]
def Ev {n:Nat} {ks:List Ck} (hg:ai (n+aQ ks) J J'):(mN n ks agg).ev J'=(mN n ks agg).ev J:=by
 have h1:=CV.gN hg _ (cV ks n);unfold mN;split
 .simp only[SV.ev,h1]
 .split
  .rename_i k;refine CV.bF hg _ ?_;have:=KN k n;trivial
  .simp only[SV.ev,h1]
theorem findNow_spec {kind:TypeDesc} {key:Value} : ∀ (l:List MapEntry) (i0 i:Nat) (v:Value),Instr.findNow kind key l i0=some (some (i,v))->i0<=i/\∃ e,l[i-i0]?=some e/\e.val=v/\Instr.sameNow kind key e.key=some true
 | [],_,_,_,h=>by simp [Instr.findNow]at h
 | e::l,i0,i,v,h=>by
  unfold Instr.findNow at h;split at h
  .grind
  .obtain⟨h1,a,b,c,d⟩:=findNow_spec l (i0+1) i v h
   grind
  .cases h
theorem AY (h:CW P t=some kd):(∃ k,kd=.int k/\P.underlying t=some (.int k))\/(kd=.str/\P.underlying t=some .string):=by
 unfold CW at h
 grind
def vp (h:CW P t=some kd) (e:Bool) (v:Value):(Instr.checkKey e 10000 t v).run P w=.ok () w:=by
 unfold Instr.checkKey;rcases AY h with ⟨k,_,hu⟩ | ⟨_,hu⟩
 .simp only[Sem.run_bind,run_underlying hu,Result.andThen_ok];trivial
 .simp only[Sem.run_bind,run_underlying hu,Result.andThen_ok];trivial
def yg (h:CW P t=some kd) {r:Option (Nat×Value)} (hf:nD kd key es=some r):(Instr.findKey t key es.toList).run P w=.ok r w:=by
 unfold Instr.findKey;rcases AY h with ⟨k,rfl,hu⟩ | ⟨rfl,hu⟩
 .simp only[Sem.run_bind,run_underlying hu,Result.andThen_ok];simp only[nD]at hf;rw[hf];rfl
 .simp only[Sem.run_bind,run_underlying hu,Result.andThen_ok];simp only[nD]at hf;rw[hf];rfl
def um {r:Nat} (h:w.heap[r]?=some (.map es c)):(getObj r).run P w=.ok (.map es c) w:=by
 simp [getObj,Sem.run,h]
def uN {r:Nat} (h:w.heap[r]?=some (.map es c)):(setObj r o).run P w=.ok () {w with heap:=w.heap.setIfInBounds r o}:=by
 simp [setObj,Sem.run,h]
theorem yE {kind:TypeDesc} (hk:(∃ k,kd=.int k/\kind=.int k)\/(kd=.str/\kind=.string)) (hs:Instr.sameNow kind key old=some true):Instr.sameBits 10000 old key=true:=by
 rcases hk with ⟨k,rfl,rfl⟩ | ⟨rfl,rfl⟩
 .unfold Instr.sameNow at hs;split at hs
  .split at hs
   .rename_i k1 a k2 b hk;simp only[aa3,af4]at hs;subst hk;subst hs;simp [Instr.sameBits]
   .cases hs
  .grind
  .grind
  .cases hs
 .unfold Instr.sameNow at hs;split at hs
  .grind
  .simp only[aa3]at hs;rename_i a b _;rw[II,aas]at hs;subst hs;simp [Instr.sameBits,II]
  .grind
  .cases hs
def Hl.J9 {h:Hl} (hx:h.mem x):(h.setObj x o).mem b↔h.mem b:=by
 unfold Hl.mem Hl.setObj;split
 .rename_i e;subst e;exact⟨fun _=>hx,fun _=>rfl⟩
 .rfl
theorem Ka {h:Hl} (hs:h.sub w) (hx:h.mem x):(h.setObj x o).sub {w with heap:=w.heap.setIfInBounds x o}:=by
 intro b o' hb;unfold Hl.setObj at hb;have a:=Hl.sub_lt hs hx;split at hb
 .grind
 .rename_i e;show(w.heap.setIfInBounds x o)[b]?=_;rw[afo (fun h=>e h.symm)];exact hs b o' hb
def Mj (hA:Rel S w0 J st a w) (hu:st.upto st.nv=true) {vers:List Nat} {tags links:List E} (hp:st.mem[p]?=some (.hp h vers tags links)) (hx:(J.h h).mem x) :
 ai st.nv J (J.mY st.nv ((J.h h).setObj x o))/\MRel S w0 (J.mY st.nv ((J.h h).setObj x o)) (st.mem.set p (.hp st.nv (h::vers) tags links)) {w with heap:=w.heap.setIfInBounds x o}:=by
 have hg:ai st.nv J (J.mY st.nv ((J.h h).setObj x o)):=fh _ _ _ (ab8 _);have e:(J.mY st.nv ((J.h h).setObj x o)).h st.nv=(J.h h).setObj x o:=gu _ _ _;have hsub:(J.h h).sub w:=hA.sub _ (aah hp);refine⟨hg,hA.toMRel.set hp rfl rfl rfl rfl aC (fun b _ hn=>?_) (Mem.bF hg (St.cR hu)) ?_ trivial ?_⟩
 .show(w.heap.setIfInBounds x o)[b]?=_;rw[afo (fun e=>hn (by subst e;exact hx))]
 .show((J.mY st.nv ((J.h h).setObj x o)).h st.nv).sub _;rw[e];exact Ka hsub hx
 .intro b hb;have hb:((J.mY st.nv ((J.h h).setObj x o)).h st.nv).mem b:=hb;rw[e]at hb;exact Or.inl ((Hl.J9 hx).1 hb)
theorem pV (hA:Rel S w0 J st a w) (hu:st.upto st.nv=true) {o:Oper} (h:NB P st o.op o.dst=some R) (hn:R.need.holds C ms J)
 {K:Act->World->Prop} {Q:Exit->Act->World->Prop} (hK:Fin S w0 C J st a o.dst R K):W.j o a w K Q:=by
 unfold NB at h;split at h
 .rename_i t f;split at h
  .rename_i M N aa;cases h
   let J':=(J.dw st.nv w.heap.size).mY st.nv (Hl.one w.heap.size (.map #[] 0))
   have hg:ai st.nv J J':=(bI _ _ _ (ab8 _)).trans (fh _ _ _ (ab8 _));have e1:J'.i st.nv=w.heap.size:=by show(J.dw st.nv w.heap.size).i st.nv=_;rw[oq]
   have X:J'.h st.nv=Hl.one w.heap.size (.map #[] 0):=gu _ _ _;have c:(execOp a.eval o).run P w=.ok (.value (.map (some w.heap.size))) (w.alloc (.map #[] 0)):=by
    unfold execOp;rw[f];simp [Instr.makeMap,Sem.run_bind]
   refine fk c (hK J' _ _ hg ⟨⟨by grind,by grind⟩,rfl⟩ (Rel.step hA hu hg ?_ _ _ _ _ ?_))
   .refine hA.toMRel.add rfl rfl rfl aC (fun b hb=>RowKit.Below.heap_alloc w _ b hb) (Mem.bF hg (St.cR hu)) ?_ trivial ?_
    .show(J'.h st.nv).sub _;rw[X];intro b o hb;obtain⟨rfl,rfl⟩:=Hl.oh hb;exact heap_alloc_new w _
    .intro b hb;have hb:(J'.h st.nv).mem b:=hb;rw[X]at hb;rw[Hl.cn.1 hb];grind
   .intro y hy;cases hy;simp only[TV.ev,SV.ev,CV.ev,ar,e1]
    grind
  .cases h
 .rename_i t m k ok f;split at h
  .rename_i M N n;split at h
   .rename_i kd z agg x key dz hz Y hm hk;split at h
    .rename_i hh zs O T;by_cases g:(QB kd key&&(agg==isAgg z)&&(agg||(z.cells.toList.map nV).length==1))=true
     .rw[ab9 g]at h;have h:=acE h;subst h;simp only[aaM]at g;obtain⟨⟨F,hag⟩,hlen⟩:=g;have hsub:=Aw hA.toMRel O;obtain⟨hx,es,clock,r,d,hf,L⟩:=hn;have em:=aH hA hm;have G:=aH hA hk;simp only[TV.ev,SV.ev,CV.ev]at em;simp only[TV.ev,SV.ev]at G;rw[aa8 ah]at em;have hw:=hsub _ _ d;have ab:zs.ev J=z:=by
       have:=Ls J z;rw[T]at this;exact this
      let v:Value:=match r with | some (_,v)=>v | none=>z
      have U:oJ (z.cells.toList.map nV) agg v:=by
       cases r with
       | some p=>grind
       | none =>
        show oJ _ _ z;unfold oJ;cases agg with
        | true =>
         rw[ab9 rfl];cases z with
         | agg cs=>exact⟨cs,rfl,rfl⟩
         | _=>trivial
        | false =>
         rw[aa8 aC];cases z with
         | agg cs=>trivial
         | _=>exact⟨_,rfl,rfl⟩
      obtain⟨q,hq⟩:=Ov U
      let s:=J.shift q st.nv (fun _=>Hl.none)
      let J':=s.Ot (st.nv+aQ (z.cells.toList.map nV)) r.isSome
      have V:ai st.nv J s:=rV _ _ _ _;have H:ai (st.nv+aQ (z.cells.toList.map nV)) s J':=zR _ _ _ (ab8 _);have hg:ai st.nv J J':=V.tr H;have ev:(mN st.nv (z.cells.toList.map nV) agg).ev J'=v:=by
       rw[Ev H,Ew];exact hq
      have eb:J'.b (st.nv+aQ (z.cells.toList.map nV))=r.isSome:=by simp [J',Env.Ot]
      have c:(execOp a.eval o).run P w=.ok (.value (if ok then .tuple #[v,.bool r.isSome]else v)) w:=by
       unfold execOp;rw[f];simp only[Sem.run_bind,em,G,Instr.lookup,run_underlying n,Result.andThen_ok,um hw,Sem.run_pure,vp dz,yg dz hf];cases r with
       | some p=>trivial
       | none=>simp only[Sem.run_pure,Result.andThen_ok,Sem.run_bind,mq hz];rfl
      refine fk c (hK J' _ _ hg ⟨?_,rfl⟩ (Rel.step hA hu hg (hA.toMRel.bF (Mem.bF hg (St.cR hu))) _ _ _ _ ?_))
      .intro es' clock' r' h1 h2
       grind
      .intro y hy;cases hy;cases ok with
       | true =>
        have e2:(SV.one (CV.bool (.bvar (st.nv+aQ (z.cells.toList.map nV))))).ev J'=.bool r.isSome:=by show Value.bool (J'.b _)=_;rw[eb]
        simp only[afm,TV.ev,abW,acI,ev,e2]
       | false=>simp only[acQ,afw,TV.ev,ev]
     grind
    .cases h
   .cases h
  .cases h
 .rename_i t m k v f;split at h
  .rename_i M N n;split at h
   .rename_i kd x key vs dz hm hk hv;split at h
    .rename_i F;split at h
     .rename_i p hh vers tags links u;cases h;have hp:=ja u;obtain⟨hx,es,clock,r,d,hf⟩:=hn;have em:=aH hA hm;have G:=aH hA hk;have ev:=aH hA hv;simp only[TV.ev,SV.ev,CV.ev]at em;simp only[TV.ev,SV.ev]at G;simp only[TV.ev]at ev;rw[aa8 ah]at em;have hsub:(J.h hh).sub w:=hA.sub _ (aah hp);have hw:=hsub _ _ d;have A:(J.h hh).mem (aw J x).toNat:=by unfold Hl.mem;rw[d];rfl
      obtain⟨hg,B⟩:=Mj (o:=uF kd (key.ev J) (vs.ev J) es clock) hA hu hp A;have c:(execOp a.eval o).run P w=.ok .skip {w with heap:=w.heap.setIfInBounds (aw J x).toNat (uF kd (key.ev J) (vs.ev J) es clock)}:=by
       unfold execOp;rw[f];simp only[Sem.run_bind,em,G,ev,Instr.mapUpdate,run_underlying n,Result.andThen_ok,um hw,vp dz,yg dz hf];cases r with
       | some q =>
        obtain⟨i,v0⟩:=q;have D:Instr.sameBits 10000 (((es[i]?).map (·.key)).getD (key.ev J)) (key.ev J)=true:=by
         rcases AY dz with ⟨kk,rfl,_⟩ | ⟨rfl,_⟩
         .obtain⟨_,e,he,_,hs⟩:=findNow_spec _ _ _ _ hf;rw[agI]at he;have E:es[i]?=some e:=by simpa using he
          rw[E];exact yE (Or.inl ⟨kk,rfl,rfl⟩) hs
         .obtain⟨_,e,he,_,hs⟩:=findNow_spec _ _ _ _ hf;rw[agI]at he;have E:es[i]?=some e:=by simpa using he
          rw[E];exact yE (Or.inr ⟨rfl,rfl⟩) hs
        simp only[Instr.keyThatStays,D,afm,Sem.run_bind,Sem.run_pure,Result.andThen_ok,uN hw,uF,hf]
       | none=>simp only[uN hw,uF,hf,Result.andThen_ok,Sem.run_pure]
      refine Ch c (hK _ _ _ hg ⟨?_,rfl⟩ (Rel.step hA hu hg B _ _ _ _ (fun y hy=>by cases hy)));intro es' clock' h1;rw[d]at h1;cases h1;exact gu _ _ _
     .cases h
    .cases h
   .cases h
  .cases h
 .rename_i args ats f;split at h
  .rename_i m t Z I;split at h
   .rename_i M N x n hm;split at h
    .rename_i p hh vers tags links u;cases h;have hp:=ja u;obtain⟨hx,es,clock,d⟩:=hn;have em:=aH hA hm;simp only[TV.ev,SV.ev,CV.ev]at em;rw[aa8 ah]at em;have hsub:(J.h hh).sub w:=hA.sub _ (aah hp);have hw:=hsub _ _ d;have A:(J.h hh).mem (aw J x).toNat:=by unfold Hl.mem;rw[d];rfl
     obtain⟨hg,B⟩:=Mj (o:=.map #[] clock) hA hu hp A;have ea:args.map a.eval=#[.map (some (aw J x).toNat)]:=by
      obtain⟨l⟩:=args;simp only at Z;subst Z;simp [em]
     have et:ats=#[t]:=by obtain⟨l⟩:=ats;simp only at I;rw[I]
     have c:(execOp a.eval o).run P w=.ok (.value (.tuple #[])) {w with heap:=w.heap.setIfInBounds (aw J x).toNat (.map #[] clock)}:=by
      obtain⟨dst,op,ty,pos,af,gd⟩:=o;simp only at f;subst f;rw[BigFrame.execOp_builtin,ea,et];unfold builtin;have e5:(Builtin.clear_ #[t] ty #[Value.map (some (aw J x).toNat)]).run P w=.ok (.tuple #[]) {w with heap:=w.heap.setIfInBounds (aw J x).toNat (.map #[] clock)}:=by
       unfold Builtin.clear_;simp [run_underlying n,um hw,uN hw,Sem.run_bind]
      rw[Sem.run_bind,e5];rfl
     refine fk c (hK _ _ _ hg ⟨?_,rfl⟩ (Rel.step hA hu hg B _ _ _ _ (fun y hy=>by cases hy)));intro es' clock' h1;rw[d]at h1;cases h1;exact gu _ _ _
    .cases h
   .cases h
  .cases h
 .cases h
end
section
variable {P:Program} {C:Ctx} {ms:Nat->Nat} {S:Nat->Prop} {w0:World} {J:Env} {st:St} {mem:Mem} {a:Act} {w:World}
theorem Lf (hA:MRel S w0 J mem w) {x:E} (hf:(Ed mem x).bind (fun r=>r.2.hk)=some h):(J.h h).sub w:=by
 cases a:Ed mem x with
 | none=>grind
 | some r =>
  rw[a]at hf;obtain⟨q,r⟩:=r;have hp:=ja a;have hs:=hA.sub _ (aah hp);cases r<;>simp [bo.hk]at hf
  .subst hf;exact hs
  .subst hf;exact hs
theorem vn {h:Hl} {y n:Nat} (hb:bx h x y n=true) (b:j<n):∃ z,h.cell x (y+j)=some (.int .u8 z):=by
 unfold bx at hb;have:=acd.1 hb j (acv.2 b);cases a:h.cell x (y+j)with
 | none=>rw[a]at this;cases this
 | some v =>
  rw[a]at this;cases v<;>simp [bh]at this
  grind
def Pn (hA:MRel S w0 J mem w) {q:Nat} (d:mem[q]?=some (.bc b m T)) {c:CV} (a:m[j]?=some c):w.cell? ⟨(J.i b).toNat,j,none⟩=some (c.ev J):=by
 have:=hA.bc d;have e:j<m.length:=(aaG.1 a).1;simp [World.cell?,this,e,(aaG.1 a).2]
def Cs (hA:MRel S w0 J mem w) {n:E} (h:D9 P mem el p L yd n xs ys ls=some (k,src)) (hk:aY J k=true) (e:0<=aw J yd) (c:aw J yd+aw J n<=L) :
 (aw J xs= -1/\aw J ls=0)\/∃ b o,au (aw J xs) (aw J ys)=some ⟨b,o,none⟩/\∀ j:Nat,aw J yd<=j->(j:Int)<aw J yd+aw J n->∃ s,src j=some s/\w.cell? ⟨b,o+(j-(aw J yd).toNat),none⟩=some (s.ev J):=by
 unfold D9 at h;split at h
 .rename_i q m T l;split at h
  .cases h
  .rename_i r;have hx:∃ bs,xs=.var bs/\vv mem bs=some (q,m,T):=by
    cases xs<;>simp at l
    exact⟨_,rfl,l⟩
   obtain⟨bs,rfl,hf⟩:=hx;have hp:=gk hf;have a:0<=J.i bs:=hA.pos _ (aah hp);split at h
   .rename_i t;cases h;obtain⟨rfl,hl⟩:=t;refine Or.inr ⟨(J.i bs).toNat,(aw J yd).toNat,by rw[ar,av a],fun j h0 h1=>?_⟩;have d:j<m.length:=ah;refine⟨m[j],aad d,?_⟩;rw[show(aw J yd).toNat+(j-(aw J yd).toNat)=j by omega];exact Pn hA hp (aad d)
   .split at h
    .rename_i o o' _;split at h
     .rename_i f;cases h;simp only[aX,fc,aq,aas]at hk;rw[aq]at e c;refine Or.inr ⟨(J.i bs).toNat,o'.toNat,by rw[ar,aq,av a],fun j h0 h1=>?_⟩;rw[aq]at h0 h1 ⊢;have d:j-o.toNat+o'.toNat<m.length:=ah;refine⟨m[j-o.toNat+o'.toNat],by simp only;rw[ab9 ah,aad d],?_⟩;rw[aga o'.toNat];exact Pn hA hp (aad d)
     .cases h
    .cases h
 .split at h
  .rename_i o hh g;split at h
   .rename_i f;cases h;simp only[vg,fN,aN,aX,aq,aaM,aeM,aas,DT]at hk;rcases hk with hk | ⟨hx,hy,hb⟩
    .exact Or.inl ⟨aej hk.1,aej hk.2⟩
    have hx:=aej hx;refine Or.inr ⟨(aw J xs).toNat,(aw J ys).toNat,by rw[av hx],fun j h0 h1=>?_⟩;rw[aq]at h0 h1 ⊢;obtain⟨z,hz⟩:=vn hb (j:=j-o.toNat) ah;refine⟨_,by simp only;rw[ab9 ah],?_⟩;rw[Hl.gW (Lf hA g) hz];simp only[CV.ev,fi,hz,bO]
   .cases h
  .cases h
theorem D8 {n:E} (hn:aw J n<=aw J ld) (h:(j:Int)<aw J yd+aw J n):zm yd ld src j=src j:=by
 unfold zm;split
 .rw[aq]at h hn
  grind
 .rfl
def setRow_self {w:World} (h:w.heap[g]?=some (.cells cs T (0,0))):w.setRow g cs=w:=by
 have e:(w.setRow g cs).heap=w.heap:=by
  apply Array.ext_getElem?;intro k;by_cases hk:k=g
  .subst hk;rw[setRow_heap w _ _ cs T _ h,h]
  .exact setRow_other w _ _ _ hk
 show({w with heap:=(w.setRow g cs).heap} : World)=w;rw[e]
theorem run_copy_none (w:World) (dT e ty elem:TypeId) (a:Addr) (b d c:Nat) (hu:P.underlying dT=some (.slice elem)) (hs:((P.info? elem).map (·.size)).isSome=true) :
 (Builtin.copy_ #[dT,e] ty #[.slice (some a) b d,.slice none 0 c]).run P w=.ok (goInt 0) w:=by
 cases f:P.info? elem with
 | none=>grind
 | some i=>simp [Builtin.copy_,run_underlying hu,Builtin.lenOf,Builtin.firstCells,sizeOf,typeInfo,f,storeCells]
def x7 {n:E} : aY J (Ai yd n j)=decide (aw J yd<=j/\(j:Int)<aw J yd+aw J n):=by
 unfold Ai;rw[aN,aX,jw,aq,fc,Bool.decide_and]
def Kk (J:Env) (src:Option CV) (old:CV):Value:=match src with
 | some s=>s.ev J
 | none=>old.ev J
def Ah {c:E} {src:Option CV} {old x:CV} (h:qJ c src old=some x):x.ev J=if aY J c=true then Kk J src old else old.ev J:=by
 unfold qJ at h;cases src with
 | none=>cases h;simp [Kk]
 | some s =>
  simp only at h;split at h
  .split at h
   .rename_i a;cases h;subst a;trivial
   .split at h
    .rename_i a;cases h;subst a;simp [du]
    .rw[pX h];rfl
  .cases h
theorem qK {yd n:E} {src:Nat->Option CV} : ∀ (l:List CV) (j:Nat) (l':List CV),KS yd n src j l=some l'->l'.length=l.length/\∀ i c x,l[i]?=some c->l'[i]?=some x ->
 (∃ y,qJ (Ai yd n (j+i)) (src (j+i)) c=some y)/\x.ev J=if aY J (Ai yd n (j+i))=true then Kk J (src (j+i)) c else c.ev J
 | [],j,l',h=>by cases h;simp
 | c::l,j,l',h=>by
  unfold KS at h;split at h
  .rename_i x r h1 b;cases h;obtain⟨hl,ih⟩:=qK l (j+1) r b;refine⟨by simp [hl],fun i c' x' a hx=>?_⟩;cases i with
   | zero =>
    simp only[acF,aa3]at a hx;subst a;subst hx;exact⟨⟨_,h1⟩,Ah h1⟩
   | succ i =>
    grind
  .cases h
theorem Cy (w:World) (dT f ty elem:TypeId) (a b:Option Addr) (d e c:Nat) (hu:P.underlying dT=some (.slice elem)) (hs:((P.info? elem).map (·.size)).isSome=true) (sl:Nat) (h0:min sl d=0) :
 (Builtin.copy_ #[dT,f] ty #[.slice a d e,.slice b sl c]).run P w=.ok (goInt 0) w:=by
 cases g:P.info? elem with
 | none=>grind
 | some i =>
  have hl:∀ x:Addr,_:=fun x=>run_loadCells_list (P:=P) w x [] (fun j v h=>by simp at h);simp only[acO]at hl;cases a<;>cases b<;>simp [Builtin.copy_,run_underlying hu,Builtin.lenOf,Builtin.firstCells,sizeOf,typeInfo,g,storeCells,h0,hl]
theorem FT (hA:Rel S w0 J st a w) (hu:st.upto st.nv=true) (x:P.underlying t=some (.slice el)) (hsz:fj P el=some 1) {F cs:E} (h:PH P st el ad yd ld xs ys ls d=some R) (hn:R.need.holds C ms J) (hK:Fin S w0 C J st a d R K) :
 ∃ v' w',(Builtin.copy_ #[t,t'] ty #[TV.ev J (.sv (.one (.sl (.var ad) yd ld F))),TV.ev J (.sv (.one (.sl xs ys ls cs)))]).run P w=.ok v' w'/\K (a.put d v') w':=by
 unfold PH at h;split at h
 .rename_i p k vers tags links hh hf G;split at h
  .cases h;have hp:=ja hf;obtain⟨⟨hx,hy,hd,hs⟩,⟨c,T,H,N⟩,A⟩:X.pre C J (.cpy st.nv k (.var ad) yd ld hh xs ys ls):=hn;rw[ar]at hx H;have hsub:(J.h k).sub w:=hA.sub _ (aah hp);have l:(J.h hh).sub w:=Lf hA.toMRel G;have m:((P.info? el).map (·.size)).isSome=true:=by
    have:(P.info? el).map (·.size)=some 1:=by simpa [fj] using hsz
    rw[this];rfl
   obtain⟨vs,n⟩:∃ vs,vs=bK (J.h hh) (aw J xs).toNat (aw J ys).toNat (min (aw J ls) (aw J ld)).toNat:=⟨_,rfl⟩;have hlen:vs.length=(min (aw J ls) (aw J ld)).toNat:=by rw[n];simp [bK]
   let H':=(J.h k).put (J.i ad).toNat (aw J yd).toNat vs
   let J':=J.mY st.nv H'
   have hg:ai st.nv J J':=fh _ _ _ (ab8 _);have q:J'.h st.nv=H':=gu _ _ _;have r:w.heap[(J.i ad).toNat]?=some (.cells c T (0,0)):=hsub _ _ H;have B:H' (J.i ad).toNat=some (.cells (bm c.toList (aw J yd).toNat vs).toArray T (0,0)):=by
    show(J.h k).put _ _ _ _=_;unfold Hl.put
    grind
   have fin:∀ w',w'=w.setRow (J.i ad).toNat (bm c.toList (aw J yd).toNat vs).toArray->K (a.put d (goInt vs.length)) w':=by
    rintro w' rfl;have I:(J.h k).mem (J.i ad).toNat:=by unfold Hl.mem;rw[H];rfl
    have O:MRel S w0 J' (st.mem.set p (.hp st.nv (k::vers) tags links)) (w.setRow (J.i ad).toNat (bm c.toList (aw J yd).toNat vs).toArray):=by
     refine hA.toMRel.set hp rfl rfl rfl rfl aC (fun b _ hn=>setRow_other w _ b _ (fun e=>hn (by subst e;exact I))) (Mem.bF hg (St.cR hu)) ?_ trivial ?_
     .show(J'.h st.nv).sub _;rw[q];intro b o hb;by_cases s:b=(J.i ad).toNat
      .subst s;rw[B]at hb;rw[<-hb];exact setRow_heap w _ _ _ T _ r
      .have hb:(J.h k).put (J.i ad).toNat (aw J yd).toNat vs b=some o:=hb;unfold Hl.put at hb;rw[aa8 s]at hb;rw[setRow_other w _ b _ s];exact hsub _ _ hb
     .intro b hb;have hb:(J'.h st.nv).mem b:=hb;rw[q]at hb;exact Or.inl (Hl.ic.1 hb)
    exact hK J' _ _ hg ⟨by show J'.h st.nv=_;rw[q,<-n,ar],rfl⟩ (Rel.step hA hu hg O _ _ _ _ (fun y hy=>by cases hy))
   have aaZ:vs.length=Nat.min (aw J ls).toNat (aw J ld).toNat:=by rw[hlen];show _=min _ _;omega
   have ex:TV.ev J (.sv (.one (.sl (.var ad) yd ld F)))=.slice (some ⟨(J.i ad).toNat,(aw J yd).toNat,none⟩) (aw J ld).toNat (aw J F).toNat:=by
    simp only[TV.ev,SV.ev,CV.ev,ar,av hx]
   rw[ex];rcases A with h0 | ⟨L,Q,hb⟩
   .have M:vs=[]:=aa1.1 (by grind);refine⟨_,_,Cy w t t' ty el _ _ _ _ _ x m _ ah,?_⟩;have:=fin w (by
     rw[M];have:(bm c.toList (aw J yd).toNat []).toArray=c:=by simp [bm]
     rw[this,setRow_self r])
    grind
   .have u:∀ j,j<(min (aw J ls) (aw J ld)).toNat->∃ z,(J.h hh).cell (aw J xs).toNat ((aw J ys).toNat+j)=some (.int .u8 z):=fun j f=>vn hb f;have g:∀ j v,vs[j]?=some v->∃ z,v=.int .u8 z/\(J.h hh).cell (aw J xs).toNat ((aw J ys).toNat+j)=some v:=by
     intro j v f;have D:j<(min (aw J ls) (aw J ld)).toNat:=by rw[<-hlen];exact(aaG.1 f).1
     obtain⟨z,hz⟩:=u j D;rw[n]at f;simp only[bK,abl,acf D,acr,hz,afb,aa3]at f;exact⟨z,f.symm,by grind⟩
    have aG:=run_copy_row P w t t' ty el (J.i ad).toNat (aw J yd).toNat (aw J ld).toNat (aw J F).toNat ⟨(aw J xs).toNat,(aw J ys).toNat,none⟩ (aw J ls).toNat (aw J cs).toNat c T vs x (by trivial) r aaZ
     (fun j v f=>by
      obtain⟨z,_,hz⟩:=g j v f;rw[show(⟨(aw J xs).toNat,(aw J ys).toNat,none⟩:Addr).add j=⟨(aw J xs).toNat,(aw J ys).toNat+j,none⟩by unfold Addr.add;grind];exact Hl.gW l hz)
     (by grind)
     (fun v hv=>by
      obtain⟨j,f⟩:=acU.1 hv;obtain⟨z,rfl,_⟩:=g j v f;rfl)
    have U:TV.ev J (.sv (.one (.sl xs ys ls cs)))=.slice (some ⟨(aw J xs).toNat,(aw J ys).toNat,none⟩) (aw J ls).toNat (aw J cs).toNat:=by
     simp only[TV.ev,SV.ev,CV.ev,av L]
    rw[U];refine⟨_,_,aG,fin _ ?_⟩;simp [bm]
  .cases h
 .cases h
def FR (hA:Rel S w0 J st a w) (W:st.upto st.nv=true) {x:TV} (h:PG P st t x y d=some R) (hn:R.need.holds C ms J) (hK:Fin S w0 C J st a d R K) :
 ∃ v' w',(Builtin.copy_ #[t,t'] ty #[x.ev J,y.ev J]).run P w=.ok v' w'/\K (a.put d v') w':=by
 unfold PG at h;split at h
 .rename_i el hu;split at h
  .rename_i hsz;split at h
   .rename_i ad yd ld G xs ys ls cs;split at h
    .rename_i p l T hf;have hp:=gk hf;have r:0<=J.i ad:=hA.toMRel.pos _ (aah hp);simp only at h;generalize hN:mkIte (mkLt ls ld) ls ld=N at h;split at h
     .rename_i k src H;split at h
      .rename_i l' I;cases h;simp only[xk,aN,aX,aq,fc,aaM,aas]at hn;obtain⟨hk,A,L,hs0,M⟩:=hn;have A:=aej A;have L:=aej L;have hs0:=aej hs0;have eN:aw J N=min (aw J ls) (aw J ld):=by
        rw[<-hN,jc,jw];by_cases V:aw J ls<aw J ld
        .rw[ab9 (by simpa using V)];omega
        .rw[aa8 (by simpa using V)];omega
       rcases Cs hA.toMRel H hk A M with ⟨X,B⟩ | ⟨b,o,Y,m⟩
       .have ab:aw J N<=0:=by rw[eN,B];omega
        obtain⟨hlen,q⟩:=qK (J:=J) l 0 l' I;have same:l'.map (CV.ev J)=l.map (CV.ev J):=by
         apply ack;intro j;by_cases f:j<l.length
         .have c:j<l'.length:=ah;obtain⟨_,O⟩:=q j _ _ (aad f) (aad c);rw[aco,x7]at O;rw[abl,aad c,abl,aad f,acr,acr,O,aa8 (by simp only[aas];omega)]
         .rw[abA (by simp;omega),abA (by simp;omega)]
        have ex:TV.ev J (.sv (.one (.sl (.var ad) yd ld G)))=.slice (some ⟨(J.i ad).toNat,(aw J yd).toNat,none⟩) (aw J ld).toNat (aw J G).toNat:=by
         simp only[TV.ev,SV.ev,CV.ev,ar,av r]
        have Z:TV.ev J (.sv (.one (.sl xs ys ls cs)))=.slice none 0 (aw J cs).toNat:=by
         simp only[TV.ev,SV.ev,CV.ev,X,B];rfl
        rw[ex,Z];have aa:=hA.toMRel.bc hp;have D:=setRow_self aa;have hM:=hA.toMRel.E3 (l':=l') hp (cs:=(l.map (CV.ev J)).toArray) (by rw[same]);rw[D]at hM;have E:((P.info? el).map (·.size)).isSome=true:=by
         have:(P.info? el).map (·.size)=some 1:=by simpa [fj] using hsz
         rw[this];rfl
        refine⟨_,_,run_copy_none w t t' ty el _ _ _ _ hu E,?_⟩;refine hK J _ _ (ai.refl _ _) rfl (Rel.put (st:={st with mem:=st.mem.set p (.bc ad l' T)}) ⟨hM,hA.size,hA.defers,hA.tmp,hA.path⟩ _ _ _ (fun z hz=>?_));cases hz;simp only[TV.ev,SV.ev,CV.ev];unfold goInt
        congr 1
        rw[eN,B];omega
       obtain⟨hlen,q⟩:=qK (J:=J) l 0 l' I
       let g:=(aw J N).toNat
       let e:=(aw J yd).toNat
       let vs:List Value:=(List.range g).map fun i=>(w.cell? ⟨b,o+i,none⟩).getD (.bool false)
       have F:∀ i,i<g->∃ s,zm yd ld src (e+i)=some s/\w.cell? ⟨b,o+i,none⟩=some (s.ev J):=by
        intro i hi;have ae:(i:Int)<aw J N:=ah;obtain⟨s,h1,u⟩:=m (e+i) ah ah;rw[show e+i-(aw J yd).toNat=i by omega]at u;exact⟨s,(D8 (J:=J) (n:=N) (by rw[eN];omega) ah).trans h1,u⟩
       have Q:∀ v∈vs,v.oneCell'=true:=by
        intro v hv;obtain⟨i,hi,rfl⟩:=acw.1 hv;have hi:=acv.1 hi;obtain⟨s,h1,u⟩:=F i hi;rw[u,afb];have f:e+i<l.length:=ah;have c:e+i<l'.length:=ah;obtain⟨⟨z,hz⟩,_⟩:=q (e+i) _ _ (aad f) (aad c);rw[aco,h1]at hz;unfold qJ at hz;simp only at hz;split at hz
        .rename_i V;exact CV.qI s V
        .cases hz
       have aG:=run_copy_row P w t t' ty el (J.i ad).toNat e (aw J ld).toNat (aw J G).toNat ⟨b,o,none⟩ (aw J ls).toNat (aw J cs).toNat (l.map (CV.ev J)).toArray T vs hu (by simpa [fj] using hsz) (hA.toMRel.bc hp)
        (by simp only[vs,aca,afh,g,eN];show(min (aw J ls) (aw J ld)).toNat=min _ _;omega)
        (fun j v hj=>by
         have U:j<g:=by have:=(aaG.1 hj).1;simpa [vs] using this
         obtain⟨s,h1,u⟩:=F j U;have:v=s.ev J:=by
          simp only[vs,abl,acf U,acr,u,afb,aa3]at hj;exact hj.symm
         subst this;rw[show(⟨b,o,none⟩:Addr).add j=⟨b,o+j,none⟩by unfold Addr.add;split<;>simp_all];exact u)
        (by simp only[vs,aca,afh,g];simp;omega) Q
       have ex:TV.ev J (.sv (.one (.sl (.var ad) yd ld G)))=.slice (some ⟨(J.i ad).toNat,e,none⟩) (aw J ld).toNat (aw J G).toNat:=by
        simp only[TV.ev,SV.ev,CV.ev,ar,av r,e]
       have Z:TV.ev J (.sv (.one (.sl xs ys ls cs)))=.slice (some ⟨b,o,none⟩) (aw J ls).toNat (aw J cs).toNat:=by
        simp only[TV.ev,SV.ev,CV.ev,Y]
       rw[ex,Z];refine⟨_,_,aG,?_⟩;have hnew:(l.map (CV.ev J)).toArray.toList.take e++vs++(l.map (CV.ev J)).toArray.toList.drop (e+vs.length)=l'.map (CV.ev J):=by
        have lv:vs.length=g:=by simp [vs]
        apply ack;intro j;rw[lv];by_cases f:j<l.length
        .have c:j<l'.length:=ah;obtain⟨_,O⟩:=q j _ _ (aad f) (aad c);rw[aco,x7]at O;rw[abl,aad c,acr,O];simp only[aas];by_cases h1:j<e
         .rw[aa8 ah,abS,acb (by simp;omega)];simp [acC,h1,f]
         .by_cases u:j<e+g
          .rw[ab9 ah,acb (by simp [lv];omega),abO (by simp;omega)];obtain⟨s,h3,h4⟩:=F (j-e) ah;rw[show e+(j-e)=j by omega]at h3;rw[h3];show _=some (s.ev J);have hm:(List.take e (List.map (CV.ev J) l).toArray.toList).length=e:=by simp;omega
           rw[hm];simp only[vs,abl,acf (show j-e<g by omega),acr,h4,afb]
          .rw[aa8 ah,abO (by simp [lv];omega)];simp only[aaA,ace,aca,lv,acR,abl];rw[show e+g+(j-(min e l.length+g))=j by omega];simp [f]
        .rw[abA (by simp [lv];omega),abA (by simp [hlen];omega)]
       refine hK J _ _ (ai.refl _ _) rfl (Rel.put (st:={st with mem:=st.mem.set p (.bc ad l' T)}) ⟨hA.toMRel.E3 hp (by rw[hnew]),hA.size,hA.defers,hA.tmp,hA.path⟩ _ _ _ (fun z hz=>?_));cases hz;simp only[TV.ev,SV.ev,CV.ev,vs,aca,afh,g];unfold goInt
       congr 1
       omega
      .cases h
     .cases h
    .exact FT hA W hu hsz h hn hK
   .cases h
  .cases h
 .cases h
end
end Go.Sx
