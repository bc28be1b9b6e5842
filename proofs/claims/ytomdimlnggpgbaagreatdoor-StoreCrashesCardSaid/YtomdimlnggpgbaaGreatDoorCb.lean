/- A symbolic executor of functions that make, turn and share memory: operations that turn memory, calls of contracts, maps. What it tells of a piece of code is proved to be what the machine does. -/
import Derived.LoopN
import Derived.Test.YtomdimlnggpgbaaGreatDoorCa
set_option linter.unusedSimpArgs false
set_option linter.unusedVariables false
set_option linter.constructorNameAsVariable false
namespace Go.Sx
open Go
structure XR where
 st:St
 need:Nd
 x:Option X
def posOf (mem:Mem) (x:E):Option (Nat×bc) :=
 match x with
 | .var a=>match mT mem a with
  | some (p,l,T)=>some (p,.aS a l T)
  | none=>ug mem x
 | x=>ug mem x
theorem bq {mem:Mem} {x:E} {p:Nat} {r:bc} (h:posOf mem x=some (p,r)):mem[p]?=some r:=by
 unfold posOf at h
 split at h
 ·split at h
  ·rename_i q l T hb;cases h;exact dE hb
  ·exact fy h
 ·exact fy h
def jK (z:List CV) (n:Nat):List CV:=(List.range n).map fun j=>z.getD (j%z.length) (.bool .tt)
def rootOf:TV→Option E
 | .sv (.one (.hptr x _))=>some x
 | .sv (.one (.sl x _ _ _))=>some x
 | .sv (.one (.map x))=>some x
 | .sv (.one (.clo _ x))=>some x
 | _=>none
def AS (mem:Mem) (size:Nat) (t:TV):Option (Src×E) :=
 match t with
 | .sv (.one (.sl x y l c)) =>
  if x=.lit (-1)then(if y=.lit 0∧l=.lit 0∧c=.lit 0 then some (.cvs [] 0,.lit 0)else none)else
  match kv mem x y,l with
  | some (_,_,cs,_,o),.lit m=>if 0≤m∧o+m.toNat*size≤cs.length∧(((cs.drop o).take (m.toNat*size)).all CV.mH=true)then some (.cvs ((cs.drop o).take (m.toNat*size)) m.toNat,.lit m)else none
  | _,l=>match(ug mem x).bind (fun r=>r.2.hk)with
   | some h=>some (.seg h x y l,l)
   | none=>none
 | _=>none
def mm (P:Program) (st:St) (t:TypeId) (p:CV) (v:SV):Option (E×Mem ⊕ X×Mem) :=
 match p with
 | .pti a o s k i=>match mT st.mem a,v with
  | some (p,l,T),.one c=>if dd P t=some 1∧c.mH=true∧(∀ j,j<k→o+s*j<l.length)then
   (updSel l o s i c k).map fun l'=>.inl (En i k,st.mem.set p (.aS a l' T))
   else none
  | _,_=>none
 | .hptr x y=>if dd P t=some v.cells.length∧v.cells.all CV.mH=true then match kv st.mem x y with
  | some (a,p,l,T,o)=>if o+v.cells.length≤l.length then some (.inl (.tt,st.mem.set p (.aS a (bG l o v.cells) T)))else none
  | none=>match ug st.mem x with
   | some (p,.hp k vers tags links)=>some (.inr (.put st.nv k x y v.cells,st.mem.set p (.hp st.nv (k::vers) tags links)))
   | _=>none
  else none
 | _=>none
where updSel (l:List CV) (o s:Nat) (i:E) (c:CV):Nat→Option (List CV)
 | 0=>some l
 | m+1=>match updSel l o s i c m with
  | some l'=>match l'[o+s*m]? with
   | some old=>match lr (mkEq i (.lit m)) c old with
    | some v=>some (l'.set (o+s*m) v)
    | none=>none
   | none=>none
  | none=>none
def zq (args:List TV) (mem:Mem):Iw→Option (Nat×bc)
 | .arg i=>match(args[i]?).bind rootOf with
  | some x=>match posOf mem x with
   | some (p,r)=>if r.own then some (p,r)else none
   | none=>none
  | none=>none
 | .link i j=>match(args[i]?).bind rootOf with
  | some x=>match posOf mem x with
   | some (_,.hp _ _ _ links)=>match links[j]? with
    | some y=>match posOf mem y with
     | some (p,r)=>if r.own then some (p,r)else none
     | none=>none
    | none=>none
   | some (_,.aS _ l _)=>match l[j]? with
    | some (.hptr y _)=>match posOf mem y with
     | some (p,r)=>if r.own then some (p,r)else none
     | none=>none
    | _=>none
   | _=>none
  | none=>none
 | .Io i j k=>match(args[i]?).bind rootOf with
  | some x=>match posOf mem x with
   | some (_,.aS _ l _)=>match l[j]? with
    | some (.hptr y _)=>match posOf mem y with
     | some (_,.hp _ _ _ links)=>match links[k]? with
      | some z=>match posOf mem z with
       | some (p,r)=>if r.own then some (p,r)else none
       | none=>none
      | none=>none
     | _=>none
    | _=>none
   | _=>none
  | none=>none
def kQ:CV→Option E
 | .hptr x _=>some x
 | .sl x _ _ _=>some x
 | .map x=>some x
 | _=>none
def lB (mem:Mem) (r:Nat×bc):Nat×bc:=match r.2 with
 | .aS _ l _=>match(l.head?).bind kQ with
  | some y=>match posOf mem y with
   | some q=>q
   | none=>(mem.length,.dead)
  | none=>(mem.length,.dead)
 | .ro _ _ any=>if any then r else match kI mem 0 with
  | some q=>q
  | none=>r
 | _=>r
def oX (args:List TV) (mem:Mem) (i:Nat):Nat×bc :=
 if 6000000≤i then match mem[i-6000000]? with
  | some r=>(i-6000000,r)
  | none=>(mem.length,.dead)
 else if 5000000≤i then match args[(i-5000000)/1000]? with
  | some (.sv (.one (.hptr x y)))=>match posOf mem x with
   | some (_,.aS _ l _)=>match(l[(i-5000000)%1000]?).bind kQ with
    | some z=>match posOf mem z with
     | some r=>r
     | none=>(mem.length,.dead)
    | none=>(mem.length,.dead)
   | some (_,.ro k _ _)=>match posOf mem (.hP k x y ((i-5000000)%1000) 0)with
    | some r=>r
    | none=>(mem.length,.dead)
   | _=>(mem.length,.dead)
  | _=>(mem.length,.dead)
 else if 4000000≤i then match args[(i-4000000)/1000]? with
  | some (.sv (.agg l))=>match(l[(i-4000000)%1000]?).bind kQ with
   | some y=>match posOf mem y with
    | some r=>lB mem r
    | none=>(mem.length,.dead)
   | none=>(mem.length,.dead)
  | _=>(mem.length,.dead)
 else if 3000000≤i then match(args[i-3000000]?).bind rootOf with
  | some x=>match posOf mem x with
   | some r=>lB mem r
   | none=>(mem.length,.dead)
  | none=>(mem.length,.dead)
 else if 2000000≤i then match posOf mem (.lit ((i-2000000:Nat):Int))with
  | some r=>r
  | none=>(mem.length,.dead)
 else if 1000000≤i then match args[(i-1000000)/1000]? with
  | some (.sv (.agg l))=>match(l[(i-1000000)%1000]?).bind kQ with
   | some y=>match posOf mem y with
    | some r=>r
    | none=>(mem.length,.dead)
   | none=>(mem.length,.dead)
  | _=>(mem.length,.dead)
 else if 10000≤i then match args[(i-10000)/100]? with
  | some (.sv (.agg l))=>match(l[(i-10000)%100]?).bind kQ with
   | some y=>match posOf mem y with
    | some r=>r
    | none=>(mem.length,.dead)
   | none=>(mem.length,.dead)
  | _=>(mem.length,.dead)
 else if 1000≤i then match(args[(i-1000)/100]?).bind rootOf with
  | some x=>match posOf mem x with
   | some (_,.aS _ l _)=>match(l[(i-1000)%100]?).bind kQ with
    | some y=>match posOf mem y with
     | some r=>r
     | none=>(mem.length,.dead)
    | none=>(mem.length,.dead)
   | some r=>r
   | none=>(mem.length,.dead)
  | none=>(mem.length,.dead)
 else if 200≤i then match(args[i-200]?).bind rootOf with
  | some x=>match posOf mem x with
   | some (_,.aS _ (.map y::_) _)=>match posOf mem y with
    | some r=>r
    | none=>(mem.length,.dead)
   | _=>(mem.length,.dead)
  | none=>(mem.length,.dead)
 else if 100≤i then match kI mem 0 with
  | some r=>r
  | none=>(mem.length,.dead)
 else match(args[i]?).bind rootOf with
  | some x=>match posOf mem x with
   | some r=>r
   | none=>(mem.length,.dead)
  | none=>(mem.length,.dead)
def bc.kW (n:Nat):bc→bc
 | .aS a _ _=>.hp n [] [.var a] []
 | .hp k vers tags links=>.hp n (k::vers) tags links
 | .dead=>.hp n [] [] []
 | r=>r
def kS (mem:Mem) (ps:List (Nat×bc)):Mem:=kC (fun p r=>match ps.find? fun q=>q.1==p with
 | some q=>q.2
 | none=>r) 0 mem
def jg (args:List TV) (l:List Nat):List E:=l.filterMap fun i=>(args[i]?).bind rootOf
def Cy (Γ:List Spec) (st:St) (f:FuncId) (args:List TV) (dst:Option Tmp):Option XR :=
 match Γ.findIdx? fun s=>s.fn==f with
 | some j=>match Γ[j]? with
  | some s=>match fq (s.own.map (zq args st.mem))with
   | some own =>
    let rd:=s.rd.map (oX args st.mem)
    let ps:=own.map (·.1)
    if decide ps.Nodup&&(rd.all fun r=>!ps.contains r.1)then
     let x:X:=.call j st.nv args (own.map (·.2)) (rd.map (·.2))
     let nps:=own.zipIdx.map fun q=>(q.1.1,q.1.2.kW (st.nv+q.2))
     let mem:=kS st.mem nps++(if bO 0 s.res=[]then []else [.hp (st.nv+own.length) [] (bO st.nv s.res) (jg args s.links)])
     some ⟨({st with mem:=mem,nv:=st.nv+max (Hi s.res) (own.length+1)} : St).put dst (some (df st.nv s.res)),.pre x,some x⟩
    else none
   | none=>none
  | none=>none
 | none=>none
def qp (P:Program) (f:FuncId):Bool :=
 match P.funcs[f]? with
 | some fn=>fn.body.isSome&&!(fn.name== "runtime.NumGoroutine")
 | none=>false
def mG (st:St):Operand→Option FuncId
 | .func f=>some f
 | .tmp t=>match st.tmps[t]? with
  | some (some (.sv (.one (.val (.func (.func f) a b)))))=>if a.isEmpty&&b.isEmpty then some f else none
  | _=>none
 | _=>none
def qQ (st:St) (l:List CV) (T:TypeId) (dst:Option Tmp) (v:TV):Option XR :=
 if l.all (·.upto st.nv)=true then some ⟨({st with mem:=st.mem++[.aS st.nv l T],nv:=st.nv+1} : St).put dst (some v),.tt,some (.alloc st.nv)⟩else none
def FN (P:Program) (st:St) (t:TypeId) (a b:TV) (dst:Option Tmp):Option XR :=
 match P.underlying t with
 | some (.slice el)=>match P.info? el with
  | some i=>match i.zero with
   | some z=>if z.cells.size=i.size∧0<i.size then
    match a,AS st.mem i.size b with
    | .sv (.one (.sl x y l c)),some (src,le)=>if(l.upto st.nv&&le.upto st.nv)=true then
     let n:=st.nv
     let r:TV:=.sv (.one (.sl (.var n) (.lit 0) (mkAdd l le) (.var (n+1))))
     let fin (mem:Mem) (x:X):XR:=⟨({st with mem:=mem,nv:=n+2} : St).put dst (some r),.pre x,some x⟩
     if x=.lit (-1)then
      if y=.lit 0∧l=.lit 0∧c=.lit 0 then
       some (fin (st.mem++[.hp n [] [.var n] []]) (.app n el i.size i.bytes (.sl x y l c) l .dead src))
      else none
     else match posOf st.mem x with
      | some (p,.hp k vers tags links)=>some (fin (st.mem.set p (.hp n (k::vers) (.var n::tags) links)) (.app n el i.size i.bytes (.sl x y l c) l (.hp k vers tags links) src))
      | some (p,.aS a cells T)=>match y,l,c with
       | .lit o,.lit l,.lit c=>if T=el∧o=0 then
        some (fin (st.mem.set p (.hp n [] [.var n,.var a] [])) (.app n el i.size i.bytes (.sl x y (.lit l) (.lit c)) (.lit l) (.aS a cells T) src))
        else if 0≤o∧0≤l∧l≤c∧o.toNat+l.toNat*i.size≤cells.length∧x=.var a then
         some (fin (st.mem++[.hp n [] [.var n] []]) (.grow n el i.size i.bytes ((cells.drop o.toNat).take (l.toNat*i.size)) l.toNat c.toNat src))
        else none
       | _,_,_=>none
      | _=>none
     else none
    | _,_=>none
    else none
   | none=>none
  | none=>none
 | _=>none
def Dn (P:Program) (st:St) (t:TypeId) (a b:TV) (dst:Option Tmp):Option XR :=
 match P.underlying t,a,b with
 | some (.slice el),.sv (.one (.int k l)),.sv (.one (.int k' c))=>if l=c then match P.info? el with
  | some i=>match i.zero with
   | some z=>if z.cells.size=i.size∧0<i.size∧l.upto st.nv=true then
    let zs:=z.cells.toList.map fE
    let n:=st.nv
    let x:X:=.mk n el zs i.bytes l
    match l with
    | .lit m=>if m.toNat*i.size≤128 then
     some ⟨({st with mem:=st.mem++[.aS n (jK zs (m.toNat*i.size)) el],nv:=n+1} : St).put dst (some (.sv (.one (.sl (.var n) (.lit 0) l l)))),.pre x,some x⟩
     else some ⟨({st with mem:=st.mem++[.hp n [] [.var n] []],nv:=n+1} : St).put dst (some (.sv (.one (.sl (.var n) (.lit 0) l l)))),.pre x,some x⟩
    | l=>some ⟨({st with mem:=st.mem++[.hp n [] [.var n] []],nv:=n+1} : St).put dst (some (.sv (.one (.sl (.var n) (.lit 0) l l)))),.pre x,some x⟩
    else none
   | none=>none
  | none=>none
  else none
 | _,_,_=>none
def FU (P:Program) (st:St) (t:TypeId) (len:Nat) (is:List Nat) (vs:List TV) (dst:Option Tmp):Option XR :=
 match P.underlying t with
 | some (.slice el)=>match dd P el,iQ P el,GY vs with
  | some n,some z,some vs=>if len*n≤4096∧z.cells.size=n then
   match sE (fun i=>some (i*n,n)) (jK (z.cells.toList.map fE) (len*n)) (is.zip vs)with
   | some l=>qQ st l el dst (.sv (.one (.sl (.var st.nv) (.lit 0) (.lit len) (.lit len))))
   | none=>none
   else none
  | _,_,_=>none
 | _=>none
def sN (P:Program) (t:TypeId):Option Kd :=
 match P.underlying t with
 | some (.int k)=>some (.int k)
 | some .string=>some .str
 | _=>none
def Db:Kd→CV→Bool
 | .int k,.int k' _=>decide (k=k')
 | .str,.str _=>true
 | _,_=>false
def Bt (P:Program) (st:St) (op:Op) (dst:Option Tmp):Option XR :=
 match op with
 | .makeMap t none=>match P.underlying t with
  | some (.map _ _)=>some ⟨({st with mem:=st.mem++[.hp st.nv [] [.var st.nv] []],nv:=st.nv+1} : St).put dst (some (.sv (.one (.map (.var st.nv))))),.pre (.mnew st.nv),some (.mnew st.nv)⟩
  | _=>none
 | .lookup t m k ok=>match P.underlying t with
  | some (.map kt vt)=>match sN P kt,iQ P vt,xN P vt,cB st m,cB st k with
   | some kd,some z,some agg,some (.sv (.one (.map x))),some (.sv (.one key))=>match(ug st.mem x).bind (fun r=>r.2.hk),lift z with
    | some h,.sv zs =>
     let ks:=z.cells.toList.map iq
     if Db kd key&&(agg==isAgg z)&&(agg||ks.length==1)then
      let X:X:=.mget st.nv h x kd key zs ks agg
      let v:=iy st.nv ks agg
      some ⟨({st with nv:=st.nv+fM ks+1} : St).put dst (some (if ok then .tup [v,.one (.bool (.bvar (st.nv+fM ks)))]else .sv v)),.pre X,some X⟩
     else none
    | _,_=>none
   | _,_,_,_,_=>none
  | _=>none
 | .mapUpdate t m k v=>match P.underlying t with
  | some (.map kt _)=>match sN P kt,cB st m,cB st k,cB st v with
   | some kd,some (.sv (.one (.map x))),some (.sv (.one key)),some (.sv vs)=>if Db kd key then match ug st.mem x with
    | some (p,.hp h vers tags links)=>some ⟨({st with mem:=st.mem.set p (.hp st.nv (h::vers) tags links),nv:=st.nv+1} : St).put dst none,.pre (.mset st.nv h x kd key vs),some (.mset st.nv h x kd key vs)⟩
    | _=>none
    else none
   | _,_,_,_=>none
  | _=>none
 | .call {callee:=.builtin .clear,args,argTypes}=>match args.toList,argTypes.toList with
  | [m],[t]=>match P.underlying t,cB st m with
   | some (.map _ _),some (.sv (.one (.map x)))=>match ug st.mem x with
    | some (p,.hp h vers tags links)=>some ⟨({st with mem:=st.mem.set p (.hp st.nv (h::vers) tags links),nv:=st.nv+1} : St).put dst none,.pre (.mclr st.nv h x),some (.mclr st.nv h x)⟩
    | _=>none
   | _,_=>none
  | _,_=>none
 | _=>none
def ua (P:Program) (mem:Mem) (el:TypeId) (p L:Nat) (yd n xs ys ls:E):Option (E×(Nat→Option CV)) :=
 match(match xs with | .var bs=>mT mem bs | _=>none)with
 | some (q,m,_) =>
  if q=p then none else
  if yd=ys∧m.length=L then some (.tt,fun j=>m[j]?)
  else match yd,ys with
   | .lit o,.lit o'=>if 0≤o∧0≤o' then some (mkLe (mkAdd (.lit o') n) (.lit m.length),fun j=>if o.toNat≤j then m[j-o.toNat+o'.toNat]? else none)else none
   | _,_=>none
 | none=>match yd,(ug mem xs).bind (fun r=>r.2.hk)with
  | .lit o,some h=>if 0≤o∧Bj P el=true then some (mkOr (mkAnd (mkEq xs (.lit (-1))) (mkEq ls (.lit 0))) (mkAnd (mkLe (.lit 0) xs) (mkAnd (mkLe (.lit 0) ys) (.hby h xs ys n))),fun j=>if o.toNat≤j then some (.int .u8 (.hI h xs ys (j-o.toNat)))else none)else none
  | _,_=>none
def pC (yd ld:E) (src:Nat→Option CV) (j:Nat):Option CV:=match yd,ld with
 | .lit o,.lit l=>if(j:Int)<o+l then src j else none
 | _,_=>src j
def qj (yd n:E) (j:Nat):E:=mkAnd (mkLe yd (.lit j)) (mkLt (.lit j) (mkAdd yd n))
def kh (c:E) (src:Option CV) (old:CV):Option CV :=
 match src with
 | none=>some old
 | some s=>if s.mH=true then(if c=.tt then some s else if c=.ff then some old else lr c s old)else none
def z8 (yd n:E) (src:Nat→Option CV):Nat→List CV→Option (List CV)
 | _,[]=>some []
 | j,c::l=>match kh (qj yd n j) (src j) c,z8 yd n src (j+1) l with
  | some x,some r=>some (x::r)
  | _,_=>none
def CK (P:Program) (st:St) (el:TypeId) (ad:Nat) (yd ld xs ys ls:E) (dst:Option Tmp):Option XR :=
 match ug st.mem (.var ad),(ug st.mem xs).bind (fun r=>r.2.hk)with
 | some (p,.hp k vers tags links),some h=>if Bj P el=true then
  let x:X:=.cpy st.nv k (.var ad) yd ld h xs ys ls
  some ⟨({st with mem:=st.mem.set p (.hp st.nv (k::vers) tags links),nv:=st.nv+1} : St).put dst none,.pre x,some x⟩
  else none
 | _,_=>none
def CJ (P:Program) (st:St) (t:TypeId) (a b:TV) (dst:Option Tmp):Option XR :=
 match P.underlying t with
 | some (.slice el)=>if dd P el=some 1 then match a,b with
  | .sv (.one (.sl (.var ad) yd ld _)),.sv (.one (.sl xs ys ls _))=>match mT st.mem ad with
   | some (p,l,T) =>
    let n:=mkIte (mkLt ls ld) ls ld
    match ua P st.mem el p l.length yd n xs ys ls with
    | some (k,src)=>match z8 yd n (pC yd ld src) 0 l with
     | some l'=>some ⟨({st with mem:=st.mem.set p (.aS ad l' T)} : St).put dst (some (TI .i64 n)),HO (mkAnd k (mkAnd (mkLe (.lit 0) yd) (mkAnd (mkLe (.lit 0) ld) (mkAnd (mkLe (.lit 0) ls) (mkLe (mkAdd yd n) (.lit l.length)))))),none⟩
     | none=>none
    | none=>none
   | none=>CK P st el ad yd ld xs ys ls dst
  | _,_=>none
  else none
 | _=>none
def FW (P:Program) (st:St) (s d:TypeId) (x:TV) (dst:Option Tmp):Option XR :=
 if s=d then match P.underlying s with
  | some (.slice el)=>if Bj P el=true∧x.upto st.nv=true then match x with
   | .sv (.one (.sl (.var a) y l c))=>match mT st.mem a with
    | some (p,cs,T)=>some ⟨({st with mem:=st.mem.set p (.hp st.nv [] [.var a] []),nv:=st.nv+1} : St).put dst (some (.sv (.one (.sl (.var a) y l c)))),.tt,some (.cbs st.nv a cs T)⟩
    | none=>none
   | _=>none
   else none
  | _=>none
 else none
def EH (P:Program) (Γ:List Spec) (st:St) (o:Oper):Option XR :=
 if st.upto st.nv=true then
  match o.op with
  | .alloc t=>match iQ P t with
   | some z=>qQ st (z.cells.toList.map fE) t o.dst (TP (.var st.nv) (.lit 0))
   | none=>none
  | .box t x=>match cB st x with
   | some (.sv v)=>if v.cells.all CV.mH=true then qQ st v.cells t o.dst (TP (.var st.nv) (.lit 0))else none
   | _=>none
  | .store t p x=>match cB st p,cB st x with
   | some (.sv (.one pv)),some (.sv v)=>match mm P st t pv v with
    | some (.inl (n,mem))=>some ⟨({st with mem:=mem} : St).put o.dst none,HO n,none⟩
    | some (.inr (x,mem))=>some ⟨({st with mem:=mem,nv:=st.nv+1} : St).put o.dst none,.pre x,some x⟩
    | none=>none
   | _,_=>none
  | .makeSlice t l c=>match cB st l,cB st c with
   | some a,some b=>Dn P st t a b o.dst
   | _,_=>none
  | .buildSlice t len parts=>match oV st (parts.toList.map (·.2))with
   | some vs=>FU P st t len (parts.toList.map (·.1)) vs o.dst
   | none=>none
  | .call {callee:=.builtin .append,args,argTypes}=>match args.toList,argTypes.toList with
   | [a,b],[t,t']=>if t=t' then match cB st a,cB st b with
    | some x,some y=>FN P st t x y o.dst
    | _,_=>none
    else none
   | _,_=>none
  | .call {callee:=.builtin .copy,args,argTypes}=>match args.toList,argTypes.toList with
   | [a,b],[t,_]=>match cB st a,cB st b with
    | some x,some y=>CJ P st t x y o.dst
    | _,_=>none
   | _,_=>none
  | .convert s d x=>match cB st x with
   | some x=>FW P st s d x o.dst
   | none=>none
  | .makeMap t none=>Bt P st (.makeMap t none) o.dst
  | .lookup t m k ok=>Bt P st (.lookup t m k ok) o.dst
  | .mapUpdate t m k v=>Bt P st (.mapUpdate t m k v) o.dst
  | .call {callee:=.builtin .clear,args,argTypes}=>Bt P st (.call {callee:=.builtin .clear,args,argTypes}) o.dst
  | .call {callee:=.value c,args,argTypes:=_}=>match mG st c,oV st args.toList with
   | some f,some vs=>if qp P f then Cy Γ st f vs o.dst else none
   | _,_=>none
  | _=>none
 else none
def Jj (P:Program) (st:St) (o:Oper):Option (E×List CV) :=
 match o.op with
 | .call {callee:=.builtin .append,args,argTypes}=>match args.toList,argTypes.toList with
  | [a,b],[t,_]=>match P.underlying t with
   | some (.slice el)=>match P.info? el,cB st a,cB st b with
    | some i,some (.sv (.one (.sl x _ _ _))),some y=>match AS st.mem i.size y with
     | some (.cvs l _,_)=>some (x,l)
     | _=>none
    | _,_,_=>none
   | _=>none
  | _,_=>none
 | .store _ p x=>match cB st p,cB st x with
  | some (.sv (.one (.hptr x _))),some (.sv v)=>some (x,v.cells)
  | _,_=>none
 | _=>none
def Dw (mem:Mem) (p:Nat):List CV→Option (E×Nat×bc)
 | []=>none
 | c::l=>match(kQ c).bind (fun y=>(posOf mem y).map fun r=>(y,r))with
  | some (y,q,r)=>if r.own=true∧q≠p then some (y,q,r)else Dw mem p l
  | none=>Dw mem p l
def bc.ks:bc→List Nat
 | .hp k vers _ _=>k::vers
 | _=>[]
def bc.Ih:bc→List E
 | .hp _ _ tags _=>tags
 | _=>[]
def sW (P:Program) (st:St) (o:Oper):Option (St×X) :=
 match Jj P st o with
 | some (x,l)=>match posOf st.mem x with
  | some (p,.hp k vers tags links)=>match Dw st.mem p l with
   | some (y,q,r)=>if st.upto st.nv=true then some ({st with mem:=(st.mem.set p (.hp st.nv (k::r.ks++vers) (tags++y::r.Ih) links)).set q .dead,nv:=st.nv+1},.Bx st.nv (.hp k vers tags links) r)else none
   | none=>none
  | _=>none
 | none=>none
end Go.Sx
namespace Go.Sx
open Go
section
variable {P:Program} {C:Ctx} {ms:Nat→Nat} {S:Nat→Prop} {w0:World} {ρ ρ':Env} {st:St} {mem mem':Mem} {a:Act} {w w':World}
theorem Rel.step (hA:Rel S w0 ρ st a w) (hu:st.upto st.nv=true) (hg:ae st.nv ρ ρ') (hm:MRel S w0 ρ' mem' w') (nv:Nat) (d:Option Tmp) (v:Option TV) (x:Value) (hx:∀ y,v=some y→x=y.ev ρ') :
 Rel S w0 ρ' (({st with mem:=mem',nv:=nv} : St).put d v) (a.put d x) w' :=
 Rel.put (Rel.rV hg hu hA hm nv) d v x hx
theorem St.cM {n:Nat} (h:st.upto n=true):Mem.upto n st.mem=true:=by
 simp only[St.upto,Bool.and_eq_true]at h;exact h.1.2
def Fin (S:Nat→Prop) (w0:World) (C:Ctx) (ρ:Env) (st:St) (a:Act) (d:Option Tmp) (R:XR) (K:Act→World→Prop):Prop :=
 ∀ ρ' x w',ae st.nv ρ ρ'→(match R.x with | some y=>y.rel C ρ ρ'∧y.n=st.nv | none=>ρ'=ρ)→Rel S w0 ρ' R.st (a.put d x) w'→K (a.put d x) w'
theorem dm {o:Oper} {K:Act→World→Prop} {Q:Exit→Act→World→Prop} {v:Value} (h:(execOp a.eval o).run P w=.ok (.value v) w') (hK:K (a.put o.dst v) w'):o.wp P a w K Q:=by
 unfold Oper.wp;rw[h];exact hK
theorem r8 {o:Oper} {K:Act→World→Prop} {Q:Exit→Act→World→Prop} (h:(execOp a.eval o).run P w=.ok .skip w') (hK:K (a.put o.dst undef) w'):o.wp P a w K Q:=by
 unfold Oper.wp;rw[h];exact hK
theorem jP {l:List CV} {T:TypeId} {d:Option Tmp} {v:TV} {R:XR} {K:Act→World→Prop} (h:qQ st l T d v=some R) (hu:st.upto st.nv=true) (hA:Rel S w0 ρ st a w) (hK:Fin S w0 C ρ st a d R K)
 {cs:Array Value} (hc:cs=(l.map (CV.ev ρ)).toArray) {x:Value} (hx:∀ ρ',ae st.nv ρ ρ'→ρ'.i st.nv=w.heap.size→x=v.ev ρ'):K (a.put d x) (w.alloc (.cells cs T)):=by
 unfold qQ at h
 split at h
 ·rename_i hl
  cases h
  let ρ':=ρ.dv st.nv w.heap.size
  have hg:ae st.nv ρ ρ':=bX _ _ _ (Nat.le_refl _)
  have hi:ρ'.i st.nv=w.heap.size:=jc _ _ _
  refine hK ρ' x _ hg ⟨show 0≤ρ'.i st.nv by rw[hi];omega,rfl⟩ (Rel.step hA hu hg ?_ _ _ _ _ (fun y hy=>by cases hy;exact hx ρ' hg hi))
  refine hA.toMRel.add rfl rfl rfl (by simp) (fun b hb=>RowKit.Below.heap_alloc w _ b hb) (Mem.agree hg (St.cM hu)) ?_ (by show 0≤ρ'.i st.nv;rw[hi];omega) ?_
  ·intro b o hb
   obtain⟨rfl,rfl⟩:=Hl.jb hb
   rw[hi,Int.toNat_natCast,CV.dJ hg l hl,hc]
   exact heap_alloc_new w _
  ·intro b hb
   rw[show b=(ρ'.i st.nv).toNat from Hl.cI.1 hb,hi,Int.toNat_natCast]
   exact Nat.le_refl _
 ·cases h
theorem xt {α:Type} : ∀ (l:List α) (k:Nat) (x:α),l[k]?=some x→l.set k x=l
 | [],_,_,_=>rfl
 | y::l,0,x,h=>by simp at h;simp [h]
 | y::l,k+1,x,h=>by simp at h;simp [xt l k x h]
theorem nD {l:List CV} {o s:Nat} {i:E} {c:CV} (h0:0≤ak ρ i):∀ (m:Nat) (l':List CV),mm.updSel l o s i c m=some l' →
 l'.length=l.length∧l'.map (CV.ev ρ)=if ak ρ i<m then(l.map (CV.ev ρ)).set (o+s*(ak ρ i).toNat) (c.ev ρ)else l.map (CV.ev ρ)
 | 0,l',h=>by
  cases h
  refine⟨rfl,?_⟩
  rw[if_neg (by simpa using h0)]
 | m+1,l',h=>by
  simp only[mm.updSel]at h
  split at h
  ·rename_i l1 h1
   split at h
   ·rename_i old hold
    split at h
    ·rename_i v hv
     cases h
     obtain⟨e1,e2⟩:=nD h0 m l1 h1
     refine⟨by simp [e1],?_⟩
     have hm:=jN (ρ:=ρ) hv
     rw[dx,ah]at hm
     rw[List.map_set]
     by_cases hc:ak ρ i=(m:Int)
     ·have e3:(ak ρ i).toNat=m:=by omega
      rw[if_neg (by omega)]at e2
      rw[if_pos (show ak ρ i<((m+1:Nat):Int)by omega),e3,e2,hm,if_pos (by simpa using hc)]
     ·rw[if_neg (by simpa using hc)]at hm
      rw[hm,xt _ _ _ (show(l1.map (CV.ev ρ))[o+s*m]?=some (old.ev ρ)by simp [hold]),e2]
      by_cases hi:ak ρ i<m
      ·rw[if_pos hi,if_pos (by omega)]
      ·rw[if_neg hi,if_neg (by omega)]
    ·cases h
   ·cases h
  ·cases h
theorem MRel.vc (h:MRel S w0 ρ mem w) {p b:Nat} {l l':List CV} {T:TypeId} (hp:mem[p]?=some (.aS b l T)) {cs:Array Value} (hc:cs=(l'.map (CV.ev ρ)).toArray) :
 MRel S w0 ρ (mem.set p (.aS b l' T)) (w.setRow (ρ.i b).toNat cs):=by
 refine h.set hp rfl rfl rfl rfl (by simp) (fun c _ hn=>setRow_other w _ c _ (fun e=>hn (Hl.cI.2 e))) (fun s _=>⟨rfl,id⟩) ?_ (show 0≤ρ.i b from h.pos _ (List.mem_of_getElem? hp)) ?_
 ·intro c o hc'
  obtain⟨rfl,rfl⟩:=Hl.jb hc'
  rw[hc]
  exact setRow_heap w _ _ _ T _ (h.aS hp)
 ·intro c hc'
  exact Or.inl (Hl.cI.2 (Hl.cI.1 hc'))
theorem kU {t:TypeId} {b o:Nat} {v:SV} {l:List CV} {T:TypeId} (hs:dd P t=some v.cells.length) (h1:v.cells.all CV.mH=true) (hle:o+v.cells.length≤l.length)
 (hb:w.heap[b]?=some (.cells (l.map (CV.ev ρ)).toArray T (0,0))) :
 (storeVar t ⟨b,o,none⟩ (v.ev ρ)).run P w=.ok () (w.setRow b ((bG l o v.cells).map (CV.ev ρ)).toArray):=by
 unfold storeVar
 have hcs:=SV.mK (ρ:=ρ) v h1
 have hsz:(v.ev ρ).cells.size=v.cells.length:=by rw[←Array.length_toList,hcs];simp
 simp only[Sem.run_bind,cO hs,Result.andThen_ok,hsz,ne_eq,not_true_eq_false,if_false]
 rw[hcs]
 have:=run_storeCells_at (P:=P) b o T (v.cells.map (CV.ev ρ)) 0 (l.map (CV.ev ρ)).toArray w hb (by simp;omega)
  (fun x hx=>by
   obtain⟨c,hc,rfl⟩:=List.mem_map.1 hx
   exact CV.ke c (List.all_eq_true.1 h1 c hc))
 simp only[Nat.add_zero]at this
 simp only[this]
 congr 2
 simp [bG,List.map_append,List.map_take,List.map_drop]
theorem zE (hA:MRel S w0 ρ st.mem w) {t:TypeId} {p:CV} {v:SV} {k:E} (h:mm P st t p v=some (.inl (k,mem'))) (hk:bo ρ k=true) :
 ∃ q w',p.ev ρ=.pointer (some q)∧(storeVar t q (v.ev ρ)).run P w=.ok () w'∧MRel S w0 ρ mem' w':=by
 unfold mm at h
 split at h
 ·rename_i b o s m i
  split at h
  ·rename_i q l T c hb
   split at h
   ·rename_i hc
    simp only[Option.map_eq_some_iff,Sum.inl.injEq,Prod.mk.injEq]at h
    obtain⟨l',hl',rfl,rfl⟩:=h
    obtain⟨h0,h1⟩:=fD hk
    obtain⟨e1,e2⟩:=nD (c:=c) h0 m l' hl'
    rw[if_pos h1]at e2
    have hlt:=hc.2.2 (ak ρ i).toNat (by omega)
    have hp:=dE hb
    have hpos:0≤ρ.i b:=hA.pos _ (List.mem_of_getElem? hp)
    refine⟨_,_,by simp only[CV.ev];rw[jS h0,aq hpos,Int.toNat_natCast],kU (v:=.one c) hc.1 (by simp [SV.cells,hc.2.1]) (by simp only[SV.cells,List.length_singleton];omega) (hA.aS hp),?_⟩
    refine hA.vc hp ?_
    rw[e2]
    simp only[bG,SV.cells,List.map_append,List.map_take,List.map_drop,List.map_cons,List.map_nil,List.length_singleton]
    rw[List.set_eq_take_append_cons_drop,if_pos (by simpa using hlt)]
    simp
   ·cases h
  ·cases h
 ·rename_i x y
  split at h
  ·rename_i hc
   split at h
   ·rename_i b q l T o hk0
    obtain⟨rfl,rfl,hp⟩:=eQ hk0
    split at h
    ·rename_i hle
     cases h
     have hpos:0≤ρ.i b:=hA.pos _ (List.mem_of_getElem? hp)
     exact⟨_,_,by simp only[CV.ev,ai,ah];rw[aq hpos,Int.toNat_natCast],kU hc.1 hc.2 hle (hA.aS hp),hA.vc hp rfl⟩
    ·cases h
   ·split at h<;>cases h
  ·cases h
 ·cases h
theorem zF (hA:Rel S w0 ρ st a w) (hu:st.upto st.nv=true) {t:TypeId} {p:CV} {v:SV} {x:X} (h:mm P st t p v=some (.inr (x,mem'))) (hk:x.pre C ρ) :
 ∃ q w' ρ',p.ev ρ=.pointer (some q)∧(storeVar t q (v.ev ρ)).run P w=.ok () w'∧ae st.nv ρ ρ'∧x.rel C ρ ρ'∧x.n=st.nv∧MRel S w0 ρ' mem' w':=by
 unfold mm at h
 split at h
 ·split at h
  ·split at h
   ·simp at h
   ·cases h
  ·cases h
 ·rename_i x y
  split at h
  ·rename_i hc
   split at h
   ·split at h<;>cases h
   ·split at h
    ·rename_i q k vers tags links hf
     cases h
     have hp:=fy hf
     obtain⟨hx,hy,hw⟩:=hk
     have hsub:(ρ.h k).sub w:=hA.sub _ (List.mem_of_getElem? hp)
     have hcs:=SV.mK (ρ:=ρ) v hc.2
     obtain⟨cs,hrun,hsub'⟩:=Ea (P:=P) hsub (t:=t) (vs:=v.cells.map (CV.ev ρ)) (by simpa using hc.1) hcs
      (fun u hu=>by obtain⟨c,hcm,rfl⟩:=List.mem_map.1 hu;exact CV.ke c (List.all_eq_true.1 hc.2 c hcm)) (by simpa using hw)
     let H':=(ρ.h k).put (ak ρ x).toNat (ak ρ y).toNat (v.cells.map (CV.ev ρ))
     let ρ':=ρ.iE st.nv H'
     have hg:ae st.nv ρ ρ':=dn _ _ _ (Nat.le_refl _)
     have hh:ρ'.h st.nv=H':=dX _ _ _
     refine⟨_,_,ρ',by simp only[CV.ev];rw[aq hx],hrun,hg,hh,rfl,?_⟩
     have hxm:(ρ.h k).mem (ak ρ x).toNat:=by
      obtain⟨c,T,fr,hx',_⟩:=xL hw
      unfold Hl.mem;rw[hx'];rfl
     refine hA.toMRel.set hp rfl rfl rfl rfl (by simp) (fun b _ hn=>setRow_other w _ b _ (fun e=>hn (by subst e;exact hxm))) (Mem.agree hg (St.cM hu)) ?_ trivial ?_
     ·show(ρ'.h st.nv).sub _
      rw[hh];exact hsub'
     ·intro b hb
      have hb:(ρ'.h st.nv).mem b:=hb
      rw[hh]at hb
      exact Or.inl (Hl.gE.1 hb)
    ·cases h
  ·cases h
 ·cases h
end
end Go.Sx
namespace Go.Sx
open Go
section
variable {P:Program} {C:Ctx} {ms:Nat→Nat} {S:Nat→Prop} {w0:World} {ρ ρ':Env} {st:St} {mem mem':Mem} {a:Act} {w w':World}
theorem qK {z:List CV} {zs:List Value} (hz:z.map (CV.ev ρ)=zs) (hp:0<zs.length) (n:Nat):(jK z n).map (CV.ev ρ)=(madeCells zs.toArray n).toList:=by
 have hlen:z.length=zs.length:=by rw[←hz];simp
 unfold jK madeCells
 simp only[List.map_map,Array.toList_map,Array.toList_range]
 refine List.map_congr_left fun j _=>?_
 simp only[Function.comp,List.size_toArray]
 have hlt:j%z.length<z.length:=Nat.mod_lt _ (by omega)
 rw[List.getD_eq_getElem?_getD,List.getElem?_eq_getElem hlt,Option.getD_some]
 have h2:zs[j%zs.length]?=some ((z[j%z.length]).ev ρ):=by
  rw[←hz,List.getElem?_map,List.length_map,List.getElem?_eq_getElem hlt];rfl
 rw[getElem!_def]
 simp [h2]
theorem pd (hm:MRel S w0 ρ mem w) {size:Nat} {t:TV} {src:Src} {le:E} (h:AS mem size t=some (src,le)) (hok:src.ok ρ size) :
 Cf w (t.ev ρ) (src.len ρ) (src.bS ρ size)∧(src.bS ρ size).length=src.len ρ*size∧(∀ u∈src.bS ρ size,u.oneCell'=true)∧ak ρ le=src.len ρ:=by
 unfold AS at h
 split at h
 ·rename_i x y l c
  split at h
  ·rename_i hx
   split at h
   ·rename_i hc
    cases h
    obtain⟨rfl,rfl,rfl⟩:=hc
    subst hx
    exact⟨Or.inr ⟨⟨_,rfl⟩,rfl,rfl⟩,by simp [Src.bS,Src.len],by simp [Src.bS],rfl⟩
   ·cases h
  ·split at h
   ·rename_i a p cs T o m hk0
    obtain⟨rfl,rfl,hp⟩:=eQ hk0
    split at h
    ·rename_i hc
     cases h
     have hpos:0≤ρ.i a:=hm.pos _ (List.mem_of_getElem? hp)
     refine⟨Or.inl ⟨⟨(ρ.i a).toNat,o,none⟩,(ak ρ c).toNat,?_,?_⟩,?_,?_,?_⟩
     ·simp only[TV.ev,SV.ev,CV.ev,ai,ah,Src.len]
      rw[aq hpos,Int.toNat_natCast]
     ·intro j u hu
      rw[c7]
      simp only[Src.bS,List.getElem?_map,List.getElem?_take]at hu
      simp only[World.cell?,hm.aS hp]
      split at hu
      ·rw[List.getElem?_drop]at hu;simpa using hu
      ·simp at hu
     ·simp only[Src.bS,Src.len,List.length_map,List.length_take,List.length_drop];omega
     ·intro u hu
      simp only[Src.bS]at hu
      obtain⟨q,hq,rfl⟩:=List.mem_map.1 hu
      exact CV.ke q (List.all_eq_true.1 hc.2.2 q hq)
     ·simp only[ah,Src.len];omega
    ·cases h
   ·split at h
    ·rename_i l _ _ _ _ k hk
     have hsub:=qx hm hk
     obtain⟨e1,e2⟩:Src.seg k x y l=src∧l=le:=by simpa using h
     subst e1;subst e2
     rcases hok with ⟨hx,hy,hl,hj⟩ | hl
     ·refine⟨Or.inl ⟨⟨(ak ρ x).toNat,(ak ρ y).toNat,none⟩,(ak ρ c).toNat,?_,?_⟩,?_,?_,?_⟩
      ·simp only[TV.ev,SV.ev,CV.ev,Src.len]
       rw[aq hx]
      ·intro j u hu
       rw[c7]
       simp only[Src.bS,cl,List.getElem?_map]at hu
       by_cases hlt:j<(ak ρ l).toNat*size
       ·rw[List.getElem?_range hlt]at hu
        simp only[Option.map_some,Option.some.injEq]at hu
        obtain⟨v,hv,_⟩:=hj j hlt
        rw[hv,Option.getD_some]at hu
        subst hu
        exact Hl.fm hsub hv
       ·rw[List.getElem?_eq_none (by simp;omega)]at hu;cases hu
      ·simp [Src.bS,Src.len,cl]
      ·intro u hu
       simp only[Src.bS,cl]at hu
       obtain⟨j,hj',rfl⟩:=List.mem_map.1 hu
       obtain⟨v,hv,h1⟩:=hj j (List.mem_range.1 hj')
       rw[hv];exact h1
      ·simp only[Src.len];omega
     ·refine⟨?_,?_,?_,?_⟩
      ·cases hp:ar (ak ρ x) (ak ρ y)with
       | none =>
        refine Or.inr ⟨⟨(ak ρ c).toNat,?_⟩,?_,?_⟩
        ·simp only[TV.ev,SV.ev,CV.ev,hp,hl];rfl
        ·simp [Src.len,hl]
        ·simp [Src.bS,cl,hl]
       | some a0 =>
        refine Or.inl ⟨a0,(ak ρ c).toNat,?_,?_⟩
        ·simp only[TV.ev,SV.ev,CV.ev,hp,Src.len]
        ·intro j u hu
         simp [Src.bS,cl,hl]at hu
      ·simp [Src.bS,Src.len,cl,hl]
      ·simp [Src.bS,cl,hl]
      ·simp [Src.len,hl]
    ·cases h
 ·cases h
theorem xQ (hA:Rel S w0 ρ st a w) (hu:st.upto st.nv=true) {t:TypeId} {x y:TV} {d:Option Tmp} {R:XR} {ty:TypeId} (h:FN P st t x y d=some R) (hn:R.need.holds C ms ρ)
 {K:Act→World→Prop} (hK:Fin S w0 C ρ st a d R K):∃ v' w',(Builtin.append_ #[t,t] ty #[x.ev ρ,y.ev ρ]).run P w=.ok v' w'∧K (a.put d v') w':=by
 unfold FN at h
 split at h
 ·rename_i el ht
  split at h
  ·rename_i i hi
   split at h
   ·rename_i z hz
    split at h
    ·rename_i hzs
     split at h
     ·rename_i sx sy sl sc src le hsrc
      split at h
      ·rename_i hup
       simp only[Bool.and_eq_true]at hup
       simp only at h
       have fin:∀ (mem':Mem) (H:bc) (Hw:(H.hl ρ).sub w) (R':XR),R'=⟨({st with mem:=mem',nv:=st.nv+2} : St).put d (some (.sv (.one (.sl (.var st.nv) (.lit 0) (mkAdd sl le) (.var (st.nv+1)))))),.pre (.app st.nv el i.size i.bytes (.sl sx sy sl sc) sl H src),some (.app st.nv el i.size i.bytes (.sl sx sy sl sc) sl H src)⟩ →
        R'.need.holds C ms ρ→Fin S w0 C ρ st a d R' K →
        (∀ w' (H':Hl) ρ',w.grownBy w' (CV.ev ρ (.sl sx sy sl sc)).ownBlock→ae st.nv ρ ρ'→H'.sub w'→ρ'.h st.nv=H'→(∀ b,H'.mem b→(H.hl ρ).mem b∨w.heap.size≤b)→(∀ b,(CV.ev ρ (.sl sx sy sl sc)).ownBlock=some b→(H.hl ρ).mem b)→MRel S w0 ρ' mem' w') →
        ∃ v' w',(Builtin.append_ #[t,t] ty #[TV.ev ρ (.sv (.one (.sl sx sy sl sc))),y.ev ρ]).run P w=.ok v' w'∧K (a.put d v') w':=by
        intro mem' H Hw R' hR' hn hK hmem
        subst hR'
        obtain⟨⟨xs,hown⟩,hl0,hok,h63,hby⟩:=hn
        obtain⟨s1,s2,s3,s4⟩:=pd hA.toMRel hsrc hok
        obtain⟨v',w',H',hr,o1,o2,o3,o4,o5,o6⟩:=xR (P:=P) (ty:=ty) Hw ht hi hz rfl rfl hzs.1 hzs.2 hown s2 s1 s3 h63 hby
        obtain⟨x',c',hv',hx1,hc1⟩:∃ x' c':Int,v'=.slice (ar x' 0) ((ak ρ sl).toNat+src.len ρ) c'.toNat∧ -1≤x'∧0≤c':=by
         rcases o1.2 with ⟨rfl,h0⟩ | ⟨g,cap,cur,rfl,_⟩
         ·exact⟨-1,0,by rw[h0];rfl,by omega,by omega⟩
         ·exact⟨g,cap,by rw[aq (by omega)];simp,by omega,by omega⟩
        subst hv'
        let ρ':=((ρ.dv st.nv x').dv (st.nv+1) c').iE st.nv H'
        have hg:ae st.nv ρ ρ':=((bX _ _ _ (Nat.le_refl _)).trans (bX _ _ _ (by omega))).trans (dn _ _ _ (Nat.le_refl _))
        have e1:ρ'.i st.nv=x':=by show((ρ.dv st.nv x').dv (st.nv+1) c').i st.nv=x';rw[AM _ _ _ _ (by omega),jc]
        have e2:ρ'.i (st.nv+1)=c':=by show((ρ.dv st.nv x').dv (st.nv+1) c').i (st.nv+1)=c';rw[jc]
        have e3:ρ'.h st.nv=H':=dX _ _ _
        have hob:∀ b,(CV.ev ρ (.sl sx sy sl sc)).ownBlock=some b→(H.hl ρ).mem b:=by
         intro b hb
         simp only[SV.ev,CV.ev]at hown hb
         rcases hown.2 with ⟨hq,_⟩ | ⟨g,cap,cur,hq,hgg,_⟩
         ·rw[hq]at hb;cases hb
         ·rw[hq]at hb;cases hb;unfold Hl.mem;rw[hgg];rfl
        refine⟨_,w',hr,hK ρ' _ w' hg ⟨⟨by rw[e1];exact hx1,by rw[e2];exact hc1,?_,?_,?_,?_⟩,rfl⟩ (Rel.step hA hu hg (hmem w' H' ρ' o3 hg o2 e3 (fun b hb=>(o5 b hb).imp id And.right) hob) _ _ _ _ ?_)⟩
        ·intro xs' hxs'
         have:xs'=xs:=by
          rcases hown.2 with ⟨hq,h0⟩ | ⟨g,cap,cur,hq,hgg,_,_,_,ht⟩
          ·have a1:=hown.1;have a2:=hxs'.1
           rw[h0]at a1 a2
           have b1:xs=[]:=List.eq_nil_of_length_eq_zero (by simpa using a1)
           have b2:xs'=[]:=List.eq_nil_of_length_eq_zero (by simpa using a2)
           rw[b1,b2]
          ·rcases hxs'.2 with ⟨hq',h0⟩ | ⟨g',cap',cur',hq',hgg',_,_,_,ht'⟩
           ·rw[hq]at hq';cases hq'
           ·rw[hq]at hq';cases hq'
            rw[hgg]at hgg';cases hgg'
            rw[←ht,←ht']
         subst this
         rw[e1,e2,e3]
         exact o1
        ·intro b hb hne
         rw[e3];exact o4 b hb hne
        ·intro b hb
         rw[e3]at hb
         rcases o5 b hb with h | ⟨h,_⟩
         ·exact Or.inl h
         ·right
          rw[e1]
          by_cases hx:0≤x'
          ·rw[aq hx]at h;simp only[Value.ownBlock,Option.some.injEq]at h;exact⟨h.symm,hx⟩
          ·have:x'= -1:=by omega
           rw[this]at h;cases h
        ·rw[e1]
         by_cases hx:0≤x'
         ·rcases o6 with h | ⟨b,hb,hl⟩
          ·left;rw[←h,aq hx];rfl
          ·right;left
           rw[aq hx]at hb;simp only[Value.ownBlock,Option.some.injEq]at hb
           intro hm;have:=Hl.sub_lt Hw hm;omega
         ·right;right;omega
        ·intro u hu'
         cases hu'
         simp only[TV.ev,SV.ev,CV.ev,ai,ah,e1,e2,cZ,b9 hg hup.1,b9 hg hup.2,s4]
         congr 1
         omega
       split at h
       ·rename_i hx
        split at h
        ·cases h
         refine fin _ .dead (fun b o hb=>by cases hb) _ rfl hn hK ?_
         intro w' H' ρ' hgr hg hs he hd hob
         have hown:(CV.ev ρ (.sl sx sy sl sc)).ownBlock=none:=by
          cases hb:(CV.ev ρ (.sl sx sy sl sc)).ownBlock with
          | none=>rfl
          | some b=>have:=hob b hb;cases this
         rw[hown]at hgr
         refine hA.toMRel.add hgr.os hgr.tape hgr.output hgr.size (fun b hb=>hgr.block b hb (by simp)) (Mem.agree hg (St.cM hu)) (by show(ρ'.h st.nv).sub w';rw[he];exact hs) trivial ?_
         intro b hb
         have hb:(ρ'.h st.nv).mem b:=hb
         rw[he]at hb
         rcases hd b hb with h | h
         ·cases h
         ·exact h
        ·cases h
       ·split at h
        ·rename_i p k vers tags links hp
         cases h
         have hp:=bq hp
         refine fin _ (.hp k vers tags links) (hA.sub _ (List.mem_of_getElem? hp)) _ rfl hn hK ?_
         intro w' H' ρ' hgr hg hs he hd hob
         refine hA.toMRel.set hp rfl hgr.os hgr.tape hgr.output hgr.size (fun b hb hnm=>hgr.block b hb (fun e=>hnm (hob b e.symm))) (Mem.agree hg (St.cM hu)) (by show(ρ'.h st.nv).sub w';rw[he];exact hs) trivial ?_
         intro b hb
         have hb:(ρ'.h st.nv).mem b:=hb
         rw[he]at hb
         exact hd b hb
        ·rename_i p b cells T hp
         split at h
         ·rename_i o l c
          split at h
          ·cases h
           have hp:=bq hp
           refine fin _ (.aS b cells T) (hA.sub _ (List.mem_of_getElem? hp)) _ rfl hn hK ?_
           intro w' H' ρ' hgr hg hs he hd hob
           refine hA.toMRel.set hp rfl hgr.os hgr.tape hgr.output hgr.size (fun b hb hnm=>hgr.block b hb (fun e=>hnm (hob b e.symm))) (Mem.agree hg (St.cM hu)) (by show(ρ'.h st.nv).sub w';rw[he];exact hs) trivial ?_
           intro b hb
           have hb:(ρ'.h st.nv).mem b:=hb
           rw[he]at hb
           exact hd b hb
          ·split at h
           ·rename_i hc
            obtain⟨c0,c1,c2,c3,rfl⟩:=hc
            cases h
            have hp:=bq hp
            obtain⟨hok,hg1,h63,hby⟩:=hn
            obtain⟨s1,s2,s3,s4⟩:=pd hA.toMRel hsrc hok
            have hpos:0≤ρ.i b:=hA.pos _ (List.mem_of_getElem? hp)
            have hb:=hA.toMRel.aS hp
            obtain⟨cp,ob,hr,ho⟩:=vQ (P:=P) (w:=w) (ty:=ty) ht hi hz rfl rfl hzs.1 (b:=⟨(ρ.i b).toNat,o.toNat,none⟩) (n:=l.toNat) (cap:=c.toNat) (olds:=((cells.drop o.toNat).take (l.toNat*i.size)).map (CV.ev ρ))
             (by simp only[List.length_map,List.length_take,List.length_drop];omega)
             (fun j u hu'=>by
              rw[c7]
              simp only[List.getElem?_map,List.getElem?_take]at hu'
              simp only[World.cell?,hb]
              split at hu'
              ·rw[List.getElem?_drop]at hu';simpa using hu'
              ·simp at hu') s2 s1 hg1 (by omega) h63 hby
            let ρ':=((ρ.dv st.nv w.heap.size).dv (st.nv+1) cp).iE st.nv (Hl.one w.heap.size ob)
            have hg:ae st.nv ρ ρ':=((bX _ _ _ (Nat.le_refl _)).trans (bX _ _ _ (by omega))).trans (dn _ _ _ (Nat.le_refl _))
            have e1:ρ'.i st.nv=w.heap.size:=by show((ρ.dv st.nv w.heap.size).dv (st.nv+1) cp).i st.nv=_;rw[AM _ _ _ _ (by omega),jc]
            have e2:ρ'.i (st.nv+1)=cp:=by show((ρ.dv st.nv w.heap.size).dv (st.nv+1) cp).i (st.nv+1)=_;rw[jc]
            have e3:ρ'.h st.nv=Hl.one w.heap.size ob:=dX _ _ _
            refine⟨_,_,?_,hK ρ' (.slice (some ⟨w.heap.size,0,none⟩) (l.toNat+src.len ρ) cp) (w.drew.alloc ob) hg ⟨⟨by rw[e1];omega,by rw[e2];omega,?_,?_⟩,rfl⟩ (Rel.step hA hu hg ?_ _ _ _ _ ?_)⟩
            ·simp only[TV.ev,SV.ev,CV.ev,ai,ah]
             have hoo:ar (ρ.i b) o=some ⟨(ρ.i b).toNat,o.toNat,none⟩:=aq hpos
             rw[hoo];exact hr
            ·rw[e1,e2,e3,aq (by omega)]
             simpa using ho
            ·intro b' hb'
             rw[e3]at hb'
             rw[e1,Hl.cI.1 hb'];simp
            ·refine hA.toMRel.add rfl rfl rfl (by simp) (fun b' hb'=>RowKit.Below.heap_alloc w.drew _ b' hb') (Mem.agree hg (St.cM hu)) ?_ trivial ?_
             ·show(ρ'.h st.nv).sub _
              rw[e3]
              intro b' o' hb'
              obtain⟨rfl,rfl⟩:=Hl.jb hb'
              exact heap_alloc_new w.drew _
             ·intro b' hb'
              have hb':(ρ'.h st.nv).mem b':=hb'
              rw[e3]at hb'
              rw[Hl.cI.1 hb'];exact Nat.le_refl _
            ·intro u hu'
             cases hu'
             simp only[TV.ev,SV.ev,CV.ev,ai,ah,e1,e2,cZ,b9 hg hup.2,s4]
             rw[aq (by omega)]
             simp
             omega
           ·cases h
         ·cases h
        ·cases h
      ·cases h
     ·cases h
    ·cases h
   ·cases h
  ·cases h
 ·cases h
end
end Go.Sx
namespace Go.Sx
open Go
section
variable {P:Program} {C:Ctx} {ms:Nat→Nat} {S:Nat→Prop} {w0:World} {ρ ρ':Env} {st:St} {mem mem':Mem} {a:Act} {w w':World}
def Env.shift (ρ r:Env) (n:Nat) (hs:Nat→Hl):Env where
 i:=fun k=>if n≤k then r.i (k-n)else ρ.i k
 b:=fun k=>if n≤k then r.b (k-n)else ρ.b k
 s:=fun k=>if n≤k then r.s (k-n)else ρ.s k
 v:=fun k=>if n≤k then r.v (k-n)else ρ.v k
 h:=fun k=>if n≤k then hs (k-n)else ρ.h k
theorem kT (ρ r:Env) (n:Nat) (hs:Nat→Hl):ae n ρ (ρ.shift r n hs) :=
 ⟨fun k hk=>if_neg (by omega),fun k hk=>if_neg (by omega),fun k hk=>if_neg (by omega),fun k hk=>if_neg (by omega),fun k hk=>if_neg (by omega)⟩
theorem AP (ρ r:Env) (n:Nat) (hs:Nat→Hl) (k:Nat):(ρ.shift r n hs).h (n+k)=hs k:=by simp [Env.shift]
section
variable (ρ r:Env) (n:Nat) (hs:Nat→Hl)
theorem qd (m:Nat) (k:Ck):(k.cv (n+m)).ev (ρ.shift r n hs)=(k.cv m).ev r:=by
 have e:∀ j,n≤n+m+j:=fun j=>by omega
 have d:∀ j,n+m+j-n=m+j:=fun j=>by omega
 have e0:n≤n+m:=by omega
 have d0:n+m-n=m:=by omega
 cases k<;>simp [Ck.cv,CV.ev,ai,bY,aB,Env.shift,e,d,e0,d0]<;>rfl
theorem iG:∀ (ks:List Ck) (m:Nat),(al (n+m) ks).map (CV.ev (ρ.shift r n hs))=(al m ks).map (CV.ev r)
 | [],_=>rfl
 | k::ks,m=>by simp only[al,List.map_cons,qd,Nat.add_assoc,iG ks (m+k.len)]
theorem wb (m:Nat) (c:Cp):(c.sv (n+m)).ev (ρ.shift r n hs)=(c.sv m).ev r:=by
 cases c with
 | one k=>exact qd ρ r n hs m k
 | agg ks=>simp only[Cp.sv,SV.ev,iG]
theorem oF:∀ (l:List Cp) (m:Nat),(ct (n+m) l).map (SV.ev (ρ.shift r n hs))=(ct m l).map (SV.ev r)
 | [],_=>rfl
 | c::l,m=>by simp only[ct,List.map_cons,wb,Nat.add_assoc,oF l (m+c.len)]
theorem mN (m:Nat) (k:Ck):kf (n+m) (ρ.shift r n hs) k↔kf m r k:=by
 have e:∀ j,n≤n+m+j:=fun j=>by omega
 have d:∀ j,n+m+j-n=m+j:=fun j=>by omega
 have e0:n≤n+m:=by omega
 have d0:n+m-n=m:=by omega
 cases k<;>simp [kf,Env.shift,e,d,e0,d0]
theorem lK:∀ (ks:List Ck) (m:Nat),gx (n+m) ks (ρ.shift r n hs)↔gx m ks r
 | [],_=>Iff.rfl
 | k::ks,m=>by simp only[gx,mN,Nat.add_assoc,lK ks (m+k.len)]
theorem lL:∀ (l:List Cp) (m:Nat),dN (n+m) l (ρ.shift r n hs)↔dN m l r
 | [],_=>Iff.rfl
 | c::l,m=>by
  have h:yj (n+m) (ρ.shift r n hs) c↔yj m r c:=by
   cases c with
   | one k=>exact mN ρ r n hs m k
   | agg ks=>exact lK ρ r n hs ks m
  simp only[dN,h,Nat.add_assoc,lL l (m+c.len)]
theorem yk (l:List Cp):(df n l).ev (ρ.shift r n hs)=(df 0 l).ev r:=by
 unfold df
 split
 ·exact wb ρ r n hs 0 _
 ·have:=oF ρ r n hs l 0
  rw[Nat.add_zero]at this
  simp only[TV.ev,this]
end
theorem rI (mem:Mem) (ps:List (Nat×bc)) (q:Nat):(kS mem ps)[q]?=(mem[q]?).map fun r=>match ps.find? fun x=>x.1==q with | some x=>x.2 | none=>r:=by
 unfold kS;exact jM
theorem lT (mem:Mem) (ps:List (Nat×bc)):(kS mem ps).length=mem.length:=by simp [kS]
theorem u7 {args:List TV} {s:Iw} {p:Nat} {r:bc} (h:zq args mem s=some (p,r)):mem[p]?=some r∧r.own=true:=by
 unfold zq at h
 split at h
 ·split at h
  ·split at h
   ·rename_i hp
    split at h
    ·cases h;exact⟨bq hp,‹_›⟩
    ·cases h
   ·cases h
  ·cases h
 ·split at h
  ·split at h
   ·split at h
    ·split at h
     ·rename_i hp
      split at h
      ·cases h;exact⟨bq hp,‹_›⟩
      ·cases h
     ·cases h
    ·cases h
   ·split at h
    ·split at h
     ·rename_i hp
      split at h
      ·cases h;exact⟨bq hp,‹_›⟩
      ·cases h
     ·cases h
    ·cases h
   ·cases h
  ·cases h
 ·split at h
  ·split at h
   ·split at h
    ·split at h
     ·split at h
      ·split at h
       ·rename_i hp
        split at h
        ·cases h;exact⟨bq hp,‹_›⟩
        ·cases h
       ·cases h
      ·cases h
     ·cases h
    ·cases h
   ·cases h
  ·cases h
theorem lS {mem:Mem} {r:Nat×bc} (h:mem[r.1]?=some r.2):mem[(lB mem r).1]?=some (lB mem r).2∨(lB mem r=(mem.length,.dead)):=by
 unfold lB
 split
 ·split
  ·split
   ·rename_i q hp
    left;exact bq (p:=q.1) (r:=q.2) hp
   ·right;rfl
  ·right;rfl
 ·split
  ·left;exact h
  ·split
   ·rename_i q hp
    left;have:=(hZ (q:=q.1) (r:=q.2) hp).2;simpa using this
   ·left;exact h
 ·left;exact h
theorem oY (args:List TV) (mem:Mem) (i:Nat):mem[(oX args mem i).1]?=some (oX args mem i).2∨(oX args mem i=(mem.length,.dead)):=by
 unfold oX
 by_cases h6:6000000≤i
 ·rw[if_pos h6]
  cases hp:mem[i-6000000]? with
  | some r=>left;exact hp
  | none=>right;rfl
 rw[if_neg h6]
 split
 ·split
  ·split
   ·split
    ·split
     ·rename_i r hp
      left;exact bq (p:=r.1) (r:=r.2) hp
     ·right;rfl
    ·right;rfl
   ·split
    ·rename_i r hp
     left;exact bq (p:=r.1) (r:=r.2) hp
    ·right;rfl
   ·right;rfl
  ·right;rfl
 split
 ·split
  ·split
   ·split
    ·rename_i r hp
     exact lS (bq (p:=r.1) (r:=r.2) hp)
    ·right;rfl
   ·right;rfl
  ·right;rfl
 split
 ·split
  ·split
   ·rename_i r hp
    exact lS (bq (p:=r.1) (r:=r.2) hp)
   ·right;rfl
  ·right;rfl
 split
 ·split
  ·rename_i r hp
   left;exact bq (p:=r.1) (r:=r.2) hp
  ·right;rfl
 split
 ·split
  ·split
   ·split
    ·rename_i r hp
     left;exact bq (p:=r.1) (r:=r.2) hp
    ·right;rfl
   ·right;rfl
  ·right;rfl
 split
 ·split
  ·split
   ·split
    ·rename_i r hp
     left;exact bq (p:=r.1) (r:=r.2) hp
    ·right;rfl
   ·right;rfl
  ·right;rfl
 split
 ·split
  ·split
   ·split
    ·split
     ·rename_i r hp
      left;exact bq (p:=r.1) (r:=r.2) hp
     ·right;rfl
    ·right;rfl
   ·rename_i r _ hp
    left;exact bq (p:=r.1) (r:=r.2) hp
   ·right;rfl
  ·right;rfl
 split
 ·split
  ·split
   ·split
    ·rename_i r hp
     left;exact bq (p:=r.1) (r:=r.2) hp
    ·right;rfl
   ·right;rfl
  ·right;rfl
 split
 ·split
  ·rename_i r hp
   left;have:=(hZ (q:=r.1) (r:=r.2) hp).2;simpa using this
  ·right;rfl
 ·split
  ·split
   ·rename_i r hp
    left;exact bq (p:=r.1) (r:=r.2) hp
   ·right;rfl
  ·right;rfl
theorem vP {α β:Type} {f:α→Option β} : ∀ {l:List α} {m:List β},fq (l.map f)=some m→m.length=l.length∧∀ x∈m,∃ y∈l,f y=some x:=by
 intro l m h
 obtain⟨h1,h2⟩:=iF h
 refine⟨by simpa using h1,fun x hx=>?_⟩
 obtain⟨j,hj⟩:=List.getElem?_of_mem hx
 have:=h2 j x hj
 rw[List.getElem?_map,Option.map_eq_some_iff]at this
 obtain⟨y,hy,e⟩:=this
 exact⟨y,List.mem_of_getElem? hy,e⟩
theorem yx {ps:List (Nat×bc)} (hn:(ps.map (·.1)).Nodup) {q:Nat×bc} (hq:q∈ps):ps.find? (fun x=>x.1==q.1)=some q:=by
 induction ps with
 | nil=>cases hq
 | cons x l ih =>
  rw[List.map_cons,List.nodup_cons]at hn
  rw[List.find?_cons]
  rcases List.mem_cons.1 hq with rfl | hq
  ·simp
  ·have:¬x.1=q.1:=fun e=>hn.1 (e▸List.mem_map_of_mem hq)
   have hb:(x.1==q.1)=false:=by simpa using this
   rw[hb]
   exact ih hn.2 hq
theorem vV (hΓ:∀ s∈C.Γ,s.OK P) (hA:Rel S w0 ρ st a w) (hu:st.upto st.nv=true) {f:FuncId} {args:List TV} {d:Option Tmp} {R:XR} (h:Cy C.Γ st f args d=some R) (hn:R.need.holds C ms ρ)
 {K:Act→World→Prop} (hK:Fin S w0 C ρ st a d R K):Calls P f (args.map (TV.ev ρ)).toArray w fun e w'=>∃ v,e=.returned v∧K (a.put d v) w':=by
 unfold Cy at h
 split at h
 ·rename_i j hj
  split at h
  ·rename_i s hs
   split at h
   ·rename_i own hown
    simp only at h
    split at h
    ·rename_i hnd
     cases h
     simp only[Bool.and_eq_true,decide_eq_true_eq,List.all_eq_true,Bool.not_eq_true']at hnd
     obtain⟨hnd,hrd⟩:=hnd
     have hf:s.fn=f:=by
      have:=List.findIdx?_eq_some_iff_getElem.1 hj
      obtain⟨hlt,hp,_⟩:=this
      rw[List.getElem?_eq_getElem hlt]at hs
      cases hs
      simpa using hp
     obtain⟨hlen,hsel⟩:=vP hown
     have hm:=hA.toMRel
     have hpos:∀ q∈own,st.mem[q.1]?=some q.2∧q.2.own=true:=fun q hq=>by
      obtain⟨y,_,hy⟩:=hsel q hq
      exact u7 hy
     have hpos':∀ (i:Nat) q,own[i]?=some q→st.mem[q.1]?=some q.2∧q.2.own=true:=fun i q hq=>hpos q (List.mem_of_getElem? hq)
     have hne:∀ (i k:Nat) q q',i≠k→own[i]?=some q→own[k]?=some q'→q.1≠q'.1:=by
      intro i k q q' hik hi hk e
      have h1:(own.map (·.1))[i]?=some q.1:=by rw[List.getElem?_map,hi];rfl
      have h2:(own.map (·.1))[k]?=some q.1:=by rw[List.getElem?_map,hk,e];rfl
      exact hik ((List.getElem?_inj (List.getElem?_eq_some_iff.1 h1).1 hnd).1 (h1.trans h2.symm))
     let Hs:=own.map (fun q=>q.2.hl ρ)
     let Rs:=(s.rd.map (oX args st.mem)).map (fun q=>q.2.hl ρ)
     have hn:s.pre (args.map (TV.ev ρ)) Hs Rs:=by
      have hn:(X.call j st.nv args (own.map (·.2)) ((s.rd.map (oX args st.mem)).map (·.2))).pre C ρ:=hn
      simp only[X.pre,hs]at hn
      simpa [Hs,Rs,Function.comp_def] using hn
     have hcall:=hΓ s (List.mem_of_getElem? hs) w (args.map (TV.ev ρ)) Hs Rs (by simp [Hs,hlen]) (by simp [Rs])
      (fun H hH=>by obtain⟨q,hq,rfl⟩:=List.mem_map.1 hH;exact hm.sub _ (List.mem_of_getElem? (hpos q hq).1))
      (fun H hH=>by
       obtain⟨q,hq,rfl⟩:=List.mem_map.1 hH
       obtain⟨i,_,rfl⟩:=List.mem_map.1 hq
       rcases oY args st.mem i with h | h
       ·exact hm.sub _ (List.mem_of_getElem? h)
       ·rw[h];intro b o hb;cases hb)
      (fun p q H K hpq hp hq=>by
       simp only[Hs,List.getElem?_map,Option.map_eq_some_iff]at hp hq
       obtain⟨x,hx,rfl⟩:=hp
       obtain⟨y,hy,rfl⟩:=hq
       exact hm.ch _ _ _ _ (hne p q x y hpq hx hy) (hpos' p x hx).1 (hpos' q y hy).1 (hpos' p x hx).2)
      (fun H hH K hK'=>by
       obtain⟨q,hq,rfl⟩:=List.mem_map.1 hH
       obtain⟨r,hr,rfl⟩:=List.mem_map.1 hK'
       obtain⟨i,hi,rfl⟩:=List.mem_map.1 hr
       rcases oY args st.mem i with h | h
       ·refine hm.ch _ _ _ _ (fun e=>?_) (hpos q hq).1 h (hpos q hq).2
        have:=hrd _ hr
        rw[←e]at this
        have hc:(own.map (·.1)).contains q.1=true:=List.contains_iff_mem.2 (List.mem_map_of_mem hq)
        rw[hc]at this;cases this
       ·rw[h];rintro b ⟨_,y⟩;cases y)
      hn
     rw[hf]at hcall
     refine hcall.mono fun e w' ⟨r,Hs',F,he,hnorm,ht,hpost⟩=>⟨_,he,?_⟩
     have hl':Hs'.length=own.length:=by rw[ht.len];simp [Hs]
     let ρ':=ρ.shift r st.nv (fun k=>if k<own.length then Hs'.getD k Hl.none else F)
     have hg:ae st.nv ρ ρ':=kT _ _ _ _
     have eh:∀ k,k<own.length→ρ'.h (st.nv+k)=Hs'.getD k Hl.none:=fun k hk=>by rw[AP];exact if_pos hk
     have eF:ρ'.h (st.nv+own.length)=F:=by rw[AP];exact if_neg (by omega)
     have hnew:newHs ρ' st.nv own.length=Hs':=by
      apply List.ext_getElem?
      intro k
      unfold newHs
      rw[List.getElem?_map]
      by_cases hk:k<own.length
      ·rw[List.getElem?_range hk]
       simp only[Option.map_some]
       rw[eh k hk,List.getD_eq_getElem?_getD,List.getElem?_eq_getElem (by omega)]
       rfl
      ·rw[List.getElem?_eq_none (by simp;omega),List.getElem?_eq_none (by omega)];rfl
     have etv:(df st.nv s.res).ev ρ'=(df 0 s.res).ev r:=yk _ _ _ _ _
     let nps:=own.zipIdx.map fun q=>(q.1.1,q.1.2.kW (st.nv+q.2))
     have hnps:nps.map (·.1)=own.map (·.1):=by
      simp only[nps,List.map_map]
      have:((fun(x:Nat×bc)=>x.1)∘fun(q:(Nat×bc)×Nat)=>(q.1.1,q.1.2.kW (st.nv+q.2)))=(fun(x:Nat×bc)=>x.1)∘Prod.fst:=by funext q;rfl
      rw[this,←List.map_map]
      congr 1
      exact List.zipIdx_map_fst 0 own
     have hturn:∀ (k:Nat) q,own[k]?=some q→(kS st.mem nps)[q.1]?=some (q.2.kW (st.nv+k)):=by
      intro k q hq
      have hmem:(q.1,q.2.kW (st.nv+k))∈nps:=List.mem_map.2 ⟨(q,k),List.mk_mem_zipIdx_iff_getElem?.2 hq,rfl⟩
      rw[rI,(hpos' k q hq).1]
      have:=yx (by rw[hnps];exact hnd) hmem
      simp only at this
      simp [this]
     have hkeep:∀ (p:Nat),(∀ q∈own,q.1≠p)→(kS st.mem nps)[p]?=st.mem[p]?:=by
      intro p hp
      rw[rI]
      have:nps.find? (fun x=>x.1==p)=none:=by
       rw[List.find?_eq_none]
       intro x hx
       have:x.1∈own.map (·.1):=by rw[←hnps];exact List.mem_map_of_mem hx
       obtain⟨q,hq,e⟩:=List.mem_map.1 this
       simpa [←e] using hp q hq
      rw[this]
      simp
     have hturnhl:∀ (k:Nat) q,own[k]?=some q→(q.2.kW (st.nv+k)).hl ρ'=Hs'.getD k Hl.none∧(q.2.kW (st.nv+k)).pos ρ':=by
      intro k q hq
      have hk:k<own.length:=(List.getElem?_eq_some_iff.1 hq).1
      have:=(hpos' k q hq).2
      cases hr:q.2 with
      | aS b l T=>exact⟨eh k hk,trivial⟩
      | hp kk vers tags links=>exact⟨eh k hk,trivial⟩
      | ro kk tags any=>rw[hr]at this;cases this
      | dead=>exact⟨eh k hk,trivial⟩
     have hsubH:∀ k,k<own.length→Hs'.getD k Hl.none∈Hs':=fun k hk=>by
      rw[List.getD_eq_getElem?_getD,List.getElem?_eq_getElem (by omega)];exact List.getElem_mem _
     have hgetH:∀ k,k<own.length→Hs'[k]?=some (Hs'.getD k Hl.none):=fun k hk=>by
      rw[List.getD_eq_getElem?_getD,List.getElem?_eq_getElem (by omega)];rfl
     have hU:∀ b,(∃ H∈Hs,H.mem b)→∃ q∈own,(q.2.hl ρ).mem b:=fun b ⟨H,hH,hb⟩=>by
      obtain⟨q,hq,rfl⟩:=List.mem_map.1 hH;exact⟨q,hq,hb⟩
     have place:∀ (p:Nat) x,(kS st.mem nps++(if bO 0 s.res=[]then []else [bc.hp (st.nv+own.length) [] (bO st.nv s.res) (jg args s.links)]))[p]?=some x →
      (∃ (k:Nat) (q:Nat×bc),own[k]?=some q∧q.1=p∧x=q.2.kW (st.nv+k))∨((∀ q∈own,q.1≠p)∧p<st.mem.length∧st.mem[p]?=some x) ∨
      (p=st.mem.length∧bO 0 s.res≠[]∧x=bc.hp (st.nv+own.length) [] (bO st.nv s.res) (jg args s.links)):=by
      intro p x hp
      rw[List.getElem?_append]at hp
      split at hp
      ·rename_i hlt
       by_cases hq:∃ q∈own,q.1=p
       ·obtain⟨q,hq,rfl⟩:=hq
        obtain⟨k,hk⟩:=List.getElem?_of_mem hq
        rw[hturn k q hk]at hp
        exact Or.inl ⟨k,q,hk,rfl,(Option.some.inj hp).symm⟩
       ·have hq':∀ q∈own,q.1≠p:=fun q hm e=>hq ⟨q,hm,e⟩
        rw[hkeep p hq']at hp
        rw[lT]at hlt
        exact Or.inr (Or.inl ⟨hq',hlt,hp⟩)
      ·rename_i hge
       rw[lT]at hp hge
       split at hp
       ·simp at hp
       ·rename_i hr
        have:p-st.mem.length=0:=by
         rcases Nat.eq_zero_or_pos (p-st.mem.length)with h0 | h0
         ·exact h0
         ·rw[List.getElem?_eq_none (by simp;omega)]at hp;cases hp
        rw[this]at hp
        simp only[List.getElem?_cons_zero,Option.some.injEq]at hp
        exact Or.inr (Or.inr ⟨by omega,hr,hp.symm⟩)
     have hownlt:∀ q∈own,q.1<st.mem.length:=fun q hq=>(List.getElem?_eq_some_iff.1 (hpos q hq).1).1
     refine hK ρ' _ w' hg ⟨?_,rfl⟩ (Rel.step hA hu hg ?_ _ _ _ _ (fun y hy=>by cases hy;exact etv.symm))
     ·show X.rel C ρ ρ' (.call j st.nv args (own.map (·.2)) ((s.rd.map (oX args st.mem)).map (·.2)))
      simp only[X.rel,hs]
      refine⟨F,?_,fun _=>by rw[List.length_map];exact eF,(lL ρ r st.nv _ s.res 0).2 hnorm⟩
      rw[etv,List.length_map,hnew]
      simpa [Hs,Rs,Function.comp_def] using hpost
     ·refine hm.GP (fun b=>∃ H∈Hs,H.mem b) (fun p=>(∃ q∈own,q.1=p)∨p=st.mem.length) (fun b hb=>?_) ht.os ht.tape ht.output ht.size (fun b hl hb=>ht.block b hl (fun H hH hm=>hb ⟨H,hH,hm⟩)) ?_ ?_ ?_
      ·obtain⟨q,hq,hb⟩:=hU b hb
       exact⟨q.2,List.mem_of_getElem? (hpos q hq).1,(hpos q hq).2,hb⟩
      ·intro p x hp hnw
       rcases place p x hp with ⟨k,q,hk,rfl,_⟩ | ⟨h1,h2,h3⟩ | ⟨h1,_⟩
       ·exact absurd (Or.inl ⟨q,List.mem_of_getElem? hk,rfl⟩) hnw
       ·refine⟨h3,Mem.agree hg (St.cM hu) x (List.mem_of_getElem? h3),fun b hb hu'=>?_⟩
        obtain⟨q,hq,hqb⟩:=hU b hu'
        exact hm.ch _ _ _ _ (h1 q hq) (hpos q hq).1 h3 (hpos q hq).2 b ⟨hqb,hb⟩
       ·exact absurd (Or.inr h1) hnw
      ·intro p x hp hnw
       rcases place p x hp with ⟨k,q,hk,rfl,rfl⟩ | ⟨h1,h2,h3⟩ | ⟨h1,h2,rfl⟩
       ·have hkl:=(List.getElem?_eq_some_iff.1 hk).1
        obtain⟨e1,e2⟩:=hturnhl k q hk
        rw[e1]
        exact⟨⟨ht.sub _ (hsubH k hkl),e2⟩,fun b hb=>ht.dom _ (hsubH k hkl) b hb⟩
       ·rcases hnw with ⟨q,hq,e⟩ | e
        ·exact absurd e (h1 q hq)
        ·omega
       ·have e:(bc.hp (st.nv+own.length) [] (bO st.nv s.res) (jg args s.links)).hl ρ'=F:=eF
        rw[e]
        exact⟨⟨ht.fsub,trivial⟩,fun b hb=>ht.fdom b hb⟩
      ·intro p p' x y hne' hnw hnw' hp hp' _
       rcases place p x hp with ⟨k,q,hk,rfl,rfl⟩ | ⟨h1,h2,h3⟩ | ⟨h1,h2,rfl⟩
       ·have hkl:=(List.getElem?_eq_some_iff.1 hk).1
        rw[(hturnhl k q hk).1]
        rcases place p' y hp' with ⟨k',q',hk',rfl,rfl⟩ | ⟨h1',h2',h3'⟩ | ⟨h1',h2',rfl⟩
        ·have hkl':=(List.getElem?_eq_some_iff.1 hk').1
         rw[(hturnhl k' q' hk').1]
         exact ht.ch k k' _ _ (fun e=>by subst e;rw[hk]at hk';cases hk';exact hne' rfl) (hgetH k hkl) (hgetH k' hkl')
        ·rcases hnw' with ⟨q',hq',e⟩ | e
         ·exact absurd e (h1' q' hq')
         ·omega
        ·have e:(bc.hp (st.nv+own.length) [] (bO st.nv s.res) (jg args s.links)).hl ρ'=F:=eF
         rw[e]
         exact ht.fdis _ (hsubH k hkl)
       ·rcases hnw with ⟨q,hq,e⟩ | e
        ·exact absurd e (h1 q hq)
        ·omega
       ·have e:(bc.hp (st.nv+own.length) [] (bO st.nv s.res) (jg args s.links)).hl ρ'=F:=eF
        rw[e]
        rcases place p' y hp' with ⟨k',q',hk',rfl,rfl⟩ | ⟨h1',h2',h3'⟩ | ⟨h1',h2',rfl⟩
        ·have hkl':=(List.getElem?_eq_some_iff.1 hk').1
         rw[(hturnhl k' q' hk').1]
         exact Hl.gJ (ht.fdis _ (hsubH k' hkl'))
        ·rcases hnw' with ⟨q',hq',e⟩ | e
         ·exact absurd e (h1' q' hq')
         ·omega
        ·exact absurd (h1.trans h1'.symm) hne'
    ·cases h
   ·cases h
  ·cases h
 ·cases h
end
end Go.Sx
namespace Go.Sx
open Go
section
variable {P:Program} {C:Ctx} {ms:Nat→Nat} {S:Nat→Prop} {w0:World} {ρ ρ':Env} {st:St} {mem mem':Mem} {a:Act} {w w':World}
theorem zY (v:Value):∃ q:Env,((iq v).cv 0).ev q=v:=by
 let e0:Env:=⟨fun _=>0,fun _=>false,fun _=>.empty,fun _=>.tuple #[],fun _=>Hl.none⟩
 cases v with
 | int k n=>exact⟨{e0 with i:=fun _=>n},rfl⟩
 | bool b=>exact⟨{e0 with b:=fun _=>b},rfl⟩
 | string s=>exact⟨{e0 with s:=fun _=>s},rfl⟩
 | pointer p =>
  obtain⟨x,y,h,_⟩:=lE p
  exact⟨{e0 with i:=fun k=>if k=0 then x else y},by simp [iq,Ck.cv,CV.ev,ai,h]⟩
 | slice p n c =>
  obtain⟨x,y,h,_⟩:=lE p
  exact⟨{e0 with i:=fun k=>if k=0 then x else if k=1 then y else if k=2 then n else c},by simp [iq,Ck.cv,CV.ev,ai,h]⟩
 | map r =>
  cases r with
  | none=>exact⟨{e0 with i:=fun _=> -1},rfl⟩
  | some r =>
   refine⟨{e0 with i:=fun _=>r},?_⟩
   have e:¬((r:Int)= -1):=by omega
   simp only[iq,Ck.cv,CV.ev,ai,e,if_false,Int.toNat_natCast]
 | _=>exact⟨⟨fun _=>0,fun _=>false,fun _=>.empty,fun _=>_,fun _=>Hl.none⟩,rfl⟩
theorem zZ (k:Ck) (n:Nat):(k.cv n).upto (n+k.len)=true:=by
 cases k<;>simp [Ck.cv,CV.upto,E.upto,Ck.len]
theorem cr:∀ (ks:List Ck) (n:Nat),(al n ks).all (·.upto (n+fM ks))=true
 | [],_=>rfl
 | k::ks,n=>by
  simp only[al,List.all_cons,Bool.and_eq_true]
  have e:n+fM (k::ks)=n+k.len+fM ks:=by simp [fM];omega
  rw[e]
  refine⟨?_,cr ks (n+k.len)⟩
  have:∀ m,n+k.len≤m→(k.cv n).upto m=true:=by
   intro m hm
   cases k<;>simp [Ck.cv,CV.upto,E.upto,Ck.len]at hm ⊢<;>omega
  exact this _ (by omega)
theorem CD:∀ (vs:List Value),∃ q:Env,(al 0 (vs.map iq)).map (CV.ev q)=vs
 | []=>⟨⟨fun _=>0,fun _=>false,fun _=>.empty,fun _=>.tuple #[],fun _=>Hl.none⟩,rfl⟩
 | v::vs=>by
  obtain⟨q1,h1⟩:=zY v
  obtain⟨q2,h2⟩:=CD vs
  refine⟨q1.shift q2 (iq v).len (fun _=>Hl.none),?_⟩
  simp only[List.map_cons,al,Nat.zero_add]
  congr 1
  ·rw[CV.agree (kT q1 q2 (iq v).len _) _ (by have:=zZ (iq v) 0;rwa[Nat.zero_add]at this)];exact h1
  ·have:=iG q1 q2 (iq v).len (fun _=>Hl.none) (vs.map iq) 0
   rw[Nat.add_zero]at this
   rw[this];exact h2
theorem BT {ks:List Ck} {agg:Bool} {v:Value} (h:jo ks agg v):∃ q:Env,(iy 0 ks agg).ev q=v:=by
 unfold jo at h
 unfold iy
 split at h
 ·rename_i ha
  obtain⟨cs,rfl,hk⟩:=h
  obtain⟨q,hq⟩:=CD cs.toList
  rw[hk]at hq
  exact⟨q,by rw[if_pos ha];simp only[SV.ev,hq]⟩
 ·rename_i ha
  obtain⟨k,rfl,rfl⟩:=h
  obtain⟨q,hq⟩:=zY v
  exact⟨q,by rw[if_neg ha];exact hq⟩
theorem uF (ρ r:Env) (n:Nat) (hs:Nat→Hl) (ks:List Ck) (agg:Bool):(iy n ks agg).ev (ρ.shift r n hs)=(iy 0 ks agg).ev r:=by
 have h1:=iG ρ r n hs ks 0
 rw[Nat.add_zero]at h1
 unfold iy
 split
 ·simp only[SV.ev,h1]
 ·split
  ·rename_i k
   exact qd ρ r n hs 0 k
  ·simp only[SV.ev,h1]
theorem uD {n:Nat} {ks:List Ck} {agg:Bool} (hg:ae (n+fM ks) ρ ρ'):(iy n ks agg).ev ρ'=(iy n ks agg).ev ρ:=by
 have h1:=CV.dJ hg _ (cr ks n)
 unfold iy
 split
 ·simp only[SV.ev,h1]
 ·split
  ·rename_i k
   refine CV.agree hg _ ?_
   have:=zZ k n
   simpa [fM] using this
  ·simp only[SV.ev,h1]
theorem findNow_spec {kind:TypeDesc} {key:Value} : ∀ (l:List MapEntry) (i0 i:Nat) (v:Value),Instr.findNow kind key l i0=some (some (i,v))→i0≤i∧∃ e,l[i-i0]?=some e∧e.val=v∧Instr.sameNow kind key e.key=some true
 | [],_,_,_,h=>by simp [Instr.findNow]at h
 | e::l,i0,i,v,h=>by
  unfold Instr.findNow at h
  split at h
  ·rename_i hs
   simp only[Option.some.injEq,Prod.mk.injEq]at h
   obtain⟨rfl,rfl⟩:=h
   exact⟨Nat.le_refl _,e,by simp,rfl,hs⟩
  ·obtain⟨h1,e',h2,h3,h4⟩:=findNow_spec l (i0+1) i v h
   exact⟨by omega,e',by rw[show i-i0=(i-(i0+1))+1 by omega,List.getElem?_cons_succ];exact h2,h3,h4⟩
  ·cases h
theorem qD {t:TypeId} {kd:Kd} (h:sN P t=some kd):(∃ k,kd=.int k∧P.underlying t=some (.int k))∨(kd=.str∧P.underlying t=some .string):=by
 unfold sN at h
 split at h
 ·rename_i k hu;cases h;exact Or.inl ⟨k,rfl,hu⟩
 ·rename_i hu;cases h;exact Or.inr ⟨rfl,hu⟩
 ·cases h
theorem mM {t:TypeId} {kd:Kd} (h:sN P t=some kd) (e:Bool) (v:Value):(Instr.checkKey e 10000 t v).run P w=.ok () w:=by
 unfold Instr.checkKey
 rcases qD h with ⟨k,_,hu⟩ | ⟨_,hu⟩
 ·simp only[Sem.run_bind,run_underlying hu,Result.andThen_ok]
  cases v<;>rfl
 ·simp only[Sem.run_bind,run_underlying hu,Result.andThen_ok]
  cases v<;>rfl
theorem oI {t:TypeId} {kd:Kd} (h:sN P t=some kd) {key:Value} {es:Array MapEntry} {r:Option (Nat×Value)} (hf:iK kd key es=some r):(Instr.findKey t key es.toList).run P w=.ok r w:=by
 unfold Instr.findKey
 rcases qD h with ⟨k,rfl,hu⟩ | ⟨rfl,hu⟩
 ·simp only[Sem.run_bind,run_underlying hu,Result.andThen_ok]
  simp only[iK]at hf
  rw[hf];rfl
 ·simp only[Sem.run_bind,run_underlying hu,Result.andThen_ok]
  simp only[iK]at hf
  rw[hf];rfl
theorem l8 {r:Nat} {es:Array MapEntry} {c:Nat} (h:w.heap[r]?=some (.map es c)):(getObj r).run P w=.ok (.map es c) w:=by
 simp [getObj,Sem.run,h]
theorem mi {r:Nat} {es:Array MapEntry} {c:Nat} {o:Obj} (h:w.heap[r]?=some (.map es c)):(setObj r o).run P w=.ok () {w with heap:=w.heap.setIfInBounds r o}:=by
 simp [setObj,Sem.run,h]
theorem o7 {kd:Kd} {kind:TypeDesc} {key old:Value} (hk:(∃ k,kd=.int k∧kind=.int k)∨(kd=.str∧kind=.string)) (hs:Instr.sameNow kind key old=some true):Instr.sameBits 10000 old key=true:=by
 rcases hk with ⟨k,rfl,rfl⟩ | ⟨rfl,rfl⟩
 ·unfold Instr.sameNow at hs
  split at hs
  ·split at hs
   ·rename_i k1 a k2 b hk
    simp only[Option.some.injEq,beq_iff_eq]at hs
    subst hk;subst hs
    simp [Instr.sameBits]
   ·cases hs
  ·cases ‹TypeDesc.int k=.string›
  ·cases ‹TypeDesc.int k=.bool›
  ·cases hs
 ·unfold Instr.sameNow at hs
  split at hs
  ·cases ‹TypeDesc.string=.int _›
  ·simp only[Option.some.injEq]at hs
   rename_i a b _
   rw[xU,decide_eq_true_eq]at hs
   subst hs
   simp [Instr.sameBits,xU]
  ·cases ‹TypeDesc.string=.bool›
  ·cases hs
theorem Hl.zt {h:Hl} {x b:Nat} {o:Obj} (hx:h.mem x):(h.setObj x o).mem b↔h.mem b:=by
 unfold Hl.mem Hl.setObj
 split
 ·rename_i e;subst e;exact⟨fun _=>hx,fun _=>rfl⟩
 ·rfl
theorem zu {h:Hl} (hs:h.sub w) {x:Nat} {o:Obj} (hx:h.mem x):(h.setObj x o).sub {w with heap:=w.heap.setIfInBounds x o}:=by
 intro b o' hb
 unfold Hl.setObj at hb
 have hlt:=Hl.sub_lt hs hx
 split at hb
 ·rename_i e;subst e;cases hb;simp [hlt]
 ·rename_i e
  show(w.heap.setIfInBounds x o)[b]?=_
  rw[Array.getElem?_setIfInBounds_ne (fun h=>e h.symm)];exact hs b o' hb
theorem AN (hA:Rel S w0 ρ st a w) (hu:st.upto st.nv=true) {p h:Nat} {vers:List Nat} {tags links:List E} {x:Nat} {o:Obj} (hp:st.mem[p]?=some (.hp h vers tags links)) (hx:(ρ.h h).mem x) :
 ae st.nv ρ (ρ.iE st.nv ((ρ.h h).setObj x o))∧MRel S w0 (ρ.iE st.nv ((ρ.h h).setObj x o)) (st.mem.set p (.hp st.nv (h::vers) tags links)) {w with heap:=w.heap.setIfInBounds x o}:=by
 have hg:ae st.nv ρ (ρ.iE st.nv ((ρ.h h).setObj x o)):=dn _ _ _ (Nat.le_refl _)
 have e:(ρ.iE st.nv ((ρ.h h).setObj x o)).h st.nv=(ρ.h h).setObj x o:=dX _ _ _
 have hsub:(ρ.h h).sub w:=hA.sub _ (List.mem_of_getElem? hp)
 refine⟨hg,hA.toMRel.set hp rfl rfl rfl rfl (by simp) (fun b _ hn=>?_) (Mem.agree hg (St.cM hu)) ?_ trivial ?_⟩
 ·show(w.heap.setIfInBounds x o)[b]?=_
  rw[Array.getElem?_setIfInBounds_ne (fun e=>hn (by subst e;exact hx))]
 ·show((ρ.iE st.nv ((ρ.h h).setObj x o)).h st.nv).sub _
  rw[e];exact zu hsub hx
 ·intro b hb
  have hb:((ρ.iE st.nv ((ρ.h h).setObj x o)).h st.nv).mem b:=hb
  rw[e]at hb
  exact Or.inl ((Hl.zt hx).1 hb)
theorem jL (hA:Rel S w0 ρ st a w) (hu:st.upto st.nv=true) {o:Oper} {R:XR} (h:Bt P st o.op o.dst=some R) (hn:R.need.holds C ms ρ)
 {K:Act→World→Prop} {Q:Exit→Act→World→Prop} (hK:Fin S w0 C ρ st a o.dst R K):o.wp P a w K Q:=by
 unfold Bt at h
 split at h
 ·rename_i t hop
  split at h
  ·rename_i kt vt hu'
   cases h
   let ρ':=(ρ.dv st.nv w.heap.size).iE st.nv (Hl.one w.heap.size (.map #[] 0))
   have hg:ae st.nv ρ ρ':=(bX _ _ _ (Nat.le_refl _)).trans (dn _ _ _ (Nat.le_refl _))
   have e1:ρ'.i st.nv=w.heap.size:=by show(ρ.dv st.nv w.heap.size).i st.nv=_;rw[jc]
   have e3:ρ'.h st.nv=Hl.one w.heap.size (.map #[] 0):=dX _ _ _
   have hrun:(execOp a.eval o).run P w=.ok (.value (.map (some w.heap.size))) (w.alloc (.map #[] 0)):=by
    unfold execOp;rw[hop]
    simp [Instr.makeMap,Sem.run_bind]
   refine dm hrun (hK ρ' _ _ hg ⟨⟨by rw[e1];omega,by rw[e1,Int.toNat_natCast];exact e3⟩,rfl⟩ (Rel.step hA hu hg ?_ _ _ _ _ ?_))
   ·refine hA.toMRel.add rfl rfl rfl (by simp) (fun b hb=>RowKit.Below.heap_alloc w _ b hb) (Mem.agree hg (St.cM hu)) ?_ trivial ?_
    ·show(ρ'.h st.nv).sub _
     rw[e3];intro b o hb
     obtain⟨rfl,rfl⟩:=Hl.jb hb
     exact heap_alloc_new w _
    ·intro b hb
     have hb:(ρ'.h st.nv).mem b:=hb
     rw[e3]at hb
     rw[Hl.cI.1 hb];exact Nat.le_refl _
   ·intro y hy;cases hy
    simp only[TV.ev,SV.ev,CV.ev,ai,e1]
    rw[if_neg (by omega)];simp
  ·cases h
 ·rename_i t m k ok hop
  split at h
  ·rename_i kt vt hut
   split at h
   ·rename_i kd z agg x key hkd hz hagg hm hk
    split at h
    ·rename_i hh zs hfh hlz
     by_cases hcond:(Db kd key&&(agg==isAgg z)&&(agg||(z.cells.toList.map iq).length==1))=true
     ·rw[if_pos hcond]at h
      have h:=Option.some.inj h
      subst h
      simp only[Bool.and_eq_true]at hcond
      obtain⟨⟨hkey,hag⟩,hlen⟩:=hcond
      have hsub:=qx hA.toMRel hfh
      obtain⟨hx,es,clock,r,hes,hf,hshape⟩:=hn
      have em:=ay hA hm
      have ek:=ay hA hk
      simp only[TV.ev,SV.ev,CV.ev]at em
      simp only[TV.ev,SV.ev]at ek
      rw[if_neg (by omega)]at em
      have hw:=hsub _ _ hes
      have hzv:zs.ev ρ=z:=by
       have:=Av ρ z
       rw[hlz]at this;exact this
      let v:Value:=match r with | some (_,v)=>v | none=>z
      have hsh:jo (z.cells.toList.map iq) agg v:=by
       cases r with
       | some p=>exact hshape p.1 p.2 rfl
       | none =>
        show jo _ _ z
        unfold jo
        cases agg with
        | true =>
         rw[if_pos rfl]
         cases z with
         | agg cs=>exact⟨cs,rfl,rfl⟩
         | _=>simp [isAgg]at hag
        | false =>
         rw[if_neg (by simp)]
         cases z with
         | agg cs=>simp [isAgg]at hag
         | _=>exact⟨_,rfl,rfl⟩
      obtain⟨q,hq⟩:=BT hsh
      let ρ1:=ρ.shift q st.nv (fun _=>Hl.none)
      let ρ':=ρ1.BR (st.nv+fM (z.cells.toList.map iq)) r.isSome
      have hg1:ae st.nv ρ ρ1:=kT _ _ _ _
      have hg2:ae (st.nv+fM (z.cells.toList.map iq)) ρ1 ρ':=pQ _ _ _ (Nat.le_refl _)
      have hg:ae st.nv ρ ρ':=hg1.trans (hg2.mono (by omega))
      have ev:(iy st.nv (z.cells.toList.map iq) agg).ev ρ'=v:=by
       rw[uD hg2,uF];exact hq
      have eb:ρ'.b (st.nv+fM (z.cells.toList.map iq))=r.isSome:=by simp [ρ',Env.BR]
      have hrun:(execOp a.eval o).run P w=.ok (.value (if ok then .tuple #[v,.bool r.isSome]else v)) w:=by
       unfold execOp;rw[hop]
       simp only[Sem.run_bind,em,ek,Instr.lookup,run_underlying hut,Result.andThen_ok,l8 hw,Sem.run_pure,mM hkd,oI hkd hf]
       cases r with
       | some p=>simp only[Sem.run_pure,Result.andThen_ok];rfl
       | none=>simp only[Sem.run_pure,Result.andThen_ok,Sem.run_bind,jB hz];rfl
      refine dm hrun (hK ρ' _ _ hg ⟨?_,rfl⟩ (Rel.step hA hu hg (hA.toMRel.agree (Mem.agree hg (St.cM hu))) _ _ _ _ ?_))
      ·intro es' clock' r' h1 h2
       rw[hes]at h1;cases h1
       rw[hf]at h2;cases h2
       refine⟨?_,eb⟩
       rw[ev]
       cases r with
       | some p=>rfl
       | none=>exact hzv.symm
      ·intro y hy;cases hy
       cases ok with
       | true =>
        have e2:(SV.one (CV.bool (.bvar (st.nv+fM (z.cells.toList.map iq))))).ev ρ'=.bool r.isSome:=by show Value.bool (ρ'.b _)=_;rw[eb]
        simp only[if_true,TV.ev,List.map_cons,List.map_nil,ev,e2]
       | false=>simp only[Bool.false_eq_true,if_false,TV.ev,ev]
     ·rw[if_neg hcond]at h;cases h
    ·cases h
   ·cases h
  ·cases h
 ·rename_i t m k v hop
  split at h
  ·rename_i kt vt hut
   split at h
   ·rename_i kd x key vs hkd hm hk hv
    split at h
    ·rename_i hkey
     split at h
     ·rename_i p hh vers tags links hfp
      cases h
      have hp:=fy hfp
      obtain⟨hx,es,clock,r,hes,hf⟩:=hn
      have em:=ay hA hm
      have ek:=ay hA hk
      have ev:=ay hA hv
      simp only[TV.ev,SV.ev,CV.ev]at em
      simp only[TV.ev,SV.ev]at ek
      simp only[TV.ev]at ev
      rw[if_neg (by omega)]at em
      have hsub:(ρ.h hh).sub w:=hA.sub _ (List.mem_of_getElem? hp)
      have hw:=hsub _ _ hes
      have hxm:(ρ.h hh).mem (ak ρ x).toNat:=by unfold Hl.mem;rw[hes];rfl
      obtain⟨hg,hm'⟩:=AN (o:=me kd (key.ev ρ) (vs.ev ρ) es clock) hA hu hp hxm
      have hrun:(execOp a.eval o).run P w=.ok .skip {w with heap:=w.heap.setIfInBounds (ak ρ x).toNat (me kd (key.ev ρ) (vs.ev ρ) es clock)}:=by
       unfold execOp;rw[hop]
       simp only[Sem.run_bind,em,ek,ev,Instr.mapUpdate,run_underlying hut,Result.andThen_ok,l8 hw,mM hkd,oI hkd hf]
       cases r with
       | some q =>
        obtain⟨i,v0⟩:=q
        have hsame:Instr.sameBits 10000 (((es[i]?).map (·.key)).getD (key.ev ρ)) (key.ev ρ)=true:=by
         rcases qD hkd with ⟨kk,rfl,_⟩ | ⟨rfl,_⟩
         ·obtain⟨_,e,he,_,hs⟩:=findNow_spec _ _ _ _ hf
          rw[Nat.sub_zero]at he
          have he':es[i]?=some e:=by simpa using he
          rw[he']
          exact o7 (Or.inl ⟨kk,rfl,rfl⟩) hs
         ·obtain⟨_,e,he,_,hs⟩:=findNow_spec _ _ _ _ hf
          rw[Nat.sub_zero]at he
          have he':es[i]?=some e:=by simpa using he
          rw[he']
          exact o7 (Or.inr ⟨rfl,rfl⟩) hs
        simp only[Instr.keyThatStays,hsame,if_true,Sem.run_bind,Sem.run_pure,Result.andThen_ok,mi hw,me,hf]
       | none=>simp only[mi hw,me,hf,Result.andThen_ok,Sem.run_pure]
      refine r8 hrun (hK _ _ _ hg ⟨?_,rfl⟩ (Rel.step hA hu hg hm' _ _ _ _ (fun y hy=>by cases hy)))
      intro es' clock' h1
      rw[hes]at h1;cases h1
      exact dX _ _ _
     ·cases h
    ·cases h
   ·cases h
  ·cases h
 ·rename_i args ats hop
  split at h
  ·rename_i m t ha hts
   split at h
   ·rename_i kt vt x hut hm
    split at h
    ·rename_i p hh vers tags links hfp
     cases h
     have hp:=fy hfp
     obtain⟨hx,es,clock,hes⟩:=hn
     have em:=ay hA hm
     simp only[TV.ev,SV.ev,CV.ev]at em
     rw[if_neg (by omega)]at em
     have hsub:(ρ.h hh).sub w:=hA.sub _ (List.mem_of_getElem? hp)
     have hw:=hsub _ _ hes
     have hxm:(ρ.h hh).mem (ak ρ x).toNat:=by unfold Hl.mem;rw[hes];rfl
     obtain⟨hg,hm'⟩:=AN (o:=.map #[] clock) hA hu hp hxm
     have ea:args.map a.eval=#[.map (some (ak ρ x).toNat)]:=by
      obtain⟨l⟩:=args
      simp only at ha
      subst ha
      simp [em]
     have et:ats=#[t]:=by obtain⟨l⟩:=ats;simp only at hts;rw[hts]
     have hrun:(execOp a.eval o).run P w=.ok (.value (.tuple #[])) {w with heap:=w.heap.setIfInBounds (ak ρ x).toNat (.map #[] clock)}:=by
      obtain⟨dst,op,ty,pos,af,gd⟩:=o
      simp only at hop
      subst hop
      rw[BigFrame.execOp_builtin,ea,et]
      unfold builtin
      have e5:(Builtin.clear_ #[t] ty #[Value.map (some (ak ρ x).toNat)]).run P w=.ok (.tuple #[]) {w with heap:=w.heap.setIfInBounds (ak ρ x).toNat (.map #[] clock)}:=by
       unfold Builtin.clear_
       simp [run_underlying hut,l8 hw,mi hw,Sem.run_bind]
      rw[Sem.run_bind,e5];rfl
     refine dm hrun (hK _ _ _ hg ⟨?_,rfl⟩ (Rel.step hA hu hg hm' _ _ _ _ (fun y hy=>by cases hy)))
     intro es' clock' h1
     rw[hes]at h1;cases h1
     exact dX _ _ _
    ·cases h
   ·cases h
  ·cases h
 ·cases h
end
end Go.Sx
namespace Go.Sx
open Go
section
variable {P:Program} {C:Ctx} {ms:Nat→Nat} {S:Nat→Prop} {w0:World} {ρ:Env} {st:St} {mem:Mem} {a:Act} {w:World}
theorem Ao (hA:MRel S w0 ρ mem w) {x:E} {h:Nat} (hf:(ug mem x).bind (fun r=>r.2.hk)=some h):(ρ.h h).sub w:=by
 cases hq:ug mem x with
 | none=>rw[hq]at hf;cases hf
 | some r =>
  rw[hq]at hf
  obtain⟨q,r⟩:=r
  have hp:=fy hq
  have hs:=hA.sub _ (List.mem_of_getElem? hp)
  cases r<;>simp [bc.hk]at hf
  ·subst hf;exact hs
  ·subst hf;exact hs
theorem mJ {h:Hl} {x y n j:Nat} (hb:cN h x y n=true) (hj:j<n):∃ z,h.cell x (y+j)=some (.int .u8 z):=by
 unfold cN at hb
 have:=List.all_eq_true.1 hb j (List.mem_range.2 hj)
 cases hc:h.cell x (y+j)with
 | none=>rw[hc]at this;cases this
 | some v =>
  rw[hc]at this
  cases v<;>simp [cx]at this
  subst this;exact⟨_,rfl⟩
theorem Ct (hA:MRel S w0 ρ mem w) {q b:Nat} {m:List CV} {T:TypeId} (hq:mem[q]?=some (.aS b m T)) {j:Nat} {c:CV} (hc:m[j]?=some c):w.cell? ⟨(ρ.i b).toNat,j,none⟩=some (c.ev ρ):=by
 have:=hA.aS hq
 have hj:j<m.length:=(List.getElem?_eq_some_iff.1 hc).1
 simp [World.cell?,this,hj,(List.getElem?_eq_some_iff.1 hc).2]
theorem sk (hA:MRel S w0 ρ mem w) {el:TypeId} {p L:Nat} {yd n xs ys ls k:E} {src:Nat→Option CV} (h:ua P mem el p L yd n xs ys ls=some (k,src)) (hk:bo ρ k=true) (hy0:0≤ak ρ yd) (hfit:ak ρ yd+ak ρ n≤L) :
 (ak ρ xs= -1∧ak ρ ls=0)∨∃ b o,ar (ak ρ xs) (ak ρ ys)=some ⟨b,o,none⟩∧∀ j:Nat,ak ρ yd≤j→(j:Int)<ak ρ yd+ak ρ n→∃ s,src j=some s∧w.cell? ⟨b,o+(j-(ak ρ yd).toNat),none⟩=some (s.ev ρ):=by
 unfold ua at h
 split at h
 ·rename_i q m T hq
  split at h
  ·cases h
  ·rename_i hqp
   have hx:∃ bs,xs=.var bs∧mT mem bs=some (q,m,T):=by
    cases xs<;>simp at hq
    exact⟨_,rfl,hq⟩
   obtain⟨bs,rfl,hf⟩:=hx
   have hp:=dE hf
   have hpos:0≤ρ.i bs:=hA.pos _ (List.mem_of_getElem? hp)
   split at h
   ·rename_i hc
    cases h
    obtain⟨rfl,hl⟩:=hc
    refine Or.inr ⟨(ρ.i bs).toNat,(ak ρ yd).toNat,by rw[ai,aq hpos],fun j h0 h1=>?_⟩
    have hj:j<m.length:=by omega
    refine⟨m[j],List.getElem?_eq_getElem hj,?_⟩
    rw[show(ak ρ yd).toNat+(j-(ak ρ yd).toNat)=j by omega]
    exact Ct hA hp (List.getElem?_eq_getElem hj)
   ·split at h
    ·rename_i o o' _
     split at h
     ·rename_i hoo
      cases h
      simp only[aY,cZ,ah,decide_eq_true_eq]at hk
      rw[ah]at hy0 hfit
      refine Or.inr ⟨(ρ.i bs).toNat,o'.toNat,by rw[ai,ah,aq hpos],fun j h0 h1=>?_⟩
      rw[ah]at h0 h1 ⊢
      have hj:j-o.toNat+o'.toNat<m.length:=by omega
      refine⟨m[j-o.toNat+o'.toNat],by simp only;rw[if_pos (by omega),List.getElem?_eq_getElem hj],?_⟩
      rw[Nat.add_comm o'.toNat]
      exact Ct hA hp (List.getElem?_eq_getElem hj)
     ·cases h
    ·cases h
 ·split at h
  ·rename_i o hh hhk
   split at h
   ·rename_i hoo
    cases h
    simp only[mD,dx,aL,aY,ah,Bool.and_eq_true,Bool.or_eq_true,decide_eq_true_eq,tN]at hk
    rcases hk with hk | ⟨hx,hy,hb⟩
    ·exact Or.inl ⟨of_decide_eq_true hk.1,of_decide_eq_true hk.2⟩
    have hx:=of_decide_eq_true hx
    refine Or.inr ⟨(ak ρ xs).toNat,(ak ρ ys).toNat,by rw[aq hx],fun j h0 h1=>?_⟩
    rw[ah]at h0 h1 ⊢
    obtain⟨z,hz⟩:=mJ hb (j:=j-o.toNat) (by omega)
    refine⟨_,by simp only;rw[if_pos (by omega)],?_⟩
    rw[Hl.fm (Ao hA hhk) hz]
    simp only[CV.ev,aV,hz,fg]
   ·cases h
  ·cases h
theorem tZ {yd ld n:E} {src:Nat→Option CV} {j:Nat} (hn:ak ρ n≤ak ρ ld) (h:(j:Int)<ak ρ yd+ak ρ n):pC yd ld src j=src j:=by
 unfold pC
 split
 ·rw[ah]at h hn
  rw[if_pos (by omega)]
 ·rfl
theorem setRow_self {w:World} {g:Nat} {cs:Array Value} {T:TypeId} (h:w.heap[g]?=some (.cells cs T (0,0))):w.setRow g cs=w:=by
 have e:(w.setRow g cs).heap=w.heap:=by
  apply Array.ext_getElem?
  intro k
  by_cases hk:k=g
  ·subst hk;rw[setRow_heap w _ _ cs T _ h,h]
  ·exact setRow_other w _ _ _ hk
 show({w with heap:=(w.setRow g cs).heap} : World)=w
 rw[e]
theorem run_copy_none (w:World) (dT sT ty elem:TypeId) (a:Addr) (dLen dCap c:Nat) (hu:P.underlying dT=some (.slice elem)) (hs:((P.info? elem).map (·.size)).isSome=true) :
 (Builtin.copy_ #[dT,sT] ty #[.slice (some a) dLen dCap,.slice none 0 c]).run P w=.ok (goInt 0) w:=by
 cases hq:P.info? elem with
 | none=>simp [hq]at hs
 | some i=>simp [Builtin.copy_,run_underlying hu,Builtin.lenOf,Builtin.firstCells,sizeOf,typeInfo,hq,storeCells]
theorem oD {yd n:E} {j:Nat} : bo ρ (qj yd n j)=decide (ak ρ yd≤j∧(j:Int)<ak ρ yd+ak ρ n):=by
 unfold qj
 rw[aL,aY,fL,ah,cZ,Bool.decide_and]
def vk (ρ:Env) (src:Option CV) (old:CV):Value:=match src with
 | some s=>s.ev ρ
 | none=>old.ev ρ
theorem qi {c:E} {src:Option CV} {old x:CV} (h:kh c src old=some x):x.ev ρ=if bo ρ c=true then vk ρ src old else old.ev ρ:=by
 unfold kh at h
 cases src with
 | none=>cases h;simp [vk]
 | some s =>
  simp only at h
  split at h
  ·split at h
   ·rename_i hc;cases h;subst hc;simp [cq,vk]
   ·split at h
    ·rename_i hc;cases h;subst hc;simp [dK]
    ·rw[jN h];rfl
  ·cases h
theorem ki {yd n:E} {src:Nat→Option CV} : ∀ (l:List CV) (j:Nat) (l':List CV),z8 yd n src j l=some l'→l'.length=l.length∧∀ i c x,l[i]?=some c→l'[i]?=some x →
 (∃ y,kh (qj yd n (j+i)) (src (j+i)) c=some y)∧x.ev ρ=if bo ρ (qj yd n (j+i))=true then vk ρ (src (j+i)) c else c.ev ρ
 | [],j,l',h=>by cases h;simp
 | c::l,j,l',h=>by
  unfold z8 at h
  split at h
  ·rename_i x r h1 h2
   cases h
   obtain⟨hl,ih⟩:=ki l (j+1) r h2
   refine⟨by simp [hl],fun i c' x' hc hx=>?_⟩
   cases i with
   | zero =>
    simp only[List.getElem?_cons_zero,Option.some.injEq]at hc hx
    subst hc;subst hx
    exact⟨⟨_,h1⟩,qi h1⟩
   | succ i =>
    simp only[List.getElem?_cons_succ]at hc hx
    have:=ih i c' x' hc hx
    rw[show j+1+i=j+(i+1)by omega]at this
    exact this
  ·cases h
theorem su (w:World) (dT sT ty elem:TypeId) (a b:Option Addr) (dLen dCap c:Nat) (hu:P.underlying dT=some (.slice elem)) (hs:((P.info? elem).map (·.size)).isSome=true) (sl:Nat) (h0:min sl dLen=0) :
 (Builtin.copy_ #[dT,sT] ty #[.slice a dLen dCap,.slice b sl c]).run P w=.ok (goInt 0) w:=by
 cases hq:P.info? elem with
 | none=>simp [hq]at hs
 | some i =>
  have hl:∀ x:Addr,_:=fun x=>run_loadCells_list (P:=P) w x [] (fun j v h=>by simp at h)
  simp only[List.length_nil]at hl
  cases a<;>cases b<;>simp [Builtin.copy_,run_underlying hu,Builtin.lenOf,Builtin.firstCells,sizeOf,typeInfo,hq,storeCells,h0,hl]
theorem wa (hA:Rel S w0 ρ st a w) (hu:st.upto st.nv=true) {t t' ty el:TypeId} (hul:P.underlying t=some (.slice el)) (hsz:dd P el=some 1) {ad:Nat} {yd ld cd xs ys ls cs:E} {d:Option Tmp} {R:XR} (h:CK P st el ad yd ld xs ys ls d=some R) (hn:R.need.holds C ms ρ) {K:Act→World→Prop} (hK:Fin S w0 C ρ st a d R K) :
 ∃ v' w',(Builtin.copy_ #[t,t'] ty #[TV.ev ρ (.sv (.one (.sl (.var ad) yd ld cd))),TV.ev ρ (.sv (.one (.sl xs ys ls cs)))]).run P w=.ok v' w'∧K (a.put d v') w':=by
 unfold CK at h
 split at h
 ·rename_i p k vers tags links hh hf hhk
  split at h
  ·cases h
   have hp:=fy hf
   obtain⟨⟨hx,hy,hd,hs⟩,⟨c,T,hc,hfit⟩,hsrc⟩:X.pre C ρ (.cpy st.nv k (.var ad) yd ld hh xs ys ls):=hn
   rw[ai]at hx hc
   have hsub:(ρ.h k).sub w:=hA.sub _ (List.mem_of_getElem? hp)
   have hssub:(ρ.h hh).sub w:=Ao hA.toMRel hhk
   have hsome:((P.info? el).map (·.size)).isSome=true:=by
    have:(P.info? el).map (·.size)=some 1:=by simpa [dd] using hsz
    rw[this];rfl
   obtain⟨vs,hvs⟩:∃ vs,vs=cl (ρ.h hh) (ak ρ xs).toNat (ak ρ ys).toNat (min (ak ρ ls) (ak ρ ld)).toNat:=⟨_,rfl⟩
   have hlen:vs.length=(min (ak ρ ls) (ak ρ ld)).toNat:=by rw[hvs];simp [cl]
   let H':=(ρ.h k).put (ρ.i ad).toNat (ak ρ yd).toNat vs
   let ρ':=ρ.iE st.nv H'
   have hg:ae st.nv ρ ρ':=dn _ _ _ (Nat.le_refl _)
   have hh':ρ'.h st.nv=H':=dX _ _ _
   have hwk:w.heap[(ρ.i ad).toNat]?=some (.cells c T (0,0)):=hsub _ _ hc
   have hput:H' (ρ.i ad).toNat=some (.cells (bG c.toList (ak ρ yd).toNat vs).toArray T (0,0)):=by
    show(ρ.h k).put _ _ _ _=_
    unfold Hl.put
    rw[if_pos rfl,hc]
   have fin:∀ w',w'=w.setRow (ρ.i ad).toNat (bG c.toList (ak ρ yd).toNat vs).toArray→K (a.put d (goInt vs.length)) w':=by
    rintro w' rfl
    have hxm:(ρ.h k).mem (ρ.i ad).toNat:=by unfold Hl.mem;rw[hc];rfl
    have hM:MRel S w0 ρ' (st.mem.set p (.hp st.nv (k::vers) tags links)) (w.setRow (ρ.i ad).toNat (bG c.toList (ak ρ yd).toNat vs).toArray):=by
     refine hA.toMRel.set hp rfl rfl rfl rfl (by simp) (fun b _ hn=>setRow_other w _ b _ (fun e=>hn (by subst e;exact hxm))) (Mem.agree hg (St.cM hu)) ?_ trivial ?_
     ·show(ρ'.h st.nv).sub _
      rw[hh']
      intro b o hb
      by_cases hbe:b=(ρ.i ad).toNat
      ·subst hbe
       rw[hput]at hb
       rw[←hb]
       exact setRow_heap w _ _ _ T _ hwk
      ·have hb:(ρ.h k).put (ρ.i ad).toNat (ak ρ yd).toNat vs b=some o:=hb
       unfold Hl.put at hb
       rw[if_neg hbe]at hb
       rw[setRow_other w _ b _ hbe];exact hsub _ _ hb
     ·intro b hb
      have hb:(ρ'.h st.nv).mem b:=hb
      rw[hh']at hb
      exact Or.inl (Hl.gE.1 hb)
    exact hK ρ' _ _ hg ⟨by show ρ'.h st.nv=_;rw[hh',←hvs,ai],rfl⟩ (Rel.step hA hu hg hM _ _ _ _ (fun y hy=>by cases hy))
   have HF:vs.length=Nat.min (ak ρ ls).toNat (ak ρ ld).toNat:=by rw[hlen];show _=min _ _;omega
   have ex:TV.ev ρ (.sv (.one (.sl (.var ad) yd ld cd)))=.slice (some ⟨(ρ.i ad).toNat,(ak ρ yd).toNat,none⟩) (ak ρ ld).toNat (ak ρ cd).toNat:=by
    simp only[TV.ev,SV.ev,CV.ev,ai,aq hx]
   rw[ex]
   rcases hsrc with h0 | ⟨hx2,hy2,hb⟩
   ·have hv0:vs=[]:=List.length_eq_zero_iff.1 (by rw[hlen,h0];rfl)
    refine⟨_,_,su w t t' ty el _ _ _ _ _ hul hsome _ (by omega),?_⟩
    have:=fin w (by
     rw[hv0]
     have:(bG c.toList (ak ρ yd).toNat []).toArray=c:=by simp [bG]
     rw[this,setRow_self hwk])
    rw[hv0]at this;exact this
   ·have hcell:∀ j,j<(min (ak ρ ls) (ak ρ ld)).toNat→∃ z,(ρ.h hh).cell (ak ρ xs).toNat ((ak ρ ys).toNat+j)=some (.int .u8 z):=fun j hj=>mJ hb hj
    have hget:∀ j v,vs[j]?=some v→∃ z,v=.int .u8 z∧(ρ.h hh).cell (ak ρ xs).toNat ((ak ρ ys).toNat+j)=some v:=by
     intro j v hj
     have hjl:j<(min (ak ρ ls) (ak ρ ld)).toNat:=by rw[←hlen];exact(List.getElem?_eq_some_iff.1 hj).1
     obtain⟨z,hz⟩:=hcell j hjl
     rw[hvs]at hj
     simp only[cl,List.getElem?_map,List.getElem?_range hjl,Option.map_some,hz,Option.getD_some,Option.some.injEq]at hj
     exact⟨z,hj.symm,by rw[←hj];exact hz⟩
    have hrow:=run_copy_row P w t t' ty el (ρ.i ad).toNat (ak ρ yd).toNat (ak ρ ld).toNat (ak ρ cd).toNat ⟨(ak ρ xs).toNat,(ak ρ ys).toNat,none⟩ (ak ρ ls).toNat (ak ρ cs).toNat c T vs hul (by simpa [dd] using hsz) hwk HF
     (fun j v hj=>by
      obtain⟨z,_,hz⟩:=hget j v hj
      rw[show(⟨(ak ρ xs).toNat,(ak ρ ys).toNat,none⟩:Addr).add j=⟨(ak ρ xs).toNat,(ak ρ ys).toNat+j,none⟩by unfold Addr.add;split<;>simp_all]
      exact Hl.fm hssub hz)
     (by rw[hlen];omega)
     (fun v hv=>by
      obtain⟨j,hj⟩:=List.mem_iff_getElem?.1 hv
      obtain⟨z,rfl,_⟩:=hget j v hj
      rfl)
    have ey:TV.ev ρ (.sv (.one (.sl xs ys ls cs)))=.slice (some ⟨(ak ρ xs).toNat,(ak ρ ys).toNat,none⟩) (ak ρ ls).toNat (ak ρ cs).toNat:=by
     simp only[TV.ev,SV.ev,CV.ev,aq hx2]
    rw[ey]
    refine⟨_,_,hrow,fin _ ?_⟩
    simp [bG]
  ·cases h
 ·cases h
theorem vZ (hA:Rel S w0 ρ st a w) (hu0:st.upto st.nv=true) {t t' ty:TypeId} {x y:TV} {d:Option Tmp} {R:XR} (h:CJ P st t x y d=some R) (hn:R.need.holds C ms ρ) {K:Act→World→Prop} (hK:Fin S w0 C ρ st a d R K) :
 ∃ v' w',(Builtin.copy_ #[t,t'] ty #[x.ev ρ,y.ev ρ]).run P w=.ok v' w'∧K (a.put d v') w':=by
 unfold CJ at h
 split at h
 ·rename_i el hu
  split at h
  ·rename_i hsz
   split at h
   ·rename_i ad yd ld cd xs ys ls cs
    split at h
    ·rename_i p l T hf
     have hp:=dE hf
     have hpos:0≤ρ.i ad:=hA.toMRel.pos _ (List.mem_of_getElem? hp)
     simp only at h
     generalize hN:mkIte (mkLt ls ld) ls ld=N at h
     split at h
     ·rename_i k src hsrc
      split at h
      ·rename_i l' hl'
       cases h
       simp only[nV,aL,aY,ah,cZ,Bool.and_eq_true,decide_eq_true_eq]at hn
       obtain⟨hk,hy0,hd0,hs0,hfit⟩:=hn
       have hy0:=of_decide_eq_true hy0
       have hd0:=of_decide_eq_true hd0
       have hs0:=of_decide_eq_true hs0
       have eN:ak ρ N=min (ak ρ ls) (ak ρ ld):=by
        rw[←hN,fC,fL]
        by_cases hc:ak ρ ls<ak ρ ld
        ·rw[if_pos (by simpa using hc)];omega
        ·rw[if_neg (by simpa using hc)];omega
       rcases sk hA.toMRel hsrc hk hy0 hfit with ⟨hxn,hl0⟩ | ⟨b,o,hpl,hcells⟩
       ·have hN0:ak ρ N≤0:=by rw[eN,hl0];omega
        obtain⟨hlen,hat⟩:=ki (ρ:=ρ) l 0 l' hl'
        have same:l'.map (CV.ev ρ)=l.map (CV.ev ρ):=by
         apply List.ext_getElem?
         intro j
         by_cases hjl:j<l.length
         ·have hjl':j<l'.length:=by omega
          obtain⟨_,e2⟩:=hat j _ _ (List.getElem?_eq_getElem hjl) (List.getElem?_eq_getElem hjl')
          rw[Nat.zero_add,oD]at e2
          rw[List.getElem?_map,List.getElem?_eq_getElem hjl',List.getElem?_map,List.getElem?_eq_getElem hjl,Option.map_some,Option.map_some,e2,if_neg (by simp only[decide_eq_true_eq];omega)]
         ·rw[List.getElem?_eq_none (by simp;omega),List.getElem?_eq_none (by simp;omega)]
        have ex:TV.ev ρ (.sv (.one (.sl (.var ad) yd ld cd)))=.slice (some ⟨(ρ.i ad).toNat,(ak ρ yd).toNat,none⟩) (ak ρ ld).toNat (ak ρ cd).toNat:=by
         simp only[TV.ev,SV.ev,CV.ev,ai,aq hpos]
        have ey:TV.ev ρ (.sv (.one (.sl xs ys ls cs)))=.slice none 0 (ak ρ cs).toNat:=by
         simp only[TV.ev,SV.ev,CV.ev,hxn,hl0];rfl
        rw[ex,ey]
        have hcs:=hA.toMRel.aS hp
        have hself:=setRow_self hcs
        have hM:=hA.toMRel.vc (l':=l') hp (cs:=(l.map (CV.ev ρ)).toArray) (by rw[same])
        rw[hself]at hM
        have hsome:((P.info? el).map (·.size)).isSome=true:=by
         have:(P.info? el).map (·.size)=some 1:=by simpa [dd] using hsz
         rw[this];rfl
        refine⟨_,_,run_copy_none w t t' ty el _ _ _ _ hu hsome,?_⟩
        refine hK ρ _ _ (ae.refl _ _) rfl (Rel.put (st:={st with mem:=st.mem.set p (.aS ad l' T)}) ⟨hM,hA.size,hA.defers,hA.tmp,hA.path⟩ _ _ _ (fun z hz=>?_))
        cases hz
        simp only[TV.ev,SV.ev,CV.ev]
        unfold goInt
        congr 1
        rw[eN,hl0];omega
       obtain⟨hlen,hat⟩:=ki (ρ:=ρ) l 0 l' hl'
       let nn:=(ak ρ N).toNat
       let oo:=(ak ρ yd).toNat
       let vs:List Value:=(List.range nn).map fun i=>(w.cell? ⟨b,o+i,none⟩).getD (.bool false)
       have hvs:∀ i,i<nn→∃ s,pC yd ld src (oo+i)=some s∧w.cell? ⟨b,o+i,none⟩=some (s.ev ρ):=by
        intro i hi
        have hi':(i:Int)<ak ρ N:=by omega
        obtain⟨s,h1,h2⟩:=hcells (oo+i) (by omega) (by omega)
        rw[show oo+i-(ak ρ yd).toNat=i by omega]at h2
        exact⟨s,(tZ (ρ:=ρ) (n:=N) (by rw[eN];omega) (by omega)).trans h1,h2⟩
       have hone:∀ v∈vs,v.oneCell'=true:=by
        intro v hv
        obtain⟨i,hi,rfl⟩:=List.mem_map.1 hv
        have hi:=List.mem_range.1 hi
        obtain⟨s,h1,h2⟩:=hvs i hi
        rw[h2,Option.getD_some]
        have hjl:oo+i<l.length:=by omega
        have hjl':oo+i<l'.length:=by omega
        obtain⟨⟨z,hz⟩,_⟩:=hat (oo+i) _ _ (List.getElem?_eq_getElem hjl) (List.getElem?_eq_getElem hjl')
        rw[Nat.zero_add,h1]at hz
        unfold kh at hz
        simp only at hz
        split at hz
        ·rename_i hc;exact CV.ke s hc
        ·cases hz
       have hrow:=run_copy_row P w t t' ty el (ρ.i ad).toNat oo (ak ρ ld).toNat (ak ρ cd).toNat ⟨b,o,none⟩ (ak ρ ls).toNat (ak ρ cs).toNat (l.map (CV.ev ρ)).toArray T vs hu (by simpa [dd] using hsz) (hA.toMRel.aS hp)
        (by simp only[vs,List.length_map,List.length_range,nn,eN];show(min (ak ρ ls) (ak ρ ld)).toNat=min _ _;omega)
        (fun j v hj=>by
         have hjn:j<nn:=by have:=(List.getElem?_eq_some_iff.1 hj).1;simpa [vs] using this
         obtain⟨s,h1,h2⟩:=hvs j hjn
         have:v=s.ev ρ:=by
          simp only[vs,List.getElem?_map,List.getElem?_range hjn,Option.map_some,h2,Option.getD_some,Option.some.injEq]at hj
          exact hj.symm
         subst this
         rw[show(⟨b,o,none⟩:Addr).add j=⟨b,o+j,none⟩by unfold Addr.add;split<;>simp_all]
         exact h2)
        (by simp only[vs,List.length_map,List.length_range,nn];simp;omega) hone
       have ex:TV.ev ρ (.sv (.one (.sl (.var ad) yd ld cd)))=.slice (some ⟨(ρ.i ad).toNat,oo,none⟩) (ak ρ ld).toNat (ak ρ cd).toNat:=by
        simp only[TV.ev,SV.ev,CV.ev,ai,aq hpos,oo]
       have ey:TV.ev ρ (.sv (.one (.sl xs ys ls cs)))=.slice (some ⟨b,o,none⟩) (ak ρ ls).toNat (ak ρ cs).toNat:=by
        simp only[TV.ev,SV.ev,CV.ev,hpl]
       rw[ex,ey]
       refine⟨_,_,hrow,?_⟩
       have hnew:(l.map (CV.ev ρ)).toArray.toList.take oo++vs++(l.map (CV.ev ρ)).toArray.toList.drop (oo+vs.length)=l'.map (CV.ev ρ):=by
        have lv:vs.length=nn:=by simp [vs]
        apply List.ext_getElem?
        intro j
        rw[lv]
        by_cases hjl:j<l.length
        ·have hjl':j<l'.length:=by omega
         obtain⟨_,e2⟩:=hat j _ _ (List.getElem?_eq_getElem hjl) (List.getElem?_eq_getElem hjl')
         rw[Nat.zero_add,oD]at e2
         rw[List.getElem?_map,List.getElem?_eq_getElem hjl',Option.map_some,e2]
         simp only[decide_eq_true_eq]
         by_cases h1:j<oo
         ·rw[if_neg (by omega),List.append_assoc,List.getElem?_append_left (by simp;omega)]
          simp [List.getElem?_take,h1,hjl]
         ·by_cases h2:j<oo+nn
          ·rw[if_pos (by omega),List.getElem?_append_left (by simp [lv];omega),List.getElem?_append_right (by simp;omega)]
           obtain⟨s,h3,h4⟩:=hvs (j-oo) (by omega)
           rw[show oo+(j-oo)=j by omega]at h3
           rw[h3]
           show _=some (s.ev ρ)
           have hm:(List.take oo (List.map (CV.ev ρ) l).toArray.toList).length=oo:=by simp;omega
           rw[hm]
           simp only[vs,List.getElem?_map,List.getElem?_range (show j-oo<nn by omega),Option.map_some,h4,Option.getD_some]
          ·rw[if_neg (by omega),List.getElem?_append_right (by simp [lv];omega)]
           simp only[List.length_append,List.length_take,List.length_map,lv,List.getElem?_drop,List.getElem?_map]
           rw[show oo+nn+(j-(min oo l.length+nn))=j by omega]
           simp [hjl]
        ·rw[List.getElem?_eq_none (by simp [lv];omega),List.getElem?_eq_none (by simp [hlen];omega)]
       refine hK ρ _ _ (ae.refl _ _) rfl (Rel.put (st:={st with mem:=st.mem.set p (.aS ad l' T)}) ⟨hA.toMRel.vc hp (by rw[hnew]),hA.size,hA.defers,hA.tmp,hA.path⟩ _ _ _ (fun z hz=>?_))
       cases hz
       simp only[TV.ev,SV.ev,CV.ev,vs,List.length_map,List.length_range,nn]
       unfold goInt
       congr 1
       omega
      ·cases h
     ·cases h
    ·exact wa hA hu0 hu hsz h hn hK
   ·cases h
  ·cases h
 ·cases h
end
end Go.Sx
namespace Go.Sx
open Go
section
variable {P:Program} {C:Ctx} {ms:Nat→Nat} {S:Nat→Prop} {w0:World} {ρ ρ':Env} {st:St} {mem mem':Mem} {a:Act} {w w':World}
theorem wI (hA:Rel S w0 ρ st a w) (hu:st.upto st.nv=true) {t:TypeId} {x y:TV} {d:Option Tmp} {R:XR} (h:Dn P st t x y d=some R) (hn:R.need.holds C ms ρ)
 {K:Act→World→Prop} (hK:Fin S w0 C ρ st a d R K):∃ v' w',(Instr.makeSlice t (x.ev ρ) (y.ev ρ)).run P w=.ok v' w'∧K (a.put d v') w':=by
 unfold Dn at h
 split at h
 ·rename_i el k l k' c ht
  split at h
  ·rename_i hlc
   subst hlc
   split at h
   ·rename_i i hi
    split at h
    ·rename_i z hz
     split at h
     ·rename_i hzs
      simp only at h
      have key:∀ (r:bc),r.own=true→(∀ ρ',ae st.nv ρ ρ'→0≤ρ'.i st.nv→ρ'.h st.nv=Hl.one (ρ'.i st.nv).toNat (.cells (madeCells z.cells ((ak ρ l).toNat*i.size)) el (0,0))→r.hl ρ'=ρ'.h st.nv∧r.pos ρ') →
       ∀ R':XR,R'=⟨({st with mem:=st.mem++[r],nv:=st.nv+1} : St).put d (some (.sv (.one (.sl (.var st.nv) (.lit 0) l l)))),.pre (.mk st.nv el (z.cells.toList.map fE) i.bytes l),some (.mk st.nv el (z.cells.toList.map fE) i.bytes l)⟩ →
       R'.need.holds C ms ρ→Fin S w0 C ρ st a d R' K→∃ v' w',(Instr.makeSlice t (.int k (ak ρ l)) (.int k' (ak ρ l))).run P w=.ok v' w'∧K (a.put d v') w':=by
       intro r hr hres R' hR' hn hK
       subst hR'
       obtain⟨h0,hby,h63⟩:=hn
       have hrun:=run_make (P:=P) w t el i z ht hi hz k k' (ak ρ l) (ak ρ l) h0 (Int.le_refl _) hby h63
       let ob:Obj:=.cells (madeCells z.cells ((ak ρ l).toNat*i.size)) el
       let ρ':=(ρ.dv st.nv w.heap.size).iE st.nv (Hl.one w.heap.size ob)
       have hg:ae st.nv ρ ρ':=(bX _ _ _ (Nat.le_refl _)).trans (dn _ _ _ (Nat.le_refl _))
       have e1:ρ'.i st.nv=w.heap.size:=by show(ρ.dv st.nv w.heap.size).i st.nv=_;rw[jc]
       have e3:ρ'.h st.nv=Hl.one w.heap.size ob:=dX _ _ _
       have e3':ρ'.h st.nv=Hl.one (ρ'.i st.nv).toNat (.cells (madeCells z.cells ((ak ρ l).toNat*i.size)) el (0,0)):=by rw[e1,Int.toNat_natCast];exact e3
       obtain⟨hrh,hrp⟩:=hres ρ' hg (by rw[e1];omega) e3'
       refine⟨_,_,hrun,hK ρ' _ _ hg ⟨⟨by rw[e1];omega,?_⟩,rfl⟩ (Rel.step hA hu hg ?_ _ _ _ _ ?_)⟩
       ·rw[e3',gr]
        simp only[Array.toArray_toList,List.length_map,Array.length_toList,hzs.1]
       ·refine hA.toMRel.add rfl rfl rfl (by simp) (fun b hb=>RowKit.Below.heap_alloc w _ b hb) (Mem.agree hg (St.cM hu)) ?_ hrp ?_
        ·rw[hrh,e3]
         intro b o hb
         obtain⟨rfl,rfl⟩:=Hl.jb hb
         exact heap_alloc_new w _
        ·intro b hb
         rw[hrh,e3]at hb
         rw[Hl.cI.1 hb];exact Nat.le_refl _
       ·intro u hu'
        cases hu'
        simp only[TV.ev,SV.ev,CV.ev,ai,ah,e1,b9 hg hzs.2.2]
        rw[aq (by omega)]
        simp
      have khp:=key (.hp st.nv [] [.var st.nv] []) rfl (fun ρ' _ _ _=>⟨rfl,trivial⟩)
      split at h
      ·rename_i m
       split at h
       ·cases h
        refine key (.aS st.nv (jK (z.cells.toList.map fE) (m.toNat*i.size)) el) rfl (fun ρ' hg h0 he=>⟨?_,h0⟩) _ rfl hn hK
        rw[he]
        show Hl.one _ _=_
        have e:=qK (ρ:=ρ') (z:=z.cells.toList.map fE) (zs:=z.cells.toList) (gr _ _) (by rw[Array.length_toList];omega) (m.toNat*i.size)
        rw[e]
        simp [ah]
       ·cases h;exact khp _ rfl hn hK
      ·cases h;exact khp _ rfl hn hK
     ·cases h
    ·cases h
   ·cases h
  ·cases h
 ·cases h
theorem yb (hA:Rel S w0 ρ st a w) (hu:st.upto st.nv=true) {t:TypeId} {len:Nat} {is:List Nat} {vs:List TV} {d:Option Tmp} {R:XR} (h:FU P st t len is vs d=some R)
 {K:Act→World→Prop} (hK:Fin S w0 C ρ st a d R K):∃ v' w',(Instr.buildSlice t len (is.zip (vs.map (TV.ev ρ))).toArray).run P w=.ok v' w'∧K (a.put d v') w':=by
 unfold FU at h
 split at h
 ·rename_i el ht
  split at h
  ·rename_i n z us hs hz hus
   split at h
   ·rename_i hc
    split at h
    ·rename_i l hl
     have hf:=iI (ρ:=ρ) _ _ _ hl
     have hbig:¬len*n>2 ^ 24:=by omega
     refine⟨.slice (some ⟨w.heap.size,0,none⟩) len len,w.alloc (.cells (l.map (CV.ev ρ)).toArray el),?_,jP h hu hA hK rfl (fun ρ' hg hi=>?_)⟩
     ·rw[zG _ _ hus,←zS]
      unfold Instr.buildSlice
      simp only[Sem.run_bind,run_underlying ht,Result.andThen_ok,cO hs,hbig,if_false]
      have hfin:∀ zz:Array Value,(Array.range (len*n)).map (fun j=>zz[j%zz.size]!)=((jK (z.cells.toList.map fE) (len*n)).map (CV.ev ρ)).toArray →
       Instr.fill (fun i=>some (i*n,n)) ((Array.range (len*n)).map (fun j=>zz[j%zz.size]!)) ((is.zip us).map fun(p:Nat×SV)=>(p.1,SV.ev ρ p.2))=some (l.map (CV.ev ρ)).toArray:=by
       intro zz hz'
       rw[hz',hf]
      by_cases h0:len*n=0
      ·rw[if_pos h0]
       simp only[Sem.run_bind,Sem.run_pure,Result.andThen_ok]
       rw[hfin #[] (by simp [h0,jK])]
       rfl
      ·rw[if_neg h0]
       simp only[Sem.run_bind,Sem.run_pure,Result.andThen_ok,jB hz]
       rw[hfin z.cells ?_]
       ·rfl
       have hzp:0<z.cells.toList.length:=by
        rw[Array.length_toList,hc.2]
        exact Nat.pos_of_ne_zero (fun e=>h0 (by rw[e,Nat.mul_zero]))
       have e:=qK (ρ:=ρ) (z:=z.cells.toList.map fE) (zs:=z.cells.toList) (gr _ _) hzp (len*n)
       rw[e]
       simp only[madeCells,Array.toArray_toList]
     ·simp only[TV.ev,SV.ev,CV.ev,ai,ah,hi]
      rw[aq (by omega)]
      simp
    ·cases h
   ·cases h
  ·cases h
 ·cases h
theorem yn {f:FuncId} (h:qp P f=true) (args:Array Value) (w:World):(callFunc f args).run P w=.ok (.enter f args) w:=by
 unfold qp at h
 split at h
 ·rename_i fn hf
  simp only[Bool.and_eq_true,Bool.not_eq_true']at h
  unfold callFunc
  simp only[Sem.run_bind,program,Sem.run,Result.andThen_ok,hf,h.2,Bool.false_eq_true,if_false]
  cases hb:fn.body with
  | none=>simp [hb]at h
  | some c=>simp
 ·cases h
theorem kc (hA:Rel S w0 ρ st a w) {c:Operand} {f:FuncId} (h:mG st c=some f):a.eval c=.func (.func f) #[] #[]:=by
 unfold mG at h
 split at h
 ·cases h;rfl
 ·rename_i t
  split at h
  ·rename_i g x y hs
   split at h
   ·rename_i hxy
    cases h
    simp only[Bool.and_eq_true,Array.isEmpty_iff]at hxy
    obtain⟨rfl,rfl⟩:=hxy
    have:=hA.tmp t _ hs
    simp [Act.eval,this,TV.ev,SV.ev,CV.ev]
   ·cases h
  ·cases h
 ·cases h
theorem AW {o:Oper} {f:FuncId} {c:Operand} {args:Array Operand} {ts:Array TypeId} (hop:o.op=.call {callee:=.value c,args,argTypes:=ts}) (hcf:a.eval c=.func (.func f) #[] #[]) (he:qp P f=true) {xs:List Value} (hx:args.toList.map a.eval=xs)
 {K:Act→World→Prop} {Q:Exit→Act→World→Prop} (hc:Calls P f xs.toArray w fun e w'=>∃ v,e=.returned v∧K (a.put o.dst v) w'):o.wp P a w K Q:=by
 have e2:args.map a.eval=xs.toArray:=by rw[←hx];obtain⟨l⟩:=args;exact List.map_toArray
 have hrun:(execOp a.eval o).run P w=.ok (.enter f xs.toArray) w:=by
  unfold execOp;rw[hop]
  simp only[resolve,hcf,Deferred.ofValue,Sem.run_bind,Sem.run_pure,Result.andThen_ok,invoke]
  rw[e2]
  simpa using yn (P:=P) he xs.toArray w
 unfold Oper.wp
 rw[hrun]
 refine hc.mono fun e w' ⟨v,he,hk⟩=>?_
 subst he
 exact hk
theorem ye (hA:Rel S w0 ρ st a w) (hu:st.upto st.nv=true) {o:Oper} {s d:TypeId} {y:Operand} (hop:o.op=.convert s d y) {x:TV} (hx:a.eval y=x.ev ρ) {R:XR} (h:FW P st s d x o.dst=some R)
 {K:Act→World→Prop} {Q:Exit→Act→World→Prop} (hK:Fin S w0 C ρ st a o.dst R K):o.wp P a w K Q:=by
 unfold FW at h
 split at h
 ·rename_i hsd
  subst hsd
  split at h
  ·rename_i el hs
   split at h
   ·rename_i hu8
    obtain⟨hu8,hup⟩:=hu8
    have he:=Au hu8
    split at h
    ·rename_i b y' l c
     split at h
     ·rename_i p cs T hb
      cases h
      have hp:=dE hb
      have hpos:0≤ρ.i b:=hA.pos _ (List.mem_of_getElem? hp)
      have hw:=hA.toMRel.aS hp
      let o':Obj:=.cells (cs.map (CV.ev ρ)).toArray T (cs.length,cs.length+1)
      let w':World:=w.freeze ⟨(ρ.i b).toNat,cs.length,none⟩ 1
      have hlt:(ρ.i b).toNat<w.heap.size:=(Array.getElem?_eq_some_iff.1 hw).1
      have hw':w'.heap[(ρ.i b).toNat]?=some o':=by
       show(w.freeze ⟨(ρ.i b).toNat,cs.length,none⟩ 1).heap[(ρ.i b).toNat]?=_
       unfold World.freeze
       rw[if_neg (by decide)]
       simp only[Array.getElem?_modify,if_true,hw,Option.map_some]
       rfl
      have hot:∀ k,k≠(ρ.i b).toNat→w'.heap[k]?=w.heap[k]?:=by
       intro k hk
       show(w.freeze ⟨(ρ.i b).toNat,cs.length,none⟩ 1).heap[k]?=_
       unfold World.freeze
       rw[if_neg (by decide)]
       simp only[Array.getElem?_modify,if_neg hk.symm]
      have hsz:w'.heap.size=w.heap.size:=by
       show(w.freeze ⟨(ρ.i b).toNat,cs.length,none⟩ 1).heap.size=_
       unfold World.freeze
       rw[if_neg (by decide)]
       simp
      have hfr:w'.os=w.os∧w'.tape=w.tape∧w'.output=w.output:=by
       show(w.freeze ⟨(ρ.i b).toNat,cs.length,none⟩ 1).os=_∧(w.freeze ⟨(ρ.i b).toNat,cs.length,none⟩ 1).tape=_∧(w.freeze ⟨(ρ.i b).toNat,cs.length,none⟩ 1).output=_
       unfold World.freeze
       rw[if_neg (by decide)]
       exact⟨rfl,rfl,rfl⟩
      have ex:a.eval y=.slice (some ⟨(ρ.i b).toNat,(ak ρ y').toNat,none⟩) (ak ρ l).toNat (ak ρ c).toNat:=by
       rw[hx]
       simp only[TV.ev,SV.ev,CV.ev,ai]
       rw[aq hpos]
      have hrun:(execOp a.eval o).run P w=.ok (.value (a.eval y)) w':=by
       have hsh:w.shape? (ρ.i b).toNat=some (T,cs.length):=by
        unfold World.shape?
        rw[hw];simp
       unfold execOp
       rw[hop]
       simp [convert,run_underlying hs,run_underlying he,markStringish,ex,hsh]
       rfl
      refine dm hrun ?_
      have hg:ae st.nv ρ (ρ.iE st.nv (Hl.one (ρ.i b).toNat o')):=dn _ _ _ (Nat.le_refl _)
      refine hK _ _ w' hg ⟨dX _ _ _,rfl⟩ (Rel.step hA hu hg ?_ _ _ _ _ (fun z hz=>?_))
      ·refine hA.toMRel.set hp rfl hfr.1 hfr.2.1 hfr.2.2 (by omega) (fun k _ hk=>hot k fun e=>hk (by rw[e];exact Hl.cI.2 rfl)) (Mem.agree hg (St.cM hu)) ?_ trivial ?_
       ·intro k ob hk
        rw[show(bc.hp st.nv [] [E.var b] []).hl (ρ.iE st.nv (Hl.one (ρ.i b).toNat o'))=Hl.one (ρ.i b).toNat o' from dX _ _ _]at hk
        obtain⟨rfl,rfl⟩:=Hl.jb hk
        exact hw'
       ·intro k hk
        rw[show(bc.hp st.nv [] [E.var b] []).hl (ρ.iE st.nv (Hl.one (ρ.i b).toNat o'))=Hl.one (ρ.i b).toNat o' from dX _ _ _]at hk
        left
        show(Hl.one (ρ.i b).toNat _).mem k
        exact Hl.cI.2 (Hl.cI.1 hk)
      ·cases hz
       rw[hx]
       exact(TV.agree hg _ hup).symm
     ·cases h
    ·cases h
   ·cases h
  ·cases h
 ·cases h
theorem qt (hΓ:∀ s∈C.Γ,s.OK P) (hA:Rel S w0 ρ st a w) {o:Oper} {R:XR} (h:EH P C.Γ st o=some R) (hn:R.need.holds C ms ρ)
 {K:Act→World→Prop} {Q:Exit→Act→World→Prop} (hK:Fin S w0 C ρ st a o.dst R K):o.wp P a w K Q:=by
 unfold EH at h
 split at h
 ·rename_i hu
  split at h
  ·rename_i t hop
   split at h
   ·rename_i z hz
    have hrun:(execOp a.eval o).run P w=.ok (.value (.pointer (some ⟨w.heap.size,0,none⟩))) (w.alloc (.cells z.cells t)):=by
     unfold execOp;rw[hop]
     simp only[Sem.run_bind,Instr.alloc,jB hz,Result.andThen_ok]
     rfl
    refine dm hrun (jP h hu hA hK (by rw[gr]) (fun ρ' hg hi=>?_))
    simp only[TV.ev,SV.ev,CV.ev,ai,ah,hi]
    rw[aq (by omega)];simp
   ·cases h
  ·rename_i t x hop
   split at h
   ·rename_i v hx
    split at h
    ·rename_i hcell
     have ex:=ay hA hx
     have hrun:(execOp a.eval o).run P w=.ok (.value (.pointer (some ⟨w.heap.size,0,none⟩))) (w.alloc (.cells (v.ev ρ).cells t)):=by
      unfold execOp;rw[hop]
      simp only[Sem.run_bind,Instr.box,ex,TV.ev]
      rfl
     refine dm hrun (jP h hu hA hK ?_ (fun ρ' hg hi=>?_))
     ·rw[←SV.mK v hcell]
     ·simp only[TV.ev,SV.ev,CV.ev,ai,ah,hi]
      rw[aq (by omega)];simp
    ·cases h
   ·cases h
  ·rename_i t p x hop
   split at h
   ·rename_i pv v hp hx
    have ep:a.eval p=pv.ev ρ:=ay hA hp
    have ex:a.eval x=v.ev ρ:=ay hA hx
    split at h
    ·rename_i n mem hs
     cases h
     simp only[nV]at hn
     obtain⟨q,w',hq,hrun,hm⟩:=zE hA.toMRel hs hn
     have hrun':(execOp a.eval o).run P w=.ok .skip w':=by
      unfold execOp;rw[hop]
      simp only[Sem.run_bind,Instr.storeAt,ep,ex,hq,Instr.sureAddr,Sem.run_pure,Result.andThen_ok,hrun]
     exact r8 hrun' (hK ρ _ w' (ae.refl _ _) rfl (Rel.put (st:={st with mem:=mem}) ⟨hm,hA.size,hA.defers,hA.tmp,hA.path⟩ _ _ _ (fun y hy=>by cases hy)))
    ·rename_i x' mem hs
     cases h
     obtain⟨q,w',ρ',hq,hrun,hg,hrel,hxn,hm⟩:=zF hA hu hs hn
     have hrun':(execOp a.eval o).run P w=.ok .skip w':=by
      unfold execOp;rw[hop]
      simp only[Sem.run_bind,Instr.storeAt,ep,ex,hq,Instr.sureAddr,Sem.run_pure,Result.andThen_ok,hrun]
     exact r8 hrun' (hK ρ' _ w' hg ⟨hrel,hxn⟩ (Rel.step hA hu hg hm _ _ _ _ (fun y hy=>by cases hy)))
    ·cases h
   ·cases h
  ·rename_i t l c hop
   split at h
   ·rename_i x y hl hc
    obtain⟨v',w',hrun,hk⟩:=wI hA hu h hn hK
    refine dm (v:=v') (w':=w') ?_ hk
    unfold execOp;rw[hop]
    simp only[Sem.run_bind,ay hA hl,ay hA hc,hrun,Result.andThen_ok,Sem.run_pure]
   ·cases h
  ·rename_i t len parts hop
   split at h
   ·rename_i vs hx
    obtain⟨v',w',hrun,hk⟩:=yb hA hu h hK
    refine dm (v:=v') (w':=w') ?_ hk
    have e1:=fJ hA _ _ hx
    have e2:(parts.map fun p=>(p.1,a.eval p.2))=((parts.toList.map (·.1)).zip (vs.map (TV.ev ρ))).toArray:=by
     rw[←e1,List.map_map,←qN parts.toList]
     obtain⟨l⟩:=parts;exact List.map_toArray
    unfold execOp;rw[hop]
    rw[←e2]at hrun
    simp only[Sem.run_bind,hrun,Result.andThen_ok,Sem.run_pure]
   ·cases h
  ·rename_i args ats hop
   split at h
   ·rename_i x y t t' ha hts
    split at h
    ·rename_i htt
     subst htt
     split at h
     ·rename_i vx vy hx hy
      obtain⟨v',w',hrun,hk⟩:=xQ (ty:=o.type) hA hu h hn hK
      refine dm (v:=v') (w':=w') ?_ hk
      have ea:args.map a.eval=#[vx.ev ρ,vy.ev ρ]:=by
       obtain⟨l⟩:=args
       simp only at ha
       subst ha
       simp [ay hA hx,ay hA hy]
      have et:ats=#[t,t]:=by obtain⟨l⟩:=ats;simp only at hts;rw[hts]
      obtain⟨dst,op,ty,pos,af,gd⟩:=o
      simp only at hop
      subst hop
      rw[BigFrame.execOp_builtin,ea,et]
      unfold builtin
      simp only[Sem.run_bind,hrun,Result.andThen_ok,Sem.run_pure]
     ·cases h
    ·cases h
   ·cases h
  ·rename_i args ats hop
   split at h
   ·rename_i x y t t' ha hts
    split at h
    ·rename_i vx vy hx hy
     obtain⟨v',w',hrun,hk⟩:=vZ (t':=t') (ty:=o.type) hA hu h hn hK
     refine dm (v:=v') (w':=w') ?_ hk
     have ea:args.map a.eval=#[vx.ev ρ,vy.ev ρ]:=by
      obtain⟨l⟩:=args
      simp only at ha
      subst ha
      simp [ay hA hx,ay hA hy]
     have et:ats=#[t,t']:=by obtain⟨l⟩:=ats;simp only at hts;rw[hts]
     obtain⟨dst,op,ty,pos,af,gd⟩:=o
     simp only at hop
     subst hop
     rw[BigFrame.execOp_builtin,ea,et]
     unfold builtin
     simp only[Sem.run_bind,hrun,Result.andThen_ok,Sem.run_pure]
    ·cases h
   ·cases h
  ·rename_i s d x hop
   split at h
   ·rename_i x hx
    exact ye hA hu hop (ay hA hx) h hK
   ·cases h
  ·rename_i t hop
   exact jL hA hu (by rw[hop];exact h) hn hK
  ·rename_i t m k ok hop
   exact jL hA hu (by rw[hop];exact h) hn hK
  ·rename_i t m k v hop
   exact jL hA hu (by rw[hop];exact h) hn hK
  ·rename_i args ats hop
   exact jL hA hu (by rw[hop];exact h) hn hK
  ·rename_i c args ats hop
   split at h
   ·rename_i f vs hc hx
    split at h
    ·rename_i he
     exact AW hop (kc hA hc) he (fJ hA _ _ hx) (vV hΓ hA hu h hn hK)
    ·cases h
   ·cases h
  ·cases h
 ·cases h
end
end Go.Sx
namespace Go.Sx
open Go
inductive Tag | norm | ret | exit (id:Nat)
 deriving DecidableEq
def qs:Tag→Exit
 | .norm=>.normal
 | .ret=>.ret
 | .exit i=>.exit i
abbrev Cd:=Tag→St→Option Nd
def sB:E→List E
 | .and a b=>sB a++sB b
 | e=>[e]
def wK (path:List E) (n:E):List E:=(sB n).filter fun c=>!(known path c==some true)
def nf:List E→Nd→Nd
 | [],a=>a
 | c::l,a=>j6 (HO c) (nf l a)
def wM (st:St) (n:E) (k:St→Option Nd):Option Nd :=
 let cs:=wK st.path n
 (k {st with path:=cs++st.path}).map (nf cs)
theorem sC {ρ:Env} : ∀ n:E,(∀ c∈sB n,bo ρ c=true)→bo ρ n=true:=by
 intro n
 induction n with
 | and a b iha ihb =>
  intro h
  simp only[sB,List.mem_append]at h
  rw[jE,iha (fun c hc=>h c (Or.inl hc)),ihb (fun c hc=>h c (Or.inr hc))];rfl
 | _=>intro h;exact h _ (by simp [sB])
def ve:TV:=.sv (.one (.val undef))
def AD:Value→Bool
 | .bool _=>false
 | _=>true
def nP (ops:List Oper) (st:St) (o:Oper):Option (Option (E×Bool)) :=
 match o.guard with
 | none=>some none
 | some (j,want)=>match(ops[j]?).bind (·.dst)with
  | some t=>match st.tmps[t]? with
   | some (some (.sv (.one (.bool e))))=>some (some (e,want))
   | some (some (.sv (.one (.val v))))=>if AD v then some (some (.ff,true))else none
   | _=>none
  | none=>none
def gO (P:Program) (st:St):List ResultVar→Option (E×List SV)
 | []=>some (.tt,[])
 | .tmp t::l=>match cB st (.tmp t),gO P st l with
  | some (.sv v),some (m,vs)=>some (m,v::vs)
  | _,_=>none
 | .cell t ty::l=>match cB st (.tmp t),gO P st l with
  | some (.sv (.one c)),some (m,vs)=>match Aw P st.mem ty c with
   | some (k,v)=>some (mkAnd k m,v::vs)
   | none=>none
  | _,_=>none
def te:List SV→TV
 | [v]=>.sv v
 | l=>.tup l
abbrev Ex:=Nat→List Nat→Code→St→Cd→Option Nd
def pG (P:Program) (ex:Ex) (d:Nat) (f:FuncId) (args:List TV) (st:St) (k:TV→St→Option Nd):Option Nd :=
 match P.funcs[f]? with
 | some fn=>match fn.body with
  | some c=>ex d [f] c ⟨args.map some++List.replicate (fn.ntmps-args.length) none,st.mem,st.nv,st.path⟩ fun t s=>match t with
   | .exit _=>none
   | _=>match gO P s fn.results.toList with
    | some (n,vs)=>wM s n fun s=>k (te vs) s
    | none=>none
  | none=>none
 | none=>none
def EW (P:Program) (o:Oper) (k:St→Option Nd):Nat→St→Option Nd
 | 0,st=>k st
 | n+1,st=>match sW P st o with
  | some (s,x)=>(EW P o k n s).map (.ext x ·)
  | none=>k st
def ny (P:Program) (Γ:List Spec) (ex:Ex) (d:Nat) (o:Oper) (st:St) (k:St→Option Nd):Option Nd :=
 match quiet P st o.op with
 | some (n,v)=>wM st n fun st=>k (st.put o.dst (some v))
 | none=>EW P o (fun st=>match EH P Γ st o with
  | some R=>if st.nv≤R.st.nv then(k R.st).map fun nd=>j6 R.need (match R.x with | some x=>.ext x nd | none=>nd)else none
  | none=>match o.op with
   | .call {callee:=.value c,args,argTypes:=_}=>match mG st c,oV st args.toList with
    | some f,some vs=>if qp P f&&st.upto st.nv then pG P ex d f vs st fun r s=>if st.nv≤s.nv then k (({s with tmps:=st.tmps} : St).put o.dst (some r))else none else none
    | _,_=>none
   | .panic _=>some (.e .ff)
   | .makeInterface _ _=>some (.e .ff)
   | _=>none) 4 st
def gz (P:Program) (Γ:List Spec) (ex:Ex) (d:Nat) (ops:List Oper):List Oper→St→(St→Option Nd)→Option Nd
 | [],st,k=>k st
 | o::l,st,k=>match nP ops st o with
  | none=>none
  | some none=>ny P Γ ex d o st fun s=>if st.nv≤s.nv then gz P Γ ex d ops l s k else none
  | some (some (e,want))=>match known st.path e with
   | some b=>if b=want then ny P Γ ex d o st fun s=>if st.nv≤s.nv then gz P Γ ex d ops l s k else none else gz P Γ ex d ops l (st.put o.dst (some ve)) k
   | none =>
    let y:=if want then e else mkNot e
    match ny P Γ ex d o {st with path:=y::st.path} fun s=>if st.nv≤s.nv then gz P Γ ex d ops l s k else none,gz P Γ ex d ops l (({st with path:=mkNot y::st.path} : St).put o.dst (some ve)) k with
    | some a,some b=>some (j6 (oQ y a) (oQ (mkNot y) b))
    | _,_=>none
section
variable {P:Program} {C:Ctx} {ms:Nat→Nat} {S:Nat→Prop} {w0:World} {ρ ρ':Env} {st:St} {mem mem':Mem} {a:Act} {w w':World}
def Cc (S:Nat→Prop) (w0:World) (C:Ctx) (d:Nat) (ms:Nat→Nat) (n:Nat) (ρ:Env) (k:St→Option Nd) (K:Act→World→Prop):Prop :=
 ∀ ms' st' nd ρ' a' w',(∀ i,i<d→ms' i=ms i)→k st'=some nd→ae n ρ ρ'→Rel S w0 ρ' st' a' w'→nd.holds C ms' ρ'→K a' w'
theorem Cc.dH {d n m:Nat} {ms':Nat→Nat} {k:St→Option Nd} {K:Act→World→Prop} (h:Cc S w0 C d ms n ρ k K) (hm':∀ i,i<d→ms' i=ms i) (hg:ae n ρ ρ') (hm:n≤m):Cc S w0 C d ms' m ρ' k K :=
 fun ms'' st' nd ρ'' a' w' hms hk hg' hA hn=>h ms'' st' nd ρ'' a' w' (fun i hi=>(hms i hi).trans (hm' i hi)) hk (hg.trans (hg'.mono hm)) hA hn
theorem Rel.kH (hA:Rel S w0 ρ st a w) {cs:List E} (h:∀ c∈cs,bo ρ c=true):Rel S w0 ρ {st with path:=cs++st.path} a w :=
 ⟨hA.toMRel,hA.size,hA.defers,hA.tmp,fun e he=>(List.mem_append.1 he).elim (h e) (hA.path e)⟩
theorem Rel.lz (hA:Rel S w0 ρ st a w) {c:E} (h:bo ρ c=true):Rel S w0 ρ {st with path:=c::st.path} a w :=
 hA.kH (cs:=[c]) (fun x hx=>by rw[List.mem_singleton.1 hx];exact h)
theorem ja:∀ (cs:List E) (a:Nd),(nf cs a).holds C ms ρ→(∀ c∈cs,bo ρ c=true)∧a.holds C ms ρ
 | [],a,h=>⟨by simp,h⟩
 | c::l,a,h=>by
  simp only[nf,cX,nV]at h
  obtain⟨h1,h2⟩:=ja l a h.2
  exact⟨fun x hx=>(List.mem_cons.1 hx).elim (fun e=>e▸h.1) (h1 x),h2⟩
theorem oR {n:E} {k:St→Option Nd} {nd:Nd} (h:wM st n k=some nd) (hA:Rel S w0 ρ st a w) (hn:nd.holds C ms ρ) :
 bo ρ n=true∧∃ st' nd',k st'=some nd'∧st'={st with path:=wK st.path n++st.path}∧Rel S w0 ρ st' a w∧nd'.holds C ms ρ:=by
 unfold wM at h
 simp only[Option.map_eq_some_iff]at h
 obtain⟨nd',hk,rfl⟩:=h
 obtain⟨h1,h2⟩:=ja _ _ hn
 refine⟨sC n fun c hc=>?_,_,nd',hk,rfl,hA.kH h1,h2⟩
 by_cases hk:known st.path c=some true
 ·exact dg hA.path hk
 ·exact h1 c (by unfold wK;rw[List.mem_filter];exact⟨hc,by simpa using hk⟩)
def tE (ρ:Env):Option (E×Bool)→Bool
 | none=>true
 | some q=>bo ρ q.1==q.2
theorem fz (hr:Rel S w0 ρ st a w) {ops:List Oper} {o:Oper} {g:Option (E×Bool)} (h:nP ops st o=some g) :
 Region.wanted o (yielded ops.toArray a.tmps)=tE ρ g:=by
 unfold nP at h
 unfold Region.wanted
 split at h
 ·rename_i hg;cases h;simp only[hg,tE]
 ·rename_i j want hg
  simp only[hg]
  split at h
  ·rename_i t ht
   split at h
   ·rename_i e hs
    cases h
    have:=hr.tmp t _ hs
    have hy:yielded ops.toArray a.tmps j=some (bo ρ e):=by
     unfold yielded
     have e1:(ops.toArray[j]?).bind (·.dst)=some t:=by simpa using ht
     rw[e1]
     simp only[Option.bind_some,this,TV.ev,SV.ev,CV.ev]
    rw[hy]
    simp [tE]
   ·rename_i v hs
    split at h
    ·rename_i hv
     cases h
     have:=hr.tmp t _ hs
     have hy:yielded ops.toArray a.tmps j=none:=by
      unfold yielded
      have e1:(ops.toArray[j]?).bind (·.dst)=some t:=by simpa using ht
      rw[e1]
      simp only[Option.bind_some,this,TV.ev,SV.ev,CV.ev]
      cases v<;>simp [AD]at hv ⊢
     rw[hy]
     simp [tE,dK]
    ·cases h
   ·cases h
  ·cases h
theorem iz (hA:Rel S w0 ρ st a w):∀ (l:List ResultVar) (n:E) (vs:List SV),gO P st l=some (n,vs)→bo ρ n=true →
 (l.mapM fun(x:ResultVar)=>match x with
  | .tmp t=>(pure (a.tmps.getD t undef):Sem Value)
  | .cell p t=>do loadVar t (←asAddr (a.tmps.getD p undef))).run P w=.ok (vs.map (SV.ev ρ)) w
 | [],n,vs,h,_=>by cases h;rfl
 | .tmp t::l,n,vs,h,hn=>by
  simp only[gO]at h
  split at h
  ·rename_i v m vs' h1 h2
   cases h
   have e1:=ay hA h1
   simp only[Act.eval,TV.ev]at e1
   have ih:=iz hA l _ _ h2 hn
   simp only[List.mapM_cons,Sem.run_bind,Sem.run_pure,Result.andThen_ok,ih,List.map_cons]
   rw[←e1]
  ·cases h
 | .cell p t::l,n,vs,h,hn=>by
  simp only[gO]at h
  split at h
  ·rename_i c m vs' h1 h2
   split at h
   ·rename_i k v hl
    cases h
    rw[aL,Bool.and_eq_true]at hn
    have e1:=ay hA h1
    obtain⟨q,hq,hrun⟩:=oM hA.toMRel hl hn.1
    simp only[Act.eval,TV.ev,SV.ev,hq]at e1
    have ih:=iz hA l _ _ h2 hn.2
    have ea:(asAddr (a.tmps.getD p undef)).run P w=.ok q w:=by rw[e1];rfl
    simp only[List.mapM_cons,Sem.run_bind,ea,Sem.run_pure,Result.andThen_ok,hrun,ih,List.map_cons]
   ·cases h
  ·cases h
theorem sr (hA:Rel S w0 ρ st a w) {fn:Func} {n:E} {vs:List SV} (h:gO P st fn.results.toList=some (n,vs)) (hn:bo ρ n=true) :
 (results fn a.tmps).run P w=.ok ((te vs).ev ρ) w:=by
 have key:=iz hA _ _ _ h hn
 unfold results
 have hm:(fn.results.mapM fun(x:ResultVar)=>match x with
  | .tmp t=>(pure (a.tmps.getD t undef):Sem Value)
  | .cell p t=>do loadVar t (←asAddr (a.tmps.getD p undef))).run P w=.ok (vs.map (SV.ev ρ)).toArray w:=by
  generalize fn.results=rs at *
  obtain⟨l⟩:=rs
  simp only[List.mapM_toArray,Sem.run_map,key,Result.andThen_ok]
 simp only[Sem.run_bind]
 refine(congrArg (fun r=>Result.andThen r _) hm).trans ?_
 simp only[Result.andThen_ok,Sem.run_pure]
 congr 1
 match vs with
 | []=>simp [te,TV.ev]
 | [v]=>simp [te,TV.ev]
 | v::u::l=>simp [te,TV.ev]
end
end Go.Sx
namespace Go.Sx
open Go
abbrev MA:=Option (List As×List (Nat×Option Nat))
def mI (n0:Nat) (t e:E):Option (List As) :=
 match t with
 | .var n=>if n0≤n then some [⟨n,0,.int .i64 e⟩]else if t=e then some []else none
 | t=>if t=e∧t.upto n0=true then some []else none
def mB (n0:Nat) (t e:E):Option (List As) :=
 match t with
 | .bvar n=>if n0≤n then some [⟨n,1,.bool e⟩]else if t=e then some []else none
 | t=>if t=e∧t.upto n0=true then some []else none
def mS (n0:Nat) (t e:E):Option (List As) :=
 match t with
 | .svar n=>if n0≤n then some [⟨n,2,.str e⟩]else if t=e then some []else none
 | t=>if t=e∧t.upto n0=true then some []else none
def si:Option (List As)→Option (List As)→Option (List As)
 | some a,some b=>some (a++b)
 | _,_=>none
def zo:CV→CV→Bool
 | .pti a o s n i,.pti a' o' s' n' i'=>decide (a=a')&&decide (o=o')&&decide (s=s')&&decide (n=n')&&decide (i=i')
 | .hv h x y j,.hv h' x' y' j'=>decide (h=h')&&decide (x=x')&&decide (y=y')&&decide (j=j')
 | .clo f x,.clo f' x'=>decide (f=f')&&decide (x=x')
 | _,_=>false
theorem BP {a b:CV} (h:zo a b=true):a=b:=by
 unfold zo at h
 split at h
 ·simp only[Bool.and_eq_true,decide_eq_true_eq]at h;obtain⟨⟨⟨⟨rfl,rfl⟩,rfl⟩,rfl⟩,rfl⟩:=h;rfl
 ·simp only[Bool.and_eq_true,decide_eq_true_eq]at h;obtain⟨⟨⟨rfl,rfl⟩,rfl⟩,rfl⟩:=h;rfl
 ·simp only[Bool.and_eq_true,decide_eq_true_eq]at h;obtain⟨rfl,rfl⟩:=h;rfl
 ·cases h
def HK (n0:Nat) (t c:CV):Option (List As) :=
 match t,c with
 | .int k e,.int k' e'=>if k=k' then mI n0 e e' else none
 | .bool e,.bool e'=>mB n0 e e'
 | .str e,.str e'=>mS n0 e e'
 | .hptr x y,.hptr x' y'=>si (mI n0 x x') (mI n0 y y')
 | .sl x y l c,.sl x' y' l' c'=>si (si (mI n0 x x') (mI n0 y y')) (si (mI n0 l l') (mI n0 c c'))
 | .map x,.map x'=>mI n0 x x'
 | .vr n,c=>if n0≤n then some [⟨n,3,c⟩]else match c with
  | .vr m=>if n=m then some []else none
  | _=>none
 | .val v,.val v'=>if xn v v' then some []else none
 | t,c=>if zo t c=true∧t.upto n0=true then some []else none
def mL (n0:Nat):List CV→List CV→Option (List As)
 | [],[]=>some []
 | a::l,b::m=>si (HK n0 a b) (mL n0 l m)
 | _,_=>none
def qI (n0:Nat):List SV→List SV→Option (List As)
 | [],[]=>some []
 | .one a::l,.one b::m=>si (HK n0 a b) (qI n0 l m)
 | .agg a::l,.agg b::m=>si (mL n0 a b) (qI n0 l m)
 | _,_=>none
def Ji (n0:Nat):TV→TV→Option (List As)
 | .sv (.one a),.sv (.one b)=>HK n0 a b
 | .sv (.agg l),.sv (.agg m)=>mL n0 l m
 | .tup l,.tup m=>qI n0 l m
 | _,_=>none
def ky (n0:Nat):List (Option TV)→List (Option TV)→Option (List As)
 | [],[]=>some []
 | none::l,_::m=>ky n0 l m
 | some a::l,some b::m=>si (Ji n0 a b) (ky n0 l m)
 | _,_=>none
def Gt (n0:Nat) (t:bc) (r:Option bc):MA :=
 match t,r with
 | .dead,_=>some ([],[])
 | .aS a l T,some (.aS a' l' T')=>if T=T' then
  if n0≤a then(mL n0 l l').map fun A=>(⟨a,0,.int .i64 (.var a')⟩::A,[])else if a=a' then(mL n0 l l').map fun A=>(A,[])else none
  else none
 | .hp k _ _ _,some (.hp k' _ _ _)=>if n0≤k then some ([],[(k,some k')])else if k=k' then some ([],[])else none
 | .hp k _ _ _,some .dead=>if n0≤k then some ([],[(k,none)])else none
 | .hp k _ _ _,none=>if n0≤k then some ([],[(k,none)])else none
 | .ro k _ _,some (.ro k' _ _)=>if k<n0∧k=k' then some ([],[])else none
 | _,_=>none
def EU (n0:Nat):Mem→Mem→MA
 | [],_=>some ([],[])
 | r::l,m=>match Gt n0 r m.head?,EU n0 l m.tail with
  | some (a,h),some (b,g)=>some (a++b,h++g)
  | _,_=>none
def jl:List As→Bool
 | []=>true
 | a::l=>(l.all fun x=>!(x.n==a.n&&x.k==a.k))&&jl l
def jm:List (Nat×Option Nat)→Bool
 | []=>true
 | a::l=>(l.all fun x=>!(x.1==a.1))&&jm l
def EV (n0:Nat) (h s:St):MA :=
 match ky n0 h.tmps s.tmps,EU n0 h.mem s.mem with
 | some a,some (b,g)=>if jl (a++b)&&jm g&&((a++b).all fun x=>decide (n0≤x.n))&&(g.all fun x=>decide (n0≤x.1))&&(h.path.all fun e=>e.upto n0&&s.path.contains e)&&decide (n0≤h.nv)then some (a++b,g)else none
 | _,_=>none
def Eb (m:Mem) (p q:Nat):Mem:=match m[p]?,m[q]? with
 | some a,some b=>(m.set p b).set q a
 | _,_=>m
def Gz (m:Mem) (n:Nat):Mem:=m++List.replicate (n-m.length) .dead
def CX (n0:Nat) (A:List As):Mem→Nat→Mem→Mem
 | [],_,m=>m
 | .hp k _ (.var a::_) _::l,p,m=>CX n0 A l (p+1) (if n0≤k∧n0≤a then match A.find? (fun x=>x.n==a&&x.k==0)with
  | some ⟨_,_,.int _ e⟩=>match posOf m e with
   | some (q,r)=>if r.own=true then Eb m p q else m
   | none=>m
  | _=>m
  else m)
 | _::l,p,m=>CX n0 A l (p+1) m
def Iq (n0:Nat) (h s:St):MA:=match ky n0 h.tmps s.tmps with
 | some A=>match EV n0 h {s with mem:=CX n0 A h.mem 0 (Gz s.mem h.mem.length)} with
  | some r=>some r
  | none=>EV n0 h s
 | none=>none
section
variable {P:Program} {C:Ctx} {ms:Nat→Nat} {S:Nat→Prop} {w0:World} {ρ ρ':Env} {st:St} {mem mem':Mem} {a:Act} {w w':World} {n0:Nat} {A:List As} {hs:List (Nat×Option Nat)}
theorem cR (hA:A.all (fun x=>decide (n0≤x.n))=true) (hh:hs.all (fun x=>decide (n0≤x.1))=true):ae n0 ρ (assign ρ A hs):=by
 rw[List.all_eq_true]at hA hh
 have key:∀ k j,k<n0→A.find? (fun a=>a.n==k&&a.k==j)=none:=fun k j hk=>by
  rw[List.find?_eq_none]
  intro x hx
  have:=hA x hx
  simp only[decide_eq_true_eq]at this
  simp;omega
 refine⟨fun k hk=>?_,fun k hk=>?_,fun k hk=>?_,fun k hk=>?_,fun k hk=>?_⟩
 ·simp only[assign,key k 0 hk]
 ·simp only[assign,key k 1 hk]
 ·simp only[assign,key k 2 hk]
 ·simp only[assign,key k 3 hk]
 ·have:hs.find? (fun p=>p.1==k)=none:=by
   rw[List.find?_eq_none]
   intro x hx
   have:=hh x hx
   simp only[decide_eq_true_eq]at this
   simp;omega
  simp only[assign,this]
theorem dy:∀ {A:List As},jl A=true→∀ x∈A,A.find? (fun a=>a.n==x.n&&a.k==x.k)=some x
 | [],_,_,h=>by cases h
 | y::l,h,x,hx=>by
  simp only[jl,Bool.and_eq_true,List.all_eq_true,Bool.not_eq_true']at h
  rw[List.find?_cons]
  rcases List.mem_cons.1 hx with rfl | hx
  ·simp
  ·have:=h.1 x hx
   have hb:(y.n==x.n&&y.k==x.k)=false:=by
    rw[←this];congr 1<;>exact Bool.beq_comm
   rw[hb]
   exact dy h.2 x hx
theorem fN:∀ {A:List (Nat×Option Nat)},jm A=true→∀ x∈A,A.find? (fun a=>a.1==x.1)=some x
 | [],_,_,h=>by cases h
 | y::l,h,x,hx=>by
  simp only[jm,Bool.and_eq_true,List.all_eq_true,Bool.not_eq_true']at h
  rw[List.find?_cons]
  rcases List.mem_cons.1 hx with rfl | hx
  ·simp
  ·have:=h.1 x hx
   have hb:(y.1==x.1)=false:=by rw[←this];exact Bool.beq_comm
   rw[hb]
   exact fN h.2 x hx
section
variable (hd:jl A=true) (hall:A.all (fun x=>decide (n0≤x.n))=true) (hh:hs.all (fun x=>decide (n0≤x.1))=true) (hdh:jm hs=true)
include hd hall hh
theorem gN {t e:E} {x:List As} (hm:mI n0 t e=some x) (hx:∀ y∈x,y∈A):ak (assign ρ A hs) t=ak ρ e:=by
 have hg:ae n0 ρ (assign ρ A hs):=cR hall hh
 unfold mI at hm
 split at hm
 ·rename_i n
  split at hm
  ·cases hm
   have:=dy hd _ (hx _ (List.mem_singleton.2 rfl))
   simp only[ai,assign,this,CV.ev,fg]
  ·split at hm
   ·rename_i he;subst he;exact b9 hg (by simp only[E.upto,decide_eq_true_eq];omega)
   ·cases hm
 ·split at hm
  ·rename_i hc
   obtain⟨rfl,hu⟩:=hc
   exact b9 hg hu
  ·cases hm
theorem Di {t e:E} {x:List As} (hm:mB n0 t e=some x) (hx:∀ y∈x,y∈A):bo (assign ρ A hs) t=bo ρ e:=by
 have hg:ae n0 ρ (assign ρ A hs):=cR hall hh
 unfold mB at hm
 split at hm
 ·rename_i n
  split at hm
  ·cases hm
   have:=dy hd _ (hx _ (List.mem_singleton.2 rfl))
   simp only[bY,assign,this,CV.ev,vv]
  ·split at hm
   ·rename_i he;subst he;exact ie hg (by simp only[E.upto,decide_eq_true_eq];omega)
   ·cases hm
 ·split at hm
  ·rename_i hc
   obtain⟨rfl,hu⟩:=hc
   exact ie hg hu
  ·cases hm
theorem Dj {t e:E} {x:List As} (hm:mS n0 t e=some x) (hx:∀ y∈x,y∈A):gT (assign ρ A hs) t=gT ρ e:=by
 have hg:ae n0 ρ (assign ρ A hs):=cR hall hh
 unfold mS at hm
 split at hm
 ·rename_i n
  split at hm
  ·cases hm
   have:=dy hd _ (hx _ (List.mem_singleton.2 rfl))
   simp only[aB,assign,this,CV.ev,Ej]
  ·split at hm
   ·rename_i he;subst he;exact oi hg (by simp only[E.upto,decide_eq_true_eq];omega)
   ·cases hm
 ·split at hm
  ·rename_i hc
   obtain⟨rfl,hu⟩:=hc
   exact oi hg hu
  ·cases hm
omit hd hall hh in
theorem fx {x y:Option (List As)} {z:List As} (h:si x y=some z):∃ u v,x=some u∧y=some v∧z=u++v:=by
 unfold si at h;split at h
 ·cases h;exact⟨_,_,rfl,rfl,rfl⟩
 ·cases h
theorem nT {t c:CV} {x:List As} (hm:HK n0 t c=some x) (hx:∀ y∈x,y∈A):t.ev (assign ρ A hs)=c.ev ρ:=by
 unfold HK at hm
 split at hm
 ·split at hm
  ·rename_i hk;subst hk
   simp only[CV.ev,gN hd hall hh hm hx]
  ·cases hm
 ·simp only[CV.ev,Di hd hall hh hm hx]
 ·simp only[CV.ev,Dj hd hall hh hm hx]
 ·obtain⟨u,v,h1,h2,rfl⟩:=fx hm
  simp only[CV.ev,gN hd hall hh h1 (fun y hy=>hx y (List.mem_append_left _ hy)),gN hd hall hh h2 (fun y hy=>hx y (List.mem_append_right _ hy))]
 ·obtain⟨u,v,h1,h2,rfl⟩:=fx hm
  obtain⟨u1,u2,h11,h12,rfl⟩:=fx h1
  obtain⟨v1,v2,h21,h22,rfl⟩:=fx h2
  simp only[CV.ev,gN hd hall hh h11 (fun y hy=>hx y (by simp [hy])),gN hd hall hh h12 (fun y hy=>hx y (by simp [hy])),gN hd hall hh h21 (fun y hy=>hx y (by simp [hy])),gN hd hall hh h22 (fun y hy=>hx y (by simp [hy]))]
 ·simp only[CV.ev,gN hd hall hh hm hx]
 ·rename_i n c
  split at hm
  ·cases hm
   have:=dy hd _ (hx _ (List.mem_singleton.2 rfl))
   simp only[CV.ev,assign,this]
  ·split at hm
   ·rename_i m
    split at hm
    ·rename_i he;subst he
     exact CV.agree (cR hall hh) _ (by simp only[CV.upto,decide_eq_true_eq];omega)
    ·cases hm
   ·cases hm
 ·split at hm
  ·rename_i hv;simp only[CV.ev,rD hv]
  ·cases hm
 ·split at hm
  ·rename_i hv
   rw[←BP hv.1]
   exact CV.agree (cR hall hh) _ hv.2
  ·cases hm
theorem kx:∀ (l m:List CV) (x:List As),mL n0 l m=some x→(∀ y∈x,y∈A)→l.map (CV.ev (assign ρ A hs))=m.map (CV.ev ρ)
 | [],[],_,_,_=>rfl
 | a::l,b::m,x,h,hx=>by
  simp only[mL]at h
  obtain⟨u,v,h1,h2,rfl⟩:=fx h
  simp only[List.map_cons,nT hd hall hh h1 (fun y hy=>hx y (List.mem_append_left _ hy)),kx l m v h2 (fun y hy=>hx y (List.mem_append_right _ hy))]
 | [],_::_,_,h,_=>by simp [mL]at h
 | _::_,[],_,h,_=>by simp [mL]at h
theorem mb:∀ (l m:List SV) (x:List As),qI n0 l m=some x→(∀ y∈x,y∈A)→l.map (SV.ev (assign ρ A hs))=m.map (SV.ev ρ)
 | [],[],_,_,_=>rfl
 | .one a::l,.one b::m,x,h,hx=>by
  simp only[qI]at h
  obtain⟨u,v,h1,h2,rfl⟩:=fx h
  simp only[List.map_cons,SV.ev,nT hd hall hh h1 (fun y hy=>hx y (List.mem_append_left _ hy)),mb l m v h2 (fun y hy=>hx y (List.mem_append_right _ hy))]
 | .agg a::l,.agg b::m,x,h,hx=>by
  simp only[qI]at h
  obtain⟨u,v,h1,h2,rfl⟩:=fx h
  simp only[List.map_cons,SV.ev,kx hd hall hh _ _ _ h1 (fun y hy=>hx y (List.mem_append_left _ hy)),mb l m v h2 (fun y hy=>hx y (List.mem_append_right _ hy))]
 | [],_::_,_,h,_=>by simp [qI]at h
 | .one _::_,[],_,h,_=>by simp [qI]at h
 | .agg _::_,[],_,h,_=>by simp [qI]at h
 | .one _::_,.agg _::_,_,h,_=>by simp [qI]at h
 | .agg _::_,.one _::_,_,h,_=>by simp [qI]at h
theorem Bs {t c:TV} {x:List As} (hm:Ji n0 t c=some x) (hx:∀ y∈x,y∈A):t.ev (assign ρ A hs)=c.ev ρ:=by
 unfold Ji at hm
 split at hm
 ·exact nT hd hall hh hm hx
 ·simp only[TV.ev,SV.ev,kx hd hall hh _ _ _ hm hx]
 ·simp only[TV.ev,mb hd hall hh _ _ _ hm hx]
 ·cases hm
theorem kz:∀ (l m:List (Option TV)) (x:List As),ky n0 l m=some x→(∀ y∈x,y∈A)→l.length=m.length∧∀ (t:Nat) v,l[t]?=some (some v)→∃ u,m[t]?=some (some u)∧v.ev (assign ρ A hs)=u.ev ρ
 | [],[],_,_,_=>⟨rfl,fun t v h=>by simp at h⟩
 | none::l,b::m,x,h,hx=>by
  simp only[ky]at h
  obtain⟨h1,h2⟩:=kz l m x h hx
  refine⟨by simp [h1],fun t v hv=>?_⟩
  cases t with
  | zero=>simp at hv
  | succ t=>simpa using h2 t v (by simpa using hv)
 | some c::l,some b::m,x,h,hx=>by
  simp only[ky]at h
  obtain⟨u,v,h1,h2,rfl⟩:=fx h
  obtain⟨e1,e2⟩:=kz l m v h2 (fun y hy=>hx y (List.mem_append_right _ hy))
  refine⟨by simp [e1],fun t v hv=>?_⟩
  cases t with
  | zero =>
   simp only[List.getElem?_cons_zero,Option.some.injEq]at hv
   subst hv
   exact⟨b,rfl,Bs hd hall hh h1 (fun y hy=>hx y (List.mem_append_left _ hy))⟩
  | succ t=>simpa using e2 t v (by simpa using hv)
 | some _::_,none::_,_,h,_=>by simp [ky]at h
 | [],_::_,_,h,_=>by simp [ky]at h
 | none::_,[],_,h,_=>by simp [ky]at h
 | some _::_,[],_,h,_=>by simp [ky]at h
include hdh
theorem yR {t:bc} {r:Option bc} {x:List As} {g:List (Nat×Option Nat)} (hm:Gt n0 t r=some (x,g)) (hx:∀ y∈x,y∈A) (hg:∀ y∈g,y∈hs) :
 (∃ s,r=some s∧t.hl (assign ρ A hs)=s.hl ρ∧(t.own=true→s.own=true)∧(s.pos ρ→t.pos (assign ρ A hs)))∨(t.hl (assign ρ A hs)=Hl.none∧t.pos (assign ρ A hs)):=by
 unfold Gt at hm
 split at hm
 ·right;exact⟨rfl,trivial⟩
 ·rename_i a l T a' l' T'
  split at hm
  ·rename_i hT;subst hT
   left
   split at hm
   ·simp only[Option.map_eq_some_iff,Prod.mk.injEq]at hm
    obtain⟨B,hB,rfl,rfl⟩:=hm
    have e1:(assign ρ A hs).i a=ρ.i a':=by
     have:=dy hd _ (hx _ (List.mem_cons_self ..))
     simp only[assign,this,CV.ev,fg,ai]
    refine⟨_,rfl,?_,fun _=>rfl,?_⟩
    ·simp only[bc.hl,e1,kx hd hall hh _ _ _ hB (fun y hy=>hx y (List.mem_cons_of_mem _ hy))]
    ·simp only[bc.pos,e1];exact id
   ·split at hm
    ·rename_i hlt he;subst he
     simp only[Option.map_eq_some_iff,Prod.mk.injEq]at hm
     obtain⟨B,hB,rfl,rfl⟩:=hm
     have e1:(assign ρ A hs).i a=ρ.i a:=(cR hall hh).i a (by omega)
     refine⟨_,rfl,?_,fun _=>rfl,?_⟩
     ·simp only[bc.hl,e1,kx hd hall hh _ _ _ hB hx]
     ·simp only[bc.pos,e1];exact id
    ·cases hm
  ·cases hm
 ·rename_i k _ _ _ k' _ _ _
  split at hm
  ·cases hm
   have:=fN hdh _ (hg _ (List.mem_singleton.2 rfl))
   left
   exact⟨_,rfl,by simp only[bc.hl,assign,this],fun _=>rfl,fun _=>trivial⟩
  ·split at hm
   ·rename_i hlt he;subst he
    left
    exact⟨_,rfl,by simp only[bc.hl];exact(cR hall hh).h k (by omega),fun _=>rfl,fun _=>trivial⟩
   ·cases hm
 ·rename_i k _ _ _
  split at hm
  ·cases hm
   have:=fN hdh _ (hg _ (List.mem_singleton.2 rfl))
   right;exact⟨by simp only[bc.hl,assign,this],trivial⟩
  ·cases hm
 ·rename_i k _ _ _
  split at hm
  ·cases hm
   have:=fN hdh _ (hg _ (List.mem_singleton.2 rfl))
   right;exact⟨by simp only[bc.hl,assign,this],trivial⟩
  ·cases hm
 ·rename_i k _ _ k' _ _
  split at hm
  ·rename_i hc
   obtain⟨hlt,rfl⟩:=hc
   cases hm
   left
   exact⟨_,rfl,by simp only[bc.hl];exact(cR hall hh).h k hlt,fun h=>h,fun _=>trivial⟩
  ·cases hm
 ·cases hm
theorem qH:∀ (l m:Mem) (x:List As) (g:List (Nat×Option Nat)),EU n0 l m=some (x,g)→(∀ y∈x,y∈A)→(∀ y∈g,y∈hs)→∀ (p:Nat) t,l[p]?=some t →
 (∃ s,m[p]?=some s∧t.hl (assign ρ A hs)=s.hl ρ∧(t.own=true→s.own=true)∧(s.pos ρ→t.pos (assign ρ A hs)))∨(t.hl (assign ρ A hs)=Hl.none∧t.pos (assign ρ A hs))
 | [],_,_,_,_,_,_,p,t,h=>by simp at h
 | r::l,m,x,g,h,hx,hg,p,t,hp=>by
  simp only[EU]at h
  split at h
  ·rename_i a1 h1 b1 g1 e1 e2
   cases h
   cases p with
   | zero =>
    simp only[List.getElem?_cons_zero,Option.some.injEq]at hp
    subst hp
    have:=yR (ρ:=ρ) hd hall hh hdh e1 (fun y hy=>hx y (List.mem_append_left _ hy)) (fun y hy=>hg y (List.mem_append_left _ hy))
    rwa[List.head?_eq_getElem?]at this
   | succ p =>
    have:=qH l m.tail _ _ e2 (fun y hy=>hx y (List.mem_append_right _ hy)) (fun y hy=>hg y (List.mem_append_right _ hy)) p t (by simpa using hp)
    rwa[List.getElem?_tail]at this
  ·cases h
end
theorem MRel.map (h:MRel S w0 ρ mem w) (hm:∀ (p:Nat) t,mem'[p]?=some t→(∃ s,mem[p]?=some s∧t.hl ρ'=s.hl ρ∧(t.own=true→s.own=true)∧(s.pos ρ→t.pos ρ'))∨(t.hl ρ'=Hl.none∧t.pos ρ')):MRel S w0 ρ' mem' w:=by
 refine⟨h.cV,fun r hr=>?_,fun r hr ho b hb=>?_,fun p q r s hpq hp hq ho=>?_,fun r hr=>?_⟩
 ·obtain⟨p,hp⟩:=List.getElem?_of_mem hr
  rcases hm p r hp with ⟨s,hs,e,_⟩ | ⟨e,_⟩
  ·rw[e];exact h.sub s (List.mem_of_getElem? hs)
  ·rw[e];intro b o hb;cases hb
 ·obtain⟨p,hp⟩:=List.getElem?_of_mem hr
  rcases hm p r hp with ⟨s,hs,e,h1,_⟩ | ⟨e,_⟩
  ·rw[e]at hb;exact h.own s (List.mem_of_getElem? hs) (h1 ho) b hb
  ·rw[e]at hb;cases hb
 ·rcases hm p r hp with ⟨s',hs,e,h1,_⟩ | ⟨e,_⟩
  ·rcases hm q s hq with ⟨t',ht,f,_,_⟩ | ⟨f,_⟩
   ·rw[e,f];exact h.ch p q s' t' hpq hs ht (h1 ho)
   ·rw[f];rintro b ⟨_,y⟩;cases y
  ·rw[e];rintro b ⟨y,_⟩;cases y
 ·obtain⟨p,hp⟩:=List.getElem?_of_mem hr
  rcases hm p r hp with ⟨s,hs,_,_,h1⟩ | ⟨_,e⟩
  ·exact h1 (h.pos s (List.mem_of_getElem? hs))
  ·exact e
theorem qJ {h s:St} (hm:EV n0 h s=some (A,hs)) (hA:Rel S w0 ρ s a w):Rel S w0 (assign ρ A hs) h a w∧ae n0 ρ (assign ρ A hs)∧n0≤h.nv:=by
 unfold EV at hm
 split at hm
 ·rename_i a1 b1 g1 e1 e2
  split at hm
  ·rename_i hc
   obtain⟨rfl,rfl⟩:a1++b1=A∧g1=hs:=by simpa using hm
   simp only[Bool.and_eq_true,decide_eq_true_eq]at hc
   obtain⟨⟨⟨⟨⟨hd,hdh⟩,hall⟩,hh⟩,hp⟩,hnv⟩:=hc
   have hg:ae n0 ρ (assign ρ (a1++b1) g1):=cR hall hh
   obtain⟨t1,t2⟩:=kz (ρ:=ρ) hd hall hh _ _ _ e1 (fun y hy=>List.mem_append_left _ hy)
   have m1:=qH (ρ:=ρ) hd hall hh hdh _ _ _ _ e2 (fun y hy=>List.mem_append_right _ hy) (fun y hy=>hy)
   refine⟨⟨hA.toMRel.map m1,by rw[t1];exact hA.size,hA.defers,fun t v hv=>?_,fun e he=>?_⟩,hg,hnv⟩
   ·obtain⟨u,hu,ev⟩:=t2 t v hv
    rw[ev];exact hA.tmp t u hu
   ·rw[List.all_eq_true]at hp
    have:=hp e he
    simp only[Bool.and_eq_true]at this
    rw[ie hg this.1]
    exact hA.path e (by simpa using this.2)
  ·cases hm
 ·cases hm
theorem MRel.of_map (h:MRel S w0 ρ mem w) {mem':Mem} (σ:Nat→Nat) (hi:∀ i j,σ i=σ j→i=j) (hs:∀ (i:Nat) r,mem'[i]?=some r→mem[σ i]?=some r∨r=.dead):MRel S w0 ρ mem' w:=by
 have dead:∀ (r:bc),r=.dead→(r.hl ρ).sub w∧(∀ b,¬(r.hl ρ).mem b)∧r.pos ρ:=fun r e=>by
  subst e
  exact⟨fun b o hb=>(by cases hb),fun b hb=>(by cases hb),trivial⟩
 refine⟨h.cV,fun r hr=>?_,fun r hr ho b hb=>?_,fun p q r s hpq hp hq ho=>?_,fun r hr=>?_⟩
 ·obtain⟨i,hi'⟩:=List.getElem?_of_mem hr
  rcases hs i r hi' with e | e
  ·exact h.sub r (List.mem_of_getElem? e)
  ·exact(dead r e).1
 ·obtain⟨i,hi'⟩:=List.getElem?_of_mem hr
  rcases hs i r hi' with e | e
  ·exact h.own r (List.mem_of_getElem? e) ho b hb
  ·exact absurd hb ((dead r e).2.1 b)
 ·rcases hs p r hp with e | e
  ·rcases hs q s hq with e' | e'
   ·exact h.ch _ _ r s (fun he=>hpq (hi p q he)) e e' ho
   ·exact fun b ⟨_,y⟩=>(dead s e').2.1 b y
  ·exact fun b ⟨x,_⟩=>(dead r e).2.1 b x
 ·obtain⟨i,hi'⟩:=List.getElem?_of_mem hr
  rcases hs i r hi' with e | e
  ·exact h.pos r (List.mem_of_getElem? e)
  ·exact(dead r e).2.2
theorem MRel.pad (h:MRel S w0 ρ mem w) (n:Nat):MRel S w0 ρ (Gz mem n) w:=by
 refine h.of_map id (fun _ _ e=>e) fun i r hr=>?_
 unfold Gz at hr
 rcases Nat.lt_or_ge i mem.length with hl | hl
 ·rw[List.getElem?_append_left hl]at hr;exact Or.inl hr
 ·rw[List.getElem?_append_right hl]at hr
  exact Or.inr (List.eq_of_mem_replicate (List.mem_of_getElem? hr))
theorem MRel.swap (h:MRel S w0 ρ mem w) (p q:Nat):MRel S w0 ρ (Eb mem p q) w:=by
 unfold Eb
 split
 ·rename_i a b hp hq
  have lp:=(List.getElem?_eq_some_iff.1 hp).1
  have lq:=(List.getElem?_eq_some_iff.1 hq).1
  refine h.of_map (fun i=>if i=p then q else if i=q then p else i) (fun i j e=>?_) fun i r hr=>Or.inl ?_
  ·have e:(if i=p then q else if i=q then p else i)=(if j=p then q else if j=q then p else j):=e
   split at e<;>split at e<;>(try split at e)<;>(try split at e)<;>omega
  ·show mem[if i=p then q else if i=q then p else i]?=_
   by_cases h1:i=q
   ·subst h1
    rw[List.getElem?_set_self (by simpa using lq)]at hr
    by_cases h2:i=p
    ·subst h2
     rw[if_pos rfl]
     rw[hq]at hp ⊢
     rw[←hr];exact hp
    ·rw[if_neg h2,if_pos rfl,hp];exact hr
   ·rw[List.getElem?_set_ne (fun e=>h1 e.symm)]at hr
    by_cases h2:i=p
    ·subst h2
     rw[List.getElem?_set_self lp]at hr
     rw[if_pos rfl,hq];exact hr
    ·rw[List.getElem?_set_ne (fun e=>h2 e.symm)]at hr
     rw[if_neg h2,if_neg h1];exact hr
 ·exact h
theorem MRel.fix:∀ (l:Mem) (p:Nat) {m:Mem},MRel S w0 ρ m w→MRel S w0 ρ (CX n0 A l p m) w
 | [],_,_,h=>h
 | r::l,p,m,h=>by
  unfold CX
  split
  ·exact h
  ·rename_i heq
   cases heq
   refine MRel.fix _ _ ?_
   split
   ·split
    ·split
     ·split
      ·exact h.swap _ _
      ·exact h
     ·exact h
    ·exact h
   ·exact h
  ·rename_i heq
   cases heq
   exact MRel.fix _ _ h
theorem sS {h s:St} (hm:Iq n0 h s=some (A,hs)) (hA:Rel S w0 ρ s a w):Rel S w0 (assign ρ A hs) h a w∧ae n0 ρ (assign ρ A hs)∧n0≤h.nv:=by
 unfold Iq at hm
 split at hm
 ·rename_i A0 h0
  split at hm
  ·rename_i r hr
   cases hm
   exact qJ hr ⟨(hA.toMRel.pad _).fix _ _,hA.size,hA.defers,hA.tmp,hA.path⟩
  ·exact qJ hm hA
 ·cases hm
end
end Go.Sx
namespace Go.Sx
open Go
section
variable {P:Program} {C:Ctx} {S:Nat→Prop} {w0:World} {ρ ρ':Env} {st:St} {mem mem':Mem} {a:Act} {w w':World}
def tG (P:Program) (C:Ctx) (ex:Ex):Prop:=∀ d path c st k nd ms S w0 ρ a w (Q:Exit→Act→World→Prop),ex d path c st k=some nd→Rel S w0 ρ st a w→nd.holds C ms ρ →
 (∀ t,Cc S w0 C d ms st.nv ρ (k t) (Q (qs t)))→c.wp P Q a w
theorem lN {ex:Ex} (hex:tG P C ex) {d:Nat} {ms:Nat→Nat} {f:FuncId} {args:List TV} {k:TV→St→Option Nd} {nd:Nd} (h:pG P ex d f args st k=some nd) (hm:MRel S w0 ρ st.mem w) (hp:Path ρ st.path) (hn:nd.holds C ms ρ)
 {R:Value→World→Prop} (hk:∀ ms' r st' nd' ρ' w',(∀ i,i<d→ms' i=ms i)→k r st'=some nd'→ae st.nv ρ ρ'→MRel S w0 ρ' st'.mem w'→Path ρ' st'.path→nd'.holds C ms' ρ'→R (r.ev ρ') w') :
 Calls P f (args.map (TV.ev ρ)).toArray w fun e w'=>∃ v,e=.returned v∧R v w':=by
 unfold pG at h
 split at h
 ·rename_i fn hf
  split at h
  ·rename_i c hb
   refine calls_of_wp hf hb ?_
   have hrel:Rel S w0 ρ ⟨args.map some++List.replicate (fn.ntmps-args.length) none,st.mem,st.nv,st.path⟩ {tmps:=(args.map (TV.ev ρ)).toArray++Array.replicate (fn.ntmps-(args.map (TV.ev ρ)).toArray.size) undef,defers:=[]} w:=by
    refine⟨hm,by simp,rfl,?_,hp⟩
    intro t v hs
    have hs':(args.map some++List.replicate (fn.ntmps-args.length) none)[t]?=some (some v):=hs
    rw[List.getElem?_append]at hs'
    split at hs'
    ·rename_i hlt
     rw[List.getElem?_map,Option.map_eq_some_iff]at hs'
     obtain⟨u,hu1,hu2⟩:=hs'
     cases hu2
     have hlt':t<args.length:=by simpa using hlt
     rw[Array.getElem?_append,if_pos (by simpa using hlt')]
     simp [hu1]
    ·rw[List.getElem?_replicate]at hs'
     split at hs'<;>cases hs'
   refine hex _ _ _ _ _ _ ms _ _ _ _ _ _ h hrel hn fun t=>?_
   intro ms' st' nd' ρ' a' w' hms hk' hg hA hn'
   have key:∀ (t:Tag),(match gO P st' fn.results.toList with
    | some (n,vs)=>wM st' n fun s=>k (te vs) s
    | none=>none)=some nd'→a'.defers=[]∧∃ v,(results fn a'.tmps).run P w'=.ok v w'∧∃ v',Ending.returned v=.returned v'∧R v' w':=by
    intro t hk'
    split at hk'
    ·rename_i n vs hv
     obtain⟨hb,st'',nd'',hk2,he,hA2,hn2⟩:=oR hk' hA hn'
     refine⟨hA.defers,_,sr hA hv hb,_,rfl,?_⟩
     exact hk ms' _ st'' nd'' ρ' w' hms hk2 hg hA2.toMRel hA2.path hn2
    ·cases hk'
   cases t with
   | norm=>exact key .norm hk'
   | ret=>exact key .ret hk'
   | exit i=>cases hk'
  ·cases h
 ·cases h
theorem MRel.Bx (h:MRel S w0 ρ mem w) {p q:Nat} {r1 r2 r':bc} (hp:mem[p]?=some r1) (hq:mem[q]?=some r2) (hpq:q≠p) (o1:r1.own=true) (o2:r2.own=true) (hag:∀ s∈mem,s.same ρ ρ')
 (hnew:r'.hl ρ'=(r1.hl ρ).un (r2.hl ρ)) (hpos:r'.pos ρ'):MRel S w0 ρ' ((mem.set p r').set q .dead) w:=by
 have hlp:p<mem.length:=(List.getElem?_eq_some_iff.1 hp).1
 have hlq:q<mem.length:=(List.getElem?_eq_some_iff.1 hq).1
 have gp:((mem.set p r').set q bc.dead)[p]?=some r':=by
  rw[List.getElem?_set_ne hpq,List.getElem?_set_self hlp]
 have gq:((mem.set p r').set q bc.dead)[q]?=some .dead:=List.getElem?_set_self (by simpa using hlq)
 refine h.GP (fun b=>(r1.hl ρ).mem b∨(r2.hl ρ).mem b) (fun j=>j=p∨j=q) ?_ rfl rfl rfl (Nat.le_refl _) (fun b _ _=>rfl) ?_ ?_ ?_
 ·rintro b (hb | hb)
  ·exact⟨r1,List.mem_of_getElem? hp,o1,hb⟩
  ·exact⟨r2,List.mem_of_getElem? hq,o2,hb⟩
 ·intro j s hj hn
  have h1:j≠p:=fun e=>hn (Or.inl e)
  have h2:j≠q:=fun e=>hn (Or.inr e)
  rw[List.getElem?_set_ne h2.symm,List.getElem?_set_ne h1.symm]at hj
  refine⟨hj,hag s (List.mem_of_getElem? hj),fun b hb hu=>?_⟩
  rcases hu with hu | hu
  ·exact h.ch p j r1 s h1.symm hp hj o1 b ⟨hu,hb⟩
  ·exact h.ch q j r2 s h2.symm hq hj o2 b ⟨hu,hb⟩
 ·intro j s hj hn
  rcases hn with rfl | rfl
  ·rw[gp]at hj
   cases hj
   refine⟨⟨?_,hpos⟩,fun b hb=>?_⟩
   ·rw[hnew];exact Hl.Ei (h.sub _ (List.mem_of_getElem? hp)) (h.sub _ (List.mem_of_getElem? hq))
   ·rw[hnew]at hb
    exact Or.inl (Hl.vp.1 hb)
  ·rw[gq]at hj
   cases hj
   exact⟨⟨fun b o hb=>(by cases hb),trivial⟩,fun b hb=>(by cases hb)⟩
 ·intro j j' s s' hne h1 h2 hj hj' ho
  rcases h1 with rfl | rfl
  ·rcases h2 with rfl | rfl
   ·exact absurd rfl hne
   ·rw[gq]at hj';cases hj'
    exact fun b ⟨_,y⟩=>by cases y
  ·rw[gq]at hj;cases hj
   exact fun b ⟨x,_⟩=>by cases x
theorem jO {mem:Mem} {p:Nat} : ∀ {l:List CV} {y:E} {q:Nat} {r:bc},Dw mem p l=some (y,q,r)→mem[q]?=some r∧r.own=true∧q≠p
 | c::l,y,q,r,h=>by
  unfold Dw at h
  split at h
  ·rename_i y' q' r' hb
   split at h
   ·rename_i hc
    cases h
    cases hr:kQ c with
    | none=>rw[hr]at hb;cases hb
    | some z =>
     rw[hr]at hb
     simp only[Option.bind_some,Option.map_eq_some_iff]at hb
     obtain⟨a,ha,e⟩:=hb
     cases e
     exact⟨bq ha,hc.1,hc.2⟩
   ·exact jO h
  ·exact jO h
theorem wJ {o:Oper} {s:St} {x:X} (h:sW P st o=some (s,x)) (hA:Rel S w0 ρ st a w):∃ ρ',ae st.nv ρ ρ'∧x.n=st.nv∧x.rel C ρ ρ'∧st.nv≤s.nv∧Rel S w0 ρ' s a w:=by
 unfold sW at h
 split at h
 ·split at h
  ·rename_i p k vers tags links hp
   split at h
   ·rename_i y q r hq
    split at h
    ·rename_i hu
     cases h
     have hp:=bq hp
     obtain⟨h1,h2,h3⟩:=jO hq
     have hg:ae st.nv ρ (ρ.iE st.nv (((bc.hp k vers tags links).hl ρ).un (r.hl ρ))):=dn _ _ _ (Nat.le_refl _)
     refine⟨_,hg,rfl,⟨dX _ _ _,hA.ch p q _ _ h3.symm hp h1 rfl⟩,by show st.nv≤st.nv+1;omega,Rel.rV hg hu hA ?_ _⟩
     exact hA.toMRel.Bx hp h1 h3 rfl h2 (Mem.agree hg (St.cM hu)) (dX _ _ _) trivial
    ·cases h
   ·cases h
  ·cases h
 ·cases h
theorem qP {o:Oper} {ms:Nat→Nat} {k:St→Option Nd} : ∀ (n:Nat) {st:St} {ρ:Env} {nd:Nd},EW P o k n st=some nd→Rel S w0 ρ st a w→nd.holds C ms ρ→∃ ρ' s nd',ae st.nv ρ ρ'∧st.nv≤s.nv∧k s=some nd'∧Rel S w0 ρ' s a w∧nd'.holds C ms ρ'
 | 0,st,ρ,nd,h,hA,hn=>⟨ρ,st,nd,ae.refl _ _,Nat.le_refl _,h,hA,hn⟩
 | n+1,st,ρ,nd,h,hA,hn=>by
  unfold EW at h
  split at h
  ·rename_i s x hm
   simp only[Option.map_eq_some_iff]at h
   obtain⟨nd1,h1,rfl⟩:=h
   obtain⟨ρ1,g1,e1,r1,l1,A1⟩:=wJ (C:=C) hm hA
   have hn1:nd1.holds C ms ρ1:=hn ρ1 (by rw[e1];exact g1) r1
   obtain⟨ρ2,s2,nd2,g2,l2,h2,A2,hn2⟩:=qP n h1 A1 hn1
   exact⟨ρ2,s2,nd2,g1.trans (g2.mono l1),Nat.le_trans l1 l2,h2,A2,hn2⟩
  ·exact⟨ρ,st,nd,ae.refl _ _,Nat.le_refl _,h,hA,hn⟩
theorem iO {ex:Ex} (hΓ:∀ s∈C.Γ,s.OK P) (hex:tG P C ex) {d:Nat} {ms:Nat→Nat} {o:Oper} {k:St→Option Nd} {nd:Nd} (h:ny P C.Γ ex d o st k=some nd) (hA:Rel S w0 ρ st a w) (hn:nd.holds C ms ρ)
 {K:Act→World→Prop} {Q:Exit→Act→World→Prop} (hk:Cc S w0 C d ms st.nv ρ k K):o.wp P a w K Q:=by
 unfold ny at h
 split at h
 ·rename_i n v hq
  obtain⟨hb,st',nd',hk',he,hA',hn'⟩:=oR h hA hn
  refine dm (kJ hA hq hb) (hk ms _ nd' ρ _ w (fun _ _=>rfl) hk' (ae.refl _ _) ?_ hn')
  exact Rel.put hA' _ _ _ (fun y hy=>by cases hy;rfl)
 ·obtain⟨ρ1,s1,nd1,g1,l1,h1,hA1,hn1⟩:=qP 4 h hA hn
  replace hk:=hk.dH (fun _ _=>rfl) g1 l1
  clear h hn hA
  rename_i hqq
  clear hqq
  revert h1
  generalize s1=st1 at *
  intro h
  have hA:=hA1
  have hn:=hn1
  split at h
  ·rename_i R hR
   split at h
   ·rename_i hnv
    simp only[Option.map_eq_some_iff]at h
    obtain⟨nd',hk',rfl⟩:=h
    rw[cX]at hn
    refine qt (Q:=Q) hΓ hA hR hn.1 (fun ρ' x w' hg hx hA'=>?_)
    refine hk ms _ nd' ρ' _ w' (fun _ _=>rfl) hk' hg hA' ?_
    have hn2:=hn.2
    cases hRx:R.x with
    | none=>rw[hRx]at hn2 hx;subst hx;exact hn2
    | some y =>
     rw[hRx]at hn2 hx
     exact hn2 ρ' (by rw[hx.2];exact hg) hx.1
   ·cases h
  ·split at h
   ·rename_i c args ats hop
    split at h
    ·rename_i f vs hc hx
     split at h
     ·rename_i hcond
      simp only[Bool.and_eq_true]at hcond
      refine AW hop (kc hA hc) hcond.1 (fJ hA _ _ hx) ?_
      refine lN hex h hA.toMRel hA.path hn fun ms' r st' nd' ρ' w' hms hk' hg hm hp hn'=>?_
      split at hk'
      ·rename_i hnv
       refine hk ms' _ nd' ρ' _ w' hms hk' hg ?_ hn'
       have hAg:=hA.agree hg hcond.2
       exact Rel.put (st:={st' with tmps:=st1.tmps}) ⟨hm,hAg.size,hAg.defers,hAg.tmp,hp⟩ _ _ _ (fun y hy=>by cases hy;rfl)
      ·cases hk'
     ·cases h
    ·cases h
   ·cases h;exact absurd hn (by simp [Nd.holds,dK])
   ·cases h;exact absurd hn (by simp [Nd.holds,dK])
   ·cases h
theorem lM {ex:Ex} (hΓ:∀ s∈C.Γ,s.OK P) (hex:tG P C ex) {d:Nat} {ops:List Oper} {Q:Exit→Act→World→Prop} : ∀ (l:List Oper) (st:St) (k:St→Option Nd) (nd:Nd) (ms:Nat→Nat) (ρ:Env) (a:Act) (w:World),
 gz P C.Γ ex d ops l st k=some nd→Rel S w0 ρ st a w→nd.holds C ms ρ→Cc S w0 C d ms st.nv ρ k (Q .normal)→wpList P ops.toArray Q l a w
 | [],st,k,nd,ms,ρ,a,w,h,hA,hn,hk=>hk ms st nd ρ a w (fun _ _=>rfl) h (ae.refl _ _) hA hn
 | o::l,st,k,nd,ms,ρ,a,w,h,hA,hn,hk=>by
  have ih:=fun st k nd ms ρ a w=>lM (d:=d) (ops:=ops) (Q:=Q) hΓ hex l st k nd ms ρ a w
  have one:∀ (st1:St) (nd1:Nd),st1.nv=st.nv→(ny P C.Γ ex d o st1 fun s=>if st.nv≤s.nv then gz P C.Γ ex d ops l s k else none)=some nd1→Rel S w0 ρ st1 a w→nd1.holds C ms ρ →
   ∀ K:Act→World→Prop,(∀ a w,wpList P ops.toArray Q l a w→K a w)→o.wp P a w K Q:=by
   intro st1 nd1 hnv h1 hA1 hn1 K hK
   refine iO hΓ hex h1 hA1 hn1 fun ms' st' nd' ρ' a' w' hms hk' hg hA' hn'=>hK _ _ ?_
   simp only at hk'
   split at hk'
   ·rename_i hle
    refine ih st' k nd' ms' ρ' a' w' hk' hA' hn' ?_
    rw[hnv]at hg
    exact hk.dH hms hg hle
   ·cases hk'
  have skip:∀ (st1:St) (nd1:Nd),st1.nv=st.nv→gz P C.Γ ex d ops l (st1.put o.dst (some ve)) k=some nd1→Rel S w0 ρ st1 a w→nd1.holds C ms ρ →
   wpList P ops.toArray Q l (a.put o.dst undef) w:=by
   intro st1 nd1 hnv h1 hA1 hn1
   refine ih _ k nd1 ms ρ _ w h1 (Rel.put hA1 _ _ _ (fun y hy=>by cases hy;rfl)) hn1 ?_
   exact hk.dH (fun _ _=>rfl) (ae.refl _ _) (by rw[St.uL,hnv];exact Nat.le_refl _)
  refine wpList_step fun K hK=>?_
  unfold gz at h
  split at h
  ·cases h
  ·rename_i hg
   rw[fz hA hg];simp only[tE,if_true]
   exact one st nd rfl h hA hn K hK
  ·rename_i e want hg
   have hw:Region.wanted o (yielded ops.toArray a.tmps)=(bo ρ e==want):=fz hA hg
   split at h
   ·rename_i b hkn
    have hbe:(bo ρ e==want)=(b==want):=by rw[dg hA.path hkn]
    rw[hw,hbe]
    split at h
    ·rename_i hbw
     rw[if_pos (by simpa using hbw)]
     exact one st nd rfl h hA hn K hK
    ·rename_i hbw
     rw[if_neg (by simpa using hbw)]
     exact hK _ _ (skip st nd rfl h hA hn)
   ·simp only at h
    split at h
    ·rename_i x y h1 h2
     cases h
     rw[cX,fG,fG]at hn
     have hy:bo ρ (if want then e else mkNot e)=(bo ρ e==want):=by
      cases want
      ·simp [cE]
      ·simp
     rw[hw]
     cases hb:(bo ρ e==want)with
     | true =>
      rw[if_pos rfl]
      rw[hb]at hy
      exact one {st with path:=(if want then e else mkNot e)::st.path} x rfl h1 (hA.lz hy) (hn.1 hy) K hK
     | false =>
      rw[if_neg (by simp)]
      rw[hb]at hy
      have hy':bo ρ (mkNot (if want then e else mkNot e))=true:=by rw[cE,hy];rfl
      exact hK _ _ (skip {st with path:=mkNot (if want then e else mkNot e)::st.path} y rfl h2 (hA.lz hy') (hn.2 hy'))
    ·cases h
end
end Go.Sx
namespace Go.Sx
open Go
def swapAt {α:Type} : Nat→List α→List α
 | 0,a::b::l=>b::a::l
 | i+1,a::l=>a::swapAt i l
 | _,l=>l
def sw (i p:Nat):Nat:=if p=i then i+1 else if p=i+1 then i else p
theorem GN {i p q:Nat} (h:p≠q):sw i p≠sw i q:=by unfold sw;split<;>split<;>(try split)<;>(try split)<;>omega
theorem mn {α:Type} : ∀ {l:List α} {i p:Nat},i+1<l.length→(swapAt i l)[p]?=l[sw i p]?
 | a::b::l,0,p,_=>by
  match p with
  | 0=>rfl
  | 1=>rfl
  | p+2=>rfl
 | a::l,i+1,0,h=>rfl
 | a::l,i+1,p+1,h=>by
  show(swapAt i l)[p]?=_
  rw[mn (by simpa using h)]
  have:sw (i+1) (p+1)=sw i p+1:=by unfold sw;split<;>split<;>(try split)<;>(try split)<;>omega
  rw[this,List.getElem?_cons_succ]
 | [],_,_,h=>by simp at h
 | [_],0,_,h=>by simp at h
theorem mo {α:Type} {l:List α} {i:Nat} (hi:i+1<l.length) {x:α} (h:x∈swapAt i l):x∈l:=by
 obtain⟨p,hp⟩:=List.mem_iff_getElem?.1 h
 rw[mn hi]at hp
 exact List.mem_of_getElem? hp
theorem Rel.swap {S:Nat→Prop} {w0:World} {ρ:Env} {st:St} {a:Act} {w:World} (h:Rel S w0 ρ st a w) {i:Nat} (hi:i+1<st.mem.length):Rel S w0 ρ {st with mem:=swapAt i st.mem} a w :=
 ⟨⟨h.cV,fun r hr=>h.sub r (mo hi hr),fun r hr=>h.own r (mo hi hr),fun p q r s hpq hp hq ho=>by
  have hp:(swapAt i st.mem)[p]?=some r:=hp
  have hq:(swapAt i st.mem)[q]?=some s:=hq
  rw[mn hi]at hp hq
  exact h.ch _ _ r s (GN hpq) hp hq ho,fun r hr=>h.pos r (mo hi hr)⟩,h.size,h.defers,h.tmp,h.path⟩
def Dl (n0:Nat) (h s:St):MA:=match Iq n0 h s with
 | some r=>some r
 | none=>(List.range (s.mem.length-1)).findSome? fun i=>Iq n0 h {s with mem:=swapAt i s.mem}
theorem mc {n0:Nat} {S:Nat→Prop} {w0:World} {ρ:Env} {h s:St} {a:Act} {w:World} {A:List As} {hs:List (Nat×Option Nat)} (hm:Dl n0 h s=some (A,hs)) (hA:Rel S w0 ρ s a w):Rel S w0 (assign ρ A hs) h a w∧ae n0 ρ (assign ρ A hs)∧n0≤h.nv:=by
 unfold Dl at hm
 split at hm
 ·rename_i r hr
  cases hm
  exact sS hr hA
 ·obtain⟨i,hi,hm⟩:=List.exists_of_findSome?_eq_some hm
  exact sS hm (hA.swap (by have:=List.mem_range.1 hi;omega))
structure Ce where
 j:Nat
 slots:List (Nat×TV)
 mem:List (Nat×bc)
 nv:Nat
def sm:Code→List Nat
 | .region _ ops _=>ops.toList.filterMap (·.dst)
 | .seq a b=>sm a++sm b
 | .cond _ a b=>sm a++sm b
 | .block _ b=>sm b
 | .loop b=>sm b
 | .scope b=>sm b
 | _=>[]
def Ce.head (L:Ce) (ds:List Nat) (st:St):St where
 tmps:=kC (fun i v=>match L.slots.find? fun q=>q.1==i with
  | some q=>some q.2
  | none=>if ds.contains i then none else v) 0 st.tmps
 mem:=(List.range (max st.mem.length (L.mem.foldl (fun m q=>max m (q.1+1)) 0))).map fun p=>match L.mem.find? fun q=>q.1==p with
  | some q=>q.2
  | none=>st.mem.getD p .dead
 nv:=L.nv
 path:=st.path.filter (E.upto st.nv)
abbrev lJ:=List Nat→Option Ce
def Ay (ex:St→Cd→Option Nd):Nat→St→Cd→Option Nd
 | 0,_,_=>none
 | m+1,st,k=>ex st fun t s=>match t with
  | .norm=>if st.nv≤s.nv then Ay ex m s k else none
  | t=>k t s
abbrev Dk:=Ex→Nat→List Oper→St→(St→Option Nd)→Option Nd
def Ai (P:Program) (Γ:List Spec) (dk:Dk) (Λ:lJ) (lim:Nat) (ex:Ex):Ex:=fun d path c st k =>
 match c with
 | .skip=>k .norm st
 | .label _=>k .norm st
 | .exit i=>k (.exit i) st
 | .ret=>k .ret st
 | .region _ ops draw=>if draw then dk ex d ops.toList st (k .norm)else gz P Γ ex d ops.toList ops.toList st (k .norm)
 | .seq x y=>ex d (path++[0]) x st fun t s=>match t with
  | .norm=>if st.nv≤s.nv then ex d (path++[1]) y s k else none
  | t=>k t s
 | .cond c x y=>match cB st c with
  | some (.sv (.one (.bool e)))=>match known st.path e with
   | some true=>ex d (path++[0]) x st k
   | some false=>ex d (path++[1]) y st k
   | none=>match ex d (path++[0]) x {st with path:=e::st.path} k,ex d (path++[1]) y {st with path:=mkNot e::st.path} k with
    | some a,some b=>some (j6 (oQ e a) (oQ (mkNot e) b))
    | _,_=>none
  | _=>none
 | .block id b=>ex d (path++[0]) b st fun t s=>k (if t=.exit id then .norm else t) s
 | .loop b=>match Λ path with
  | none=>Ay (fun st k=>ex d (path++[0]) b st k) lim st k
  | some L =>
   let hd:=L.head (sm b) st
   match Dl st.nv hd st,ex (d+1) (path++[0]) b hd fun t s=>match t with
    | .norm=>(Dl st.nv hd s).map fun r=>.back d L.j r.1 r.2
    | t=>k t s with
   | some r,some nd=>some (j6 (.inv L.j r.1 r.2) (.havoc d L.j st.nv nd))
   | _,_=>none
 | _=>none
def exec (P:Program) (Γ:List Spec) (dk:Dk) (Λ:lJ) (lim:Nat):Nat→Ex
 | 0=>fun _ _ _ _ _=>none
 | n+1=>fun d path c st k =>
  let ex:=exec P Γ dk Λ lim n
  if(Λ (99::99::path)).isSome=true then some (.e .ff)else
  match Λ (99::path)with
  | none=>Ai P Γ dk Λ lim ex d path c st k
  | some L =>
   let hd:=L.head (sm c) st
   match Ai P Γ dk Λ lim ex d path c st fun t s=>match t with
    | .norm=>(Dl st.nv hd s).map fun r=>.inv L.j r.1 r.2
    | t=>k t s,k .norm hd with
   | some a,some b=>some (j6 a (.havoc d L.j st.nv b))
   | _,_=>none
def lp (p:List Nat):Bool:=decide (p.length>1)&&!(p.head?==some 99)
def cutAt (p:List Nat) (q:List Nat):Bool:=I5 p (99::q)
def Gc (p:List Nat) (q:List Nat):Bool:=I5 p (99::99::q)
def CV.pV:CV→List Nat
 | .hptr (.var a) _=>[a]
 | .sl (.var a) _ _ _=>[a]
 | .map (.var a)=>[a]
 | .pti a _ _ _ _=>[a]
 | _=>[]
def bc.pV:bc→List Nat
 | .aS _ l _=>l.flatMap CV.pV
 | _=>[]
def TV.pV:TV→List Nat
 | .sv v=>v.cells.flatMap CV.pV
 | .tup l=>l.flatMap fun v=>v.cells.flatMap CV.pV
def zj (n0:Nat) (r:TV) (mem:Mem):Mem :=
 let used:=r.pV++mem.flatMap bc.pV
 kC (fun i x=>match x with
  | .aS a l T=>if decide (n0≤i)&&!used.contains a then .dead else .aS a l T
  | x=>x) 0 mem
theorem zk {n0:Nat} {r:TV} {mem:Mem} (p:Nat) (x:bc) (h:(zj n0 r mem)[p]?=some x):mem[p]?=some x∨x=.dead:=by
 unfold zj at h
 simp only[jM,Option.map_eq_some_iff]at h
 obtain⟨y,hy,h⟩:=h
 split at h
 ·split at h
  ·exact Or.inr h.symm
  ·subst h;exact Or.inl hy
 ·subst h;exact Or.inl hy
def Hr (P:Program) (Γ:List Spec) (dk:Dk) (Λ:lJ) (lim fuel:Nat) (f:FuncId) (args:List TV) (mem:Mem) (nv:Nat) (path:List E):Option Nd :=
 pG P (exec P Γ dk Λ lim fuel) 0 f args ⟨[],mem,nv,path⟩ fun r s=>some (.post (zj mem.length r s.mem) r)
def Es (P:Program) (C:Ctx) (dk:Dk):Prop:=∀ ex,tG P C ex→∀ d ops st k nd ms S w0 ρ a w id (Q:Exit→Act→World→Prop),dk ex d ops st k=some nd→Rel S w0 ρ st a w→nd.holds C ms ρ →
 Cc S w0 C d ms st.nv ρ k (Q .normal)→(Code.region id ops.toArray true).wp P Q a w
section
variable {P:Program} {C:Ctx} {S:Nat→Prop} {w0:World} {ρ ρ':Env} {st:St} {mem mem':Mem} {a:Act} {w w':World}
theorem oO {c:Code} {d:Nat} {ex:St→Cd→Option Nd} {k:Cd} {Q:Exit→Act→World→Prop}
 (hex:∀ st k nd ms ρ a w (Q:Exit→Act→World→Prop),ex st k=some nd→Rel S w0 ρ st a w→nd.holds C ms ρ→(∀ t,Cc S w0 C d ms st.nv ρ (k t) (Q (qs t)))→c.wp P Q a w) :
 ∀ (m:Nat) (st:St) (nd:Nd) (ms:Nat→Nat) (ρ:Env) (a:Act) (w:World),Ay ex m st k=some nd→Rel S w0 ρ st a w→nd.holds C ms ρ→(∀ t,Cc S w0 C d ms st.nv ρ (k t) (Q (qs t)))→Code.rounds P c Q m a w
 | 0,st,nd,ms,ρ,a,w,h,_,_,_=>by cases h
 | m+1,st,nd,ms,ρ,a,w,h,hA,hn,hk=>by
  unfold Ay at h
  refine hex st _ nd ms ρ a w _ h hA hn fun t=>?_
  intro ms' st' nd' ρ' a' w' hms hk' hg hA' hn'
  cases t with
  | norm =>
   simp only at hk'
   split at hk'
   ·rename_i hle
    exact oO hex m st' nd' ms' ρ' a' w' hk' hA' hn' fun t=>(hk t).dH hms hg hle
   ·cases hk'
  | ret=>exact hk .ret ms' st' nd' ρ' a' w' hms hk' hg hA' hn'
  | exit i=>exact hk (.exit i) ms' st' nd' ρ' a' w' hms hk' hg hA' hn'
theorem CS {dk:Dk} (hΓ:∀ s∈C.Γ,s.OK P) (gZ:Es P C dk) (Λ:lJ) (lim:Nat) {ex:Ex} (ih:tG P C ex):tG P C (Ai P C.Γ dk Λ lim ex):=fun d path c st k nd ms S w0 ρ a w Q h hA hn hk=>by
 unfold Ai at h
 simp only at h
 have self:∀ t,k t st=some nd→Q (qs t) a w:=fun t h=>hk t ms st nd ρ a w (fun _ _=>rfl) h (ae.refl _ _) hA hn
 split at h
 ·exact wp_skip (self .norm h)
 ·exact wp_label (self .norm h)
 ·exact wp_exit (self (.exit _) h)
 ·exact wp_ret (self .ret h)
 ·rename_i id ops draw
  split at h
  ·rename_i hd
   subst hd
   have:=gZ _ ih d ops.toList st (k .norm) nd ms S w0 ρ a w id Q h hA hn (hk .norm)
   simpa using this
  ·rename_i hd
   have hd:draw=false:=by simpa using hd
   subst hd
   have:=lM (Q:=Q) hΓ ih ops.toList st (k .norm) nd ms ρ a w h hA hn (hk .norm)
   exact wp_region_list (by simpa using this)
 ·rename_i x y
  refine wp_seq (ih d _ x st _ nd ms S w0 ρ a w _ h hA hn fun t=>?_)
  intro ms' st' nd' ρ' a' w' hms hk' hg hA' hn'
  cases t with
  | norm =>
   simp only at hk'
   split at hk'
   ·rename_i hle
    exact ih d _ y st' k nd' ms' S w0 ρ' a' w' Q hk' hA' hn' fun t=>(hk t).dH hms hg hle
   ·cases hk'
  | ret=>exact hk .ret ms' st' nd' ρ' a' w' hms hk' hg hA' hn'
  | exit i=>exact hk (.exit i) ms' st' nd' ρ' a' w' hms hk' hg hA' hn'
 ·rename_i c x y
  split at h
  ·rename_i e hc
   have hce:=ay hA hc
   simp only[TV.ev,SV.ev,CV.ev]at hce
   split at h
   ·rename_i hkn
    exact wp_cond_true (by rw[hce,dg hA.path hkn]) (ih d _ x st k nd ms S w0 ρ a w Q h hA hn hk)
   ·rename_i hkn
    exact wp_cond_false (by rw[hce,dg hA.path hkn]) (ih d _ y st k nd ms S w0 ρ a w Q h hA hn hk)
   ·split at h
    ·rename_i n1 n2 h1 h2
     cases h
     rw[cX,fG,fG]at hn
     refine wp_cond_split hce (fun ht=>?_) (fun hf=>?_)
     ·exact ih d _ x {st with path:=e::st.path} k n1 ms S w0 ρ a w Q h1 (hA.lz ht) (hn.1 ht) hk
     ·have ht:bo ρ (mkNot e)=true:=by rw[cE,hf];rfl
      exact ih d _ y {st with path:=mkNot e::st.path} k n2 ms S w0 ρ a w Q h2 (hA.lz ht) (hn.2 ht) hk
    ·cases h
  ·cases h
 ·rename_i id b
  refine wp_block (ih d _ b st _ nd ms S w0 ρ a w _ h hA hn fun t=>?_)
  intro ms' st' nd' ρ' a' w' hms hk' hg hA' hn'
  cases t with
  | norm=>exact hk .norm ms' st' nd' ρ' a' w' hms (by simpa using hk') hg hA' hn'
  | ret=>exact hk .ret ms' st' nd' ρ' a' w' hms (by simpa using hk') hg hA' hn'
  | exit i =>
   simp only[qs,Exit.inBlock]
   split
   ·rename_i e;subst e
    exact hk .norm ms' st' nd' ρ' a' w' hms (by simpa using hk') hg hA' hn'
   ·rename_i e
    exact hk (.exit i) ms' st' nd' ρ' a' w' hms (by simpa [e] using hk') hg hA' hn'
 ·rename_i b
  split at h
  ·refine wp_loop_rounds lim (oO (d:=d) (fun st k nd ms ρ a w Q h hA hn hk=>ih d _ b st k nd ms S w0 ρ a w Q h hA hn hk) lim st nd ms ρ a w h hA hn hk)
  ·rename_i L hL
   split at h
   ·rename_i r nb hr hb
    cases h
    rw[cX]at hn
    obtain⟨hinv,hhav⟩:=hn
    obtain⟨hA1,hg1,hle⟩:=mc (A:=r.1) (hs:=r.2) hr hA
    have key:∀ (m:Nat) (ρ1:Env) (a1:Act) (w1:World),ae st.nv ρ ρ1→C.inv L.j ρ1→Rel S w0 ρ1 (L.head (sm b) st) a1 w1→C.mu L.j ρ1≤m→Code.rounds P b Q (m+1) a1 w1:=by
     intro m
     induction m with
     | zero =>
      intro ρ1 a1 w1 hg hi hA1 hm
      refine ih (d+1) _ b _ _ nb _ S w0 ρ1 a1 w1 _ hb hA1 (hhav ρ1 hg hi) fun t=>?_
      intro ms' st' nd' ρ' a' w' hms hk' hg' hA' hn'
      have hg2:ae st.nv ρ1 ρ':=hg'.mono hle
      have hms':∀ i,i<d→ms' i=ms i:=fun i hi=>by
       have:=hms i (by omega);rw[this];exact if_neg (by omega)
      cases t with
      | norm =>
       simp only[Option.map_eq_some_iff]at hk'
       obtain⟨q,hq,rfl⟩:=hk'
       have hmu:=hn'.2
       have:ms' d=C.mu L.j ρ1:=by have:=hms d (by omega);rw[this];exact if_pos rfl
       omega
      | ret=>exact hk .ret ms' st' nd' ρ' a' w' hms' hk' (hg.trans hg2) hA' hn'
      | exit i=>exact hk (.exit i) ms' st' nd' ρ' a' w' hms' hk' (hg.trans hg2) hA' hn'
     | succ m ihm =>
      intro ρ1 a1 w1 hg hi hA1 hm
      refine ih (d+1) _ b _ _ nb _ S w0 ρ1 a1 w1 _ hb hA1 (hhav ρ1 hg hi) fun t=>?_
      intro ms' st' nd' ρ' a' w' hms hk' hg' hA' hn'
      have hg2:ae st.nv ρ1 ρ':=hg'.mono hle
      have hms':∀ i,i<d→ms' i=ms i:=fun i hi=>by
       have:=hms i (by omega);rw[this];exact if_neg (by omega)
      cases t with
      | norm =>
       simp only[Option.map_eq_some_iff]at hk'
       obtain⟨q,hq,rfl⟩:=hk'
       obtain⟨hi',hmu⟩:=hn'
       have:ms' d=C.mu L.j ρ1:=by have:=hms d (by omega);rw[this];exact if_pos rfl
       obtain⟨hA2,hg3,_⟩:=mc (A:=q.1) (hs:=q.2) hq hA'
       exact ihm _ a' w' ((hg.trans hg2).trans hg3) hi' hA2 (by omega)
      | ret=>exact hk .ret ms' st' nd' ρ' a' w' hms' hk' (hg.trans hg2) hA' hn'
      | exit i=>exact hk (.exit i) ms' st' nd' ρ' a' w' hms' hk' (hg.trans hg2) hA' hn'
    exact wp_loop_rounds _ (key _ _ a w hg1 hinv hA1 (Nat.le_refl _))
   ·cases h
 ·cases h
theorem Aj {dk:Dk} (hΓ:∀ s∈C.Γ,s.OK P) (gZ:Es P C dk) (Λ:lJ) (lim:Nat):∀ n,tG P C (exec P C.Γ dk Λ lim n)
 | 0=>fun d path c st k nd ms S w0 ρ a w Q h=>by cases h
 | n+1=>fun d path c st k nd ms S w0 ρ a w Q h hA hn hk=>by
  have ih:=CS hΓ gZ Λ lim (Aj hΓ gZ Λ lim n)
  unfold exec at h
  simp only at h
  split at h
  ·cases h;exact nomatch (show false=true from hn)
  split at h
  ·exact ih d path c st k nd ms S w0 ρ a w Q h hA hn hk
  ·rename_i L hL
   split at h
   ·rename_i na nb ha hb
    cases h
    rw[cX]at hn
    obtain⟨hna,hhav⟩:=hn
    refine ih d path c st _ na ms S w0 ρ a w Q ha hA hna fun t=>?_
    intro ms' st' nd' ρ' a' w' hms hk' hg hA' hn'
    cases t with
    | norm =>
     simp only[Option.map_eq_some_iff]at hk'
     obtain⟨q,hq,rfl⟩:=hk'
     obtain⟨hA2,hg2,hle⟩:=mc (A:=q.1) (hs:=q.2) hq hA'
     have hg3:ae st.nv ρ (assign ρ' q.1 q.2):=hg.trans hg2
     exact hk .norm _ _ nb (assign ρ' q.1 q.2) a' w' (fun i hi=>if_neg (by omega)) hb hg3 hA2 (hhav _ hg3 hn')
    | ret=>exact hk .ret ms' st' nd' ρ' a' w' hms hk' hg hA' hn'
    | exit i=>exact hk (.exit i) ms' st' nd' ρ' a' w' hms hk' hg hA' hn'
   ·cases h
theorem qz {dk:Dk} (hΓ:∀ s∈C.Γ,s.OK P) (gZ:Es P C dk) {Λ:lJ} {lim fuel:Nat} {f:FuncId} {args:List TV} {nv:Nat} {path:List E} {nd:Nd} {ms:Nat→Nat} (h:Hr P C.Γ dk Λ lim fuel f args mem nv path=some nd)
 (hm:MRel S w0 ρ mem w) (hp:Path ρ path) (hn:nd.holds C ms ρ) :
 Calls P f (args.map (TV.ev ρ)).toArray w fun e w'=>∃ ρ' mem' r,e=.returned (r.ev ρ')∧ae nv ρ ρ'∧MRel S w0 ρ' mem' w'∧C.post ρ' mem' r:=by
 have:=lN (st:=⟨[],mem,nv,path⟩) (Aj hΓ gZ Λ lim fuel) h hm hp hn (R:=fun v w'=>∃ ρ' mem' r,v=r.ev ρ'∧ae nv ρ ρ'∧MRel S w0 ρ' mem' w'∧C.post ρ' mem' r)
  (fun ms' r st' nd' ρ' w' _ hk' hg hm' _ hn'=>by cases hk';exact⟨ρ',_,r,rfl,hg,hm'.sublist zk,hn'⟩)
 refine this.mono fun e w' ⟨v,he,ρ',mem',r,hv,hg,hm',hp'⟩=>⟨ρ',mem',r,by rw[he,hv],hg,hm',hp'⟩
end
end Go.Sx
