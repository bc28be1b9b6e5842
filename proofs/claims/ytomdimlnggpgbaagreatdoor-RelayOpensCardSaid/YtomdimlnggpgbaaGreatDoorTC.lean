/- RelayOpens. -/
import Derived.Test.YtomdimlnggpgbaaGreatDoorTB
set_option linter.all false
namespace Go.Sx
open Go
structure XR where
 st:St
 need:Nd
 x:Option X
def posOf (mem:Mem) (x:E):Option (Nat×bE) :=
 match x with
 | .var a=>match tf mem a with
  | some (p,l,T)=>some (p,.bw a l T)
  | none=>Cu mem x
 | x=>Cu mem x
theorem bk {mem:Mem} {x:E} {p:Nat} {r:bE} (h:posOf mem x=some (p,r)):mem[p]?=some r:=by
 unfold posOf at h;split at h
 .split at h
  .rename_i q l T hb;cases h;exact fX hb
  .exact iz h
 .exact iz h
def nZ (z:List CV) (n:Nat):List CV:=(List.range n).map fun j=>z.getD (j%z.length) (.bool .tt)
def rootOf:TV->Option E
 | .sv (.one (.hptr x _))=>some x
 | .sv (.one (.sl x _ _ _))=>some x
 | .sv (.one (.map x))=>some x
 | .sv (.one (.clo _ x))=>some x
 | _=>none
def JX (mem:Mem) (size:Nat) (t:TV):Option (Src×E) :=
 match t with
 | .sv (.one (.sl x y l c)) =>
  if x=.lit (-1)then(if y=.lit 0/\l=.lit 0/\c=.lit 0 then some (.cvs [] 0,.lit 0)else none)else
  match pJ mem x y,l with
  | some (_,_,cs,_,o),.lit m=>if 0<=m/\o+m.toNat*size<=cs.length/\(((cs.drop o).take (m.toNat*size)).all CV.ru=true)then some (.cvs ((cs.drop o).take (m.toNat*size)) m.toNat,.lit m)else none
  | _,l=>match(Cu mem x).bind (fun r=>r.2.hk)with
   | some h=>some (.seg h x y l,l)
   | none=>none
 | _=>none
def sC (P:Program) (st:St) (t:TypeId) (p:CV) (v:SV):Option (E×Mem ⊕ X×Mem) :=
 match p with
 | .pti a o s k i=>match tf st.mem a,v with
  | some (p,l,T),.one c=>if fj P t=some 1/\c.ru=true/\(∀ j,j<k->o+s*j<l.length)then
   (updSel l o s i c k).map fun l'=>.inl (O9 i k,st.mem.set p (.bw a l' T))
   else none
  | _,_=>none
 | .hptr x y=>if fj P t=some v.cells.length/\v.cells.all CV.ru=true then match pJ st.mem x y with
  | some (a,p,l,T,o)=>if o+v.cells.length<=l.length then some (.inl (.tt,st.mem.set p (.bw a (bI l o v.cells) T)))else none
  | none=>match Cu st.mem x with
   | some (p,.hp k vers tags links)=>some (.inr (.put st.nv k x y v.cells,st.mem.set p (.hp st.nv (k::vers) tags links)))
   | _=>none
  else none
 | _=>none
where updSel (l:List CV) (o s:Nat) (i:E) (c:CV):Nat->Option (List CV)
 | 0=>some l
 | m+1=>match updSel l o s i c m with
  | some l'=>match l'[o+s*m]? with
   | some old=>match qE (mkEq i (.lit m)) c old with
    | some v=>some (l'.set (o+s*m) v)
    | none=>none
   | none=>none
  | none=>none
def HV (args:List TV) (mem:Mem):W8->Option (Nat×bE)
 | .arg i=>match(args[i]?).bind rootOf with
  | some x=>match posOf mem x with
   | some (p,r)=>if r.own then some (p,r)else none
   | none=>none
  | none=>none
 | .link i j=>match(args[i]?).bind rootOf with
  | some x=>match posOf mem x with
   | some (_,.hp _ _ _ links)=>match links[j]? with
    | some y=>match posOf mem y with
     | some (p,r)=>if r.own then some (p,r)else none
     | none=>none
    | none=>none
   | some (_,.bw _ l _)=>match l[j]? with
    | some (.hptr y _)=>match posOf mem y with
     | some (p,r)=>if r.own then some (p,r)else none
     | none=>none
    | _=>none
   | _=>none
  | none=>none
 | .far i j k=>match(args[i]?).bind rootOf with
  | some x=>match posOf mem x with
   | some (_,.bw _ l _)=>match l[j]? with
    | some (.hptr y _)=>match posOf mem y with
     | some (_,.hp _ _ _ links)=>match links[k]? with
      | some z=>match posOf mem z with
       | some (p,r)=>if r.own then some (p,r)else none
       | none=>none
      | none=>none
     | _=>none
    | _=>none
   | _=>none
  | none=>none
def qb:CV->Option E
 | .hptr x _=>some x
 | .sl x _ _ _=>some x
 | .map x=>some x
 | _=>none
def qN (mem:Mem) (r:Nat×bE):Nat×bE:=match r.2 with
 | .bw _ l _=>match(l.head?).bind qb with
  | some y=>match posOf mem y with
   | some q=>q
   | none=>(mem.length,.dead)
  | none=>(mem.length,.dead)
 | .ro _ _ any=>if any then r else match pV mem 0 with
  | some q=>q
  | none=>r
 | _=>r
def vC:Mem->TypeId->Nat->Option (Nat×bE)
 | [],_,_=>none
 | .bw a l T::m,t,k=>match vC m t (k+1)with
  | some r=>some r
  | none=>if T=t then some (k,.bw a l T)else none
 | _::m,t,k=>vC m t (k+1)
def wt (args:List TV) (mem:Mem) (i:Nat):Nat×bE :=
 if 7000000<=i then match vC mem (i-7000000) 0 with
  | some r=>r
  | none=>(mem.length,.dead)
 else if 6000000<=i then match mem[i-6000000]? with
  | some r=>(i-6000000,r)
  | none=>(mem.length,.dead)
 else if 5000000<=i then match args[(i-5000000)/1000]? with
  | some (.sv (.one (.hptr x y)))=>match posOf mem x with
   | some (_,.bw _ l _)=>match(l[(i-5000000)%1000]?).bind qb with
    | some z=>match posOf mem z with
     | some r=>r
     | none=>(mem.length,.dead)
    | none=>(mem.length,.dead)
   | some (_,.ro k _ _)=>match posOf mem (.hP k x y ((i-5000000)%1000) 0)with
    | some r=>r
    | none=>(mem.length,.dead)
   | _=>(mem.length,.dead)
  | _=>(mem.length,.dead)
 else if 4000000<=i then match args[(i-4000000)/1000]? with
  | some (.sv (.agg l))=>match(l[(i-4000000)%1000]?).bind qb with
   | some y=>match posOf mem y with
    | some r=>qN mem r
    | none=>(mem.length,.dead)
   | none=>(mem.length,.dead)
  | _=>(mem.length,.dead)
 else if 3000000<=i then match(args[i-3000000]?).bind rootOf with
  | some x=>match posOf mem x with
   | some r=>qN mem r
   | none=>(mem.length,.dead)
  | none=>(mem.length,.dead)
 else if 2000000<=i then match posOf mem (.lit ((i-2000000:Nat):Int))with
  | some r=>r
  | none=>(mem.length,.dead)
 else if 1000000<=i then match args[(i-1000000)/1000]? with
  | some (.sv (.agg l))=>match(l[(i-1000000)%1000]?).bind qb with
   | some y=>match posOf mem y with
    | some r=>r
    | none=>(mem.length,.dead)
   | none=>(mem.length,.dead)
  | _=>(mem.length,.dead)
 else if 10000<=i then match args[(i-10000)/100]? with
  | some (.sv (.agg l))=>match(l[(i-10000)%100]?).bind qb with
   | some y=>match posOf mem y with
    | some r=>r
    | none=>(mem.length,.dead)
   | none=>(mem.length,.dead)
  | _=>(mem.length,.dead)
 else if 1000<=i then match(args[(i-1000)/100]?).bind rootOf with
  | some x=>match posOf mem x with
   | some (_,.bw _ l _)=>match(l[(i-1000)%100]?).bind qb with
    | some y=>match posOf mem y with
     | some r=>r
     | none=>(mem.length,.dead)
    | none=>(mem.length,.dead)
   | some r=>r
   | none=>(mem.length,.dead)
  | none=>(mem.length,.dead)
 else if 200<=i then match(args[i-200]?).bind rootOf with
  | some x=>match posOf mem x with
   | some (_,.bw _ (.map y::_) _)=>match posOf mem y with
    | some r=>r
    | none=>(mem.length,.dead)
   | _=>(mem.length,.dead)
  | none=>(mem.length,.dead)
 else if 100<=i then match pV mem 0 with
  | some r=>r
  | none=>(mem.length,.dead)
 else match(args[i]?).bind rootOf with
  | some x=>match posOf mem x with
   | some r=>r
   | none=>(mem.length,.dead)
  | none=>(mem.length,.dead)
def bE.oJ (n:Nat):bE->bE
 | .bw a _ _=>.hp n [] [.var a] []
 | .hp k vers tags links=>.hp n (k::vers) tags links
 | .dead=>.hp n [] [] []
 | r=>r
def qe (mem:Mem) (ps:List (Nat×bE)):Mem:=pO (fun p r=>match ps.find? fun q=>q.1==p with
 | some q=>q.2
 | none=>r) 0 mem
def mM (args:List TV) (l:List Nat):List E:=l.filterMap fun i=>(args[i]?).bind rootOf
def Mt (Γ:List Spec) (st:St) (f:FuncId) (args:List TV) (dst:Option Tmp):Option XR :=
 match Γ.findIdx? fun s=>s.fn==f with
 | some j=>match Γ[j]? with
  | some s=>match gO (s.own.map (HV args st.mem))with
   | some own =>
    let rd:=s.rd.map (wt args st.mem)
    let ps:=own.map (·.1)
    if decide ps.Nodup&&(rd.all fun r=>!ps.contains r.1)then
     let x:X:=.call j st.nv args (own.map (·.2)) (rd.map (·.2))
     let nps:=own.zipIdx.map fun q=>(q.1.1,q.1.2.oJ (st.nv+q.2))
     let mem:=qe st.mem nps++(if aJ 0 s.res=[]then []else [.hp (st.nv+own.length) [] (aJ st.nv s.res) (mM args s.links)])
     some ⟨({st with mem:=mem,nv:=st.nv+max (UT s.res) (own.length+1)} : St).put dst (some (lC st.nv s.res)),.pre x,some x⟩
    else none
   | none=>none
  | none=>none
 | none=>none
def yl (P:Program) (f:FuncId):Bool :=
 match P.funcs[f]? with
 | some fn=>fn.body.isSome&&!(fn.name== "runtime.NumGoroutine")
 | none=>false
def sR (st:St):Operand->Option FuncId
 | .func f=>some f
 | .tmp t=>match st.tmps[t]? with
  | some (some (.sv (.one (.val (.func (.func f) a b)))))=>if a.isEmpty&&b.isEmpty then some f else none
  | _=>none
 | _=>none
def zg (st:St) (l:List CV) (T:TypeId) (dst:Option Tmp) (v:TV):Option XR :=
 if l.all (·.aL st.nv)=true then some ⟨({st with mem:=st.mem++[.bw st.nv l T],nv:=st.nv+1} : St).put dst (some v),.tt,some (.alloc st.nv)⟩else none
def RV (P:Program) (st:St) (t:TypeId) (a b:TV) (dst:Option Tmp):Option XR :=
 match P.underlying t with
 | some (.slice el)=>match P.info? el with
  | some i=>match i.zero with
   | some z=>if z.cells.size=i.size/\0<i.size then
    match a,JX st.mem i.size b with
    | .sv (.one (.sl x y l c)),some (src,le)=>if(l.aL st.nv&&le.aL st.nv)=true then
     let n:=st.nv
     let r:TV:=.sv (.one (.sl (.var n) (.lit 0) (mkAdd l le) (.var (n+1))))
     let fin (mem:Mem) (x:X):XR:=⟨({st with mem:=mem,nv:=n+2} : St).put dst (some r),.pre x,some x⟩
     if x=.lit (-1)then
      if y=.lit 0/\l=.lit 0/\c=.lit 0 then
       some (fin (st.mem++[.hp n [] [.var n] []]) (.app n el i.size i.bytes (.sl x y l c) l .dead src))
      else none
     else match posOf st.mem x with
      | some (p,.hp k vers tags links)=>some (fin (st.mem.set p (.hp n (k::vers) (.var n::tags) links)) (.app n el i.size i.bytes (.sl x y l c) l (.hp k vers tags links) src))
      | some (p,.bw a cells T)=>match y,l,c with
       | .lit o,.lit l,.lit c=>if T=el/\o=0 then
        some (fin (st.mem.set p (.hp n [] [.var n,.var a] [])) (.app n el i.size i.bytes (.sl x y (.lit l) (.lit c)) (.lit l) (.bw a cells T) src))
        else if 0<=o/\0<=l/\l<=c/\o.toNat+l.toNat*i.size<=cells.length/\x=.var a then
         some (fin (st.mem++[.hp n [] [.var n] []]) (.grow n el i.size i.bytes ((cells.drop o.toNat).take (l.toNat*i.size)) l.toNat c.toNat src))
        else none
       | _,_,_=>none
      | _=>none
     else none
    | _,_=>none
    else none
   | none=>none
  | none=>none
 | _=>none
def Nz (P:Program) (st:St) (t:TypeId) (a b:TV) (dst:Option Tmp):Option XR :=
 match P.underlying t,a,b with
 | some (.slice el),.sv (.one (.int k l)),.sv (.one (.int k' c))=>if l=c then match P.info? el with
  | some i=>match i.zero with
   | some z=>if z.cells.size=i.size/\0<i.size/\l.aL st.nv=true then
    let zs:=z.cells.toList.map gV
    let n:=st.nv
    let x:X:=.mk n el zs i.bytes l
    match l with
    | .lit m=>if m.toNat*i.size<=128 then
     some ⟨({st with mem:=st.mem++[.bw n (nZ zs (m.toNat*i.size)) el],nv:=n+1} : St).put dst (some (.sv (.one (.sl (.var n) (.lit 0) l l)))),.pre x,some x⟩
     else some ⟨({st with mem:=st.mem++[.hp n [] [.var n] []],nv:=n+1} : St).put dst (some (.sv (.one (.sl (.var n) (.lit 0) l l)))),.pre x,some x⟩
    | l=>some ⟨({st with mem:=st.mem++[.hp n [] [.var n] []],nv:=n+1} : St).put dst (some (.sv (.one (.sl (.var n) (.lit 0) l l)))),.pre x,some x⟩
    else none
   | none=>none
  | none=>none
  else none
 | _,_,_=>none
def Se (P:Program) (st:St) (t:TypeId) (len:Nat) (is:List Nat) (vs:List TV) (dst:Option Tmp):Option XR :=
 match P.underlying t with
 | some (.slice el)=>match fj P el,lx P el,Ur vs with
  | some n,some z,some vs=>if len*n<=4096/\z.cells.size=n then
   match yA (fun i=>some (i*n,n)) (nZ (z.cells.toList.map gV) (len*n)) (is.zip vs)with
   | some l=>zg st l el dst (.sv (.one (.sl (.var st.nv) (.lit 0) (.lit len) (.lit len))))
   | none=>none
   else none
  | _,_,_=>none
 | _=>none
def Bc (P:Program) (t:TypeId):Option Kd :=
 match P.underlying t with
 | some (.int k)=>some (.int k)
 | some .string=>some .str
 | _=>none
def Nm:Kd->CV->Bool
 | .int k,.int k' _=>decide (k=k')
 | .str,.str _=>true
 | _,_=>false
def KY (P:Program) (st:St) (op:Op) (dst:Option Tmp):Option XR :=
 match op with
 | .makeMap t none=>match P.underlying t with
  | some (.map _ _)=>some ⟨({st with mem:=st.mem++[.hp st.nv [] [.var st.nv] []],nv:=st.nv+1} : St).put dst (some (.sv (.one (.map (.var st.nv))))),.pre (.mnew st.nv),some (.mnew st.nv)⟩
  | _=>none
 | .lookup t m k ok=>match P.underlying t with
  | some (.map kt vt)=>match Bc P kt,lx P vt,FW P vt,cN st m,cN st k with
   | some kd,some z,some agg,some (.sv (.one (.map x))),some (.sv (.one key))=>match(Cu st.mem x).bind (fun r=>r.2.hk),lift z with
    | some h,.sv zs =>
     let ks:=z.cells.toList.map ly
     if Nm kd key&&(agg==isAgg z)&&(agg||ks.length==1)then
      let X:X:=.mget st.nv h x kd key zs ks agg
      let v:=kV st.nv ks agg
      some ⟨({st with nv:=st.nv+aY ks+1} : St).put dst (some (if ok then .tup [v,.one (.bool (.bvar (st.nv+aY ks)))]else .sv v)),.pre X,some X⟩
     else none
    | _,_=>none
   | _,_,_,_,_=>none
  | _=>none
 | .mapUpdate t m k v=>match P.underlying t with
  | some (.map kt _)=>match Bc P kt,cN st m,cN st k,cN st v with
   | some kd,some (.sv (.one (.map x))),some (.sv (.one key)),some (.sv vs)=>if Nm kd key then match Cu st.mem x with
    | some (p,.hp h vers tags links)=>some ⟨({st with mem:=st.mem.set p (.hp st.nv (h::vers) tags links),nv:=st.nv+1} : St).put dst none,.pre (.mset st.nv h x kd key vs),some (.mset st.nv h x kd key vs)⟩
    | _=>none
    else none
   | _,_,_,_=>none
  | _=>none
 | .call {callee:=.builtin .clear,args,argTypes}=>match args.toList,argTypes.toList with
  | [m],[t]=>match P.underlying t,cN st m with
   | some (.map _ _),some (.sv (.one (.map x)))=>match Cu st.mem x with
    | some (p,.hp h vers tags links)=>some ⟨({st with mem:=st.mem.set p (.hp st.nv (h::vers) tags links),nv:=st.nv+1} : St).put dst none,.pre (.mclr st.nv h x),some (.mclr st.nv h x)⟩
    | _=>none
   | _,_=>none
  | _,_=>none
 | _=>none
def Cq (P:Program) (mem:Mem) (el:TypeId) (p L:Nat) (yd n xs ys ls:E):Option (E×(Nat->Option CV)) :=
 match(match xs with | .var bs=>tf mem bs | _=>none)with
 | some (q,m,_) =>
  if q=p then none else
  if yd=ys/\m.length=L then some (.tt,fun j=>m[j]?)
  else match yd,ys with
   | .lit o,.lit o'=>if 0<=o/\0<=o' then some (mkLe (mkAdd (.lit o') n) (.lit m.length),fun j=>if o.toNat<=j then m[j-o.toNat+o'.toNat]? else none)else none
   | _,_=>none
 | none=>match yd,(Cu mem xs).bind (fun r=>r.2.hk)with
  | .lit o,some h=>if 0<=o/\KM P el=true then some (mkOr (mkAnd (mkEq xs (.lit (-1))) (mkEq ls (.lit 0))) (mkAnd (mkLe (.lit 0) xs) (mkAnd (mkLe (.lit 0) ys) (.hby h xs ys n))),fun j=>if o.toNat<=j then some (.int .u8 (.hI h xs ys (j-o.toNat)))else none)else none
  | _,_=>none
def xi (yd ld:E) (src:Nat->Option CV) (j:Nat):Option CV:=match yd,ld with
 | .lit o,.lit l=>if(j:Int)<o+l then src j else none
 | _,_=>src j
def yf (yd n:E) (j:Nat):E:=mkAnd (mkLe yd (.lit j)) (mkLt (.lit j) (mkAdd yd n))
def pz (c:E) (src:Option CV) (old:CV):Option CV :=
 match src with
 | none=>some old
 | some s=>if s.ru=true then(if c=.tt then some s else if c=.ff then some old else qE c s old)else none
def IF (yd n:E) (src:Nat->Option CV):Nat->List CV->Option (List CV)
 | _,[]=>some []
 | j,c::l=>match pz (yf yd n j) (src j) c,IF yd n src (j+1) l with
  | some x,some r=>some (x::r)
  | _,_=>none
def ME (P:Program) (st:St) (el:TypeId) (ad:Nat) (yd ld xs ys ls:E) (dst:Option Tmp):Option XR :=
 match Cu st.mem (.var ad),(Cu st.mem xs).bind (fun r=>r.2.hk)with
 | some (p,.hp k vers tags links),some h=>if KM P el=true then
  let x:X:=.cpy st.nv k (.var ad) yd ld h xs ys ls
  some ⟨({st with mem:=st.mem.set p (.hp st.nv (k::vers) tags links),nv:=st.nv+1} : St).put dst none,.pre x,some x⟩
  else none
 | _,_=>none
def MD (P:Program) (st:St) (t:TypeId) (a b:TV) (dst:Option Tmp):Option XR :=
 match P.underlying t with
 | some (.slice el)=>if fj P el=some 1 then match a,b with
  | .sv (.one (.sl (.var ad) yd ld _)),.sv (.one (.sl xs ys ls _))=>match tf st.mem ad with
   | some (p,l,T) =>
    let n:=mkIte (mkLt ls ld) ls ld
    match Cq P st.mem el p l.length yd n xs ys ls with
    | some (k,src)=>match IF yd n (xi yd ld src) 0 l with
     | some l'=>some ⟨({st with mem:=st.mem.set p (.bw ad l' T)} : St).put dst (some (TI .i64 n)),VA (mkAnd k (mkAnd (mkLe (.lit 0) yd) (mkAnd (mkLe (.lit 0) ld) (mkAnd (mkLe (.lit 0) ls) (mkLe (mkAdd yd n) (.lit l.length)))))),none⟩
     | none=>none
    | none=>none
   | none=>ME P st el ad yd ld xs ys ls dst
  | _,_=>none
  else none
 | _=>none
def Si (P:Program) (st:St) (s d:TypeId) (x:TV) (dst:Option Tmp):Option XR :=
 if s=d then match P.underlying s with
  | some (.slice el)=>if KM P el=true/\x.aL st.nv=true then match x with
   | .sv (.one (.sl (.var a) y l c))=>match tf st.mem a with
    | some (p,cs,T)=>some ⟨({st with mem:=st.mem.set p (.hp st.nv [] [.var a] []),nv:=st.nv+1} : St).put dst (some (.sv (.one (.sl (.var a) y l c)))),.tt,some (.cbs st.nv a cs T)⟩
    | none=>none
   | _=>none
   else none
  | _=>none
 else none
def Td (P:Program) (st:St) (T:TypeId) (x:TV) (dst:Option Tmp):Option XR :=
 match x with
 | .sv v=>match P.underlying T with
  | some (.pointer _) | some (.struct _)=>some ⟨({st with nv:=st.nv+1} : St).put dst (some (.sv (.one (.vr st.nv)))),.tt,some (.mki st.nv T v)⟩
  | _=>none
 | _=>none
def PI (P:Program) (Γ:List Spec) (st:St) (o:Oper):Option XR :=
 if st.aL st.nv=true then
  match o.op with
  | .alloc t=>match lx P t with
   | some z=>zg st (z.cells.toList.map gV) t o.dst (TP (.var st.nv) (.lit 0))
   | none=>none
  | .box t x=>match cN st x with
   | some (.sv v)=>if v.cells.all CV.ru=true then zg st v.cells t o.dst (TP (.var st.nv) (.lit 0))else none
   | _=>none
  | .store t p x=>match cN st p,cN st x with
   | some (.sv (.one pv)),some (.sv v)=>match sC P st t pv v with
    | some (.inl (n,mem))=>some ⟨({st with mem:=mem} : St).put o.dst none,VA n,none⟩
    | some (.inr (x,mem))=>some ⟨({st with mem:=mem,nv:=st.nv+1} : St).put o.dst none,.pre x,some x⟩
    | none=>none
   | _,_=>none
  | .makeSlice t l c=>match cN st l,cN st c with
   | some a,some b=>Nz P st t a b o.dst
   | _,_=>none
  | .buildSlice t len parts=>match tH st (parts.toList.map (·.2))with
   | some vs=>Se P st t len (parts.toList.map (·.1)) vs o.dst
   | none=>none
  | .call {callee:=.builtin .append,args,argTypes}=>match args.toList,argTypes.toList with
   | [a,b],[t,t']=>if t=t' then match cN st a,cN st b with
    | some x,some y=>RV P st t x y o.dst
    | _,_=>none
    else none
   | _,_=>none
  | .call {callee:=.builtin .copy,args,argTypes}=>match args.toList,argTypes.toList with
   | [a,b],[t,_]=>match cN st a,cN st b with
    | some x,some y=>MD P st t x y o.dst
    | _,_=>none
   | _,_=>none
  | .convert s d x=>match cN st x with
   | some x=>Si P st s d x o.dst
   | none=>none
  | .makeInterface T x=>match cN st x with
   | some x=>Td P st T x o.dst
   | none=>none
  | .makeMap t none=>KY P st (.makeMap t none) o.dst
  | .lookup t m k ok=>KY P st (.lookup t m k ok) o.dst
  | .mapUpdate t m k v=>KY P st (.mapUpdate t m k v) o.dst
  | .call {callee:=.builtin .clear,args,argTypes}=>KY P st (.call {callee:=.builtin .clear,args,argTypes}) o.dst
  | .call {callee:=.value c,args,argTypes:=_}=>match sR st c,tH st args.toList with
   | some f,some vs=>if yl P f then Mt Γ st f vs o.dst else none
   | _,_=>none
  | _=>none
 else none
def Ub (mem:Mem) (x:E):Bool:=match posOf mem x with
 | some (_,.hp _ _ tags _)=>tags.contains (.lit (-7))
 | _=>false
def Q3:TV->List CV
 | .sv v=>v.cells
 | _=>[]
def XQ (P:Program) (st:St) (o:Oper):Option (E×List CV) :=
 match o.op with
 | .call {callee:=.builtin .append,args,argTypes}=>match args.toList,argTypes.toList with
  | [a,b],[t,_]=>match P.underlying t with
   | some (.slice el)=>match P.info? el,cN st a,cN st b with
    | some i,some (.sv (.one (.sl x _ _ _))),some y=>match JX st.mem i.size y with
     | some (.cvs l _,_)=>some (x,l)
     | _=>none
    | _,_,_=>none
   | _=>none
  | _,_=>none
 | .store _ p x=>match cN st p,cN st x with
  | some (.sv (.one (.hptr x _))),some (.sv v)=>some (x,v.cells)
  | _,_=>none
 | .call {callee:=.value _,args,argTypes:=_}=>match tH st args.toList with
  | some (.sv (.one (.hptr x _))::vs)=>if Ub st.mem x then some (x,vs.flatMap Q3)else none
  | _=>none
 | _=>none
def NJ (mem:Mem) (p:Nat):List CV->Option (E×Nat×bE)
 | []=>none
 | c::l=>match(qb c).bind (fun y=>(posOf mem y).map fun r=>(y,r))with
  | some (y,q,r)=>if r.own=true/\q≠p then some (y,q,r)else NJ mem p l
  | none=>NJ mem p l
def bE.ks:bE->List Nat
 | .hp k vers _ _=>k::vers
 | _=>[]
def bE.V9:bE->List E
 | .hp _ _ tags _=>tags
 | _=>[]
def Bi (P:Program) (st:St) (o:Oper):Option (St×X) :=
 match XQ P st o with
 | some (x,l)=>match posOf st.mem x with
  | some (p,.hp k vers tags links)=>match NJ st.mem p l with
   | some (y,q,r)=>if st.aL st.nv=true then some ({st with mem:=(st.mem.set p (.hp st.nv (k::r.ks++vers) (tags++y::r.V9) links)).set q .dead,nv:=st.nv+1},.Qe st.nv (.hp k vers tags links) r)else none
   | none=>none
  | _=>none
 | none=>none
section
variable {P:Program} {C:Ctx} {ms:Nat->Nat} {S:Nat->Prop} {w0:World} {J J':Env} {st:St} {mem mem':Mem} {a:Act} {w w':World}
theorem Rel.step (hA:Rel S w0 J st a w) (hu:st.aL st.nv=true) (hg:ai st.nv J J') (hm:MRel S w0 J' mem' w') (nv:Nat) (d:Option Tmp) (v:Option TV) (x:Value) (hx:∀ y,v=some y->x=y.ev J') :
 Rel S w0 J' (({st with mem:=mem',nv:=nv} : St).put d v) (a.put d x) w' :=
 Rel.put (Rel.oH hg hu hA hm nv) d v x hx
theorem St.cY {n:Nat} (h:st.aL n=true):Mem.aL n st.mem=true:=by
 simp only[St.aL,aah]at h;exact h.1.2
def Fin (S:Nat->Prop) (w0:World) (C:Ctx) (J:Env) (st:St) (a:Act) (d:Option Tmp) (R:XR) (K:Act->World->Prop):Prop :=
 ∀ J' x w',ai st.nv J J'->(match R.x with | some y=>y.rel C J J'/\y.n=st.nv | none=>J'=J)->Rel S w0 J' R.st (a.put d x) w'->K (a.put d x) w'
theorem fm {o:Oper} {K:Act->World->Prop} {Q:Exit->Act->World->Prop} {v:Value} (h:(execOp a.eval o).run P w=.ok (.value v) w') (hK:K (a.put o.dst v) w'):o.wp P a w K Q:=by
 unfold Oper.wp;rw[h];exact hK
theorem Ar {o:Oper} {K:Act->World->Prop} {Q:Exit->Act->World->Prop} (h:(execOp a.eval o).run P w=.ok .skip w') (hK:K (a.put o.dst undef) w'):o.wp P a w K Q:=by
 unfold Oper.wp;rw[h];exact hK
theorem oh {l:List CV} {T:TypeId} {d:Option Tmp} {v:TV} {R:XR} {K:Act->World->Prop} (h:zg st l T d v=some R) (hu:st.aL st.nv=true) (hA:Rel S w0 J st a w) (hK:Fin S w0 C J st a d R K)
 {cs:Array Value} (hc:cs=(l.map (CV.ev J)).toArray) {x:Value} (hx:∀ J',ai st.nv J J'->J'.i st.nv=w.heap.size->x=v.ev J'):K (a.put d x) (w.alloc (.cells cs T)):=by
 unfold zg at h;split at h
 .rename_i hl;cases h
  let J':=J.fJ st.nv w.heap.size
  have hg:ai st.nv J J':=bX _ _ _ (aav _);have hi:J'.i st.nv=w.heap.size:=mH _ _ _;refine hK J' x _ hg ⟨show 0<=J'.i st.nv by rw[hi];omega,rfl⟩ (Rel.step hA hu hg ?_ _ _ _ _ (fun y hy=>by cases hy;exact hx J' hg hi));refine hA.toMRel.add rfl rfl rfl aF (fun b hb=>RowKit.Below.heap_alloc w _ b hb) (Mem.bO hg (St.cY hu)) ?_ (by show 0<=J'.i st.nv;rw[hi];omega) ?_
  .intro b o hb;obtain⟨rfl,rfl⟩:=Hl.oq hb;rw[hi,aaa,CV.gD hg l hl,hc];exact heap_alloc_new w _
  .intro b hb;rw[show b=(J'.i st.nv).toNat from Hl.dn.1 hb,hi,aaa];exact aav _
 .cases h
theorem FB {α:Type} : ∀ (l:List α) (k:Nat) (x:α),l[k]?=some x->l.set k x=l
 | [],_,_,_=>rfl
 | y::l,0,x,h=>by simp at h;simp [h]
 | y::l,k+1,x,h=>by simp at h;simp [FB l k x h]
theorem uk {l:List CV} {o s:Nat} {i:E} {c:CV} (h0:0<=aA J i):∀ (m:Nat) (l':List CV),sC.updSel l o s i c m=some l' ->
 l'.length=l.length/\l'.map (CV.ev J)=if aA J i<m then(l.map (CV.ev J)).set (o+s*(aA J i).toNat) (c.ev J)else l.map (CV.ev J)
 | 0,l',h=>by
  cases h;refine⟨rfl,?_⟩;rw[aal (by simpa using h0)]
 | m+1,l',h=>by
  simp only[sC.updSel]at h;split at h
  .rename_i l1 h1;split at h
   .rename_i old hold;split at h
    .rename_i v hv;cases h;obtain⟨e1,e2⟩:=uk h0 m l1 h1;refine⟨by simp [e1],?_⟩;have hm:=od (J:=J) hv;rw[fO,aq]at hm;rw[adv];by_cases hc:aA J i=(m:Int)
     .have e3:(aA J i).toNat=m:=ah;rw[aal ah]at e2;rw[aax (show aA J i<((m+1:Nat):Int)by omega),e3,e2,hm,aax (by simpa using hc)]
     .rw[aal (by simpa using hc)]at hm;rw[hm,FB _ _ _ (show(l1.map (CV.ev J))[o+s*m]?=some (old.ev J)by simp [hold]),e2];by_cases hi:aA J i<m
      .rw[aax hi,aax ah]
      .rw[aal hi,aal ah]
    .cases h
   .cases h
  .cases h
theorem MRel.Df (h:MRel S w0 J mem w) {p b:Nat} {l l':List CV} {T:TypeId} (hp:mem[p]?=some (.bw b l T)) {cs:Array Value} (hc:cs=(l'.map (CV.ev J)).toArray) :
 MRel S w0 J (mem.set p (.bw b l' T)) (w.setRow (J.i b).toNat cs):=by
 refine h.set hp rfl rfl rfl rfl aF (fun c _ hn=>setRow_other w _ c _ (fun e=>hn (Hl.dn.2 e))) (fun s _=>⟨rfl,id⟩) ?_ (show 0<=J.i b from h.pos _ (aae hp)) ?_
 .intro c o hc';obtain⟨rfl,rfl⟩:=Hl.oq hc';rw[hc];exact setRow_heap w _ _ _ T _ (h.bw hp)
 .intro c hc';exact Or.inl (Hl.dn.2 (Hl.dn.1 hc'))
theorem qh {t:TypeId} {b o:Nat} {v:SV} {l:List CV} {T:TypeId} (hs:fj P t=some v.cells.length) (h1:v.cells.all CV.ru=true) (hle:o+v.cells.length<=l.length)
 (hb:w.heap[b]?=some (.cells (l.map (CV.ev J)).toArray T (0,0))) :
 (storeVar t ⟨b,o,none⟩ (v.ev J)).run P w=.ok () (w.setRow b ((bI l o v.cells).map (CV.ev J)).toArray):=by
 unfold storeVar;have hcs:=SV.sU (J:=J) v h1;have hsz:(v.ev J).cells.size=v.cells.length:=by rw[<-abQ,hcs];simp
 simp only[Sem.run_bind,du hs,Result.andThen_ok,hsz,ne_eq,ab8,abK];rw[hcs];have:=run_storeCells_at (P:=P) b o T (v.cells.map (CV.ev J)) 0 (l.map (CV.ev J)).toArray w hb (by simp;omega)
  (fun x hx=>by
   obtain⟨c,hc,rfl⟩:=aaS.1 hx;exact CV.py c (aaE.1 h1 c hc))
 simp only[aa0]at this;simp only[this]
 congr 2
 simp [bI,aaK,acC,ac0]
theorem H9 (hA:MRel S w0 J st.mem w) {t:TypeId} {p:CV} {v:SV} {k:E} (h:sC P st t p v=some (.inl (k,mem'))) (hk:bd J k=true) :
 ∃ q w',p.ev J=.pointer (some q)/\(storeVar t q (v.ev J)).run P w=.ok () w'/\MRel S w0 J mem' w':=by
 unfold sC at h;split at h
 .rename_i b o s m i;split at h
  .rename_i q l T c hb;split at h
   .rename_i hc;simp only[aak,Sum.inl.injEq,aaY]at h;obtain⟨l',hl',rfl,rfl⟩:=h;obtain⟨h0,h1⟩:=iC hk;obtain⟨e1,e2⟩:=uk (c:=c) h0 m l' hl';rw[aax h1]at e2;have hlt:=hc.2.2 (aA J i).toNat ah;have hp:=fX hb;have hpos:0<=J.i b:=hA.pos _ (aae hp);refine⟨_,_,by simp only[CV.ev];rw[ow h0,av hpos,aaa],qh (v:=.one c) hc.1 (by simp [SV.cells,hc.2.1]) (by simp only[SV.cells,aay];omega) (hA.bw hp),?_⟩;refine hA.Df hp ?_;rw[e2];simp only[bI,SV.cells,aaK,acC,ac0,aaC,abp,aay];rw[List.set_eq_take_append_cons_drop,aax (by simpa using hlt)];simp
   .cases h
  .cases h
 .rename_i x y;split at h
  .rename_i hc;split at h
   .rename_i b q l T o hk0;obtain⟨rfl,rfl,hp⟩:=gP hk0;split at h
    .rename_i hle;cases h;have hpos:0<=J.i b:=hA.pos _ (aae hp);exact⟨_,_,by simp only[CV.ev,al,aq];rw[av hpos,aaa],qh hc.1 hc.2 hle (hA.bw hp),hA.Df hp rfl⟩
    .cases h
   .split at h<;>cases h
  .cases h
 .cases h
theorem Ia (hA:Rel S w0 J st a w) (hu:st.aL st.nv=true) {t:TypeId} {p:CV} {v:SV} {x:X} (h:sC P st t p v=some (.inr (x,mem'))) (hk:x.pre C J) :
 ∃ q w' J',p.ev J=.pointer (some q)/\(storeVar t q (v.ev J)).run P w=.ok () w'/\ai st.nv J J'/\x.rel C J J'/\x.n=st.nv/\MRel S w0 J' mem' w':=by
 unfold sC at h;split at h
 .split at h
  .split at h
   .simp at h
   .cases h
  .cases h
 .rename_i x y;split at h
  .rename_i hc;split at h
   .split at h<;>cases h
   .split at h
    .rename_i q k vers tags links hf;cases h;have hp:=iz hf;obtain⟨hx,hy,hw⟩:=hk;have hsub:(J.h k).sub w:=hA.sub _ (aae hp);have hcs:=SV.sU (J:=J) v hc.2;obtain⟨cs,hrun,hsub'⟩:=OS (P:=P) hsub (t:=t) (vs:=v.cells.map (CV.ev J)) (by simpa using hc.1) hcs
      (fun u hu=>by obtain⟨c,hcm,rfl⟩:=aaS.1 hu;exact CV.py c (aaE.1 hc.2 c hcm)) (by simpa using hw)
     let H':=(J.h k).put (aA J x).toNat (aA J y).toNat (v.cells.map (CV.ev J))
     let J':=J.lu st.nv H'
     have hg:ai st.nv J J':=fe _ _ _ (aav _);have hh:J'.h st.nv=H':=ga _ _ _;refine⟨_,_,J',by simp only[CV.ev];rw[av hx],hrun,hg,hh,rfl,?_⟩;have hxm:(J.h k).mem (aA J x).toNat:=by
      obtain⟨c,T,fr,hx',_⟩:=jI hw;unfold Hl.mem;rw[hx'];rfl
     refine hA.toMRel.set hp rfl rfl rfl rfl aF (fun b _ hn=>setRow_other w _ b _ (fun e=>hn (by subst e;exact hxm))) (Mem.bO hg (St.cY hu)) ?_ trivial ?_
     .show(J'.h st.nv).sub _;rw[hh];exact hsub'
     .intro b hb;have hb:(J'.h st.nv).mem b:=hb;rw[hh]at hb;exact Or.inl (Hl.im.1 hb)
    .cases h
  .cases h
 .cases h
end
section
variable {P:Program} {C:Ctx} {ms:Nat->Nat} {S:Nat->Prop} {w0:World} {J J':Env} {st:St} {mem mem':Mem} {a:Act} {w w':World}
theorem yY {z:List CV} {zs:List Value} (hz:z.map (CV.ev J)=zs) (hp:0<zs.length) (n:Nat):(nZ z n).map (CV.ev J)=(madeCells zs.toArray n).toList:=by
 have hlen:z.length=zs.length:=by rw[<-hz];simp
 unfold nZ madeCells;simp only[abA,Array.toList_map,Array.toList_range];refine aa7 fun j _=>?_;simp only[Function.comp,acq];have hlt:j%z.length<z.length:=adu _ ah;rw[aan,aab hlt,abE];have h2:zs[j%zs.length]?=some ((z[j%z.length]).ev J):=by
  rw[<-hz,aao,aaB,aab hlt];rfl
 rw[getElem!_def];simp [h2]
theorem wG (hm:MRel S w0 J mem w) {size:Nat} {t:TV} {src:Src} {le:E} (h:JX mem size t=some (src,le)) (hok:src.ok J size) :
 Me w (t.ev J) (src.len J) (src.i3 J size)/\(src.i3 J size).length=src.len J*size/\(∀ u∈src.i3 J size,u.oneCell'=true)/\aA J le=src.len J:=by
 unfold JX at h;split at h
 .rename_i x y l c;split at h
  .rename_i hx;split at h
   .rename_i hc;cases h;obtain⟨rfl,rfl,rfl⟩:=hc;subst hx;exact⟨Or.inr ⟨⟨_,rfl⟩,rfl,rfl⟩,by simp [Src.i3,Src.len],by simp [Src.i3],rfl⟩
   .cases h
  .split at h
   .rename_i a p cs T o m hk0;obtain⟨rfl,rfl,hp⟩:=gP hk0;split at h
    .rename_i hc;cases h;have hpos:0<=J.i a:=hm.pos _ (aae hp);refine⟨Or.inl ⟨⟨(J.i a).toNat,o,none⟩,(aA J c).toNat,?_,?_⟩,?_,?_,?_⟩
     .simp only[TV.ev,SV.ev,CV.ev,al,aq,Src.len];rw[av hpos,aaa]
     .intro j u hu;rw[dz];simp only[Src.i3,aao,aaX]at hu;simp only[World.cell?,hm.bw hp];split at hu
      .rw[aaW]at hu;simpa using hu
      .simp at hu
     .simp only[Src.i3,Src.len,aaB,aaz,aaF];omega
     .intro u hu;simp only[Src.i3]at hu;obtain⟨q,hq,rfl⟩:=aaS.1 hu;exact CV.py q (aaE.1 hc.2.2 q hq)
     .simp only[aq,Src.len];omega
    .cases h
   .split at h
    .rename_i l _ _ _ _ k hk;have hsub:=yy hm hk;obtain⟨e1,e2⟩:Src.seg k x y l=src/\l=le:=by simpa using h
     subst e1;subst e2;rcases hok with ⟨hx,hy,hl,hj⟩ | hl
     .refine⟨Or.inl ⟨⟨(aA J x).toNat,(aA J y).toNat,none⟩,(aA J c).toNat,?_,?_⟩,?_,?_,?_⟩
      .simp only[TV.ev,SV.ev,CV.ev,Src.len];rw[av hx]
      .intro j u hu;rw[dz];simp only[Src.i3,bW,aao]at hu;by_cases hlt:j<(aA J l).toNat*size
       .rw[aaD hlt]at hu;simp only[aaN,aaj]at hu;obtain⟨v,hv,_⟩:=hj j hlt;rw[hv,abE]at hu;subst hu;exact Hl.ie hsub hv
       .rw[aaq (by simp;omega)]at hu;cases hu
      .simp [Src.i3,Src.len,bW]
      .intro u hu;simp only[Src.i3,bW]at hu;obtain⟨j,hj',rfl⟩:=aaS.1 hu;obtain⟨v,hv,h1⟩:=hj j (aaM.1 hj');rw[hv];exact h1
      .simp only[Src.len];omega
     .refine⟨?_,?_,?_,?_⟩
      .cases hp:az (aA J x) (aA J y)with
       | none =>
        refine Or.inr ⟨⟨(aA J c).toNat,?_⟩,?_,?_⟩
        .simp only[TV.ev,SV.ev,CV.ev,hp,hl];rfl
        .simp [Src.len,hl]
        .simp [Src.i3,bW,hl]
       | some a0 =>
        refine Or.inl ⟨a0,(aA J c).toNat,?_,?_⟩
        .simp only[TV.ev,SV.ev,CV.ev,hp,Src.len]
        .intro j u hu;simp [Src.i3,bW,hl]at hu
      .simp [Src.i3,Src.len,bW,hl]
      .simp [Src.i3,bW,hl]
      .simp [Src.len,hl]
    .cases h
 .cases h
theorem FY (hA:Rel S w0 J st a w) (hu:st.aL st.nv=true) {t:TypeId} {x y:TV} {d:Option Tmp} {R:XR} {ty:TypeId} (h:RV P st t x y d=some R) (hn:R.need.holds C ms J)
 {K:Act->World->Prop} (hK:Fin S w0 C J st a d R K):∃ v' w',(Builtin.append_ #[t,t] ty #[x.ev J,y.ev J]).run P w=.ok v' w'/\K (a.put d v') w':=by
 unfold RV at h;split at h
 .rename_i el ht;split at h
  .rename_i i hi;split at h
   .rename_i z hz;split at h
    .rename_i hzs;split at h
     .rename_i sx sy sl sc src le hsrc;split at h
      .rename_i hup;simp only[aah]at hup;simp only at h;have fin:∀ (mem':Mem) (H:bE) (Hw:(H.hl J).sub w) (R':XR),R'=⟨({st with mem:=mem',nv:=st.nv+2} : St).put d (some (.sv (.one (.sl (.var st.nv) (.lit 0) (mkAdd sl le) (.var (st.nv+1)))))),.pre (.app st.nv el i.size i.bytes (.sl sx sy sl sc) sl H src),some (.app st.nv el i.size i.bytes (.sl sx sy sl sc) sl H src)⟩ ->
        R'.need.holds C ms J->Fin S w0 C J st a d R' K ->
        (∀ w' (H':Hl) J',w.grownBy w' (CV.ev J (.sl sx sy sl sc)).ownBlock->ai st.nv J J'->H'.sub w'->J'.h st.nv=H'->(∀ b,H'.mem b->(H.hl J).mem b\/w.heap.size<=b)->(∀ b,(CV.ev J (.sl sx sy sl sc)).ownBlock=some b->(H.hl J).mem b)->MRel S w0 J' mem' w') ->
        ∃ v' w',(Builtin.append_ #[t,t] ty #[TV.ev J (.sv (.one (.sl sx sy sl sc))),y.ev J]).run P w=.ok v' w'/\K (a.put d v') w':=by
        intro mem' H Hw R' hR' hn hK hmem;subst hR';obtain⟨⟨xs,hown⟩,hl0,hok,h63,hby⟩:=hn;obtain⟨s1,s2,s3,s4⟩:=wG hA.toMRel hsrc hok;obtain⟨v',w',H',hr,o1,o2,o3,o4,o5,o6⟩:=F0 (P:=P) (ty:=ty) Hw ht hi hz rfl rfl hzs.1 hzs.2 hown s2 s1 s3 h63 hby;obtain⟨x',c',hv',hx1,hc1⟩:∃ x' c':Int,v'=.slice (az x' 0) ((aA J sl).toNat+src.len J) c'.toNat/\ -1<=x'/\0<=c':=by
         rcases o1.2 with ⟨rfl,h0⟩ | ⟨g,cap,cur,rfl,_⟩
         .exact⟨-1,0,by rw[h0];rfl,ah,ah⟩
         .exact⟨g,cap,by rw[av ah];simp,ah,ah⟩
        subst hv'
        let J':=((J.fJ st.nv x').fJ (st.nv+1) c').lu st.nv H'
        have hg:ai st.nv J J':=((bX _ _ _ (aav _)).trans (bX _ _ _ ah)).trans (fe _ _ _ (aav _));have e1:J'.i st.nv=x':=by show((J.fJ st.nv x').fJ (st.nv+1) c').i st.nv=x';rw[JT _ _ _ _ ah,mH]
        have e2:J'.i (st.nv+1)=c':=by show((J.fJ st.nv x').fJ (st.nv+1) c').i (st.nv+1)=c';rw[mH]
        have e3:J'.h st.nv=H':=ga _ _ _;have hob:∀ b,(CV.ev J (.sl sx sy sl sc)).ownBlock=some b->(H.hl J).mem b:=by
         intro b hb;simp only[SV.ev,CV.ev]at hown hb;rcases hown.2 with ⟨hq,_⟩ | ⟨g,cap,cur,hq,hgg,_⟩
         .rw[hq]at hb;cases hb
         .rw[hq]at hb;cases hb;unfold Hl.mem;rw[hgg];rfl
        refine⟨_,w',hr,hK J' _ w' hg ⟨⟨by rw[e1];exact hx1,by rw[e2];exact hc1,?_,?_,?_,?_⟩,rfl⟩ (Rel.step hA hu hg (hmem w' H' J' o3 hg o2 e3 (fun b hb=>(o5 b hb).imp id And.right) hob) _ _ _ _ ?_)⟩
        .intro xs' hxs';have:xs'=xs:=by
          rcases hown.2 with ⟨hq,h0⟩ | ⟨g,cap,cur,hq,hgg,_,_,_,ht⟩
          .have a1:=hown.1;have a2:=hxs'.1;rw[h0]at a1 a2;have b1:xs=[]:=abT (by simpa using a1);have b2:xs'=[]:=abT (by simpa using a2);rw[b1,b2]
          .rcases hxs'.2 with ⟨hq',h0⟩ | ⟨g',cap',cur',hq',hgg',_,_,_,ht'⟩
           .rw[hq]at hq';cases hq'
           .rw[hq]at hq';cases hq';rw[hgg]at hgg';cases hgg';rw[<-ht,<-ht']
         subst this;rw[e1,e2,e3];exact o1
        .intro b hb hne;rw[e3];exact o4 b hb hne
        .intro b hb;rw[e3]at hb;rcases o5 b hb with h | ⟨h,_⟩
         .exact Or.inl h
         .right;rw[e1];by_cases hx:0<=x'
          .rw[av hx]at h;simp only[Value.ownBlock,aaj]at h;exact⟨h.symm,hx⟩
          .have:x'= -1:=ah;rw[this]at h;cases h
        .rw[e1];by_cases hx:0<=x'
         .rcases o6 with h | ⟨b,hb,hl⟩
          .left;rw[<-h,av hx];rfl
          .right;left;rw[av hx]at hb;simp only[Value.ownBlock,aaj]at hb;intro hm;have:=Hl.sub_lt Hw hm;omega
         .right;right;omega
        .intro u hu';cases hu';simp only[TV.ev,SV.ev,CV.ev,al,aq,e1,e2,fc,ct hg hup.1,ct hg hup.2,s4]
         congr 1
         omega
       split at h
       .rename_i hx;split at h
        .cases h;refine fin _ .dead (fun b o hb=>by cases hb) _ rfl hn hK ?_;intro w' H' J' hgr hg hs he hd hob;have hown:(CV.ev J (.sl sx sy sl sc)).ownBlock=none:=by
          cases hb:(CV.ev J (.sl sx sy sl sc)).ownBlock with
          | none=>rfl
          | some b=>have:=hob b hb;cases this
         rw[hown]at hgr;refine hA.toMRel.add hgr.os hgr.tape hgr.output hgr.size (fun b hb=>hgr.block b hb aF) (Mem.bO hg (St.cY hu)) (by show(J'.h st.nv).sub w';rw[he];exact hs) trivial ?_;intro b hb;have hb:(J'.h st.nv).mem b:=hb;rw[he]at hb;rcases hd b hb with h | h
         .cases h
         .exact h
        .cases h
       .split at h
        .rename_i p k vers tags links hp;cases h;have hp:=bk hp;refine fin _ (.hp k vers tags links) (hA.sub _ (aae hp)) _ rfl hn hK ?_;intro w' H' J' hgr hg hs he hd hob;refine hA.toMRel.set hp rfl hgr.os hgr.tape hgr.output hgr.size (fun b hb hnm=>hgr.block b hb (fun e=>hnm (hob b e.symm))) (Mem.bO hg (St.cY hu)) (by show(J'.h st.nv).sub w';rw[he];exact hs) trivial ?_;intro b hb;have hb:(J'.h st.nv).mem b:=hb;rw[he]at hb;exact hd b hb
        .rename_i p b cells T hp;split at h
         .rename_i o l c;split at h
          .cases h;have hp:=bk hp;refine fin _ (.bw b cells T) (hA.sub _ (aae hp)) _ rfl hn hK ?_;intro w' H' J' hgr hg hs he hd hob;refine hA.toMRel.set hp rfl hgr.os hgr.tape hgr.output hgr.size (fun b hb hnm=>hgr.block b hb (fun e=>hnm (hob b e.symm))) (Mem.bO hg (St.cY hu)) (by show(J'.h st.nv).sub w';rw[he];exact hs) trivial ?_;intro b hb;have hb:(J'.h st.nv).mem b:=hb;rw[he]at hb;exact hd b hb
          .split at h
           .rename_i hc;obtain⟨c0,c1,c2,c3,rfl⟩:=hc;cases h;have hp:=bk hp;obtain⟨hok,GJ,h63,hby⟩:=hn;obtain⟨s1,s2,s3,s4⟩:=wG hA.toMRel hsrc hok;have hpos:0<=J.i b:=hA.pos _ (aae hp);have hb:=hA.toMRel.bw hp;obtain⟨cp,ob,hr,ho⟩:=DK (P:=P) (w:=w) (ty:=ty) ht hi hz rfl rfl hzs.1 (b:=⟨(J.i b).toNat,o.toNat,none⟩) (n:=l.toNat) (cap:=c.toNat) (olds:=((cells.drop o.toNat).take (l.toNat*i.size)).map (CV.ev J))
             (by simp only[aaB,aaz,aaF];omega)
             (fun j u hu'=>by
              rw[dz];simp only[aao,aaX]at hu';simp only[World.cell?,hb];split at hu'
              .rw[aaW]at hu';simpa using hu'
              .simp at hu') s2 s1 GJ ah h63 hby
            let J':=((J.fJ st.nv w.heap.size).fJ (st.nv+1) cp).lu st.nv (Hl.one w.heap.size ob)
            have hg:ai st.nv J J':=((bX _ _ _ (aav _)).trans (bX _ _ _ ah)).trans (fe _ _ _ (aav _));have e1:J'.i st.nv=w.heap.size:=by show((J.fJ st.nv w.heap.size).fJ (st.nv+1) cp).i st.nv=_;rw[JT _ _ _ _ ah,mH]
            have e2:J'.i (st.nv+1)=cp:=by show((J.fJ st.nv w.heap.size).fJ (st.nv+1) cp).i (st.nv+1)=_;rw[mH]
            have e3:J'.h st.nv=Hl.one w.heap.size ob:=ga _ _ _;refine⟨_,_,?_,hK J' (.slice (some ⟨w.heap.size,0,none⟩) (l.toNat+src.len J) cp) (w.drew.alloc ob) hg ⟨⟨by rw[e1];omega,by rw[e2];omega,?_,?_⟩,rfl⟩ (Rel.step hA hu hg ?_ _ _ _ _ ?_)⟩
            .simp only[TV.ev,SV.ev,CV.ev,al,aq];have hoo:az (J.i b) o=some ⟨(J.i b).toNat,o.toNat,none⟩:=av hpos;rw[hoo];exact hr
            .rw[e1,e2,e3,av ah];simpa using ho
            .intro b' hb';rw[e3]at hb';rw[e1,Hl.dn.1 hb'];simp
            .refine hA.toMRel.add rfl rfl rfl aF (fun b' hb'=>RowKit.Below.heap_alloc w.drew _ b' hb') (Mem.bO hg (St.cY hu)) ?_ trivial ?_
             .show(J'.h st.nv).sub _;rw[e3];intro b' o' hb';obtain⟨rfl,rfl⟩:=Hl.oq hb';exact heap_alloc_new w.drew _
             .intro b' hb';have hb':(J'.h st.nv).mem b':=hb';rw[e3]at hb';rw[Hl.dn.1 hb'];exact aav _
            .intro u hu';cases hu';simp only[TV.ev,SV.ev,CV.ev,al,aq,e1,e2,fc,ct hg hup.2,s4];rw[av ah];simp;omega
           .cases h
         .cases h
        .cases h
      .cases h
     .cases h
    .cases h
   .cases h
  .cases h
 .cases h
end
section
variable {P:Program} {C:Ctx} {ms:Nat->Nat} {S:Nat->Prop} {w0:World} {J J':Env} {st:St} {mem mem':Mem} {a:Act} {w w':World}
def Env.shift (J r:Env) (n:Nat) (hs:Nat->Hl):Env where
 i:=fun k=>if n<=k then r.i (k-n)else J.i k
 b:=fun k=>if n<=k then r.b (k-n)else J.b k
 s:=fun k=>if n<=k then r.s (k-n)else J.s k
 v:=fun k=>if n<=k then r.v (k-n)else J.v k
 h:=fun k=>if n<=k then hs (k-n)else J.h k
theorem qf (J r:Env) (n:Nat) (hs:Nat->Hl):ai n J (J.shift r n hs) :=
 ⟨fun k hk=>aal ah,fun k hk=>aal ah,fun k hk=>aal ah,fun k hk=>aal ah,fun k hk=>aal ah⟩
theorem JV (J r:Env) (n:Nat) (hs:Nat->Hl) (k:Nat):(J.shift r n hs).h (n+k)=hs k:=by simp [Env.shift]
section
variable (J r:Env) (n:Nat) (hs:Nat->Hl)
theorem ya (m:Nat) (k:Ck):(k.cv (n+m)).ev (J.shift r n hs)=(k.cv m).ev r:=by
 have e:∀ j,n<=n+m+j:=fun j=>ah;have d:∀ j,n+m+j-n=m+j:=fun j=>ah;have e0:n<=n+m:=ah;have d0:n+m-n=m:=ah;cases k<;>simp [Ck.cv,CV.ev,al,bq,gf,Env.shift,e,d,e0,d0]<;>rfl
theorem lX:∀ (ks:List Ck) (m:Nat),(ar (n+m) ks).map (CV.ev (J.shift r n hs))=(ar m ks).map (CV.ev r)
 | [],_=>rfl
 | k::ks,m=>by simp only[ar,aaC,ya,abL,lX ks (m+k.len)]
theorem D4 (m:Nat) (c:Cp):(c.sv (n+m)).ev (J.shift r n hs)=(c.sv m).ev r:=by
 cases c with
 | one k=>exact ya J r n hs m k
 | agg ks=>simp only[Cp.sv,SV.ev,lX]
theorem vJ:∀ (l:List Cp) (m:Nat),(cn (n+m) l).map (SV.ev (J.shift r n hs))=(cn m l).map (SV.ev r)
 | [],_=>rfl
 | c::l,m=>by simp only[cn,aaC,D4,abL,vJ l (m+c.len)]
theorem sW (m:Nat) (k:Ck):gJ (n+m) (J.shift r n hs) k↔gJ m r k:=by
 have e:∀ j,n<=n+m+j:=fun j=>ah;have d:∀ j,n+m+j-n=m+j:=fun j=>ah;have e0:n<=n+m:=ah;have d0:n+m-n=m:=ah;cases k<;>simp [gJ,Env.shift,e,d,e0,d0]
theorem rA:∀ (ks:List Ck) (m:Nat),bV (n+m) ks (J.shift r n hs)↔bV m ks r
 | [],_=>adg
 | k::ks,m=>by simp only[bV,sW,abL,rA ks (m+k.len)]
theorem rB:∀ (l:List Cp) (m:Nat),dY (n+m) l (J.shift r n hs)↔dY m l r
 | [],_=>adg
 | c::l,m=>by
  have h:Gs (n+m) (J.shift r n hs) c↔Gs m r c:=by
   cases c with
   | one k=>exact sW J r n hs m k
   | agg ks=>exact rA J r n hs ks m
  simp only[dY,h,abL,rB l (m+c.len)]
theorem Gt (l:List Cp):(lC n l).ev (J.shift r n hs)=(lC 0 l).ev r:=by
 unfold lC;split
 .exact D4 J r n hs 0 _
 .have:=vJ J r n hs l 0;rw[aa0]at this;simp only[TV.ev,this]
end
theorem Ab (mem:Mem) (ps:List (Nat×bE)) (q:Nat):(qe mem ps)[q]?=(mem[q]?).map fun r=>match ps.find? fun x=>x.1==q with | some x=>x.2 | none=>r:=by
 unfold qe;exact oc
theorem rQ (mem:Mem) (ps:List (Nat×bE)):(qe mem ps).length=mem.length:=by simp [qe]
theorem De {args:List TV} {s:W8} {p:Nat} {r:bE} (h:HV args mem s=some (p,r)):mem[p]?=some r/\r.own=true:=by
 unfold HV at h;split at h
 .split at h
  .split at h
   .rename_i hp;split at h
    .cases h;exact⟨bk hp,‹_›⟩
    .cases h
   .cases h
  .cases h
 .split at h
  .split at h
   .split at h
    .split at h
     .rename_i hp;split at h
      .cases h;exact⟨bk hp,‹_›⟩
      .cases h
     .cases h
    .cases h
   .split at h
    .split at h
     .rename_i hp;split at h
      .cases h;exact⟨bk hp,‹_›⟩
      .cases h
     .cases h
    .cases h
   .cases h
  .cases h
 .split at h
  .split at h
   .split at h
    .split at h
     .split at h
      .split at h
       .rename_i hp;split at h
        .cases h;exact⟨bk hp,‹_›⟩
        .cases h
       .cases h
      .cases h
     .cases h
    .cases h
   .cases h
  .cases h
theorem rP {mem:Mem} {r:Nat×bE} (h:mem[r.1]?=some r.2):mem[(qN mem r).1]?=some (qN mem r).2\/(qN mem r=(mem.length,.dead)):=by
 unfold qN;split
 .split
  .split
   .rename_i q hp;left;exact bk (p:=q.1) (r:=q.2) hp
   .right;rfl
  .right;rfl
 .split
  .left;exact h
  .split
   .rename_i q hp;left;have:=(j8 (q:=q.1) (r:=q.2) hp).2;simpa using this
   .left;exact h
 .left;exact h
theorem vD:∀ {mem:Mem} {t:TypeId} {k:Nat} {r:Nat×bE},vC mem t k=some r->k<=r.1/\mem[r.1-k]?=some r.2
 | [],_,_,_,h=>by simp [vC]at h
 | s::m,t,k,r,h=>by
  have step:∀ {r},vC m t (k+1)=some r->k<=r.1/\(s::m)[r.1-k]?=some r.2:=fun {r} h=>by
   obtain⟨h1,h2⟩:=vD h;refine⟨ah,?_⟩;rw[show r.1-k=(r.1-(k+1))+1 by omega,aa1];exact h2
  cases s with
  | bw a l T =>
   simp only[vC]at h;split at h
   .rename_i r' hr;cases h;exact step hr
   .split at h
    .cases h;exact⟨aav _,aF⟩
    .cases h
  | _=>exact step h
theorem wv (args:List TV) (mem:Mem) (i:Nat):mem[(wt args mem i).1]?=some (wt args mem i).2\/(wt args mem i=(mem.length,.dead)):=by
 unfold wt;by_cases h7:7000000<=i
 .rw[aax h7];cases hp:vC mem (i-7000000) 0 with
  | some r=>left;have:=(vD hp).2;simpa using this
  | none=>right;rfl
 rw[aal h7];by_cases h6:6000000<=i
 .rw[aax h6];cases hp:mem[i-6000000]? with
  | some r=>left;exact hp
  | none=>right;rfl
 rw[aal h6];split
 .split
  .split
   .split
    .split
     .rename_i r hp;left;exact bk (p:=r.1) (r:=r.2) hp
     .right;rfl
    .right;rfl
   .split
    .rename_i r hp;left;exact bk (p:=r.1) (r:=r.2) hp
    .right;rfl
   .right;rfl
  .right;rfl
 split
 .split
  .split
   .split
    .rename_i r hp;exact rP (bk (p:=r.1) (r:=r.2) hp)
    .right;rfl
   .right;rfl
  .right;rfl
 split
 .split
  .split
   .rename_i r hp;exact rP (bk (p:=r.1) (r:=r.2) hp)
   .right;rfl
  .right;rfl
 split
 .split
  .rename_i r hp;left;exact bk (p:=r.1) (r:=r.2) hp
  .right;rfl
 split
 .split
  .split
   .split
    .rename_i r hp;left;exact bk (p:=r.1) (r:=r.2) hp
    .right;rfl
   .right;rfl
  .right;rfl
 split
 .split
  .split
   .split
    .rename_i r hp;left;exact bk (p:=r.1) (r:=r.2) hp
    .right;rfl
   .right;rfl
  .right;rfl
 split
 .split
  .split
   .split
    .split
     .rename_i r hp;left;exact bk (p:=r.1) (r:=r.2) hp
     .right;rfl
    .right;rfl
   .rename_i r _ hp;left;exact bk (p:=r.1) (r:=r.2) hp
   .right;rfl
  .right;rfl
 split
 .split
  .split
   .split
    .rename_i r hp;left;exact bk (p:=r.1) (r:=r.2) hp
    .right;rfl
   .right;rfl
  .right;rfl
 split
 .split
  .rename_i r hp;left;have:=(j8 (q:=r.1) (r:=r.2) hp).2;simpa using this
  .right;rfl
 .split
  .split
   .rename_i r hp;left;exact bk (p:=r.1) (r:=r.2) hp
   .right;rfl
  .right;rfl
theorem DJ {α β:Type} {f:α->Option β} : ∀ {l:List α} {m:List β},gO (l.map f)=some m->m.length=l.length/\∀ x∈m,∃ y∈l,f y=some x:=by
 intro l m h;obtain⟨h1,h2⟩:=lP h;refine⟨by simpa using h1,fun x hx=>?_⟩;obtain⟨j,hj⟩:=aa9 hx;have:=h2 j x hj;rw[aao,aak]at this;obtain⟨y,hy,e⟩:=this;exact⟨y,aae hy,e⟩
theorem GB {ps:List (Nat×bE)} (hn:(ps.map (·.1)).Nodup) {q:Nat×bE} (hq:q∈ps):ps.find? (fun x=>x.1==q.1)=some q:=by
 induction ps with
 | nil=>cases hq
 | cons x l ih =>
  rw[aaC,List.nodup_cons]at hn;rw[adk];rcases aas.1 hq with rfl | hq
  .simp
  .have:¬x.1=q.1:=fun e=>hn.1 (e▸ac3 hq);have hb:(x.1==q.1)=false:=by simpa using this
   rw[hb];exact ih hn.2 hq
theorem DS (hΓ:∀ s∈C.Γ,s.OK P) (hA:Rel S w0 J st a w) (hu:st.aL st.nv=true) {f:FuncId} {args:List TV} {d:Option Tmp} {R:XR} (h:Mt C.Γ st f args d=some R) (hn:R.need.holds C ms J)
 {K:Act->World->Prop} (hK:Fin S w0 C J st a d R K):Calls P f (args.map (TV.ev J)).toArray w fun e w'=>∃ v,e=.returned v/\K (a.put d v) w':=by
 unfold Mt at h;split at h
 .rename_i j hj;split at h
  .rename_i s hs;split at h
   .rename_i own hown;simp only at h;split at h
    .rename_i hnd;cases h;simp only[aah,aag,aaE,abf]at hnd;obtain⟨hnd,hrd⟩:=hnd;have hf:s.fn=f:=by
      have:=List.findIdx?_eq_some_iff_getElem.1 hj;obtain⟨hlt,hp,_⟩:=this;rw[aab hlt]at hs;cases hs;simpa using hp
     obtain⟨hlen,hsel⟩:=DJ hown;have hm:=hA.toMRel;have hpos:∀ q∈own,st.mem[q.1]?=some q.2/\q.2.own=true:=fun q hq=>by
      obtain⟨y,_,hy⟩:=hsel q hq;exact De hy
     have hpos':∀ (i:Nat) q,own[i]?=some q->st.mem[q.1]?=some q.2/\q.2.own=true:=fun i q hq=>hpos q (aae hq);have hne:∀ (i k:Nat) q q',i≠k->own[i]?=some q->own[k]?=some q'->q.1≠q'.1:=by
      intro i k q q' hik hi hk e;have h1:(own.map (·.1))[i]?=some q.1:=by rw[aao,hi];rfl
      have h2:(own.map (·.1))[k]?=some q.1:=by rw[aao,hk,e];rfl
      exact hik ((List.getElem?_inj (aai.1 h1).1 hnd).1 (h1.trans h2.symm))
     let Hs:=own.map (fun q=>q.2.hl J)
     let Rs:=(s.rd.map (wt args st.mem)).map (fun q=>q.2.hl J)
     have hn:s.pre (args.map (TV.ev J)) Hs Rs:=by
      have hn:(X.call j st.nv args (own.map (·.2)) ((s.rd.map (wt args st.mem)).map (·.2))).pre C J:=hn;simp only[X.pre,hs]at hn;simpa [Hs,Rs,Function.comp_def] using hn
     have hcall:=hΓ s (aae hs) w (args.map (TV.ev J)) Hs Rs (by simp [Hs,hlen]) (by simp [Rs])
      (fun H hH=>by obtain⟨q,hq,rfl⟩:=aaS.1 hH;exact hm.sub _ (aae (hpos q hq).1))
      (fun H hH=>by
       obtain⟨q,hq,rfl⟩:=aaS.1 hH;obtain⟨i,_,rfl⟩:=aaS.1 hq;rcases wv args st.mem i with h | h
       .exact hm.sub _ (aae h)
       .rw[h];intro b o hb;cases hb)
      (fun p q H K hpq hp hq=>by
       simp only[Hs,aao,aak]at hp hq;obtain⟨x,hx,rfl⟩:=hp;obtain⟨y,hy,rfl⟩:=hq;exact hm.bT _ _ _ _ (hne p q x y hpq hx hy) (hpos' p x hx).1 (hpos' q y hy).1 (hpos' p x hx).2)
      (fun H hH K hK'=>by
       obtain⟨q,hq,rfl⟩:=aaS.1 hH;obtain⟨r,hr,rfl⟩:=aaS.1 hK';obtain⟨i,hi,rfl⟩:=aaS.1 hr;rcases wv args st.mem i with h | h
       .refine hm.bT _ _ _ _ (fun e=>?_) (hpos q hq).1 h (hpos q hq).2;have:=hrd _ hr;rw[<-e]at this;have hc:(own.map (·.1)).contains q.1=true:=abw.2 (ac3 hq);rw[hc]at this;cases this
       .rw[h];rintro b ⟨_,y⟩;cases y)
      hn
     rw[hf]at hcall;refine hcall.mono fun e w' ⟨r,Hs',F,he,hnorm,ht,hpost⟩=>⟨_,he,?_⟩;have hl':Hs'.length=own.length:=by rw[ht.len];simp [Hs]
     let J':=J.shift r st.nv (fun k=>if k<own.length then Hs'.getD k Hl.none else F)
     have hg:ai st.nv J J':=qf _ _ _ _;have eh:∀ k,k<own.length->J'.h (st.nv+k)=Hs'.getD k Hl.none:=fun k hk=>by rw[JV];exact aax hk
     have eF:J'.h (st.nv+own.length)=F:=by rw[JV];exact aal ah
     have hnew:newHs J' st.nv own.length=Hs':=by
      apply aaL;intro k;unfold newHs;rw[aao];by_cases hk:k<own.length
      .rw[aaD hk];simp only[aaN];rw[eh k hk,aan,aab ah];rfl
      .rw[aaq (by simp;omega),aaq ah];rfl
     have etv:(lC st.nv s.res).ev J'=(lC 0 s.res).ev r:=Gt _ _ _ _ _
     let nps:=own.zipIdx.map fun q=>(q.1.1,q.1.2.oJ (st.nv+q.2))
     have hnps:nps.map (·.1)=own.map (·.1):=by
      simp only[nps,abA];have:((fun(x:Nat×bE)=>x.1)∘fun(q:(Nat×bE)×Nat)=>(q.1.1,q.1.2.oJ (st.nv+q.2)))=(fun(x:Nat×bE)=>x.1)∘Prod.fst:=by funext q;rfl
      rw[this,<-abA]
      congr 1
      exact List.zipIdx_map_fst 0 own
     have hturn:∀ (k:Nat) q,own[k]?=some q->(qe st.mem nps)[q.1]?=some (q.2.oJ (st.nv+k)):=by
      intro k q hq;have hmem:(q.1,q.2.oJ (st.nv+k))∈nps:=aaS.2 ⟨(q,k),List.mk_mem_zipIdx_iff_getElem?.2 hq,rfl⟩;rw[Ab,(hpos' k q hq).1];have:=GB (by rw[hnps];exact hnd) hmem;simp only at this;simp [this]
     have hkeep:∀ (p:Nat),(∀ q∈own,q.1≠p)->(qe st.mem nps)[p]?=st.mem[p]?:=by
      intro p hp;rw[Ab];have:nps.find? (fun x=>x.1==p)=none:=by
       rw[acg];intro x hx;have:x.1∈own.map (·.1):=by rw[<-hnps];exact ac3 hx
       obtain⟨q,hq,e⟩:=aaS.1 this;simpa [<-e] using hp q hq
      rw[this];simp
     have hturnhl:∀ (k:Nat) q,own[k]?=some q->(q.2.oJ (st.nv+k)).hl J'=Hs'.getD k Hl.none/\(q.2.oJ (st.nv+k)).pos J':=by
      intro k q hq;have hk:k<own.length:=(aai.1 hq).1;have:=(hpos' k q hq).2;cases hr:q.2 with
      | bw b l T=>exact⟨eh k hk,trivial⟩
      | hp kk vers tags links=>exact⟨eh k hk,trivial⟩
      | ro kk tags any=>rw[hr]at this;cases this
      | dead=>exact⟨eh k hk,trivial⟩
     have hsubH:∀ k,k<own.length->Hs'.getD k Hl.none∈Hs':=fun k hk=>by
      rw[aan,aab ah];exact abt _
     have hgetH:∀ k,k<own.length->Hs'[k]?=some (Hs'.getD k Hl.none):=fun k hk=>by
      rw[aan,aab ah];rfl
     have hU:∀ b,(∃ H∈Hs,H.mem b)->∃ q∈own,(q.2.hl J).mem b:=fun b ⟨H,hH,hb⟩=>by
      obtain⟨q,hq,rfl⟩:=aaS.1 hH;exact⟨q,hq,hb⟩
     have place:∀ (p:Nat) x,(qe st.mem nps++(if aJ 0 s.res=[]then []else [bE.hp (st.nv+own.length) [] (aJ st.nv s.res) (mM args s.links)]))[p]?=some x ->
      (∃ (k:Nat) (q:Nat×bE),own[k]?=some q/\q.1=p/\x=q.2.oJ (st.nv+k))\/((∀ q∈own,q.1≠p)/\p<st.mem.length/\st.mem[p]?=some x) \/
      (p=st.mem.length/\aJ 0 s.res≠[]/\x=bE.hp (st.nv+own.length) [] (aJ st.nv s.res) (mM args s.links)):=by
      intro p x hp;rw[acr]at hp;split at hp
      .rename_i hlt;by_cases hq:∃ q∈own,q.1=p
       .obtain⟨q,hq,rfl⟩:=hq;obtain⟨k,hk⟩:=aa9 hq;rw[hturn k q hk]at hp;exact Or.inl ⟨k,q,hk,rfl,(aaZ hp).symm⟩
       .have hq':∀ q∈own,q.1≠p:=fun q hm e=>hq ⟨q,hm,e⟩;rw[hkeep p hq']at hp;rw[rQ]at hlt;exact Or.inr (Or.inl ⟨hq',hlt,hp⟩)
      .rename_i hge;rw[rQ]at hp hge;split at hp
       .simp at hp
       .rename_i hr;have:p-st.mem.length=0:=by
         rcases abR (p-st.mem.length)with h0 | h0
         .exact h0
         .rw[aaq (by simp;omega)]at hp;cases hp
        rw[this]at hp;simp only[aa4,aaj]at hp;exact Or.inr (Or.inr ⟨ah,hr,hp.symm⟩)
     have hownlt:∀ q∈own,q.1<st.mem.length:=fun q hq=>(aai.1 (hpos q hq).1).1;refine hK J' _ w' hg ⟨?_,rfl⟩ (Rel.step hA hu hg ?_ _ _ _ _ (fun y hy=>by cases hy;exact etv.symm))
     .show X.rel C J J' (.call j st.nv args (own.map (·.2)) ((s.rd.map (wt args st.mem)).map (·.2)));simp only[X.rel,hs];refine⟨F,?_,fun _=>by rw[aaB];exact eF,(rB J r st.nv _ s.res 0).2 hnorm⟩;rw[etv,aaB,hnew];simpa [Hs,Rs,Function.comp_def] using hpost
     .refine hm.vl (fun b=>∃ H∈Hs,H.mem b) (fun p=>(∃ q∈own,q.1=p)\/p=st.mem.length) (fun b hb=>?_) ht.os ht.tape ht.output ht.size (fun b hl hb=>ht.block b hl (fun H hH hm=>hb ⟨H,hH,hm⟩)) ?_ ?_ ?_
      .obtain⟨q,hq,hb⟩:=hU b hb;exact⟨q.2,aae (hpos q hq).1,(hpos q hq).2,hb⟩
      .intro p x hp hnw;rcases place p x hp with ⟨k,q,hk,rfl,_⟩ | ⟨h1,h2,h3⟩ | ⟨h1,_⟩
       .exact absurd (Or.inl ⟨q,aae hk,rfl⟩) hnw
       .refine⟨h3,Mem.bO hg (St.cY hu) x (aae h3),fun b hb hu'=>?_⟩;obtain⟨q,hq,hqb⟩:=hU b hu';exact hm.bT _ _ _ _ (h1 q hq) (hpos q hq).1 h3 (hpos q hq).2 b ⟨hqb,hb⟩
       .exact absurd (Or.inr h1) hnw
      .intro p x hp hnw;rcases place p x hp with ⟨k,q,hk,rfl,rfl⟩ | ⟨h1,h2,h3⟩ | ⟨h1,h2,rfl⟩
       .have qW:=(aai.1 hk).1;obtain⟨e1,e2⟩:=hturnhl k q hk;rw[e1];exact⟨⟨ht.sub _ (hsubH k qW),e2⟩,fun b hb=>ht.dom _ (hsubH k qW) b hb⟩
       .rcases hnw with ⟨q,hq,e⟩ | e
        .exact absurd e (h1 q hq)
        .omega
       .have e:(bE.hp (st.nv+own.length) [] (aJ st.nv s.res) (mM args s.links)).hl J'=F:=eF;rw[e];exact⟨⟨ht.fsub,trivial⟩,fun b hb=>ht.fdom b hb⟩
      .intro p p' x y hne' hnw hnw' hp hp' _;rcases place p x hp with ⟨k,q,hk,rfl,rfl⟩ | ⟨h1,h2,h3⟩ | ⟨h1,h2,rfl⟩
       .have qW:=(aai.1 hk).1;rw[(hturnhl k q hk).1];rcases place p' y hp' with ⟨k',q',hk',rfl,rfl⟩ | ⟨h1',h2',h3'⟩ | ⟨h1',h2',rfl⟩
        .have hkl':=(aai.1 hk').1;rw[(hturnhl k' q' hk').1];exact ht.bT k k' _ _ (fun e=>by subst e;rw[hk]at hk';cases hk';exact hne' rfl) (hgetH k qW) (hgetH k' hkl')
        .rcases hnw' with ⟨q',hq',e⟩ | e
         .exact absurd e (h1' q' hq')
         .omega
        .have e:(bE.hp (st.nv+own.length) [] (aJ st.nv s.res) (mM args s.links)).hl J'=F:=eF;rw[e];exact ht.fdis _ (hsubH k qW)
       .rcases hnw with ⟨q,hq,e⟩ | e
        .exact absurd e (h1 q hq)
        .omega
       .have e:(bE.hp (st.nv+own.length) [] (aJ st.nv s.res) (mM args s.links)).hl J'=F:=eF;rw[e];rcases place p' y hp' with ⟨k',q',hk',rfl,rfl⟩ | ⟨h1',h2',h3'⟩ | ⟨h1',h2',rfl⟩
        .have hkl':=(aai.1 hk').1;rw[(hturnhl k' q' hk').1];exact Hl.jt (ht.fdis _ (hsubH k' hkl'))
        .rcases hnw' with ⟨q',hq',e⟩ | e
         .exact absurd e (h1' q' hq')
         .omega
        .exact absurd (h1.trans h1'.symm) hne'
    .cases h
   .cases h
  .cases h
 .cases h
end
section
variable {P:Program} {C:Ctx} {ms:Nat->Nat} {S:Nat->Prop} {w0:World} {J J':Env} {st:St} {mem mem':Mem} {a:Act} {w w':World}
theorem Iz (v:Value):∃ q:Env,((ly v).cv 0).ev q=v:=by
 let e0:Env:=⟨fun _=>0,fun _=>false,fun _=>.empty,fun _=>.tuple #[],fun _=>Hl.none⟩
 cases v with
 | int k n=>exact⟨{e0 with i:=fun _=>n},rfl⟩
 | bool b=>exact⟨{e0 with b:=fun _=>b},rfl⟩
 | string s=>exact⟨{e0 with s:=fun _=>s},rfl⟩
 | pointer p =>
  obtain⟨x,y,h,_⟩:=oC p;exact⟨{e0 with i:=fun k=>if k=0 then x else y},by simp [ly,Ck.cv,CV.ev,al,h]⟩
 | slice p n c =>
  obtain⟨x,y,h,_⟩:=oC p;exact⟨{e0 with i:=fun k=>if k=0 then x else if k=1 then y else if k=2 then n else c},by simp [ly,Ck.cv,CV.ev,al,h]⟩
 | map r =>
  cases r with
  | none=>exact⟨{e0 with i:=fun _=> -1},rfl⟩
  | some r =>
   refine⟨{e0 with i:=fun _=>r},?_⟩;have e:¬((r:Int)= -1):=ah;simp only[ly,Ck.cv,CV.ev,al,e,abK,aaa]
 | _=>exact⟨⟨fun _=>0,fun _=>false,fun _=>.empty,fun _=>_,fun _=>Hl.none⟩,rfl⟩
theorem IA (k:Ck) (n:Nat):(k.cv n).aL (n+k.len)=true:=by
 cases k<;>simp [Ck.cv,CV.aL,E.aL,Ck.len]
theorem db:∀ (ks:List Ck) (n:Nat),(ar n ks).all (·.aL (n+aY ks))=true
 | [],_=>rfl
 | k::ks,n=>by
  simp only[ar,ads,aah];have e:n+aY (k::ks)=n+k.len+aY ks:=by simp [aY];omega
  rw[e];refine⟨?_,db ks (n+k.len)⟩;have:∀ m,n+k.len<=m->(k.cv n).aL m=true:=by
   intro m hm;cases k<;>simp [Ck.cv,CV.aL,E.aL,Ck.len]at hm ⊢<;>omega
  exact this _ ah
theorem My:∀ (vs:List Value),∃ q:Env,(ar 0 (vs.map ly)).map (CV.ev q)=vs
 | []=>⟨⟨fun _=>0,fun _=>false,fun _=>.empty,fun _=>.tuple #[],fun _=>Hl.none⟩,rfl⟩
 | v::vs=>by
  obtain⟨q1,h1⟩:=Iz v;obtain⟨q2,h2⟩:=My vs;refine⟨q1.shift q2 (ly v).len (fun _=>Hl.none),?_⟩;simp only[aaC,ar,aaP]
  congr 1
  .rw[CV.bO (qf q1 q2 (ly v).len _) _ (by have:=IA (ly v) 0;rwa[aaP]at this)];exact h1
  .have:=lX q1 q2 (ly v).len (fun _=>Hl.none) (vs.map ly) 0;rw[aa0]at this;rw[this];exact h2
theorem LK {ks:List Ck} {agg:Bool} {v:Value} (h:mW ks agg v):∃ q:Env,(kV 0 ks agg).ev q=v:=by
 unfold mW at h;unfold kV;split at h
 .rename_i ha;obtain⟨cs,rfl,hk⟩:=h;obtain⟨q,hq⟩:=My cs.toList;rw[hk]at hq;exact⟨q,by rw[aax ha];simp only[SV.ev,hq]⟩
 .rename_i ha;obtain⟨k,rfl,rfl⟩:=h;obtain⟨q,hq⟩:=Iz v;exact⟨q,by rw[aal ha];exact hq⟩
theorem CM (J r:Env) (n:Nat) (hs:Nat->Hl) (ks:List Ck) (agg:Bool):(kV n ks agg).ev (J.shift r n hs)=(kV 0 ks agg).ev r:=by
 have h1:=lX J r n hs ks 0;rw[aa0]at h1;unfold kV;split
 .simp only[SV.ev,h1]
 .split
  .rename_i k;exact ya J r n hs 0 k
  .simp only[SV.ev,h1]
theorem CL {n:Nat} {ks:List Ck} {agg:Bool} (hg:ai (n+aY ks) J J'):(kV n ks agg).ev J'=(kV n ks agg).ev J:=by
 have h1:=CV.gD hg _ (db ks n);unfold kV;split
 .simp only[SV.ev,h1]
 .split
  .rename_i k;refine CV.bO hg _ ?_;have:=IA k n;simpa [aY] using this
  .simp only[SV.ev,h1]
theorem findNow_spec {kind:TypeDesc} {key:Value} : ∀ (l:List MapEntry) (i0 i:Nat) (v:Value),Instr.findNow kind key l i0=some (some (i,v))->i0<=i/\∃ e,l[i-i0]?=some e/\e.val=v/\Instr.sameNow kind key e.key=some true
 | [],_,_,_,h=>by simp [Instr.findNow]at h
 | e::l,i0,i,v,h=>by
  unfold Instr.findNow at h;split at h
  .rename_i hs;simp only[aaj,aaY]at h;obtain⟨rfl,rfl⟩:=h;exact⟨aav _,e,aF,rfl,hs⟩
  .obtain⟨h1,e',h2,h3,h4⟩:=findNow_spec l (i0+1) i v h;exact⟨ah,e',by rw[show i-i0=(i-(i0+1))+1 by omega,aa1];exact h2,h3,h4⟩
  .cases h
theorem yO {t:TypeId} {kd:Kd} (h:Bc P t=some kd):(∃ k,kd=.int k/\P.underlying t=some (.int k))\/(kd=.str/\P.underlying t=some .string):=by
 unfold Bc at h;split at h
 .rename_i k hu;cases h;exact Or.inl ⟨k,rfl,hu⟩
 .rename_i hu;cases h;exact Or.inr ⟨rfl,hu⟩
 .cases h
theorem sV {t:TypeId} {kd:Kd} (h:Bc P t=some kd) (e:Bool) (v:Value):(Instr.checkKey e 10000 t v).run P w=.ok () w:=by
 unfold Instr.checkKey;rcases yO h with ⟨k,_,hu⟩ | ⟨_,hu⟩
 .simp only[Sem.run_bind,run_underlying hu,Result.andThen_ok];cases v<;>rfl
 .simp only[Sem.run_bind,run_underlying hu,Result.andThen_ok];cases v<;>rfl
theorem vQ {t:TypeId} {kd:Kd} (h:Bc P t=some kd) {key:Value} {es:Array MapEntry} {r:Option (Nat×Value)} (hf:me kd key es=some r):(Instr.findKey t key es.toList).run P w=.ok r w:=by
 unfold Instr.findKey;rcases yO h with ⟨k,rfl,hu⟩ | ⟨rfl,hu⟩
 .simp only[Sem.run_bind,run_underlying hu,Result.andThen_ok];simp only[me]at hf;rw[hf];rfl
 .simp only[Sem.run_bind,run_underlying hu,Result.andThen_ok];simp only[me]at hf;rw[hf];rfl
theorem r5 {r:Nat} {es:Array MapEntry} {c:Nat} (h:w.heap[r]?=some (.map es c)):(getObj r).run P w=.ok (.map es c) w:=by
 simp [getObj,Sem.run,h]
theorem ss {r:Nat} {es:Array MapEntry} {c:Nat} {o:Obj} (h:w.heap[r]?=some (.map es c)):(setObj r o).run P w=.ok () {w with heap:=w.heap.setIfInBounds r o}:=by
 simp [setObj,Sem.run,h]
theorem wD {kd:Kd} {kind:TypeDesc} {key old:Value} (hk:(∃ k,kd=.int k/\kind=.int k)\/(kd=.str/\kind=.string)) (hs:Instr.sameNow kind key old=some true):Instr.sameBits 10000 old key=true:=by
 rcases hk with ⟨k,rfl,rfl⟩ | ⟨rfl,rfl⟩
 .unfold Instr.sameNow at hs;split at hs
  .split at hs
   .rename_i k1 a k2 b hk;simp only[aaj,ada]at hs;subst hk;subst hs;simp [Instr.sameBits]
   .cases hs
  .cases ‹TypeDesc.int k=.string›
  .cases ‹TypeDesc.int k=.bool›
  .cases hs
 .unfold Instr.sameNow at hs;split at hs
  .cases ‹TypeDesc.string=.int _›
  .simp only[aaj]at hs;rename_i a b _;rw[Gb,aag]at hs;subst hs;simp [Instr.sameBits,Gb]
  .cases ‹TypeDesc.string=.bool›
  .cases hs
theorem Hl.HW {h:Hl} {x b:Nat} {o:Obj} (hx:h.mem x):(h.setObj x o).mem b↔h.mem b:=by
 unfold Hl.mem Hl.setObj;split
 .rename_i e;subst e;exact⟨fun _=>hx,fun _=>rfl⟩
 .rfl
theorem HY {h:Hl} (hs:h.sub w) {x:Nat} {o:Obj} (hx:h.mem x):(h.setObj x o).sub {w with heap:=w.heap.setIfInBounds x o}:=by
 intro b o' hb;unfold Hl.setObj at hb;have hlt:=Hl.sub_lt hs hx;split at hb
 .rename_i e;subst e;cases hb;simp [hlt]
 .rename_i e;show(w.heap.setIfInBounds x o)[b]?=_;rw[abF (fun h=>e h.symm)];exact hs b o' hb
theorem JU (hA:Rel S w0 J st a w) (hu:st.aL st.nv=true) {p h:Nat} {vers:List Nat} {tags links:List E} {x:Nat} {o:Obj} (hp:st.mem[p]?=some (.hp h vers tags links)) (hx:(J.h h).mem x) :
 ai st.nv J (J.lu st.nv ((J.h h).setObj x o))/\MRel S w0 (J.lu st.nv ((J.h h).setObj x o)) (st.mem.set p (.hp st.nv (h::vers) tags links)) {w with heap:=w.heap.setIfInBounds x o}:=by
 have hg:ai st.nv J (J.lu st.nv ((J.h h).setObj x o)):=fe _ _ _ (aav _);have e:(J.lu st.nv ((J.h h).setObj x o)).h st.nv=(J.h h).setObj x o:=ga _ _ _;have hsub:(J.h h).sub w:=hA.sub _ (aae hp);refine⟨hg,hA.toMRel.set hp rfl rfl rfl rfl aF (fun b _ hn=>?_) (Mem.bO hg (St.cY hu)) ?_ trivial ?_⟩
 .show(w.heap.setIfInBounds x o)[b]?=_;rw[abF (fun e=>hn (by subst e;exact hx))]
 .show((J.lu st.nv ((J.h h).setObj x o)).h st.nv).sub _;rw[e];exact HY hsub hx
 .intro b hb;have hb:((J.lu st.nv ((J.h h).setObj x o)).h st.nv).mem b:=hb;rw[e]at hb;exact Or.inl ((Hl.HW hx).1 hb)
theorem oa (hA:Rel S w0 J st a w) (hu:st.aL st.nv=true) {o:Oper} {R:XR} (h:KY P st o.op o.dst=some R) (hn:R.need.holds C ms J)
 {K:Act->World->Prop} {Q:Exit->Act->World->Prop} (hK:Fin S w0 C J st a o.dst R K):o.wp P a w K Q:=by
 unfold KY at h;split at h
 .rename_i t hop;split at h
  .rename_i kt vt hu';cases h
   let J':=(J.fJ st.nv w.heap.size).lu st.nv (Hl.one w.heap.size (.map #[] 0))
   have hg:ai st.nv J J':=(bX _ _ _ (aav _)).trans (fe _ _ _ (aav _));have e1:J'.i st.nv=w.heap.size:=by show(J.fJ st.nv w.heap.size).i st.nv=_;rw[mH]
   have e3:J'.h st.nv=Hl.one w.heap.size (.map #[] 0):=ga _ _ _;have hrun:(execOp a.eval o).run P w=.ok (.value (.map (some w.heap.size))) (w.alloc (.map #[] 0)):=by
    unfold execOp;rw[hop];simp [Instr.makeMap,Sem.run_bind]
   refine fm hrun (hK J' _ _ hg ⟨⟨by rw[e1];omega,by rw[e1,aaa];exact e3⟩,rfl⟩ (Rel.step hA hu hg ?_ _ _ _ _ ?_))
   .refine hA.toMRel.add rfl rfl rfl aF (fun b hb=>RowKit.Below.heap_alloc w _ b hb) (Mem.bO hg (St.cY hu)) ?_ trivial ?_
    .show(J'.h st.nv).sub _;rw[e3];intro b o hb;obtain⟨rfl,rfl⟩:=Hl.oq hb;exact heap_alloc_new w _
    .intro b hb;have hb:(J'.h st.nv).mem b:=hb;rw[e3]at hb;rw[Hl.dn.1 hb];exact aav _
   .intro y hy;cases hy;simp only[TV.ev,SV.ev,CV.ev,al,e1];rw[aal ah];simp
  .cases h
 .rename_i t m k ok hop;split at h
  .rename_i kt vt hut;split at h
   .rename_i kd z agg x key dZ hz hagg hm hk;split at h
    .rename_i hh zs hfh hlz;by_cases hcond:(Nm kd key&&(agg==isAgg z)&&(agg||(z.cells.toList.map ly).length==1))=true
     .rw[aax hcond]at h;have h:=aaZ h;subst h;simp only[aah]at hcond;obtain⟨⟨hkey,hag⟩,hlen⟩:=hcond;have hsub:=yy hA.toMRel hfh;obtain⟨hx,es,clock,r,hes,hf,hshape⟩:=hn;have em:=aH hA hm;have ek:=aH hA hk;simp only[TV.ev,SV.ev,CV.ev]at em;simp only[TV.ev,SV.ev]at ek;rw[aal ah]at em;have hw:=hsub _ _ hes;have hzv:zs.ev J=z:=by
       have:=Jc J z;rw[hlz]at this;exact this
      let v:Value:=match r with | some (_,v)=>v | none=>z
      have hsh:mW (z.cells.toList.map ly) agg v:=by
       cases r with
       | some p=>exact hshape p.1 p.2 rfl
       | none =>
        show mW _ _ z;unfold mW;cases agg with
        | true =>
         rw[aax rfl];cases z with
         | agg cs=>exact⟨cs,rfl,rfl⟩
         | _=>simp [isAgg]at hag
        | false =>
         rw[aal aF];cases z with
         | agg cs=>simp [isAgg]at hag
         | _=>exact⟨_,rfl,rfl⟩
      obtain⟨q,hq⟩:=LK hsh
      let ρ1:=J.shift q st.nv (fun _=>Hl.none)
      let J':=ρ1.LI (st.nv+aY (z.cells.toList.map ly)) r.isSome
      have GJ:ai st.nv J ρ1:=qf _ _ _ _;have uB:ai (st.nv+aY (z.cells.toList.map ly)) ρ1 J':=xN _ _ _ (aav _);have hg:ai st.nv J J':=GJ.tr uB;have ev:(kV st.nv (z.cells.toList.map ly) agg).ev J'=v:=by
       rw[CL uB,CM];exact hq
      have eb:J'.b (st.nv+aY (z.cells.toList.map ly))=r.isSome:=by simp [J',Env.LI]
      have hrun:(execOp a.eval o).run P w=.ok (.value (if ok then .tuple #[v,.bool r.isSome]else v)) w:=by
       unfold execOp;rw[hop];simp only[Sem.run_bind,em,ek,Instr.lookup,run_underlying hut,Result.andThen_ok,r5 hw,Sem.run_pure,sV dZ,vQ dZ hf];cases r with
       | some p=>simp only[Sem.run_pure,Result.andThen_ok];rfl
       | none=>simp only[Sem.run_pure,Result.andThen_ok,Sem.run_bind,ky hz];rfl
      refine fm hrun (hK J' _ _ hg ⟨?_,rfl⟩ (Rel.step hA hu hg (hA.toMRel.bO (Mem.bO hg (St.cY hu))) _ _ _ _ ?_))
      .intro es' clock' r' h1 h2;rw[hes]at h1;cases h1;rw[hf]at h2;cases h2;refine⟨?_,eb⟩;rw[ev];cases r with
       | some p=>rfl
       | none=>exact hzv.symm
      .intro y hy;cases hy;cases ok with
       | true =>
        have e2:(SV.one (CV.bool (.bvar (st.nv+aY (z.cells.toList.map ly))))).ev J'=.bool r.isSome:=by show Value.bool (J'.b _)=_;rw[eb]
        simp only[abM,TV.ev,aaC,abp,ev,e2]
       | false=>simp only[aa2,abK,TV.ev,ev]
     .rw[aal hcond]at h;cases h
    .cases h
   .cases h
  .cases h
 .rename_i t m k v hop;split at h
  .rename_i kt vt hut;split at h
   .rename_i kd x key vs dZ hm hk hv;split at h
    .rename_i hkey;split at h
     .rename_i p hh vers tags links hfp;cases h;have hp:=iz hfp;obtain⟨hx,es,clock,r,hes,hf⟩:=hn;have em:=aH hA hm;have ek:=aH hA hk;have ev:=aH hA hv;simp only[TV.ev,SV.ev,CV.ev]at em;simp only[TV.ev,SV.ev]at ek;simp only[TV.ev]at ev;rw[aal ah]at em;have hsub:(J.h hh).sub w:=hA.sub _ (aae hp);have hw:=hsub _ _ hes;have hxm:(J.h hh).mem (aA J x).toNat:=by unfold Hl.mem;rw[hes];rfl
      obtain⟨hg,hm'⟩:=JU (o:=sf kd (key.ev J) (vs.ev J) es clock) hA hu hp hxm;have hrun:(execOp a.eval o).run P w=.ok .skip {w with heap:=w.heap.setIfInBounds (aA J x).toNat (sf kd (key.ev J) (vs.ev J) es clock)}:=by
       unfold execOp;rw[hop];simp only[Sem.run_bind,em,ek,ev,Instr.mapUpdate,run_underlying hut,Result.andThen_ok,r5 hw,sV dZ,vQ dZ hf];cases r with
       | some q =>
        obtain⟨i,v0⟩:=q;have hsame:Instr.sameBits 10000 (((es[i]?).map (·.key)).getD (key.ev J)) (key.ev J)=true:=by
         rcases yO dZ with ⟨kk,rfl,_⟩ | ⟨rfl,_⟩
         .obtain⟨_,e,he,_,hs⟩:=findNow_spec _ _ _ _ hf;rw[adj]at he;have he':es[i]?=some e:=by simpa using he
          rw[he'];exact wD (Or.inl ⟨kk,rfl,rfl⟩) hs
         .obtain⟨_,e,he,_,hs⟩:=findNow_spec _ _ _ _ hf;rw[adj]at he;have he':es[i]?=some e:=by simpa using he
          rw[he'];exact wD (Or.inr ⟨rfl,rfl⟩) hs
        simp only[Instr.keyThatStays,hsame,abM,Sem.run_bind,Sem.run_pure,Result.andThen_ok,ss hw,sf,hf]
       | none=>simp only[ss hw,sf,hf,Result.andThen_ok,Sem.run_pure]
      refine Ar hrun (hK _ _ _ hg ⟨?_,rfl⟩ (Rel.step hA hu hg hm' _ _ _ _ (fun y hy=>by cases hy)));intro es' clock' h1;rw[hes]at h1;cases h1;exact ga _ _ _
     .cases h
    .cases h
   .cases h
  .cases h
 .rename_i args ats hop;split at h
  .rename_i m t ha hts;split at h
   .rename_i kt vt x hut hm;split at h
    .rename_i p hh vers tags links hfp;cases h;have hp:=iz hfp;obtain⟨hx,es,clock,hes⟩:=hn;have em:=aH hA hm;simp only[TV.ev,SV.ev,CV.ev]at em;rw[aal ah]at em;have hsub:(J.h hh).sub w:=hA.sub _ (aae hp);have hw:=hsub _ _ hes;have hxm:(J.h hh).mem (aA J x).toNat:=by unfold Hl.mem;rw[hes];rfl
     obtain⟨hg,hm'⟩:=JU (o:=.map #[] clock) hA hu hp hxm;have ea:args.map a.eval=#[.map (some (aA J x).toNat)]:=by
      obtain⟨l⟩:=args;simp only at ha;subst ha;simp [em]
     have et:ats=#[t]:=by obtain⟨l⟩:=ats;simp only at hts;rw[hts]
     have hrun:(execOp a.eval o).run P w=.ok (.value (.tuple #[])) {w with heap:=w.heap.setIfInBounds (aA J x).toNat (.map #[] clock)}:=by
      obtain⟨dst,op,ty,pos,af,gd⟩:=o;simp only at hop;subst hop;rw[BigFrame.execOp_builtin,ea,et];unfold builtin;have e5:(Builtin.clear_ #[t] ty #[Value.map (some (aA J x).toNat)]).run P w=.ok (.tuple #[]) {w with heap:=w.heap.setIfInBounds (aA J x).toNat (.map #[] clock)}:=by
       unfold Builtin.clear_;simp [run_underlying hut,r5 hw,ss hw,Sem.run_bind]
      rw[Sem.run_bind,e5];rfl
     refine fm hrun (hK _ _ _ hg ⟨?_,rfl⟩ (Rel.step hA hu hg hm' _ _ _ _ (fun y hy=>by cases hy)));intro es' clock' h1;rw[hes]at h1;cases h1;exact ga _ _ _
    .cases h
   .cases h
  .cases h
 .cases h
end
section
variable {P:Program} {C:Ctx} {ms:Nat->Nat} {S:Nat->Prop} {w0:World} {J:Env} {st:St} {mem:Mem} {a:Act} {w:World}
theorem I0 (hA:MRel S w0 J mem w) {x:E} {h:Nat} (hf:(Cu mem x).bind (fun r=>r.2.hk)=some h):(J.h h).sub w:=by
 cases hq:Cu mem x with
 | none=>rw[hq]at hf;cases hf
 | some r =>
  rw[hq]at hf;obtain⟨q,r⟩:=r;have hp:=iz hq;have hs:=hA.sub _ (aae hp);cases r<;>simp [bE.hk]at hf
  .subst hf;exact hs
  .subst hf;exact hs
theorem sS {h:Hl} {x y n j:Nat} (hb:bx h x y n=true) (hj:j<n):∃ z,h.cell x (y+j)=some (.int .u8 z):=by
 unfold bx at hb;have:=aaE.1 hb j (aaM.2 hj);cases hc:h.cell x (y+j)with
 | none=>rw[hc]at this;cases this
 | some v =>
  rw[hc]at this;cases v<;>simp [bD]at this
  subst this;exact⟨_,rfl⟩
theorem Mo (hA:MRel S w0 J mem w) {q b:Nat} {m:List CV} {T:TypeId} (hq:mem[q]?=some (.bw b m T)) {j:Nat} {c:CV} (hc:m[j]?=some c):w.cell? ⟨(J.i b).toNat,j,none⟩=some (c.ev J):=by
 have:=hA.bw hq;have hj:j<m.length:=(aai.1 hc).1;simp [World.cell?,this,hj,(aai.1 hc).2]
theorem AA (hA:MRel S w0 J mem w) {el:TypeId} {p L:Nat} {yd n xs ys ls k:E} {src:Nat->Option CV} (h:Cq P mem el p L yd n xs ys ls=some (k,src)) (hk:bd J k=true) (hy0:0<=aA J yd) (hfit:aA J yd+aA J n<=L) :
 (aA J xs= -1/\aA J ls=0)\/∃ b o,az (aA J xs) (aA J ys)=some ⟨b,o,none⟩/\∀ j:Nat,aA J yd<=j->(j:Int)<aA J yd+aA J n->∃ s,src j=some s/\w.cell? ⟨b,o+(j-(aA J yd).toNat),none⟩=some (s.ev J):=by
 unfold Cq at h;split at h
 .rename_i q m T hq;split at h
  .cases h
  .rename_i hqp;have hx:∃ bs,xs=.var bs/\tf mem bs=some (q,m,T):=by
    cases xs<;>simp at hq
    exact⟨_,rfl,hq⟩
   obtain⟨bs,rfl,hf⟩:=hx;have hp:=fX hf;have hpos:0<=J.i bs:=hA.pos _ (aae hp);split at h
   .rename_i hc;cases h;obtain⟨rfl,hl⟩:=hc;refine Or.inr ⟨(J.i bs).toNat,(aA J yd).toNat,by rw[al,av hpos],fun j h0 h1=>?_⟩;have hj:j<m.length:=ah;refine⟨m[j],aab hj,?_⟩;rw[show(aA J yd).toNat+(j-(aA J yd).toNat)=j by omega];exact Mo hA hp (aab hj)
   .split at h
    .rename_i o o' _;split at h
     .rename_i hoo;cases h;simp only[aZ,fc,aq,aag]at hk;rw[aq]at hy0 hfit;refine Or.inr ⟨(J.i bs).toNat,o'.toNat,by rw[al,aq,av hpos],fun j h0 h1=>?_⟩;rw[aq]at h0 h1 ⊢;have hj:j-o.toNat+o'.toNat<m.length:=ah;refine⟨m[j-o.toNat+o'.toNat],by simp only;rw[aax ah,aab hj],?_⟩;rw[acQ o'.toNat];exact Mo hA hp (aab hj)
     .cases h
    .cases h
 .split at h
  .rename_i o hh hhk;split at h
   .rename_i hoo;cases h;simp only[sM,fO,aP,aZ,aq,aah,abD,aag,Ce]at hk;rcases hk with hk | ⟨hx,hy,hb⟩
    .exact Or.inl ⟨abz hk.1,abz hk.2⟩
    have hx:=abz hx;refine Or.inr ⟨(aA J xs).toNat,(aA J ys).toNat,by rw[av hx],fun j h0 h1=>?_⟩;rw[aq]at h0 h1 ⊢;obtain⟨z,hz⟩:=sS hb (j:=j-o.toNat) ah;refine⟨_,by simp only;rw[aax ah],?_⟩;rw[Hl.ie (I0 hA hhk) hz];simp only[CV.ev,fw,hz,ck]
   .cases h
  .cases h
theorem Co {yd ld n:E} {src:Nat->Option CV} {j:Nat} (hn:aA J n<=aA J ld) (h:(j:Int)<aA J yd+aA J n):xi yd ld src j=src j:=by
 unfold xi;split
 .rw[aq]at h hn;rw[aax ah]
 .rfl
theorem setRow_self {w:World} {g:Nat} {cs:Array Value} {T:TypeId} (h:w.heap[g]?=some (.cells cs T (0,0))):w.setRow g cs=w:=by
 have e:(w.setRow g cs).heap=w.heap:=by
  apply Array.ext_getElem?;intro k;by_cases hk:k=g
  .subst hk;rw[setRow_heap w _ _ cs T _ h,h]
  .exact setRow_other w _ _ _ hk
 show({w with heap:=(w.setRow g cs).heap} : World)=w;rw[e]
theorem run_copy_none (w:World) (dT sT ty elem:TypeId) (a:Addr) (dLen dCap c:Nat) (hu:P.underlying dT=some (.slice elem)) (hs:((P.info? elem).map (·.size)).isSome=true) :
 (Builtin.copy_ #[dT,sT] ty #[.slice (some a) dLen dCap,.slice none 0 c]).run P w=.ok (goInt 0) w:=by
 cases hq:P.info? elem with
 | none=>simp [hq]at hs
 | some i=>simp [Builtin.copy_,run_underlying hu,Builtin.lenOf,Builtin.firstCells,sizeOf,typeInfo,hq,storeCells]
theorem vI {yd n:E} {j:Nat} : bd J (yf yd n j)=decide (aA J yd<=j/\(j:Int)<aA J yd+aA J n):=by
 unfold yf;rw[aP,aZ,iO,aq,fc,Bool.decide_and]
def Dl (J:Env) (src:Option CV) (old:CV):Value:=match src with
 | some s=>s.ev J
 | none=>old.ev J
theorem ye {c:E} {src:Option CV} {old x:CV} (h:pz c src old=some x):x.ev J=if bd J c=true then Dl J src old else old.ev J:=by
 unfold pz at h;cases src with
 | none=>cases h;simp [Dl]
 | some s =>
  simp only at h;split at h
  .split at h
   .rename_i hc;cases h;subst hc;simp [cE,Dl]
   .split at h
    .rename_i hc;cases h;subst hc;simp [c8]
    .rw[od h];rfl
  .cases h
theorem pD {yd n:E} {src:Nat->Option CV} : ∀ (l:List CV) (j:Nat) (l':List CV),IF yd n src j l=some l'->l'.length=l.length/\∀ i c x,l[i]?=some c->l'[i]?=some x ->
 (∃ y,pz (yf yd n (j+i)) (src (j+i)) c=some y)/\x.ev J=if bd J (yf yd n (j+i))=true then Dl J (src (j+i)) c else c.ev J
 | [],j,l',h=>by cases h;simp
 | c::l,j,l',h=>by
  unfold IF at h;split at h
  .rename_i x r h1 h2;cases h;obtain⟨hl,ih⟩:=pD l (j+1) r h2;refine⟨by simp [hl],fun i c' x' hc hx=>?_⟩;cases i with
   | zero =>
    simp only[aa4,aaj]at hc hx;subst hc;subst hx;exact⟨⟨_,h1⟩,ye h1⟩
   | succ i =>
    simp only[aa1]at hc hx;have:=ih i c' x' hc hx;rw[show j+1+i=j+(i+1)by omega]at this;exact this
  .cases h
theorem AH (w:World) (dT sT ty elem:TypeId) (a b:Option Addr) (dLen dCap c:Nat) (hu:P.underlying dT=some (.slice elem)) (hs:((P.info? elem).map (·.size)).isSome=true) (sl:Nat) (h0:min sl dLen=0) :
 (Builtin.copy_ #[dT,sT] ty #[.slice a dLen dCap,.slice b sl c]).run P w=.ok (goInt 0) w:=by
 cases hq:P.info? elem with
 | none=>simp [hq]at hs
 | some i =>
  have hl:∀ x:Addr,_:=fun x=>run_loadCells_list (P:=P) w x [] (fun j v h=>by simp at h);simp only[abe]at hl;cases a<;>cases b<;>simp [Builtin.copy_,run_underlying hu,Builtin.lenOf,Builtin.firstCells,sizeOf,typeInfo,hq,storeCells,h0,hl]
theorem DY (hA:Rel S w0 J st a w) (hu:st.aL st.nv=true) {t t' ty el:TypeId} (hul:P.underlying t=some (.slice el)) (hsz:fj P el=some 1) {ad:Nat} {yd ld cd xs ys ls cs:E} {d:Option Tmp} {R:XR} (h:ME P st el ad yd ld xs ys ls d=some R) (hn:R.need.holds C ms J) {K:Act->World->Prop} (hK:Fin S w0 C J st a d R K) :
 ∃ v' w',(Builtin.copy_ #[t,t'] ty #[TV.ev J (.sv (.one (.sl (.var ad) yd ld cd))),TV.ev J (.sv (.one (.sl xs ys ls cs)))]).run P w=.ok v' w'/\K (a.put d v') w':=by
 unfold ME at h;split at h
 .rename_i p k vers tags links hh hf hhk;split at h
  .cases h;have hp:=iz hf;obtain⟨⟨hx,hy,hd,hs⟩,⟨c,T,hc,hfit⟩,hsrc⟩:X.pre C J (.cpy st.nv k (.var ad) yd ld hh xs ys ls):=hn;rw[al]at hx hc;have hsub:(J.h k).sub w:=hA.sub _ (aae hp);have hssub:(J.h hh).sub w:=I0 hA.toMRel hhk;have hsome:((P.info? el).map (·.size)).isSome=true:=by
    have:(P.info? el).map (·.size)=some 1:=by simpa [fj] using hsz
    rw[this];rfl
   obtain⟨vs,hvs⟩:∃ vs,vs=bW (J.h hh) (aA J xs).toNat (aA J ys).toNat (min (aA J ls) (aA J ld)).toNat:=⟨_,rfl⟩;have hlen:vs.length=(min (aA J ls) (aA J ld)).toNat:=by rw[hvs];simp [bW]
   let H':=(J.h k).put (J.i ad).toNat (aA J yd).toNat vs
   let J':=J.lu st.nv H'
   have hg:ai st.nv J J':=fe _ _ _ (aav _);have hh':J'.h st.nv=H':=ga _ _ _;have hwk:w.heap[(J.i ad).toNat]?=some (.cells c T (0,0)):=hsub _ _ hc;have hput:H' (J.i ad).toNat=some (.cells (bI c.toList (aA J yd).toNat vs).toArray T (0,0)):=by
    show(J.h k).put _ _ _ _=_;unfold Hl.put;rw[aax rfl,hc]
   have fin:∀ w',w'=w.setRow (J.i ad).toNat (bI c.toList (aA J yd).toNat vs).toArray->K (a.put d (goInt vs.length)) w':=by
    rintro w' rfl;have hxm:(J.h k).mem (J.i ad).toNat:=by unfold Hl.mem;rw[hc];rfl
    have hM:MRel S w0 J' (st.mem.set p (.hp st.nv (k::vers) tags links)) (w.setRow (J.i ad).toNat (bI c.toList (aA J yd).toNat vs).toArray):=by
     refine hA.toMRel.set hp rfl rfl rfl rfl aF (fun b _ hn=>setRow_other w _ b _ (fun e=>hn (by subst e;exact hxm))) (Mem.bO hg (St.cY hu)) ?_ trivial ?_
     .show(J'.h st.nv).sub _;rw[hh'];intro b o hb;by_cases hbe:b=(J.i ad).toNat
      .subst hbe;rw[hput]at hb;rw[<-hb];exact setRow_heap w _ _ _ T _ hwk
      .have hb:(J.h k).put (J.i ad).toNat (aA J yd).toNat vs b=some o:=hb;unfold Hl.put at hb;rw[aal hbe]at hb;rw[setRow_other w _ b _ hbe];exact hsub _ _ hb
     .intro b hb;have hb:(J'.h st.nv).mem b:=hb;rw[hh']at hb;exact Or.inl (Hl.im.1 hb)
    exact hK J' _ _ hg ⟨by show J'.h st.nv=_;rw[hh',<-hvs,al],rfl⟩ (Rel.step hA hu hg hM _ _ _ _ (fun y hy=>by cases hy))
   have Vr:vs.length=Nat.min (aA J ls).toNat (aA J ld).toNat:=by rw[hlen];show _=min _ _;omega
   have ex:TV.ev J (.sv (.one (.sl (.var ad) yd ld cd)))=.slice (some ⟨(J.i ad).toNat,(aA J yd).toNat,none⟩) (aA J ld).toNat (aA J cd).toNat:=by
    simp only[TV.ev,SV.ev,CV.ev,al,av hx]
   rw[ex];rcases hsrc with h0 | ⟨hx2,hy2,hb⟩
   .have hv0:vs=[]:=aad.1 (by rw[hlen,h0];rfl);refine⟨_,_,AH w t t' ty el _ _ _ _ _ hul hsome _ ah,?_⟩;have:=fin w (by
     rw[hv0];have:(bI c.toList (aA J yd).toNat []).toArray=c:=by simp [bI]
     rw[this,setRow_self hwk])
    rw[hv0]at this;exact this
   .have hcell:∀ j,j<(min (aA J ls) (aA J ld)).toNat->∃ z,(J.h hh).cell (aA J xs).toNat ((aA J ys).toNat+j)=some (.int .u8 z):=fun j hj=>sS hb hj;have hget:∀ j v,vs[j]?=some v->∃ z,v=.int .u8 z/\(J.h hh).cell (aA J xs).toNat ((aA J ys).toNat+j)=some v:=by
     intro j v hj;have hjl:j<(min (aA J ls) (aA J ld)).toNat:=by rw[<-hlen];exact(aai.1 hj).1
     obtain⟨z,hz⟩:=hcell j hjl;rw[hvs]at hj;simp only[bW,aao,aaD hjl,aaN,hz,abE,aaj]at hj;exact⟨z,hj.symm,by rw[<-hj];exact hz⟩
    have aD:=run_copy_row P w t t' ty el (J.i ad).toNat (aA J yd).toNat (aA J ld).toNat (aA J cd).toNat ⟨(aA J xs).toNat,(aA J ys).toNat,none⟩ (aA J ls).toNat (aA J cs).toNat c T vs hul (by simpa [fj] using hsz) hwk Vr
     (fun j v hj=>by
      obtain⟨z,_,hz⟩:=hget j v hj;rw[show(⟨(aA J xs).toNat,(aA J ys).toNat,none⟩:Addr).add j=⟨(aA J xs).toNat,(aA J ys).toNat+j,none⟩by unfold Addr.add;split<;>simp_all];exact Hl.ie hssub hz)
     (by rw[hlen];omega)
     (fun v hv=>by
      obtain⟨j,hj⟩:=acR.1 hv;obtain⟨z,rfl,_⟩:=hget j v hj;rfl)
    have ey:TV.ev J (.sv (.one (.sl xs ys ls cs)))=.slice (some ⟨(aA J xs).toNat,(aA J ys).toNat,none⟩) (aA J ls).toNat (aA J cs).toNat:=by
     simp only[TV.ev,SV.ev,CV.ev,av hx2]
    rw[ey];refine⟨_,_,aD,fin _ ?_⟩;simp [bI]
  .cases h
 .cases h
theorem DX (hA:Rel S w0 J st a w) (hu0:st.aL st.nv=true) {t t' ty:TypeId} {x y:TV} {d:Option Tmp} {R:XR} (h:MD P st t x y d=some R) (hn:R.need.holds C ms J) {K:Act->World->Prop} (hK:Fin S w0 C J st a d R K) :
 ∃ v' w',(Builtin.copy_ #[t,t'] ty #[x.ev J,y.ev J]).run P w=.ok v' w'/\K (a.put d v') w':=by
 unfold MD at h;split at h
 .rename_i el hu;split at h
  .rename_i hsz;split at h
   .rename_i ad yd ld cd xs ys ls cs;split at h
    .rename_i p l T hf;have hp:=fX hf;have hpos:0<=J.i ad:=hA.toMRel.pos _ (aae hp);simp only at h;generalize hN:mkIte (mkLt ls ld) ls ld=N at h;split at h
     .rename_i k src hsrc;split at h
      .rename_i l' hl';cases h;simp only[uJ,aP,aZ,aq,fc,aah,aag]at hn;obtain⟨hk,hy0,hd0,hs0,hfit⟩:=hn;have hy0:=abz hy0;have hd0:=abz hd0;have hs0:=abz hs0;have eN:aA J N=min (aA J ls) (aA J ld):=by
        rw[<-hN,iB,iO];by_cases hc:aA J ls<aA J ld
        .rw[aax (by simpa using hc)];omega
        .rw[aal (by simpa using hc)];omega
       rcases AA hA.toMRel hsrc hk hy0 hfit with ⟨hxn,hl0⟩ | ⟨b,o,hpl,hcells⟩
       .have hN0:aA J N<=0:=by rw[eN,hl0];omega
        obtain⟨hlen,hat⟩:=pD (J:=J) l 0 l' hl';have same:l'.map (CV.ev J)=l.map (CV.ev J):=by
         apply aaL;intro j;by_cases hjl:j<l.length
         .have hjl':j<l'.length:=ah;obtain⟨_,e2⟩:=hat j _ _ (aab hjl) (aab hjl');rw[aaP,vI]at e2;rw[aao,aab hjl',aao,aab hjl,aaN,aaN,e2,aal (by simp only[aag];omega)]
         .rw[aaq (by simp;omega),aaq (by simp;omega)]
        have ex:TV.ev J (.sv (.one (.sl (.var ad) yd ld cd)))=.slice (some ⟨(J.i ad).toNat,(aA J yd).toNat,none⟩) (aA J ld).toNat (aA J cd).toNat:=by
         simp only[TV.ev,SV.ev,CV.ev,al,av hpos]
        have ey:TV.ev J (.sv (.one (.sl xs ys ls cs)))=.slice none 0 (aA J cs).toNat:=by
         simp only[TV.ev,SV.ev,CV.ev,hxn,hl0];rfl
        rw[ex,ey];have hcs:=hA.toMRel.bw hp;have hself:=setRow_self hcs;have hM:=hA.toMRel.Df (l':=l') hp (cs:=(l.map (CV.ev J)).toArray) (by rw[same]);rw[hself]at hM;have hsome:((P.info? el).map (·.size)).isSome=true:=by
         have:(P.info? el).map (·.size)=some 1:=by simpa [fj] using hsz
         rw[this];rfl
        refine⟨_,_,run_copy_none w t t' ty el _ _ _ _ hu hsome,?_⟩;refine hK J _ _ (ai.refl _ _) rfl (Rel.put (st:={st with mem:=st.mem.set p (.bw ad l' T)}) ⟨hM,hA.size,hA.defers,hA.tmp,hA.path⟩ _ _ _ (fun z hz=>?_));cases hz;simp only[TV.ev,SV.ev,CV.ev];unfold goInt
        congr 1
        rw[eN,hl0];omega
       obtain⟨hlen,hat⟩:=pD (J:=J) l 0 l' hl'
       let nn:=(aA J N).toNat
       let oo:=(aA J yd).toNat
       let vs:List Value:=(List.range nn).map fun i=>(w.cell? ⟨b,o+i,none⟩).getD (.bool false)
       have hvs:∀ i,i<nn->∃ s,xi yd ld src (oo+i)=some s/\w.cell? ⟨b,o+i,none⟩=some (s.ev J):=by
        intro i hi;have hi':(i:Int)<aA J N:=ah;obtain⟨s,h1,h2⟩:=hcells (oo+i) ah ah;rw[show oo+i-(aA J yd).toNat=i by omega]at h2;exact⟨s,(Co (J:=J) (n:=N) (by rw[eN];omega) ah).trans h1,h2⟩
       have hone:∀ v∈vs,v.oneCell'=true:=by
        intro v hv;obtain⟨i,hi,rfl⟩:=aaS.1 hv;have hi:=aaM.1 hi;obtain⟨s,h1,h2⟩:=hvs i hi;rw[h2,abE];have hjl:oo+i<l.length:=ah;have hjl':oo+i<l'.length:=ah;obtain⟨⟨z,hz⟩,_⟩:=hat (oo+i) _ _ (aab hjl) (aab hjl');rw[aaP,h1]at hz;unfold pz at hz;simp only at hz;split at hz
        .rename_i hc;exact CV.py s hc
        .cases hz
       have aD:=run_copy_row P w t t' ty el (J.i ad).toNat oo (aA J ld).toNat (aA J cd).toNat ⟨b,o,none⟩ (aA J ls).toNat (aA J cs).toNat (l.map (CV.ev J)).toArray T vs hu (by simpa [fj] using hsz) (hA.toMRel.bw hp)
        (by simp only[vs,aaB,abG,nn,eN];show(min (aA J ls) (aA J ld)).toNat=min _ _;omega)
        (fun j v hj=>by
         have hjn:j<nn:=by have:=(aai.1 hj).1;simpa [vs] using this
         obtain⟨s,h1,h2⟩:=hvs j hjn;have:v=s.ev J:=by
          simp only[vs,aao,aaD hjn,aaN,h2,abE,aaj]at hj;exact hj.symm
         subst this;rw[show(⟨b,o,none⟩:Addr).add j=⟨b,o+j,none⟩by unfold Addr.add;split<;>simp_all];exact h2)
        (by simp only[vs,aaB,abG,nn];simp;omega) hone
       have ex:TV.ev J (.sv (.one (.sl (.var ad) yd ld cd)))=.slice (some ⟨(J.i ad).toNat,oo,none⟩) (aA J ld).toNat (aA J cd).toNat:=by
        simp only[TV.ev,SV.ev,CV.ev,al,av hpos,oo]
       have ey:TV.ev J (.sv (.one (.sl xs ys ls cs)))=.slice (some ⟨b,o,none⟩) (aA J ls).toNat (aA J cs).toNat:=by
        simp only[TV.ev,SV.ev,CV.ev,hpl]
       rw[ex,ey];refine⟨_,_,aD,?_⟩;have hnew:(l.map (CV.ev J)).toArray.toList.take oo++vs++(l.map (CV.ev J)).toArray.toList.drop (oo+vs.length)=l'.map (CV.ev J):=by
        have lv:vs.length=nn:=by simp [vs]
        apply aaL;intro j;rw[lv];by_cases hjl:j<l.length
        .have hjl':j<l'.length:=ah;obtain⟨_,e2⟩:=hat j _ _ (aab hjl) (aab hjl');rw[aaP,vI]at e2;rw[aao,aab hjl',aaN,e2];simp only[aag];by_cases h1:j<oo
         .rw[aal ah,aaw,aaG (by simp;omega)];simp [aaX,h1,hjl]
         .by_cases h2:j<oo+nn
          .rw[aax ah,aaG (by simp [lv];omega),aau (by simp;omega)];obtain⟨s,h3,h4⟩:=hvs (j-oo) ah;rw[show oo+(j-oo)=j by omega]at h3;rw[h3];show _=some (s.ev J);have hm:(List.take oo (List.map (CV.ev J) l).toArray.toList).length=oo:=by simp;omega
           rw[hm];simp only[vs,aao,aaD (show j-oo<nn by omega),aaN,h4,abE]
          .rw[aal ah,aau (by simp [lv];omega)];simp only[aac,aaz,aaB,lv,aaW,aao];rw[show oo+nn+(j-(min oo l.length+nn))=j by omega];simp [hjl]
        .rw[aaq (by simp [lv];omega),aaq (by simp [hlen];omega)]
       refine hK J _ _ (ai.refl _ _) rfl (Rel.put (st:={st with mem:=st.mem.set p (.bw ad l' T)}) ⟨hA.toMRel.Df hp (by rw[hnew]),hA.size,hA.defers,hA.tmp,hA.path⟩ _ _ _ (fun z hz=>?_));cases hz;simp only[TV.ev,SV.ev,CV.ev,vs,aaB,abG,nn];unfold goInt
       congr 1
       omega
      .cases h
     .cases h
    .exact DY hA hu0 hu hsz h hn hK
   .cases h
  .cases h
 .cases h
end
end Go.Sx
