/- RelayTwice. -/
import Derived.LoopN
import Derived.Test.YtomdimlnggpgbaaGreatDoorTA
set_option linter.all false
namespace Go.Sx
open Go
structure XR where
 st:St
 need:Nd
 x:Option X
def posOf (mem:Mem) (x:E):Option (Nat×bx) :=
 match x with
 | .var a=>match qX mem a with
  | some (p,l,T)=>some (p,.bD a l T)
  | none=>Ay mem x
 | x=>Ay mem x
theorem bQ {mem:Mem} {x:E} {p:Nat} {r:bx} (h:posOf mem x=some (p,r)):mem[p]?=some r:=by
 unfold posOf at h;split at h
 .split at h
  .rename_i q l T hb;cases h;exact fF hb
  .exact gR h
 .exact gR h
def mK (z:List CV) (n:Nat):List CV:=(List.range n).map fun j=>z.getD (j%z.length) (.bool .tt)
def rootOf:TV->Option E
 | .sv (.one (.hptr x _))=>some x
 | .sv (.one (.sl x _ _ _))=>some x
 | .sv (.one (.map x))=>some x
 | .sv (.one (.clo _ x))=>some x
 | _=>none
def Ip (mem:Mem) (size:Nat) (t:TV):Option (Src×E) :=
 match t with
 | .sv (.one (.sl x y l c)) =>
  if x=.lit (-1)then(if y=.lit 0/\l=.lit 0/\c=.lit 0 then some (.cvs [] 0,.lit 0)else none)else
  match nU mem x y,l with
  | some (_,_,cs,_,o),.lit m=>if 0<=m/\o+m.toNat*size<=cs.length/\(((cs.drop o).take (m.toNat*size)).all CV.pG=true)then some (.cvs ((cs.drop o).take (m.toNat*size)) m.toNat,.lit m)else none
  | _,l=>match(Ay mem x).bind (fun r=>r.2.hk)with
   | some h=>some (.seg h x y l,l)
   | none=>none
 | _=>none
def qC (P:Program) (st:St) (t:TypeId) (p:CV) (v:SV):Option (E×Mem ⊕ X×Mem) :=
 match p with
 | .pti a o s k i=>match qX st.mem a,v with
  | some (p,l,T),.one c=>if eO P t=some 1/\c.pG=true/\(∀ j,j<k->o+s*j<l.length)then
   (updSel l o s i c k).map fun l'=>.inl (Ni i k,st.mem.set p (.bD a l' T))
   else none
  | _,_=>none
 | .hptr x y=>if eO P t=some v.cells.length/\v.cells.all CV.pG=true then match nU st.mem x y with
  | some (a,p,l,T,o)=>if o+v.cells.length<=l.length then some (.inl (.tt,st.mem.set p (.bD a (cf l o v.cells) T)))else none
  | none=>match Ay st.mem x with
   | some (p,.hp k vers tags links)=>some (.inr (.put st.nv k x y v.cells,st.mem.set p (.hp st.nv (k::vers) tags links)))
   | _=>none
  else none
 | _=>none
where updSel (l:List CV) (o s:Nat) (i:E) (c:CV):Nat->Option (List CV)
 | 0=>some l
 | m+1=>match updSel l o s i c m with
  | some l'=>match l'[o+s*m]? with
   | some old=>match oW (mkEq i (.lit m)) c old with
    | some v=>some (l'.set (o+s*m) v)
    | none=>none
   | none=>none
  | none=>none
def Gk (args:List TV) (mem:Mem):Ul->Option (Nat×bx)
 | .arg i=>match(args[i]?).bind rootOf with
  | some x=>match posOf mem x with
   | some (p,r)=>if r.own then some (p,r)else none
   | none=>none
  | none=>none
 | .link i j=>match(args[i]?).bind rootOf with
  | some x=>match posOf mem x with
   | some (_,.hp _ _ _ links)=>match links[j]? with
    | some y=>match posOf mem y with
     | some (p,r)=>if r.own then some (p,r)else none
     | none=>none
    | none=>none
   | some (_,.bD _ l _)=>match l[j]? with
    | some (.hptr y _)=>match posOf mem y with
     | some (p,r)=>if r.own then some (p,r)else none
     | none=>none
    | _=>none
   | _=>none
  | none=>none
 | .far i j k=>match(args[i]?).bind rootOf with
  | some x=>match posOf mem x with
   | some (_,.bD _ l _)=>match l[j]? with
    | some (.hptr y _)=>match posOf mem y with
     | some (_,.hp _ _ _ links)=>match links[k]? with
      | some z=>match posOf mem z with
       | some (p,r)=>if r.own then some (p,r)else none
       | none=>none
      | none=>none
     | _=>none
    | _=>none
   | _=>none
  | none=>none
def ou:CV->Option E
 | .hptr x _=>some x
 | .sl x _ _ _=>some x
 | .map x=>some x
 | _=>none
def pe (mem:Mem) (r:Nat×bx):Nat×bx:=match r.2 with
 | .bD _ l _=>match(l.head?).bind ou with
  | some y=>match posOf mem y with
   | some q=>q
   | none=>(mem.length,.dead)
  | none=>(mem.length,.dead)
 | .ro _ _ any=>if any then r else match oh mem 0 with
  | some q=>q
  | none=>r
 | _=>r
def tp:Mem->TypeId->Nat->Option (Nat×bx)
 | [],_,_=>none
 | .bD a l T::m,t,k=>match tp m t (k+1)with
  | some r=>some r
  | none=>if T=t then some (k,.bD a l T)else none
 | _::m,t,k=>tp m t (k+1)
def tV (args:List TV) (mem:Mem) (i:Nat):Nat×bx :=
 if 7000000<=i then match tp mem (i-7000000) 0 with
  | some r=>r
  | none=>(mem.length,.dead)
 else if 6000000<=i then match mem[i-6000000]? with
  | some r=>(i-6000000,r)
  | none=>(mem.length,.dead)
 else if 5000000<=i then match args[(i-5000000)/1000]? with
  | some (.sv (.one (.hptr x y)))=>match posOf mem x with
   | some (_,.bD _ l _)=>match(l[(i-5000000)%1000]?).bind ou with
    | some z=>match posOf mem z with
     | some r=>r
     | none=>(mem.length,.dead)
    | none=>(mem.length,.dead)
   | some (_,.ro k _ _)=>match posOf mem (.hP k x y ((i-5000000)%1000) 0)with
    | some r=>r
    | none=>(mem.length,.dead)
   | _=>(mem.length,.dead)
  | _=>(mem.length,.dead)
 else if 4000000<=i then match args[(i-4000000)/1000]? with
  | some (.sv (.agg l))=>match(l[(i-4000000)%1000]?).bind ou with
   | some y=>match posOf mem y with
    | some r=>pe mem r
    | none=>(mem.length,.dead)
   | none=>(mem.length,.dead)
  | _=>(mem.length,.dead)
 else if 3000000<=i then match(args[i-3000000]?).bind rootOf with
  | some x=>match posOf mem x with
   | some r=>pe mem r
   | none=>(mem.length,.dead)
  | none=>(mem.length,.dead)
 else if 2000000<=i then match posOf mem (.lit ((i-2000000:Nat):Int))with
  | some r=>r
  | none=>(mem.length,.dead)
 else if 1000000<=i then match args[(i-1000000)/1000]? with
  | some (.sv (.agg l))=>match(l[(i-1000000)%1000]?).bind ou with
   | some y=>match posOf mem y with
    | some r=>r
    | none=>(mem.length,.dead)
   | none=>(mem.length,.dead)
  | _=>(mem.length,.dead)
 else if 10000<=i then match args[(i-10000)/100]? with
  | some (.sv (.agg l))=>match(l[(i-10000)%100]?).bind ou with
   | some y=>match posOf mem y with
    | some r=>r
    | none=>(mem.length,.dead)
   | none=>(mem.length,.dead)
  | _=>(mem.length,.dead)
 else if 1000<=i then match(args[(i-1000)/100]?).bind rootOf with
  | some x=>match posOf mem x with
   | some (_,.bD _ l _)=>match(l[(i-1000)%100]?).bind ou with
    | some y=>match posOf mem y with
     | some r=>r
     | none=>(mem.length,.dead)
    | none=>(mem.length,.dead)
   | some r=>r
   | none=>(mem.length,.dead)
  | none=>(mem.length,.dead)
 else if 200<=i then match(args[i-200]?).bind rootOf with
  | some x=>match posOf mem x with
   | some (_,.bD _ (.map y::_) _)=>match posOf mem y with
    | some r=>r
    | none=>(mem.length,.dead)
   | _=>(mem.length,.dead)
  | none=>(mem.length,.dead)
 else if 100<=i then match oh mem 0 with
  | some r=>r
  | none=>(mem.length,.dead)
 else match(args[i]?).bind rootOf with
  | some x=>match posOf mem x with
   | some r=>r
   | none=>(mem.length,.dead)
  | none=>(mem.length,.dead)
def bx.nj (n:Nat):bx->bx
 | .bD a _ _=>.hp n [] [.var a] []
 | .hp k vers tags links=>.hp n (k::vers) tags links
 | .dead=>.hp n [] [] []
 | r=>r
def oy (mem:Mem) (ps:List (Nat×bx)):Mem:=nZ (fun p r=>match ps.find? fun q=>q.1==p with
 | some q=>q.2
 | none=>r) 0 mem
def lx (args:List TV) (l:List Nat):List E:=l.filterMap fun i=>(args[i]?).bind rootOf
def KJ (Γ:List Spec) (st:St) (f:FuncId) (args:List TV) (dst:Option Tmp):Option XR :=
 match Γ.findIdx? fun s=>s.fn==f with
 | some j=>match Γ[j]? with
  | some s=>match ga (s.own.map (Gk args st.mem))with
   | some own =>
    let rd:=s.rd.map (tV args st.mem)
    let ps:=own.map (·.1)
    if decide ps.Nodup&&(rd.all fun r=>!ps.contains r.1)then
     let x:X:=.call j st.nv args (own.map (·.2)) (rd.map (·.2))
     let nps:=own.zipIdx.map fun q=>(q.1.1,q.1.2.nj (st.nv+q.2))
     let mem:=oy st.mem nps++(if br 0 s.res=[]then []else [.hp (st.nv+own.length) [] (br st.nv s.res) (lx args s.links)])
     some ⟨({st with mem:=mem,nv:=st.nv+max (SL s.res) (own.length+1)} : St).put dst (some (cu st.nv s.res)),.pre x,some x⟩
    else none
   | none=>none
  | none=>none
 | none=>none
def vG (P:Program) (f:FuncId):Bool :=
 match P.funcs[f]? with
 | some fn=>fn.body.isSome&&!(fn.name== "runtime.NumGoroutine")
 | none=>false
def qN (st:St):Operand->Option FuncId
 | .func f=>some f
 | .tmp t=>match st.tmps[t]? with
  | some (some (.sv (.one (.val (.func (.func f) a b)))))=>if a.isEmpty&&b.isEmpty then some f else none
  | _=>none
 | _=>none
def wU (st:St) (l:List CV) (T:TypeId) (dst:Option Tmp) (v:TV):Option XR :=
 if l.all (·.upto st.nv)=true then some ⟨({st with mem:=st.mem++[.bD st.nv l T],nv:=st.nv+1} : St).put dst (some v),.tt,some (.alloc st.nv)⟩else none
def PT (P:Program) (st:St) (t:TypeId) (a b:TV) (dst:Option Tmp):Option XR :=
 match P.underlying t with
 | some (.slice el)=>match P.info? el with
  | some i=>match i.zero with
   | some z=>if z.cells.size=i.size/\0<i.size then
    match a,Ip st.mem i.size b with
    | .sv (.one (.sl x y l c)),some (src,le)=>if(l.upto st.nv&&le.upto st.nv)=true then
     let n:=st.nv
     let r:TV:=.sv (.one (.sl (.var n) (.lit 0) (mkAdd l le) (.var (n+1))))
     let fin (mem:Mem) (x:X):XR:=⟨({st with mem:=mem,nv:=n+2} : St).put dst (some r),.pre x,some x⟩
     if x=.lit (-1)then
      if y=.lit 0/\l=.lit 0/\c=.lit 0 then
       some (fin (st.mem++[.hp n [] [.var n] []]) (.app n el i.size i.bytes (.sl x y l c) l .dead src))
      else none
     else match posOf st.mem x with
      | some (p,.hp k vers tags links)=>some (fin (st.mem.set p (.hp n (k::vers) (.var n::tags) links)) (.app n el i.size i.bytes (.sl x y l c) l (.hp k vers tags links) src))
      | some (p,.bD a cells T)=>match y,l,c with
       | .lit o,.lit l,.lit c=>if T=el/\o=0 then
        some (fin (st.mem.set p (.hp n [] [.var n,.var a] [])) (.app n el i.size i.bytes (.sl x y (.lit l) (.lit c)) (.lit l) (.bD a cells T) src))
        else if 0<=o/\0<=l/\l<=c/\o.toNat+l.toNat*i.size<=cells.length/\x=.var a then
         some (fin (st.mem++[.hp n [] [.var n] []]) (.grow n el i.size i.bytes ((cells.drop o.toNat).take (l.toNat*i.size)) l.toNat c.toNat src))
        else none
       | _,_,_=>none
      | _=>none
     else none
    | _,_=>none
    else none
   | none=>none
  | none=>none
 | _=>none
def LR (P:Program) (st:St) (t:TypeId) (a b:TV) (dst:Option Tmp):Option XR :=
 match P.underlying t,a,b with
 | some (.slice el),.sv (.one (.int k l)),.sv (.one (.int k' c))=>if l=c then match P.info? el with
  | some i=>match i.zero with
   | some z=>if z.cells.size=i.size/\0<i.size/\l.upto st.nv=true then
    let zs:=z.cells.toList.map gk
    let n:=st.nv
    let x:X:=.mk n el zs i.bytes l
    match l with
    | .lit m=>if m.toNat*i.size<=128 then
     some ⟨({st with mem:=st.mem++[.bD n (mK zs (m.toNat*i.size)) el],nv:=n+1} : St).put dst (some (.sv (.one (.sl (.var n) (.lit 0) l l)))),.pre x,some x⟩
     else some ⟨({st with mem:=st.mem++[.hp n [] [.var n] []],nv:=n+1} : St).put dst (some (.sv (.one (.sl (.var n) (.lit 0) l l)))),.pre x,some x⟩
    | l=>some ⟨({st with mem:=st.mem++[.hp n [] [.var n] []],nv:=n+1} : St).put dst (some (.sv (.one (.sl (.var n) (.lit 0) l l)))),.pre x,some x⟩
    else none
   | none=>none
  | none=>none
  else none
 | _,_,_=>none
def Qf (P:Program) (st:St) (t:TypeId) (len:Nat) (is:List Nat) (vs:List TV) (dst:Option Tmp):Option XR :=
 match P.underlying t with
 | some (.slice el)=>match eO P el,kl P el,Sp vs with
  | some n,some z,some vs=>if len*n<=4096/\z.cells.size=n then
   match vU (fun i=>some (i*n,n)) (mK (z.cells.toList.map gk) (len*n)) (is.zip vs)with
   | some l=>wU st l el dst (.sv (.one (.sl (.var st.nv) (.lit 0) (.lit len) (.lit len))))
   | none=>none
   else none
  | _,_,_=>none
 | _=>none
def yV (P:Program) (t:TypeId):Option Kd :=
 match P.underlying t with
 | some (.int k)=>some (.int k)
 | some .string=>some .str
 | _=>none
def LD:Kd->CV->Bool
 | .int k,.int k' _=>decide (k=k')
 | .str,.str _=>true
 | _,_=>false
def Jd (P:Program) (st:St) (op:Op) (dst:Option Tmp):Option XR :=
 match op with
 | .makeMap t none=>match P.underlying t with
  | some (.map _ _)=>some ⟨({st with mem:=st.mem++[.hp st.nv [] [.var st.nv] []],nv:=st.nv+1} : St).put dst (some (.sv (.one (.map (.var st.nv))))),.pre (.mnew st.nv),some (.mnew st.nv)⟩
  | _=>none
 | .lookup t m k ok=>match P.underlying t with
  | some (.map kt vt)=>match yV P kt,kl P vt,Ec P vt,dg st m,dg st k with
   | some kd,some z,some agg,some (.sv (.one (.map x))),some (.sv (.one key))=>match(Ay st.mem x).bind (fun r=>r.2.hk),lift z with
    | some h,.sv zs =>
     let ks:=z.cells.toList.map km
     if LD kd key&&(agg==isAgg z)&&(agg||ks.length==1)then
      let X:X:=.mget st.nv h x kd key zs ks agg
      let v:=jZ st.nv ks agg
      some ⟨({st with nv:=st.nv+bR ks+1} : St).put dst (some (if ok then .tup [v,.one (.bool (.bvar (st.nv+bR ks)))]else .sv v)),.pre X,some X⟩
     else none
    | _,_=>none
   | _,_,_,_,_=>none
  | _=>none
 | .mapUpdate t m k v=>match P.underlying t with
  | some (.map kt _)=>match yV P kt,dg st m,dg st k,dg st v with
   | some kd,some (.sv (.one (.map x))),some (.sv (.one key)),some (.sv vs)=>if LD kd key then match Ay st.mem x with
    | some (p,.hp h vers tags links)=>some ⟨({st with mem:=st.mem.set p (.hp st.nv (h::vers) tags links),nv:=st.nv+1} : St).put dst none,.pre (.mset st.nv h x kd key vs),some (.mset st.nv h x kd key vs)⟩
    | _=>none
    else none
   | _,_,_,_=>none
  | _=>none
 | .call {callee:=.builtin .clear,args,argTypes}=>match args.toList,argTypes.toList with
  | [m],[t]=>match P.underlying t,dg st m with
   | some (.map _ _),some (.sv (.one (.map x)))=>match Ay st.mem x with
    | some (p,.hp h vers tags links)=>some ⟨({st with mem:=st.mem.set p (.hp st.nv (h::vers) tags links),nv:=st.nv+1} : St).put dst none,.pre (.mclr st.nv h x),some (.mclr st.nv h x)⟩
    | _=>none
   | _,_=>none
  | _,_=>none
 | _=>none
def Ap (P:Program) (mem:Mem) (el:TypeId) (p L:Nat) (yd n xs ys ls:E):Option (E×(Nat->Option CV)) :=
 match(match xs with | .var bs=>qX mem bs | _=>none)with
 | some (q,m,_) =>
  if q=p then none else
  if yd=ys/\m.length=L then some (.tt,fun j=>m[j]?)
  else match yd,ys with
   | .lit o,.lit o'=>if 0<=o/\0<=o' then some (mkLe (mkAdd (.lit o') n) (.lit m.length),fun j=>if o.toNat<=j then m[j-o.toNat+o'.toNat]? else none)else none
   | _,_=>none
 | none=>match yd,(Ay mem xs).bind (fun r=>r.2.hk)with
  | .lit o,some h=>if 0<=o/\I3 P el=true then some (mkOr (mkAnd (mkEq xs (.lit (-1))) (mkEq ls (.lit 0))) (mkAnd (mkLe (.lit 0) xs) (mkAnd (mkLe (.lit 0) ys) (.hby h xs ys n))),fun j=>if o.toNat<=j then some (.int .u8 (.hI h xs ys (j-o.toNat)))else none)else none
  | _,_=>none
def uH (yd ld:E) (src:Nat->Option CV) (j:Nat):Option CV:=match yd,ld with
 | .lit o,.lit l=>if(j:Int)<o+l then src j else none
 | _,_=>src j
def vw (yd n:E) (j:Nat):E:=mkAnd (mkLe yd (.lit j)) (mkLt (.lit j) (mkAdd yd n))
def nL (c:E) (src:Option CV) (old:CV):Option CV :=
 match src with
 | none=>some old
 | some s=>if s.pG=true then(if c=.tt then some s else if c=.ff then some old else oW c s old)else none
def Ha (yd n:E) (src:Nat->Option CV):Nat->List CV->Option (List CV)
 | _,[]=>some []
 | j,c::l=>match nL (vw yd n j) (src j) c,Ha yd n src (j+1) l with
  | some x,some r=>some (x::r)
  | _,_=>none
def KV (P:Program) (st:St) (el:TypeId) (ad:Nat) (yd ld xs ys ls:E) (dst:Option Tmp):Option XR :=
 match Ay st.mem (.var ad),(Ay st.mem xs).bind (fun r=>r.2.hk)with
 | some (p,.hp k vers tags links),some h=>if I3 P el=true then
  let x:X:=.cpy st.nv k (.var ad) yd ld h xs ys ls
  some ⟨({st with mem:=st.mem.set p (.hp st.nv (k::vers) tags links),nv:=st.nv+1} : St).put dst none,.pre x,some x⟩
  else none
 | _,_=>none
def KU (P:Program) (st:St) (t:TypeId) (a b:TV) (dst:Option Tmp):Option XR :=
 match P.underlying t with
 | some (.slice el)=>if eO P el=some 1 then match a,b with
  | .sv (.one (.sl (.var ad) yd ld _)),.sv (.one (.sl xs ys ls _))=>match qX st.mem ad with
   | some (p,l,T) =>
    let n:=mkIte (mkLt ls ld) ls ld
    match Ap P st.mem el p l.length yd n xs ys ls with
    | some (k,src)=>match Ha yd n (uH yd ld src) 0 l with
     | some l'=>some ⟨({st with mem:=st.mem.set p (.bD ad l' T)} : St).put dst (some (TI .i64 n)),Tn (mkAnd k (mkAnd (mkLe (.lit 0) yd) (mkAnd (mkLe (.lit 0) ld) (mkAnd (mkLe (.lit 0) ls) (mkLe (mkAdd yd n) (.lit l.length)))))),none⟩
     | none=>none
    | none=>none
   | none=>KV P st el ad yd ld xs ys ls dst
  | _,_=>none
  else none
 | _=>none
def Qj (P:Program) (st:St) (s d:TypeId) (x:TV) (dst:Option Tmp):Option XR :=
 if s=d then match P.underlying s with
  | some (.slice el)=>if I3 P el=true/\x.upto st.nv=true then match x with
   | .sv (.one (.sl (.var a) y l c))=>match qX st.mem a with
    | some (p,cs,T)=>some ⟨({st with mem:=st.mem.set p (.hp st.nv [] [.var a] []),nv:=st.nv+1} : St).put dst (some (.sv (.one (.sl (.var a) y l c)))),.tt,some (.cbs st.nv a cs T)⟩
    | none=>none
   | _=>none
   else none
  | _=>none
 else none
def Q2 (P:Program) (st:St) (T:TypeId) (x:TV) (dst:Option Tmp):Option XR :=
 match x with
 | .sv v=>match P.underlying T with
  | some (.pointer _) | some (.struct _)=>some ⟨({st with nv:=st.nv+1} : St).put dst (some (.sv (.one (.vr st.nv)))),.tt,some (.mki st.nv T v)⟩
  | _=>none
 | _=>none
def NP (P:Program) (Γ:List Spec) (st:St) (o:Oper):Option XR :=
 if st.upto st.nv=true then
  match o.op with
  | .alloc t=>match kl P t with
   | some z=>wU st (z.cells.toList.map gk) t o.dst (TP (.var st.nv) (.lit 0))
   | none=>none
  | .box t x=>match dg st x with
   | some (.sv v)=>if v.cells.all CV.pG=true then wU st v.cells t o.dst (TP (.var st.nv) (.lit 0))else none
   | _=>none
  | .store t p x=>match dg st p,dg st x with
   | some (.sv (.one pv)),some (.sv v)=>match qC P st t pv v with
    | some (.inl (n,mem))=>some ⟨({st with mem:=mem} : St).put o.dst none,Tn n,none⟩
    | some (.inr (x,mem))=>some ⟨({st with mem:=mem,nv:=st.nv+1} : St).put o.dst none,.pre x,some x⟩
    | none=>none
   | _,_=>none
  | .makeSlice t l c=>match dg st l,dg st c with
   | some a,some b=>LR P st t a b o.dst
   | _,_=>none
  | .buildSlice t len parts=>match rH st (parts.toList.map (·.2))with
   | some vs=>Qf P st t len (parts.toList.map (·.1)) vs o.dst
   | none=>none
  | .call {callee:=.builtin .append,args,argTypes}=>match args.toList,argTypes.toList with
   | [a,b],[t,t']=>if t=t' then match dg st a,dg st b with
    | some x,some y=>PT P st t x y o.dst
    | _,_=>none
    else none
   | _,_=>none
  | .call {callee:=.builtin .copy,args,argTypes}=>match args.toList,argTypes.toList with
   | [a,b],[t,_]=>match dg st a,dg st b with
    | some x,some y=>KU P st t x y o.dst
    | _,_=>none
   | _,_=>none
  | .convert s d x=>match dg st x with
   | some x=>Qj P st s d x o.dst
   | none=>none
  | .makeInterface T x=>match dg st x with
   | some x=>Q2 P st T x o.dst
   | none=>none
  | .makeMap t none=>Jd P st (.makeMap t none) o.dst
  | .lookup t m k ok=>Jd P st (.lookup t m k ok) o.dst
  | .mapUpdate t m k v=>Jd P st (.mapUpdate t m k v) o.dst
  | .call {callee:=.builtin .clear,args,argTypes}=>Jd P st (.call {callee:=.builtin .clear,args,argTypes}) o.dst
  | .call {callee:=.value c,args,argTypes:=_}=>match qN st c,rH st args.toList with
   | some f,some vs=>if vG P f then KJ Γ st f vs o.dst else none
   | _,_=>none
  | _=>none
 else none
def RO (mem:Mem) (x:E):Bool:=match posOf mem x with
 | some (_,.hp _ _ tags _)=>tags.contains (.lit (-7))
 | _=>false
def O3:TV->List CV
 | .sv v=>v.cells
 | _=>[]
def Vx (P:Program) (st:St) (o:Oper):Option (E×List CV) :=
 match o.op with
 | .call {callee:=.builtin .append,args,argTypes}=>match args.toList,argTypes.toList with
  | [a,b],[t,_]=>match P.underlying t with
   | some (.slice el)=>match P.info? el,dg st a,dg st b with
    | some i,some (.sv (.one (.sl x _ _ _))),some y=>match Ip st.mem i.size y with
     | some (.cvs l _,_)=>some (x,l)
     | _=>none
    | _,_,_=>none
   | _=>none
  | _,_=>none
 | .store _ p x=>match dg st p,dg st x with
  | some (.sv (.one (.hptr x _))),some (.sv v)=>some (x,v.cells)
  | _,_=>none
 | .call {callee:=.value _,args,argTypes:=_}=>match rH st args.toList with
  | some (.sv (.one (.hptr x _))::vs)=>if RO st.mem x then some (x,vs.flatMap O3)else none
  | _=>none
 | _=>none
def L9 (mem:Mem) (p:Nat):List CV->Option (E×Nat×bx)
 | []=>none
 | c::l=>match(ou c).bind (fun y=>(posOf mem y).map fun r=>(y,r))with
  | some (y,q,r)=>if r.own=true/\q≠p then some (y,q,r)else L9 mem p l
  | none=>L9 mem p l
def bx.ks:bx->List Nat
 | .hp k vers _ _=>k::vers
 | _=>[]
def bx.TT:bx->List E
 | .hp _ _ tags _=>tags
 | _=>[]
def zc (P:Program) (st:St) (o:Oper):Option (St×X) :=
 match Vx P st o with
 | some (x,l)=>match posOf st.mem x with
  | some (p,.hp k vers tags links)=>match L9 st.mem p l with
   | some (y,q,r)=>if st.upto st.nv=true then some ({st with mem:=(st.mem.set p (.hp st.nv (k::r.ks++vers) (tags++y::r.TT) links)).set q .dead,nv:=st.nv+1},.L8 st.nv (.hp k vers tags links) r)else none
   | none=>none
  | _=>none
 | none=>none
section
variable {P:Program} {C:Ctx} {ms:Nat->Nat} {S:Nat->Prop} {w0:World} {ρ ρ':Env} {st:St} {mem mem':Mem} {a:Act} {w w':World}
theorem Rel.step (hA:Rel S w0 ρ st a w) (hu:st.upto st.nv=true) (hg:ah st.nv ρ ρ') (hm:MRel S w0 ρ' mem' w') (nv:Nat) (d:Option Tmp) (v:Option TV) (x:Value) (hx:∀ y,v=some y->x=y.ev ρ') :
 Rel S w0 ρ' (({st with mem:=mem',nv:=nv} : St).put d v) (a.put d x) w' :=
 Rel.put (Rel.nh hg hu hA hm nv) d v x hx
theorem St.dn {n:Nat} (h:st.upto n=true):Mem.upto n st.mem=true:=by
 simp only[St.upto,Zg]at h;exact h.1.2
def Fin (S:Nat->Prop) (w0:World) (C:Ctx) (ρ:Env) (st:St) (a:Act) (d:Option Tmp) (R:XR) (K:Act->World->Prop):Prop :=
 ∀ ρ' x w',ah st.nv ρ ρ'->(match R.x with | some y=>y.rel C ρ ρ'/\y.n=st.nv | none=>ρ'=ρ)->Rel S w0 ρ' R.st (a.put d x) w'->K (a.put d x) w'
theorem eV {o:Oper} {K:Act->World->Prop} {Q:Exit->Act->World->Prop} {v:Value} (h:(execOp a.eval o).run P w=.ok (.value v) w') (hK:K (a.put o.dst v) w'):o.wp P a w K Q:=by
 unfold Oper.wp;rw[h];exact hK
theorem yl {o:Oper} {K:Act->World->Prop} {Q:Exit->Act->World->Prop} (h:(execOp a.eval o).run P w=.ok .skip w') (hK:K (a.put o.dst undef) w'):o.wp P a w K Q:=by
 unfold Oper.wp;rw[h];exact hK
theorem mT {l:List CV} {T:TypeId} {d:Option Tmp} {v:TV} {R:XR} {K:Act->World->Prop} (h:wU st l T d v=some R) (hu:st.upto st.nv=true) (hA:Rel S w0 ρ st a w) (hK:Fin S w0 C ρ st a d R K)
 {cs:Array Value} (hc:cs=(l.map (CV.ev ρ)).toArray) {x:Value} (hx:∀ ρ',ah st.nv ρ ρ'->ρ'.i st.nv=w.heap.size->x=v.ev ρ'):K (a.put d x) (w.alloc (.cells cs T)):=by
 unfold wU at h;split at h
 .rename_i hl;cases h
  let ρ':=ρ.fq st.nv w.heap.size
  have hg:ah st.nv ρ ρ':=cM _ _ _ (ZB _);have hi:ρ'.i st.nv=w.heap.size:=ll _ _ _;refine hK ρ' x _ hg ⟨show 0<=ρ'.i st.nv by rw[hi];omega,rfl⟩ (Rel.step hA hu hg ?_ _ _ _ _ (fun y hy=>by cases hy;exact hx ρ' hg hi));refine hA.toMRel.add rfl rfl rfl (by simp) (fun b hb=>RowKit.Below.heap_alloc w _ b hb) (Mem.cx hg (St.dn hu)) ?_ (by show 0<=ρ'.i st.nv;rw[hi];omega) ?_
  .intro b o hb;obtain⟨rfl,rfl⟩:=Hl.mZ hb;rw[hi,Y7,CV.gn hg l hl,hc];exact heap_alloc_new w _
  .intro b hb;rw[show b=(ρ'.i st.nv).toNat from Hl.dH.1 hb,hi,Y7];exact ZB _
 .cases h
theorem DS {α:Type} : ∀ (l:List α) (k:Nat) (x:α),l[k]?=some x->l.set k x=l
 | [],_,_,_=>rfl
 | y::l,0,x,h=>by simp at h;simp [h]
 | y::l,k+1,x,h=>by simp at h;simp [DS l k x h]
theorem sh {l:List CV} {o s:Nat} {i:E} {c:CV} (h0:0<=aC ρ i):∀ (m:Nat) (l':List CV),qC.updSel l o s i c m=some l' ->
 l'.length=l.length/\l'.map (CV.ev ρ)=if aC ρ i<m then(l.map (CV.ev ρ)).set (o+s*(aC ρ i).toNat) (c.ev ρ)else l.map (CV.ev ρ)
 | 0,l',h=>by
  cases h;refine⟨rfl,?_⟩;rw[Zo (by simpa using h0)]
 | m+1,l',h=>by
  simp only[qC.updSel]at h;split at h
  .rename_i l1 h1;split at h
   .rename_i old hold;split at h
    .rename_i v hv;cases h;obtain⟨e1,e2⟩:=sh h0 m l1 h1;refine⟨by simp [e1],?_⟩;have hm:=mO (ρ:=ρ) hv;rw[fw,ai]at hm;rw[ach];by_cases hc:aC ρ i=(m:Int)
     .have e3:(aC ρ i).toNat=m:=by omega
      rw[Zo (by omega)]at e2;rw[ZA (show aC ρ i<((m+1:Nat):Int)by omega),e3,e2,hm,ZA (by simpa using hc)]
     .rw[Zo (by simpa using hc)]at hm;rw[hm,DS _ _ _ (show(l1.map (CV.ev ρ))[o+s*m]?=some (old.ev ρ)by simp [hold]),e2];by_cases hi:aC ρ i<m
      .rw[ZA hi,ZA (by omega)]
      .rw[Zo hi,Zo (by omega)]
    .cases h
   .cases h
  .cases h
theorem MRel.Bz (h:MRel S w0 ρ mem w) {p b:Nat} {l l':List CV} {T:TypeId} (hp:mem[p]?=some (.bD b l T)) {cs:Array Value} (hc:cs=(l'.map (CV.ev ρ)).toArray) :
 MRel S w0 ρ (mem.set p (.bD b l' T)) (w.setRow (ρ.i b).toNat cs):=by
 refine h.set hp rfl rfl rfl rfl (by simp) (fun c _ hn=>setRow_other w _ c _ (fun e=>hn (Hl.dH.2 e))) (fun s _=>⟨rfl,id⟩) ?_ (show 0<=ρ.i b from h.pos _ (Zb hp)) ?_
 .intro c o hc';obtain⟨rfl,rfl⟩:=Hl.mZ hc';rw[hc];exact setRow_heap w _ _ _ T _ (h.bD hp)
 .intro c hc';exact Or.inl (Hl.dH.2 (Hl.dH.1 hc'))
theorem oB {t:TypeId} {b o:Nat} {v:SV} {l:List CV} {T:TypeId} (hs:eO P t=some v.cells.length) (h1:v.cells.all CV.pG=true) (hle:o+v.cells.length<=l.length)
 (hb:w.heap[b]?=some (.cells (l.map (CV.ev ρ)).toArray T (0,0))) :
 (storeVar t ⟨b,o,none⟩ (v.ev ρ)).run P w=.ok () (w.setRow b ((cf l o v.cells).map (CV.ev ρ)).toArray):=by
 unfold storeVar;have hcs:=SV.qQ (ρ:=ρ) v h1;have hsz:(v.ev ρ).cells.size=v.cells.length:=by rw[<-aaI,hcs];simp
 simp only[Sem.run_bind,dL hs,Result.andThen_ok,hsz,ne_eq,aaV,aaG];rw[hcs];have:=run_storeCells_at (P:=P) b o T (v.cells.map (CV.ev ρ)) 0 (l.map (CV.ev ρ)).toArray w hb (by simp;omega)
  (fun x hx=>by
   obtain⟨c,hc,rfl⟩:=ZV.1 hx;exact CV.nJ c (ZF.1 h1 c hc))
 simp only[Zp]at this;simp only[this]
 congr 2
 simp [cf,ZP,abn,abI]
theorem Gw (hA:MRel S w0 ρ st.mem w) {t:TypeId} {p:CV} {v:SV} {k:E} (h:qC P st t p v=some (.inl (k,mem'))) (hk:bN ρ k=true) :
 ∃ q w',p.ev ρ=.pointer (some q)/\(storeVar t q (v.ev ρ)).run P w=.ok () w'/\MRel S w0 ρ mem' w':=by
 unfold qC at h;split at h
 .rename_i b o s m i;split at h
  .rename_i q l T c hb;split at h
   .rename_i hc;simp only[Zk,Sum.inl.injEq,Z0]at h;obtain⟨l',hl',rfl,rfl⟩:=h;obtain⟨h0,h1⟩:=gV hk;obtain⟨e1,e2⟩:=sh (c:=c) h0 m l' hl';rw[ZA h1]at e2;have hlt:=hc.2.2 (aC ρ i).toNat (by omega);have hp:=fF hb;have hpos:0<=ρ.i b:=hA.pos _ (Zb hp);refine⟨_,_,by simp only[CV.ev];rw[m7 h0,au hpos,Y7],oB (v:=.one c) hc.1 (by simp [SV.cells,hc.2.1]) (by simp only[SV.cells,ZC];omega) (hA.bD hp),?_⟩;refine hA.Bz hp ?_;rw[e2];simp only[cf,SV.cells,ZP,abn,abI,Zf,Zr,ZC];rw[List.set_eq_take_append_cons_drop,ZA (by simpa using hlt)];simp
   .cases h
  .cases h
 .rename_i x y;split at h
  .rename_i hc;split at h
   .rename_i b q l T o hk0;obtain⟨rfl,rfl,hp⟩:=gb hk0;split at h
    .rename_i hle;cases h;have hpos:0<=ρ.i b:=hA.pos _ (Zb hp);exact⟨_,_,by simp only[CV.ev,aj,ai];rw[au hpos,Y7],oB hc.1 hc.2 hle (hA.bD hp),hA.Bz hp rfl⟩
    .cases h
   .split at h<;>cases h
  .cases h
 .cases h
theorem Gx (hA:Rel S w0 ρ st a w) (hu:st.upto st.nv=true) {t:TypeId} {p:CV} {v:SV} {x:X} (h:qC P st t p v=some (.inr (x,mem'))) (hk:x.pre C ρ) :
 ∃ q w' ρ',p.ev ρ=.pointer (some q)/\(storeVar t q (v.ev ρ)).run P w=.ok () w'/\ah st.nv ρ ρ'/\x.rel C ρ ρ'/\x.n=st.nv/\MRel S w0 ρ' mem' w':=by
 unfold qC at h;split at h
 .split at h
  .split at h
   .simp at h
   .cases h
  .cases h
 .rename_i x y;split at h
  .rename_i hc;split at h
   .split at h<;>cases h
   .split at h
    .rename_i q k vers tags links hf;cases h;have hp:=gR hf;obtain⟨hx,hy,hw⟩:=hk;have hsub:(ρ.h k).sub w:=hA.sub _ (Zb hp);have hcs:=SV.qQ (ρ:=ρ) v hc.2;obtain⟨cs,hrun,hsub'⟩:=M1 (P:=P) hsub (t:=t) (vs:=v.cells.map (CV.ev ρ)) (by simpa using hc.1) hcs
      (fun u hu=>by obtain⟨c,hcm,rfl⟩:=ZV.1 hu;exact CV.nJ c (ZF.1 hc.2 c hcm)) (by simpa using hw)
     let H':=(ρ.h k).put (aC ρ x).toNat (aC ρ y).toNat (v.cells.map (CV.ev ρ))
     let ρ':=ρ.kj st.nv H'
     have hg:ah st.nv ρ ρ':=eD _ _ _ (ZB _);have hh:ρ'.h st.nv=H':=fI _ _ _;refine⟨_,_,ρ',by simp only[CV.ev];rw[au hx],hrun,hg,hh,rfl,?_⟩;have hxm:(ρ.h k).mem (aC ρ x).toNat:=by
      obtain⟨c,T,fr,hx',_⟩:=jk hw;unfold Hl.mem;rw[hx'];rfl
     refine hA.toMRel.set hp rfl rfl rfl rfl (by simp) (fun b _ hn=>setRow_other w _ b _ (fun e=>hn (by subst e;exact hxm))) (Mem.cx hg (St.dn hu)) ?_ trivial ?_
     .show(ρ'.h st.nv).sub _;rw[hh];exact hsub'
     .intro b hb;have hb:(ρ'.h st.nv).mem b:=hb;rw[hh]at hb;exact Or.inl (Hl.gL.1 hb)
    .cases h
  .cases h
 .cases h
end
section
variable {P:Program} {C:Ctx} {ms:Nat->Nat} {S:Nat->Prop} {w0:World} {ρ ρ':Env} {st:St} {mem mem':Mem} {a:Act} {w w':World}
theorem wM {z:List CV} {zs:List Value} (hz:z.map (CV.ev ρ)=zs) (hp:0<zs.length) (n:Nat):(mK z n).map (CV.ev ρ)=(madeCells zs.toArray n).toList:=by
 have hlen:z.length=zs.length:=by rw[<-hz];simp
 unfold mK madeCells;simp only[aaF,Array.toList_map,Array.toList_range];refine aac fun j _=>?_;simp only[Function.comp,abb];have hlt:j%z.length<z.length:=acg _ (by omega);rw[Zt,Y8 hlt,aav];have h2:zs[j%zs.length]?=some ((z[j%z.length]).ev ρ):=by
  rw[<-hz,Zs,ZD,Y8 hlt];rfl
 rw[getElem!_def];simp [h2]
theorem uh (hm:MRel S w0 ρ mem w) {size:Nat} {t:TV} {src:Src} {le:E} (h:Ip mem size t=some (src,le)) (hok:src.ok ρ size) :
 Kn w (t.ev ρ) (src.len ρ) (src.bG ρ size)/\(src.bG ρ size).length=src.len ρ*size/\(∀ u∈src.bG ρ size,u.oneCell'=true)/\aC ρ le=src.len ρ:=by
 unfold Ip at h;split at h
 .rename_i x y l c;split at h
  .rename_i hx;split at h
   .rename_i hc;cases h;obtain⟨rfl,rfl,rfl⟩:=hc;subst hx;exact⟨Or.inr ⟨⟨_,rfl⟩,rfl,rfl⟩,by simp [Src.bG,Src.len],by simp [Src.bG],rfl⟩
   .cases h
  .split at h
   .rename_i a p cs T o m hk0;obtain⟨rfl,rfl,hp⟩:=gb hk0;split at h
    .rename_i hc;cases h;have hpos:0<=ρ.i a:=hm.pos _ (Zb hp);refine⟨Or.inl ⟨⟨(ρ.i a).toNat,o,none⟩,(aC ρ c).toNat,?_,?_⟩,?_,?_,?_⟩
     .simp only[TV.ev,SV.ev,CV.ev,aj,ai,Src.len];rw[au hpos,Y7]
     .intro j u hu;rw[ef];simp only[Src.bG,Zs,Z2]at hu;simp only[World.cell?,hm.bD hp];split at hu
      .rw[ZZ]at hu;simpa using hu
      .simp at hu
     .simp only[Src.bG,Src.len,ZD,ZE,ZX];omega
     .intro u hu;simp only[Src.bG]at hu;obtain⟨q,hq,rfl⟩:=ZV.1 hu;exact CV.nJ q (ZF.1 hc.2.2 q hq)
     .simp only[ai,Src.len];omega
    .cases h
   .split at h
    .rename_i l _ _ _ _ k hk;have hsub:=vS hm hk;obtain⟨e1,e2⟩:Src.seg k x y l=src/\l=le:=by simpa using h
     subst e1;subst e2;rcases hok with ⟨hx,hy,hl,hj⟩ | hl
     .refine⟨Or.inl ⟨⟨(aC ρ x).toNat,(aC ρ y).toNat,none⟩,(aC ρ c).toNat,?_,?_⟩,?_,?_,?_⟩
      .simp only[TV.ev,SV.ev,CV.ev,Src.len];rw[au hx]
      .intro j u hu;rw[ef];simp only[Src.bG,cJ,Zs]at hu;by_cases hlt:j<(aC ρ l).toNat*size
       .rw[ZI hlt]at hu;simp only[ZS,Zj]at hu;obtain⟨v,hv,_⟩:=hj j hlt;rw[hv,aav]at hu;subst hu;exact Hl.gG hsub hv
       .rw[Zv (by simp;omega)]at hu;cases hu
      .simp [Src.bG,Src.len,cJ]
      .intro u hu;simp only[Src.bG,cJ]at hu;obtain⟨j,hj',rfl⟩:=ZV.1 hu;obtain⟨v,hv,h1⟩:=hj j (ZQ.1 hj');rw[hv];exact h1
      .simp only[Src.len];omega
     .refine⟨?_,?_,?_,?_⟩
      .cases hp:aA (aC ρ x) (aC ρ y)with
       | none =>
        refine Or.inr ⟨⟨(aC ρ c).toNat,?_⟩,?_,?_⟩
        .simp only[TV.ev,SV.ev,CV.ev,hp,hl];rfl
        .simp [Src.len,hl]
        .simp [Src.bG,cJ,hl]
       | some a0 =>
        refine Or.inl ⟨a0,(aC ρ c).toNat,?_,?_⟩
        .simp only[TV.ev,SV.ev,CV.ev,hp,Src.len]
        .intro j u hu;simp [Src.bG,cJ,hl]at hu
      .simp [Src.bG,Src.len,cJ,hl]
      .simp [Src.bG,cJ,hl]
      .simp [Src.len,hl]
    .cases h
 .cases h
theorem Ee (hA:Rel S w0 ρ st a w) (hu:st.upto st.nv=true) {t:TypeId} {x y:TV} {d:Option Tmp} {R:XR} {ty:TypeId} (h:PT P st t x y d=some R) (hn:R.need.holds C ms ρ)
 {K:Act->World->Prop} (hK:Fin S w0 C ρ st a d R K):∃ v' w',(Builtin.append_ #[t,t] ty #[x.ev ρ,y.ev ρ]).run P w=.ok v' w'/\K (a.put d v') w':=by
 unfold PT at h;split at h
 .rename_i el ht;split at h
  .rename_i i hi;split at h
   .rename_i z hz;split at h
    .rename_i hzs;split at h
     .rename_i sx sy sl sc src le hsrc;split at h
      .rename_i hup;simp only[Zg]at hup;simp only at h;have fin:∀ (mem':Mem) (H:bx) (Hw:(H.hl ρ).sub w) (R':XR),R'=⟨({st with mem:=mem',nv:=st.nv+2} : St).put d (some (.sv (.one (.sl (.var st.nv) (.lit 0) (mkAdd sl le) (.var (st.nv+1)))))),.pre (.app st.nv el i.size i.bytes (.sl sx sy sl sc) sl H src),some (.app st.nv el i.size i.bytes (.sl sx sy sl sc) sl H src)⟩ ->
        R'.need.holds C ms ρ->Fin S w0 C ρ st a d R' K ->
        (∀ w' (H':Hl) ρ',w.grownBy w' (CV.ev ρ (.sl sx sy sl sc)).ownBlock->ah st.nv ρ ρ'->H'.sub w'->ρ'.h st.nv=H'->(∀ b,H'.mem b->(H.hl ρ).mem b\/w.heap.size<=b)->(∀ b,(CV.ev ρ (.sl sx sy sl sc)).ownBlock=some b->(H.hl ρ).mem b)->MRel S w0 ρ' mem' w') ->
        ∃ v' w',(Builtin.append_ #[t,t] ty #[TV.ev ρ (.sv (.one (.sl sx sy sl sc))),y.ev ρ]).run P w=.ok v' w'/\K (a.put d v') w':=by
        intro mem' H Hw R' hR' hn hK hmem;subst hR';obtain⟨⟨xs,hown⟩,hl0,hok,h63,hby⟩:=hn;obtain⟨s1,s2,s3,s4⟩:=uh hA.toMRel hsrc hok;obtain⟨v',w',H',hr,o1,o2,o3,o4,o5,o6⟩:=Eg (P:=P) (ty:=ty) Hw ht hi hz rfl rfl hzs.1 hzs.2 hown s2 s1 s3 h63 hby;obtain⟨x',c',hv',hx1,hc1⟩:∃ x' c':Int,v'=.slice (aA x' 0) ((aC ρ sl).toNat+src.len ρ) c'.toNat/\ -1<=x'/\0<=c':=by
         rcases o1.2 with ⟨rfl,h0⟩ | ⟨g,cap,cur,rfl,_⟩
         .exact⟨-1,0,by rw[h0];rfl,by omega,by omega⟩
         .exact⟨g,cap,by rw[au (by omega)];simp,by omega,by omega⟩
        subst hv'
        let ρ':=((ρ.fq st.nv x').fq (st.nv+1) c').kj st.nv H'
        have hg:ah st.nv ρ ρ':=((cM _ _ _ (ZB _)).trans (cM _ _ _ (by omega))).trans (eD _ _ _ (ZB _));have e1:ρ'.i st.nv=x':=by show((ρ.fq st.nv x').fq (st.nv+1) c').i st.nv=x';rw[Ik _ _ _ _ (by omega),ll]
        have e2:ρ'.i (st.nv+1)=c':=by show((ρ.fq st.nv x').fq (st.nv+1) c').i (st.nv+1)=c';rw[ll]
        have e3:ρ'.h st.nv=H':=fI _ _ _;have hob:∀ b,(CV.ev ρ (.sl sx sy sl sc)).ownBlock=some b->(H.hl ρ).mem b:=by
         intro b hb;simp only[SV.ev,CV.ev]at hown hb;rcases hown.2 with ⟨hq,_⟩ | ⟨g,cap,cur,hq,hgg,_⟩
         .rw[hq]at hb;cases hb
         .rw[hq]at hb;cases hb;unfold Hl.mem;rw[hgg];rfl
        refine⟨_,w',hr,hK ρ' _ w' hg ⟨⟨by rw[e1];exact hx1,by rw[e2];exact hc1,?_,?_,?_,?_⟩,rfl⟩ (Rel.step hA hu hg (hmem w' H' ρ' o3 hg o2 e3 (fun b hb=>(o5 b hb).imp id And.right) hob) _ _ _ _ ?_)⟩
        .intro xs' hxs';have:xs'=xs:=by
          rcases hown.2 with ⟨hq,h0⟩ | ⟨g,cap,cur,hq,hgg,_,_,_,ht⟩
          .have a1:=hown.1;have a2:=hxs'.1;rw[h0]at a1 a2;have b1:xs=[]:=aaK (by simpa using a1);have b2:xs'=[]:=aaK (by simpa using a2);rw[b1,b2]
          .rcases hxs'.2 with ⟨hq',h0⟩ | ⟨g',cap',cur',hq',hgg',_,_,_,ht'⟩
           .rw[hq]at hq';cases hq'
           .rw[hq]at hq';cases hq';rw[hgg]at hgg';cases hgg';rw[<-ht,<-ht']
         subst this;rw[e1,e2,e3];exact o1
        .intro b hb hne;rw[e3];exact o4 b hb hne
        .intro b hb;rw[e3]at hb;rcases o5 b hb with h | ⟨h,_⟩
         .exact Or.inl h
         .right;rw[e1];by_cases hx:0<=x'
          .rw[au hx]at h;simp only[Value.ownBlock,Zj]at h;exact⟨h.symm,hx⟩
          .have:x'= -1:=by omega
           rw[this]at h;cases h
        .rw[e1];by_cases hx:0<=x'
         .rcases o6 with h | ⟨b,hb,hl⟩
          .left;rw[<-h,au hx];rfl
          .right;left;rw[au hx]at hb;simp only[Value.ownBlock,Zj]at hb;intro hm;have:=Hl.sub_lt Hw hm;omega
         .right;right;omega
        .intro u hu';cases hu';simp only[TV.ev,SV.ev,CV.ev,aj,ai,e1,e2,dZ,cR hg hup.1,cR hg hup.2,s4]
         congr 1
         omega
       split at h
       .rename_i hx;split at h
        .cases h;refine fin _ .dead (fun b o hb=>by cases hb) _ rfl hn hK ?_;intro w' H' ρ' hgr hg hs he hd hob;have hown:(CV.ev ρ (.sl sx sy sl sc)).ownBlock=none:=by
          cases hb:(CV.ev ρ (.sl sx sy sl sc)).ownBlock with
          | none=>rfl
          | some b=>have:=hob b hb;cases this
         rw[hown]at hgr;refine hA.toMRel.add hgr.os hgr.tape hgr.output hgr.size (fun b hb=>hgr.block b hb (by simp)) (Mem.cx hg (St.dn hu)) (by show(ρ'.h st.nv).sub w';rw[he];exact hs) trivial ?_;intro b hb;have hb:(ρ'.h st.nv).mem b:=hb;rw[he]at hb;rcases hd b hb with h | h
         .cases h
         .exact h
        .cases h
       .split at h
        .rename_i p k vers tags links hp;cases h;have hp:=bQ hp;refine fin _ (.hp k vers tags links) (hA.sub _ (Zb hp)) _ rfl hn hK ?_;intro w' H' ρ' hgr hg hs he hd hob;refine hA.toMRel.set hp rfl hgr.os hgr.tape hgr.output hgr.size (fun b hb hnm=>hgr.block b hb (fun e=>hnm (hob b e.symm))) (Mem.cx hg (St.dn hu)) (by show(ρ'.h st.nv).sub w';rw[he];exact hs) trivial ?_;intro b hb;have hb:(ρ'.h st.nv).mem b:=hb;rw[he]at hb;exact hd b hb
        .rename_i p b cells T hp;split at h
         .rename_i o l c;split at h
          .cases h;have hp:=bQ hp;refine fin _ (.bD b cells T) (hA.sub _ (Zb hp)) _ rfl hn hK ?_;intro w' H' ρ' hgr hg hs he hd hob;refine hA.toMRel.set hp rfl hgr.os hgr.tape hgr.output hgr.size (fun b hb hnm=>hgr.block b hb (fun e=>hnm (hob b e.symm))) (Mem.cx hg (St.dn hu)) (by show(ρ'.h st.nv).sub w';rw[he];exact hs) trivial ?_;intro b hb;have hb:(ρ'.h st.nv).mem b:=hb;rw[he]at hb;exact hd b hb
          .split at h
           .rename_i hc;obtain⟨c0,c1,c2,c3,rfl⟩:=hc;cases h;have hp:=bQ hp;obtain⟨hok,EZ,h63,hby⟩:=hn;obtain⟨s1,s2,s3,s4⟩:=uh hA.toMRel hsrc hok;have hpos:0<=ρ.i b:=hA.pos _ (Zb hp);have hb:=hA.toMRel.bD hp;obtain⟨cp,ob,hr,ho⟩:=BZ (P:=P) (w:=w) (ty:=ty) ht hi hz rfl rfl hzs.1 (b:=⟨(ρ.i b).toNat,o.toNat,none⟩) (n:=l.toNat) (cap:=c.toNat) (olds:=((cells.drop o.toNat).take (l.toNat*i.size)).map (CV.ev ρ))
             (by simp only[ZD,ZE,ZX];omega)
             (fun j u hu'=>by
              rw[ef];simp only[Zs,Z2]at hu';simp only[World.cell?,hb];split at hu'
              .rw[ZZ]at hu';simpa using hu'
              .simp at hu') s2 s1 EZ (by omega) h63 hby
            let ρ':=((ρ.fq st.nv w.heap.size).fq (st.nv+1) cp).kj st.nv (Hl.one w.heap.size ob)
            have hg:ah st.nv ρ ρ':=((cM _ _ _ (ZB _)).trans (cM _ _ _ (by omega))).trans (eD _ _ _ (ZB _));have e1:ρ'.i st.nv=w.heap.size:=by show((ρ.fq st.nv w.heap.size).fq (st.nv+1) cp).i st.nv=_;rw[Ik _ _ _ _ (by omega),ll]
            have e2:ρ'.i (st.nv+1)=cp:=by show((ρ.fq st.nv w.heap.size).fq (st.nv+1) cp).i (st.nv+1)=_;rw[ll]
            have e3:ρ'.h st.nv=Hl.one w.heap.size ob:=fI _ _ _;refine⟨_,_,?_,hK ρ' (.slice (some ⟨w.heap.size,0,none⟩) (l.toNat+src.len ρ) cp) (w.drew.alloc ob) hg ⟨⟨by rw[e1];omega,by rw[e2];omega,?_,?_⟩,rfl⟩ (Rel.step hA hu hg ?_ _ _ _ _ ?_)⟩
            .simp only[TV.ev,SV.ev,CV.ev,aj,ai];have hoo:aA (ρ.i b) o=some ⟨(ρ.i b).toNat,o.toNat,none⟩:=au hpos;rw[hoo];exact hr
            .rw[e1,e2,e3,au (by omega)];simpa using ho
            .intro b' hb';rw[e3]at hb';rw[e1,Hl.dH.1 hb'];simp
            .refine hA.toMRel.add rfl rfl rfl (by simp) (fun b' hb'=>RowKit.Below.heap_alloc w.drew _ b' hb') (Mem.cx hg (St.dn hu)) ?_ trivial ?_
             .show(ρ'.h st.nv).sub _;rw[e3];intro b' o' hb';obtain⟨rfl,rfl⟩:=Hl.mZ hb';exact heap_alloc_new w.drew _
             .intro b' hb';have hb':(ρ'.h st.nv).mem b':=hb';rw[e3]at hb';rw[Hl.dH.1 hb'];exact ZB _
            .intro u hu';cases hu';simp only[TV.ev,SV.ev,CV.ev,aj,ai,e1,e2,dZ,cR hg hup.2,s4];rw[au (by omega)];simp;omega
           .cases h
         .cases h
        .cases h
      .cases h
     .cases h
    .cases h
   .cases h
  .cases h
 .cases h
end
section
variable {P:Program} {C:Ctx} {ms:Nat->Nat} {S:Nat->Prop} {w0:World} {ρ ρ':Env} {st:St} {mem mem':Mem} {a:Act} {w w':World}
def Env.shift (ρ r:Env) (n:Nat) (hs:Nat->Hl):Env where
 i:=fun k=>if n<=k then r.i (k-n)else ρ.i k
 b:=fun k=>if n<=k then r.b (k-n)else ρ.b k
 s:=fun k=>if n<=k then r.s (k-n)else ρ.s k
 v:=fun k=>if n<=k then r.v (k-n)else ρ.v k
 h:=fun k=>if n<=k then hs (k-n)else ρ.h k
theorem oz (ρ r:Env) (n:Nat) (hs:Nat->Hl):ah n ρ (ρ.shift r n hs) :=
 ⟨fun k hk=>Zo (by omega),fun k hk=>Zo (by omega),fun k hk=>Zo (by omega),fun k hk=>Zo (by omega),fun k hk=>Zo (by omega)⟩
theorem Im (ρ r:Env) (n:Nat) (hs:Nat->Hl) (k:Nat):(ρ.shift r n hs).h (n+k)=hs k:=by simp [Env.shift]
section
variable (ρ r:Env) (n:Nat) (hs:Nat->Hl)
theorem vo (m:Nat) (k:Ck):(k.cv (n+m)).ev (ρ.shift r n hs)=(k.cv m).ev r:=by
 have e:∀ j,n<=n+m+j:=fun j=>by omega
 have d:∀ j,n+m+j-n=m+j:=fun j=>by omega
 have e0:n<=n+m:=by omega
 have d0:n+m-n=m:=by omega
 cases k<;>simp [Ck.cv,CV.ev,aj,cn,av,Env.shift,e,d,e0,d0]<;>rfl
theorem kC:∀ (ks:List Ck) (m:Nat),(al (n+m) ks).map (CV.ev (ρ.shift r n hs))=(al m ks).map (CV.ev r)
 | [],_=>rfl
 | k::ks,m=>by simp only[al,Zf,vo,aaD,kC ks (m+k.len)]
theorem Co (m:Nat) (c:Cp):(c.sv (n+m)).ev (ρ.shift r n hs)=(c.sv m).ev r:=by
 cases c with
 | one k=>exact vo ρ r n hs m k
 | agg ks=>simp only[Cp.sv,SV.ev,kC]
theorem tA:∀ (l:List Cp) (m:Nat),(bf (n+m) l).map (SV.ev (ρ.shift r n hs))=(bf m l).map (SV.ev r)
 | [],_=>rfl
 | c::l,m=>by simp only[bf,Zf,Co,aaD,tA l (m+c.len)]
theorem qS (m:Nat) (k:Ck):il (n+m) (ρ.shift r n hs) k↔il m r k:=by
 have e:∀ j,n<=n+m+j:=fun j=>by omega
 have d:∀ j,n+m+j-n=m+j:=fun j=>by omega
 have e0:n<=n+m:=by omega
 have d0:n+m-n=m:=by omega
 cases k<;>simp [il,Env.shift,e,d,e0,d0]
theorem pH:∀ (ks:List Ck) (m:Nat),dd (n+m) ks (ρ.shift r n hs)↔dd m ks r
 | [],_=>abX
 | k::ks,m=>by simp only[dd,qS,aaD,pH ks (m+k.len)]
theorem pJ:∀ (l:List Cp) (m:Nat),fg (n+m) l (ρ.shift r n hs)↔fg m l r
 | [],_=>abX
 | c::l,m=>by
  have h:EE (n+m) (ρ.shift r n hs) c↔EE m r c:=by
   cases c with
   | one k=>exact qS ρ r n hs m k
   | agg ks=>exact pH ρ r n hs ks m
  simp only[fg,h,aaD,pJ l (m+c.len)]
theorem EF (l:List Cp):(cu n l).ev (ρ.shift r n hs)=(cu 0 l).ev r:=by
 unfold cu;split
 .exact Co ρ r n hs 0 _
 .have:=tA ρ r n hs l 0;rw[Zp]at this;simp only[TV.ev,this]
end
theorem xS (mem:Mem) (ps:List (Nat×bx)) (q:Nat):(oy mem ps)[q]?=(mem[q]?).map fun r=>match ps.find? fun x=>x.1==q with | some x=>x.2 | none=>r:=by
 unfold oy;exact mN
theorem pV (mem:Mem) (ps:List (Nat×bx)):(oy mem ps).length=mem.length:=by simp [oy]
theorem By {args:List TV} {s:Ul} {p:Nat} {r:bx} (h:Gk args mem s=some (p,r)):mem[p]?=some r/\r.own=true:=by
 unfold Gk at h;split at h
 .split at h
  .split at h
   .rename_i hp;split at h
    .cases h;exact⟨bQ hp,‹_›⟩
    .cases h
   .cases h
  .cases h
 .split at h
  .split at h
   .split at h
    .split at h
     .rename_i hp;split at h
      .cases h;exact⟨bQ hp,‹_›⟩
      .cases h
     .cases h
    .cases h
   .split at h
    .split at h
     .rename_i hp;split at h
      .cases h;exact⟨bQ hp,‹_›⟩
      .cases h
     .cases h
    .cases h
   .cases h
  .cases h
 .split at h
  .split at h
   .split at h
    .split at h
     .split at h
      .split at h
       .rename_i hp;split at h
        .cases h;exact⟨bQ hp,‹_›⟩
        .cases h
       .cases h
      .cases h
     .cases h
    .cases h
   .cases h
  .cases h
theorem pU {mem:Mem} {r:Nat×bx} (h:mem[r.1]?=some r.2):mem[(pe mem r).1]?=some (pe mem r).2\/(pe mem r=(mem.length,.dead)):=by
 unfold pe;split
 .split
  .split
   .rename_i q hp;left;exact bQ (p:=q.1) (r:=q.2) hp
   .right;rfl
  .right;rfl
 .split
  .left;exact h
  .split
   .rename_i q hp;left;have:=(jD (q:=q.1) (r:=q.2) hp).2;simpa using this
   .left;exact h
 .left;exact h
theorem tq:∀ {mem:Mem} {t:TypeId} {k:Nat} {r:Nat×bx},tp mem t k=some r->k<=r.1/\mem[r.1-k]?=some r.2
 | [],_,_,_,h=>by simp [tp]at h
 | s::m,t,k,r,h=>by
  have step:∀ {r},tp m t (k+1)=some r->k<=r.1/\(s::m)[r.1-k]?=some r.2:=fun {r} h=>by
   obtain⟨h1,h2⟩:=tq h;refine⟨by omega,?_⟩;rw[show r.1-k=(r.1-(k+1))+1 by omega,Z3];exact h2
  cases s with
  | bD a l T =>
   simp only[tp]at h;split at h
   .rename_i r' hr;cases h;exact step hr
   .split at h
    .cases h;exact⟨ZB _,by simp⟩
    .cases h
  | _=>exact step h
theorem tW (args:List TV) (mem:Mem) (i:Nat):mem[(tV args mem i).1]?=some (tV args mem i).2\/(tV args mem i=(mem.length,.dead)):=by
 unfold tV;by_cases h7:7000000<=i
 .rw[ZA h7];cases hp:tp mem (i-7000000) 0 with
  | some r=>left;have:=(tq hp).2;simpa using this
  | none=>right;rfl
 rw[Zo h7];by_cases h6:6000000<=i
 .rw[ZA h6];cases hp:mem[i-6000000]? with
  | some r=>left;exact hp
  | none=>right;rfl
 rw[Zo h6];split
 .split
  .split
   .split
    .split
     .rename_i r hp;left;exact bQ (p:=r.1) (r:=r.2) hp
     .right;rfl
    .right;rfl
   .split
    .rename_i r hp;left;exact bQ (p:=r.1) (r:=r.2) hp
    .right;rfl
   .right;rfl
  .right;rfl
 split
 .split
  .split
   .split
    .rename_i r hp;exact pU (bQ (p:=r.1) (r:=r.2) hp)
    .right;rfl
   .right;rfl
  .right;rfl
 split
 .split
  .split
   .rename_i r hp;exact pU (bQ (p:=r.1) (r:=r.2) hp)
   .right;rfl
  .right;rfl
 split
 .split
  .rename_i r hp;left;exact bQ (p:=r.1) (r:=r.2) hp
  .right;rfl
 split
 .split
  .split
   .split
    .rename_i r hp;left;exact bQ (p:=r.1) (r:=r.2) hp
    .right;rfl
   .right;rfl
  .right;rfl
 split
 .split
  .split
   .split
    .rename_i r hp;left;exact bQ (p:=r.1) (r:=r.2) hp
    .right;rfl
   .right;rfl
  .right;rfl
 split
 .split
  .split
   .split
    .split
     .rename_i r hp;left;exact bQ (p:=r.1) (r:=r.2) hp
     .right;rfl
    .right;rfl
   .rename_i r _ hp;left;exact bQ (p:=r.1) (r:=r.2) hp
   .right;rfl
  .right;rfl
 split
 .split
  .split
   .split
    .rename_i r hp;left;exact bQ (p:=r.1) (r:=r.2) hp
    .right;rfl
   .right;rfl
  .right;rfl
 split
 .split
  .rename_i r hp;left;have:=(jD (q:=r.1) (r:=r.2) hp).2;simpa using this
  .right;rfl
 .split
  .split
   .rename_i r hp;left;exact bQ (p:=r.1) (r:=r.2) hp
   .right;rfl
  .right;rfl
theorem BY {α β:Type} {f:α->Option β} : ∀ {l:List α} {m:List β},ga (l.map f)=some m->m.length=l.length/\∀ x∈m,∃ y∈l,f y=some x:=by
 intro l m h;obtain⟨h1,h2⟩:=ky h;refine⟨by simpa using h1,fun x hx=>?_⟩;obtain⟨j,hj⟩:=Z7 hx;have:=h2 j x hj;rw[Zs,Zk]at this;obtain⟨y,hy,e⟩:=this;exact⟨y,Zb hy,e⟩
theorem EP {ps:List (Nat×bx)} (hn:(ps.map (·.1)).Nodup) {q:Nat×bx} (hq:q∈ps):ps.find? (fun x=>x.1==q.1)=some q:=by
 induction ps with
 | nil=>cases hq
 | cons x l ih =>
  rw[Zf,List.nodup_cons]at hn;rw[ab3];rcases Zl.1 hq with rfl | hq
  .simp
  .have:¬x.1=q.1:=fun e=>hn.1 (e▸abK hq);have hb:(x.1==q.1)=false:=by simpa using this
   rw[hb];exact ih hn.2 hq
theorem Cc (hΓ:∀ s∈C.Γ,s.OK P) (hA:Rel S w0 ρ st a w) (hu:st.upto st.nv=true) {f:FuncId} {args:List TV} {d:Option Tmp} {R:XR} (h:KJ C.Γ st f args d=some R) (hn:R.need.holds C ms ρ)
 {K:Act->World->Prop} (hK:Fin S w0 C ρ st a d R K):Calls P f (args.map (TV.ev ρ)).toArray w fun e w'=>∃ v,e=.returned v/\K (a.put d v) w':=by
 unfold KJ at h;split at h
 .rename_i j hj;split at h
  .rename_i s hs;split at h
   .rename_i own hown;simp only at h;split at h
    .rename_i hnd;cases h;simp only[Zg,Zc,ZF,aaf]at hnd;obtain⟨hnd,hrd⟩:=hnd;have hf:s.fn=f:=by
      have:=List.findIdx?_eq_some_iff_getElem.1 hj;obtain⟨hlt,hp,_⟩:=this;rw[Y8 hlt]at hs;cases hs;simpa using hp
     obtain⟨hlen,hsel⟩:=BY hown;have hm:=hA.toMRel;have hpos:∀ q∈own,st.mem[q.1]?=some q.2/\q.2.own=true:=fun q hq=>by
      obtain⟨y,_,hy⟩:=hsel q hq;exact By hy
     have hpos':∀ (i:Nat) q,own[i]?=some q->st.mem[q.1]?=some q.2/\q.2.own=true:=fun i q hq=>hpos q (Zb hq);have hne:∀ (i k:Nat) q q',i≠k->own[i]?=some q->own[k]?=some q'->q.1≠q'.1:=by
      intro i k q q' hik hi hk e;have h1:(own.map (·.1))[i]?=some q.1:=by rw[Zs,hi];rfl
      have h2:(own.map (·.1))[k]?=some q.1:=by rw[Zs,hk,e];rfl
      exact hik ((List.getElem?_inj (Zi.1 h1).1 hnd).1 (h1.trans h2.symm))
     let Hs:=own.map (fun q=>q.2.hl ρ)
     let Rs:=(s.rd.map (tV args st.mem)).map (fun q=>q.2.hl ρ)
     have hn:s.pre (args.map (TV.ev ρ)) Hs Rs:=by
      have hn:(X.call j st.nv args (own.map (·.2)) ((s.rd.map (tV args st.mem)).map (·.2))).pre C ρ:=hn;simp only[X.pre,hs]at hn;simpa [Hs,Rs,Function.comp_def] using hn
     have hcall:=hΓ s (Zb hs) w (args.map (TV.ev ρ)) Hs Rs (by simp [Hs,hlen]) (by simp [Rs])
      (fun H hH=>by obtain⟨q,hq,rfl⟩:=ZV.1 hH;exact hm.sub _ (Zb (hpos q hq).1))
      (fun H hH=>by
       obtain⟨q,hq,rfl⟩:=ZV.1 hH;obtain⟨i,_,rfl⟩:=ZV.1 hq;rcases tW args st.mem i with h | h
       .exact hm.sub _ (Zb h)
       .rw[h];intro b o hb;cases hb)
      (fun p q H K hpq hp hq=>by
       simp only[Hs,Zs,Zk]at hp hq;obtain⟨x,hx,rfl⟩:=hp;obtain⟨y,hy,rfl⟩:=hq;exact hm.cG _ _ _ _ (hne p q x y hpq hx hy) (hpos' p x hx).1 (hpos' q y hy).1 (hpos' p x hx).2)
      (fun H hH K hK'=>by
       obtain⟨q,hq,rfl⟩:=ZV.1 hH;obtain⟨r,hr,rfl⟩:=ZV.1 hK';obtain⟨i,hi,rfl⟩:=ZV.1 hr;rcases tW args st.mem i with h | h
       .refine hm.cG _ _ _ _ (fun e=>?_) (hpos q hq).1 h (hpos q hq).2;have:=hrd _ hr;rw[<-e]at this;have hc:(own.map (·.1)).contains q.1=true:=aan.2 (abK hq);rw[hc]at this;cases this
       .rw[h];rintro b ⟨_,y⟩;cases y)
      hn
     rw[hf]at hcall;refine hcall.mono fun e w' ⟨r,Hs',F,he,hnorm,ht,hpost⟩=>⟨_,he,?_⟩;have hl':Hs'.length=own.length:=by rw[ht.len];simp [Hs]
     let ρ':=ρ.shift r st.nv (fun k=>if k<own.length then Hs'.getD k Hl.none else F)
     have hg:ah st.nv ρ ρ':=oz _ _ _ _;have eh:∀ k,k<own.length->ρ'.h (st.nv+k)=Hs'.getD k Hl.none:=fun k hk=>by rw[Im];exact ZA hk
     have eF:ρ'.h (st.nv+own.length)=F:=by rw[Im];exact Zo (by omega)
     have hnew:newHs ρ' st.nv own.length=Hs':=by
      apply ZN;intro k;unfold newHs;rw[Zs];by_cases hk:k<own.length
      .rw[ZI hk];simp only[ZS];rw[eh k hk,Zt,Y8 (by omega)];rfl
      .rw[Zv (by simp;omega),Zv (by omega)];rfl
     have etv:(cu st.nv s.res).ev ρ'=(cu 0 s.res).ev r:=EF _ _ _ _ _
     let nps:=own.zipIdx.map fun q=>(q.1.1,q.1.2.nj (st.nv+q.2))
     have hnps:nps.map (·.1)=own.map (·.1):=by
      simp only[nps,aaF];have:((fun(x:Nat×bx)=>x.1)∘fun(q:(Nat×bx)×Nat)=>(q.1.1,q.1.2.nj (st.nv+q.2)))=(fun(x:Nat×bx)=>x.1)∘Prod.fst:=by funext q;rfl
      rw[this,<-aaF]
      congr 1
      exact List.zipIdx_map_fst 0 own
     have hturn:∀ (k:Nat) q,own[k]?=some q->(oy st.mem nps)[q.1]?=some (q.2.nj (st.nv+k)):=by
      intro k q hq;have hmem:(q.1,q.2.nj (st.nv+k))∈nps:=ZV.2 ⟨(q,k),List.mk_mem_zipIdx_iff_getElem?.2 hq,rfl⟩;rw[xS,(hpos' k q hq).1];have:=EP (by rw[hnps];exact hnd) hmem;simp only at this;simp [this]
     have hkeep:∀ (p:Nat),(∀ q∈own,q.1≠p)->(oy st.mem nps)[p]?=st.mem[p]?:=by
      intro p hp;rw[xS];have:nps.find? (fun x=>x.1==p)=none:=by
       rw[aa2];intro x hx;have:x.1∈own.map (·.1):=by rw[<-hnps];exact abK hx
       obtain⟨q,hq,e⟩:=ZV.1 this;simpa [<-e] using hp q hq
      rw[this];simp
     have hturnhl:∀ (k:Nat) q,own[k]?=some q->(q.2.nj (st.nv+k)).hl ρ'=Hs'.getD k Hl.none/\(q.2.nj (st.nv+k)).pos ρ':=by
      intro k q hq;have hk:k<own.length:=(Zi.1 hq).1;have:=(hpos' k q hq).2;cases hr:q.2 with
      | bD b l T=>exact⟨eh k hk,trivial⟩
      | hp kk vers tags links=>exact⟨eh k hk,trivial⟩
      | ro kk tags any=>rw[hr]at this;cases this
      | dead=>exact⟨eh k hk,trivial⟩
     have hsubH:∀ k,k<own.length->Hs'.getD k Hl.none∈Hs':=fun k hk=>by
      rw[Zt,Y8 (by omega)];exact aay _
     have hgetH:∀ k,k<own.length->Hs'[k]?=some (Hs'.getD k Hl.none):=fun k hk=>by
      rw[Zt,Y8 (by omega)];rfl
     have hU:∀ b,(∃ H∈Hs,H.mem b)->∃ q∈own,(q.2.hl ρ).mem b:=fun b ⟨H,hH,hb⟩=>by
      obtain⟨q,hq,rfl⟩:=ZV.1 hH;exact⟨q,hq,hb⟩
     have place:∀ (p:Nat) x,(oy st.mem nps++(if br 0 s.res=[]then []else [bx.hp (st.nv+own.length) [] (br st.nv s.res) (lx args s.links)]))[p]?=some x ->
      (∃ (k:Nat) (q:Nat×bx),own[k]?=some q/\q.1=p/\x=q.2.nj (st.nv+k))\/((∀ q∈own,q.1≠p)/\p<st.mem.length/\st.mem[p]?=some x) \/
      (p=st.mem.length/\br 0 s.res≠[]/\x=bx.hp (st.nv+own.length) [] (br st.nv s.res) (lx args s.links)):=by
      intro p x hp;rw[abc]at hp;split at hp
      .rename_i hlt;by_cases hq:∃ q∈own,q.1=p
       .obtain⟨q,hq,rfl⟩:=hq;obtain⟨k,hk⟩:=Z7 hq;rw[hturn k q hk]at hp;exact Or.inl ⟨k,q,hk,rfl,(Z1 hp).symm⟩
       .have hq':∀ q∈own,q.1≠p:=fun q hm e=>hq ⟨q,hm,e⟩;rw[hkeep p hq']at hp;rw[pV]at hlt;exact Or.inr (Or.inl ⟨hq',hlt,hp⟩)
      .rename_i hge;rw[pV]at hp hge;split at hp
       .simp at hp
       .rename_i hr;have:p-st.mem.length=0:=by
         rcases aa3 (p-st.mem.length)with h0 | h0
         .exact h0
         .rw[Zv (by simp;omega)]at hp;cases hp
        rw[this]at hp;simp only[Z6,Zj]at hp;exact Or.inr (Or.inr ⟨by omega,hr,hp.symm⟩)
     have hownlt:∀ q∈own,q.1<st.mem.length:=fun q hq=>(Zi.1 (hpos q hq).1).1;refine hK ρ' _ w' hg ⟨?_,rfl⟩ (Rel.step hA hu hg ?_ _ _ _ _ (fun y hy=>by cases hy;exact etv.symm))
     .show X.rel C ρ ρ' (.call j st.nv args (own.map (·.2)) ((s.rd.map (tV args st.mem)).map (·.2)));simp only[X.rel,hs];refine⟨F,?_,fun _=>by rw[ZD];exact eF,(pJ ρ r st.nv _ s.res 0).2 hnorm⟩;rw[etv,ZD,hnew];simpa [Hs,Rs,Function.comp_def] using hpost
     .refine hm.te (fun b=>∃ H∈Hs,H.mem b) (fun p=>(∃ q∈own,q.1=p)\/p=st.mem.length) (fun b hb=>?_) ht.os ht.tape ht.output ht.size (fun b hl hb=>ht.block b hl (fun H hH hm=>hb ⟨H,hH,hm⟩)) ?_ ?_ ?_
      .obtain⟨q,hq,hb⟩:=hU b hb;exact⟨q.2,Zb (hpos q hq).1,(hpos q hq).2,hb⟩
      .intro p x hp hnw;rcases place p x hp with ⟨k,q,hk,rfl,_⟩ | ⟨h1,h2,h3⟩ | ⟨h1,_⟩
       .exact absurd (Or.inl ⟨q,Zb hk,rfl⟩) hnw
       .refine⟨h3,Mem.cx hg (St.dn hu) x (Zb h3),fun b hb hu'=>?_⟩;obtain⟨q,hq,hqb⟩:=hU b hu';exact hm.cG _ _ _ _ (h1 q hq) (hpos q hq).1 h3 (hpos q hq).2 b ⟨hqb,hb⟩
       .exact absurd (Or.inr h1) hnw
      .intro p x hp hnw;rcases place p x hp with ⟨k,q,hk,rfl,rfl⟩ | ⟨h1,h2,h3⟩ | ⟨h1,h2,rfl⟩
       .have qH:=(Zi.1 hk).1;obtain⟨e1,e2⟩:=hturnhl k q hk;rw[e1];exact⟨⟨ht.sub _ (hsubH k qH),e2⟩,fun b hb=>ht.dom _ (hsubH k qH) b hb⟩
       .rcases hnw with ⟨q,hq,e⟩ | e
        .exact absurd e (h1 q hq)
        .omega
       .have e:(bx.hp (st.nv+own.length) [] (br st.nv s.res) (lx args s.links)).hl ρ'=F:=eF;rw[e];exact⟨⟨ht.fsub,trivial⟩,fun b hb=>ht.fdom b hb⟩
      .intro p p' x y hne' hnw hnw' hp hp' _;rcases place p x hp with ⟨k,q,hk,rfl,rfl⟩ | ⟨h1,h2,h3⟩ | ⟨h1,h2,rfl⟩
       .have qH:=(Zi.1 hk).1;rw[(hturnhl k q hk).1];rcases place p' y hp' with ⟨k',q',hk',rfl,rfl⟩ | ⟨h1',h2',h3'⟩ | ⟨h1',h2',rfl⟩
        .have hkl':=(Zi.1 hk').1;rw[(hturnhl k' q' hk').1];exact ht.cG k k' _ _ (fun e=>by subst e;rw[hk]at hk';cases hk';exact hne' rfl) (hgetH k qH) (hgetH k' hkl')
        .rcases hnw' with ⟨q',hq',e⟩ | e
         .exact absurd e (h1' q' hq')
         .omega
        .have e:(bx.hp (st.nv+own.length) [] (br st.nv s.res) (lx args s.links)).hl ρ'=F:=eF;rw[e];exact ht.fdis _ (hsubH k qH)
       .rcases hnw with ⟨q,hq,e⟩ | e
        .exact absurd e (h1 q hq)
        .omega
       .have e:(bx.hp (st.nv+own.length) [] (br st.nv s.res) (lx args s.links)).hl ρ'=F:=eF;rw[e];rcases place p' y hp' with ⟨k',q',hk',rfl,rfl⟩ | ⟨h1',h2',h3'⟩ | ⟨h1',h2',rfl⟩
        .have hkl':=(Zi.1 hk').1;rw[(hturnhl k' q' hk').1];exact Hl.lJ (ht.fdis _ (hsubH k' hkl'))
        .rcases hnw' with ⟨q',hq',e⟩ | e
         .exact absurd e (h1' q' hq')
         .omega
        .exact absurd (h1.trans h1'.symm) hne'
    .cases h
   .cases h
  .cases h
 .cases h
end
section
variable {P:Program} {C:Ctx} {ms:Nat->Nat} {S:Nat->Prop} {w0:World} {ρ ρ':Env} {st:St} {mem mem':Mem} {a:Act} {w w':World}
theorem GW (v:Value):∃ q:Env,((km v).cv 0).ev q=v:=by
 let e0:Env:=⟨fun _=>0,fun _=>false,fun _=>.empty,fun _=>.tuple #[],fun _=>Hl.none⟩
 cases v with
 | int k n=>exact⟨{e0 with i:=fun _=>n},rfl⟩
 | bool b=>exact⟨{e0 with b:=fun _=>b},rfl⟩
 | string s=>exact⟨{e0 with s:=fun _=>s},rfl⟩
 | pointer p =>
  obtain⟨x,y,h,_⟩:=pn p;exact⟨{e0 with i:=fun k=>if k=0 then x else y},by simp [km,Ck.cv,CV.ev,aj,h]⟩
 | slice p n c =>
  obtain⟨x,y,h,_⟩:=pn p;exact⟨{e0 with i:=fun k=>if k=0 then x else if k=1 then y else if k=2 then n else c},by simp [km,Ck.cv,CV.ev,aj,h]⟩
 | map r =>
  cases r with
  | none=>exact⟨{e0 with i:=fun _=> -1},rfl⟩
  | some r =>
   refine⟨{e0 with i:=fun _=>r},?_⟩;have e:¬((r:Int)= -1):=by omega
   simp only[km,Ck.cv,CV.ev,aj,e,aaG,Y7]
 | _=>exact⟨⟨fun _=>0,fun _=>false,fun _=>.empty,fun _=>_,fun _=>Hl.none⟩,rfl⟩
theorem GX (k:Ck) (n:Nat):(k.cv n).upto (n+k.len)=true:=by
 cases k<;>simp [Ck.cv,CV.upto,E.upto,Ck.len]
theorem du:∀ (ks:List Ck) (n:Nat),(al n ks).all (·.upto (n+bR ks))=true
 | [],_=>rfl
 | k::ks,n=>by
  simp only[al,ace,Zg];have e:n+bR (k::ks)=n+k.len+bR ks:=by simp [bR];omega
  rw[e];refine⟨?_,du ks (n+k.len)⟩;have:∀ m,n+k.len<=m->(k.cv n).upto m=true:=by
   intro m hm;cases k<;>simp [Ck.cv,CV.upto,E.upto,Ck.len]at hm ⊢<;>omega
  exact this _ (by omega)
theorem KP:∀ (vs:List Value),∃ q:Env,(al 0 (vs.map km)).map (CV.ev q)=vs
 | []=>⟨⟨fun _=>0,fun _=>false,fun _=>.empty,fun _=>.tuple #[],fun _=>Hl.none⟩,rfl⟩
 | v::vs=>by
  obtain⟨q1,h1⟩:=GW v;obtain⟨q2,h2⟩:=KP vs;refine⟨q1.shift q2 (km v).len (fun _=>Hl.none),?_⟩;simp only[Zf,al,ZM]
  congr 1
  .rw[CV.cx (oz q1 q2 (km v).len _) _ (by have:=GX (km v) 0;rwa[ZM]at this)];exact h1
  .have:=kC q1 q2 (km v).len (fun _=>Hl.none) (vs.map km) 0;rw[Zp]at this;rw[this];exact h2
theorem JT {ks:List Ck} {agg:Bool} {v:Value} (h:lS ks agg v):∃ q:Env,(jZ 0 ks agg).ev q=v:=by
 unfold lS at h;unfold jZ;split at h
 .rename_i ha;obtain⟨cs,rfl,hk⟩:=h;obtain⟨q,hq⟩:=KP cs.toList;rw[hk]at hq;exact⟨q,by rw[ZA ha];simp only[SV.ev,hq]⟩
 .rename_i ha;obtain⟨k,rfl,rfl⟩:=h;obtain⟨q,hq⟩:=GW v;exact⟨q,by rw[Zo ha];exact hq⟩
theorem AU (ρ r:Env) (n:Nat) (hs:Nat->Hl) (ks:List Ck) (agg:Bool):(jZ n ks agg).ev (ρ.shift r n hs)=(jZ 0 ks agg).ev r:=by
 have h1:=kC ρ r n hs ks 0;rw[Zp]at h1;unfold jZ;split
 .simp only[SV.ev,h1]
 .split
  .rename_i k;exact vo ρ r n hs 0 k
  .simp only[SV.ev,h1]
theorem AT {n:Nat} {ks:List Ck} {agg:Bool} (hg:ah (n+bR ks) ρ ρ'):(jZ n ks agg).ev ρ'=(jZ n ks agg).ev ρ:=by
 have h1:=CV.gn hg _ (du ks n);unfold jZ;split
 .simp only[SV.ev,h1]
 .split
  .rename_i k;refine CV.cx hg _ ?_;have:=GX k n;simpa [bR] using this
  .simp only[SV.ev,h1]
theorem findNow_spec {kind:TypeDesc} {key:Value} : ∀ (l:List MapEntry) (i0 i:Nat) (v:Value),Instr.findNow kind key l i0=some (some (i,v))->i0<=i/\∃ e,l[i-i0]?=some e/\e.val=v/\Instr.sameNow kind key e.key=some true
 | [],_,_,_,h=>by simp [Instr.findNow]at h
 | e::l,i0,i,v,h=>by
  unfold Instr.findNow at h;split at h
  .rename_i hs;simp only[Zj,Z0]at h;obtain⟨rfl,rfl⟩:=h;exact⟨ZB _,e,by simp,rfl,hs⟩
  .obtain⟨h1,e',h2,h3,h4⟩:=findNow_spec l (i0+1) i v h;exact⟨by omega,e',by rw[show i-i0=(i-(i0+1))+1 by omega,Z3];exact h2,h3,h4⟩
  .cases h
theorem wA {t:TypeId} {kd:Kd} (h:yV P t=some kd):(∃ k,kd=.int k/\P.underlying t=some (.int k))\/(kd=.str/\P.underlying t=some .string):=by
 unfold yV at h;split at h
 .rename_i k hu;cases h;exact Or.inl ⟨k,rfl,hu⟩
 .rename_i hu;cases h;exact Or.inr ⟨rfl,hu⟩
 .cases h
theorem qR {t:TypeId} {kd:Kd} (h:yV P t=some kd) (e:Bool) (v:Value):(Instr.checkKey e 10000 t v).run P w=.ok () w:=by
 unfold Instr.checkKey;rcases wA h with ⟨k,_,hu⟩ | ⟨_,hu⟩
 .simp only[Sem.run_bind,run_underlying hu,Result.andThen_ok];cases v<;>rfl
 .simp only[Sem.run_bind,run_underlying hu,Result.andThen_ok];cases v<;>rfl
theorem tD {t:TypeId} {kd:Kd} (h:yV P t=some kd) {key:Value} {es:Array MapEntry} {r:Option (Nat×Value)} (hf:kI kd key es=some r):(Instr.findKey t key es.toList).run P w=.ok r w:=by
 unfold Instr.findKey;rcases wA h with ⟨k,rfl,hu⟩ | ⟨rfl,hu⟩
 .simp only[Sem.run_bind,run_underlying hu,Result.andThen_ok];simp only[kI]at hf;rw[hf];rfl
 .simp only[Sem.run_bind,run_underlying hu,Result.andThen_ok];simp only[kI]at hf;rw[hf];rfl
theorem qe {r:Nat} {es:Array MapEntry} {c:Nat} (h:w.heap[r]?=some (.map es c)):(getObj r).run P w=.ok (.map es c) w:=by
 simp [getObj,Sem.run,h]
theorem qy {r:Nat} {es:Array MapEntry} {c:Nat} {o:Obj} (h:w.heap[r]?=some (.map es c)):(setObj r o).run P w=.ok () {w with heap:=w.heap.setIfInBounds r o}:=by
 simp [setObj,Sem.run,h]
theorem ue {kd:Kd} {kind:TypeDesc} {key old:Value} (hk:(∃ k,kd=.int k/\kind=.int k)\/(kd=.str/\kind=.string)) (hs:Instr.sameNow kind key old=some true):Instr.sameBits 10000 old key=true:=by
 rcases hk with ⟨k,rfl,rfl⟩ | ⟨rfl,rfl⟩
 .unfold Instr.sameNow at hs;split at hs
  .split at hs
   .rename_i k1 a k2 b hk;simp only[Zj,abT]at hs;subst hk;subst hs;simp [Instr.sameBits]
   .cases hs
  .cases ‹TypeDesc.int k=.string›
  .cases ‹TypeDesc.int k=.bool›
  .cases hs
 .unfold Instr.sameNow at hs;split at hs
  .cases ‹TypeDesc.string=.int _›
  .simp only[Zj]at hs;rename_i a b _;rw[Ei,Zc]at hs;subst hs;simp [Instr.sameBits,Ei]
  .cases ‹TypeDesc.string=.bool›
  .cases hs
theorem Hl.Gm {h:Hl} {x b:Nat} {o:Obj} (hx:h.mem x):(h.setObj x o).mem b↔h.mem b:=by
 unfold Hl.mem Hl.setObj;split
 .rename_i e;subst e;exact⟨fun _=>hx,fun _=>rfl⟩
 .rfl
theorem Gn {h:Hl} (hs:h.sub w) {x:Nat} {o:Obj} (hx:h.mem x):(h.setObj x o).sub {w with heap:=w.heap.setIfInBounds x o}:=by
 intro b o' hb;unfold Hl.setObj at hb;have hlt:=Hl.sub_lt hs hx;split at hb
 .rename_i e;subst e;cases hb;simp [hlt]
 .rename_i e;show(w.heap.setIfInBounds x o)[b]?=_;rw[aaw (fun h=>e h.symm)];exact hs b o' hb
theorem Il (hA:Rel S w0 ρ st a w) (hu:st.upto st.nv=true) {p h:Nat} {vers:List Nat} {tags links:List E} {x:Nat} {o:Obj} (hp:st.mem[p]?=some (.hp h vers tags links)) (hx:(ρ.h h).mem x) :
 ah st.nv ρ (ρ.kj st.nv ((ρ.h h).setObj x o))/\MRel S w0 (ρ.kj st.nv ((ρ.h h).setObj x o)) (st.mem.set p (.hp st.nv (h::vers) tags links)) {w with heap:=w.heap.setIfInBounds x o}:=by
 have hg:ah st.nv ρ (ρ.kj st.nv ((ρ.h h).setObj x o)):=eD _ _ _ (ZB _);have e:(ρ.kj st.nv ((ρ.h h).setObj x o)).h st.nv=(ρ.h h).setObj x o:=fI _ _ _;have hsub:(ρ.h h).sub w:=hA.sub _ (Zb hp);refine⟨hg,hA.toMRel.set hp rfl rfl rfl rfl (by simp) (fun b _ hn=>?_) (Mem.cx hg (St.dn hu)) ?_ trivial ?_⟩
 .show(w.heap.setIfInBounds x o)[b]?=_;rw[aaw (fun e=>hn (by subst e;exact hx))]
 .show((ρ.kj st.nv ((ρ.h h).setObj x o)).h st.nv).sub _;rw[e];exact Gn hsub hx
 .intro b hb;have hb:((ρ.kj st.nv ((ρ.h h).setObj x o)).h st.nv).mem b:=hb;rw[e]at hb;exact Or.inl ((Hl.Gm hx).1 hb)
theorem mM (hA:Rel S w0 ρ st a w) (hu:st.upto st.nv=true) {o:Oper} {R:XR} (h:Jd P st o.op o.dst=some R) (hn:R.need.holds C ms ρ)
 {K:Act->World->Prop} {Q:Exit->Act->World->Prop} (hK:Fin S w0 C ρ st a o.dst R K):o.wp P a w K Q:=by
 unfold Jd at h;split at h
 .rename_i t hop;split at h
  .rename_i kt vt hu';cases h
   let ρ':=(ρ.fq st.nv w.heap.size).kj st.nv (Hl.one w.heap.size (.map #[] 0))
   have hg:ah st.nv ρ ρ':=(cM _ _ _ (ZB _)).trans (eD _ _ _ (ZB _));have e1:ρ'.i st.nv=w.heap.size:=by show(ρ.fq st.nv w.heap.size).i st.nv=_;rw[ll]
   have e3:ρ'.h st.nv=Hl.one w.heap.size (.map #[] 0):=fI _ _ _;have hrun:(execOp a.eval o).run P w=.ok (.value (.map (some w.heap.size))) (w.alloc (.map #[] 0)):=by
    unfold execOp;rw[hop];simp [Instr.makeMap,Sem.run_bind]
   refine eV hrun (hK ρ' _ _ hg ⟨⟨by rw[e1];omega,by rw[e1,Y7];exact e3⟩,rfl⟩ (Rel.step hA hu hg ?_ _ _ _ _ ?_))
   .refine hA.toMRel.add rfl rfl rfl (by simp) (fun b hb=>RowKit.Below.heap_alloc w _ b hb) (Mem.cx hg (St.dn hu)) ?_ trivial ?_
    .show(ρ'.h st.nv).sub _;rw[e3];intro b o hb;obtain⟨rfl,rfl⟩:=Hl.mZ hb;exact heap_alloc_new w _
    .intro b hb;have hb:(ρ'.h st.nv).mem b:=hb;rw[e3]at hb;rw[Hl.dH.1 hb];exact ZB _
   .intro y hy;cases hy;simp only[TV.ev,SV.ev,CV.ev,aj,e1];rw[Zo (by omega)];simp
  .cases h
 .rename_i t m k ok hop;split at h
  .rename_i kt vt hut;split at h
   .rename_i kd z agg x key dQ hz hagg hm hk;split at h
    .rename_i hh zs hfh hlz;by_cases hcond:(LD kd key&&(agg==isAgg z)&&(agg||(z.cells.toList.map km).length==1))=true
     .rw[ZA hcond]at h;have h:=Z1 h;subst h;simp only[Zg]at hcond;obtain⟨⟨hkey,hag⟩,hlen⟩:=hcond;have hsub:=vS hA.toMRel hfh;obtain⟨hx,es,clock,r,hes,hf,hshape⟩:=hn;have em:=bc hA hm;have ek:=bc hA hk;simp only[TV.ev,SV.ev,CV.ev]at em;simp only[TV.ev,SV.ev]at ek;rw[Zo (by omega)]at em;have hw:=hsub _ _ hes;have hzv:zs.ev ρ=z:=by
       have:=HG ρ z;rw[hlz]at this;exact this
      let v:Value:=match r with | some (_,v)=>v | none=>z
      have hsh:lS (z.cells.toList.map km) agg v:=by
       cases r with
       | some p=>exact hshape p.1 p.2 rfl
       | none =>
        show lS _ _ z;unfold lS;cases agg with
        | true =>
         rw[ZA rfl];cases z with
         | agg cs=>exact⟨cs,rfl,rfl⟩
         | _=>simp [isAgg]at hag
        | false =>
         rw[Zo (by simp)];cases z with
         | agg cs=>simp [isAgg]at hag
         | _=>exact⟨_,rfl,rfl⟩
      obtain⟨q,hq⟩:=JT hsh
      let ρ1:=ρ.shift q st.nv (fun _=>Hl.none)
      let ρ':=ρ1.JR (st.nv+bR (z.cells.toList.map km)) r.isSome
      have EZ:ah st.nv ρ ρ1:=oz _ _ _ _;have wh:ah (st.nv+bR (z.cells.toList.map km)) ρ1 ρ':=uV _ _ _ (ZB _);have hg:ah st.nv ρ ρ':=EZ.tr wh;have ev:(jZ st.nv (z.cells.toList.map km) agg).ev ρ'=v:=by
       rw[AT wh,AU];exact hq
      have eb:ρ'.b (st.nv+bR (z.cells.toList.map km))=r.isSome:=by simp [ρ',Env.JR]
      have hrun:(execOp a.eval o).run P w=.ok (.value (if ok then .tuple #[v,.bool r.isSome]else v)) w:=by
       unfold execOp;rw[hop];simp only[Sem.run_bind,em,ek,Instr.lookup,run_underlying hut,Result.andThen_ok,qe hw,Sem.run_pure,qR dQ,tD dQ hf];cases r with
       | some p=>simp only[Sem.run_pure,Result.andThen_ok];rfl
       | none=>simp only[Sem.run_pure,Result.andThen_ok,Sem.run_bind,jN hz];rfl
      refine eV hrun (hK ρ' _ _ hg ⟨?_,rfl⟩ (Rel.step hA hu hg (hA.toMRel.cx (Mem.cx hg (St.dn hu))) _ _ _ _ ?_))
      .intro es' clock' r' h1 h2;rw[hes]at h1;cases h1;rw[hf]at h2;cases h2;refine⟨?_,eb⟩;rw[ev];cases r with
       | some p=>rfl
       | none=>exact hzv.symm
      .intro y hy;cases hy;cases ok with
       | true =>
        have e2:(SV.one (CV.bool (.bvar (st.nv+bR (z.cells.toList.map km))))).ev ρ'=.bool r.isSome:=by show Value.bool (ρ'.b _)=_;rw[eb]
        simp only[ZG,TV.ev,Zf,Zr,ev,e2]
       | false=>simp only[Z5,aaG,TV.ev,ev]
     .rw[Zo hcond]at h;cases h
    .cases h
   .cases h
  .cases h
 .rename_i t m k v hop;split at h
  .rename_i kt vt hut;split at h
   .rename_i kd x key vs dQ hm hk hv;split at h
    .rename_i hkey;split at h
     .rename_i p hh vers tags links hfp;cases h;have hp:=gR hfp;obtain⟨hx,es,clock,r,hes,hf⟩:=hn;have em:=bc hA hm;have ek:=bc hA hk;have ev:=bc hA hv;simp only[TV.ev,SV.ev,CV.ev]at em;simp only[TV.ev,SV.ev]at ek;simp only[TV.ev]at ev;rw[Zo (by omega)]at em;have hsub:(ρ.h hh).sub w:=hA.sub _ (Zb hp);have hw:=hsub _ _ hes;have hxm:(ρ.h hh).mem (aC ρ x).toNat:=by unfold Hl.mem;rw[hes];rfl
      obtain⟨hg,hm'⟩:=Il (o:=qm kd (key.ev ρ) (vs.ev ρ) es clock) hA hu hp hxm;have hrun:(execOp a.eval o).run P w=.ok .skip {w with heap:=w.heap.setIfInBounds (aC ρ x).toNat (qm kd (key.ev ρ) (vs.ev ρ) es clock)}:=by
       unfold execOp;rw[hop];simp only[Sem.run_bind,em,ek,ev,Instr.mapUpdate,run_underlying hut,Result.andThen_ok,qe hw,qR dQ,tD dQ hf];cases r with
       | some q =>
        obtain⟨i,v0⟩:=q;have hsame:Instr.sameBits 10000 (((es[i]?).map (·.key)).getD (key.ev ρ)) (key.ev ρ)=true:=by
         rcases wA dQ with ⟨kk,rfl,_⟩ | ⟨rfl,_⟩
         .obtain⟨_,e,he,_,hs⟩:=findNow_spec _ _ _ _ hf;rw[ab2]at he;have he':es[i]?=some e:=by simpa using he
          rw[he'];exact ue (Or.inl ⟨kk,rfl,rfl⟩) hs
         .obtain⟨_,e,he,_,hs⟩:=findNow_spec _ _ _ _ hf;rw[ab2]at he;have he':es[i]?=some e:=by simpa using he
          rw[he'];exact ue (Or.inr ⟨rfl,rfl⟩) hs
        simp only[Instr.keyThatStays,hsame,ZG,Sem.run_bind,Sem.run_pure,Result.andThen_ok,qy hw,qm,hf]
       | none=>simp only[qy hw,qm,hf,Result.andThen_ok,Sem.run_pure]
      refine yl hrun (hK _ _ _ hg ⟨?_,rfl⟩ (Rel.step hA hu hg hm' _ _ _ _ (fun y hy=>by cases hy)));intro es' clock' h1;rw[hes]at h1;cases h1;exact fI _ _ _
     .cases h
    .cases h
   .cases h
  .cases h
 .rename_i args ats hop;split at h
  .rename_i m t ha hts;split at h
   .rename_i kt vt x hut hm;split at h
    .rename_i p hh vers tags links hfp;cases h;have hp:=gR hfp;obtain⟨hx,es,clock,hes⟩:=hn;have em:=bc hA hm;simp only[TV.ev,SV.ev,CV.ev]at em;rw[Zo (by omega)]at em;have hsub:(ρ.h hh).sub w:=hA.sub _ (Zb hp);have hw:=hsub _ _ hes;have hxm:(ρ.h hh).mem (aC ρ x).toNat:=by unfold Hl.mem;rw[hes];rfl
     obtain⟨hg,hm'⟩:=Il (o:=.map #[] clock) hA hu hp hxm;have ea:args.map a.eval=#[.map (some (aC ρ x).toNat)]:=by
      obtain⟨l⟩:=args;simp only at ha;subst ha;simp [em]
     have et:ats=#[t]:=by obtain⟨l⟩:=ats;simp only at hts;rw[hts]
     have hrun:(execOp a.eval o).run P w=.ok (.value (.tuple #[])) {w with heap:=w.heap.setIfInBounds (aC ρ x).toNat (.map #[] clock)}:=by
      obtain⟨dst,op,ty,pos,af,gd⟩:=o;simp only at hop;subst hop;rw[BigFrame.execOp_builtin,ea,et];unfold builtin;have e5:(Builtin.clear_ #[t] ty #[Value.map (some (aC ρ x).toNat)]).run P w=.ok (.tuple #[]) {w with heap:=w.heap.setIfInBounds (aC ρ x).toNat (.map #[] clock)}:=by
       unfold Builtin.clear_;simp [run_underlying hut,qe hw,qy hw,Sem.run_bind]
      rw[Sem.run_bind,e5];rfl
     refine eV hrun (hK _ _ _ hg ⟨?_,rfl⟩ (Rel.step hA hu hg hm' _ _ _ _ (fun y hy=>by cases hy)));intro es' clock' h1;rw[hes]at h1;cases h1;exact fI _ _ _
    .cases h
   .cases h
  .cases h
 .cases h
end
section
variable {P:Program} {C:Ctx} {ms:Nat->Nat} {S:Nat->Prop} {w0:World} {ρ:Env} {st:St} {mem:Mem} {a:Act} {w:World}
theorem Ht (hA:MRel S w0 ρ mem w) {x:E} {h:Nat} (hf:(Ay mem x).bind (fun r=>r.2.hk)=some h):(ρ.h h).sub w:=by
 cases hq:Ay mem x with
 | none=>rw[hq]at hf;cases hf
 | some r =>
  rw[hq]at hf;obtain⟨q,r⟩:=r;have hp:=gR hq;have hs:=hA.sub _ (Zb hp);cases r<;>simp [bx.hk]at hf
  .subst hf;exact hs
  .subst hf;exact hs
theorem qP {h:Hl} {x y n j:Nat} (hb:cy h x y n=true) (hj:j<n):∃ z,h.cell x (y+j)=some (.int .u8 z):=by
 unfold cy at hb;have:=ZF.1 hb j (ZQ.2 hj);cases hc:h.cell x (y+j)with
 | none=>rw[hc]at this;cases this
 | some v =>
  rw[hc]at this;cases v<;>simp [bY]at this
  subst this;exact⟨_,rfl⟩
theorem KE (hA:MRel S w0 ρ mem w) {q b:Nat} {m:List CV} {T:TypeId} (hq:mem[q]?=some (.bD b m T)) {j:Nat} {c:CV} (hc:m[j]?=some c):w.cell? ⟨(ρ.i b).toNat,j,none⟩=some (c.ev ρ):=by
 have:=hA.bD hq;have hj:j<m.length:=(Zi.1 hc).1;simp [World.cell?,this,hj,(Zi.1 hc).2]
theorem yq (hA:MRel S w0 ρ mem w) {el:TypeId} {p L:Nat} {yd n xs ys ls k:E} {src:Nat->Option CV} (h:Ap P mem el p L yd n xs ys ls=some (k,src)) (hk:bN ρ k=true) (hy0:0<=aC ρ yd) (hfit:aC ρ yd+aC ρ n<=L) :
 (aC ρ xs= -1/\aC ρ ls=0)\/∃ b o,aA (aC ρ xs) (aC ρ ys)=some ⟨b,o,none⟩/\∀ j:Nat,aC ρ yd<=j->(j:Int)<aC ρ yd+aC ρ n->∃ s,src j=some s/\w.cell? ⟨b,o+(j-(aC ρ yd).toNat),none⟩=some (s.ev ρ):=by
 unfold Ap at h;split at h
 .rename_i q m T hq;split at h
  .cases h
  .rename_i hqp;have hx:∃ bs,xs=.var bs/\qX mem bs=some (q,m,T):=by
    cases xs<;>simp at hq
    exact⟨_,rfl,hq⟩
   obtain⟨bs,rfl,hf⟩:=hx;have hp:=fF hf;have hpos:0<=ρ.i bs:=hA.pos _ (Zb hp);split at h
   .rename_i hc;cases h;obtain⟨rfl,hl⟩:=hc;refine Or.inr ⟨(ρ.i bs).toNat,(aC ρ yd).toNat,by rw[aj,au hpos],fun j h0 h1=>?_⟩;have hj:j<m.length:=by omega
    refine⟨m[j],Y8 hj,?_⟩;rw[show(aC ρ yd).toNat+(j-(aC ρ yd).toNat)=j by omega];exact KE hA hp (Y8 hj)
   .split at h
    .rename_i o o' _;split at h
     .rename_i hoo;cases h;simp only[bI,dZ,ai,Zc]at hk;rw[ai]at hy0 hfit;refine Or.inr ⟨(ρ.i bs).toNat,o'.toNat,by rw[aj,ai,au hpos],fun j h0 h1=>?_⟩;rw[ai]at h0 h1 ⊢;have hj:j-o.toNat+o'.toNat<m.length:=by omega
      refine⟨m[j-o.toNat+o'.toNat],by simp only;rw[ZA (by omega),Y8 hj],?_⟩;rw[abx o'.toNat];exact KE hA hp (Y8 hj)
     .cases h
    .cases h
 .split at h
  .rename_i o hh hhk;split at h
   .rename_i hoo;cases h;simp only[qL,fw,bp,bI,ai,Zg,aat,Zc,Af]at hk;rcases hk with hk | ⟨hx,hy,hb⟩
    .exact Or.inl ⟨aaB hk.1,aaB hk.2⟩
    have hx:=aaB hx;refine Or.inr ⟨(aC ρ xs).toNat,(aC ρ ys).toNat,by rw[au hx],fun j h0 h1=>?_⟩;rw[ai]at h0 h1 ⊢;obtain⟨z,hz⟩:=qP hb (j:=j-o.toNat) (by omega);refine⟨_,by simp only;rw[ZA (by omega)],?_⟩;rw[Hl.gG (Ht hA hhk) hz];simp only[CV.ev,aQ,hz,cW]
   .cases h
  .cases h
theorem Ao {yd ld n:E} {src:Nat->Option CV} {j:Nat} (hn:aC ρ n<=aC ρ ld) (h:(j:Int)<aC ρ yd+aC ρ n):uH yd ld src j=src j:=by
 unfold uH;split
 .rw[ai]at h hn;rw[ZA (by omega)]
 .rfl
theorem setRow_self {w:World} {g:Nat} {cs:Array Value} {T:TypeId} (h:w.heap[g]?=some (.cells cs T (0,0))):w.setRow g cs=w:=by
 have e:(w.setRow g cs).heap=w.heap:=by
  apply Array.ext_getElem?;intro k;by_cases hk:k=g
  .subst hk;rw[setRow_heap w _ _ cs T _ h,h]
  .exact setRow_other w _ _ _ hk
 show({w with heap:=(w.setRow g cs).heap} : World)=w;rw[e]
theorem run_copy_none (w:World) (dT sT ty elem:TypeId) (a:Addr) (dLen dCap c:Nat) (hu:P.underlying dT=some (.slice elem)) (hs:((P.info? elem).map (·.size)).isSome=true) :
 (Builtin.copy_ #[dT,sT] ty #[.slice (some a) dLen dCap,.slice none 0 c]).run P w=.ok (goInt 0) w:=by
 cases hq:P.info? elem with
 | none=>simp [hq]at hs
 | some i=>simp [Builtin.copy_,run_underlying hu,Builtin.lenOf,Builtin.firstCells,sizeOf,typeInfo,hq,storeCells]
theorem tz {yd n:E} {j:Nat} : bN ρ (vw yd n j)=decide (aC ρ yd<=j/\(j:Int)<aC ρ yd+aC ρ n):=by
 unfold vw;rw[bp,bI,ik,ai,dZ,Bool.decide_and]
def BF (ρ:Env) (src:Option CV) (old:CV):Value:=match src with
 | some s=>s.ev ρ
 | none=>old.ev ρ
theorem vv {c:E} {src:Option CV} {old x:CV} (h:nL c src old=some x):x.ev ρ=if bN ρ c=true then BF ρ src old else old.ev ρ:=by
 unfold nL at h;cases src with
 | none=>cases h;simp [BF]
 | some s =>
  simp only at h;split at h
  .split at h
   .rename_i hc;cases h;subst hc;simp [c8,BF]
   .split at h
    .rename_i hc;cases h;subst hc;simp [dq]
    .rw[mO h];rfl
  .cases h
theorem nM {yd n:E} {src:Nat->Option CV} : ∀ (l:List CV) (j:Nat) (l':List CV),Ha yd n src j l=some l'->l'.length=l.length/\∀ i c x,l[i]?=some c->l'[i]?=some x ->
 (∃ y,nL (vw yd n (j+i)) (src (j+i)) c=some y)/\x.ev ρ=if bN ρ (vw yd n (j+i))=true then BF ρ (src (j+i)) c else c.ev ρ
 | [],j,l',h=>by cases h;simp
 | c::l,j,l',h=>by
  unfold Ha at h;split at h
  .rename_i x r h1 h2;cases h;obtain⟨hl,ih⟩:=nM l (j+1) r h2;refine⟨by simp [hl],fun i c' x' hc hx=>?_⟩;cases i with
   | zero =>
    simp only[Z6,Zj]at hc hx;subst hc;subst hx;exact⟨⟨_,h1⟩,vv h1⟩
   | succ i =>
    simp only[Z3]at hc hx;have:=ih i c' x' hc hx;rw[show j+1+i=j+(i+1)by omega]at this;exact this
  .cases h
theorem yy (w:World) (dT sT ty elem:TypeId) (a b:Option Addr) (dLen dCap c:Nat) (hu:P.underlying dT=some (.slice elem)) (hs:((P.info? elem).map (·.size)).isSome=true) (sl:Nat) (h0:min sl dLen=0) :
 (Builtin.copy_ #[dT,sT] ty #[.slice a dLen dCap,.slice b sl c]).run P w=.ok (goInt 0) w:=by
 cases hq:P.info? elem with
 | none=>simp [hq]at hs
 | some i =>
  have hl:∀ x:Addr,_:=fun x=>run_loadCells_list (P:=P) w x [] (fun j v h=>by simp at h);simp only[Zh]at hl;cases a<;>cases b<;>simp [Builtin.copy_,run_underlying hu,Builtin.lenOf,Builtin.firstCells,sizeOf,typeInfo,hq,storeCells,h0,hl]
theorem Cl (hA:Rel S w0 ρ st a w) (hu:st.upto st.nv=true) {t t' ty el:TypeId} (hul:P.underlying t=some (.slice el)) (hsz:eO P el=some 1) {ad:Nat} {yd ld cd xs ys ls cs:E} {d:Option Tmp} {R:XR} (h:KV P st el ad yd ld xs ys ls d=some R) (hn:R.need.holds C ms ρ) {K:Act->World->Prop} (hK:Fin S w0 C ρ st a d R K) :
 ∃ v' w',(Builtin.copy_ #[t,t'] ty #[TV.ev ρ (.sv (.one (.sl (.var ad) yd ld cd))),TV.ev ρ (.sv (.one (.sl xs ys ls cs)))]).run P w=.ok v' w'/\K (a.put d v') w':=by
 unfold KV at h;split at h
 .rename_i p k vers tags links hh hf hhk;split at h
  .cases h;have hp:=gR hf;obtain⟨⟨hx,hy,hd,hs⟩,⟨c,T,hc,hfit⟩,hsrc⟩:X.pre C ρ (.cpy st.nv k (.var ad) yd ld hh xs ys ls):=hn;rw[aj]at hx hc;have hsub:(ρ.h k).sub w:=hA.sub _ (Zb hp);have hssub:(ρ.h hh).sub w:=Ht hA.toMRel hhk;have hsome:((P.info? el).map (·.size)).isSome=true:=by
    have:(P.info? el).map (·.size)=some 1:=by simpa [eO] using hsz
    rw[this];rfl
   obtain⟨vs,hvs⟩:∃ vs,vs=cJ (ρ.h hh) (aC ρ xs).toNat (aC ρ ys).toNat (min (aC ρ ls) (aC ρ ld)).toNat:=⟨_,rfl⟩;have hlen:vs.length=(min (aC ρ ls) (aC ρ ld)).toNat:=by rw[hvs];simp [cJ]
   let H':=(ρ.h k).put (ρ.i ad).toNat (aC ρ yd).toNat vs
   let ρ':=ρ.kj st.nv H'
   have hg:ah st.nv ρ ρ':=eD _ _ _ (ZB _);have hh':ρ'.h st.nv=H':=fI _ _ _;have hwk:w.heap[(ρ.i ad).toNat]?=some (.cells c T (0,0)):=hsub _ _ hc;have hput:H' (ρ.i ad).toNat=some (.cells (cf c.toList (aC ρ yd).toNat vs).toArray T (0,0)):=by
    show(ρ.h k).put _ _ _ _=_;unfold Hl.put;rw[ZA rfl,hc]
   have fin:∀ w',w'=w.setRow (ρ.i ad).toNat (cf c.toList (aC ρ yd).toNat vs).toArray->K (a.put d (goInt vs.length)) w':=by
    rintro w' rfl;have hxm:(ρ.h k).mem (ρ.i ad).toNat:=by unfold Hl.mem;rw[hc];rfl
    have hM:MRel S w0 ρ' (st.mem.set p (.hp st.nv (k::vers) tags links)) (w.setRow (ρ.i ad).toNat (cf c.toList (aC ρ yd).toNat vs).toArray):=by
     refine hA.toMRel.set hp rfl rfl rfl rfl (by simp) (fun b _ hn=>setRow_other w _ b _ (fun e=>hn (by subst e;exact hxm))) (Mem.cx hg (St.dn hu)) ?_ trivial ?_
     .show(ρ'.h st.nv).sub _;rw[hh'];intro b o hb;by_cases hbe:b=(ρ.i ad).toNat
      .subst hbe;rw[hput]at hb;rw[<-hb];exact setRow_heap w _ _ _ T _ hwk
      .have hb:(ρ.h k).put (ρ.i ad).toNat (aC ρ yd).toNat vs b=some o:=hb;unfold Hl.put at hb;rw[Zo hbe]at hb;rw[setRow_other w _ b _ hbe];exact hsub _ _ hb
     .intro b hb;have hb:(ρ'.h st.nv).mem b:=hb;rw[hh']at hb;exact Or.inl (Hl.gL.1 hb)
    exact hK ρ' _ _ hg ⟨by show ρ'.h st.nv=_;rw[hh',<-hvs,aj],rfl⟩ (Rel.step hA hu hg hM _ _ _ _ (fun y hy=>by cases hy))
   have Tf:vs.length=Nat.min (aC ρ ls).toNat (aC ρ ld).toNat:=by rw[hlen];show _=min _ _;omega
   have ex:TV.ev ρ (.sv (.one (.sl (.var ad) yd ld cd)))=.slice (some ⟨(ρ.i ad).toNat,(aC ρ yd).toNat,none⟩) (aC ρ ld).toNat (aC ρ cd).toNat:=by
    simp only[TV.ev,SV.ev,CV.ev,aj,au hx]
   rw[ex];rcases hsrc with h0 | ⟨hx2,hy2,hb⟩
   .have hv0:vs=[]:=Za.1 (by rw[hlen,h0];rfl);refine⟨_,_,yy w t t' ty el _ _ _ _ _ hul hsome _ (by omega),?_⟩;have:=fin w (by
     rw[hv0];have:(cf c.toList (aC ρ yd).toNat []).toArray=c:=by simp [cf]
     rw[this,setRow_self hwk])
    rw[hv0]at this;exact this
   .have hcell:∀ j,j<(min (aC ρ ls) (aC ρ ld)).toNat->∃ z,(ρ.h hh).cell (aC ρ xs).toNat ((aC ρ ys).toNat+j)=some (.int .u8 z):=fun j hj=>qP hb hj;have hget:∀ j v,vs[j]?=some v->∃ z,v=.int .u8 z/\(ρ.h hh).cell (aC ρ xs).toNat ((aC ρ ys).toNat+j)=some v:=by
     intro j v hj;have hjl:j<(min (aC ρ ls) (aC ρ ld)).toNat:=by rw[<-hlen];exact(Zi.1 hj).1
     obtain⟨z,hz⟩:=hcell j hjl;rw[hvs]at hj;simp only[cJ,Zs,ZI hjl,ZS,hz,aav,Zj]at hj;exact⟨z,hj.symm,by rw[<-hj];exact hz⟩
    have aL:=run_copy_row P w t t' ty el (ρ.i ad).toNat (aC ρ yd).toNat (aC ρ ld).toNat (aC ρ cd).toNat ⟨(aC ρ xs).toNat,(aC ρ ys).toNat,none⟩ (aC ρ ls).toNat (aC ρ cs).toNat c T vs hul (by simpa [eO] using hsz) hwk Tf
     (fun j v hj=>by
      obtain⟨z,_,hz⟩:=hget j v hj;rw[show(⟨(aC ρ xs).toNat,(aC ρ ys).toNat,none⟩:Addr).add j=⟨(aC ρ xs).toNat,(aC ρ ys).toNat+j,none⟩by unfold Addr.add;split<;>simp_all];exact Hl.gG hssub hz)
     (by rw[hlen];omega)
     (fun v hv=>by
      obtain⟨j,hj⟩:=aby.1 hv;obtain⟨z,rfl,_⟩:=hget j v hj;rfl)
    have ey:TV.ev ρ (.sv (.one (.sl xs ys ls cs)))=.slice (some ⟨(aC ρ xs).toNat,(aC ρ ys).toNat,none⟩) (aC ρ ls).toNat (aC ρ cs).toNat:=by
     simp only[TV.ev,SV.ev,CV.ev,au hx2]
    rw[ey];refine⟨_,_,aL,fin _ ?_⟩;simp [cf]
  .cases h
 .cases h
theorem Cj (hA:Rel S w0 ρ st a w) (hu0:st.upto st.nv=true) {t t' ty:TypeId} {x y:TV} {d:Option Tmp} {R:XR} (h:KU P st t x y d=some R) (hn:R.need.holds C ms ρ) {K:Act->World->Prop} (hK:Fin S w0 C ρ st a d R K) :
 ∃ v' w',(Builtin.copy_ #[t,t'] ty #[x.ev ρ,y.ev ρ]).run P w=.ok v' w'/\K (a.put d v') w':=by
 unfold KU at h;split at h
 .rename_i el hu;split at h
  .rename_i hsz;split at h
   .rename_i ad yd ld cd xs ys ls cs;split at h
    .rename_i p l T hf;have hp:=fF hf;have hpos:0<=ρ.i ad:=hA.toMRel.pos _ (Zb hp);simp only at h;generalize hN:mkIte (mkLt ls ld) ls ld=N at h;split at h
     .rename_i k src hsrc;split at h
      .rename_i l' hl';cases h;simp only[sJ,bp,bI,ai,dZ,Zg,Zc]at hn;obtain⟨hk,hy0,hd0,hs0,hfit⟩:=hn;have hy0:=aaB hy0;have hd0:=aaB hd0;have hs0:=aaB hs0;have eN:aC ρ N=min (aC ρ ls) (aC ρ ld):=by
        rw[<-hN,gU,ik];by_cases hc:aC ρ ls<aC ρ ld
        .rw[ZA (by simpa using hc)];omega
        .rw[Zo (by simpa using hc)];omega
       rcases yq hA.toMRel hsrc hk hy0 hfit with ⟨hxn,hl0⟩ | ⟨b,o,hpl,hcells⟩
       .have hN0:aC ρ N<=0:=by rw[eN,hl0];omega
        obtain⟨hlen,hat⟩:=nM (ρ:=ρ) l 0 l' hl';have same:l'.map (CV.ev ρ)=l.map (CV.ev ρ):=by
         apply ZN;intro j;by_cases hjl:j<l.length
         .have hjl':j<l'.length:=by omega
          obtain⟨_,e2⟩:=hat j _ _ (Y8 hjl) (Y8 hjl');rw[ZM,tz]at e2;rw[Zs,Y8 hjl',Zs,Y8 hjl,ZS,ZS,e2,Zo (by simp only[Zc];omega)]
         .rw[Zv (by simp;omega),Zv (by simp;omega)]
        have ex:TV.ev ρ (.sv (.one (.sl (.var ad) yd ld cd)))=.slice (some ⟨(ρ.i ad).toNat,(aC ρ yd).toNat,none⟩) (aC ρ ld).toNat (aC ρ cd).toNat:=by
         simp only[TV.ev,SV.ev,CV.ev,aj,au hpos]
        have ey:TV.ev ρ (.sv (.one (.sl xs ys ls cs)))=.slice none 0 (aC ρ cs).toNat:=by
         simp only[TV.ev,SV.ev,CV.ev,hxn,hl0];rfl
        rw[ex,ey];have hcs:=hA.toMRel.bD hp;have hself:=setRow_self hcs;have hM:=hA.toMRel.Bz (l':=l') hp (cs:=(l.map (CV.ev ρ)).toArray) (by rw[same]);rw[hself]at hM;have hsome:((P.info? el).map (·.size)).isSome=true:=by
         have:(P.info? el).map (·.size)=some 1:=by simpa [eO] using hsz
         rw[this];rfl
        refine⟨_,_,run_copy_none w t t' ty el _ _ _ _ hu hsome,?_⟩;refine hK ρ _ _ (ah.refl _ _) rfl (Rel.put (st:={st with mem:=st.mem.set p (.bD ad l' T)}) ⟨hM,hA.size,hA.defers,hA.tmp,hA.path⟩ _ _ _ (fun z hz=>?_));cases hz;simp only[TV.ev,SV.ev,CV.ev];unfold goInt
        congr 1
        rw[eN,hl0];omega
       obtain⟨hlen,hat⟩:=nM (ρ:=ρ) l 0 l' hl'
       let nn:=(aC ρ N).toNat
       let oo:=(aC ρ yd).toNat
       let vs:List Value:=(List.range nn).map fun i=>(w.cell? ⟨b,o+i,none⟩).getD (.bool false)
       have hvs:∀ i,i<nn->∃ s,uH yd ld src (oo+i)=some s/\w.cell? ⟨b,o+i,none⟩=some (s.ev ρ):=by
        intro i hi;have hi':(i:Int)<aC ρ N:=by omega
        obtain⟨s,h1,h2⟩:=hcells (oo+i) (by omega) (by omega);rw[show oo+i-(aC ρ yd).toNat=i by omega]at h2;exact⟨s,(Ao (ρ:=ρ) (n:=N) (by rw[eN];omega) (by omega)).trans h1,h2⟩
       have hone:∀ v∈vs,v.oneCell'=true:=by
        intro v hv;obtain⟨i,hi,rfl⟩:=ZV.1 hv;have hi:=ZQ.1 hi;obtain⟨s,h1,h2⟩:=hvs i hi;rw[h2,aav];have hjl:oo+i<l.length:=by omega
        have hjl':oo+i<l'.length:=by omega
        obtain⟨⟨z,hz⟩,_⟩:=hat (oo+i) _ _ (Y8 hjl) (Y8 hjl');rw[ZM,h1]at hz;unfold nL at hz;simp only at hz;split at hz
        .rename_i hc;exact CV.nJ s hc
        .cases hz
       have aL:=run_copy_row P w t t' ty el (ρ.i ad).toNat oo (aC ρ ld).toNat (aC ρ cd).toNat ⟨b,o,none⟩ (aC ρ ls).toNat (aC ρ cs).toNat (l.map (CV.ev ρ)).toArray T vs hu (by simpa [eO] using hsz) (hA.toMRel.bD hp)
        (by simp only[vs,ZD,aaA,nn,eN];show(min (aC ρ ls) (aC ρ ld)).toNat=min _ _;omega)
        (fun j v hj=>by
         have hjn:j<nn:=by have:=(Zi.1 hj).1;simpa [vs] using this
         obtain⟨s,h1,h2⟩:=hvs j hjn;have:v=s.ev ρ:=by
          simp only[vs,Zs,ZI hjn,ZS,h2,aav,Zj]at hj;exact hj.symm
         subst this;rw[show(⟨b,o,none⟩:Addr).add j=⟨b,o+j,none⟩by unfold Addr.add;split<;>simp_all];exact h2)
        (by simp only[vs,ZD,aaA,nn];simp;omega) hone
       have ex:TV.ev ρ (.sv (.one (.sl (.var ad) yd ld cd)))=.slice (some ⟨(ρ.i ad).toNat,oo,none⟩) (aC ρ ld).toNat (aC ρ cd).toNat:=by
        simp only[TV.ev,SV.ev,CV.ev,aj,au hpos,oo]
       have ey:TV.ev ρ (.sv (.one (.sl xs ys ls cs)))=.slice (some ⟨b,o,none⟩) (aC ρ ls).toNat (aC ρ cs).toNat:=by
        simp only[TV.ev,SV.ev,CV.ev,hpl]
       rw[ex,ey];refine⟨_,_,aL,?_⟩;have hnew:(l.map (CV.ev ρ)).toArray.toList.take oo++vs++(l.map (CV.ev ρ)).toArray.toList.drop (oo+vs.length)=l'.map (CV.ev ρ):=by
        have lv:vs.length=nn:=by simp [vs]
        apply ZN;intro j;rw[lv];by_cases hjl:j<l.length
        .have hjl':j<l'.length:=by omega
         obtain⟨_,e2⟩:=hat j _ _ (Y8 hjl) (Y8 hjl');rw[ZM,tz]at e2;rw[Zs,Y8 hjl',ZS,e2];simp only[Zc];by_cases h1:j<oo
         .rw[Zo (by omega),ZK,ZH (by simp;omega)];simp [Z2,h1,hjl]
         .by_cases h2:j<oo+nn
          .rw[ZA (by omega),ZH (by simp [lv];omega),Zz (by simp;omega)];obtain⟨s,h3,h4⟩:=hvs (j-oo) (by omega);rw[show oo+(j-oo)=j by omega]at h3;rw[h3];show _=some (s.ev ρ);have hm:(List.take oo (List.map (CV.ev ρ) l).toArray.toList).length=oo:=by simp;omega
           rw[hm];simp only[vs,Zs,ZI (show j-oo<nn by omega),ZS,h4,aav]
          .rw[Zo (by omega),Zz (by simp [lv];omega)];simp only[Y9,ZE,ZD,lv,ZZ,Zs];rw[show oo+nn+(j-(min oo l.length+nn))=j by omega];simp [hjl]
        .rw[Zv (by simp [lv];omega),Zv (by simp [hlen];omega)]
       refine hK ρ _ _ (ah.refl _ _) rfl (Rel.put (st:={st with mem:=st.mem.set p (.bD ad l' T)}) ⟨hA.toMRel.Bz hp (by rw[hnew]),hA.size,hA.defers,hA.tmp,hA.path⟩ _ _ _ (fun z hz=>?_));cases hz;simp only[TV.ev,SV.ev,CV.ev,vs,ZD,aaA,nn];unfold goInt
       congr 1
       omega
      .cases h
     .cases h
    .exact Cl hA hu0 hu hsz h hn hK
   .cases h
  .cases h
 .cases h
end
section
variable {P:Program} {C:Ctx} {ms:Nat->Nat} {S:Nat->Prop} {w0:World} {ρ ρ':Env} {st:St} {mem mem':Mem} {a:Act} {w w':World}
theorem CS (hA:Rel S w0 ρ st a w) (hu:st.upto st.nv=true) {t:TypeId} {x y:TV} {d:Option Tmp} {R:XR} (h:LR P st t x y d=some R) (hn:R.need.holds C ms ρ)
 {K:Act->World->Prop} (hK:Fin S w0 C ρ st a d R K):∃ v' w',(Instr.makeSlice t (x.ev ρ) (y.ev ρ)).run P w=.ok v' w'/\K (a.put d v') w':=by
 unfold LR at h;split at h
 .rename_i el k l k' c ht;split at h
  .rename_i hlc;subst hlc;split at h
   .rename_i i hi;split at h
    .rename_i z hz;split at h
     .rename_i hzs;simp only at h;have key:∀ (r:bx),r.own=true->(∀ ρ',ah st.nv ρ ρ'->0<=ρ'.i st.nv->ρ'.h st.nv=Hl.one (ρ'.i st.nv).toNat (.cells (madeCells z.cells ((aC ρ l).toNat*i.size)) el (0,0))->r.hl ρ'=ρ'.h st.nv/\r.pos ρ') ->
       ∀ R':XR,R'=⟨({st with mem:=st.mem++[r],nv:=st.nv+1} : St).put d (some (.sv (.one (.sl (.var st.nv) (.lit 0) l l)))),.pre (.mk st.nv el (z.cells.toList.map gk) i.bytes l),some (.mk st.nv el (z.cells.toList.map gk) i.bytes l)⟩ ->
       R'.need.holds C ms ρ->Fin S w0 C ρ st a d R' K->∃ v' w',(Instr.makeSlice t (.int k (aC ρ l)) (.int k' (aC ρ l))).run P w=.ok v' w'/\K (a.put d v') w':=by
       intro r hr hres R' hR' hn hK;subst hR';obtain⟨h0,hby,h63⟩:=hn;have hrun:=run_make (P:=P) w t el i z ht hi hz k k' (aC ρ l) (aC ρ l) h0 (Zw _) hby h63
       let ob:Obj:=.cells (madeCells z.cells ((aC ρ l).toNat*i.size)) el
       let ρ':=(ρ.fq st.nv w.heap.size).kj st.nv (Hl.one w.heap.size ob)
       have hg:ah st.nv ρ ρ':=(cM _ _ _ (ZB _)).trans (eD _ _ _ (ZB _));have e1:ρ'.i st.nv=w.heap.size:=by show(ρ.fq st.nv w.heap.size).i st.nv=_;rw[ll]
       have e3:ρ'.h st.nv=Hl.one w.heap.size ob:=fI _ _ _;have e3':ρ'.h st.nv=Hl.one (ρ'.i st.nv).toNat (.cells (madeCells z.cells ((aC ρ l).toNat*i.size)) el (0,0)):=by rw[e1,Y7];exact e3
       obtain⟨hrh,hrp⟩:=hres ρ' hg (by rw[e1];omega) e3';refine⟨_,_,hrun,hK ρ' _ _ hg ⟨⟨by rw[e1];omega,?_⟩,rfl⟩ (Rel.step hA hu hg ?_ _ _ _ _ ?_)⟩
       .rw[e3',gX];simp only[abH,ZD,aaI,hzs.1]
       .refine hA.toMRel.add rfl rfl rfl (by simp) (fun b hb=>RowKit.Below.heap_alloc w _ b hb) (Mem.cx hg (St.dn hu)) ?_ hrp ?_
        .rw[hrh,e3];intro b o hb;obtain⟨rfl,rfl⟩:=Hl.mZ hb;exact heap_alloc_new w _
        .intro b hb;rw[hrh,e3]at hb;rw[Hl.dH.1 hb];exact ZB _
       .intro u hu';cases hu';simp only[TV.ev,SV.ev,CV.ev,aj,ai,e1,cR hg hzs.2.2];rw[au (by omega)];simp
      have khp:=key (.hp st.nv [] [.var st.nv] []) rfl (fun ρ' _ _ _=>⟨rfl,trivial⟩);split at h
      .rename_i m;split at h
       .cases h;refine key (.bD st.nv (mK (z.cells.toList.map gk) (m.toNat*i.size)) el) rfl (fun ρ' hg h0 he=>⟨?_,h0⟩) _ rfl hn hK;rw[he];show Hl.one _ _=_;have e:=wM (ρ:=ρ') (z:=z.cells.toList.map gk) (zs:=z.cells.toList) (gX _ _) (by rw[aaI];omega) (m.toNat*i.size);rw[e];simp [ai]
       .cases h;exact khp _ rfl hn hK
      .cases h;exact khp _ rfl hn hK
     .cases h
    .cases h
   .cases h
  .cases h
 .cases h
theorem Et (hA:Rel S w0 ρ st a w) (hu:st.upto st.nv=true) {t:TypeId} {len:Nat} {is:List Nat} {vs:List TV} {d:Option Tmp} {R:XR} (h:Qf P st t len is vs d=some R)
 {K:Act->World->Prop} (hK:Fin S w0 C ρ st a d R K):∃ v' w',(Instr.buildSlice t len (is.zip (vs.map (TV.ev ρ))).toArray).run P w=.ok v' w'/\K (a.put d v') w':=by
 unfold Qf at h;split at h
 .rename_i el ht;split at h
  .rename_i n z us hs hz hus;split at h
   .rename_i hc;split at h
    .rename_i l hl;have hf:=iY (ρ:=ρ) _ _ _ hl;have hbig:¬len*n>2 ^ 24:=by omega
     refine⟨.slice (some ⟨w.heap.size,0,none⟩) len len,w.alloc (.cells (l.map (CV.ev ρ)).toArray el),?_,mT h hu hA hK rfl (fun ρ' hg hi=>?_)⟩
     .rw[Gy _ _ hus,<-GO];unfold Instr.buildSlice;simp only[Sem.run_bind,run_underlying ht,Result.andThen_ok,dL hs,hbig,aaG];have hfin:∀ zz:Array Value,(Array.range (len*n)).map (fun j=>zz[j%zz.size]!)=((mK (z.cells.toList.map gk) (len*n)).map (CV.ev ρ)).toArray ->
       Instr.fill (fun i=>some (i*n,n)) ((Array.range (len*n)).map (fun j=>zz[j%zz.size]!)) ((is.zip us).map fun(p:Nat×SV)=>(p.1,SV.ev ρ p.2))=some (l.map (CV.ev ρ)).toArray:=by
       intro zz hz';rw[hz',hf]
      by_cases h0:len*n=0
      .rw[ZA h0];simp only[Sem.run_bind,Sem.run_pure,Result.andThen_ok];rw[hfin #[] (by simp [h0,mK])];rfl
      .rw[Zo h0];simp only[Sem.run_bind,Sem.run_pure,Result.andThen_ok,jN hz];rw[hfin z.cells ?_]
       .rfl
       have hzp:0<z.cells.toList.length:=by
        rw[aaI,hc.2];exact Nat.pos_of_ne_zero (fun e=>h0 (by rw[e,Nat.mul_zero]))
       have e:=wM (ρ:=ρ) (z:=z.cells.toList.map gk) (zs:=z.cells.toList) (gX _ _) hzp (len*n);rw[e];simp only[madeCells,abH]
     .simp only[TV.ev,SV.ev,CV.ev,aj,ai,hi];rw[au (by omega)];simp
    .cases h
   .cases h
  .cases h
 .cases h
theorem EH {f:FuncId} (h:vG P f=true) (args:Array Value) (w:World):(callFunc f args).run P w=.ok (.enter f args) w:=by
 unfold vG at h;split at h
 .rename_i fn hf;simp only[Zg,aaf]at h;unfold callFunc;simp only[Sem.run_bind,program,Sem.run,Result.andThen_ok,hf,h.2,Z5,aaG];cases hb:fn.body with
  | none=>simp [hb]at h
  | some c=>simp
 .cases h
theorem nI (hA:Rel S w0 ρ st a w) {c:Operand} {f:FuncId} (h:qN st c=some f):a.eval c=.func (.func f) #[] #[]:=by
 unfold qN at h;split at h
 .cases h;rfl
 .rename_i t;split at h
  .rename_i g x y hs;split at h
   .rename_i hxy;cases h;simp only[Zg,Array.isEmpty_iff]at hxy;obtain⟨rfl,rfl⟩:=hxy;have:=hA.tmp t _ hs;simp [Act.eval,this,TV.ev,SV.ev,CV.ev]
   .cases h
  .cases h
 .cases h
theorem Iz {o:Oper} {f:FuncId} {c:Operand} {args:Array Operand} {ts:Array TypeId} (hop:o.op=.call {callee:=.value c,args,argTypes:=ts}) (hcf:a.eval c=.func (.func f) #[] #[]) (he:vG P f=true) {xs:List Value} (hx:args.toList.map a.eval=xs)
 {K:Act->World->Prop} {Q:Exit->Act->World->Prop} (hc:Calls P f xs.toArray w fun e w'=>∃ v,e=.returned v/\K (a.put o.dst v) w'):o.wp P a w K Q:=by
 have e2:args.map a.eval=xs.toArray:=by rw[<-hx];obtain⟨l⟩:=args;exact abD
 have hrun:(execOp a.eval o).run P w=.ok (.enter f xs.toArray) w:=by
  unfold execOp;rw[hop];simp only[resolve,hcf,Deferred.ofValue,Sem.run_bind,Sem.run_pure,Result.andThen_ok,invoke];rw[e2];simpa using EH (P:=P) he xs.toArray w
 unfold Oper.wp;rw[hrun];refine hc.mono fun e w' ⟨v,he,hk⟩=>?_;subst he;exact hk
theorem Ez (hA:Rel S w0 ρ st a w) (hu:st.upto st.nv=true) {o:Oper} {s d:TypeId} {y:Operand} (hop:o.op=.convert s d y) {x:TV} (hx:a.eval y=x.ev ρ) {R:XR} (h:Qj P st s d x o.dst=some R)
 {K:Act->World->Prop} {Q:Exit->Act->World->Prop} (hK:Fin S w0 C ρ st a o.dst R K):o.wp P a w K Q:=by
 unfold Qj at h;split at h
 .rename_i hsd;subst hsd;split at h
  .rename_i el hs;split at h
   .rename_i hu8;obtain⟨hu8,hup⟩:=hu8;have he:=HE hu8;split at h
    .rename_i b y' l c;split at h
     .rename_i p cs T hb;cases h;have hp:=fF hb;have hpos:0<=ρ.i b:=hA.pos _ (Zb hp);have hw:=hA.toMRel.bD hp
      let o':Obj:=.cells (cs.map (CV.ev ρ)).toArray T (cs.length,cs.length+1)
      let w':World:=w.freeze ⟨(ρ.i b).toNat,cs.length,none⟩ 1
      have hlt:(ρ.i b).toNat<w.heap.size:=(ZU.1 hw).1;have hw':w'.heap[(ρ.i b).toNat]?=some o':=by
       show(w.freeze ⟨(ρ.i b).toNat,cs.length,none⟩ 1).heap[(ρ.i b).toNat]?=_;unfold World.freeze;rw[Zo (by decide)];simp only[ab4,ZG,hw,ZS];rfl
      have hot:∀ k,k≠(ρ.i b).toNat->w'.heap[k]?=w.heap[k]?:=by
       intro k hk;show(w.freeze ⟨(ρ.i b).toNat,cs.length,none⟩ 1).heap[k]?=_;unfold World.freeze;rw[Zo (by decide)];simp only[ab4,Zo hk.symm]
      have hsz:w'.heap.size=w.heap.size:=by
       show(w.freeze ⟨(ρ.i b).toNat,cs.length,none⟩ 1).heap.size=_;unfold World.freeze;rw[Zo (by decide)];simp
      have hfr:w'.os=w.os/\w'.tape=w.tape/\w'.output=w.output:=by
       show(w.freeze ⟨(ρ.i b).toNat,cs.length,none⟩ 1).os=_/\(w.freeze ⟨(ρ.i b).toNat,cs.length,none⟩ 1).tape=_/\(w.freeze ⟨(ρ.i b).toNat,cs.length,none⟩ 1).output=_;unfold World.freeze;rw[Zo (by decide)];exact⟨rfl,rfl,rfl⟩
      have ex:a.eval y=.slice (some ⟨(ρ.i b).toNat,(aC ρ y').toNat,none⟩) (aC ρ l).toNat (aC ρ c).toNat:=by
       rw[hx];simp only[TV.ev,SV.ev,CV.ev,aj];rw[au hpos]
      have hrun:(execOp a.eval o).run P w=.ok (.value (a.eval y)) w':=by
       have hsh:w.shape? (ρ.i b).toNat=some (T,cs.length):=by
        unfold World.shape?;rw[hw];simp
       unfold execOp;rw[hop];simp [convert,run_underlying hs,run_underlying he,markStringish,ex,hsh];rfl
      refine eV hrun ?_;have hg:ah st.nv ρ (ρ.kj st.nv (Hl.one (ρ.i b).toNat o')):=eD _ _ _ (ZB _);refine hK _ _ w' hg ⟨fI _ _ _,rfl⟩ (Rel.step hA hu hg ?_ _ _ _ _ (fun z hz=>?_))
      .refine hA.toMRel.set hp rfl hfr.1 hfr.2.1 hfr.2.2 (by omega) (fun k _ hk=>hot k fun e=>hk (by rw[e];exact Hl.dH.2 rfl)) (Mem.cx hg (St.dn hu)) ?_ trivial ?_
       .intro k ob hk;rw[show(bx.hp st.nv [] [E.var b] []).hl (ρ.kj st.nv (Hl.one (ρ.i b).toNat o'))=Hl.one (ρ.i b).toNat o' from fI _ _ _]at hk;obtain⟨rfl,rfl⟩:=Hl.mZ hk;exact hw'
       .intro k hk;rw[show(bx.hp st.nv [] [E.var b] []).hl (ρ.kj st.nv (Hl.one (ρ.i b).toNat o'))=Hl.one (ρ.i b).toNat o' from fI _ _ _]at hk;left;show(Hl.one (ρ.i b).toNat _).mem k;exact Hl.dH.2 (Hl.dH.1 hk)
      .cases hz;rw[hx];exact(TV.cx hg _ hup).symm
     .cases h
    .cases h
   .cases h
  .cases h
 .cases h
theorem Od {T:TypeId} {d:TypeDesc} (hd:P.underlying T=some d) (hni:∀ i,d≠.interface i) (x:Value) (w:World):(Instr.makeInterface T x).run P w=.ok (.iface T x) w:=by
 unfold Instr.makeInterface;rw[Sem.run_bind,run_underlying hd];cases d with
 | interface i=>exact absurd rfl (hni i)
 | _=>rfl
theorem Tk (hA:Rel S w0 ρ st a w) (hu:st.upto st.nv=true) {o:Oper} {T:TypeId} {y:Operand} (hop:o.op=.makeInterface T y) {v:SV} (hx:a.eval y=v.ev ρ) {d:TypeDesc} (hd:P.underlying T=some d) (hni:∀ i,d≠.interface i)
 {K:Act->World->Prop} {Q:Exit->Act->World->Prop} (hK:Fin S w0 C ρ st a o.dst ⟨({st with nv:=st.nv+1} : St).put o.dst (some (.sv (.one (.vr st.nv)))),.tt,some (.mki st.nv T v)⟩ K):o.wp P a w K Q:=by
 have hrun:(execOp a.eval o).run P w=.ok (.value (.iface T (v.ev ρ))) w:=by
  unfold execOp;rw[hop];simp only[Sem.run_bind,hx];simp [Od hd hni]
 refine eV hrun ?_;have hg:ah st.nv ρ (ρ.DR st.nv (.iface T (v.ev ρ))):=uX _ _ _ (ZB _);refine hK _ _ w hg ⟨?_,rfl⟩ (Rel.put (Rel.nh hg hu hA (hA.cx hg hu).toMRel _) _ _ _ (fun z hz=>?_))
 .show(ρ.DR st.nv (.iface T (v.ev ρ))).v st.nv=_;simp [Env.DR]
 .cases hz;simp [TV.ev,SV.ev,CV.ev,Env.DR]
theorem Fs (hA:Rel S w0 ρ st a w) (hu:st.upto st.nv=true) {o:Oper} {T:TypeId} {y:Operand} (hop:o.op=.makeInterface T y) {x:TV} (hx:a.eval y=x.ev ρ) {R:XR} (h:Q2 P st T x o.dst=some R)
 {K:Act->World->Prop} {Q:Exit->Act->World->Prop} (hK:Fin S w0 C ρ st a o.dst R K):o.wp P a w K Q:=by
 unfold Q2 at h;split at h
 .split at h
  .rename_i e hd;cases h;exact Tk hA hu hop hx hd (by simp) hK
  .rename_i e hd;cases h;exact Tk hA hu hop hx hd (by simp) hK
  .cases h
 .cases h
theorem vN (hΓ:∀ s∈C.Γ,s.OK P) (hA:Rel S w0 ρ st a w) {o:Oper} {R:XR} (h:NP P C.Γ st o=some R) (hn:R.need.holds C ms ρ)
 {K:Act->World->Prop} {Q:Exit->Act->World->Prop} (hK:Fin S w0 C ρ st a o.dst R K):o.wp P a w K Q:=by
 unfold NP at h;split at h
 .rename_i hu;split at h
  .rename_i t hop;split at h
   .rename_i z hz;have hrun:(execOp a.eval o).run P w=.ok (.value (.pointer (some ⟨w.heap.size,0,none⟩))) (w.alloc (.cells z.cells t)):=by
     unfold execOp;rw[hop];simp only[Sem.run_bind,Instr.alloc,jN hz,Result.andThen_ok];rfl
    refine eV hrun (mT h hu hA hK (by rw[gX]) (fun ρ' hg hi=>?_));simp only[TV.ev,SV.ev,CV.ev,aj,ai,hi];rw[au (by omega)];simp
   .cases h
  .rename_i t x hop;split at h
   .rename_i v hx;split at h
    .rename_i hcell;have ex:=bc hA hx;have hrun:(execOp a.eval o).run P w=.ok (.value (.pointer (some ⟨w.heap.size,0,none⟩))) (w.alloc (.cells (v.ev ρ).cells t)):=by
      unfold execOp;rw[hop];simp only[Sem.run_bind,Instr.box,ex,TV.ev];rfl
     refine eV hrun (mT h hu hA hK ?_ (fun ρ' hg hi=>?_))
     .rw[<-SV.qQ v hcell]
     .simp only[TV.ev,SV.ev,CV.ev,aj,ai,hi];rw[au (by omega)];simp
    .cases h
   .cases h
  .rename_i t p x hop;split at h
   .rename_i pv v hp hx;have ep:a.eval p=pv.ev ρ:=bc hA hp;have ex:a.eval x=v.ev ρ:=bc hA hx;split at h
    .rename_i n mem hs;cases h;simp only[sJ]at hn;obtain⟨q,w',hq,hrun,hm⟩:=Gw hA.toMRel hs hn;have hrun':(execOp a.eval o).run P w=.ok .skip w':=by
      unfold execOp;rw[hop];simp only[Sem.run_bind,Instr.storeAt,ep,ex,hq,Instr.sureAddr,Sem.run_pure,Result.andThen_ok,hrun]
     exact yl hrun' (hK ρ _ w' (ah.refl _ _) rfl (Rel.put (st:={st with mem:=mem}) ⟨hm,hA.size,hA.defers,hA.tmp,hA.path⟩ _ _ _ (fun y hy=>by cases hy)))
    .rename_i x' mem hs;cases h;obtain⟨q,w',ρ',hq,hrun,hg,hrel,hxn,hm⟩:=Gx hA hu hs hn;have hrun':(execOp a.eval o).run P w=.ok .skip w':=by
      unfold execOp;rw[hop];simp only[Sem.run_bind,Instr.storeAt,ep,ex,hq,Instr.sureAddr,Sem.run_pure,Result.andThen_ok,hrun]
     exact yl hrun' (hK ρ' _ w' hg ⟨hrel,hxn⟩ (Rel.step hA hu hg hm _ _ _ _ (fun y hy=>by cases hy)))
    .cases h
   .cases h
  .rename_i t l c hop;split at h
   .rename_i x y hl hc;obtain⟨v',w',hrun,hk⟩:=CS hA hu h hn hK;refine eV (v:=v') (w':=w') ?_ hk;unfold execOp;rw[hop];simp only[Sem.run_bind,bc hA hl,bc hA hc,hrun,Result.andThen_ok,Sem.run_pure]
   .cases h
  .rename_i t len parts hop;split at h
   .rename_i vs hx;obtain⟨v',w',hrun,hk⟩:=Et hA hu h hK;refine eV (v:=v') (w':=w') ?_ hk;have e1:=hZ hA _ _ hx;have e2:(parts.map fun p=>(p.1,a.eval p.2))=((parts.toList.map (·.1)).zip (vs.map (TV.ev ρ))).toArray:=by
     rw[<-e1,aaF,<-wP parts.toList];obtain⟨l⟩:=parts;exact abD
    unfold execOp;rw[hop];rw[<-e2]at hrun;simp only[Sem.run_bind,hrun,Result.andThen_ok,Sem.run_pure]
   .cases h
  .rename_i args ats hop;split at h
   .rename_i x y t t' ha hts;split at h
    .rename_i htt;subst htt;split at h
     .rename_i vx vy hx hy;obtain⟨v',w',hrun,hk⟩:=Ee (ty:=o.type) hA hu h hn hK;refine eV (v:=v') (w':=w') ?_ hk;have ea:args.map a.eval=#[vx.ev ρ,vy.ev ρ]:=by
       obtain⟨l⟩:=args;simp only at ha;subst ha;simp [bc hA hx,bc hA hy]
      have et:ats=#[t,t]:=by obtain⟨l⟩:=ats;simp only at hts;rw[hts]
      obtain⟨dst,op,ty,pos,af,gd⟩:=o;simp only at hop;subst hop;rw[BigFrame.execOp_builtin,ea,et];unfold builtin;simp only[Sem.run_bind,hrun,Result.andThen_ok,Sem.run_pure]
     .cases h
    .cases h
   .cases h
  .rename_i args ats hop;split at h
   .rename_i x y t t' ha hts;split at h
    .rename_i vx vy hx hy;obtain⟨v',w',hrun,hk⟩:=Cj (t':=t') (ty:=o.type) hA hu h hn hK;refine eV (v:=v') (w':=w') ?_ hk;have ea:args.map a.eval=#[vx.ev ρ,vy.ev ρ]:=by
      obtain⟨l⟩:=args;simp only at ha;subst ha;simp [bc hA hx,bc hA hy]
     have et:ats=#[t,t']:=by obtain⟨l⟩:=ats;simp only at hts;rw[hts]
     obtain⟨dst,op,ty,pos,af,gd⟩:=o;simp only at hop;subst hop;rw[BigFrame.execOp_builtin,ea,et];unfold builtin;simp only[Sem.run_bind,hrun,Result.andThen_ok,Sem.run_pure]
    .cases h
   .cases h
  .rename_i s d x hop;split at h
   .rename_i x hx;exact Ez hA hu hop (bc hA hx) h hK
   .cases h
  .rename_i T x hop;split at h
   .rename_i x hx;exact Fs hA hu hop (bc hA hx) h hK
   .cases h
  .rename_i t hop;exact mM hA hu (by rw[hop];exact h) hn hK
  .rename_i t m k ok hop;exact mM hA hu (by rw[hop];exact h) hn hK
  .rename_i t m k v hop;exact mM hA hu (by rw[hop];exact h) hn hK
  .rename_i args ats hop;exact mM hA hu (by rw[hop];exact h) hn hK
  .rename_i c args ats hop;split at h
   .rename_i f vs hc hx;split at h
    .rename_i he;exact Iz hop (nI hA hc) he (hZ hA _ _ hx) (Cc hΓ hA hu h hn hK)
    .cases h
   .cases h
  .cases h
 .cases h
end
inductive Tag | norm | ret | exit (id:Nat)
 deriving DecidableEq
def vJ:Tag->Exit
 | .norm=>.normal
 | .ret=>.ret
 | .exit i=>.exit i
abbrev Km:=Tag->St->Option Nd
def yE:E->List E
 | .and a b=>yE a++yE b
 | e=>[e]
def CU (path:List E) (n:E):List E:=(yE n).filter fun c=>!(known path c==some true)
def ru:List E->Nd->Nd
 | [],a=>a
 | c::l,a=>nu (Tn c) (ru l a)
def CW (st:St) (n:E) (k:St->Option Nd):Option Nd :=
 let cs:=CU st.path n
 (k {st with path:=cs++st.path}).map (ru cs)
theorem yF {ρ:Env} : ∀ n:E,(∀ c∈yE n,bN ρ c=true)->bN ρ n=true:=by
 intro n
 induction n with
 | and a b iha ihb =>
  intro h;simp only[yE,ZT]at h;rw[oM,iha (fun c hc=>h c (Or.inl hc)),ihb (fun c hc=>h c (Or.inr hc))];rfl
 | _=>intro h;exact h _ (by simp [yE])
def BC:TV:=.sv (.one (.val undef))
def HO:Value->Bool
 | .bool _=>false
 | _=>true
def sC (ops:List Oper) (st:St) (o:Oper):Option (Option (E×Bool)) :=
 match o.guard with
 | none=>some none
 | some (j,want)=>match(ops[j]?).bind (·.dst)with
  | some t=>match st.tmps[t]? with
   | some (some (.sv (.one (.bool e))))=>some (some (e,want))
   | some (some (.sv (.one (.val v))))=>if HO v then some (some (.ff,true))else none
   | _=>none
  | none=>none
def jf (P:Program) (st:St):List ResultVar->Option (E×List SV)
 | []=>some (.tt,[])
 | .tmp t::l=>match dg st (.tmp t),jf P st l with
  | some (.sv v),some (m,vs)=>some (m,v::vs)
  | _,_=>none
 | .cell t ty::l=>match dg st (.tmp t),jf P st l with
  | some (.sv (.one c)),some (m,vs)=>match HH P st.mem ty c with
   | some (k,v)=>some (mkAnd k m,v::vs)
   | none=>none
  | _,_=>none
def zo:List SV->TV
 | [v]=>.sv v
 | l=>.tup l
abbrev Ex:=Nat->List Nat->Code->St->Km->Option Nd
def uK (P:Program) (ex:Ex) (d:Nat) (f:FuncId) (args:List TV) (st:St) (k:TV->St->Option Nd):Option Nd :=
 match P.funcs[f]? with
 | some fn=>match fn.body with
  | some c=>ex d [f] c ⟨args.map some++List.replicate (fn.ntmps-args.length) none,st.mem,st.nv,st.path⟩ fun t s=>match t with
   | .exit _=>none
   | _=>match jf P s fn.results.toList with
    | some (n,vs)=>CW s n fun s=>k (zo vs) s
    | none=>none
  | none=>none
 | none=>none
def Oe (P:Program) (o:Oper) (k:St->Option Nd):Nat->St->Option Nd
 | 0,st=>k st
 | n+1,st=>match zc P st o with
  | some (s,x)=>(Oe P o k n s).map (.ext x ·)
  | none=>k st
def r9 (P:Program) (Γ:List Spec) (ex:Ex) (d:Nat) (o:Oper) (st:St) (k:St->Option Nd):Option Nd :=
 match quiet P st o.op with
 | some (n,v)=>CW st n fun st=>k (st.put o.dst (some v))
 | none=>Oe P o (fun st=>match NP P Γ st o with
  | some R=>if st.nv<=R.st.nv then(k R.st).map fun nd=>nu R.need (match R.x with | some x=>.ext x nd | none=>nd)else none
  | none=>match o.op with
   | .call {callee:=.value c,args,argTypes:=_}=>match qN st c,rH st args.toList with
    | some f,some vs=>if vG P f&&st.upto st.nv then uK P ex d f vs st fun r s=>if st.nv<=s.nv then k (({s with tmps:=st.tmps} : St).put o.dst (some r))else none else none
    | _,_=>none
   | .panic _=>some (.e .ff)
   | .makeInterface _ _=>some (.e .ff)
   | _=>none) 4 st
def iR (P:Program) (Γ:List Spec) (ex:Ex) (d:Nat) (ops:List Oper):List Oper->St->(St->Option Nd)->Option Nd
 | [],st,k=>k st
 | o::l,st,k=>match sC ops st o with
  | none=>none
  | some none=>r9 P Γ ex d o st fun s=>if st.nv<=s.nv then iR P Γ ex d ops l s k else none
  | some (some (e,want))=>match known st.path e with
   | some b=>if b=want then r9 P Γ ex d o st fun s=>if st.nv<=s.nv then iR P Γ ex d ops l s k else none else iR P Γ ex d ops l (st.put o.dst (some BC)) k
   | none =>
    let y:=if want then e else mkNot e
    match r9 P Γ ex d o {st with path:=y::st.path} fun s=>if st.nv<=s.nv then iR P Γ ex d ops l s k else none,iR P Γ ex d ops l (({st with path:=mkNot y::st.path} : St).put o.dst (some BC)) k with
    | some a,some b=>some (nu (tM y a) (tM (mkNot y) b))
    | _,_=>none
section
variable {P:Program} {C:Ctx} {ms:Nat->Nat} {S:Nat->Prop} {w0:World} {ρ ρ':Env} {st:St} {mem mem':Mem} {a:Act} {w w':World}
def Kl (S:Nat->Prop) (w0:World) (C:Ctx) (d:Nat) (ms:Nat->Nat) (n:Nat) (ρ:Env) (k:St->Option Nd) (K:Act->World->Prop):Prop :=
 ∀ ms' st' nd ρ' a' w',(∀ i,i<d->ms' i=ms i)->k st'=some nd->ah n ρ ρ'->Rel S w0 ρ' st' a' w'->nd.holds C ms' ρ'->K a' w'
theorem Kl.fC {d n m:Nat} {ms':Nat->Nat} {k:St->Option Nd} {K:Act->World->Prop} (h:Kl S w0 C d ms n ρ k K) (hm':∀ i,i<d->ms' i=ms i) (hg:ah n ρ ρ') (hm:n<=m):Kl S w0 C d ms' m ρ' k K :=
 fun ms'' st' nd ρ'' a' w' hms hk hg' hA hn=>h ms'' st' nd ρ'' a' w' (fun i hi=>(hms i hi).trans (hm' i hi)) hk (hg.trans (hg'.mono hm)) hA hn
theorem Rel.og (hA:Rel S w0 ρ st a w) {cs:List E} (h:∀ c∈cs,bN ρ c=true):Rel S w0 ρ {st with path:=cs++st.path} a w :=
 ⟨hA.toMRel,hA.size,hA.defers,hA.tmp,fun e he=>(ZT.1 he).elim (h e) (hA.path e)⟩
theorem Rel.o9 (hA:Rel S w0 ρ st a w) {c:E} (h:bN ρ c=true):Rel S w0 ρ {st with path:=c::st.path} a w :=
 hA.og (cs:=[c]) (fun x hx=>by rw[Zn.1 hx];exact h)
theorem lh:∀ (cs:List E) (a:Nd),(ru cs a).holds C ms ρ->(∀ c∈cs,bN ρ c=true)/\a.holds C ms ρ
 | [],a,h=>⟨by simp,h⟩
 | c::l,a,h=>by
  simp only[ru,dY,sJ]at h;obtain⟨h1,h2⟩:=lh l a h.2;exact⟨fun x hx=>(Zl.1 hx).elim (fun e=>e▸h.1) (h1 x),h2⟩
theorem tN {n:E} {k:St->Option Nd} {nd:Nd} (h:CW st n k=some nd) (hA:Rel S w0 ρ st a w) (hn:nd.holds C ms ρ) :
 bN ρ n=true/\∃ st' nd',k st'=some nd'/\st'={st with path:=CU st.path n++st.path}/\Rel S w0 ρ st' a w/\nd'.holds C ms ρ:=by
 unfold CW at h;simp only[Zk]at h;obtain⟨nd',hk,rfl⟩:=h;obtain⟨h1,h2⟩:=lh _ _ hn;refine⟨yF n fun c hc=>?_,_,nd',hk,rfl,hA.og h1,h2⟩;by_cases hk:known st.path c=some true
 .exact fi hA.path hk
 .exact h1 c (by unfold CU;rw[aaj];exact⟨hc,by simpa using hk⟩)
def zT (ρ:Env):Option (E×Bool)->Bool
 | none=>true
 | some q=>bN ρ q.1==q.2
theorem gS (hr:Rel S w0 ρ st a w) {ops:List Oper} {o:Oper} {g:Option (E×Bool)} (h:sC ops st o=some g) :
 Region.wanted o (yielded ops.toArray a.tmps)=zT ρ g:=by
 unfold sC at h;unfold Region.wanted;split at h
 .rename_i hg;cases h;simp only[hg,zT]
 .rename_i j want hg;simp only[hg];split at h
  .rename_i t ht;split at h
   .rename_i e hs;cases h;have:=hr.tmp t _ hs;have hy:yielded ops.toArray a.tmps j=some (bN ρ e):=by
     unfold yielded;have e1:(ops.toArray[j]?).bind (·.dst)=some t:=by simpa using ht
     rw[e1];simp only[aaQ,this,TV.ev,SV.ev,CV.ev]
    rw[hy];simp [zT]
   .rename_i v hs;split at h
    .rename_i hv;cases h;have:=hr.tmp t _ hs;have hy:yielded ops.toArray a.tmps j=none:=by
      unfold yielded;have e1:(ops.toArray[j]?).bind (·.dst)=some t:=by simpa using ht
      rw[e1];simp only[aaQ,this,TV.ev,SV.ev,CV.ev];cases v<;>simp [HO]at hv ⊢
     rw[hy];simp [zT,dq]
    .cases h
   .cases h
  .cases h
theorem j9 (hA:Rel S w0 ρ st a w):∀ (l:List ResultVar) (n:E) (vs:List SV),jf P st l=some (n,vs)->bN ρ n=true ->
 (l.mapM fun(x:ResultVar)=>match x with
  | .tmp t=>(pure (a.tmps.getD t undef):Sem Value)
  | .cell p t=>do loadVar t (<-asAddr (a.tmps.getD p undef))).run P w=.ok (vs.map (SV.ev ρ)) w
 | [],n,vs,h,_=>by cases h;rfl
 | .tmp t::l,n,vs,h,hn=>by
  simp only[jf]at h;split at h
  .rename_i v m vs' h1 h2;cases h;have e1:=bc hA h1;simp only[Act.eval,TV.ev]at e1;have ih:=j9 hA l _ _ h2 hn;simp only[ab8,Sem.run_bind,Sem.run_pure,Result.andThen_ok,ih,Zf];rw[<-e1]
  .cases h
 | .cell p t::l,n,vs,h,hn=>by
  simp only[jf]at h;split at h
  .rename_i c m vs' h1 h2;split at h
   .rename_i k v hl;cases h;rw[bp,Zg]at hn;have e1:=bc hA h1;obtain⟨q,hq,hrun⟩:=tI hA.toMRel hl hn.1;simp only[Act.eval,TV.ev,SV.ev,hq]at e1;have ih:=j9 hA l _ _ h2 hn.2;have ea:(asAddr (a.tmps.getD p undef)).run P w=.ok q w:=by rw[e1];rfl
    simp only[ab8,Sem.run_bind,ea,Sem.run_pure,Result.andThen_ok,hrun,ih,Zf]
   .cases h
  .cases h
theorem yw (hA:Rel S w0 ρ st a w) {fn:Func} {n:E} {vs:List SV} (h:jf P st fn.results.toList=some (n,vs)) (hn:bN ρ n=true) :
 (results fn a.tmps).run P w=.ok ((zo vs).ev ρ) w:=by
 have key:=j9 hA _ _ _ h hn;unfold results;have hm:(fn.results.mapM fun(x:ResultVar)=>match x with
  | .tmp t=>(pure (a.tmps.getD t undef):Sem Value)
  | .cell p t=>do loadVar t (<-asAddr (a.tmps.getD p undef))).run P w=.ok (vs.map (SV.ev ρ)).toArray w:=by
  generalize fn.results=rs at *;obtain⟨l⟩:=rs;simp only[abU,Sem.run_map,key,Result.andThen_ok]
 simp only[Sem.run_bind];refine(ZW (fun r=>Result.andThen r _) hm).trans ?_;simp only[Result.andThen_ok,Sem.run_pure]
 congr 1
 match vs with
 | []=>simp [zo,TV.ev]
 | [v]=>simp [zo,TV.ev]
 | v::u::l=>simp [zo,TV.ev]
end
abbrev MA:=Option (List As×List (Nat×Option Nat))
def mI (n0:Nat) (t e:E):Option (List As) :=
 match t with
 | .var n=>if n0<=n then some [⟨n,0,.int .i64 e⟩]else if t=e then some []else none
 | t=>if t=e/\t.upto n0=true then some []else none
def mB (n0:Nat) (t e:E):Option (List As) :=
 match t with
 | .bvar n=>if n0<=n then some [⟨n,1,.bool e⟩]else if t=e then some []else none
 | t=>if t=e/\t.upto n0=true then some []else none
def mS (n0:Nat) (t e:E):Option (List As) :=
 match t with
 | .svar n=>if n0<=n then some [⟨n,2,.str e⟩]else if t=e then some []else none
 | t=>if t=e/\t.upto n0=true then some []else none
def yo:Option (List As)->Option (List As)->Option (List As)
 | some a,some b=>some (a++b)
 | _,_=>none
def Gh:CV->CV->Bool
 | .pti a o s n i,.pti a' o' s' n' i'=>decide (a=a')&&decide (o=o')&&decide (s=s')&&decide (n=n')&&decide (i=i')
 | .hv h x y j,.hv h' x' y' j'=>decide (h=h')&&decide (x=x')&&decide (y=y')&&decide (j=j')
 | .clo f x,.clo f' x'=>decide (f=f')&&decide (x=x')
 | _,_=>false
theorem JQ {a b:CV} (h:Gh a b=true):a=b:=by
 unfold Gh at h;split at h
 .simp only[Zg,Zc]at h;obtain⟨⟨⟨⟨rfl,rfl⟩,rfl⟩,rfl⟩,rfl⟩:=h;rfl
 .simp only[Zg,Zc]at h;obtain⟨⟨⟨rfl,rfl⟩,rfl⟩,rfl⟩:=h;rfl
 .simp only[Zg,Zc]at h;obtain⟨rfl,rfl⟩:=h;rfl
 .cases h
def Th (n0:Nat) (t c:CV):Option (List As) :=
 match t,c with
 | .int k e,.int k' e'=>if k=k' then mI n0 e e' else none
 | .bool e,.bool e'=>mB n0 e e'
 | .str e,.str e'=>mS n0 e e'
 | .hptr x y,.hptr x' y'=>yo (mI n0 x x') (mI n0 y y')
 | .sl x y l c,.sl x' y' l' c'=>yo (yo (mI n0 x x') (mI n0 y y')) (yo (mI n0 l l') (mI n0 c c'))
 | .map x,.map x'=>mI n0 x x'
 | .vr n,c=>if n0<=n then some [⟨n,3,c⟩]else match c with
  | .vr m=>if n=m then some []else none
  | _=>none
 | .val v,.val v'=>if DJ v v' then some []else none
 | t,c=>if Gh t c=true/\t.upto n0=true then some []else none
def mL (n0:Nat):List CV->List CV->Option (List As)
 | [],[]=>some []
 | a::l,b::m=>yo (Th n0 a b) (mL n0 l m)
 | _,_=>none
def wJ (n0:Nat):List SV->List SV->Option (List As)
 | [],[]=>some []
 | .one a::l,.one b::m=>yo (Th n0 a b) (wJ n0 l m)
 | .agg a::l,.agg b::m=>yo (mL n0 a b) (wJ n0 l m)
 | _,_=>none
def Vw (n0:Nat):TV->TV->Option (List As)
 | .sv (.one a),.sv (.one b)=>Th n0 a b
 | .sv (.agg l),.sv (.agg m)=>mL n0 l m
 | .tup l,.tup m=>wJ n0 l m
 | _,_=>none
def nX (n0:Nat):List (Option TV)->List (Option TV)->Option (List As)
 | [],[]=>some []
 | none::l,_::m=>nX n0 l m
 | some a::l,some b::m=>yo (Vw n0 a b) (nX n0 l m)
 | _,_=>none
def QZ (n0:Nat) (t:bx) (r:Option bx):MA :=
 match t,r with
 | .dead,_=>some ([],[])
 | .bD a l T,some (.bD a' l' T')=>if T=T' then
  if n0<=a then(mL n0 l l').map fun A=>(⟨a,0,.int .i64 (.var a')⟩::A,[])else if a=a' then(mL n0 l l').map fun A=>(A,[])else none
  else none
 | .hp k _ _ _,some (.hp k' _ _ _)=>if n0<=k then some ([],[(k,some k')])else if k=k' then some ([],[])else none
 | .hp k _ _ _,some .dead=>if n0<=k then some ([],[(k,none)])else none
 | .hp k _ _ _,none=>if n0<=k then some ([],[(k,none)])else none
 | .ro k _ _,some (.ro k' _ _)=>if k<n0/\k=k' then some ([],[])else none
 | _,_=>none
def N8 (n0:Nat):Mem->Mem->MA
 | [],_=>some ([],[])
 | r::l,m=>match QZ n0 r m.head?,N8 n0 l m.tail with
  | some (a,h),some (b,g)=>some (a++b,h++g)
  | _,_=>none
def lL:List As->Bool
 | []=>true
 | a::l=>(l.all fun x=>!(x.n==a.n&&x.k==a.k))&&lL l
def lN:List (Nat×Option Nat)->Bool
 | []=>true
 | a::l=>(l.all fun x=>!(x.1==a.1))&&lN l
def N9 (n0:Nat) (h s:St):MA :=
 match nX n0 h.tmps s.tmps,N8 n0 h.mem s.mem with
 | some a,some (b,g)=>if lL (a++b)&&lN g&&((a++b).all fun x=>decide (n0<=x.n))&&(g.all fun x=>decide (n0<=x.1))&&(h.path.all fun e=>e.upto n0&&s.path.contains e)&&decide (n0<=h.nv)then some (a++b,g)else none
 | _,_=>none
def M3 (m:Mem) (p q:Nat):Mem:=match m[p]?,m[q]? with
 | some a,some b=>(m.set p b).set q a
 | _,_=>m
def Q9 (m:Mem) (n:Nat):Mem:=m++List.replicate (n-m.length) .dead
def K8 (n0:Nat) (A:List As):Mem->Nat->Mem->Mem
 | [],_,m=>m
 | .hp k _ (.var a::_) _::l,p,m=>K8 n0 A l (p+1) (if n0<=k/\n0<=a then match A.find? (fun x=>x.n==a&&x.k==0)with
  | some ⟨_,_,.int _ e⟩=>match posOf m e with
   | some (q,r)=>if r.own=true then M3 m p q else m
   | none=>m
  | _=>m
  else m)
 | _::l,p,m=>K8 n0 A l (p+1) m
def Uc (n0:Nat) (h s:St):MA:=match nX n0 h.tmps s.tmps with
 | some A=>match N9 n0 h {s with mem:=K8 n0 A h.mem 0 (Q9 s.mem h.mem.length)} with
  | some r=>some r
  | none=>N9 n0 h s
 | none=>none
section
variable {P:Program} {C:Ctx} {ms:Nat->Nat} {S:Nat->Prop} {w0:World} {ρ ρ':Env} {st:St} {mem mem':Mem} {a:Act} {w w':World} {n0:Nat} {A:List As} {hs:List (Nat×Option Nat)}
theorem dS (hA:A.all (fun x=>decide (n0<=x.n))=true) (hh:hs.all (fun x=>decide (n0<=x.1))=true):ah n0 ρ (assign ρ A hs):=by
 rw[ZF]at hA hh;have key:∀ k j,k<n0->A.find? (fun a=>a.n==k&&a.k==j)=none:=fun k j hk=>by
  rw[aa2];intro x hx;have:=hA x hx;simp only[Zc]at this;simp;omega
 refine⟨fun k hk=>?_,fun k hk=>?_,fun k hk=>?_,fun k hk=>?_,fun k hk=>?_⟩
 .simp only[assign,key k 0 hk]
 .simp only[assign,key k 1 hk]
 .simp only[assign,key k 2 hk]
 .simp only[assign,key k 3 hk]
 .have:hs.find? (fun p=>p.1==k)=none:=by
   rw[aa2];intro x hx;have:=hh x hx;simp only[Zc]at this;simp;omega
  simp only[assign,this]
theorem fy:∀ {A:List As},lL A=true->∀ x∈A,A.find? (fun a=>a.n==x.n&&a.k==x.k)=some x
 | [],_,_,h=>by cases h
 | y::l,h,x,hx=>by
  simp only[lL,Zg,ZF,aaf]at h;rw[ab3];rcases Zl.1 hx with rfl | hx
  .simp
  .have:=h.1 x hx;have hb:(y.n==x.n&&y.k==x.k)=false:=by
    rw[<-this];congr 1<;>exact Bool.beq_comm
   rw[hb];exact fy h.2 x hx
theorem im:∀ {A:List (Nat×Option Nat)},lN A=true->∀ x∈A,A.find? (fun a=>a.1==x.1)=some x
 | [],_,_,h=>by cases h
 | y::l,h,x,hx=>by
  simp only[lN,Zg,ZF,aaf]at h;rw[ab3];rcases Zl.1 hx with rfl | hx
  .simp
  .have:=h.1 x hx;have hb:(y.1==x.1)=false:=by rw[<-this];exact Bool.beq_comm
   rw[hb];exact im h.2 x hx
section
variable (hd:lL A=true) (hall:A.all (fun x=>decide (n0<=x.n))=true) (hh:hs.all (fun x=>decide (n0<=x.1))=true) (hdh:lN hs=true)
include hd hall hh
theorem jb {t e:E} {x:List As} (hm:mI n0 t e=some x) (hx:∀ y∈x,y∈A):aC (assign ρ A hs) t=aC ρ e:=by
 have hg:ah n0 ρ (assign ρ A hs):=dS hall hh;unfold mI at hm;split at hm
 .rename_i n;split at hm
  .cases hm;have:=fy hd _ (hx _ (Zn.2 rfl));simp only[aj,assign,this,CV.ev,cW]
  .split at hm
   .rename_i he;subst he;exact cR hg (by simp only[E.upto,Zc];omega)
   .cases hm
 .split at hm
  .rename_i hc;obtain⟨rfl,hu⟩:=hc;exact cR hg hu
  .cases hm
theorem LN {t e:E} {x:List As} (hm:mB n0 t e=some x) (hx:∀ y∈x,y∈A):bN (assign ρ A hs) t=bN ρ e:=by
 have hg:ah n0 ρ (assign ρ A hs):=dS hall hh;unfold mB at hm;split at hm
 .rename_i n;split at hm
  .cases hm;have:=fy hd _ (hx _ (Zn.2 rfl));simp only[cn,assign,this,CV.ev,yA]
  .split at hm
   .rename_i he;subst he;exact jK hg (by simp only[E.upto,Zc];omega)
   .cases hm
 .split at hm
  .rename_i hc;obtain⟨rfl,hu⟩:=hc;exact jK hg hu
  .cases hm
theorem LO {t e:E} {x:List As} (hm:mS n0 t e=some x) (hx:∀ y∈x,y∈A):jq (assign ρ A hs) t=jq ρ e:=by
 have hg:ah n0 ρ (assign ρ A hs):=dS hall hh;unfold mS at hm;split at hm
 .rename_i n;split at hm
  .cases hm;have:=fy hd _ (hx _ (Zn.2 rfl));simp only[av,assign,this,CV.ev,M9]
  .split at hm
   .rename_i he;subst he;exact sY hg (by simp only[E.upto,Zc];omega)
   .cases hm
 .split at hm
  .rename_i hc;obtain⟨rfl,hu⟩:=hc;exact sY hg hu
  .cases hm
omit hd hall hh in
theorem gP {x y:Option (List As)} {z:List As} (h:yo x y=some z):∃ u v,x=some u/\y=some v/\z=u++v:=by
 unfold yo at h;split at h
 .cases h;exact⟨_,_,rfl,rfl,rfl⟩
 .cases h
theorem sH {t c:CV} {x:List As} (hm:Th n0 t c=some x) (hx:∀ y∈x,y∈A):t.ev (assign ρ A hs)=c.ev ρ:=by
 unfold Th at hm;split at hm
 .split at hm
  .rename_i hk;subst hk;simp only[CV.ev,jb hd hall hh hm hx]
  .cases hm
 .simp only[CV.ev,LN hd hall hh hm hx]
 .simp only[CV.ev,LO hd hall hh hm hx]
 .obtain⟨u,v,h1,h2,rfl⟩:=gP hm;simp only[CV.ev,jb hd hall hh h1 (fun y hy=>hx y (aas _ hy)),jb hd hall hh h2 (fun y hy=>hx y (aao _ hy))]
 .obtain⟨u,v,h1,h2,rfl⟩:=gP hm;obtain⟨u1,u2,h11,h12,rfl⟩:=gP h1;obtain⟨v1,v2,h21,h22,rfl⟩:=gP h2;simp only[CV.ev,jb hd hall hh h11 (fun y hy=>hx y (by simp [hy])),jb hd hall hh h12 (fun y hy=>hx y (by simp [hy])),jb hd hall hh h21 (fun y hy=>hx y (by simp [hy])),jb hd hall hh h22 (fun y hy=>hx y (by simp [hy]))]
 .simp only[CV.ev,jb hd hall hh hm hx]
 .rename_i n c;split at hm
  .cases hm;have:=fy hd _ (hx _ (Zn.2 rfl));simp only[CV.ev,assign,this]
  .split at hm
   .rename_i m;split at hm
    .rename_i he;subst he;exact CV.cx (dS hall hh) _ (by simp only[CV.upto,Zc];omega)
    .cases hm
   .cases hm
 .split at hm
  .rename_i hv;simp only[CV.ev,xN hv]
  .cases hm
 .split at hm
  .rename_i hv;rw[<-JQ hv.1];exact CV.cx (dS hall hh) _ hv.2
  .cases hm
theorem nV:∀ (l m:List CV) (x:List As),mL n0 l m=some x->(∀ y∈x,y∈A)->l.map (CV.ev (assign ρ A hs))=m.map (CV.ev ρ)
 | [],[],_,_,_=>rfl
 | a::l,b::m,x,h,hx=>by
  simp only[mL]at h;obtain⟨u,v,h1,h2,rfl⟩:=gP h;simp only[Zf,sH hd hall hh h1 (fun y hy=>hx y (aas _ hy)),nV l m v h2 (fun y hy=>hx y (aao _ hy))]
 | [],_::_,_,h,_=>by simp [mL]at h
 | _::_,[],_,h,_=>by simp [mL]at h
theorem qk:∀ (l m:List SV) (x:List As),wJ n0 l m=some x->(∀ y∈x,y∈A)->l.map (SV.ev (assign ρ A hs))=m.map (SV.ev ρ)
 | [],[],_,_,_=>rfl
 | .one a::l,.one b::m,x,h,hx=>by
  simp only[wJ]at h;obtain⟨u,v,h1,h2,rfl⟩:=gP h;simp only[Zf,SV.ev,sH hd hall hh h1 (fun y hy=>hx y (aas _ hy)),qk l m v h2 (fun y hy=>hx y (aao _ hy))]
 | .agg a::l,.agg b::m,x,h,hx=>by
  simp only[wJ]at h;obtain⟨u,v,h1,h2,rfl⟩:=gP h;simp only[Zf,SV.ev,nV hd hall hh _ _ _ h1 (fun y hy=>hx y (aas _ hy)),qk l m v h2 (fun y hy=>hx y (aao _ hy))]
 | [],_::_,_,h,_=>by simp [wJ]at h
 | .one _::_,[],_,h,_=>by simp [wJ]at h
 | .agg _::_,[],_,h,_=>by simp [wJ]at h
 | .one _::_,.agg _::_,_,h,_=>by simp [wJ]at h
 | .agg _::_,.one _::_,_,h,_=>by simp [wJ]at h
theorem Jc {t c:TV} {x:List As} (hm:Vw n0 t c=some x) (hx:∀ y∈x,y∈A):t.ev (assign ρ A hs)=c.ev ρ:=by
 unfold Vw at hm;split at hm
 .exact sH hd hall hh hm hx
 .simp only[TV.ev,SV.ev,nV hd hall hh _ _ _ hm hx]
 .simp only[TV.ev,qk hd hall hh _ _ _ hm hx]
 .cases hm
theorem nY:∀ (l m:List (Option TV)) (x:List As),nX n0 l m=some x->(∀ y∈x,y∈A)->l.length=m.length/\∀ (t:Nat) v,l[t]?=some (some v)->∃ u,m[t]?=some (some u)/\v.ev (assign ρ A hs)=u.ev ρ
 | [],[],_,_,_=>⟨rfl,fun t v h=>by simp at h⟩
 | none::l,b::m,x,h,hx=>by
  simp only[nX]at h;obtain⟨h1,h2⟩:=nY l m x h hx;refine⟨by simp [h1],fun t v hv=>?_⟩;cases t with
  | zero=>simp at hv
  | succ t=>simpa using h2 t v (by simpa using hv)
 | some c::l,some b::m,x,h,hx=>by
  simp only[nX]at h;obtain⟨u,v,h1,h2,rfl⟩:=gP h;obtain⟨e1,e2⟩:=nY l m v h2 (fun y hy=>hx y (aao _ hy));refine⟨by simp [e1],fun t v hv=>?_⟩;cases t with
  | zero =>
   simp only[Z6,Zj]at hv;subst hv;exact⟨b,rfl,Jc hd hall hh h1 (fun y hy=>hx y (aas _ hy))⟩
  | succ t=>simpa using e2 t v (by simpa using hv)
 | some _::_,none::_,_,h,_=>by simp [nX]at h
 | [],_::_,_,h,_=>by simp [nX]at h
 | none::_,[],_,h,_=>by simp [nX]at h
 | some _::_,[],_,h,_=>by simp [nX]at h
include hdh
theorem Fi {t:bx} {r:Option bx} {x:List As} {g:List (Nat×Option Nat)} (hm:QZ n0 t r=some (x,g)) (hx:∀ y∈x,y∈A) (hg:∀ y∈g,y∈hs) :
 (∃ s,r=some s/\t.hl (assign ρ A hs)=s.hl ρ/\(t.own=true->s.own=true)/\(s.pos ρ->t.pos (assign ρ A hs)))\/(t.hl (assign ρ A hs)=Hl.none/\t.pos (assign ρ A hs)):=by
 unfold QZ at hm;split at hm
 .right;exact⟨rfl,trivial⟩
 .rename_i a l T a' l' T';split at hm
  .rename_i hT;subst hT;left;split at hm
   .simp only[Zk,Z0]at hm;obtain⟨B,hB,rfl,rfl⟩:=hm;have e1:(assign ρ A hs).i a=ρ.i a':=by
     have:=fy hd _ (hx _ (ZJ ..));simp only[assign,this,CV.ev,cW,aj]
    refine⟨_,rfl,?_,fun _=>rfl,?_⟩
    .simp only[bx.hl,e1,nV hd hall hh _ _ _ hB (fun y hy=>hx y (Zu _ hy))]
    .simp only[bx.pos,e1];exact id
   .split at hm
    .rename_i hlt he;subst he;simp only[Zk,Z0]at hm;obtain⟨B,hB,rfl,rfl⟩:=hm;have e1:(assign ρ A hs).i a=ρ.i a:=(dS hall hh).i a;refine⟨_,rfl,?_,fun _=>rfl,?_⟩
     .simp only[bx.hl,e1,nV hd hall hh _ _ _ hB hx]
     .simp only[bx.pos,e1];exact id
    .cases hm
  .cases hm
 .rename_i k _ _ _ k' _ _ _;split at hm
  .cases hm;have:=im hdh _ (hg _ (Zn.2 rfl));left;exact⟨_,rfl,by simp only[bx.hl,assign,this],fun _=>rfl,fun _=>trivial⟩
  .split at hm
   .rename_i hlt he;subst he;left;exact⟨_,rfl,by simp only[bx.hl];exact(dS hall hh).h k,fun _=>rfl,fun _=>trivial⟩
   .cases hm
 .rename_i k _ _ _;split at hm
  .cases hm;have:=im hdh _ (hg _ (Zn.2 rfl));right;exact⟨by simp only[bx.hl,assign,this],trivial⟩
  .cases hm
 .rename_i k _ _ _;split at hm
  .cases hm;have:=im hdh _ (hg _ (Zn.2 rfl));right;exact⟨by simp only[bx.hl,assign,this],trivial⟩
  .cases hm
 .rename_i k _ _ k' _ _;split at hm
  .rename_i hc;obtain⟨hlt,rfl⟩:=hc;cases hm;left;exact⟨_,rfl,by simp only[bx.hl];exact(dS hall hh).h k hlt,fun h=>h,fun _=>trivial⟩
  .cases hm
 .cases hm
theorem wI:∀ (l m:Mem) (x:List As) (g:List (Nat×Option Nat)),N8 n0 l m=some (x,g)->(∀ y∈x,y∈A)->(∀ y∈g,y∈hs)->∀ (p:Nat) t,l[p]?=some t ->
 (∃ s,m[p]?=some s/\t.hl (assign ρ A hs)=s.hl ρ/\(t.own=true->s.own=true)/\(s.pos ρ->t.pos (assign ρ A hs)))\/(t.hl (assign ρ A hs)=Hl.none/\t.pos (assign ρ A hs))
 | [],_,_,_,_,_,_,p,t,h=>by simp at h
 | r::l,m,x,g,h,hx,hg,p,t,hp=>by
  simp only[N8]at h;split at h
  .rename_i a1 h1 b1 g1 e1 e2;cases h;cases p with
   | zero =>
    simp only[Z6,Zj]at hp;subst hp;have:=Fi (ρ:=ρ) hd hall hh hdh e1 (fun y hy=>hx y (aas _ hy)) (fun y hy=>hg y (aas _ hy));rwa[List.head?_eq_getElem?]at this
   | succ p =>
    have:=wI l m.tail _ _ e2 (fun y hy=>hx y (aao _ hy)) (fun y hy=>hg y (aao _ hy)) p t (by simpa using hp);rwa[List.getElem?_tail]at this
  .cases h
end
theorem MRel.map (h:MRel S w0 ρ mem w) (hm:∀ (p:Nat) t,mem'[p]?=some t->(∃ s,mem[p]?=some s/\t.hl ρ'=s.hl ρ/\(t.own=true->s.own=true)/\(s.pos ρ->t.pos ρ'))\/(t.hl ρ'=Hl.none/\t.pos ρ')):MRel S w0 ρ' mem' w:=by
 refine⟨h.fz,fun r hr=>?_,fun r hr ho b hb=>?_,fun p q r s hpq hp hq ho=>?_,fun r hr=>?_⟩
 .obtain⟨p,hp⟩:=Z7 hr;rcases hm p r hp with ⟨s,hs,e,_⟩ | ⟨e,_⟩
  .rw[e];exact h.sub s (Zb hs)
  .rw[e];intro b o hb;cases hb
 .obtain⟨p,hp⟩:=Z7 hr;rcases hm p r hp with ⟨s,hs,e,h1,_⟩ | ⟨e,_⟩
  .rw[e]at hb;exact h.own s (Zb hs) (h1 ho) b hb
  .rw[e]at hb;cases hb
 .rcases hm p r hp with ⟨s',hs,e,h1,_⟩ | ⟨e,_⟩
  .rcases hm q s hq with ⟨t',ht,f,_,_⟩ | ⟨f,_⟩
   .rw[e,f];exact h.cG p q s' t' hpq hs ht (h1 ho)
   .rw[f];rintro b ⟨_,y⟩;cases y
  .rw[e];rintro b ⟨y,_⟩;cases y
 .obtain⟨p,hp⟩:=Z7 hr;rcases hm p r hp with ⟨s,hs,_,_,h1⟩ | ⟨_,e⟩
  .exact h1 (h.pos s (Zb hs))
  .exact e
theorem wK {h s:St} (hm:N9 n0 h s=some (A,hs)) (hA:Rel S w0 ρ s a w):Rel S w0 (assign ρ A hs) h a w/\ah n0 ρ (assign ρ A hs)/\n0<=h.nv:=by
 unfold N9 at hm;split at hm
 .rename_i a1 b1 g1 e1 e2;split at hm
  .rename_i hc;obtain⟨rfl,rfl⟩:a1++b1=A/\g1=hs:=by simpa using hm
   simp only[Zg,Zc]at hc;obtain⟨⟨⟨⟨⟨hd,hdh⟩,hall⟩,hh⟩,hp⟩,hnv⟩:=hc;have hg:ah n0 ρ (assign ρ (a1++b1) g1):=dS hall hh;obtain⟨t1,t2⟩:=nY (ρ:=ρ) hd hall hh _ _ _ e1 (fun y hy=>aas _ hy);have m1:=wI (ρ:=ρ) hd hall hh hdh _ _ _ _ e2 (fun y hy=>aao _ hy) (fun y hy=>hy);refine⟨⟨hA.toMRel.map m1,by rw[t1];exact hA.size,hA.defers,fun t v hv=>?_,fun e he=>?_⟩,hg,hnv⟩
   .obtain⟨u,hu,ev⟩:=t2 t v hv;rw[ev];exact hA.tmp t u hu
   .rw[ZF]at hp;have:=hp e he;simp only[Zg]at this;rw[jK hg this.1];exact hA.path e (by simpa using this.2)
  .cases hm
 .cases hm
theorem MRel.of_map (h:MRel S w0 ρ mem w) {mem':Mem} (σ:Nat->Nat) (hi:∀ i j,σ i=σ j->i=j) (hs:∀ (i:Nat) r,mem'[i]?=some r->mem[σ i]?=some r\/r=.dead):MRel S w0 ρ mem' w:=by
 have dead:∀ (r:bx),r=.dead->(r.hl ρ).sub w/\(∀ b,¬(r.hl ρ).mem b)/\r.pos ρ:=fun r e=>by
  subst e;exact⟨fun b o hb=>(by cases hb),fun b hb=>(by cases hb),trivial⟩
 refine⟨h.fz,fun r hr=>?_,fun r hr ho b hb=>?_,fun p q r s hpq hp hq ho=>?_,fun r hr=>?_⟩
 .obtain⟨i,hi'⟩:=Z7 hr;rcases hs i r hi' with e | e
  .exact h.sub r (Zb e)
  .exact(dead r e).1
 .obtain⟨i,hi'⟩:=Z7 hr;rcases hs i r hi' with e | e
  .exact h.own r (Zb e) ho b hb
  .exact absurd hb ((dead r e).2.1 b)
 .rcases hs p r hp with e | e
  .rcases hs q s hq with e' | e'
   .exact h.cG _ _ r s (fun he=>hpq (hi p q he)) e e' ho
   .exact fun b ⟨_,y⟩=>(dead s e').2.1 b y
  .exact fun b ⟨x,_⟩=>(dead r e).2.1 b x
 .obtain⟨i,hi'⟩:=Z7 hr;rcases hs i r hi' with e | e
  .exact h.pos r (Zb e)
  .exact(dead r e).2.2
theorem MRel.pad (h:MRel S w0 ρ mem w) (n:Nat):MRel S w0 ρ (Q9 mem n) w:=by
 refine h.of_map id (fun _ _ e=>e) fun i r hr=>?_;unfold Q9 at hr;rcases aaa i mem.length with hl | hl
 .rw[ZH hl]at hr;exact Or.inl hr
 .rw[Zz hl]at hr;exact Or.inr (abl (Zb hr))
theorem MRel.swap (h:MRel S w0 ρ mem w) (p q:Nat):MRel S w0 ρ (M3 mem p q) w:=by
 unfold M3;split
 .rename_i a b hp hq;have lp:=(Zi.1 hp).1;have lq:=(Zi.1 hq).1;refine h.of_map (fun i=>if i=p then q else if i=q then p else i) (fun i j e=>?_) fun i r hr=>Or.inl ?_
  .have e:(if i=p then q else if i=q then p else i)=(if j=p then q else if j=q then p else j):=e;split at e<;>split at e<;>(try split at e)<;>(try split at e)<;>omega
  .show mem[if i=p then q else if i=q then p else i]?=_;by_cases h1:i=q
   .subst h1;rw[aag (by simpa using lq)]at hr;by_cases h2:i=p
    .subst h2;rw[ZA rfl];rw[hq]at hp ⊢;rw[<-hr];exact hp
    .rw[Zo h2,ZA rfl,hp];exact hr
   .rw[aab (fun e=>h1 e.symm)]at hr;by_cases h2:i=p
    .subst h2;rw[aag lp]at hr;rw[ZA rfl,hq];exact hr
    .rw[aab (fun e=>h2 e.symm)]at hr;rw[Zo h2,Zo h1];exact hr
 .exact h
theorem MRel.fix:∀ (l:Mem) (p:Nat) {m:Mem},MRel S w0 ρ m w->MRel S w0 ρ (K8 n0 A l p m) w
 | [],_,_,h=>h
 | r::l,p,m,h=>by
  unfold K8;split
  .exact h
  .rename_i heq;cases heq;refine MRel.fix _ _ ?_;split
   .split
    .split
     .split
      .exact h.swap _ _
      .exact h
     .exact h
    .exact h
   .exact h
  .rename_i heq;cases heq;exact MRel.fix _ _ h
theorem yY {h s:St} (hm:Uc n0 h s=some (A,hs)) (hA:Rel S w0 ρ s a w):Rel S w0 (assign ρ A hs) h a w/\ah n0 ρ (assign ρ A hs)/\n0<=h.nv:=by
 unfold Uc at hm;split at hm
 .rename_i A0 h0;split at hm
  .rename_i r hr;cases hm;exact wK hr ⟨(hA.toMRel.pad _).fix _ _,hA.size,hA.defers,hA.tmp,hA.path⟩
  .exact wK hm hA
 .cases hm
end
section
variable {P:Program} {C:Ctx} {S:Nat->Prop} {w0:World} {ρ ρ':Env} {st:St} {mem mem':Mem} {a:Act} {w w':World}
def zX (P:Program) (C:Ctx) (ex:Ex):Prop:=∀ d path c st k nd ms S w0 ρ a w (Q:Exit->Act->World->Prop),ex d path c st k=some nd->Rel S w0 ρ st a w->nd.holds C ms ρ ->
 (∀ t,Kl S w0 C d ms st.nv ρ (k t) (Q (vJ t)))->c.wp P Q a w
theorem pM {ex:Ex} (hex:zX P C ex) {d:Nat} {ms:Nat->Nat} {f:FuncId} {args:List TV} {k:TV->St->Option Nd} {nd:Nd} (h:uK P ex d f args st k=some nd) (hm:MRel S w0 ρ st.mem w) (hp:Path ρ st.path) (hn:nd.holds C ms ρ)
 {R:Value->World->Prop} (hk:∀ ms' r st' nd' ρ' w',(∀ i,i<d->ms' i=ms i)->k r st'=some nd'->ah st.nv ρ ρ'->MRel S w0 ρ' st'.mem w'->Path ρ' st'.path->nd'.holds C ms' ρ'->R (r.ev ρ') w') :
 Calls P f (args.map (TV.ev ρ)).toArray w fun e w'=>∃ v,e=.returned v/\R v w':=by
 unfold uK at h;split at h
 .rename_i fn hf;split at h
  .rename_i c hb;refine calls_of_wp hf hb ?_;have hrel:Rel S w0 ρ ⟨args.map some++List.replicate (fn.ntmps-args.length) none,st.mem,st.nv,st.path⟩ {tmps:=(args.map (TV.ev ρ)).toArray++Array.replicate (fn.ntmps-(args.map (TV.ev ρ)).toArray.size) undef,defers:=[]} w:=by
    refine⟨hm,by simp,rfl,?_,hp⟩;intro t v hs;have hs':(args.map some++List.replicate (fn.ntmps-args.length) none)[t]?=some (some v):=hs;rw[abc]at hs';split at hs'
    .rename_i hlt;rw[Zs,Zk]at hs';obtain⟨u,hu1,hu2⟩:=hs';cases hu2;have hlt':t<args.length:=by simpa using hlt
     rw[Array.getElem?_append,ZA (by simpa using hlt')];simp [hu1]
    .rw[aaX]at hs';split at hs'<;>cases hs'
   refine hex _ _ _ _ _ _ ms _ _ _ _ _ _ h hrel hn fun t=>?_;intro ms' st' nd' ρ' a' w' hms hk' hg hA hn';have key:∀ (t:Tag),(match jf P st' fn.results.toList with
    | some (n,vs)=>CW st' n fun s=>k (zo vs) s
    | none=>none)=some nd'->a'.defers=[]/\∃ v,(results fn a'.tmps).run P w'=.ok v w'/\∃ v',Ending.returned v=.returned v'/\R v' w':=by
    intro t hk';split at hk'
    .rename_i n vs hv;obtain⟨hb,st'',nd'',cX,he,hA2,hn2⟩:=tN hk' hA hn';refine⟨hA.defers,_,yw hA hv hb,_,rfl,?_⟩;exact hk ms' _ st'' nd'' ρ' w' hms cX hg hA2.toMRel hA2.path hn2
    .cases hk'
   cases t with
   | norm=>exact key .norm hk'
   | ret=>exact key .ret hk'
   | exit i=>cases hk'
  .cases h
 .cases h
theorem MRel.L8 (h:MRel S w0 ρ mem w) {p q:Nat} {r1 r2 r':bx} (hp:mem[p]?=some r1) (hq:mem[q]?=some r2) (hpq:q≠p) (o1:r1.own=true) (o2:r2.own=true) (hag:∀ s∈mem,s.same ρ ρ')
 (hnew:r'.hl ρ'=(r1.hl ρ).un (r2.hl ρ)) (hpos:r'.pos ρ'):MRel S w0 ρ' ((mem.set p r').set q .dead) w:=by
 have hlp:p<mem.length:=(Zi.1 hp).1;have hlq:q<mem.length:=(Zi.1 hq).1;have gp:((mem.set p r').set q bx.dead)[p]?=some r':=by
  rw[aab hpq,aag hlp]
 have gq:((mem.set p r').set q bx.dead)[q]?=some .dead:=aag (by simpa using hlq);refine h.te (fun b=>(r1.hl ρ).mem b\/(r2.hl ρ).mem b) (fun j=>j=p\/j=q) ?_ rfl rfl rfl (ZB _) (fun b _ _=>rfl) ?_ ?_ ?_
 .rintro b (hb | hb)
  .exact⟨r1,Zb hp,o1,hb⟩
  .exact⟨r2,Zb hq,o2,hb⟩
 .intro j s hj hn;have h1:j≠p:=fun e=>hn (Or.inl e);have h2:j≠q:=fun e=>hn (Or.inr e);rw[aab h2.symm,aab h1.symm]at hj;refine⟨hj,hag s (Zb hj),fun b hb hu=>?_⟩;rcases hu with hu | hu
  .exact h.cG p j r1 s h1.symm hp hj o1 b ⟨hu,hb⟩
  .exact h.cG q j r2 s h2.symm hq hj o2 b ⟨hu,hb⟩
 .intro j s hj hn;rcases hn with rfl | rfl
  .rw[gp]at hj;cases hj;refine⟨⟨?_,hpos⟩,fun b hb=>?_⟩
   .rw[hnew];exact Hl.GK (h.sub _ (Zb hp)) (h.sub _ (Zb hq))
   .rw[hnew]at hb;exact Or.inl (Hl.dN.1 hb)
  .rw[gq]at hj;cases hj;exact⟨⟨fun b o hb=>(by cases hb),trivial⟩,fun b hb=>(by cases hb)⟩
 .intro j j' s s' hne h1 h2 hj hj' ho;rcases h1 with rfl | rfl
  .rcases h2 with rfl | rfl
   .exact absurd rfl hne
   .rw[gq]at hj';cases hj';exact fun b ⟨_,y⟩=>by cases y
  .rw[gq]at hj;cases hj;exact fun b ⟨x,_⟩=>by cases x
theorem mQ {mem:Mem} {p:Nat} : ∀ {l:List CV} {y:E} {q:Nat} {r:bx},L9 mem p l=some (y,q,r)->mem[q]?=some r/\r.own=true/\q≠p
 | c::l,y,q,r,h=>by
  unfold L9 at h;split at h
  .rename_i y' q' r' hb;split at h
   .rename_i hc;cases h;cases hr:ou c with
    | none=>rw[hr]at hb;cases hb
    | some z =>
     rw[hr]at hb;simp only[aaQ,Zk]at hb;obtain⟨a,ha,e⟩:=hb;cases e;exact⟨bQ ha,hc.1,hc.2⟩
   .exact mQ h
  .exact mQ h
theorem CT {o:Oper} {s:St} {x:X} (h:zc P st o=some (s,x)) (hA:Rel S w0 ρ st a w):∃ ρ',ah st.nv ρ ρ'/\x.n=st.nv/\x.rel C ρ ρ'/\st.nv<=s.nv/\Rel S w0 ρ' s a w:=by
 unfold zc at h;split at h
 .split at h
  .rename_i p k vers tags links hp;split at h
   .rename_i y q r hq;split at h
    .rename_i hu;cases h;have hp:=bQ hp;obtain⟨h1,h2,h3⟩:=mQ hq;have hg:ah st.nv ρ (ρ.kj st.nv (((bx.hp k vers tags links).hl ρ).un (r.hl ρ))):=eD _ _ _ (ZB _);refine⟨_,hg,rfl,⟨fI _ _ _,hA.cG p q _ _ h3.symm hp h1 rfl⟩,by show st.nv<=st.nv+1;omega,Rel.nh hg hu hA ?_ _⟩;exact hA.toMRel.L8 hp h1 h3 rfl h2 (Mem.cx hg (St.dn hu)) (fI _ _ _) trivial
    .cases h
   .cases h
  .cases h
 .cases h
theorem wT {o:Oper} {ms:Nat->Nat} {k:St->Option Nd} : ∀ (n:Nat) {st:St} {ρ:Env} {nd:Nd},Oe P o k n st=some nd->Rel S w0 ρ st a w->nd.holds C ms ρ->∃ ρ' s nd',ah st.nv ρ ρ'/\st.nv<=s.nv/\k s=some nd'/\Rel S w0 ρ' s a w/\nd'.holds C ms ρ'
 | 0,st,ρ,nd,h,hA,hn=>⟨ρ,st,nd,ah.refl _ _,ZB _,h,hA,hn⟩
 | n+1,st,ρ,nd,h,hA,hn=>by
  unfold Oe at h;split at h
  .rename_i s x hm;simp only[Zk]at h;obtain⟨nd1,h1,rfl⟩:=h;obtain⟨ρ1,g1,e1,r1,l1,A1⟩:=CT (C:=C) hm hA;have hn1:nd1.holds C ms ρ1:=hn ρ1 (by rw[e1];exact g1) r1;obtain⟨ρ2,s2,nd2,g2,l2,h2,A2,hn2⟩:=wT n h1 A1 hn1;exact⟨ρ2,s2,nd2,g1.trans (g2.mono l1),abk l1 l2,h2,A2,hn2⟩
  .exact⟨ρ,st,nd,ah.refl _ _,ZB _,h,hA,hn⟩
theorem kO {ex:Ex} (hΓ:∀ s∈C.Γ,s.OK P) (hex:zX P C ex) {d:Nat} {ms:Nat->Nat} {o:Oper} {k:St->Option Nd} {nd:Nd} (h:r9 P C.Γ ex d o st k=some nd) (hA:Rel S w0 ρ st a w) (hn:nd.holds C ms ρ)
 {K:Act->World->Prop} {Q:Exit->Act->World->Prop} (hk:Kl S w0 C d ms st.nv ρ k K):o.wp P a w K Q:=by
 unfold r9 at h;split at h
 .rename_i n v hq;obtain⟨hb,st',nd',hk',he,hA',hn'⟩:=tN h hA hn;refine eV (oi hA hq hb) (hk ms _ nd' ρ _ w (fun _ _=>rfl) hk' (ah.refl _ _) ?_ hn');exact Rel.put hA' _ _ _ (fun y hy=>by cases hy;rfl)
 .obtain⟨ρ1,s1,nd1,g1,l1,h1,hA1,hn1⟩:=wT 4 h hA hn;replace hk:=hk.fC (fun _ _=>rfl) g1 l1;clear h hn hA;rename_i hqq;clear hqq;revert h1;generalize s1=st1 at *;intro h;have hA:=hA1;have hn:=hn1;split at h
  .rename_i R hR;split at h
   .rename_i hnv;simp only[Zk]at h;obtain⟨nd',hk',rfl⟩:=h;rw[dY]at hn;refine vN (Q:=Q) hΓ hA hR hn.1 (fun ρ' x w' hg hx hA'=>?_);refine hk ms _ nd' ρ' _ w' (fun _ _=>rfl) hk' hg hA' ?_;have hn2:=hn.2;cases hRx:R.x with
    | none=>rw[hRx]at hn2 hx;subst hx;exact hn2
    | some y =>
     rw[hRx]at hn2 hx;exact hn2 ρ' (by rw[hx.2];exact hg) hx.1
   .cases h
  .split at h
   .rename_i c args ats hop;split at h
    .rename_i f vs hc hx;split at h
     .rename_i hcond;simp only[Zg]at hcond;refine Iz hop (nI hA hc) hcond.1 (hZ hA _ _ hx) ?_;refine pM hex h hA.toMRel hA.path hn fun ms' r st' nd' ρ' w' hms hk' hg hm hp hn'=>?_;split at hk'
      .rename_i hnv;refine hk ms' _ nd' ρ' _ w' hms hk' hg ?_ hn';have hAg:=hA.cx hg hcond.2;exact Rel.put (st:={st' with tmps:=st1.tmps}) ⟨hm,hAg.size,hAg.defers,hAg.tmp,hp⟩ _ _ _ (fun y hy=>by cases hy;rfl)
      .cases hk'
     .cases h
    .cases h
   .cases h;exact absurd hn (by simp [Nd.holds,dq])
   .cases h;exact absurd hn (by simp [Nd.holds,dq])
   .cases h
theorem pK {ex:Ex} (hΓ:∀ s∈C.Γ,s.OK P) (hex:zX P C ex) {d:Nat} {ops:List Oper} {Q:Exit->Act->World->Prop} : ∀ (l:List Oper) (st:St) (k:St->Option Nd) (nd:Nd) (ms:Nat->Nat) (ρ:Env) (a:Act) (w:World),
 iR P C.Γ ex d ops l st k=some nd->Rel S w0 ρ st a w->nd.holds C ms ρ->Kl S w0 C d ms st.nv ρ k (Q .normal)->wpList P ops.toArray Q l a w
 | [],st,k,nd,ms,ρ,a,w,h,hA,hn,hk=>hk ms st nd ρ a w (fun _ _=>rfl) h (ah.refl _ _) hA hn
 | o::l,st,k,nd,ms,ρ,a,w,h,hA,hn,hk=>by
  have ih:=fun st k nd ms ρ a w=>pK (d:=d) (ops:=ops) (Q:=Q) hΓ hex l st k nd ms ρ a w;have one:∀ (st1:St) (nd1:Nd),st1.nv=st.nv->(r9 P C.Γ ex d o st1 fun s=>if st.nv<=s.nv then iR P C.Γ ex d ops l s k else none)=some nd1->Rel S w0 ρ st1 a w->nd1.holds C ms ρ ->
   ∀ K:Act->World->Prop,(∀ a w,wpList P ops.toArray Q l a w->K a w)->o.wp P a w K Q:=by
   intro st1 nd1 hnv h1 hA1 hn1 K hK;refine kO hΓ hex h1 hA1 hn1 fun ms' st' nd' ρ' a' w' hms hk' hg hA' hn'=>hK _ _ ?_;simp only at hk';split at hk'
   .rename_i hle;refine ih st' k nd' ms' ρ' a' w' hk' hA' hn' ?_;rw[hnv]at hg;exact hk.fC hms hg hle
   .cases hk'
  have skip:∀ (st1:St) (nd1:Nd),st1.nv=st.nv->iR P C.Γ ex d ops l (st1.put o.dst (some BC)) k=some nd1->Rel S w0 ρ st1 a w->nd1.holds C ms ρ ->
   wpList P ops.toArray Q l (a.put o.dst undef) w:=by
   intro st1 nd1 hnv h1 hA1 hn1;refine ih _ k nd1 ms ρ _ w h1 (Rel.put hA1 _ _ _ (fun y hy=>by cases hy;rfl)) hn1 ?_;exact hk.fC (fun _ _=>rfl) (ah.refl _ _) (by rw[St.Bd,hnv];exact ZB _)
  refine wpList_step fun K hK=>?_;unfold iR at h;split at h
  .cases h
  .rename_i hg;rw[gS hA hg];simp only[zT,ZG];exact one st nd rfl h hA hn K hK
  .rename_i e want hg;have hw:Region.wanted o (yielded ops.toArray a.tmps)=(bN ρ e==want):=gS hA hg;split at h
   .rename_i b hkn;have hbe:(bN ρ e==want)=(b==want):=by rw[fi hA.path hkn]
    rw[hw,hbe];split at h
    .rename_i hbw;rw[ZA (by simpa using hbw)];exact one st nd rfl h hA hn K hK
    .rename_i hbw;rw[Zo (by simpa using hbw)];exact hK _ _ (skip st nd rfl h hA hn)
   .simp only at h;split at h
    .rename_i x y h1 h2;cases h;rw[dY,gY,gY]at hn;have hy:bN ρ (if want then e else mkNot e)=(bN ρ e==want):=by
      cases want
      .simp [dr]
      .simp
     rw[hw];cases hb:(bN ρ e==want)with
     | true =>
      rw[ZA rfl];rw[hb]at hy;exact one {st with path:=(if want then e else mkNot e)::st.path} x rfl h1 (hA.o9 hy) (hn.1 hy) K hK
     | false =>
      rw[Zo (by simp)];rw[hb]at hy;have hy':bN ρ (mkNot (if want then e else mkNot e))=true:=by rw[dr,hy];rfl
      exact hK _ _ (skip {st with path:=mkNot (if want then e else mkNot e)::st.path} y rfl h2 (hA.o9 hy') (hn.2 hy'))
    .cases h
end
def swapAt {α:Type} : Nat->List α->List α
 | 0,a::b::l=>b::a::l
 | i+1,a::l=>a::swapAt i l
 | _,l=>l
def sw (i p:Nat):Nat:=if p=i then i+1 else if p=i+1 then i else p
theorem RN {i p q:Nat} (h:p≠q):sw i p≠sw i q:=by unfold sw;split<;>split<;>(try split)<;>(try split)<;>omega
theorem qD {α:Type} : ∀ {l:List α} {i p:Nat},i+1<l.length->(swapAt i l)[p]?=l[sw i p]?
 | a::b::l,0,p,_=>by
  match p with
  | 0=>rfl
  | 1=>rfl
  | p+2=>rfl
 | a::l,i+1,0,h=>rfl
 | a::l,i+1,p+1,h=>by
  show(swapAt i l)[p]?=_;rw[qD (by simpa using h)];have:sw (i+1) (p+1)=sw i p+1:=by unfold sw;split<;>split<;>(try split)<;>(try split)<;>omega
  rw[this,Z3]
 | [],_,_,h=>by simp at h
 | [_],0,_,h=>by simp at h
theorem qE {α:Type} {l:List α} {i:Nat} (hi:i+1<l.length) {x:α} (h:x∈swapAt i l):x∈l:=by
 obtain⟨p,hp⟩:=aby.1 h;rw[qD hi]at hp;exact Zb hp
theorem Rel.swap {S:Nat->Prop} {w0:World} {ρ:Env} {st:St} {a:Act} {w:World} (h:Rel S w0 ρ st a w) {i:Nat} (hi:i+1<st.mem.length):Rel S w0 ρ {st with mem:=swapAt i st.mem} a w :=
 ⟨⟨h.fz,fun r hr=>h.sub r (qE hi hr),fun r hr=>h.own r (qE hi hr),fun p q r s hpq hp hq ho=>by
  have hp:(swapAt i st.mem)[p]?=some r:=hp;have hq:(swapAt i st.mem)[q]?=some s:=hq;rw[qD hi]at hp hq;exact h.cG _ _ r s (RN hpq) hp hq ho,fun r hr=>h.pos r (qE hi hr)⟩,h.size,h.defers,h.tmp,h.path⟩
def LP (n0:Nat) (h s:St):MA:=match Uc n0 h s with
 | some r=>some r
 | none=>(List.range (s.mem.length-1)).findSome? fun i=>Uc n0 h {s with mem:=swapAt i s.mem}
theorem ql {n0:Nat} {S:Nat->Prop} {w0:World} {ρ:Env} {h s:St} {a:Act} {w:World} {A:List As} {hs:List (Nat×Option Nat)} (hm:LP n0 h s=some (A,hs)) (hA:Rel S w0 ρ s a w):Rel S w0 (assign ρ A hs) h a w/\ah n0 ρ (assign ρ A hs)/\n0<=h.nv:=by
 unfold LP at hm;split at hm
 .rename_i r hr;cases hm;exact yY hr hA
 .obtain⟨i,hi,hm⟩:=List.exists_of_findSome?_eq_some hm;exact yY hm (hA.swap (by have:=ZQ.1 hi;omega))
structure BV where
 j:Nat
 slots:List (Nat×TV)
 mem:List (Nat×bx)
 nv:Nat
def yt:Code->List Nat
 | .region _ ops _=>ops.toList.filterMap (·.dst)
 | .seq a b=>yt a++yt b
 | .cond _ a b=>yt a++yt b
 | .block _ b=>yt b
 | .loop b=>yt b
 | .scope b=>yt b
 | _=>[]
def BV.head (L:BV) (ds:List Nat) (st:St):St where
 tmps:=nZ (fun i v=>match L.slots.find? fun q=>q.1==i with
  | some q=>some q.2
  | none=>if ds.contains i then none else v) 0 st.tmps
 mem:=(List.range (max st.mem.length (L.mem.foldl (fun m q=>max m (q.1+1)) 0))).map fun p=>match L.mem.find? fun q=>q.1==p with
  | some q=>q.2
  | none=>st.mem.getD p .dead
 nv:=L.nv
 path:=st.path.filter (E.upto st.nv)
abbrev pF:=List Nat->Option BV
def HK (ex:St->Km->Option Nd):Nat->St->Km->Option Nd
 | 0,_,_=>none
 | m+1,st,k=>ex st fun t s=>match t with
  | .norm=>if st.nv<=s.nv then HK ex m s k else none
  | t=>k t s
def QG (st:St) (p:Nat):Option (St×X):=match st.mem[p]? with
 | some (.bD a l T)=>if st.upto st.nv=true then some ({st with mem:=st.mem.set p (.hp st.nv [] [.var a] []),nv:=st.nv+1},.IX st.nv (.bD a l T))else none
 | _=>none
def S6 (k:St->Option Nd):List Nat->St->Option Nd
 | [],st=>k st
 | p::ps,st=>match QG st p with
  | some (s,x)=>(S6 k ps s).map (.ext x)
  | none=>S6 k ps st
def BV.XL (L:BV):List Nat:=L.mem.filterMap fun q=>match q.2 with
 | .hp _ _ _ _=>some q.1
 | _=>none
abbrev Dk:=Ex->Nat->List Oper->St->(St->Option Nd)->Option Nd
def Hm (P:Program) (Γ:List Spec) (dk:Dk) (Λ:pF) (lim:Nat) (ex:Ex):Ex:=fun d path c st k =>
 match c with
 | .skip=>k .norm st
 | .label _=>k .norm st
 | .exit i=>k (.exit i) st
 | .ret=>k .ret st
 | .region _ ops draw=>if draw then dk ex d ops.toList st (k .norm)else iR P Γ ex d ops.toList ops.toList st (k .norm)
 | .seq x y=>ex d (path++[0]) x st fun t s=>match t with
  | .norm=>if st.nv<=s.nv then ex d (path++[1]) y s k else none
  | t=>k t s
 | .cond c x y=>match dg st c with
  | some (.sv (.one (.bool e)))=>match known st.path e with
   | some true=>ex d (path++[0]) x st k
   | some false=>ex d (path++[1]) y st k
   | none=>match ex d (path++[0]) x {st with path:=e::st.path} k,ex d (path++[1]) y {st with path:=mkNot e::st.path} k with
    | some a,some b=>some (nu (tM e a) (tM (mkNot e) b))
    | _,_=>none
  | _=>none
 | .block id b=>ex d (path++[0]) b st fun t s=>k (if t=.exit id then .norm else t) s
 | .loop b=>match Λ path with
  | none=>HK (fun st k=>ex d (path++[0]) b st k) lim st k
  | some L=>S6 (fun st =>
   let hd:=L.head (yt b) st
   match LP st.nv hd st,ex (d+1) (path++[0]) b hd fun t s=>match t with
    | .norm=>(LP st.nv hd s).map fun r=>.back d L.j r.1 r.2
    | t=>k t s with
   | some r,some nd=>some (nu (.inv L.j r.1 r.2) (.havoc d L.j st.nv nd))
   | _,_=>none) L.XL st
 | _=>none
def exec (P:Program) (Γ:List Spec) (dk:Dk) (Λ:pF) (lim:Nat):Nat->Ex
 | 0=>fun _ _ _ _ _=>none
 | n+1=>fun d path c st k =>
  let ex:=exec P Γ dk Λ lim n
  if(Λ (99::99::path)).isSome=true then some (.e .ff)else
  match Λ (99::path)with
  | none=>Hm P Γ dk Λ lim ex d path c st k
  | some L =>
   let hd:=L.head (yt c) st
   match Hm P Γ dk Λ lim ex d path c st fun t s=>match t with
    | .norm=>(LP st.nv hd s).map fun r=>.inv L.j r.1 r.2
    | t=>k t s,k .norm hd with
   | some a,some b=>some (nu a (.havoc d L.j st.nv b))
   | _,_=>none
def lp (p:List Nat):Bool:=decide (p.length>1)&&!(p.head?==some 99)
def cutAt (p:List Nat) (q:List Nat):Bool:=Kg p (99::q)
def Qu (p:List Nat) (q:List Nat):Bool:=Kg p (99::99::q)
def CV.u4:CV->List Nat
 | .hptr (.var a) _=>[a]
 | .sl (.var a) _ _ _=>[a]
 | .map (.var a)=>[a]
 | .pti a _ _ _ _=>[a]
 | _=>[]
def bx.u4:bx->List Nat
 | .bD _ l _=>l.flatMap CV.u4
 | _=>[]
def TV.u4:TV->List Nat
 | .sv v=>v.cells.flatMap CV.u4
 | .tup l=>l.flatMap fun v=>v.cells.flatMap CV.u4
def FN (n0:Nat) (r:TV) (mem:Mem):Mem :=
 let used:=r.u4++mem.flatMap bx.u4
 nZ (fun i x=>match x with
  | .bD a l T=>if decide (n0<=i)&&!used.contains a then .dead else .bD a l T
  | x=>x) 0 mem
theorem FO {n0:Nat} {r:TV} {mem:Mem} (p:Nat) (x:bx) (h:(FN n0 r mem)[p]?=some x):mem[p]?=some x\/x=.dead:=by
 unfold FN at h;simp only[mN,Zk]at h;obtain⟨y,hy,h⟩:=h;split at h
 .split at h
  .exact Or.inr h.symm
  .subst h;exact Or.inl hy
 .subst h;exact Or.inl hy
def SW (P:Program) (Γ:List Spec) (dk:Dk) (Λ:pF) (lim fuel:Nat) (f:FuncId) (args:List TV) (mem:Mem) (nv:Nat) (path:List E):Option Nd :=
 uK P (exec P Γ dk Λ lim fuel) 0 f args ⟨[],mem,nv,path⟩ fun r s=>some (.post (FN mem.length r s.mem) r)
def Nn (P:Program) (C:Ctx) (dk:Dk):Prop:=∀ ex,zX P C ex->∀ d ops st k nd ms S w0 ρ a w id (Q:Exit->Act->World->Prop),dk ex d ops st k=some nd->Rel S w0 ρ st a w->nd.holds C ms ρ ->
 Kl S w0 C d ms st.nv ρ k (Q .normal)->(Code.region id ops.toArray true).wp P Q a w
section
variable {P:Program} {C:Ctx} {S:Nat->Prop} {w0:World} {ρ ρ':Env} {st:St} {mem mem':Mem} {a:Act} {w w':World}
theorem tK {c:Code} {d:Nat} {ex:St->Km->Option Nd} {k:Km} {Q:Exit->Act->World->Prop}
 (hex:∀ st k nd ms ρ a w (Q:Exit->Act->World->Prop),ex st k=some nd->Rel S w0 ρ st a w->nd.holds C ms ρ->(∀ t,Kl S w0 C d ms st.nv ρ (k t) (Q (vJ t)))->c.wp P Q a w) :
 ∀ (m:Nat) (st:St) (nd:Nd) (ms:Nat->Nat) (ρ:Env) (a:Act) (w:World),HK ex m st k=some nd->Rel S w0 ρ st a w->nd.holds C ms ρ->(∀ t,Kl S w0 C d ms st.nv ρ (k t) (Q (vJ t)))->Code.rounds P c Q m a w
 | 0,st,nd,ms,ρ,a,w,h,_,_,_=>by cases h
 | m+1,st,nd,ms,ρ,a,w,h,hA,hn,hk=>by
  unfold HK at h;refine hex st _ nd ms ρ a w _ h hA hn fun t=>?_;intro ms' st' nd' ρ' a' w' hms hk' hg hA' hn';cases t with
  | norm =>
   simp only at hk';split at hk'
   .rename_i hle;exact tK hex m st' nd' ms' ρ' a' w' hk' hA' hn' fun t=>(hk t).fC hms hg hle
   .cases hk'
  | ret=>exact hk .ret ms' st' nd' ρ' a' w' hms hk' hg hA' hn'
  | exit i=>exact hk (.exit i) ms' st' nd' ρ' a' w' hms hk' hg hA' hn'
theorem MRel.IX (h:MRel S w0 ρ mem w) {p a n:Nat} {l:List CV} {T:TypeId} {tags:List E} (hp:mem[p]?=some (.bD a l T)) (hag:∀ s∈mem,s.same ρ ρ') (hnew:ρ'.h n=(bx.bD a l T).hl ρ):MRel S w0 ρ' (mem.set p (.hp n [] tags [])) w:=by
 refine h.map fun j t hj=>?_;by_cases e:p=j
 .subst e;rw[aag (Zi.1 hp).1]at hj;cases hj;exact Or.inl ⟨_,hp,hnew,fun _=>rfl,fun _=>trivial⟩
 .rw[aab e]at hj;obtain⟨h1,h2⟩:=hag t (Zb hj);exact Or.inl ⟨t,hj,h1,id,h2⟩
theorem E0 {s:St} {x:X} {p:Nat} (h:QG st p=some (s,x)) (hA:Rel S w0 ρ st a w):∃ ρ',ah st.nv ρ ρ'/\x.n=st.nv/\x.rel C ρ ρ'/\st.nv<=s.nv/\Rel S w0 ρ' s a w:=by
 unfold QG at h;split at h
 .rename_i a' l T hp;split at h
  .rename_i hu;cases h;have hg:ah st.nv ρ (ρ.kj st.nv ((bx.bD a' l T).hl ρ)):=eD _ _ _ (ZB _);refine⟨_,hg,rfl,fI _ _ _,by show st.nv<=st.nv+1;omega,Rel.nh hg hu hA ?_ _⟩;exact hA.toMRel.IX hp (Mem.cx hg (St.dn hu)) (fI _ _ _)
  .cases h
 .cases h
theorem sD {ms:Nat->Nat} {k:St->Option Nd} : ∀ (ps:List Nat) {st:St} {ρ:Env} {nd:Nd},S6 k ps st=some nd->Rel S w0 ρ st a w->nd.holds C ms ρ->∃ ρ' s nd',ah st.nv ρ ρ'/\st.nv<=s.nv/\k s=some nd'/\Rel S w0 ρ' s a w/\nd'.holds C ms ρ'
 | [],st,ρ,nd,h,hA,hn=>⟨ρ,st,nd,ah.refl _ _,ZB _,h,hA,hn⟩
 | p::ps,st,ρ,nd,h,hA,hn=>by
  unfold S6 at h;split at h
  .rename_i s x hm;simp only[Zk]at h;obtain⟨nd1,h1,rfl⟩:=h;obtain⟨ρ1,g1,e1,r1,l1,A1⟩:=E0 (C:=C) hm hA;have hn1:nd1.holds C ms ρ1:=hn ρ1 (by rw[e1];exact g1) r1;obtain⟨ρ2,s2,nd2,g2,l2,h2,A2,hn2⟩:=sD ps h1 A1 hn1;exact⟨ρ2,s2,nd2,g1.trans (g2.mono l1),abk l1 l2,h2,A2,hn2⟩
  .exact sD ps h hA hn
theorem K4 {dk:Dk} (hΓ:∀ s∈C.Γ,s.OK P) (jz:Nn P C dk) (Λ:pF) (lim:Nat) {ex:Ex} (ih:zX P C ex):zX P C (Hm P C.Γ dk Λ lim ex):=fun d path c st k nd ms S w0 ρ a w Q h hA hn hk=>by
 unfold Hm at h;simp only at h;have self:∀ t,k t st=some nd->Q (vJ t) a w:=fun t h=>hk t ms st nd ρ a w (fun _ _=>rfl) h (ah.refl _ _) hA hn;split at h
 .exact wp_skip (self .norm h)
 .exact wp_label (self .norm h)
 .exact wp_exit (self (.exit _) h)
 .exact wp_ret (self .ret h)
 .rename_i id ops draw;split at h
  .rename_i hd;subst hd;have:=jz _ ih d ops.toList st (k .norm) nd ms S w0 ρ a w id Q h hA hn (hk .norm);simpa using this
  .rename_i hd;have hd:draw=false:=by simpa using hd
   subst hd;have:=pK (Q:=Q) hΓ ih ops.toList st (k .norm) nd ms ρ a w h hA hn (hk .norm);exact wp_region_list (by simpa using this)
 .rename_i x y;refine wp_seq (ih d _ x st _ nd ms S w0 ρ a w _ h hA hn fun t=>?_);intro ms' st' nd' ρ' a' w' hms hk' hg hA' hn';cases t with
  | norm =>
   simp only at hk';split at hk'
   .rename_i hle;exact ih d _ y st' k nd' ms' S w0 ρ' a' w' Q hk' hA' hn' fun t=>(hk t).fC hms hg hle
   .cases hk'
  | ret=>exact hk .ret ms' st' nd' ρ' a' w' hms hk' hg hA' hn'
  | exit i=>exact hk (.exit i) ms' st' nd' ρ' a' w' hms hk' hg hA' hn'
 .rename_i c x y;split at h
  .rename_i e hc;have hce:=bc hA hc;simp only[TV.ev,SV.ev,CV.ev]at hce;split at h
   .rename_i hkn;exact wp_cond_true (by rw[hce,fi hA.path hkn]) (ih d _ x st k nd ms S w0 ρ a w Q h hA hn hk)
   .rename_i hkn;exact wp_cond_false (by rw[hce,fi hA.path hkn]) (ih d _ y st k nd ms S w0 ρ a w Q h hA hn hk)
   .split at h
    .rename_i n1 n2 h1 h2;cases h;rw[dY,gY,gY]at hn;refine wp_cond_split hce (fun ht=>?_) (fun hf=>?_)
     .exact ih d _ x {st with path:=e::st.path} k n1 ms S w0 ρ a w Q h1 (hA.o9 ht) (hn.1 ht) hk
     .have ht:bN ρ (mkNot e)=true:=by rw[dr,hf];rfl
      exact ih d _ y {st with path:=mkNot e::st.path} k n2 ms S w0 ρ a w Q h2 (hA.o9 ht) (hn.2 ht) hk
    .cases h
  .cases h
 .rename_i id b;refine wp_block (ih d _ b st _ nd ms S w0 ρ a w _ h hA hn fun t=>?_);intro ms' st' nd' ρ' a' w' hms hk' hg hA' hn';cases t with
  | norm=>exact hk .norm ms' st' nd' ρ' a' w' hms (by simpa using hk') hg hA' hn'
  | ret=>exact hk .ret ms' st' nd' ρ' a' w' hms (by simpa using hk') hg hA' hn'
  | exit i =>
   simp only[vJ,Exit.inBlock];split
   .rename_i e;subst e;exact hk .norm ms' st' nd' ρ' a' w' hms (by simpa using hk') hg hA' hn'
   .rename_i e;exact hk (.exit i) ms' st' nd' ρ' a' w' hms (by simpa [e] using hk') hg hA' hn'
 .rename_i b;split at h
  .refine wp_loop_rounds lim (tK (d:=d) (fun st k nd ms ρ a w Q h hA hn hk=>ih d _ b st k nd ms S w0 ρ a w Q h hA hn hk) lim st nd ms ρ a w h hA hn hk)
  .rename_i L hL;obtain⟨ρ1,st1,nd1,g1,l1,h,A1,hn⟩:=sD L.XL h hA hn;have hk:=fun t=>(hk t).fC (fun _ _=>rfl) g1 l1;clear hA self;clear g1;have hA:=A1;clear A1 l1;revert h hn hk hA;generalize ρ1=ρ;generalize st1=st;generalize nd1=nd;intro h hn hk hA;split at h
   .rename_i r nb hr hb;cases h;rw[dY]at hn;obtain⟨hinv,hhav⟩:=hn;obtain⟨hA1,EZ,hle⟩:=ql (A:=r.1) (hs:=r.2) hr hA;have key:∀ (m:Nat) (ρ1:Env) (a1:Act) (w1:World),ah st.nv ρ ρ1->C.inv L.j ρ1->Rel S w0 ρ1 (L.head (yt b) st) a1 w1->C.mu L.j ρ1<=m->Code.rounds P b Q (m+1) a1 w1:=by
     intro m
     induction m with
     | zero =>
      intro ρ1 a1 w1 hg hi hA1 hm;refine ih (d+1) _ b _ _ nb _ S w0 ρ1 a1 w1 _ hb hA1 (hhav ρ1 hg hi) fun t=>?_;intro ms' st' nd' ρ' a' w' hms hk' hg' hA' hn';have wh:ah st.nv ρ1 ρ':=hg'.mono hle;have hms':∀ i,i<d->ms' i=ms i:=fun i hi=>by
       have:=hms i (by omega);rw[this];exact Zo (by omega)
      cases t with
      | norm =>
       simp only[Zk]at hk';obtain⟨q,hq,rfl⟩:=hk';have hmu:=hn'.2;have:ms' d=C.mu L.j ρ1:=by have:=hms d (by omega);rw[this];exact ZA rfl
       omega
      | ret=>exact hk .ret ms' st' nd' ρ' a' w' hms' hk' (hg.trans wh) hA' hn'
      | exit i=>exact hk (.exit i) ms' st' nd' ρ' a' w' hms' hk' (hg.trans wh) hA' hn'
     | succ m ihm =>
      intro ρ1 a1 w1 hg hi hA1 hm;refine ih (d+1) _ b _ _ nb _ S w0 ρ1 a1 w1 _ hb hA1 (hhav ρ1 hg hi) fun t=>?_;intro ms' st' nd' ρ' a' w' hms hk' hg' hA' hn';have wh:ah st.nv ρ1 ρ':=hg'.mono hle;have hms':∀ i,i<d->ms' i=ms i:=fun i hi=>by
       have:=hms i (by omega);rw[this];exact Zo (by omega)
      cases t with
      | norm =>
       simp only[Zk]at hk';obtain⟨q,hq,rfl⟩:=hk';obtain⟨hi',hmu⟩:=hn';have:ms' d=C.mu L.j ρ1:=by have:=hms d (by omega);rw[this];exact ZA rfl
       obtain⟨hA2,QF,_⟩:=ql (A:=q.1) (hs:=q.2) hq hA';exact ihm _ a' w' ((hg.trans wh).trans QF) hi' hA2 (by omega)
      | ret=>exact hk .ret ms' st' nd' ρ' a' w' hms' hk' (hg.trans wh) hA' hn'
      | exit i=>exact hk (.exit i) ms' st' nd' ρ' a' w' hms' hk' (hg.trans wh) hA' hn'
    exact wp_loop_rounds _ (key _ _ a w EZ hinv hA1 (ZB _))
   .cases h
 .cases h
theorem Hn {dk:Dk} (hΓ:∀ s∈C.Γ,s.OK P) (jz:Nn P C dk) (Λ:pF) (lim:Nat):∀ n,zX P C (exec P C.Γ dk Λ lim n)
 | 0=>fun d path c st k nd ms S w0 ρ a w Q h=>by cases h
 | n+1=>fun d path c st k nd ms S w0 ρ a w Q h hA hn hk=>by
  have ih:=K4 hΓ jz Λ lim (Hn hΓ jz Λ lim n);unfold exec at h;simp only at h;split at h
  .cases h;exact nomatch (show false=true from hn)
  split at h
  .exact ih d path c st k nd ms S w0 ρ a w Q h hA hn hk
  .rename_i L hL;split at h
   .rename_i na nb ha hb;cases h;rw[dY]at hn;obtain⟨hna,hhav⟩:=hn;refine ih d path c st _ na ms S w0 ρ a w Q ha hA hna fun t=>?_;intro ms' st' nd' ρ' a' w' hms hk' hg hA' hn';cases t with
    | norm =>
     simp only[Zk]at hk';obtain⟨q,hq,rfl⟩:=hk';obtain⟨hA2,wh,hle⟩:=ql (A:=q.1) (hs:=q.2) hq hA';have QF:ah st.nv ρ (assign ρ' q.1 q.2):=hg.trans wh;exact hk .norm _ _ nb (assign ρ' q.1 q.2) a' w' (fun i hi=>Zo (by omega)) hb QF hA2 (hhav _ QF hn')
    | ret=>exact hk .ret ms' st' nd' ρ' a' w' hms hk' hg hA' hn'
    | exit i=>exact hk (.exit i) ms' st' nd' ρ' a' w' hms hk' hg hA' hn'
   .cases h
theorem vW {dk:Dk} (hΓ:∀ s∈C.Γ,s.OK P) (jz:Nn P C dk) {Λ:pF} {lim fuel:Nat} {f:FuncId} {args:List TV} {nv:Nat} {path:List E} {nd:Nd} {ms:Nat->Nat} (h:SW P C.Γ dk Λ lim fuel f args mem nv path=some nd)
 (hm:MRel S w0 ρ mem w) (hp:Path ρ path) (hn:nd.holds C ms ρ) :
 Calls P f (args.map (TV.ev ρ)).toArray w fun e w'=>∃ ρ' mem' r,e=.returned (r.ev ρ')/\ah nv ρ ρ'/\MRel S w0 ρ' mem' w'/\C.post ρ' mem' r:=by
 have:=pM (st:=⟨[],mem,nv,path⟩) (Hn hΓ jz Λ lim fuel) h hm hp hn (R:=fun v w'=>∃ ρ' mem' r,v=r.ev ρ'/\ah nv ρ ρ'/\MRel S w0 ρ' mem' w'/\C.post ρ' mem' r)
  (fun ms' r st' nd' ρ' w' _ hk' hg hm' _ hn'=>by cases hk';exact⟨ρ',_,r,rfl,hg,hm'.sublist FO,hn'⟩)
 refine this.mono fun e w' ⟨v,he,ρ',mem',r,hv,hg,hm',hp'⟩=>⟨ρ',mem',r,by rw[he,hv],hg,hm',hp'⟩
end
end Go.Sx
