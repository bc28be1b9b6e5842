/- RelayCrashes. -/
import Derived.Laws.MakeOwn
import Derived.Laws.OwnMore
import Derived.Test.YtomdimlnggpgbaaGreatDoorTA
set_option linter.all false
namespace Go.Sx
open Go
variable {ats:Array TypeId}{op:BinOp}{i:Int}{l:List CV}{is:List Nat}{vs xs:List Value}{b bytes cap d f k m o size y:Nat}{hi lo mx:Option TV}{x:TV}{T e el s t ty:TypeId}{v z:Value}
section
variable {P:Program} {S:Nat->Prop} {w0:World} {J:Env} {st:St} {mem:Mem} {a:Act} {w:World} {n:E} {v:TV}
def iy {v:SV} (h:gW P t l o=some v):(part t (l.map (CV.ev J)).toArray o).run P w=.ok (v.ev J) w:=by
 unfold gW at h;unfold part;split at h
 .rename_i n a hs;split at h
  .rename_i hle;cases h;simp only[Sem.run_bind,tH a,Result.andThen_ok,ab6,fe hs,Sem.run_pure,SV.ev]
   congr 2
   simp [ac0,adl,List.extract_eq_take_drop]
  .cases h
 .rename_i a;simp only[aaI]at h;obtain⟨x,hx,rfl⟩:=h;simp only[Sem.run_bind,tH a,Result.andThen_ok,abz,aca];have:(l.map (CV.ev J)).toArray[o]?=some (x.ev J):=by simp [hx]
  simp only[this];rfl
 .cases h
def M3 {op:UnOp} (h:unE op x=some (n,v)):(Op.unary op (x.ev J)).run P w=.ok (v.ev J) w:=by
 unfold unE at h;split at h
 .cases h;simp only[TV.ev,SV.ev,CV.ev,dv,Op.unary,Sem.run_pure]
 .cases h;simp only[TV.ev,SV.ev,CV.ev,oU,oe,ak,Op.unary,Op.intArith,Sem.run_pure]
 .cases h;simp only[TV.ev,SV.ev,CV.ev,ud,ak,Op.unary,Op.intBits,Sem.run_pure,cQ]
 .cases h
def C2 (x:Int) (l:List Int):bytesOf (x::l)=bytesOf [x]++bytesOf l:=by
 have key:∀ (l:List Int) (r:ByteArray),l.foldl (fun r n=>r.push (UInt8.ofNat n.toNat)) r=r++bytesOf l:=by
  intro l
  induction l with
  | nil=>intro r;simp [bytesOf]
  | cons y l ih =>
   intro r;simp only[ac2];rw[ih];have e:bytesOf (y::l)=ByteArray.empty.push (UInt8.ofNat y.toNat)++bytesOf l:=by
    show List.foldl _ _ _=_;rw[ac2,ih]
   rw[e,<-ByteArray.append_assoc]
   congr 1
   apply ByteArray.ext;simp [ByteArray.data_append,ByteArray.data_push]
 simp only[bytesOf,ac2,List.foldl_nil];exact key l _
def xq:∀ (l:List CV) (s:E),strOf l=some s->∃ a:List Int,l.map (CV.ev J)=a.map (Value.int .u8)/\lh J s=bytesOf a
 | [],s,h=>by cases h;exact⟨[],rfl,rfl⟩
 | c::l,s,h=>by
  unfold strOf at h;split at h
  .cases ‹c::l=[]›
  .rename_i e l' heq;cases heq;simp only[aaI]at h;obtain⟨r,hr,rfl⟩:=h;obtain⟨a,h1,h2⟩:=xq _ r hr;refine⟨aB J e::a,by simp [h1,CV.ev],?_⟩;rw[Ct,MO,h2,C2 (aB J e) a]
  .cases h
def Bh {h:Hl} {x n:Nat} (hb:bM h x y n=true):∀ j,j<n->h.cell x (y+j)=some (.int .u8 (cf (h.cell x (y+j)))):=by
 intro j a;unfold bM at hb;rw[aa3]at hb;have:=hb j (abd.2 a);cases hc:h.cell x (y+j)with
 | none=>simp [hc,bz]at this
 | some v =>
  rw[hc]at this;cases v<;>simp [bz]at this
  rename_i k m;subst this;rfl
def J6 (h:LP P el=true):P.underlying el=some (.int .u8):=by
 unfold LP at h;split at h
 .assumption
 .cases h
def EN (hm:MRel S w0 J mem w) {d:TypeId} (h:NL P mem s d x=some (n,v)) (hn:bh J n=true):(convert s d (x.ev J)).run P w=.ok (v.ev J) w:=by
 unfold NL at h;split at h
 .rename_i k F e hs hd;cases h;simp only[TV.ev,SV.ev,CV.ev,oU];unfold convert;simp only[Sem.run_bind,run_underlying hs,run_underlying hd,Result.andThen_ok,Conv.intToInt];rfl
 .rename_i e hs hd;cases h;simp only[TV.ev,SV.ev,CV.ev];unfold convert;simp only[Sem.run_bind,run_underlying hs,run_underlying hd,Result.andThen_ok];rfl
 .rename_i el x y l c hs hd;split at h
  .rename_i hu;have he:=J6 hu;split at h
   .rename_i hx;subst hx;cases h;simp only[TV.ev,SV.ev,CV.ev,ak,fx,gy];rw[run_convert_bytes_string w s d el _ _ _ hs he hd];rfl
   .split at h
    .rename_i a p cs T o m z;obtain⟨rfl,rfl,hk⟩:=iw z;split at h
     .rename_i hle;simp only[aaI,abl]at h;obtain⟨r,hr,rfl,rfl⟩:=h;obtain⟨A,h1,h2⟩:=xq (J:=J) _ _ hr;have q:0<=J.i a:=hm.pos _ (aaA hk);simp only[TV.ev,SV.ev,CV.ev,ak,al,au q,aar];rw[run_convert_bytes_string w s d el _ _ _ hs he hd,run_bytesToString w _ _ _ A,h2]
      .rfl
      .have hb:=hm.bj hk;have:=run_loadCells_list (P:=P) w ⟨(J.i a).toNat,o,none⟩ (A.map (Value.int .u8)) (fun j u hu=>by
        rw[<-h1]at hu;rw[fE];simp only[World.cell?,hb];simp only[abI,Option.isSome_none,abz,aca];rw[aaL,abf]at hu;split at hu
        .rw[aa9]at hu;rw[aaL];exact hu
        .simp at hu)
       have hl:(A.map (Value.int .u8)).length=m.toNat:=by rw[<-h1];simp;omega
       rw[hl]at this;exact this
     .cases h
    .split at h
     .rename_i l _ _ _ _ k hk;have hsub:=zh hm hk;cases h;simp only[TV.ev,SV.ev,CV.ev];rw[run_convert_bytes_string w s d el _ _ _ hs he hd];rw[tJ,ab1,gj,ak,aaB]at hn;have t:∀ a b:E,lh J (mkIte (mkEq x (.lit (-1))) a b)=if aB J x= -1 then lh J a else lh J b:=by
       intro a b;have g:=gj J x (.lit (-1));rw[ak]at g;unfold mkIte;split
       .rename_i e;rw[e,cZ]at g;rw[aaR (by simpa using g.symm)]
       .rename_i e;rw[e,du]at g;rw[aaG (by simpa using g.symm)]
       .split
        .rename_i e;subst e;simp
        .rw[iT,g];simp
      rw[t];by_cases hx:aB J x= -1
      .rw[aaR hx,hx,fx];rfl
      .rw[aaG hx];have hn:=hn.resolve_left hx;rw[tJ,ab1,gj,ak,aaB]at hn;by_cases f:aB J l=0
       .rw[f,iE,f];cases hp:az (aB J x) (aB J y)with
        | none =>
         have h1:=iV (aB J x) (aB J y);rw[hp]at h1;exact absurd (by simpa using h1) hx
        | some a0 =>
         rw[run_bytesToString w a0 _ _ []]
         .rfl
         .exact run_loadCells_list (P:=P) w a0 [] (fun j u hu=>by cases hu)
       have hn:=hn.resolve_left f;rw[aO,aaE,aO,aaE,ba,ba,ak,aaB,aaB,CT]at hn;obtain⟨B,D,hby⟩:=hn;rw[au B,iE];rw[run_bytesToString w _ _ _ (fU (J.h k) (aB J x).toNat (aB J y).toNat (aB J l).toNat)]
       .rfl
       .have:=run_loadCells_list (P:=P) w ⟨(aB J x).toNat,(aB J y).toNat,none⟩ ((fU (J.h k) (aB J x).toNat (aB J y).toNat (aB J l).toNat).map (Value.int .u8)) (fun j u hu=>by
         rw[fE];unfold fU at hu;rw[abD,aaL]at hu;by_cases C:j<(aB J l).toNat
         .rw[aaZ C]at hu;simp only[abe,aaF,Function.comp]at hu;rw[<-hu];exact Hl.iu hsub (Bh hby j C)
         .rw[aaK (by simp;omega)]at hu;cases hu)
        have hl:((fU (J.h k) (aB J x).toNat (aB J y).toNat (aB J l).toNat).map (Value.int .u8)).length=(aB J l).toNat:=by simp [fU]
        rw[hl]at this;exact this
     .cases h
  .cases h
 .cases h
def zj (fl:Field) (hs:fI P fl.type=some (m+1)):(fieldPlace ⟨b,o,none⟩ fl).run P w=.ok ⟨b,o+fl.offset,none⟩ w:=by
 unfold fieldPlace;simp only[Sem.run_bind,fe hs,Result.andThen_ok,Nat.add_eq_zero_iff,Nat.one_ne_zero,and_false,aca,Sem.run_pure,fE]
def rN {x y:Int} (hx:0<=x) (a:0<=y) (n:Nat):az x (y+n)=some ⟨x.toNat,y.toNat+n,none⟩:=by
 rw[au hx];congr 2;omega
def zg (hm:MRel S w0 J mem w) {a:Nat} (h:(tX mem a).isSome=true):0<=J.i a:=by
 obtain⟨⟨p,l,T⟩,hp⟩:=abw.1 h;exact hm.pos _ (aaA (gH hp))
def pg {s:Nat} (h:0<=i):((o:Int)+(s:Int)*i)=((o+s*i.toNat:Nat):Int):=by
 obtain⟨q,a⟩:=abY h;rw[a,aar];simp
def vo (hm:MRel S w0 J mem w) (h:sM P mem s f x=some (n,v)) (hn:bh J n=true):(Instr.fieldAt s (x.ev J) f).run P w=.ok (v.ev J) w:=by
 unfold sM at h;split at h
 .rename_i fs hu;split at h
  .rename_i fl hf;split at h
   .rename_i m hs;have key:∀ b o,(Instr.fieldAt s (.pointer (some ⟨b,o,none⟩)) f).run P w=.ok (.pointer (some ⟨b,o+fl.offset,none⟩)) w:=fun b o=>by
     unfold Instr.fieldAt;simp only[Sem.run_bind,run_underlying hu,Result.andThen_ok,hf,Instr.sureAddr,Sem.run_pure,zj fl hs]
    split at h
    .rename_i x y;cases h;rw[aO,aaE,ba,ak,aaB]at hn;have hx:=hm.FE hn.1;simp only[TV.ev,SV.ev,CV.ev,fD,ak];rw[au hx,key,rN hx hn.2]
    .rename_i a o d n' i;split at h
     .rename_i c;cases h;obtain⟨h0,h1⟩:=jc hn;have hx:=zg hm c;simp only[TV.ev,SV.ev,CV.ev];rw[au hx,key,pg h0,pg h0,aar,au hx,aar]
      congr 4
      omega
     .cases h
    .cases h
   .cases h
  .cases h
 .cases h
def mX {len:Nat} {k:IntKind} (hu:P.underlying t=some (.array len el)) (hs:fI P el=some m) (h0:0<=i) (h1:i<len) :
 (Instr.indexAt t (.pointer (some ⟨b,o,none⟩)) (.int k i)).run P w=.ok (.pointer (some ⟨b,o+i.toNat*m,none⟩)) w:=by
 unfold Instr.indexAt;simp only[asIntOf,Sem.run_bind,Sem.run_pure,Result.andThen_ok,run_underlying hu,Instr.sureAddr,h0,h1,and_self,ab6,fe hs,fE]
def nD {len c:Nat} {k:IntKind} (hu:P.underlying t=some (.slice el)) (hs:fI P el=some m) (h0:0<=i) (h1:i<len) :
 (Instr.indexAt t (.slice (some ⟨b,o,none⟩) len c) (.int k i)).run P w=.ok (.pointer (some ⟨b,o+i.toNat*m,none⟩)) w:=by
 unfold Instr.indexAt;simp only[asIntOf,Sem.run_bind,Sem.run_pure,Result.andThen_ok,run_underlying hu,h0,h1,and_self,ab6,fe hs,fE]
def rq (h:0<=i) (m:Nat):i*(m:Int)=((i.toNat*m:Nat):Int):=by
 obtain⟨q,a⟩:=abY h;rw[a,aar];simp
def vu (hm:MRel S w0 J mem w) {i:TV} (h:sR P mem t x i=some (n,v)) (hn:bh J n=true):(Instr.indexAt t (x.ev J) (i.ev J)).run P w=.ok (v.ev J) w:=by
 unfold sR at h;split at h
 .rename_i k e;split at h
  .rename_i len el hu;split at h
   .rename_i m a o s q g hs;split at h
    .rename_i j;split at h
     .rename_i d;cases h;obtain⟨h0,h1⟩:=jc hn;have hx:=zg hm d.2.2;simp only[TV.ev,SV.ev,CV.ev,ak];rw[au hx,mX hu hs d.1 d.2.1,pg h0,pg h0,aar,au hx,aar]
      congr 4
      omega
     .cases h
    .cases h
   .rename_i m x y hs;split at h
    .rename_i j _;split at h
     .rename_i d;cases h;rw[aO,aaE,ba,ak,aaB]at hn;have hx:=hm.FE hn.1;simp only[TV.ev,SV.ev,CV.ev,ak,fD];rw[au hx,mX hu hs d.1 d.2,<-Int.natCast_mul,rN hx hn.2]
     .cases h
    .rename_i e a p l T o _ b;obtain⟨rfl,rfl,hk⟩:=iw b;cases h;obtain⟨h0,h1⟩:=jc hn;have hx:0<=J.i a:=hm.pos _ (aaA hk);simp only[TV.ev,SV.ev,CV.ev,al,ak];rw[au hx,aar,mX hu hs h0 h1,pg h0,au hx,aar,acJ]
    .rename_i e _ _;cases h;rw[aO,aaE,aO,aaE,ba,ak,aaB]at hn;obtain⟨hx,f,hb⟩:=hn;have hx:=hm.FE hx;obtain⟨h0,h1⟩:=jc hb;simp only[TV.ev,SV.ev,CV.ev,fD,od,ak];rw[au hx,mX hu hs h0 h1,rq h0,rN hx f]
   .cases h
  .rename_i el hu;split at h
   .rename_i m x y l c hs;split at h
    .rename_i j _ _;cases h;rw[aO,aaE,aO,aaE,aO,aaE,ba,ba,js,aaB,aaB,aaB,ak,ak]at hn;obtain⟨hx,f,h0,h1⟩:=hn;have hx:=hm.FE hx;simp only[TV.ev,SV.ev,CV.ev,fD,od,ak];rw[au hx,nD hu hs h0 ah,rq h0,rN hx f]
    .rename_i a p l' T o q _ b;obtain⟨rfl,rfl,hk⟩:=iw b;cases h;rw[aO,aaE]at hn;obtain⟨h0,h1⟩:=jc hn.1;have hx:0<=J.i a:=hm.pos _ (aaA hk);simp only[TV.ev,SV.ev,CV.ev,al,ak];rw[au hx,aar,nD hu hs h0 ah,pg h0,au hx,aar,acJ]
    .cases h;rw[aO,aaE,aO,aaE,aO,aaE,ba,ba,js,aaB,aaB,aaB,ak]at hn;obtain⟨hx,f,h0,h1⟩:=hn;have hx:=hm.FE hx;simp only[TV.ev,SV.ev,CV.ev,fD,od,ak];rw[au hx,nD hu hs h0 ah,rq h0,rN hx f]
   .cases h
  .cases h
 .cases h
def De (h:HM P t f x=some (n,v)):(Instr.field t (x.ev J) f).run P w=.ok (v.ev J) w:=by
 unfold HM at h;split at h
 .rename_i fs l hu;split at h
  .rename_i fl hf;simp only[aaI,abl]at h;obtain⟨u,a,_,rfl⟩:=h;unfold Instr.field;simp only[Sem.run_bind,run_underlying hu,Result.andThen_ok,hf,TV.ev,SV.ev,asAgg,Sem.run_pure];exact iy a
  .cases h
 .cases h
def BE {len:Nat} {k:IntKind} {u:SV} (hu:P.underlying t=some (.array len el)) (hs:fI P el=some m) (h0:0<=i) (h1:i<len)
 (hl:gW P el l (i.toNat*m)=some u):(Instr.index t (.agg (l.map (CV.ev J)).toArray) (.int k i)).run P w=.ok (u.ev J) w:=by
 unfold Instr.index;simp only[asIntOf,Sem.run_bind,Sem.run_pure,Result.andThen_ok,run_underlying hu,h0,h1,and_self,ab6,fe hs];exact iy hl
def Dq {i:TV} (h:H7 P t x i=some (n,v)) (hn:bh J n=true):(Instr.index t (x.ev J) (i.ev J)).run P w=.ok (v.ev J) w:=by
 unfold H7 at h;split at h
 .rename_i len el l k e hu;split at h
  .rename_i m hs;split at h
   .rename_i j;split at h
    .rename_i o;simp only[aaI,abl]at h;obtain⟨u,b,_,rfl⟩:=h;simp only[TV.ev,SV.ev,CV.ev,ak];exact BE hu hs o.1 o.2 b
    .cases h
   .split at h
    .rename_i vs f;simp only[aaI,abl]at h;obtain⟨u,b,rfl,rfl⟩:=h;obtain⟨h0,h1⟩:=jc hn;obtain⟨hlen,d⟩:=mN f;simp only[aaT,ab5]at hlen;obtain⟨z,p,g⟩:=AH vs 0 u b ah ah;have c:=d _ _ p;rw[adH,aaL,aaZ ah]at c;simp only[abe,aaF]at c;simp only[TV.ev,g];exact BE hu hs h0 h1 c
    .cases h
  .cases h
 .rename_i s k e hu;cases h;rw[aO,aaE,ba,js,aaB,aaB,ak,lS]at hn;obtain⟨h0,h1⟩:=hn;unfold Instr.index;simp only[TV.ev,SV.ev,CV.ev,asIntOf,Sem.run_bind,Sem.run_pure,Result.andThen_ok,run_underlying hu,h0,ab6];have a:(aB J e).toNat<(lh J s).size:=ah;have e1:(lh J s)[(aB J e).toNat]?=some ((lh J s)[(aB J e).toNat]'a):=getElem?_pos (lh J s) (aB J e).toNat a;have q:(lh J s).data[(aB J e).toNat]?.getD 0=(lh J s)[(aB J e).toNat]'a:=by
   rw[getElem?_pos (lh J s).data (aB J e).toNat a];rfl
  simp only[e1,LK,q];rfl
 .cases h
def zf {i:Nat} (h:ze i x=some (n,v)):(Instr.extract (x.ev J) i).run P w=.ok (v.ev J) w:=by
 unfold ze at h;split at h
 .simp only[aaI,abl]at h;obtain⟨u,hu,_,rfl⟩:=h;unfold Instr.extract;simp only[TV.ev];have:((List.map (SV.ev J) ‹_›).toArray)[i]?=some (u.ev J):=by simp [hu]
  simp only[this];rfl
 .cases h
def Ig (hm:MRel S w0 J mem w) (b:ats[0]?=some t) (h:Uw P mem t x=some (n,v)) (hn:bh J n=true):(Builtin.len_ ats ty #[x.ev J]).run P w=.ok (v.ev J) w:=by
 unfold Uw at h;unfold Builtin.len_;have h0:(#[x.ev J]:Array Value)[0]?=some (x.ev J):=rfl;simp only[b,h0];split at h
 .rename_i m _ hu;cases h;simp only[Sem.run_bind,run_underlying hu,Result.andThen_ok];rfl
 .rename_i el _ _ l _ hu;cases h;rw[ba,aaB,ak]at hn;simp only[Sem.run_bind,run_underlying hu,Result.andThen_ok,TV.ev,SV.ev,CV.ev,Sem.run_pure,goInt,acV hn]
 .rename_i e hu;cases h;simp only[Sem.run_bind,run_underlying hu,Result.andThen_ok,TV.ev,SV.ev,CV.ev,Sem.run_pure,goInt,lS]
 .rename_i k f x hu;split at h
  .rename_i q d;have hsub:=zh hm d;cases h;rw[aO,aaE,aO,aaE,ba,ak,aaB,Nu]at hn;obtain⟨hx,_,he⟩:=hn;have a:¬aB J x= -1:=ah;obtain⟨es,c,he⟩:∃ es c,J.h q (aB J x).toNat=some (.map es c):=by
    revert he;generalize J.h q (aB J x).toNat=o;intro he;cases o with
    | none=>cases he
    | some o=>cases o<;>first | exact⟨_,_,rfl⟩ | cases he
   have hw:=hsub _ _ he;simp only[Sem.run_bind,run_underlying hu,Result.andThen_ok,TV.ev,SV.ev,CV.ev,aaG a,Sem.run_pure,goInt,fS,he,Il];simp [getObj,Sem.run,hw]
  .cases h
 .cases h
def Ip {y z:TV} (h:UE x y=some z):(Builtin.min2 (x.ev J) (y.ev J)).run P w=.ok (z.ev J) w:=by
 unfold UE at h;split at h
 .cases h;simp only[TV.ev,SV.ev,CV.ev,Builtin.min2,jb,js,aaB,Sem.run_pure]
 .cases h
def Im {y z:TV} (h:UD x y=some z):(Builtin.max2 (x.ev J) (y.ev J)).run P w=.ok (z.ev J) w:=by
 unfold UD at h;split at h
 .cases h;simp only[TV.ev,SV.ev,CV.ev,Builtin.max2,jb,js,aaB,Sem.run_pure,GT.gt]
 .cases h
def qe {f:TV->TV->Option TV} {F:Value->Value->Sem Value} (hf:∀ x y z,f x y=some z->(F (x.ev J) (y.ev J)).run P w=.ok (z.ev J) w) :
 ∀ (l:List TV) (x z:TV),E5 f l x=some z->((l.map (TV.ev J)).foldlM F (x.ev J)).run P w=.ok (z.ev J) w
 | [],x,z,h=>by cases h;rfl
 | y::l,x,z,h=>by
  simp only[E5]at h;split at h
  .rename_i u hu;simp only[aaY,List.foldlM_cons,Sem.run_bind,hf x y u hu,Result.andThen_ok];exact qe hf l u z h
  .cases h
def ji (h:Rel S w0 J st a w):∀ (l:List Operand) (vs:List TV),uB st l=some vs->l.map a.eval=vs.map (TV.ev J)
 | [],vs,ho=>by cases ho;rfl
 | x::l,vs,ho=>by
  simp only[uB]at ho;split at ho
  .rename_i v1 v2 h1 h2;cases ho;simp only[aaY,aH h h1,ji h l _ h2]
  .cases ho
def yF (hm:MRel S w0 J mem w) {b:Builtin} {cs:Array Bool} {vs:List TV} (h:yE P mem b ats vs=some (n,v)) (hn:bh J n=true) :
 (builtin b ats ty cs (vs.map (TV.ev J)).toArray).run P w=.ok (.value (v.ev J)) w:=by
 unfold yE at h;split at h
 .split at h
  .rename_i t a;have:=Ig hm (ty:=ty) a h hn;unfold builtin;simp only[aaY,abN,Sem.run_bind,this,Result.andThen_ok,Sem.run_pure]
  .cases h
 .simp only[aaI,abl]at h;obtain⟨u,hu,_,rfl⟩:=h;have:=qe (P:=P) (w:=w) (J:=J) (fun x y z=>Ip) _ _ _ hu;unfold builtin;simp only[aaY,Sem.run_bind,Builtin.min_,this,Result.andThen_ok,Sem.run_pure]
 .simp only[aaI,abl]at h;obtain⟨u,hu,_,rfl⟩:=h;have:=qe (P:=P) (w:=w) (J:=J) (fun x y z=>Im) _ _ _ hu;unfold builtin;simp only[aaY,Sem.run_bind,Builtin.max_,this,Result.andThen_ok,Sem.run_pure]
 .cases h
def tZ (off:Nat):∀ (vs:List Value) (k:Nat) (arr:Array Value),off+k+vs.length<=arr.size ->
 (vs.zipIdx k).foldl (fun cs (p:Value×Nat)=>cs.setIfInBounds (off+p.2) p.1) arr=(br arr.toList (off+k) vs).toArray
 | [],k,arr,h=>by simp [br]
 | x::vs,k,arr,h=>by
  simp only[abc]at h;rw[List.zipIdx_cons,ac2,tZ off vs (k+1) _ (by simp;omega)]
  congr 1
  have:=list_seg_step arr.toList (off+k) x vs (by simp;omega);simpa [br,adr,ab7] using this
def ko {place:Nat->Option (Nat×Nat)} : ∀ (ps:List (Nat×SV)) (l r:List CV),zk place l ps=some r ->
 Instr.fill place (l.map (CV.ev J)).toArray (ps.map fun p=>(p.1,p.2.ev J))=some (r.map (CV.ev J)).toArray
 | [],l,r,h=>by cases h;rfl
 | (i,v)::ps,l,r,h=>by
  simp only[zk]at h;split at h
  .cases h
  .rename_i off size hp;split at h
   .rename_i hc;obtain⟨h1,h2,c⟩:=hc;have b:=SV.tN (J:=J) v c;have a:(v.ev J).cells.size=v.cells.length:=by rw[<-ab2,b];simp
    have hle:¬off+(v.ev J).cells.size>(l.map (CV.ev J)).toArray.size:=by rw[a];simp;omega
    simp only[aaY,Instr.fill,hp];rw[aaG (by simp only[a,h1,ne_eq,acw,decide_false,Bool.false_or,aaB];rw[<-h1,<-a];exact hle)];have e:(v.ev J).cells.zipIdx.foldl (fun cs (p:Value×Nat)=>cs.setIfInBounds (off+p.2) p.1) (l.map (CV.ev J)).toArray=((br l off v.cells).map (CV.ev J)).toArray:=by
     rw[<-Array.foldl_toList,Array.toList_zipIdx,b];have:=tZ off (v.cells.map (CV.ev J)) 0 (l.map (CV.ev J)).toArray (by simp;omega);rw[this];simp [br,aba,ac0,adl]
    have ih:=ko ps _ _ h;rw[<-ih];exact aa1 (fun z=>Instr.fill place z _) e
   .cases h
def Jh:∀ (l:List TV) (m:List SV),VS l=some m->l.map (TV.ev J)=m.map (SV.ev J)
 | [],m,h=>by cases h;rfl
 | .sv v::l,m,h=>by
  simp only[VS,aaI]at h;obtain⟨r,hr,rfl⟩:=h;simp only[aaY,Jh l r hr];rfl
 | .tup _::l,m,h=>by simp [VS]at h
def te:∀ (fs:List Field) (ps:List (Nat×Nat)),iv (fs.map fun f=>(fI P f.type).map fun n=>(f.offset,n))=some ps ->
 (fs.mapM fun(f:Field)=>(do pure (f.offset,<-sizeOf f.type):Sem (Nat×Nat))).run P w=.ok ps w
 | [],ps,h=>by cases h;rfl
 | f::fs,ps,h=>by
  simp only[aaY]at h;cases hs:fI P f.type with
  | none=>simp [hs,iv]at h
  | some m =>
   simp only[hs,abe,iv,aaI]at h;obtain⟨r,hr,rfl⟩:=h;have ih:=te fs r hr;simp only[adO,Sem.run_bind,fe hs,Result.andThen_ok,Sem.run_pure,ih]
def zS {α β a:Type} {f:α->β} {h:α->a} : ∀ (l:List α),l.map (fun x=>(f x,h x))=(l.map f).zip (l.map h)
 | []=>rfl
 | x::l=>by simp [zS l]
def Jt:∀ (is:List Nat) (vs:List SV),(is.zip vs).map (fun p=>(p.1,p.2.ev J))=is.zip (vs.map (SV.ev J))
 | [],_=>rfl
 | _::_,[]=>rfl
 | i::is,v::vs=>by simp [Jt is vs]
def CW {vs:List TV} (h:Hu P t is vs=some (n,v)):(Instr.build t (is.zip (vs.map (TV.ev J))).toArray).run P w=.ok (v.ev J) w:=by
 unfold Hu at h;split at h
 .rename_i z us d b;rw[Jh _ _ b,<-Jt];have a:z.cells=((z.cells.toList.map iG).map (CV.ev J)).toArray:=by rw[jf]
  unfold Instr.build;simp only[Sem.run_bind,lX d,Result.andThen_ok];split at h
  .rename_i fs hu;split at h
   .rename_i places hp;simp only[aaI,abl]at h;obtain⟨r,hr,_,rfl⟩:=h;have hf:=ko (J:=J) _ _ _ hr;rw[<-a]at hf;have c:(fs.mapM fun(f:Field)=>(do pure (f.offset,<-sizeOf f.type):Sem (Nat×Nat))).run P w=.ok places.toArray w:=by
     have:=te (w:=w) _ _ hp;obtain⟨fs⟩:=fs;simp only[ady,Sem.run_map,this,Result.andThen_ok]
    simp only[run_underlying hu,Result.andThen_ok,Sem.run_bind,c];have e:(fun(i:Nat)=>places.toArray[i]?)=(fun(i:Nat)=>places[i]?):=by funext i;simp
    simp only[e,hf];rfl
   .cases h
  .rename_i m el hu;split at h
   .rename_i q hs;simp only[aaI,abl]at h;obtain⟨r,hr,_,rfl⟩:=h;have hf:=ko (J:=J) _ _ _ hr;rw[<-a]at hf;simp only[run_underlying hu,Result.andThen_ok,Sem.run_bind,fe hs,hf];rfl
   .cases h
  .cases h
 .cases h
def Hr {vs:List TV} (h:TH P t is vs=some (n,v)) (hn:bh J n=true):(Instr.build t (is.zip (vs.map (TV.ev J))).toArray).run P w=.ok (v.ev J) w:=by
 unfold TH at h;split at h
 .rename_i j z fs k hu;split at h
  .rename_i y f hc hf;split at h
   .rename_i ho;cases h;rw[kQ,aaB]at hn;have hv:(J.v j).oneCell'=true:=by
     rcases AY hn with h | ⟨a,b,h⟩<;>rw[h]<;>rfl
    have d:(fs.mapM fun(f:Field)=>(do pure (f.offset,<-sizeOf f.type):Sem (Nat×Nat))).run P w=.ok #[(0,1)] w:=by
     have:=te (P:=P) (w:=w) fs.toList [(0,1)] (by rw[hf];simp [ho.1,ho.2,iv]);obtain⟨fs⟩:=fs;simp only[ady,Sem.run_map,this,Result.andThen_ok]
    have g:z.cells=((z.cells.toList.map iG).map (CV.ev J)).toArray:=by rw[jf]
    have c:=ko (J:=J) (place:=fun i=>([(0,1)]:List (Nat×Nat))[i]?) [(0,.one (.val (J.v j)))] (z.cells.toList.map iG) [.val (J.v j)] (by
     rw[hc];simp [zk,SV.cells,CV.sf,hv,br])
    rw[<-g]at c;unfold Instr.build;simp only[Sem.run_bind,lX k,Result.andThen_ok,run_underlying hu,d];have e:(fun(i:Nat)=>(#[(0,1)]:Array (Nat×Nat))[i]?)=(fun(i:Nat)=>([(0,1)]:List (Nat×Nat))[i]?):=by funext i;simp
    have m:([0].zip ([TV.sv (.one (.vr j))].map (TV.ev J))).toArray.toList=[(0,J.v j)]:=rfl;simp only[e];have c:Instr.fill (fun i=>([(0,1)]:List (Nat×Nat))[i]?) z.cells [(0,J.v j)]=some #[J.v j]:=c;have l:[0].zip ([TV.sv (.one (.vr j))].map (TV.ev J))=[(0,J.v j)]:=rfl;rw[l,c];rfl
   .cases h
  .cases h
 .cases h
def qd {rec:TypeId->SV->SV->Option E} {D:Nat} (c:∀ t x y e,rec t x y=some e->(Op.equalIn D t (x.ev J) (y.ev J)).run P w=.ok (bh J e) w) {xs ys:List CV} :
 ∀ (fs:List Field) (e:E),E0 P rec xs ys fs=some e->(Op.eqFields D (xs.map (CV.ev J)).toArray (ys.map (CV.ev J)).toArray fs).run P w=.ok (bh J e) w
 | [],e,h=>by cases h;simp [Op.eqFields,cZ]
 | f::fs,e,h=>by
  unfold E0 at h;unfold Op.eqFields;split at h
  .rename_i hn;rw[aaR hn];split at h
   .rename_i a b d hb;split at h
    .rename_i q r g hr;cases h;have ih:=qd c fs r hr;simp only[Sem.run_bind,iy d,iy hb,Result.andThen_ok,c _ _ _ _ g,aO];cases hb:bh J q with
     | true=>simpa using ih
     | false=>simp
    .cases h
   .cases h
  .rename_i hn;rw[aaG hn];exact qd c fs e h
def wD {rec:TypeId->SV->SV->Option E} {D:Nat} (c:∀ t x y e,rec t x y=some e->(Op.equalIn D t (x.ev J) (y.ev J)).run P w=.ok (bh J e) w) {t:TypeId} {xs ys:List CV} :
 ∀ (is:List Nat) (e:E),JO P rec t xs ys is=some e->(Op.eqItems D t (P.cellsOf t) (xs.map (CV.ev J)).toArray (ys.map (CV.ev J)).toArray is).run P w=.ok (bh J e) w
 | [],e,h=>by cases h;simp [Op.eqItems,cZ]
 | i::is,e,h=>by
  unfold JO at h;unfold Op.eqItems;split at h
  .rename_i a b d hb;split at h
   .rename_i q r f hr;cases h;have ih:=wD c is r hr;simp only[Sem.run_bind,iy d,iy hb,Result.andThen_ok,c _ _ _ _ f,aO];cases hb:bh J q with
    | true=>simpa using ih
    | false=>simp
   .cases h
  .cases h
def Hh (a b:ByteArray):(a==b)=decide (a=b):=by
 rw[acx];simp only[aaB];cases a;cases b;simp only[BEq.beq,ByteArray.beq,ByteArray.mk.injEq];exact⟨fun h=>Array.eq_of_isEqv _ _ (by simpa [BEq.beq] using h),fun h=>by subst h;simpa [BEq.beq] using Array.isEqv_self _⟩
def HJ {a b:CV} {e:E} (h:Db P (d+1) t (.one a) (.one b)=some e):(∃ k x f y,a=.int k x/\b=.int f y)\/(∃ x y,a=.str x/\b=.str y)\/(∃ x y,a=.bool x/\b=.bool y)\/(∃ x y l c x' y' l' c',a=.sl x y l c/\b=.sl x' y' l' c')\/(∃ x y x' y',a=.hptr x y/\b=.hptr x' y')\/(∃ x y,a=.map x/\b=.map y):=by
 unfold Db at h;cases hu:P.underlying t with
 | none=>simp [hu]at h
 | some g=>cases g<;>simp only[hu]at h<;>first | (cases h;done) | (cases a<;>first | (cases h;done) | (cases b<;>first | (cases h;done) | simp))
def qv {x x':E} {e:E} (he:(if x'=.lit (-1)then some (mkEq x (.lit (-1)))else if x=.lit (-1)then some (mkEq x' (.lit (-1)))else none)=some e) :
 (aB J x'= -1/\bh J e=decide (aB J x= -1))\/(aB J x= -1/\bh J e=decide (aB J x'= -1)):=by
 split at he
 .rename_i hx;cases he;subst hx;exact Or.inl ⟨rfl,by rw[gj];rfl⟩
 .split at he
  .rename_i hx;cases he;subst hx;exact Or.inr ⟨rfl,by rw[gj];rfl⟩
  .cases he
def sL:∀ (d:Nat) (t:TypeId) (x y:SV) (e:E) (D:Nat),d<=D->Db P d t x y=some e->(Op.equalIn D t (x.ev J) (y.ev J)).run P w=.ok (bh J e) w
 | 0,_,_,_,_,_,_,h=>by cases h
 | d+1,t,x,y,e,D,g,h=>by
  obtain⟨D,rfl⟩:∃ D',D=D'+1:=⟨D-1,ah⟩;have ih:∀ t x y e,Db P d t x y=some e->(Op.equalIn D t (x.ev J) (y.ev J)).run P w=.ok (bh J e) w:=fun t x y e h=>sL d t x y e D ah h;unfold Db at h;split at h
  .rename_i hu;split at h
   .cases h;simp [Op.equalIn,Sem.run_bind,run_underlying hu,SV.ev,CV.ev,Lg]
   .cases h
  .rename_i j hu;split at h
   .split at h
    .rename_i hk;subst hk;cases h;simp [Op.equalIn,Sem.run_bind,run_underlying hu,SV.ev,CV.ev,gj];rfl
    .cases h
   .cases h
  .rename_i hu;split at h
   .rename_i a b;cases h;have:(lh J a==lh J b)=decide (lh J a=lh J b):=Hh _ _;simp only[Op.equalIn,Sem.run_bind,run_underlying hu,SV.ev,CV.ev,vj,Result.andThen_ok,Sem.run_pure,this]
   .cases h
  .rename_i el hu;split at h
   .rename_i x c q1 l x' f q2 m;rw[Op.equalIn];simp only[Sem.run_bind,run_underlying hu,Result.andThen_ok,SV.ev,CV.ev];rcases qv (J:=J) h with ⟨h1,h2⟩ | ⟨h1,h2⟩
    .rw[h1,fx,h2];cases hs:az (aB J x) (aB J c)with
     | none=>have:=iV (aB J x) (aB J c);rw[hs]at this;simp at this;simp [this]
     | some q=>have:=iV (aB J x) (aB J c);rw[hs]at this;simp at this;simp [this]
    .rw[h1,fx,h2];simp [iV]
   .cases h
  .rename_i el hu;split at h
   .rename_i x c x' f;rw[Op.equalIn];simp only[Sem.run_bind,run_underlying hu,Result.andThen_ok,SV.ev,CV.ev];rcases qv (J:=J) h with ⟨h1,h2⟩ | ⟨h1,h2⟩
    .rw[h1,fx,h2];cases hs:az (aB J x) (aB J c)with
     | none=>have:=iV (aB J x) (aB J c);rw[hs]at this;simp at this;simp [this]
     | some q=>have:=iV (aB J x) (aB J c);rw[hs]at this;simp at this;simp [this]
    .rw[h1,fx,h2];simp [iV]
   .cases h
  .rename_i k el hu;split at h
   .rename_i x x';rw[Op.equalIn];simp only[Sem.run_bind,run_underlying hu,Result.andThen_ok,SV.ev,CV.ev];rcases qv (J:=J) h with ⟨h1,h2⟩ | ⟨h1,h2⟩
    .rw[h1,aaR rfl,h2];by_cases hx:aB J x= -1
     .simp [hx]
     .simp [hx]
    .rw[h1,aaR rfl,h2];by_cases hx:aB J x'= -1
     .simp [hx]
     .simp [hx]
   .cases h
  .rename_i fs hu;split at h
   .split at h
    .rename_i hp;have hf:P.fieldsOf t=fs:=by simp [Program.fieldsOf,hu]
     simp only[SV.ev];rw[run_equalIn_struct w D t _ _ (by rw[hf];exact hu) hp,hf];exact qd ih _ _ h
    .cases h
   .cases h
  .rename_i n el hu;split at h
   .split at h
    .rename_i i hi;simp only[SV.ev];rw[run_equalIn_array w D _ _ hu hi];exact wD ih _ _ h
    .cases h
   .cases h
  .cases h
def Ho {y:TV} {X Y:Operand} (h:TE P op t x y=some (n,v)) (hn:bh J n=true) :
 Sem.run P (do eqGuard op t X Y (x.ev J) (y.ev J);binOp op t (x.ev J) (y.ev J)) w=.ok (v.ev J) w:=by
 unfold TE at h;split at h
 .rename_i k a m b;have:=Hp (T:=t) (w:=w) (P:=P) h hn;simp only[TV.ev,SV.ev,CV.ev]at this ⊢;have d:(eqGuard op t X Y (.int k (aB J a)) (.int m (aB J b))).run P w=.ok () w:=by
   unfold eqGuard;split<;>rfl
  simp only[Sem.run_bind,d,Result.andThen_ok];exact this
 .rename_i a b;have:=Hq (T:=t) (w:=w) (P:=P) h hn;simp only[TV.ev,SV.ev,CV.ev]at this ⊢;have d:(eqGuard op t X Y (.string (lh J a)) (.string (lh J b))).run P w=.ok () w:=by
   unfold eqGuard;split<;>rfl
  simp only[Sem.run_bind,d,Result.andThen_ok];exact this
 .rename_i a b f g;split at h
  .rename_i e he;have heq:(Op.equal t (a.ev J) (b.ev J)).run P w=.ok (bh J e) w:=sL 20 t _ _ e 10000 aA he;have i:(∃ x y,a=.bool x/\b=.bool y)\/(∃ x y l c x' y' l' c',a=.sl x y l c/\b=.sl x' y' l' c')\/(∃ x y x' y',a=.hptr x y/\b=.hptr x' y')\/(∃ x y,a=.map x/\b=.map y):=by
    rcases HJ he with ⟨_,_,_,_,rfl,rfl⟩ | ⟨_,_,rfl,rfl⟩ | h | h | h | h
    .exact(f _ _ _ _ rfl rfl).elim
    .exact(g _ _ rfl rfl).elim
    .exact Or.inl h
    .exact Or.inr (Or.inl h)
    .exact Or.inr (Or.inr (Or.inl h))
    .exact Or.inr (Or.inr (Or.inr h))
   rcases i with ⟨x,y,rfl,rfl⟩ | ⟨x,y,l,c,x',y',l',c',rfl,rfl⟩ | ⟨x,y,x',y',rfl,rfl⟩ | ⟨x,y,rfl,rfl⟩
   all_goals
    split at h
    .cases h;simp only[TV.ev,SV.ev]at heq ⊢;simp only[CV.ev]at heq ⊢;simp only[Sem.run_bind,eqGuard,binOp,heq,Sem.run_pure,Result.andThen_ok];simp [heq]
    .cases h;simp only[TV.ev,SV.ev]at heq ⊢;simp only[CV.ev]at heq ⊢;simp [Sem.run_bind,eqGuard,binOp,heq,dv]
    .cases h
  .cases h
 .rename_i a b;split at h
  .rename_i j;have d:∀ op,(eqGuard op t X Y (SV.ev J (.agg a)) (SV.ev J (.agg b))).run P w=.ok () w:=by
    intro op;cases op<;>simp [eqGuard,SV.ev,Sem.run_bind,run_program,j]
   split at h
   .rename_i e he;have heq:(Op.equal t (SV.ev J (.agg a)) (SV.ev J (.agg b))).run P w=.ok (bh J e) w:=sL 20 t _ _ e 10000 aA he;split at h
    .cases h;simp only[SV.ev]at d heq;simp only[TV.ev,SV.ev,CV.ev,Sem.run_bind,d,Result.andThen_ok,binOp,heq,Sem.run_pure]
    .cases h;simp only[SV.ev]at d heq;simp only[TV.ev,SV.ev,CV.ev,Sem.run_bind,d,Result.andThen_ok,binOp,heq,Sem.run_pure,dv]
    .cases h
   .cases h
  .cases h
 .cases h
end
section
variable {P:Program} {S:Nat->Prop} {w0:World} {J:Env} {st:St} {mem:Mem} {a:Act} {w:World} {n:E} {v:TV}
def MRel.O1 (h:MRel S w0 J mem w) {x:E} (hx:bh J (O1 mem x)=true):-1<=aB J x:=by
 unfold Sx.O1 at hx;split at hx
 .split at hx
  .rename_i a b;have:=zg h b;rw[al];omega
  .rw[kQ,ak,aaB]at hx;exact hx
 .rw[ba,ak,aaB]at hx;exact hx
def ir {k:IntKind} {code:BoundsCode} (h0:0<=i) (h1:i<=y):(Instr.sliceBound (.int k i) y code).run P w=.ok i.toNat w:=by
 unfold Instr.sliceBound;simp only[asIntOf,Sem.run_bind,Sem.run_pure,Result.andThen_ok,h0,h1,and_self,ab6]
def nR {d:E} {x:Option TV} {e:E} (h:nA d x=some e):(x=none/\e=d)\/∃ k,x.map (TV.ev J)=some (.int k (aB J e)):=by
 unfold nA at h;split at h
 .cases h;exact Or.inl ⟨rfl,rfl⟩
 .cases h;exact Or.inr ⟨_,rfl⟩
 .cases h
def lj {isSlice:Bool} {len:Nat} {dl b l h:E} (hl:nA dl lo=some l) (hh:nA b hi=some h) (h0:aB J dl=0) (h1:aB J b=len)
 (a0:0<=aB J l) (e:aB J l<=aB J h) (c:aB J h<=cap) :
 (Instr.sliceBounds isSlice len cap (lo.map (TV.ev J)) (hi.map (TV.ev J)) none).run P w=.ok ((aB J l).toNat,(aB J h).toNat,cap) w:=by
 unfold Instr.sliceBounds;simp only[Sem.run_bind,Sem.run_pure,Result.andThen_ok];rcases nR (J:=J) hh with ⟨rfl,rfl⟩ | ⟨k,hk⟩
 .simp only[acn,Sem.run_pure,Result.andThen_ok];rw[h1];rcases nR (J:=J) hl with ⟨rfl,rfl⟩ | ⟨d,a⟩
  .simp only[acn,Sem.run_pure,Result.andThen_ok,h0,aar];rfl
  .simp only[a,Sem.run_bind,Sem.run_pure,Result.andThen_ok];rw[ir a0 ah];simp
 .simp only[hk,Sem.run_bind];rw[ir ah c];simp only[Result.andThen_ok];rcases nR (J:=J) hl with ⟨rfl,rfl⟩ | ⟨d,a⟩
  .simp only[acn,Sem.run_pure,Result.andThen_ok,h0];rfl
  .simp only[a,Sem.run_bind];rw[ir a0 ah];simp
def vY {m l y:E} (hl:0<=aB J l):aB J (AJ m l y k)=if aB J m=aB J l then aB J y else aB J y+(((aB J l).toNat*k:Nat):Int):=by
 unfold AJ;rw[jb,gj,fD,od,ak,rq hl];by_cases h:aB J m=aB J l<;>simp [h]
def GG {x y:Int} (hx:-1<=x) (a:0<=y) (k:Nat):(az x y).map (·.add k)=az x (y+k):=by
 by_cases h:0<=x
 .rw[au h,rN h a,abe,fE]
 .have:x= -1:=ah;subst this;rfl
def D8 (hm:MRel S w0 J mem w) (h:I9 P mem t x lo hi mx=some (n,v)) (hn:bh J n=true) :
 (Instr.sliceAt t (x.ev J) (lo.map (TV.ev J)) (hi.map (TV.ev J)) (mx.map (TV.ev J))).run P w=.ok (v.ev J) w:=by
 unfold I9 at h;split at h
 .cases h
 .split at h
  .rename_i s hu;split at h
   .rename_i l hh hl a;cases h;rw[aO,aaE,aO,aaE,ba,ba,ba,ak,aaB,aaB,aaB,lS]at hn;obtain⟨a0,b,c⟩:=hn;have hb:=lj (P:=P) (w:=w) (isSlice:=false) (len:=(lh J s).size) (cap:=(lh J s).size) hl a (ak _ _) (lS _ _) a0 b c;unfold Instr.sliceAt;simp only[Sem.run_bind,run_underlying hu,Result.andThen_ok];unfold Instr.slice;simp only[Sem.run_bind,run_underlying hu,Result.andThen_ok,TV.ev,SV.ev,CV.ev,acn,Option.isSome_none,abz,aca,Sem.run_pure,hb,Qc]
   .cases h
  .rename_i el x y len cap hu;split at h
   .rename_i l hh k hl a hs;cases h;rw[aO,aaE,aO,aaE,aO,aaE,aO,aaE,ba,ba,ba,ba,ak,aaB,aaB,aaB,aaB]at hn;obtain⟨hx,d,a0,b,c⟩:=hn;have hx:=hm.O1 hx;by_cases hlen:0<=aB J len
    .have hb:=lj (P:=P) (w:=w) (isSlice:=true) (len:=(aB J len).toNat) (cap:=(aB J cap).toNat) hl a (ak _ _) (by rw[acV hlen]) a0 b ah;unfold Instr.sliceAt;simp only[Sem.run_bind,run_underlying hu,Result.andThen_ok];unfold Instr.slice;simp only[Sem.run_bind,run_underlying hu,Result.andThen_ok,TV.ev,SV.ev,CV.ev,acn,hb,fe hs,Sem.run_pure,vY a0,oe]
     congr 2
     .by_cases hc:aB J cap=aB J l
      .rw[aaR (by rw[hc]),aaR hc]
      .rw[aaG ah,aaG hc,GG hx d]
     .omega
     .omega
    .
     rcases nR (J:=J) a with ⟨rfl,rfl⟩ | ⟨f,hk⟩
     .omega
     .unfold Instr.sliceAt;simp only[Sem.run_bind,run_underlying hu,Result.andThen_ok];unfold Instr.slice;simp only[Sem.run_bind,run_underlying hu,Result.andThen_ok,TV.ev,SV.ev,CV.ev,acn];have hb:(Instr.sliceBounds true (aB J len).toNat (aB J cap).toNat (lo.map (TV.ev J)) (hi.map (TV.ev J)) none).run P w=.ok ((aB J l).toNat,(aB J hh).toNat,(aB J cap).toNat) w:=by
       unfold Instr.sliceBounds;simp only[Sem.run_bind,Sem.run_pure,Result.andThen_ok,hk];rw[ir ah ah];simp only[Result.andThen_ok];rcases nR (J:=J) hl with ⟨rfl,rfl⟩ | ⟨g,e⟩
       .simp only[acn,Sem.run_pure,Result.andThen_ok,ak];rfl
       .simp only[e,Sem.run_bind];rw[ir a0 ah];simp
      simp only[hb,fe hs,Sem.run_pure,vY a0,oe,Result.andThen_ok]
      congr 2
      .by_cases hc:aB J cap=aB J l
       .rw[aaR (by rw[hc]),aaR hc]
       .rw[aaG ah,aaG hc,GG hx d]
      .omega
      .omega
   .cases h
  .rename_i q el x y hu;split at h
   .rename_i l hh k hl a hs;cases h;rw[aO,aaE,aO,aaE,aO,aaE,aO,aaE,ba,ba,ba,ba,ak,ak,aaB,aaB,aaB,aaB]at hn;obtain⟨hx,d,a0,b,c⟩:=hn;have hx:=hm.FE hx;have hb:=lj (P:=P) (w:=w) (isSlice:=false) (len:=q) (cap:=q) hl a (ak _ _) (ak _ _) a0 b c;have es:aB J (AJ (.lit q) l y k)=if(q:Int)=aB J l then aB J y else aB J y+(((aB J l).toNat*k:Nat):Int):=vY a0
    unfold Instr.sliceAt;simp only[Sem.run_bind,run_underlying hu,Result.andThen_ok,TV.ev,SV.ev,CV.ev,au hx,Instr.sureAddr,Sem.run_pure,acn,hb,fe hs,es,oe,ak]
    congr 2
    .by_cases hc:(q:Int)=aB J l
     .rw[aaR ah,aaR hc]
     .rw[aaG ah,aaG hc,fE];congr 2;omega
    .omega
    .omega
   .cases h
  .cases h
def Ad {o:Option Operand} {x:Option TV} (hr:Rel S w0 J st a w) (h:(match o with | none=>some none | some o=>(de st o).map some)=some x):o.map a.eval=x.map (TV.ev J):=by
 cases o with
 | none=>simp only[aaF]at h;subst h;rfl
 | some o =>
  simp only[aaI]at h;obtain⟨y,b,rfl⟩:=h;simp [aH hr b]
def DA (hr:Rel S w0 J st a w) {x y:Operand} (h:Iv P st op t x y=some (n,v)) (hn:bh J n=true) :
 Sem.run P (do eqGuard op t x y (a.eval x) (a.eval y);binOp op t (a.eval x) (a.eval y)) w=.ok (v.ev J) w:=by
 unfold Iv at h;split at h
 .rename_i j hx;have e1:=aH hr hx;simp only[TV.ev,SV.ev,CV.ev]at e1;have b:a.eval (.const .nilIface)=.nilIface:=rfl;split at h
  .rename_i ms d;have heq:(Op.equal t (J.v j) .nilIface).run P w=.ok (decide (pM (J.v j)=0)) w:=by
    have hd:∀ v:Value,v=.nilIface\/(∃ t x,v=.iface t x)->(Op.equal t v .nilIface).run P w=.ok (decide (pM v=0)) w:=by
     rintro v (rfl | ⟨t',x',rfl⟩)
     .show(Op.equalIn (9999+1) t .nilIface .nilIface).run P w=_;rw[Op.equalIn];simp only[Sem.run_bind,run_underlying d,Result.andThen_ok,Sem.run_pure,pM];rfl
     .show(Op.equalIn (9999+1) t (.iface t' x') .nilIface).run P w=_;rw[Op.equalIn];simp only[Sem.run_bind,run_underlying d,Result.andThen_ok,Sem.run_pure,pM];rfl
    refine hd _ (AY ?_);split at h
    .cases h;rw[kQ,aaB]at hn;exact hn
    .cases h;rw[kQ,aaB]at hn;exact hn
    .cases h
   have hv:J.v j=.nilIface\/(∃ t x,J.v j=.iface t x):=by
    refine AY ?_;split at h
    .cases h;rw[kQ,aaB]at hn;exact hn
    .cases h;rw[kQ,aaB]at hn;exact hn
    .cases h
   have c:∀ op,(eqGuard op t x (.const .nilIface) (J.v j) .nilIface).run P w=.ok () w:=by
    intro op;rcases hv with h | ⟨t',x',h⟩<;>rw[h]<;>cases op<;>simp [eqGuard]
   have hb:(binOp .eql t (J.v j) .nilIface).run P w=.ok (.bool (decide (pM (J.v j)=0))) w/\(binOp .neq t (J.v j) .nilIface).run P w=.ok (.bool (!decide (pM (J.v j)=0))) w:=by
    rcases hv with h | ⟨t',x',h⟩<;>rw[h]at heq ⊢<;>constructor<;>simp only[binOp,Sem.run_bind,heq,Result.andThen_ok,Sem.run_pure]
   split at h
   .cases h;simp only[e1,b,Sem.run_bind,c,Result.andThen_ok,hb.1];rfl
   .cases h;simp only[e1,b,Sem.run_bind,c,Result.andThen_ok,hb.2];rfl
   .cases h
  .cases h
 .rename_i hx;have e1:=aH hr hx;have b:a.eval (.const .nilIface)=.nilIface:=rfl;have e1:a.eval x=.nilIface:=e1;split at h
  .rename_i ms d;have hd:(Op.equal t .nilIface .nilIface).run P w=.ok true w:=by
    show(Op.equalIn (9999+1) t .nilIface .nilIface).run P w=_;rw[Op.equalIn];simp only[Sem.run_bind,run_underlying d,Result.andThen_ok,Sem.run_pure]
   have c:∀ op,(eqGuard op t x (.const .nilIface) .nilIface .nilIface).run P w=.ok () w:=by
    intro op;cases op<;>simp [eqGuard]
   have hb:(binOp .eql t .nilIface .nilIface).run P w=.ok (.bool true) w/\(binOp .neq t .nilIface .nilIface).run P w=.ok (.bool false) w:=by
    constructor<;>simp only[binOp,Sem.run_bind,hd,Result.andThen_ok,Sem.run_pure]<;>rfl
   split at h
   .cases h;simp only[e1,b,Sem.run_bind,c,Result.andThen_ok,hb.1];rfl
   .cases h;simp only[e1,b,Sem.run_bind,c,Result.andThen_ok,hb.2];rfl
   .cases h
  .cases h
 .cases h
def qF (hr:Rel S w0 J st a w) {o:Oper} (h:quiet P st o.op=some (n,v)) (hn:bh J n=true) :
 (execOp a.eval o).run P w=.ok (.value (v.ev J)) w:=by
 obtain⟨dst,op,ty,pos,F,gd⟩:=o;simp only at h;unfold quiet at h;split at h
 .rename_i x;simp only[aaI,abl]at h;obtain⟨y,g,_,rfl⟩:=h;simp only[execOp,Sem.run_pure,aH hr g]
 .rename_i x;simp only[aaI,abl]at h;obtain⟨y,g,_,rfl⟩:=h;simp only[execOp,Sem.run_pure,aH hr g]
 .rename_i c x y;split at h
  .rename_i e hc;have e1:=aH hr hc;simp only[TV.ev,SV.ev,CV.ev]at e1;split at h
   .rename_i hk;simp only[aaI,abl]at h;obtain⟨z,A,_,rfl⟩:=h;simp only[execOp,Sem.run_bind,e1,fW hr.path hk,asBool,Sem.run_pure,Result.andThen_ok,ab6,aH hr A]
   .rename_i hk;simp only[aaI,abl]at h;obtain⟨z,A,_,rfl⟩:=h;simp only[execOp,Sem.run_bind,e1,fW hr.path hk,asBool,Sem.run_pure,Result.andThen_ok,aca,abz,aH hr A]
   .split at h
    .rename_i G H C hb;simp only[aaI,abl]at h;obtain⟨u,hu,_,rfl⟩:=h;have em:=zT (J:=J) hu;simp only[execOp,Sem.run_bind,e1,asBool,Sem.run_pure,Result.andThen_ok,TV.ev,em,aH hr C,aH hr hb]
    .cases h
  .cases h
 .rename_i x;split at h
  .rename_i p q hx;cases h;have hp:=hr.toMRel.FE hn;have e1:=aH hr hx;simp only[TV.ev,SV.ev,CV.ev]at e1;simp only[execOp,e1,TV.ev,SV.ev,CV.ev,au hp,Sem.run_pure]
  .cases h
 .rename_i op t x y _;split at h
  .rename_i r B;cases h;have:=DA hr B hn;unfold execOp;simp only[Sem.run_bind]at this ⊢;rw[this];simp only[Result.andThen_ok,Sem.run_pure]
  split at h
  .rename_i v1 v2 hx g;have e1:=aH hr hx;have k:=aH hr g;have:=Ho (w:=w) (X:=x) (Y:=y) h hn;rw[<-e1,<-k]at this;unfold execOp;simp only[Sem.run_bind]at this ⊢;rw[this];simp only[Result.andThen_ok,Sem.run_pure]
  .cases h
 .rename_i op t x;split at h
  .rename_i v1 hx;simp only[execOp,Sem.run_bind,aH hr hx,M3 (w:=w) (P:=P) (J:=J) h,Result.andThen_ok,Sem.run_pure]
  .cases h
 .rename_i s d x;split at h
  .rename_i v1 hx;simp only[execOp,Sem.run_bind,aH hr hx,EN hr.toMRel h hn,Result.andThen_ok,Sem.run_pure]
  .cases h
 .rename_i s x f;split at h
  .rename_i v1 hx;simp only[execOp,Sem.run_bind,aH hr hx,vo hr.toMRel h hn,Result.andThen_ok,Sem.run_pure]
  .cases h
 .rename_i s x f;split at h
  .rename_i v1 hx;simp only[execOp,Sem.run_bind,aH hr hx,De (w:=w) (J:=J) h,Result.andThen_ok,Sem.run_pure]
  .cases h
 .rename_i t x y;split at h
  .rename_i v1 v2 hx g;simp only[execOp,Sem.run_bind,aH hr hx,aH hr g,vu hr.toMRel h hn,Result.andThen_ok,Sem.run_pure]
  .cases h
 .rename_i t x y;split at h
  .rename_i v1 v2 hx g;simp only[execOp,Sem.run_bind,aH hr hx,aH hr g,Dq (w:=w) h hn,Result.andThen_ok,Sem.run_pure]
  .cases h
 .rename_i t x;split at h
  .rename_i c hx;simp only[aaI,abl]at h;obtain⟨⟨I,u⟩,hu,rfl,rfl⟩:=h;have e1:=aH hr hx;obtain⟨p,hp,hl⟩:=wP hr.toMRel hu hn;simp only[TV.ev,SV.ev,hp]at e1;simp only[execOp,Sem.run_bind,e1,Instr.loadAt,Instr.sureAddr,Sem.run_pure,Result.andThen_ok,hl,TV.ev]
  .cases h
 .rename_i x i;split at h
  .rename_i v1 hx;simp only[execOp,Sem.run_bind,aH hr hx,zf (w:=w) (P:=P) (J:=J) h,Result.andThen_ok,Sem.run_pure]
  .cases h
 .rename_i t x;split at h
  .rename_i q el x' y l c hu hx;cases h;rw[ba,ak,aaB]at hn;have e1:=aH hr hx;simp only[TV.ev,SV.ev,CV.ev]at e1;have:¬(aB J l).toNat<q:=ah;simp only[execOp,Sem.run_bind,e1,Instr.arrayAt,run_underlying hu,Result.andThen_ok,aaG this,Sem.run_pure,TV.ev,SV.ev,CV.ev]
  .cases h
 .rename_i t x lo hi mx;split at h
  .rename_i v1 hx;split at h
   .rename_i l hh m h1 h2 D;have:=D8 hr.toMRel h hn;rw[<-Ad hr h1,<-Ad hr h2,<-Ad hr D,<-aH hr hx]at this;simp only[execOp,Sem.run_bind,this,Result.andThen_ok,Sem.run_pure]
   .cases h
  .cases h
 .rename_i f first captured
  split at h
  .rename_i hc;cases h;obtain⟨rfl,rfl⟩:=hc;simp [execOp,Sem.run_bind,Instr.makeFunc,TV.ev,SV.ev,CV.ev]
  .split at h
   .rename_i c j;split at h
    .rename_i hf;split at h
     .rename_i x y hx;split at h
      .rename_i g;cases h;subst g;subst hf;have e1:=aH hr hx;simp only[TV.ev,SV.ev,CV.ev,ak]at e1;have E:captured=#[c]:=by
        obtain⟨l⟩:=captured;simp only at j;subst j;rfl
       subst E;simp [execOp,Sem.run_bind,Instr.makeFunc,TV.ev,SV.ev,CV.ev,e1]
      .cases h
     .cases h
    .cases h
   .cases h
 .rename_i b args ats;split at h
  .rename_i vs hx;have e1:=ji hr _ _ hx;have k:args.map a.eval=(vs.map (TV.ev J)).toArray:=by
    rw[<-e1];obtain⟨l⟩:=args;exact adh
   rw[BigFrame.execOp_builtin,k];exact yF hr.toMRel h hn
  .cases h
 .rename_i t parts;split at h
  .rename_i vs hx;have e1:=ji hr _ _ hx;have k:(parts.map fun p=>(p.1,a.eval p.2))=((parts.toList.map (·.1)).zip (vs.map (TV.ev J))).toArray:=by
    rw[<-e1,abD,<-zS parts.toList];obtain⟨l⟩:=parts;exact adh
   split at h
   .rename_i r hb;cases h;have:=Hr (w:=w) (J:=J) hb hn;rw[<-k]at this;simp only[execOp,Sem.run_bind,this,Result.andThen_ok,Sem.run_pure]
   .have:=CW (w:=w) (J:=J) h;rw[<-k]at this;simp only[execOp,Sem.run_bind,this,Result.andThen_ok,Sem.run_pure]
  .cases h
 .cases h
end
def Env.gf (J:Env) (n:Nat) (x:Int):Env:={J with i:=fun k=>if k=n then x else J.i k}
def Env.mC (J:Env) (n:Nat) (x:Hl):Env:={J with h:=fun k=>if k=n then x else J.h k}
def Env.GD (J:Env) (n:Nat) (x:Value):Env:={J with v:=fun k=>if k=n then x else J.v k}
def Env.MN (J:Env) (n:Nat) (x:Bool):Env:={J with b:=fun k=>if k=n then x else J.b k}
def Env.Sq (J:Env) (n:Nat) (x:ByteArray):Env:={J with s:=fun k=>if k=n then x else J.s k}
section
variable (J:Env) (n m:Nat)
def nM (x:Int):(J.gf n x).i n=x:=by simp [Env.gf]
def KQ (x:Int) (h:m≠n):(J.gf n x).i m=J.i m:=by simp [Env.gf,h]
def gL (x:Hl):(J.mC n x).h n=x:=by simp [Env.mC]
def ct (x:Int) (h:n<=k):ai n J (J.gf k x):=⟨fun j a=>by simp [Env.gf];omega,fun _ _=>rfl,fun _ _=>rfl,fun _ _=>rfl,fun _ _=>rfl⟩
def fF (x:Hl) (h:n<=k):ai n J (J.mC k x):=⟨fun _ _=>rfl,fun _ _=>rfl,fun _ _=>rfl,fun _ _=>rfl,fun j a=>by simp [Env.mC];omega⟩
def yy (x:Value) (h:n<=k):ai n J (J.GD k x):=⟨fun _ _=>rfl,fun _ _=>rfl,fun _ _=>rfl,fun j a=>by simp [Env.GD];omega,fun _ _=>rfl⟩
def yx (x:Bool) (h:n<=k):ai n J (J.MN k x):=⟨fun _ _=>rfl,fun j a=>by simp [Env.MN];omega,fun _ _=>rfl,fun _ _=>rfl,fun _ _=>rfl⟩
def Hb (x:ByteArray) (h:n<=k):ai n J (J.Sq k x):=⟨fun _ _=>rfl,fun _ _=>rfl,fun j a=>by simp [Env.Sq];omega,fun _ _=>rfl,fun _ _=>rfl⟩
end
def Hl.put (h:Hl) (x y:Nat) (vs:List Value):Hl:=fun b=>if b=x then
 match h x with
 | some (.cells c T fr)=>some (.cells (br c.toList y vs).toArray T fr)
 | o=>o
 else h b
variable {H a h:Hl}
def Hl.wr (h:Hl) (x y n:Nat):Bool :=
 match h x with
 | some (.cells c _ fr)=>decide (y+n<=c.size)&&(decide (fr.2<=y)||decide (y+n<=fr.1))
 | _=>false
def Hl.iA {x:Nat} : (h.put x y vs).mem b↔h.mem b:=by
 unfold Hl.mem Hl.put;split
 .rename_i e;subst e;split
  .rename_i c T fr hb;simp [hb]
  .rfl
 .rfl
def Hl.un (a b:Hl):Hl:=fun k=>(a k).or (b k)
def di (l:List Hl):Hl:=l.foldr Hl.un Hl.none
def Hl.le (a b:Hl):Prop:=∀ k o,a k=some o->b k=some o
def Hl.fm {b:Hl} : (a.un b).mem k↔a.mem k\/b.mem k:=by
 unfold Hl.mem Hl.un;cases a k<;>simp
def Hl.Jq {b:Hl} {w:World} (h1:a.sub w) (h2:b.sub w):(a.un b).sub w:=by
 intro k o h;unfold Hl.un at h;cases c:a k with
 | some x=>rw[c]at h;cases h;exact h1 _ _ c
 | none=>rw[c]at h;exact h2 _ _ h
def aP (h:Hl) (e:TypeId) (size:Nat) (v:Value) (n:Nat) (xs:List Value):Prop :=
 xs.length=n*size /\
 ((v=.slice none 0 0/\n=0) \/
  ∃ g cap cur,v=.slice (some ⟨g,0,none⟩) n cap/\h g=some (.cells cur e (0,0))/\n<=cap/\cap<=maxLen/\cur.size=cap*size/\cur.toList.take (n*size)=xs)
inductive Src | cvs (l:List CV) (m:Nat) | seg (h:Nat) (x y l:E)
def cn (h:Hl) (x y n:Nat):List Value:=(List.range n).map fun j=>(h.cell x (y+j)).getD (.tuple #[])
def Src.len (J:Env):Src->Nat
 | .cvs _ m=>m
 | .seg _ _ _ l=>(aB J l).toNat
def Src.iW (J:Env) (size:Nat):Src->List Value
 | .cvs l _=>l.map (CV.ev J)
 | .seg h x y l=>cn (J.h h) (aB J x).toNat (aB J y).toNat ((aB J l).toNat*size)
def Src.ok (J:Env) (size:Nat):Src->Prop
 | .cvs l m=>True
 | .seg h x y l=>(0<=aB J x/\0<=aB J y/\0<=aB J l/\∀ j,j<(aB J l).toNat*size->∃ v,(J.h h).cell (aB J x).toNat ((aB J y).toNat+j)=some v/\v.oneCell'=true)\/aB J l=0
def mY (kd:Kd) (key:Value) (es:Array MapEntry):Option (Option (Nat×Value)) :=
 match kd with
 | .int k=>Instr.findNow (.int k) key es.toList 0
 | .str=>Instr.findNow .string key es.toList 0
 | _=>none
def sW (kd:Kd) (key val:Value) (es:Array MapEntry) (clock:Nat):Obj :=
 match mY kd key es with
 | some (some (i,_))=>.map (es.modify i fun e=>{e with key,val}) clock
 | _=>.map (es.push {key,val,born:=clock}) (clock+1)
def isAgg:Value->Bool
 | .agg _=>true
 | _=>false
def Hl.setObj (h:Hl) (x:Nat) (o:Obj):Hl:=fun b=>if b=x then some o else h b
inductive Ck | int (k:IntKind) | bool | str | any | ptr | sl | map | slw
inductive Cp | one (k:Ck) | agg (ks:List Ck)
def Ck.len:Ck->Nat
 | .ptr=>2 | .sl=>4 | .slw=>4 | _=>1
def Ck.cv (n:Nat):Ck->CV
 | .int k=>.int k (.var n)
 | .bool=>.bool (.bvar n)
 | .str=>.str (.svar n)
 | .any=>.vr n
 | .ptr=>.hptr (.var n) (.var (n+1))
 | .sl=>.sl (.var n) (.var (n+1)) (.var (n+2)) (.var (n+3))
 | .map=>.map (.var n)
 | .slw=>.sl (.var n) (.var (n+1)) (.var (n+2)) (.var (n+3))
def Ck.root (n:Nat):Ck->List E
 | .ptr | .sl | .map=>[.var n]
 | _=>[]
def ar:Nat->List Ck->List CV
 | _,[]=>[]
 | n,k::l=>k.cv n::ar (n+k.len) l
def Jy:Nat->List Ck->List E
 | _,[]=>[]
 | n,k::l=>k.root n++Jy (n+k.len) l
def bd (l:List Ck):Nat:=(l.map Ck.len).sum
def Cp.sv (n:Nat):Cp->SV
 | .one k=>.one (k.cv n)
 | .agg ks=>.agg (ar n ks)
def Cp.len:Cp->Nat
 | .one k=>k.len
 | .agg ks=>bd ks
def Cp.roots (n:Nat):Cp->List E
 | .one k=>k.root n
 | .agg ks=>Jy n ks
def cA:Nat->List Cp->List SV
 | _,[]=>[]
 | n,c::l=>c.sv n::cA (n+c.len) l
def aK:Nat->List Cp->List E
 | _,[]=>[]
 | n,c::l=>c.roots n++aK (n+c.len) l
def Wo (l:List Cp):Nat:=(l.map Cp.len).sum
def kS (n:Nat) (l:List Cp):TV :=
 match l with
 | [c]=>.sv (c.sv n)
 | l=>.tup (cA n l)
def ma:Value->Ck
 | .int k _=>.int k
 | .bool _=>.bool
 | .string _=>.str
 | .slice _ _ _=>.sl
 | .pointer _=>.ptr
 | .map _=>.map
 | _=>.any
def mn (n:Nat) (ks:List Ck) (agg:Bool):SV:=if agg then .agg (ar n ks)else match ks with
 | [k]=>.one (k.cv n)
 | _=>.agg (ar n ks)
def nY (ks:List Ck) (agg:Bool) (v:Value):Prop:=if agg then ∃ cs,v=.agg cs/\cs.toList.map ma=ks else ∃ k,ks=[k]/\ma v=k
def jt (n:Nat) (J:Env):Ck->Prop
 | .ptr=> -1<=J.i n/\0<=J.i (n+1)
 | .sl=> -1<=J.i n/\0<=J.i (n+1)/\0<=J.i (n+2)/\0<=J.i (n+3)
 | .map=> -1<=J.i n
 | .slw=>True/\0<=J.i (n+1)/\0<=J.i (n+2)/\0<=J.i (n+3)
 | _=>True
def cW:Nat->List Ck->Env->Prop
 | _,[],_=>True
 | n,k::l,J=>jt n J k/\cW (n+k.len) l J
def HC (n:Nat) (J:Env):Cp->Prop
 | .one k=>jt n J k
 | .agg ks=>cW n ks J
def ft:Nat->List Cp->Env->Prop
 | _,[],_=>True
 | n,c::l,J=>HC n J c/\ft (n+c.len) l J
inductive YA | arg (i:Nat) | link (i j:Nat) | VK (i j k:Nat)
structure Spec where
 fn:FuncId
 own:List YA
 rd:List Nat
 res:List Cp
 links:List Nat:=[]
 pre:List Value->List Hl->List Hl->Prop
 post:List Value->List Hl->List Hl->Value->List Hl->Hl->Prop
structure yw (w w':World) (Hs Hs':List Hl) (F:Hl):Prop where
 os:w'.os=w.os
 tape:w'.tape=w.tape
 output:w'.output=w.output
 size:w.heap.size<=w'.heap.size
 block:∀ b,b<w.heap.size->(∀ H∈Hs,¬H.mem b)->w'.heap[b]?=w.heap[b]?
 len:Hs'.length=Hs.length
 sub:∀ H∈Hs',H.sub w'
 fsub:F.sub w'
 dom:∀ H∈Hs',∀ b,H.mem b->(∃ K∈Hs,K.mem b)\/w.heap.size<=b
 fdom:∀ b,F.mem b->(∃ K∈Hs,K.mem b)\/w.heap.size<=b
 bV:∀ (p q:Nat) H K,p≠q->Hs'[p]?=some H->Hs'[q]?=some K->H.bV K
 fdis:∀ H∈Hs',H.bV F
def Spec.OK (P:Program) (s:Spec):Prop:=∀ w (xs:List Value) (Hs Rs:List Hl),Hs.length=s.own.length->Rs.length=s.rd.length ->
 (∀ H∈Hs,H.sub w)->(∀ R∈Rs,R.sub w)->(∀ (p q:Nat) H K,p≠q->Hs[p]?=some H->Hs[q]?=some K->H.bV K)->(∀ H∈Hs,∀ R∈Rs,H.bV R)->s.pre xs Hs Rs ->
 Calls P s.fn xs.toArray w fun e w'=>∃ (J:Env) (Hs':List Hl) (F:Hl),e=.returned ((kS 0 s.res).ev J)/\ft 0 s.res J/\yw w w' Hs Hs' F/\s.post xs Hs Rs ((kS 0 s.res).ev J) Hs' F
structure Ctx where
 Γ:List Spec
 inv:Nat->Env->Prop
 mu:Nat->Env->Nat
 post:Env->Mem->TV->Prop
inductive X
 | alloc (n:Nat)
 | put (n h:Nat) (x y:E) (cs:List CV)
 | app (n:Nat) (el:TypeId) (size bytes:Nat) (s:CV) (l:E) (H:bL) (src:Src)
 | grow (n:Nat) (el:TypeId) (size bytes:Nat) (olds:List CV) (l c:Nat) (src:Src)
 | mk (n:Nat) (el:TypeId) (z:List CV) (bytes:Nat) (l:E)
 | call (j n:Nat) (args:List TV) (own rd:List bL)
 | mnew (n:Nat)
 | mget (n h:Nat) (x:E) (kd:Kd) (key:CV) (z:SV) (ks:List Ck) (agg:Bool)
 | mset (n h:Nat) (x:E) (kd:Kd) (key:CV) (v:SV)
 | mclr (n h:Nat) (x:E)
 | cbs (n a:Nat) (cs:List CV) (T:TypeId)
 | Rr (n:Nat) (a b:bL)
 | cpy (n h:Nat) (x y ld:E) (hs:Nat) (xs ys ls:E)
 | Nh (n:Nat) (r:bL)
 | mki (n:Nat) (T:TypeId) (v:SV)
def X.n:X->Nat
 | .mnew n | .mget n _ _ _ _ _ _ _ | .mset n _ _ _ _ _ | .mclr n _ _ | .cbs n _ _ _ | .Rr n _ _ | .cpy n _ _ _ _ _ _ _ _ | .Nh n _ | .mki n _ _=>n
 | .alloc n | .put n _ _ _ _ | .app n _ _ _ _ _ _ _ | .grow n _ _ _ _ _ _ _ | .mk n _ _ _ _ | .call _ n _ _ _=>n
def newHs (J:Env) (n k:Nat):List Hl:=(List.range k).map fun j=>J.h (n+j)
def X.pre (C:Ctx) (J:Env):X->Prop
 | .alloc _=>True
 | .put _ h x y cs=>0<=aB J x/\0<=aB J y/\(J.h h).wr (aB J x).toNat (aB J y).toNat cs.length=true
 | .app _ el size bytes s l H src=>(∃ xs,aP (H.hl J) el size (s.ev J) (aB J l).toNat xs)/\0<=aB J l/\src.ok J size/\(aB J l).toNat+src.len J<=maxLen/\((aB J l).toNat+src.len J)*bytes<=140737488355328
 | .grow _ el size bytes olds l c src=>src.ok J size/\c<l+src.len J/\l+src.len J<=maxLen/\(l+src.len J)*bytes<=140737488355328
 | .mk _ el z bytes l=>0<=aB J l/\(bytes:Int)*aB J l<=281474976710656/\aB J l<=9223372036854775807
 | .call j _ args own rd=>match C.Γ[j]? with
  | some s=>s.pre (args.map (TV.ev J)) (own.map (bL.hl J)) (rd.map (bL.hl J))
  | none=>False
 | .mnew _=>True
 | .mget _ h x kd key z ks agg=>0<=aB J x/\∃ es clock r,J.h h (aB J x).toNat=some (.map es clock)/\mY kd (key.ev J) es=some r/\∀ i v,r=some (i,v)->nY ks agg v
 | .mset _ h x kd key v=>0<=aB J x/\∃ es clock r,J.h h (aB J x).toNat=some (.map es clock)/\mY kd (key.ev J) es=some r
 | .mclr _ h x=>0<=aB J x/\∃ es clock,J.h h (aB J x).toNat=some (.map es clock)
 | .cbs _ _ _ _=>True
 | .Rr _ _ _=>True
 | .Nh _ _=>True
 | .mki _ _ _=>True
 | .cpy _ h x y ld hs xs ys ls=>(0<=aB J x/\0<=aB J y/\0<=aB J ld/\0<=aB J ls)/\(∃ c T,J.h h (aB J x).toNat=some (.cells c T (0,0))/\aB J y+min (aB J ls) (aB J ld)<=c.size) /\
  (min (aB J ls) (aB J ld)=0\/0<=aB J xs/\0<=aB J ys/\bM (J.h hs) (aB J xs).toNat (aB J ys).toNat (min (aB J ls) (aB J ld)).toNat=true)
def X.rel (C:Ctx) (J J':Env):X->Prop
 | .alloc n=>0<=J'.i n
 | .put n h x y cs=>J'.h n=(J.h h).put (aB J x).toNat (aB J y).toNat (cs.map (CV.ev J))
 | .app n el size bytes s l H src =>
  -1<=J'.i n/\0<=J'.i (n+1) /\
  (∀ xs,aP (H.hl J) el size (s.ev J) (aB J l).toNat xs->aP (J'.h n) el size (.slice (az (J'.i n) 0) ((aB J l).toNat+src.len J) (J'.i (n+1)).toNat) ((aB J l).toNat+src.len J) (xs++src.iW J size)) /\
  (∀ b,(H.hl J).mem b->some b≠(s.ev J).ownBlock->J'.h n b=H.hl J b) /\
  ((∀ b,(J'.h n).mem b->(H.hl J).mem b\/(b=(J'.i n).toNat/\0<=J'.i n))/\∀ xs,aP (H.hl J) el size (s.ev J) (aB J l).toNat xs->aP (J'.h n) el size (s.ev J) (aB J l).toNat xs) /\
  (some (J'.i n).toNat=(s.ev J).ownBlock\/¬(H.hl J).mem (J'.i n).toNat\/J'.i n= -1)
 | .grow n el size bytes olds l c src =>
  0<=J'.i n/\0<=J'.i (n+1) /\
  aP (J'.h n) el size (.slice (az (J'.i n) 0) (l+src.len J) (J'.i (n+1)).toNat) (l+src.len J) (olds.map (CV.ev J)++src.iW J size) /\
  (∀ b,(J'.h n).mem b->b=(J'.i n).toNat)
 | .mk n el z bytes l=>0<=J'.i n/\J'.h n=Hl.one (J'.i n).toNat (.cells (madeCells (z.map (CV.ev J)).toArray ((aB J l).toNat*z.length)) el (0,0))
 | .call j n args own rd=>match C.Γ[j]? with
  | some s=>∃ F,s.post (args.map (TV.ev J)) (own.map (bL.hl J)) (rd.map (bL.hl J)) ((kS n s.res).ev J') (newHs J' n own.length) F/\(aK 0 s.res≠[]->J'.h (n+own.length)=F)/\ft n s.res J'
  | none=>False
 | .mnew n=>0<=J'.i n/\J'.h n=Hl.one (J'.i n).toNat (.map #[] 0)
 | .mget n h x kd key z ks agg=>∀ es clock r,J.h h (aB J x).toNat=some (.map es clock)->mY kd (key.ev J) es=some r ->
  (mn n ks agg).ev J'=(match r with | some (_,v)=>v | none=>z.ev J)/\J'.b (n+bd ks)=r.isSome
 | .mset n h x kd key v=>∀ es clock,J.h h (aB J x).toNat=some (.map es clock)->J'.h n=(J.h h).setObj (aB J x).toNat (sW kd (key.ev J) (v.ev J) es clock)
 | .mclr n h x=>∀ es clock,J.h h (aB J x).toNat=some (.map es clock)->J'.h n=(J.h h).setObj (aB J x).toNat (.map #[] clock)
 | .cbs n a cs T=>J'.h n=Hl.one (J.i a).toNat (.cells (cs.map (CV.ev J)).toArray T (cs.length,cs.length+1))
 | .Nh n r=>J'.h n=r.hl J
 | .mki n T v=>J'.v n=.iface T (v.ev J)
 | .Rr n a b=>J'.h n=(a.hl J).un (b.hl J)/\(a.hl J).bV (b.hl J)
 | .cpy n h x y ld hs xs ys ls=>J'.h n=(J.h h).put (aB J x).toNat (aB J y).toNat (cn (J.h hs) (aB J xs).toNat (aB J ys).toNat (min (aB J ls) (aB J ld)).toNat)
structure As where
 n:Nat
 k:Nat
 c:CV
inductive Nd
 | tt | e (x:E) | and (a b:Nd) | imp (c:E) (a:Nd) | pre (x:X) | ext (x:X) (a:Nd)
 | inv (j:Nat) (A:List As) (hs:List (Nat×Option Nat)) | back (d j:Nat) (A:List As) (hs:List (Nat×Option Nat)) | havoc (d j n0:Nat) (a:Nd)
 | post (mem:Mem) (r:TV)
def assign (J:Env) (A:List As) (hs:List (Nat×Option Nat)):Env where
 i:=fun k=>match A.find? fun a=>a.n==k&&a.k==0 with
  | some a=>cf (some (a.c.ev J))
  | none=>J.i k
 b:=fun k=>match A.find? fun a=>a.n==k&&a.k==1 with
  | some a=>xI (some (a.c.ev J))
  | none=>J.b k
 s:=fun k=>match A.find? fun a=>a.n==k&&a.k==2 with
  | some a=>Qs (some (a.c.ev J))
  | none=>J.s k
 v:=fun k=>match A.find? fun a=>a.n==k&&a.k==3 with
  | some a=>a.c.ev J
  | none=>J.v k
 h:=fun k=>match hs.find? fun p=>p.1==k with
  | some (_,some q)=>J.h q
  | some (_,none)=>Hl.none
  | none=>J.h k
def Nd.holds (C:Ctx) (ms:Nat->Nat) (J:Env):Nd->Prop
 | .tt=>True
 | .e x=>bh J x=true
 | .and a b=>a.holds C ms J/\b.holds C ms J
 | .imp c a=>bh J c=true->a.holds C ms J
 | .pre x=>x.pre C J
 | .ext x a=>∀ J',ai x.n J J'->x.rel C J J'->a.holds C ms J'
 | .inv j A hs=>C.inv j (assign J A hs)
 | .back d j A hs=>C.inv j (assign J A hs)/\C.mu j (assign J A hs)<ms d
 | .havoc d j n0 a=>∀ J',ai n0 J J'->C.inv j J'->a.holds C (fun k=>if k=d then C.mu j J' else ms k) J'
 | .post mem r=>C.post J mem r
def W4:E->Nd
 | .tt=>.tt
 | x=>.e x
def pK:Nd->Nd->Nd
 | .tt,b=>b
 | a,.tt=>a
 | a,b=>.and a b
def wU:E->Nd->Nd
 | _,.tt=>.tt
 | .tt,a=>a
 | c,a=>.imp c a
section
variable (C:Ctx) (ms:Nat->Nat)
def vC (x:E) (J:Env):(W4 x).holds C ms J=(bh J x=true):=by
 unfold W4;split
 .simp [Nd.holds,cZ]
 .rfl
def fC (a b:Nd) (J:Env):(pK a b).holds C ms J=(a.holds C ms J/\b.holds C ms J):=by unfold pK;split<;>simp [Nd.holds]
def jg (c:E) (a:Nd) (J:Env):(wU c a).holds C ms J=(bh J c=true->a.holds C ms J):=by unfold wU;split<;>simp [Nd.holds,cZ]
end
section
variable {P:Program} {w:World}
def GJ (g o:Nat) (t:TypeId) (fr:Nat×Nat):∀ (vs:List Value) (i:Nat) (cur:Array Value) (w:World),w.heap[g]?=some (.cells cur t fr)->o+i+vs.length<=cur.size->(fr.2<=o+i\/o+i+vs.length<=fr.1)->(∀ v∈vs,v.oneCell'=true) ->
 (storeCells ⟨g,o,none⟩ vs i).run P w=.ok () (w.setRow g (cur.toList.take (o+i)++vs++cur.toList.drop (o+i+vs.length)).toArray)
 | [],i,cur,w,b,_,_,_=>by
  simp only[storeCells,abA,abt,abj,ac9,adk];rw[setRow_self w g cur t fr b];rfl
 | v::rest,i,cur,w,b,hl,hf,h1=>by
  have hi:o+i<cur.size:=by simp at hl;omega
  have c:(⟨g,o,none⟩:Addr).add i=⟨g,o+i,none⟩:=by unfold Addr.add;split<;>simp_all
  have a:w.cell? ⟨g,o+i,none⟩=some cur[o+i]:=by simp [World.cell?,b,hi]
  have d:w.frozen? ⟨g,o+i,none⟩=false:=by
   obtain⟨lo,h⟩:=fr;simp only[World.frozen?,b,abc]at hf ⊢;simp only[Bool.and_eq_false_iff,abu];omega
  have f:(store ((⟨g,o,none⟩:Addr).add i) v).run P w=.ok () (w.setRow g (cur.setIfInBounds (o+i) v)):=by
   rw[c,run_store P w _ v _ (h1 v aF),a];simp [d,setCell_eq_setRow w g (o+i) cur t fr v b]
  have ih:=GJ g o t fr rest (i+1) (cur.setIfInBounds (o+i) v) (w.setRow g (cur.setIfInBounds (o+i) v)) (setRow_heap w g cur _ t _ b) (by simp at hl ⊢;omega) (by simp only[abc]at hf;omega) (fun x hx=>h1 x (by simp [hx]));simp only[storeCells,Sem.run_bind,f,Result.andThen_ok,ih,setRow_setRow]
  congr 3
  have e:=list_seg_step cur.toList (o+i) v rest (by simp at hl ⊢;omega);simpa [adr,ab7] using e
def RQ (hs:h.sub w) {x:Nat} {c:Array Value} {fr:Nat×Nat} (hx:h x=some (.cells c T fr)):(h.put x y vs).sub (w.setRow x (br c.toList y vs).toArray):=by
 intro b o hb;unfold Hl.put at hb;split at hb
 .rename_i e;subst e;rw[hx]at hb;cases hb;exact setRow_heap w b c _ T fr (hs _ _ hx)
 .rename_i e;rw[setRow_other w x b _ e];exact hs b o hb
def jI {x n:Nat} (hw:h.wr x y n=true):∃ c T fr,h x=some (.cells c T fr)/\y+n<=c.size/\(fr.2<=y\/y+n<=fr.1):=by
 unfold Hl.wr at hw;split at hw
 .rename_i c T fr hx;simp only[aaE,ab1,aaB]at hw;exact⟨c,T,fr,hx,hw.1,hw.2⟩
 .cases hw
def Qi (hs:h.sub w) {x:Nat} (a:fI P t=some vs.length) (hv:v.cells.toList=vs) (h1:∀ u∈vs,u.oneCell'=true) (hw:h.wr x y vs.length=true) :
 ∃ cs,(storeVar t ⟨x,y,none⟩ v).run P w=.ok () (w.setRow x cs)/\(h.put x y vs).sub (w.setRow x cs):=by
 obtain⟨c,T,fr,hx,hle,b⟩:=jI hw;refine⟨(br c.toList y vs).toArray,?_,RQ hs hx⟩;unfold storeVar;have hsize:v.cells.size=vs.length:=by rw[<-ab2,hv]
 simp only[Sem.run_bind,fe a,Result.andThen_ok,hsize,ne_eq,acw,aca];rw[hv];have:=GJ (P:=P) x y T fr vs 0 c w (hs _ _ hx) ah ah h1;simp only[abj]at this;rw[this];simp [br]
def FV (hs:H.sub w) {n:Nat} (h:aP H e size v n xs):w.ownsRow 0 e size v n xs:=by
 refine⟨h.1,?_⟩;rcases h.2 with h | ⟨g,cap,cur,rfl,a,r1,r2,b,c⟩
 .exact Or.inl h
 .exact Or.inr ⟨g,cap,cur,rfl,abJ _,hs _ _ a,r1,r2,b,c⟩
def Nn (w:World) (u:Value) (m:Nat) (news:List Value):Prop :=
 (∃ a c,u=.slice (some a) m c/\∀ j x,news[j]?=some x->w.cell? (a.add j)=some x)\/((∃ c,u=.slice none 0 c)/\m=0/\news=[])
def EB (base:Nat) (t ty e:TypeId) (i:TypeInfo) (size:Nat) (d:P.underlying t=some (.slice e)) (hi:P.info? e=some i)
 (v:Value) (n:Nat) (xs:List Value) (a:w.ownsRow base e size v n xs) (c:Nat) :
 (Builtin.append_ #[t,t] ty #[v,.slice none 0 c]).run P w=.ok v w:=by
 rcases a.2 with ⟨rfl,rfl⟩ | ⟨g,cap,cur,rfl,_,_,b,_⟩
 .simp [Builtin.append_,run_underlying d,sizeOf,typeInfo,hi,Builtin.lenOf,Builtin.firstCells]
 .simp [Builtin.append_,run_underlying d,sizeOf,typeInfo,hi,Builtin.lenOf,Builtin.firstCells,b,storeCells]
def Hf (hs:H.sub w) {i:TypeInfo} (s:P.underlying t=some (.slice e)) (hi:P.info? e=some i) (O:i.zero=some z)
 (hsize:i.size=size) (hby:i.bytes=bytes) (I:z.cells.size=size) (Q:0<size) {v:Value} {n:Nat} {xs:List Value} (ho:aP H e size v n xs)
 {u:Value} {m:Nat} {news:List Value} (hl:news.length=m*size) (hu:Nn w u m news) (h1:∀ x∈news,x.oneCell'=true) (y:n+m<=maxLen) (h:(n+m)*bytes<=140737488355328) :
 ∃ v' w' H',(Builtin.append_ #[t,t] ty #[v,u]).run P w=.ok v' w'/\aP H' e size v' (n+m) (xs++news)/\H'.sub w'/\w.grownBy w' v.ownBlock /\
  (∀ b,H.mem b->some b≠v.ownBlock->H' b=H b)/\(∀ b,H'.mem b->H.mem b\/(v'.ownBlock=some b/\w.heap.size<=b))/\(v'.ownBlock=v.ownBlock\/∃ b,v'.ownBlock=some b/\w.heap.size<=b)/\aP H' e size v n xs:=by
 subst hsize;subst hby;have B:n+m<=9223372036854775807:=by simp only[maxLen]at y;omega
 rcases hu with ⟨a,c,rfl,d⟩ | ⟨⟨c,rfl⟩,rfl,rfl⟩
 rotate_left
 .refine⟨v,w,H,EB 0 t ty e i i.size s hi v n xs (FV hs ho) c,by simpa using ho,hs,⟨rfl,rfl,rfl,aaS _,fun _ _ _=>rfl⟩,fun _ _ _=>rfl,fun b hb=>Or.inl hb,Or.inl rfl,ho⟩
 have hlen:(xs++news).length=(n+m)*i.size:=by rw[aay,ho.1,hl,acg]
 have grown:∀ (old:Nat),old<n+m->v.ownBlock=none\/(∃ g,v.ownBlock=some g/\g<w.heap.size) ->
  ∃ H',aP H' e i.size (.slice (some ⟨w.heap.size,0,none⟩) (n+m) (grownCap w (n+m) old e)) (n+m) (xs++news) /\
   H'.sub (w.drew.alloc (.cells (xs.toArray++news.toArray++Builtin.zeroCells z.cells (grownCap w (n+m) old e-(n+m))) e)) /\
   w.grownBy (w.drew.alloc (.cells (xs.toArray++news.toArray++Builtin.zeroCells z.cells (grownCap w (n+m) old e-(n+m))) e)) v.ownBlock /\
   (∀ b,H.mem b->some b≠v.ownBlock->H' b=H b)/\(∀ b,H'.mem b->H.mem b\/(some w.heap.size=some b/\w.heap.size<=b))/\aP H' e i.size v n xs:=by
  intro old hold hv;have J:=grownCap_ge w (n+m) old e;have p:grownCap w (n+m) old e<=maxLen:=grownCap_le_maxLen w (n+m) old e y
  let R:Obj:=.cells (xs.toArray++news.toArray++Builtin.zeroCells z.cells (grownCap w (n+m) old e-(n+m))) e
  refine⟨fun b=>if b=w.heap.size then some R else H b,⟨hlen,Or.inr ⟨w.heap.size,_,_,rfl,aaR rfl,J,p,?_,?_⟩⟩,?_,⟨rfl,rfl,rfl,aF,fun k hk _=>heap_alloc_old w.drew _ hk⟩,?_,?_,ho.1,ho.2.imp id fun⟨g,cap,cur,hv,q,r⟩=>⟨g,cap,cur,hv,?_,r⟩⟩
  .simp only[Array.size_append,acm,size_zeroCells,I,ho.1,hl,<-acg]
   congr 1
   omega
  .simp only[adP,aaV];rw[<-aaV,<-hlen];exact acQ
  .intro b o hb;simp only at hb;split at hb
   .rename_i e1;subst e1;cases hb;exact heap_alloc_new w.drew _
   .have:=hs b o hb;rw[heap_alloc_old w.drew _ (abg.1 this).1];exact this
  .intro b hb _;have:=Hl.sub_lt hs hb;exact aaG ah
  .intro b hb;by_cases e1:b=w.heap.size
   .exact Or.inr ⟨by rw[e1],ah⟩
   .left;unfold Hl.mem at hb ⊢;simpa [e1] using hb
  .have:=Hl.sub_lt hs (b:=g) (by unfold Hl.mem;rw[q];rfl);exact(aaG ah).trans q
 rcases ho.2 with ⟨rfl,rfl⟩ | ⟨g,cap,cur,rfl,q,K,p,L,l⟩
 .have hx:xs=[]:=ach (by simpa using ho.1);subst hx;by_cases hm:m=0
  .subst hm;have hn:news=[]:=ach (by simpa using hl);subst hn;refine⟨.slice none 0 0,w,H,?_,ho,hs,⟨rfl,rfl,rfl,aaS _,fun _ _ _=>rfl⟩,fun _ _ _=>rfl,fun b hb=>Or.inl hb,Or.inl rfl,ho⟩;simp [Builtin.append_,run_underlying s,sizeOf,typeInfo,hi,Builtin.lenOf,Builtin.firstCells,loadCells,loadCellsFrom]
  .have hr:=run_append_nil (P:=P) w t ty e i z s hi O a m c news hl d ah ah (by have hb:=h;simp only[aa6]at hb;omega);obtain⟨H',C,D,E,F,G,M⟩:=grown 0 ah (Or.inl rfl);simp only[aa6,abU,Array.empty_append]at hr C D E F G ⊢;exact⟨_,_,H',hr,C,D,E,F,G,Or.inr ⟨_,rfl,aaS _⟩,M⟩
 .by_cases f:n+m<=cap
  .have A:n*i.size+news.length<=cur.size:=by rw[hl,L,<-acg];exact acO _ f
   have hr:=run_append_room (P:=P) w t ty e i s hi g n cap cur (hs _ _ q) a m c news hl d h1 f A;refine⟨_,_,fun b=>if b=g then some (.cells (cur.toList.take (n*i.size)++news++cur.toList.drop (n*i.size+news.length)).toArray e (0,0))else H b,hr,
    ⟨hlen,Or.inr ⟨g,cap,_,rfl,aaR rfl,f,p,?_,?_⟩⟩,?_,⟨rfl,rfl,rfl,aF,fun k _ hk=>setRow_other w g k _ (fun e=>hk (by simp [Value.ownBlock,e]))⟩,?_,?_,Or.inl rfl,ho.1,Or.inr ⟨g,cap,_,rfl,aaR rfl,K,p,?_,?_⟩⟩
   .simp only[acm,aay,aaU,aa7,ab2];omega
   .rw[l,<-hlen];exact acQ
   .intro b o hb;simp only at hb;split at hb
    .rename_i e1;subst e1;cases hb;exact setRow_heap w b cur _ e _ (hs _ _ q)
    .rename_i e1;rw[setRow_other w g b _ e1];exact hs b o hb
   .intro b hb N;exact aaG (fun e1=>N (by simp [Value.ownBlock,e1]))
   .intro b hb;left;by_cases e1:b=g
    .subst e1;unfold Hl.mem;rw[q];rfl
    .unfold Hl.mem at hb ⊢;simpa [e1] using hb
   .simp only[acm,aay,aaU,aa7,ab2];omega
   .rw[l,aaV,<-ho.1];exact acQ
  .have holds:∀ j u,xs[j]?=some u->w.cell? ((⟨g,0,none⟩:Addr).add j)=some u:=(FV hs ho).cells (g:=g) rfl;have hr:=run_append_grow (P:=P) w t ty e i z s hi O ⟨g,0,none⟩ n cap xs ho.1 holds a m c news hl d ah ah (growslice_fits ah h);obtain⟨H',C,D,E,F,G,M⟩:=grown cap ah (Or.inr ⟨g,rfl,(abg.1 (hs _ _ q)).1⟩);exact⟨_,_,H',hr,C,D,E,F,G,Or.inr ⟨_,rfl,aaS _⟩,M⟩
def EA {i:TypeInfo} (r:P.underlying t=some (.slice e)) (hi:P.info? e=some i) (s:i.zero=some z)
 (hsize:i.size=size) (hby:i.bytes=bytes) (l:z.cells.size=size) {b:Addr} {n cap:Nat} {olds:List Value} (f:olds.length=n*size) (holds:∀ j x,olds[j]?=some x->w.cell? (b.add j)=some x)
 {u:Value} {m:Nat} {news:List Value} (hl:news.length=m*size) (hu:Nn w u m news) (v:cap<n+m) (y:n<=cap) (h:n+m<=maxLen) (d:(n+m)*bytes<=140737488355328) :
 ∃ cp q,(Builtin.append_ #[t,t] ty #[.slice (some b) n cap,u]).run P w=.ok (.slice (some ⟨w.heap.size,0,none⟩) (n+m) cp) (w.drew.alloc q) /\
  aP (Hl.one w.heap.size q) e size (.slice (some ⟨w.heap.size,0,none⟩) (n+m) cp) (n+m) (olds++news):=by
 subst hsize;subst hby;have k:n+m<=9223372036854775807:=by simp only[maxLen]at h;omega
 rcases hu with ⟨a,c,rfl,g⟩ | ⟨⟨c,rfl⟩,rfl,rfl⟩
 rotate_left
 .omega
 have hr:=run_append_grow (P:=P) w t ty e i z r hi s b n cap olds f holds a m c news hl g v ah (growslice_fits ah d);have o:=grownCap_ge w (n+m) cap e;have p:grownCap w (n+m) cap e<=maxLen:=grownCap_le_maxLen w (n+m) cap e h;have hlen:(olds++news).length=(n+m)*i.size:=by rw[aay,f,hl,acg]
 refine⟨_,_,hr,hlen,Or.inr ⟨w.heap.size,_,_,rfl,Hl.aU _ _,o,p,?_,?_⟩⟩
 .simp only[Array.size_append,acm,size_zeroCells,l,f,hl,<-acg]
  congr 1
  omega
 .simp only[adP,aaV];rw[<-aaV,<-hlen];exact acQ
end
end Go.Sx
