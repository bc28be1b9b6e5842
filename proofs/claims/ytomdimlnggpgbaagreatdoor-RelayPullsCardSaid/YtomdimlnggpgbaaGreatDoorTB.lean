/- RelayPlays. -/
import Derived.Laws.MakeOwn
import Derived.Laws.OwnMore
import Derived.Test.YtomdimlnggpgbaaGreatDoorTA
set_option linter.all false
namespace Go.Sx
open Go
variable {ats:Array TypeId}{op:BinOp}{i:Int}{l:List CV}{is:List Nat}{vs xs:List Value}{b bytes cap d f k m o size y:Nat}{hi lo mx:Option TV}{x:TV}{T e el s t ty:TypeId}{v z:Value}
section
variable {P:Program} {S:Nat->Prop} {w0:World} {J:Env} {st:St} {mem:Mem} {a:Act} {w:World} {n:E} {v:TV}
def gN {v:SV} (h:gr P t l o=some v):(part t (l.map (CV.ev J)).toArray o).run P w=.ok (v.ev J) w:=by
 unfold gr at h;unfold part;split at h
 .rename_i n ha hs;split at h
  .rename_i hle;cases h;simp only[Sem.run_bind,sH ha,Result.andThen_ok,abK,c9 hs,Sem.run_pure,SV.ev]
   congr 2
   simp [acB,acW,List.extract_eq_take_drop]
  .cases h
 .rename_i ha;simp only[aai]at h;obtain⟨x,hx,rfl⟩:=h;simp only[Sem.run_bind,sH ha,Result.andThen_ok,abb,abP];have:(l.map (CV.ev J)).toArray[o]?=some (x.ev J):=by simp [hx]
  simp only[this];rfl
 .cases h
def LG {op:UnOp} (h:Ze op x=some (n,v)):(Op.unary op (x.ev J)).run P w=.ok (v.ev J) w:=by
 unfold Ze at h;split at h
 .cases h;simp only[TV.ev,SV.ev,CV.ev,cO,Op.unary,Sem.run_pure]
 .cases h;simp only[TV.ev,SV.ev,CV.ev,nZ,nz,aq,Op.unary,Op.intArith,Sem.run_pure]
 .cases h;simp only[TV.ev,SV.ev,CV.ev,te,aq,Op.unary,Op.intBits,Sem.run_pure,cn]
 .cases h
def BW (x:Int) (l:List Int):bytesOf (x::l)=bytesOf [x]++bytesOf l:=by
 have key:∀ (l:List Int) (r:ByteArray),l.foldl (fun r n=>r.push (UInt8.ofNat n.toNat)) r=r++bytesOf l:=by
  intro l
  induction l with
  | nil=>intro r;simp [bytesOf]
  | cons y l ih =>
   intro r;simp only[acC];rw[ih];have e:bytesOf (y::l)=ByteArray.empty.push (UInt8.ofNat y.toNat)++bytesOf l:=by
    show List.foldl _ _ _=_;rw[acC,ih]
   rw[e,<-ByteArray.append_assoc]
   congr 1
   apply ByteArray.ext;simp [ByteArray.data_append,ByteArray.data_push]
 simp only[bytesOf,acC,List.foldl_nil];exact key l _
def wC:∀ (l:List CV) (s:E),strOf l=some s->∃ ns:List Int,l.map (CV.ev J)=ns.map (Value.int .u8)/\kl J s=bytesOf ns
 | [],s,h=>by cases h;exact⟨[],rfl,rfl⟩
 | c::l,s,h=>by
  unfold strOf at h;split at h
  .cases ‹c::l=[]›
  .rename_i e l' heq;cases heq;simp only[aai]at h;obtain⟨r,hr,rfl⟩:=h;obtain⟨ns,h1,h2⟩:=wC _ r hr;refine⟨az J e::ns,by simp [h1,CV.ev],?_⟩;rw[Bs,Ls,h2,BW (az J e) ns]
  .cases h
def Ai {h:Hl} {x n:Nat} (hb:bC h x y n=true):∀ j,j<n->h.cell x (y+j)=some (.int .u8 (bV (h.cell x (y+j)))):=by
 intro j hj;unfold bC at hb;rw[aaD]at hb;have:=hb j (aaP.2 hj);cases hc:h.cell x (y+j)with
 | none=>simp [hc,bw]at this
 | some v =>
  rw[hc]at this;cases v<;>simp [bw]at this
  rename_i k m;subst this;rfl
def I1 (h:Ky P el=true):P.underlying el=some (.int .u8):=by
 unfold Ky at h;split at h
 .assumption
 .cases h
def DH (hm:MRel S w0 J mem w) {d:TypeId} (h:Mw P mem s d x=some (n,v)) (hn:aY J n=true):(convert s d (x.ev J)).run P w=.ok (v.ev J) w:=by
 unfold Mw at h;split at h
 .rename_i k k' e hs hd;cases h;simp only[TV.ev,SV.ev,CV.ev,nZ];unfold convert;simp only[Sem.run_bind,run_underlying hs,run_underlying hd,Result.andThen_ok,Conv.intToInt];rfl
 .rename_i e hs hd;cases h;simp only[TV.ev,SV.ev,CV.ev];unfold convert;simp only[Sem.run_bind,run_underlying hs,run_underlying hd,Result.andThen_ok];rfl
 .rename_i el x y l c hs hd;split at h
  .rename_i hu;have he:=I1 hu;split at h
   .rename_i hx;subst hx;cases h;simp only[TV.ev,SV.ev,CV.ev,aq,dr,gb];rw[run_convert_bytes_string w s d el _ _ _ hs he hd];rfl
   .split at h
    .rename_i a p cs T o m hk0;obtain⟨rfl,rfl,hk⟩:=gM hk0;split at h
     .rename_i hle;simp only[aai,aaS]at h;obtain⟨r,hr,rfl,rfl⟩:=h;obtain⟨ns,h1,h2⟩:=wC (J:=J) _ _ hr;have hpos:0<=J.i a:=hm.pos _ (aae hk);simp only[TV.ev,SV.ev,CV.ev,aq,au,al hpos,aaa];rw[run_convert_bytes_string w s d el _ _ _ hs he hd,run_bytesToString w _ _ _ ns,h2]
      .rfl
      .have hb:=hm.bd hk;have:=run_loadCells_list (P:=P) w ⟨(J.i a).toNat,o,none⟩ (ns.map (Value.int .u8)) (fun j u hu=>by
        rw[<-h1]at hu;rw[dJ];simp only[World.cell?,hb];simp only[abi,Option.isSome_none,abb,abP];rw[aao,aa2]at hu;split at hu
        .rw[aa0]at hu;rw[aao];exact hu
        .simp at hu)
       have hl:(ns.map (Value.int .u8)).length=m.toNat:=by rw[<-h1];simp;omega
       rw[hl]at this;exact this
     .cases h
    .split at h
     .rename_i l _ _ _ _ k hk;have hsub:=yi hm hk;cases h;simp only[TV.ev,SV.ev,CV.ev];rw[run_convert_bytes_string w s d el _ _ _ hs he hd];rw[sJ,abA,fH,aq,aaf]at hn;have hsev:∀ a b:E,kl J (mkIte (mkEq x (.lit (-1))) a b)=if az J x= -1 then kl J a else kl J b:=by
       intro a b;have hq:=fH J x (.lit (-1));rw[aq]at hq;unfold mkIte;split
       .rename_i e;rw[e,bO]at hq;rw[aay (by simpa using hq.symm)]
       .rename_i e;rw[e,cq]at hq;rw[aal (by simpa using hq.symm)]
       .split
        .rename_i e;subst e;simp
        .rw[je,hq];simp
      rw[hsev];by_cases hx:az J x= -1
      .rw[aay hx,hx,dr];rfl
      .rw[aal hx];have hn:=hn.resolve_left hx;rw[sJ,abA,fH,aq,aaf]at hn;by_cases hl0:az J l=0
       .rw[hl0,iv,hl0];cases hp:ar (az J x) (az J y)with
        | none =>
         have h1:=iz (az J x) (az J y);rw[hp]at h1;exact absurd (by simpa using h1) hx
        | some a0 =>
         rw[run_bytesToString w a0 _ _ []]
         .rfl
         .exact run_loadCells_list (P:=P) w a0 [] (fun j u hu=>by cases hu)
       have hn:=hn.resolve_left hl0;rw[aM,aaj,aM,aaj,aW,aW,aq,aaf,aaf,BP]at hn;obtain⟨hx0,hy0,hby⟩:=hn;rw[al hx0,iv];rw[run_bytesToString w _ _ _ (fk (J.h k) (az J x).toNat (az J y).toNat (az J l).toNat)]
       .rfl
       .have:=run_loadCells_list (P:=P) w ⟨(az J x).toNat,(az J y).toNat,none⟩ ((fk (J.h k) (az J x).toNat (az J y).toNat (az J l).toNat).map (Value.int .u8)) (fun j u hu=>by
         rw[dJ];unfold fk at hu;rw[abI,aao]at hu;by_cases hj:j<(az J l).toNat
         .rw[aaJ hj]at hu;simp only[aaT,aak,Function.comp]at hu;rw[<-hu];exact Hl.gH hsub (Ai hby j hj)
         .rw[aas (by simp;omega)]at hu;cases hu)
        have hl:((fk (J.h k) (az J x).toNat (az J y).toNat (az J l).toNat).map (Value.int .u8)).length=(az J l).toNat:=by simp [fk]
        rw[hl]at this;exact this
     .cases h
  .cases h
 .cases h
def yj (fl:Field) (hs:dw P fl.type=some (m+1)):(fieldPlace ⟨b,o,none⟩ fl).run P w=.ok ⟨b,o+fl.offset,none⟩ w:=by
 unfold fieldPlace;simp only[Sem.run_bind,c9 hs,Result.andThen_ok,Nat.add_eq_zero_iff,Nat.one_ne_zero,and_false,abP,Sem.run_pure,dJ]
def qJ {x y:Int} (hx:0<=x) (hy:0<=y) (n:Nat):ar x (y+n)=some ⟨x.toNat,y.toNat+n,none⟩:=by
 rw[al hx];congr 2;omega
def yh (hm:MRel S w0 J mem w) {a:Nat} (h:(sY mem a).isSome=true):0<=J.i a:=by
 obtain⟨⟨p,l,T⟩,hp⟩:=abe.1 h;exact hm.pos _ (aae (fV hp))
def oz {s:Nat} (h:0<=i):((o:Int)+(s:Int)*i)=((o+s*i.toNat:Nat):Int):=by
 obtain⟨q,hq⟩:=abu h;rw[hq,aaa];simp
def uA (hm:MRel S w0 J mem w) (h:rO P mem s f x=some (n,v)) (hn:aY J n=true):(Instr.fieldAt s (x.ev J) f).run P w=.ok (v.ev J) w:=by
 unfold rO at h;split at h
 .rename_i fs hu;split at h
  .rename_i fl hf;split at h
   .rename_i m hs;have key:∀ b o,(Instr.fieldAt s (.pointer (some ⟨b,o,none⟩)) f).run P w=.ok (.pointer (some ⟨b,o+fl.offset,none⟩)) w:=fun b o=>by
     unfold Instr.fieldAt;simp only[Sem.run_bind,run_underlying hu,Result.andThen_ok,hf,Instr.sureAddr,Sem.run_pure,yj fl hs]
    split at h
    .rename_i x y;cases h;rw[aM,aaj,aW,aq,aaf]at hn;have hx:=hm.Ev hn.1;simp only[TV.ev,SV.ev,CV.ev,dy,aq];rw[al hx,key,qJ hx hn.2]
    .rename_i a o s' n' i;split at h
     .rename_i ha;cases h;obtain⟨h0,h1⟩:=iG hn;have hx:=yh hm ha;simp only[TV.ev,SV.ev,CV.ev];rw[al hx,key,oz h0,oz h0,aaa,al hx,aaa]
      congr 4
      omega
     .cases h
    .cases h
   .cases h
  .cases h
 .cases h
def mf {len:Nat} {k:IntKind} (hu:P.underlying t=some (.array len el)) (hs:dw P el=some m) (h0:0<=i) (h1:i<len) :
 (Instr.indexAt t (.pointer (some ⟨b,o,none⟩)) (.int k i)).run P w=.ok (.pointer (some ⟨b,o+i.toNat*m,none⟩)) w:=by
 unfold Instr.indexAt;simp only[asIntOf,Sem.run_bind,Sem.run_pure,Result.andThen_ok,run_underlying hu,Instr.sureAddr,h0,h1,and_self,abK,c9 hs,dJ]
def mE {len c:Nat} {k:IntKind} (hu:P.underlying t=some (.slice el)) (hs:dw P el=some m) (h0:0<=i) (h1:i<len) :
 (Instr.indexAt t (.slice (some ⟨b,o,none⟩) len c) (.int k i)).run P w=.ok (.pointer (some ⟨b,o+i.toNat*m,none⟩)) w:=by
 unfold Instr.indexAt;simp only[asIntOf,Sem.run_bind,Sem.run_pure,Result.andThen_ok,run_underlying hu,h0,h1,and_self,abK,c9 hs,dJ]
def qA (h:0<=i) (m:Nat):i*(m:Int)=((i.toNat*m:Nat):Int):=by
 obtain⟨q,hq⟩:=abu h;rw[hq,aaa];simp
def uG (hm:MRel S w0 J mem w) {i:TV} (h:rT P mem t x i=some (n,v)) (hn:aY J n=true):(Instr.indexAt t (x.ev J) (i.ev J)).run P w=.ok (v.ev J) w:=by
 unfold rT at h;split at h
 .rename_i k e;split at h
  .rename_i len el hu;split at h
   .rename_i m a o s q kk hs;split at h
    .rename_i j;split at h
     .rename_i hj;cases h;obtain⟨h0,h1⟩:=iG hn;have hx:=yh hm hj.2.2;simp only[TV.ev,SV.ev,CV.ev,aq];rw[al hx,mf hu hs hj.1 hj.2.1,oz h0,oz h0,aaa,al hx,aaa]
      congr 4
      omega
     .cases h
    .cases h
   .rename_i m x y hs;split at h
    .rename_i j _;split at h
     .rename_i hj;cases h;rw[aM,aaj,aW,aq,aaf]at hn;have hx:=hm.Ev hn.1;simp only[TV.ev,SV.ev,CV.ev,aq,dy];rw[al hx,mf hu hs hj.1 hj.2,<-Int.natCast_mul,qJ hx hn.2]
     .cases h
    .rename_i e a p l T o _ hk0;obtain⟨rfl,rfl,hk⟩:=gM hk0;cases h;obtain⟨h0,h1⟩:=iG hn;have hx:0<=J.i a:=hm.pos _ (aae hk);simp only[TV.ev,SV.ev,CV.ev,au,aq];rw[al hx,aaa,mf hu hs h0 h1,oz h0,al hx,aaa,ach]
    .rename_i e _ _;cases h;rw[aM,aaj,aM,aaj,aW,aq,aaf]at hn;obtain⟨hx,hy,hb⟩:=hn;have hx:=hm.Ev hx;obtain⟨h0,h1⟩:=iG hb;simp only[TV.ev,SV.ev,CV.ev,dy,ny,aq];rw[al hx,mf hu hs h0 h1,qA h0,qJ hx hy]
   .cases h
  .rename_i el hu;split at h
   .rename_i m x y l c hs;split at h
    .rename_i j _ _;cases h;rw[aM,aaj,aM,aaj,aM,aaj,aW,aW,iS,aaf,aaf,aaf,aq,aq]at hn;obtain⟨hx,hy,h0,h1⟩:=hn;have hx:=hm.Ev hx;simp only[TV.ev,SV.ev,CV.ev,dy,ny,aq];rw[al hx,mE hu hs h0 ah,qA h0,qJ hx hy]
    .rename_i a p l' T o q _ hk0;obtain⟨rfl,rfl,hk⟩:=gM hk0;cases h;rw[aM,aaj]at hn;obtain⟨h0,h1⟩:=iG hn.1;have hx:0<=J.i a:=hm.pos _ (aae hk);simp only[TV.ev,SV.ev,CV.ev,au,aq];rw[al hx,aaa,mE hu hs h0 ah,oz h0,al hx,aaa,ach]
    .cases h;rw[aM,aaj,aM,aaj,aM,aaj,aW,aW,iS,aaf,aaf,aaf,aq]at hn;obtain⟨hx,hy,h0,h1⟩:=hn;have hx:=hm.Ev hx;simp only[TV.ev,SV.ev,CV.ev,dy,ny,aq];rw[al hx,mE hu hs h0 ah,qA h0,qJ hx hy]
   .cases h
  .cases h
 .cases h
def Cb (h:Gv P t f x=some (n,v)):(Instr.field t (x.ev J) f).run P w=.ok (v.ev J) w:=by
 unfold Gv at h;split at h
 .rename_i fs l hu;split at h
  .rename_i fl hf;simp only[aai,aaS]at h;obtain⟨u,hu',_,rfl⟩:=h;unfold Instr.field;simp only[Sem.run_bind,run_underlying hu,Result.andThen_ok,hf,TV.ev,SV.ev,asAgg,Sem.run_pure];exact gN hu'
  .cases h
 .cases h
def AF {len:Nat} {k:IntKind} {u:SV} (hu:P.underlying t=some (.array len el)) (hs:dw P el=some m) (h0:0<=i) (h1:i<len)
 (hl:gr P el l (i.toNat*m)=some u):(Instr.index t (.agg (l.map (CV.ev J)).toArray) (.int k i)).run P w=.ok (u.ev J) w:=by
 unfold Instr.index;simp only[asIntOf,Sem.run_bind,Sem.run_pure,Result.andThen_ok,run_underlying hu,h0,h1,and_self,abK,c9 hs];exact gN hl
def Cj {i:TV} (h:GH P t x i=some (n,v)) (hn:aY J n=true):(Instr.index t (x.ev J) (i.ev J)).run P w=.ok (v.ev J) w:=by
 unfold GH at h;split at h
 .rename_i len el l k e hu;split at h
  .rename_i m hs;split at h
   .rename_i j;split at h
    .rename_i hj;simp only[aai,aaS]at h;obtain⟨u,hu',_,rfl⟩:=h;simp only[TV.ev,SV.ev,CV.ev,aq];exact AF hu hs hj.1 hj.2 hu'
    .cases h
   .split at h
    .rename_i vs hvs;simp only[aai,aaS]at h;obtain⟨u,hu',rfl,rfl⟩:=h;obtain⟨h0,h1⟩:=iG hn;obtain⟨hlen,hget⟩:=lY hvs;simp only[aaw,abH]at hlen;obtain⟨z,hz,hzv⟩:=zI vs 0 u hu' ah ah;have hz':=hget _ _ hz;rw[adi,aao,aaJ ah]at hz';simp only[aaT,aak]at hz';simp only[TV.ev,hzv];exact AF hu hs h0 h1 hz'
    .cases h
  .cases h
 .rename_i s k e hu;cases h;rw[aM,aaj,aW,iS,aaf,aaf,aq,kO]at hn;obtain⟨h0,h1⟩:=hn;unfold Instr.index;simp only[TV.ev,SV.ev,CV.ev,asIntOf,Sem.run_bind,Sem.run_pure,Result.andThen_ok,run_underlying hu,h0,abK];have hlt:(az J e).toNat<(kl J s).size:=ah;have e1:(kl J s)[(az J e).toNat]?=some ((kl J s)[(az J e).toNat]'hlt):=getElem?_pos (kl J s) (az J e).toNat hlt;have e2:(kl J s).data[(az J e).toNat]?.getD 0=(kl J s)[(az J e).toNat]'hlt:=by
   rw[getElem?_pos (kl J s).data (az J e).toNat hlt];rfl
  simp only[e1,Ku,e2];rfl
 .cases h
def yg {i:Nat} (h:yf i x=some (n,v)):(Instr.extract (x.ev J) i).run P w=.ok (v.ev J) w:=by
 unfold yf at h;split at h
 .simp only[aai,aaS]at h;obtain⟨u,hu,_,rfl⟩:=h;unfold Instr.extract;simp only[TV.ev];have:((List.map (SV.ev J) ‹_›).toArray)[i]?=some (u.ev J):=by simp [hu]
  simp only[this];rfl
 .cases h
def GM (hm:MRel S w0 J mem w) (ht:ats[0]?=some t) (h:Ta P mem t x=some (n,v)) (hn:aY J n=true):(Builtin.len_ ats ty #[x.ev J]).run P w=.ok (v.ev J) w:=by
 unfold Ta at h;unfold Builtin.len_;have h0:(#[x.ev J]:Array Value)[0]?=some (x.ev J):=rfl;simp only[ht,h0];split at h
 .rename_i m _ hu;cases h;simp only[Sem.run_bind,run_underlying hu,Result.andThen_ok];rfl
 .rename_i el _ _ l _ hu;cases h;rw[aW,aaf,aq]at hn;simp only[Sem.run_bind,run_underlying hu,Result.andThen_ok,TV.ev,SV.ev,CV.ev,Sem.run_pure,goInt,acw hn]
 .rename_i e hu;cases h;simp only[Sem.run_bind,run_underlying hu,Result.andThen_ok,TV.ev,SV.ev,CV.ev,Sem.run_pure,goInt,kO]
 .rename_i k vt x hu;split at h
  .rename_i q hq;have hsub:=yi hm hq;cases h;rw[aM,aaj,aM,aaj,aW,aq,aaf,Mc]at hn;obtain⟨hx,_,he⟩:=hn;have hne:¬az J x= -1:=ah;obtain⟨es,c,he⟩:∃ es c,J.h q (az J x).toNat=some (.map es c):=by
    revert he;generalize J.h q (az J x).toNat=o;intro he;cases o with
    | none=>cases he
    | some o=>cases o<;>first | exact⟨_,_,rfl⟩ | cases he
   have hw:=hsub _ _ he;simp only[Sem.run_bind,run_underlying hu,Result.andThen_ok,TV.ev,SV.ev,CV.ev,aal hne,Sem.run_pure,goInt,fN,he,GR];simp [getObj,Sem.run,hw]
  .cases h
 .cases h
def GV {y z:TV} (h:Ti x y=some z):(Builtin.min2 (x.ev J) (y.ev J)).run P w=.ok (z.ev J) w:=by
 unfold Ti at h;split at h
 .cases h;simp only[TV.ev,SV.ev,CV.ev,Builtin.min2,iF,iS,aaf,Sem.run_pure]
 .cases h
def GS {y z:TV} (h:Th x y=some z):(Builtin.max2 (x.ev J) (y.ev J)).run P w=.ok (z.ev J) w:=by
 unfold Th at h;split at h
 .cases h;simp only[TV.ev,SV.ev,CV.ev,Builtin.max2,iF,iS,aaf,Sem.run_pure,GT.gt]
 .cases h
def pq {f:TV->TV->Option TV} {F:Value->Value->Sem Value} (hf:∀ x y z,f x y=some z->(F (x.ev J) (y.ev J)).run P w=.ok (z.ev J) w) :
 ∀ (l:List TV) (x z:TV),DX f l x=some z->((l.map (TV.ev J)).foldlM F (x.ev J)).run P w=.ok (z.ev J) w
 | [],x,z,h=>by cases h;rfl
 | y::l,x,z,h=>by
  simp only[DX]at h;split at h
  .rename_i u hu;simp only[aax,List.foldlM_cons,Sem.run_bind,hf x y u hu,Result.andThen_ok];exact pq hf l u z h
  .cases h
def iL (h:Rel S w0 J st a w):∀ (l:List Operand) (vs:List TV),tA st l=some vs->l.map a.eval=vs.map (TV.ev J)
 | [],vs,ho=>by cases ho;rfl
 | x::l,vs,ho=>by
  simp only[tA]at ho;split at ho
  .rename_i v1 v2 h1 h2;cases ho;simp only[aax,aH h h1,iL h l _ h2]
  .cases ho
def xI (hm:MRel S w0 J mem w) {b:Builtin} {cs:Array Bool} {vs:List TV} (h:xH P mem b ats vs=some (n,v)) (hn:aY J n=true) :
 (builtin b ats ty cs (vs.map (TV.ev J)).toArray).run P w=.ok (.value (v.ev J)) w:=by
 unfold xH at h;split at h
 .split at h
  .rename_i t ht;have:=GM hm (ty:=ty) ht h hn;unfold builtin;simp only[aax,aa8,Sem.run_bind,this,Result.andThen_ok,Sem.run_pure]
  .cases h
 .simp only[aai,aaS]at h;obtain⟨u,hu,_,rfl⟩:=h;have:=pq (P:=P) (w:=w) (J:=J) (fun x y z=>GV) _ _ _ hu;unfold builtin;simp only[aax,Sem.run_bind,Builtin.min_,this,Result.andThen_ok,Sem.run_pure]
 .simp only[aai,aaS]at h;obtain⟨u,hu,_,rfl⟩:=h;have:=pq (P:=P) (w:=w) (J:=J) (fun x y z=>GS) _ _ _ hu;unfold builtin;simp only[aax,Sem.run_bind,Builtin.max_,this,Result.andThen_ok,Sem.run_pure]
 .cases h
def s6 (off:Nat):∀ (vs:List Value) (k:Nat) (arr:Array Value),off+k+vs.length<=arr.size ->
 (vs.zipIdx k).foldl (fun cs (p:Value×Nat)=>cs.setIfInBounds (off+p.2) p.1) arr=(bz arr.toList (off+k) vs).toArray
 | [],k,arr,h=>by simp [bz]
 | x::vs,k,arr,h=>by
  simp only[aaL]at h;rw[List.zipIdx_cons,acC,s6 off vs (k+1) _ (by simp;omega)]
  congr 1
  have:=list_seg_step arr.toList (off+k) x vs (by simp;omega);simpa [bz,ac2,abL] using this
def jJ {place:Nat->Option (Nat×Nat)} : ∀ (ps:List (Nat×SV)) (l r:List CV),yk place l ps=some r ->
 Instr.fill place (l.map (CV.ev J)).toArray (ps.map fun p=>(p.1,p.2.ev J))=some (r.map (CV.ev J)).toArray
 | [],l,r,h=>by cases h;rfl
 | (i,v)::ps,l,r,h=>by
  simp only[yk]at h;split at h
  .cases h
  .rename_i off size hp;split at h
   .rename_i hc;obtain⟨h1,h2,h3⟩:=hc;have hcs:=SV.sN (J:=J) v h3;have hsz:(v.ev J).cells.size=v.cells.length:=by rw[<-abG,hcs];simp
    have hle:¬off+(v.ev J).cells.size>(l.map (CV.ev J)).toArray.size:=by rw[hsz];simp;omega
    simp only[aax,Instr.fill,hp];rw[aal (by simp only[hsz,h1,ne_eq,ab4,decide_false,Bool.false_or,aaf];rw[<-h1,<-hsz];exact hle)];have e:(v.ev J).cells.zipIdx.foldl (fun cs (p:Value×Nat)=>cs.setIfInBounds (off+p.2) p.1) (l.map (CV.ev J)).toArray=((bz l off v.cells).map (CV.ev J)).toArray:=by
     rw[<-Array.foldl_toList,Array.toList_zipIdx,hcs];have:=s6 off (v.cells.map (CV.ev J)) 0 (l.map (CV.ev J)).toArray (by simp;omega);rw[this];simp [bz,aaK,acB,acW]
    have ih:=jJ ps _ _ h;rw[<-ih];exact aaQ (fun z=>Instr.fill place z _) e
   .cases h
def H0:∀ (l:List TV) (m:List SV),Uw l=some m->l.map (TV.ev J)=m.map (SV.ev J)
 | [],m,h=>by cases h;rfl
 | .sv v::l,m,h=>by
  simp only[Uw,aai]at h;obtain⟨r,hr,rfl⟩:=h;simp only[aax,H0 l r hr];rfl
 | .tup _::l,m,h=>by simp [Uw]at h
def r5:∀ (fs:List Field) (ps:List (Nat×Nat)),gL (fs.map fun f=>(dw P f.type).map fun n=>(f.offset,n))=some ps ->
 (fs.mapM fun(f:Field)=>(do pure (f.offset,<-sizeOf f.type):Sem (Nat×Nat))).run P w=.ok ps w
 | [],ps,h=>by cases h;rfl
 | f::fs,ps,h=>by
  simp only[aax]at h;cases hs:dw P f.type with
  | none=>simp [hs,gL]at h
  | some m =>
   simp only[hs,aaT,gL,aai]at h;obtain⟨r,hr,rfl⟩:=h;have ih:=r5 fs r hr;simp only[adq,Sem.run_bind,c9 hs,Result.andThen_ok,Sem.run_pure,ih]
def yS {α β γ:Type} {f:α->β} {h:α->γ} : ∀ (l:List α),l.map (fun x=>(f x,h x))=(l.map f).zip (l.map h)
 | []=>rfl
 | x::l=>by simp [yS l]
def Ig:∀ (is:List Nat) (vs:List SV),(is.zip vs).map (fun p=>(p.1,p.2.ev J))=is.zip (vs.map (SV.ev J))
 | [],_=>rfl
 | _::_,[]=>rfl
 | i::is,v::vs=>by simp [Ig is vs]
def BS {vs:List TV} (h:Gh P t is vs=some (n,v)):(Instr.build t (is.zip (vs.map (TV.ev J))).toArray).run P w=.ok (v.ev J) w:=by
 unfold Gh at h;split at h
 .rename_i z us hz hus;rw[H0 _ _ hus,<-Ig];have hzc:z.cells=((z.cells.toList.map gS).map (CV.ev J)).toArray:=by rw[iI]
  unfold Instr.build;simp only[Sem.run_bind,kU hz,Result.andThen_ok];split at h
  .rename_i fs hu;split at h
   .rename_i places hp;simp only[aai,aaS]at h;obtain⟨r,hr,_,rfl⟩:=h;have hf:=jJ (J:=J) _ _ _ hr;rw[<-hzc]at hf;have hpl:(fs.mapM fun(f:Field)=>(do pure (f.offset,<-sizeOf f.type):Sem (Nat×Nat))).run P w=.ok places.toArray w:=by
     have:=r5 (w:=w) _ _ hp;obtain⟨fs⟩:=fs;simp only[ac7,Sem.run_map,this,Result.andThen_ok]
    simp only[run_underlying hu,Result.andThen_ok,Sem.run_bind,hpl];have e:(fun(i:Nat)=>places.toArray[i]?)=(fun(i:Nat)=>places[i]?):=by funext i;simp
    simp only[e,hf];rfl
   .cases h
  .rename_i m el hu;split at h
   .rename_i q hs;simp only[aai,aaS]at h;obtain⟨r,hr,_,rfl⟩:=h;have hf:=jJ (J:=J) _ _ _ hr;rw[<-hzc]at hf;simp only[run_underlying hu,Result.andThen_ok,Sem.run_bind,c9 hs,hf];rfl
   .cases h
  .cases h
 .cases h
def Gf {vs:List TV} (h:Sl P t is vs=some (n,v)) (hn:aY J n=true):(Instr.build t (is.zip (vs.map (TV.ev J))).toArray).run P w=.ok (v.ev J) w:=by
 unfold Sl at h;split at h
 .rename_i j z fs hz hu;split at h
  .rename_i y f hc hf;split at h
   .rename_i ho;cases h;rw[kV,aaf]at hn;have hv:(J.v j).oneCell'=true:=by
     rcases zX hn with h | ⟨a,b,h⟩<;>rw[h]<;>rfl
    have hpl:(fs.mapM fun(f:Field)=>(do pure (f.offset,<-sizeOf f.type):Sem (Nat×Nat))).run P w=.ok #[(0,1)] w:=by
     have:=r5 (P:=P) (w:=w) fs.toList [(0,1)] (by rw[hf];simp [ho.1,ho.2,gL]);obtain⟨fs⟩:=fs;simp only[ac7,Sem.run_map,this,Result.andThen_ok]
    have hzc:z.cells=((z.cells.toList.map gS).map (CV.ev J)).toArray:=by rw[iI]
    have hfill:=jJ (J:=J) (place:=fun i=>([(0,1)]:List (Nat×Nat))[i]?) [(0,.one (.val (J.v j)))] (z.cells.toList.map gS) [.val (J.v j)] (by
     rw[hc];simp [yk,SV.cells,CV.qZ,hv,bz])
    rw[<-hzc]at hfill;unfold Instr.build;simp only[Sem.run_bind,kU hz,Result.andThen_ok,run_underlying hu,hpl];have e:(fun(i:Nat)=>(#[(0,1)]:Array (Nat×Nat))[i]?)=(fun(i:Nat)=>([(0,1)]:List (Nat×Nat))[i]?):=by funext i;simp
    have e2:([0].zip ([TV.sv (.one (.vr j))].map (TV.ev J))).toArray.toList=[(0,J.v j)]:=rfl;simp only[e];have hfill:Instr.fill (fun i=>([(0,1)]:List (Nat×Nat))[i]?) z.cells [(0,J.v j)]=some #[J.v j]:=hfill;have e3:[0].zip ([TV.sv (.one (.vr j))].map (TV.ev J))=[(0,J.v j)]:=rfl;rw[e3,hfill];rfl
   .cases h
  .cases h
 .cases h
def po {rec:TypeId->SV->SV->Option E} {D:Nat} (hrec:∀ t x y e,rec t x y=some e->(Op.equalIn D t (x.ev J) (y.ev J)).run P w=.ok (aY J e) w) {xs ys:List CV} :
 ∀ (fs:List Field) (e:E),DR P rec xs ys fs=some e->(Op.eqFields D (xs.map (CV.ev J)).toArray (ys.map (CV.ev J)).toArray fs).run P w=.ok (aY J e) w
 | [],e,h=>by cases h;simp [Op.eqFields,bO]
 | f::fs,e,h=>by
  unfold DR at h;unfold Op.eqFields;split at h
  .rename_i hn;rw[aay hn];split at h
   .rename_i a b ha hb;split at h
    .rename_i q r hq hr;cases h;have ih:=po hrec fs r hr;simp only[Sem.run_bind,gN ha,gN hb,Result.andThen_ok,hrec _ _ _ _ hq,aM];cases hb:aY J q with
     | true=>simpa using ih
     | false=>simp
    .cases h
   .cases h
  .rename_i hn;rw[aal hn];exact po hrec fs e h
def vG {rec:TypeId->SV->SV->Option E} {D:Nat} (hrec:∀ t x y e,rec t x y=some e->(Op.equalIn D t (x.ev J) (y.ev J)).run P w=.ok (aY J e) w) {t:TypeId} {xs ys:List CV} :
 ∀ (is:List Nat) (e:E),IE P rec t xs ys is=some e->(Op.eqItems D t (P.cellsOf t) (xs.map (CV.ev J)).toArray (ys.map (CV.ev J)).toArray is).run P w=.ok (aY J e) w
 | [],e,h=>by cases h;simp [Op.eqItems,bO]
 | i::is,e,h=>by
  unfold IE at h;unfold Op.eqItems;split at h
  .rename_i a b ha hb;split at h
   .rename_i q r hq hr;cases h;have ih:=vG hrec is r hr;simp only[Sem.run_bind,gN ha,gN hb,Result.andThen_ok,hrec _ _ _ _ hq,aM];cases hb:aY J q with
    | true=>simpa using ih
    | false=>simp
   .cases h
  .cases h
def FT (a b:ByteArray):(a==b)=decide (a=b):=by
 rw[ab5];simp only[aaf];cases a;cases b;simp only[BEq.beq,ByteArray.beq,ByteArray.mk.injEq];exact⟨fun h=>Array.eq_of_isEqv _ _ (by simpa [BEq.beq] using h),fun h=>by subst h;simpa [BEq.beq] using Array.isEqv_self _⟩
def Gt {a b:CV} {e:E} (h:B8 P (d+1) t (.one a) (.one b)=some e):(∃ k x k' y,a=.int k x/\b=.int k' y)\/(∃ x y,a=.str x/\b=.str y)\/(∃ x y,a=.bool x/\b=.bool y)\/(∃ x y l c x' y' l' c',a=.sl x y l c/\b=.sl x' y' l' c')\/(∃ x y x' y',a=.hptr x y/\b=.hptr x' y')\/(∃ x y,a=.map x/\b=.map y):=by
 unfold B8 at h;cases hu:P.underlying t with
 | none=>simp [hu]at h
 | some d'=>cases d'<;>simp only[hu]at h<;>first | (cases h;done) | (cases a<;>first | (cases h;done) | (cases b<;>first | (cases h;done) | simp))
def pK {x x':E} {e:E} (he:(if x'=.lit (-1)then some (mkEq x (.lit (-1)))else if x=.lit (-1)then some (mkEq x' (.lit (-1)))else none)=some e) :
 (az J x'= -1/\aY J e=decide (az J x= -1))\/(az J x= -1/\aY J e=decide (az J x'= -1)):=by
 split at he
 .rename_i hx;cases he;subst hx;exact Or.inl ⟨rfl,by rw[fH];rfl⟩
 .split at he
  .rename_i hx;cases he;subst hx;exact Or.inr ⟨rfl,by rw[fH];rfl⟩
  .cases he
def rN:∀ (d:Nat) (t:TypeId) (x y:SV) (e:E) (D:Nat),d<=D->B8 P d t x y=some e->(Op.equalIn D t (x.ev J) (y.ev J)).run P w=.ok (aY J e) w
 | 0,_,_,_,_,_,_,h=>by cases h
 | d+1,t,x,y,e,D,hD,h=>by
  obtain⟨D,rfl⟩:∃ D',D=D'+1:=⟨D-1,ah⟩;have ih:∀ t x y e,B8 P d t x y=some e->(Op.equalIn D t (x.ev J) (y.ev J)).run P w=.ok (aY J e) w:=fun t x y e h=>rN d t x y e D ah h;unfold B8 at h;split at h
  .rename_i hu;split at h
   .cases h;simp [Op.equalIn,Sem.run_bind,run_underlying hu,SV.ev,CV.ev,J1]
   .cases h
  .rename_i kk hu;split at h
   .split at h
    .rename_i hk;subst hk;cases h;simp [Op.equalIn,Sem.run_bind,run_underlying hu,SV.ev,CV.ev,fH];rfl
    .cases h
   .cases h
  .rename_i hu;split at h
   .rename_i a b;cases h;have:(kl J a==kl J b)=decide (kl J a=kl J b):=FT _ _;simp only[Op.equalIn,Sem.run_bind,run_underlying hu,SV.ev,CV.ev,uj,Result.andThen_ok,Sem.run_pure,this]
   .cases h
  .rename_i el hu;split at h
   .rename_i x l1 q1 z1 x' l2 q2 z2;rw[Op.equalIn];simp only[Sem.run_bind,run_underlying hu,Result.andThen_ok,SV.ev,CV.ev];rcases pK (J:=J) h with ⟨h1,h2⟩ | ⟨h1,h2⟩
    .rw[h1,dr,h2];cases hs:ar (az J x) (az J l1)with
     | none=>have:=iz (az J x) (az J l1);rw[hs]at this;simp at this;simp [this]
     | some q=>have:=iz (az J x) (az J l1);rw[hs]at this;simp at this;simp [this]
    .rw[h1,dr,h2];simp [iz]
   .cases h
  .rename_i el hu;split at h
   .rename_i x l1 x' l2;rw[Op.equalIn];simp only[Sem.run_bind,run_underlying hu,Result.andThen_ok,SV.ev,CV.ev];rcases pK (J:=J) h with ⟨h1,h2⟩ | ⟨h1,h2⟩
    .rw[h1,dr,h2];cases hs:ar (az J x) (az J l1)with
     | none=>have:=iz (az J x) (az J l1);rw[hs]at this;simp at this;simp [this]
     | some q=>have:=iz (az J x) (az J l1);rw[hs]at this;simp at this;simp [this]
    .rw[h1,dr,h2];simp [iz]
   .cases h
  .rename_i k el hu;split at h
   .rename_i x x';rw[Op.equalIn];simp only[Sem.run_bind,run_underlying hu,Result.andThen_ok,SV.ev,CV.ev];rcases pK (J:=J) h with ⟨h1,h2⟩ | ⟨h1,h2⟩
    .rw[h1,aay rfl,h2];by_cases hx:az J x= -1
     .simp [hx]
     .simp [hx]
    .rw[h1,aay rfl,h2];by_cases hx:az J x'= -1
     .simp [hx]
     .simp [hx]
   .cases h
  .rename_i fs hu;split at h
   .split at h
    .rename_i hp;have hf:P.fieldsOf t=fs:=by simp [Program.fieldsOf,hu]
     simp only[SV.ev];rw[run_equalIn_struct w D t _ _ (by rw[hf];exact hu) hp,hf];exact po ih _ _ h
    .cases h
   .cases h
  .rename_i n el hu;split at h
   .split at h
    .rename_i i hi;simp only[SV.ev];rw[run_equalIn_array w D _ _ hu hi];exact vG ih _ _ h
    .cases h
   .cases h
  .cases h
def Gc {y:TV} {X Y:Operand} (h:Si P op t x y=some (n,v)) (hn:aY J n=true) :
 Sem.run P (do eqGuard op t X Y (x.ev J) (y.ev J);binOp op t (x.ev J) (y.ev J)) w=.ok (v.ev J) w:=by
 unfold Si at h;split at h
 .rename_i k a k' b;have:=Gd (T:=t) (w:=w) (P:=P) h hn;simp only[TV.ev,SV.ev,CV.ev]at this ⊢;have hg:(eqGuard op t X Y (.int k (az J a)) (.int k' (az J b))).run P w=.ok () w:=by
   unfold eqGuard;split<;>rfl
  simp only[Sem.run_bind,hg,Result.andThen_ok];exact this
 .rename_i a b;have:=Ge (T:=t) (w:=w) (P:=P) h hn;simp only[TV.ev,SV.ev,CV.ev]at this ⊢;have hg:(eqGuard op t X Y (.string (kl J a)) (.string (kl J b))).run P w=.ok () w:=by
   unfold eqGuard;split<;>rfl
  simp only[Sem.run_bind,hg,Result.andThen_ok];exact this
 .rename_i a b hni hns;split at h
  .rename_i e he;have heq:(Op.equal t (a.ev J) (b.ev J)).run P w=.ok (aY J e) w:=rN 20 t _ _ e 10000 aA he;have hsh:(∃ x y,a=.bool x/\b=.bool y)\/(∃ x y l c x' y' l' c',a=.sl x y l c/\b=.sl x' y' l' c')\/(∃ x y x' y',a=.hptr x y/\b=.hptr x' y')\/(∃ x y,a=.map x/\b=.map y):=by
    rcases Gt he with ⟨_,_,_,_,rfl,rfl⟩ | ⟨_,_,rfl,rfl⟩ | h | h | h | h
    .exact(hni _ _ _ _ rfl rfl).elim
    .exact(hns _ _ rfl rfl).elim
    .exact Or.inl h
    .exact Or.inr (Or.inl h)
    .exact Or.inr (Or.inr (Or.inl h))
    .exact Or.inr (Or.inr (Or.inr h))
   rcases hsh with ⟨x,y,rfl,rfl⟩ | ⟨x,y,l,c,x',y',l',c',rfl,rfl⟩ | ⟨x,y,x',y',rfl,rfl⟩ | ⟨x,y,rfl,rfl⟩
   all_goals
    split at h
    .cases h;simp only[TV.ev,SV.ev]at heq ⊢;simp only[CV.ev]at heq ⊢;simp only[Sem.run_bind,eqGuard,binOp,heq,Sem.run_pure,Result.andThen_ok];simp [heq]
    .cases h;simp only[TV.ev,SV.ev]at heq ⊢;simp only[CV.ev]at heq ⊢;simp [Sem.run_bind,eqGuard,binOp,heq,cO]
    .cases h
  .cases h
 .rename_i a b;split at h
  .rename_i hgt;have hg:∀ op,(eqGuard op t X Y (SV.ev J (.agg a)) (SV.ev J (.agg b))).run P w=.ok () w:=by
    intro op;cases op<;>simp [eqGuard,SV.ev,Sem.run_bind,run_program,hgt]
   split at h
   .rename_i e he;have heq:(Op.equal t (SV.ev J (.agg a)) (SV.ev J (.agg b))).run P w=.ok (aY J e) w:=rN 20 t _ _ e 10000 aA he;split at h
    .cases h;simp only[SV.ev]at hg heq;simp only[TV.ev,SV.ev,CV.ev,Sem.run_bind,hg,Result.andThen_ok,binOp,heq,Sem.run_pure]
    .cases h;simp only[SV.ev]at hg heq;simp only[TV.ev,SV.ev,CV.ev,Sem.run_bind,hg,Result.andThen_ok,binOp,heq,Sem.run_pure,cO]
    .cases h
   .cases h
  .cases h
 .cases h
end
section
variable {P:Program} {S:Nat->Prop} {w0:World} {J:Env} {st:St} {mem:Mem} {a:Act} {w:World} {n:E} {v:TV}
def MRel.NH (h:MRel S w0 J mem w) {x:E} (hx:aY J (NH mem x)=true):-1<=az J x:=by
 unfold Sx.NH at hx;split at hx
 .split at hx
  .rename_i a ha;have:=yh h ha;rw[au];omega
  .rw[kV,aq,aaf]at hx;exact hx
 .rw[aW,aq,aaf]at hx;exact hx
def gG {k:IntKind} {code:BoundsCode} (h0:0<=i) (h1:i<=y):(Instr.sliceBound (.int k i) y code).run P w=.ok i.toNat w:=by
 unfold Instr.sliceBound;simp only[asIntOf,Sem.run_bind,Sem.run_pure,Result.andThen_ok,h0,h1,and_self,abK]
def mY {d:E} {x:Option TV} {e:E} (h:mA d x=some e):(x=none/\e=d)\/∃ k,x.map (TV.ev J)=some (.int k (az J e)):=by
 unfold mA at h;split at h
 .cases h;exact Or.inl ⟨rfl,rfl⟩
 .cases h;exact Or.inr ⟨_,rfl⟩
 .cases h
def kn {isSlice:Bool} {len:Nat} {dl dh l h:E} (hl:mA dl lo=some l) (hh:mA dh hi=some h) (h0:az J dl=0) (h1:az J dh=len)
 (a0:0<=az J l) (a1:az J l<=az J h) (a2:az J h<=cap) :
 (Instr.sliceBounds isSlice len cap (lo.map (TV.ev J)) (hi.map (TV.ev J)) none).run P w=.ok ((az J l).toNat,(az J h).toNat,cap) w:=by
 unfold Instr.sliceBounds;simp only[Sem.run_bind,Sem.run_pure,Result.andThen_ok];rcases mY (J:=J) hh with ⟨rfl,rfl⟩ | ⟨k,hk⟩
 .simp only[abX,Sem.run_pure,Result.andThen_ok];rw[h1];rcases mY (J:=J) hl with ⟨rfl,rfl⟩ | ⟨k',hk'⟩
  .simp only[abX,Sem.run_pure,Result.andThen_ok,h0,aaa];rfl
  .simp only[hk',Sem.run_bind,Sem.run_pure,Result.andThen_ok];rw[gG a0 ah];simp
 .simp only[hk,Sem.run_bind];rw[gG ah a2];simp only[Result.andThen_ok];rcases mY (J:=J) hl with ⟨rfl,rfl⟩ | ⟨k',hk'⟩
  .simp only[abX,Sem.run_pure,Result.andThen_ok,h0];rfl
  .simp only[hk',Sem.run_bind];rw[gG a0 ah];simp
def uY {m l y:E} (hl:0<=az J l):az J (zK m l y k)=if az J m=az J l then az J y else az J y+(((az J l).toNat*k:Nat):Int):=by
 unfold zK;rw[iF,fH,dy,ny,aq,qA hl];by_cases h:az J m=az J l<;>simp [h]
def Fq {x y:Int} (hx:-1<=x) (hy:0<=y) (k:Nat):(ar x y).map (·.add k)=ar x (y+k):=by
 by_cases h:0<=x
 .rw[al h,qJ h hy,aaT,dJ]
 .have:x= -1:=ah;subst this;rfl
def CX (hm:MRel S w0 J mem w) (h:HP P mem t x lo hi mx=some (n,v)) (hn:aY J n=true) :
 (Instr.sliceAt t (x.ev J) (lo.map (TV.ev J)) (hi.map (TV.ev J)) (mx.map (TV.ev J))).run P w=.ok (v.ev J) w:=by
 unfold HP at h;split at h
 .cases h
 .split at h
  .rename_i s hu;split at h
   .rename_i l hh hl hh';cases h;rw[aM,aaj,aM,aaj,aW,aW,aW,aq,aaf,aaf,aaf,kO]at hn;obtain⟨a0,a1,a2⟩:=hn;have hb:=kn (P:=P) (w:=w) (isSlice:=false) (len:=(kl J s).size) (cap:=(kl J s).size) hl hh' (aq _ _) (kO _ _) a0 a1 a2;unfold Instr.sliceAt;simp only[Sem.run_bind,run_underlying hu,Result.andThen_ok];unfold Instr.slice;simp only[Sem.run_bind,run_underlying hu,Result.andThen_ok,TV.ev,SV.ev,CV.ev,abX,Option.isSome_none,abb,abP,Sem.run_pure,hb,OH]
   .cases h
  .rename_i el x y len cap hu;split at h
   .rename_i l hh k hl hh' hs;cases h;rw[aM,aaj,aM,aaj,aM,aaj,aM,aaj,aW,aW,aW,aW,aq,aaf,aaf,aaf,aaf]at hn;obtain⟨hx,hy,a0,a1,a2⟩:=hn;have hx:=hm.NH hx;by_cases hlen:0<=az J len
    .have hb:=kn (P:=P) (w:=w) (isSlice:=true) (len:=(az J len).toNat) (cap:=(az J cap).toNat) hl hh' (aq _ _) (by rw[acw hlen]) a0 a1 ah;unfold Instr.sliceAt;simp only[Sem.run_bind,run_underlying hu,Result.andThen_ok];unfold Instr.slice;simp only[Sem.run_bind,run_underlying hu,Result.andThen_ok,TV.ev,SV.ev,CV.ev,abX,hb,c9 hs,Sem.run_pure,uY a0,nz]
     congr 2
     .by_cases hc:az J cap=az J l
      .rw[aay (by rw[hc]),aay hc]
      .rw[aal ah,aal hc,Fq hx hy]
     .omega
     .omega
    .
     rcases mY (J:=J) hh' with ⟨rfl,rfl⟩ | ⟨kk,hk⟩
     .omega
     .unfold Instr.sliceAt;simp only[Sem.run_bind,run_underlying hu,Result.andThen_ok];unfold Instr.slice;simp only[Sem.run_bind,run_underlying hu,Result.andThen_ok,TV.ev,SV.ev,CV.ev,abX];have hb:(Instr.sliceBounds true (az J len).toNat (az J cap).toNat (lo.map (TV.ev J)) (hi.map (TV.ev J)) none).run P w=.ok ((az J l).toNat,(az J hh).toNat,(az J cap).toNat) w:=by
       unfold Instr.sliceBounds;simp only[Sem.run_bind,Sem.run_pure,Result.andThen_ok,hk];rw[gG ah ah];simp only[Result.andThen_ok];rcases mY (J:=J) hl with ⟨rfl,rfl⟩ | ⟨k',hk'⟩
       .simp only[abX,Sem.run_pure,Result.andThen_ok,aq];rfl
       .simp only[hk',Sem.run_bind];rw[gG a0 ah];simp
      simp only[hb,c9 hs,Sem.run_pure,uY a0,nz,Result.andThen_ok]
      congr 2
      .by_cases hc:az J cap=az J l
       .rw[aay (by rw[hc]),aay hc]
       .rw[aal ah,aal hc,Fq hx hy]
      .omega
      .omega
   .cases h
  .rename_i q el x y hu;split at h
   .rename_i l hh k hl hh' hs;cases h;rw[aM,aaj,aM,aaj,aM,aaj,aM,aaj,aW,aW,aW,aW,aq,aq,aaf,aaf,aaf,aaf]at hn;obtain⟨hx,hy,a0,a1,a2⟩:=hn;have hx:=hm.Ev hx;have hb:=kn (P:=P) (w:=w) (isSlice:=false) (len:=q) (cap:=q) hl hh' (aq _ _) (aq _ _) a0 a1 a2;have es:az J (zK (.lit q) l y k)=if(q:Int)=az J l then az J y else az J y+(((az J l).toNat*k:Nat):Int):=uY a0
    unfold Instr.sliceAt;simp only[Sem.run_bind,run_underlying hu,Result.andThen_ok,TV.ev,SV.ev,CV.ev,al hx,Instr.sureAddr,Sem.run_pure,abX,hb,c9 hs,es,nz,aq]
    congr 2
    .by_cases hc:(q:Int)=az J l
     .rw[aay ah,aay hc]
     .rw[aal ah,aal hc,dJ];congr 2;omega
    .omega
    .omega
   .cases h
  .cases h
def ze {o:Option Operand} {x:Option TV} (hr:Rel S w0 J st a w) (h:(match o with | none=>some none | some o=>(cy st o).map some)=some x):o.map a.eval=x.map (TV.ev J):=by
 cases o with
 | none=>simp only[aak]at h;subst h;rfl
 | some o =>
  simp only[aai]at h;obtain⟨y,hy,rfl⟩:=h;simp [aH hr hy]
def Cs (hr:Rel S w0 J st a w) {x y:Operand} (h:G0 P st op t x y=some (n,v)) (hn:aY J n=true) :
 Sem.run P (do eqGuard op t x y (a.eval x) (a.eval y);binOp op t (a.eval x) (a.eval y)) w=.ok (v.ev J) w:=by
 unfold G0 at h;split at h
 .rename_i j hx;have e1:=aH hr hx;simp only[TV.ev,SV.ev,CV.ev]at e1;have e2:a.eval (.const .nilIface)=.nilIface:=rfl;split at h
  .rename_i ms ht;have heq:(Op.equal t (J.v j) .nilIface).run P w=.ok (decide (oT (J.v j)=0)) w:=by
    have hd:∀ v:Value,v=.nilIface\/(∃ t x,v=.iface t x)->(Op.equal t v .nilIface).run P w=.ok (decide (oT v=0)) w:=by
     rintro v (rfl | ⟨t',x',rfl⟩)
     .show(Op.equalIn (9999+1) t .nilIface .nilIface).run P w=_;rw[Op.equalIn];simp only[Sem.run_bind,run_underlying ht,Result.andThen_ok,Sem.run_pure,oT];rfl
     .show(Op.equalIn (9999+1) t (.iface t' x') .nilIface).run P w=_;rw[Op.equalIn];simp only[Sem.run_bind,run_underlying ht,Result.andThen_ok,Sem.run_pure,oT];rfl
    refine hd _ (zX ?_);split at h
    .cases h;rw[kV,aaf]at hn;exact hn
    .cases h;rw[kV,aaf]at hn;exact hn
    .cases h
   have hv:J.v j=.nilIface\/(∃ t x,J.v j=.iface t x):=by
    refine zX ?_;split at h
    .cases h;rw[kV,aaf]at hn;exact hn
    .cases h;rw[kV,aaf]at hn;exact hn
    .cases h
   have hg:∀ op,(eqGuard op t x (.const .nilIface) (J.v j) .nilIface).run P w=.ok () w:=by
    intro op;rcases hv with h | ⟨t',x',h⟩<;>rw[h]<;>cases op<;>simp [eqGuard]
   have hb:(binOp .eql t (J.v j) .nilIface).run P w=.ok (.bool (decide (oT (J.v j)=0))) w/\(binOp .neq t (J.v j) .nilIface).run P w=.ok (.bool (!decide (oT (J.v j)=0))) w:=by
    rcases hv with h | ⟨t',x',h⟩<;>rw[h]at heq ⊢<;>constructor<;>simp only[binOp,Sem.run_bind,heq,Result.andThen_ok,Sem.run_pure]
   split at h
   .cases h;simp only[e1,e2,Sem.run_bind,hg,Result.andThen_ok,hb.1];rfl
   .cases h;simp only[e1,e2,Sem.run_bind,hg,Result.andThen_ok,hb.2];rfl
   .cases h
  .cases h
 .rename_i hx;have e1:=aH hr hx;have e2:a.eval (.const .nilIface)=.nilIface:=rfl;have e1:a.eval x=.nilIface:=e1;split at h
  .rename_i ms ht;have hd:(Op.equal t .nilIface .nilIface).run P w=.ok true w:=by
    show(Op.equalIn (9999+1) t .nilIface .nilIface).run P w=_;rw[Op.equalIn];simp only[Sem.run_bind,run_underlying ht,Result.andThen_ok,Sem.run_pure]
   have hg:∀ op,(eqGuard op t x (.const .nilIface) .nilIface .nilIface).run P w=.ok () w:=by
    intro op;cases op<;>simp [eqGuard]
   have hb:(binOp .eql t .nilIface .nilIface).run P w=.ok (.bool true) w/\(binOp .neq t .nilIface .nilIface).run P w=.ok (.bool false) w:=by
    constructor<;>simp only[binOp,Sem.run_bind,hd,Result.andThen_ok,Sem.run_pure]<;>rfl
   split at h
   .cases h;simp only[e1,e2,Sem.run_bind,hg,Result.andThen_ok,hb.1];rfl
   .cases h;simp only[e1,e2,Sem.run_bind,hg,Result.andThen_ok,hb.2];rfl
   .cases h
  .cases h
 .cases h
def pS (hr:Rel S w0 J st a w) {o:Oper} (h:quiet P st o.op=some (n,v)) (hn:aY J n=true) :
 (execOp a.eval o).run P w=.ok (.value (v.ev J)) w:=by
 obtain⟨dst,op,ty,pos,af,gd⟩:=o;simp only at h;unfold quiet at h;split at h
 .rename_i x;simp only[aai,aaS]at h;obtain⟨y,hy,_,rfl⟩:=h;simp only[execOp,Sem.run_pure,aH hr hy]
 .rename_i x;simp only[aai,aaS]at h;obtain⟨y,hy,_,rfl⟩:=h;simp only[execOp,Sem.run_pure,aH hr hy]
 .rename_i c x y;split at h
  .rename_i e hc;have e1:=aH hr hc;simp only[TV.ev,SV.ev,CV.ev]at e1;split at h
   .rename_i hk;simp only[aai,aaS]at h;obtain⟨z,hz,_,rfl⟩:=h;simp only[execOp,Sem.run_bind,e1,fp hr.path hk,asBool,Sem.run_pure,Result.andThen_ok,abK,aH hr hz]
   .rename_i hk;simp only[aai,aaS]at h;obtain⟨z,hz,_,rfl⟩:=h;simp only[execOp,Sem.run_bind,e1,fp hr.path hk,asBool,Sem.run_pure,Result.andThen_ok,abP,abb,aH hr hz]
   .split at h
    .rename_i va vb ha hb;simp only[aai,aaS]at h;obtain⟨u,hu,_,rfl⟩:=h;have em:=yT (J:=J) hu;simp only[execOp,Sem.run_bind,e1,asBool,Sem.run_pure,Result.andThen_ok,TV.ev,em,aH hr ha,aH hr hb]
    .cases h
  .cases h
 .rename_i x;split at h
  .rename_i p q hx;cases h;have hp:=hr.toMRel.Ev hn;have e1:=aH hr hx;simp only[TV.ev,SV.ev,CV.ev]at e1;simp only[execOp,e1,TV.ev,SV.ev,CV.ev,al hp,Sem.run_pure]
  .cases h
 .rename_i op t x y _;split at h
  .rename_i r hnc;cases h;have:=Cs hr hnc hn;unfold execOp;simp only[Sem.run_bind]at this ⊢;rw[this];simp only[Result.andThen_ok,Sem.run_pure]
  split at h
  .rename_i v1 v2 hx hy;have e1:=aH hr hx;have e2:=aH hr hy;have:=Gc (w:=w) (X:=x) (Y:=y) h hn;rw[<-e1,<-e2]at this;unfold execOp;simp only[Sem.run_bind]at this ⊢;rw[this];simp only[Result.andThen_ok,Sem.run_pure]
  .cases h
 .rename_i op t x;split at h
  .rename_i v1 hx;simp only[execOp,Sem.run_bind,aH hr hx,LG (w:=w) (P:=P) (J:=J) h,Result.andThen_ok,Sem.run_pure]
  .cases h
 .rename_i s d x;split at h
  .rename_i v1 hx;simp only[execOp,Sem.run_bind,aH hr hx,DH hr.toMRel h hn,Result.andThen_ok,Sem.run_pure]
  .cases h
 .rename_i s x f;split at h
  .rename_i v1 hx;simp only[execOp,Sem.run_bind,aH hr hx,uA hr.toMRel h hn,Result.andThen_ok,Sem.run_pure]
  .cases h
 .rename_i s x f;split at h
  .rename_i v1 hx;simp only[execOp,Sem.run_bind,aH hr hx,Cb (w:=w) (J:=J) h,Result.andThen_ok,Sem.run_pure]
  .cases h
 .rename_i t x y;split at h
  .rename_i v1 v2 hx hy;simp only[execOp,Sem.run_bind,aH hr hx,aH hr hy,uG hr.toMRel h hn,Result.andThen_ok,Sem.run_pure]
  .cases h
 .rename_i t x y;split at h
  .rename_i v1 v2 hx hy;simp only[execOp,Sem.run_bind,aH hr hx,aH hr hy,Cj (w:=w) h hn,Result.andThen_ok,Sem.run_pure]
  .cases h
 .rename_i t x;split at h
  .rename_i c hx;simp only[aai,aaS]at h;obtain⟨⟨nn,u⟩,hu,rfl,rfl⟩:=h;have e1:=aH hr hx;obtain⟨p,hp,hl⟩:=vQ hr.toMRel hu hn;simp only[TV.ev,SV.ev,hp]at e1;simp only[execOp,Sem.run_bind,e1,Instr.loadAt,Instr.sureAddr,Sem.run_pure,Result.andThen_ok,hl,TV.ev]
  .cases h
 .rename_i x i;split at h
  .rename_i v1 hx;simp only[execOp,Sem.run_bind,aH hr hx,yg (w:=w) (P:=P) (J:=J) h,Result.andThen_ok,Sem.run_pure]
  .cases h
 .rename_i t x;split at h
  .rename_i q el x' y l c hu hx;cases h;rw[aW,aq,aaf]at hn;have e1:=aH hr hx;simp only[TV.ev,SV.ev,CV.ev]at e1;have:¬(az J l).toNat<q:=ah;simp only[execOp,Sem.run_bind,e1,Instr.arrayAt,run_underlying hu,Result.andThen_ok,aal this,Sem.run_pure,TV.ev,SV.ev,CV.ev]
  .cases h
 .rename_i t x lo hi mx;split at h
  .rename_i v1 hx;split at h
   .rename_i l hh m h1 h2 h3;have:=CX hr.toMRel h hn;rw[<-ze hr h1,<-ze hr h2,<-ze hr h3,<-aH hr hx]at this;simp only[execOp,Sem.run_bind,this,Result.andThen_ok,Sem.run_pure]
   .cases h
  .cases h
 .rename_i f first captured
  split at h
  .rename_i hc;cases h;obtain⟨rfl,rfl⟩:=hc;simp [execOp,Sem.run_bind,Instr.makeFunc,TV.ev,SV.ev,CV.ev]
  .split at h
   .rename_i c hcap;split at h
    .rename_i hf;split at h
     .rename_i x y hx;split at h
      .rename_i hy;cases h;subst hy;subst hf;have e1:=aH hr hx;simp only[TV.ev,SV.ev,CV.ev,aq]at e1;have ec:captured=#[c]:=by
        obtain⟨l⟩:=captured;simp only at hcap;subst hcap;rfl
       subst ec;simp [execOp,Sem.run_bind,Instr.makeFunc,TV.ev,SV.ev,CV.ev,e1]
      .cases h
     .cases h
    .cases h
   .rename_i c d hcap;split at h
    .rename_i hf;split at h
     .rename_i x y x' y' hx hx';split at h
      .rename_i hy;obtain⟨hy,hy'⟩:=hy;cases h;subst hy hy';subst hf;have e1:=aH hr hx;have e2:=aH hr hx';simp only[TV.ev,SV.ev,CV.ev,aq]at e1 e2;have ec:captured=#[c,d]:=by
        obtain⟨l⟩:=captured;simp only at hcap;subst hcap;rfl
       subst ec;simp [execOp,Sem.run_bind,Instr.makeFunc,TV.ev,SV.ev,CV.ev,e1,e2]
      .cases h
     .cases h
    .cases h
   .cases h
 .rename_i b args ats;split at h
  .rename_i vs hx;have e1:=iL hr _ _ hx;have e2:args.map a.eval=(vs.map (TV.ev J)).toArray:=by
    rw[<-e1];obtain⟨l⟩:=args;exact acR
   rw[BigFrame.execOp_builtin,e2];exact xI hr.toMRel h hn
  .cases h
 .rename_i t parts;split at h
  .rename_i vs hx;have e1:=iL hr _ _ hx;have e2:(parts.map fun p=>(p.1,a.eval p.2))=((parts.toList.map (·.1)).zip (vs.map (TV.ev J))).toArray:=by
    rw[<-e1,abI,<-yS parts.toList];obtain⟨l⟩:=parts;exact acR
   split at h
   .rename_i r hb;cases h;have:=Gf (w:=w) (J:=J) hb hn;rw[<-e2]at this;simp only[execOp,Sem.run_bind,this,Result.andThen_ok,Sem.run_pure]
   .have:=BS (w:=w) (J:=J) h;rw[<-e2]at this;simp only[execOp,Sem.run_bind,this,Result.andThen_ok,Sem.run_pure]
  .cases h
 .cases h
end
def Env.fz (J:Env) (n:Nat) (x:Int):Env:={J with i:=fun k=>if k=n then x else J.i k}
def Env.lN (J:Env) (n:Nat) (x:Hl):Env:={J with h:=fun k=>if k=n then x else J.h k}
def Env.Fm (J:Env) (n:Nat) (x:Value):Env:={J with v:=fun k=>if k=n then x else J.v k}
def Env.Lr (J:Env) (n:Nat) (x:Bool):Env:={J with b:=fun k=>if k=n then x else J.b k}
def Env.QZ (J:Env) (n:Nat) (x:ByteArray):Env:={J with s:=fun k=>if k=n then x else J.s k}
section
variable (J:Env) (n m:Nat)
def mO (x:Int):(J.fz n x).i n=x:=by simp [Env.fz]
def JF (x:Int) (h:m≠n):(J.fz n x).i m=J.i m:=by simp [Env.fz,h]
def fZ (x:Hl):(J.lN n x).h n=x:=by simp [Env.lN]
def bT (x:Int) (h:n<=k):ai n J (J.fz k x):=⟨fun j hj=>by simp [Env.fz];omega,fun _ _=>rfl,fun _ _=>rfl,fun _ _=>rfl,fun _ _=>rfl⟩
def dL (x:Hl) (h:n<=k):ai n J (J.lN k x):=⟨fun _ _=>rfl,fun _ _=>rfl,fun _ _=>rfl,fun _ _=>rfl,fun j hj=>by simp [Env.lN];omega⟩
def xC (x:Value) (h:n<=k):ai n J (J.Fm k x):=⟨fun _ _=>rfl,fun _ _=>rfl,fun _ _=>rfl,fun j hj=>by simp [Env.Fm];omega,fun _ _=>rfl⟩
def xA (x:Bool) (h:n<=k):ai n J (J.Lr k x):=⟨fun _ _=>rfl,fun j hj=>by simp [Env.Lr];omega,fun _ _=>rfl,fun _ _=>rfl,fun _ _=>rfl⟩
def FM (x:ByteArray) (h:n<=k):ai n J (J.QZ k x):=⟨fun _ _=>rfl,fun _ _=>rfl,fun j hj=>by simp [Env.QZ];omega,fun _ _=>rfl,fun _ _=>rfl⟩
end
def Hl.put (h:Hl) (x y:Nat) (vs:List Value):Hl:=fun b=>if b=x then
 match h x with
 | some (.cells c T fr)=>some (.cells (bz c.toList y vs).toArray T fr)
 | o=>o
 else h b
variable {H a h:Hl}
def Hl.wr (h:Hl) (x y n:Nat):Bool :=
 match h x with
 | some (.cells c _ fr)=>decide (y+n<=c.size)&&(decide (fr.2<=y)||decide (y+n<=fr.1))
 | _=>false
def Hl.gP {x:Nat} : (h.put x y vs).mem b↔h.mem b:=by
 unfold Hl.mem Hl.put;split
 .rename_i e;subst e;split
  .rename_i c T fr hb;simp [hb]
  .rfl
 .rfl
def Hl.un (a b:Hl):Hl:=fun k=>(a k).or (b k)
def cu (l:List Hl):Hl:=l.foldr Hl.un Hl.none
def Hl.le (a b:Hl):Prop:=∀ k o,a k=some o->b k=some o
def Hl.cE {b:Hl} : (a.un b).mem k↔a.mem k\/b.mem k:=by
 unfold Hl.mem Hl.un;cases a k<;>simp
def Hl.Ib {b:Hl} {w:World} (h1:a.sub w) (h2:b.sub w):(a.un b).sub w:=by
 intro k o h;unfold Hl.un at h;cases ha:a k with
 | some x=>rw[ha]at h;cases h;exact h1 _ _ ha
 | none=>rw[ha]at h;exact h2 _ _ h
def aK (h:Hl) (e:TypeId) (size:Nat) (v:Value) (n:Nat) (xs:List Value):Prop :=
 xs.length=n*size /\
 ((v=.slice none 0 0/\n=0) \/
  ∃ g cap cur,v=.slice (some ⟨g,0,none⟩) n cap/\h g=some (.cells cur e (0,0))/\n<=cap/\cap<=maxLen/\cur.size=cap*size/\cur.toList.take (n*size)=xs)
inductive Src | cvs (l:List CV) (m:Nat) | seg (h:Nat) (x y l:E)
def bR (h:Hl) (x y n:Nat):List Value:=(List.range n).map fun j=>(h.cell x (y+j)).getD (.tuple #[])
def Src.len (J:Env):Src->Nat
 | .cvs _ m=>m
 | .seg _ _ _ l=>(az J l).toNat
def Src.iA (J:Env) (size:Nat):Src->List Value
 | .cvs l _=>l.map (CV.ev J)
 | .seg h x y l=>bR (J.h h) (az J x).toNat (az J y).toNat ((az J l).toNat*size)
def Src.ok (J:Env) (size:Nat):Src->Prop
 | .cvs l m=>True
 | .seg h x y l=>(0<=az J x/\0<=az J y/\0<=az J l/\∀ j,j<(az J l).toNat*size->∃ v,(J.h h).cell (az J x).toNat ((az J y).toNat+j)=some v/\v.oneCell'=true)\/az J l=0
def mh (kd:Kd) (key:Value) (es:Array MapEntry):Option (Option (Nat×Value)) :=
 match kd with
 | .int k=>Instr.findNow (.int k) key es.toList 0
 | .str=>Instr.findNow .string key es.toList 0
 | _=>none
def rY (kd:Kd) (key val:Value) (es:Array MapEntry) (clock:Nat):Obj :=
 match mh kd key es with
 | some (some (i,_))=>.map (es.modify i fun e=>{e with key,val}) clock
 | _=>.map (es.push {key,val,born:=clock}) (clock+1)
def isAgg:Value->Bool
 | .agg _=>true
 | _=>false
def Hl.setObj (h:Hl) (x:Nat) (o:Obj):Hl:=fun b=>if b=x then some o else h b
inductive Ck | int (k:IntKind) | bool | str | any | ptr | sl | map | slw
inductive Cp | one (k:Ck) | agg (ks:List Ck)
def Ck.len:Ck->Nat
 | .ptr=>2 | .sl=>4 | .slw=>4 | _=>1
def Ck.cv (n:Nat):Ck->CV
 | .int k=>.int k (.var n)
 | .bool=>.bool (.bvar n)
 | .str=>.str (.svar n)
 | .any=>.vr n
 | .ptr=>.hptr (.var n) (.var (n+1))
 | .sl=>.sl (.var n) (.var (n+1)) (.var (n+2)) (.var (n+3))
 | .map=>.map (.var n)
 | .slw=>.sl (.var n) (.var (n+1)) (.var (n+2)) (.var (n+3))
def Ck.root (n:Nat):Ck->List E
 | .ptr | .sl | .map=>[.var n]
 | _=>[]
def ak:Nat->List Ck->List CV
 | _,[]=>[]
 | n,k::l=>k.cv n::ak (n+k.len) l
def Im:Nat->List Ck->List E
 | _,[]=>[]
 | n,k::l=>k.root n++Im (n+k.len) l
def bc (l:List Ck):Nat:=(l.map Ck.len).sum
def Cp.sv (n:Nat):Cp->SV
 | .one k=>.one (k.cv n)
 | .agg ks=>.agg (ak n ks)
def Cp.len:Cp->Nat
 | .one k=>k.len
 | .agg ks=>bc ks
def Cp.roots (n:Nat):Cp->List E
 | .one k=>k.root n
 | .agg ks=>Im n ks
def bW:Nat->List Cp->List SV
 | _,[]=>[]
 | n,c::l=>c.sv n::bW (n+c.len) l
def aT:Nat->List Cp->List E
 | _,[]=>[]
 | n,c::l=>c.roots n++aT (n+c.len) l
def UW (l:List Cp):Nat:=(l.map Cp.len).sum
def j7 (n:Nat) (l:List Cp):TV :=
 match l with
 | [c]=>.sv (c.sv n)
 | l=>.tup (bW n l)
def lQ:Value->Ck
 | .int k _=>.int k
 | .bool _=>.bool
 | .string _=>.str
 | .slice _ _ _=>.sl
 | .pointer _=>.ptr
 | .map _=>.map
 | _=>.any
def lC (n:Nat) (ks:List Ck) (agg:Bool):SV:=if agg then .agg (ak n ks)else match ks with
 | [k]=>.one (k.cv n)
 | _=>.agg (ak n ks)
def ni (ks:List Ck) (agg:Bool) (v:Value):Prop:=if agg then ∃ cs,v=.agg cs/\cs.toList.map lQ=ks else ∃ k,ks=[k]/\lQ v=k
def iT (n:Nat) (J:Env):Ck->Prop
 | .ptr=> -1<=J.i n/\0<=J.i (n+1)
 | .sl=> -1<=J.i n/\0<=J.i (n+1)/\0<=J.i (n+2)/\0<=J.i (n+3)
 | .map=> -1<=J.i n
 | .slw=>True/\0<=J.i (n+1)/\0<=J.i (n+2)/\0<=J.i (n+3)
 | _=>True
def cY:Nat->List Ck->Env->Prop
 | _,[],_=>True
 | n,k::l,J=>iT n J k/\cY (n+k.len) l J
def Gn (n:Nat) (J:Env):Cp->Prop
 | .one k=>iT n J k
 | .agg ks=>cY n ks J
def fe:Nat->List Cp->Env->Prop
 | _,[],_=>True
 | n,c::l,J=>Gn n J c/\fe (n+c.len) l J
inductive Xo | arg (i:Nat) | link (i j:Nat) | far (i j k:Nat)
structure Spec where
 fn:FuncId
 own:List Xo
 rd:List Nat
 res:List Cp
 links:List Nat:=[]
 pre:List Value->List Hl->List Hl->Prop
 post:List Value->List Hl->List Hl->Value->List Hl->Hl->Prop
structure fh (w w':World) (Hs Hs':List Hl) (F:Hl):Prop where
 os:w'.os=w.os
 tape:w'.tape=w.tape
 output:w'.output=w.output
 size:w.heap.size<=w'.heap.size
 block:∀ b,b<w.heap.size->(∀ H∈Hs,¬H.mem b)->w'.heap[b]?=w.heap[b]?
 len:Hs'.length=Hs.length
 sub:∀ H∈Hs',H.sub w'
 fsub:F.sub w'
 dom:∀ H∈Hs',∀ b,H.mem b->(∃ K∈Hs,K.mem b)\/w.heap.size<=b
 fdom:∀ b,F.mem b->(∃ K∈Hs,K.mem b)\/w.heap.size<=b
 bq:∀ (p q:Nat) H K,p≠q->Hs'[p]?=some H->Hs'[q]?=some K->H.bq K
 fdis:∀ H∈Hs',H.bq F
def Spec.OK (P:Program) (s:Spec):Prop:=∀ w (xs:List Value) (Hs Rs:List Hl),Hs.length=s.own.length->Rs.length=s.rd.length ->
 (∀ H∈Hs,H.sub w)->(∀ R∈Rs,R.sub w)->(∀ (p q:Nat) H K,p≠q->Hs[p]?=some H->Hs[q]?=some K->H.bq K)->(∀ H∈Hs,∀ R∈Rs,H.bq R)->s.pre xs Hs Rs ->
 Calls P s.fn xs.toArray w fun e w'=>∃ (J:Env) (Hs':List Hl) (F:Hl),e=.returned ((j7 0 s.res).ev J)/\fe 0 s.res J/\fh w w' Hs Hs' F/\s.post xs Hs Rs ((j7 0 s.res).ev J) Hs' F
structure Ctx where
 Γ:List Spec
 inv:Nat->Env->Prop
 mu:Nat->Env->Nat
 post:Env->Mem->TV->Prop
inductive X
 | alloc (n:Nat)
 | put (n h:Nat) (x y:E) (cs:List CV)
 | app (n:Nat) (el:TypeId) (size bytes:Nat) (s:CV) (l:E) (H:bm) (src:Src)
 | grow (n:Nat) (el:TypeId) (size bytes:Nat) (olds:List CV) (l c:Nat) (src:Src)
 | mk (n:Nat) (el:TypeId) (z:List CV) (bytes:Nat) (l:E)
 | call (j n:Nat) (args:List TV) (own rd:List bm)
 | mnew (n:Nat)
 | mget (n h:Nat) (x:E) (kd:Kd) (key:CV) (z:SV) (ks:List Ck) (agg:Bool)
 | mset (n h:Nat) (x:E) (kd:Kd) (key:CV) (v:SV)
 | mclr (n h:Nat) (x:E)
 | cbs (n a:Nat) (cs:List CV) (T:TypeId)
 | Qg (n:Nat) (a b:bm)
 | cpy (n h:Nat) (x y ld:E) (hs:Nat) (xs ys ls:E)
 | LU (n:Nat) (r:bm)
 | mki (n:Nat) (T:TypeId) (v:SV)
def X.n:X->Nat
 | .mnew n | .mget n _ _ _ _ _ _ _ | .mset n _ _ _ _ _ | .mclr n _ _ | .cbs n _ _ _ | .Qg n _ _ | .cpy n _ _ _ _ _ _ _ _ | .LU n _ | .mki n _ _=>n
 | .alloc n | .put n _ _ _ _ | .app n _ _ _ _ _ _ _ | .grow n _ _ _ _ _ _ _ | .mk n _ _ _ _ | .call _ n _ _ _=>n
def newHs (J:Env) (n k:Nat):List Hl:=(List.range k).map fun j=>J.h (n+j)
def X.pre (C:Ctx) (J:Env):X->Prop
 | .alloc _=>True
 | .put _ h x y cs=>0<=az J x/\0<=az J y/\(J.h h).wr (az J x).toNat (az J y).toNat cs.length=true
 | .app _ el size bytes s l H src=>(∃ xs,aK (H.hl J) el size (s.ev J) (az J l).toNat xs)/\0<=az J l/\src.ok J size/\(az J l).toNat+src.len J<=maxLen/\((az J l).toNat+src.len J)*bytes<=140737488355328
 | .grow _ el size bytes olds l c src=>src.ok J size/\c<l+src.len J/\l+src.len J<=maxLen/\(l+src.len J)*bytes<=140737488355328
 | .mk _ el z bytes l=>0<=az J l/\(bytes:Int)*az J l<=281474976710656/\az J l<=9223372036854775807
 | .call j _ args own rd=>match C.Γ[j]? with
  | some s=>s.pre (args.map (TV.ev J)) (own.map (bm.hl J)) (rd.map (bm.hl J))
  | none=>False
 | .mnew _=>True
 | .mget _ h x kd key z ks agg=>0<=az J x/\∃ es clock r,J.h h (az J x).toNat=some (.map es clock)/\mh kd (key.ev J) es=some r/\∀ i v,r=some (i,v)->ni ks agg v
 | .mset _ h x kd key v=>0<=az J x/\∃ es clock r,J.h h (az J x).toNat=some (.map es clock)/\mh kd (key.ev J) es=some r
 | .mclr _ h x=>0<=az J x/\∃ es clock,J.h h (az J x).toNat=some (.map es clock)
 | .cbs _ _ _ _=>True
 | .Qg _ _ _=>True
 | .LU _ _=>True
 | .mki _ _ _=>True
 | .cpy _ h x y ld hs xs ys ls=>(0<=az J x/\0<=az J y/\0<=az J ld/\0<=az J ls)/\(∃ c T,J.h h (az J x).toNat=some (.cells c T (0,0))/\az J y+min (az J ls) (az J ld)<=c.size) /\
  (min (az J ls) (az J ld)=0\/0<=az J xs/\0<=az J ys/\bC (J.h hs) (az J xs).toNat (az J ys).toNat (min (az J ls) (az J ld)).toNat=true)
def X.rel (C:Ctx) (J J':Env):X->Prop
 | .alloc n=>0<=J'.i n
 | .put n h x y cs=>J'.h n=(J.h h).put (az J x).toNat (az J y).toNat (cs.map (CV.ev J))
 | .app n el size bytes s l H src =>
  -1<=J'.i n/\0<=J'.i (n+1) /\
  (∀ xs,aK (H.hl J) el size (s.ev J) (az J l).toNat xs->aK (J'.h n) el size (.slice (ar (J'.i n) 0) ((az J l).toNat+src.len J) (J'.i (n+1)).toNat) ((az J l).toNat+src.len J) (xs++src.iA J size)) /\
  (∀ b,(H.hl J).mem b->some b≠(s.ev J).ownBlock->J'.h n b=H.hl J b) /\
  ((∀ b,(J'.h n).mem b->(H.hl J).mem b\/(b=(J'.i n).toNat/\0<=J'.i n))/\∀ xs,aK (H.hl J) el size (s.ev J) (az J l).toNat xs->aK (J'.h n) el size (s.ev J) (az J l).toNat xs) /\
  (some (J'.i n).toNat=(s.ev J).ownBlock\/¬(H.hl J).mem (J'.i n).toNat\/J'.i n= -1)
 | .grow n el size bytes olds l c src =>
  0<=J'.i n/\0<=J'.i (n+1) /\
  aK (J'.h n) el size (.slice (ar (J'.i n) 0) (l+src.len J) (J'.i (n+1)).toNat) (l+src.len J) (olds.map (CV.ev J)++src.iA J size) /\
  (∀ b,(J'.h n).mem b->b=(J'.i n).toNat)
 | .mk n el z bytes l=>0<=J'.i n/\J'.h n=Hl.one (J'.i n).toNat (.cells (madeCells (z.map (CV.ev J)).toArray ((az J l).toNat*z.length)) el (0,0))
 | .call j n args own rd=>match C.Γ[j]? with
  | some s=>∃ F,s.post (args.map (TV.ev J)) (own.map (bm.hl J)) (rd.map (bm.hl J)) ((j7 n s.res).ev J') (newHs J' n own.length) F/\(aT 0 s.res≠[]->J'.h (n+own.length)=F)/\fe n s.res J'
  | none=>False
 | .mnew n=>0<=J'.i n/\J'.h n=Hl.one (J'.i n).toNat (.map #[] 0)
 | .mget n h x kd key z ks agg=>∀ es clock r,J.h h (az J x).toNat=some (.map es clock)->mh kd (key.ev J) es=some r ->
  (lC n ks agg).ev J'=(match r with | some (_,v)=>v | none=>z.ev J)/\J'.b (n+bc ks)=r.isSome
 | .mset n h x kd key v=>∀ es clock,J.h h (az J x).toNat=some (.map es clock)->J'.h n=(J.h h).setObj (az J x).toNat (rY kd (key.ev J) (v.ev J) es clock)
 | .mclr n h x=>∀ es clock,J.h h (az J x).toNat=some (.map es clock)->J'.h n=(J.h h).setObj (az J x).toNat (.map #[] clock)
 | .cbs n a cs T=>J'.h n=Hl.one (J.i a).toNat (.cells (cs.map (CV.ev J)).toArray T (cs.length,cs.length+1))
 | .LU n r=>J'.h n=r.hl J
 | .mki n T v=>J'.v n=.iface T (v.ev J)
 | .Qg n a b=>J'.h n=(a.hl J).un (b.hl J)/\(a.hl J).bq (b.hl J)
 | .cpy n h x y ld hs xs ys ls=>J'.h n=(J.h h).put (az J x).toNat (az J y).toNat (bR (J.h hs) (az J xs).toNat (az J ys).toNat (min (az J ls) (az J ld)).toNat)
structure As where
 n:Nat
 k:Nat
 c:CV
inductive Nd
 | tt | e (x:E) | and (a b:Nd) | imp (c:E) (a:Nd) | pre (x:X) | ext (x:X) (a:Nd)
 | inv (j:Nat) (A:List As) (hs:List (Nat×Option Nat)) | back (d j:Nat) (A:List As) (hs:List (Nat×Option Nat)) | havoc (d j n0:Nat) (a:Nd)
 | post (mem:Mem) (r:TV)
def assign (J:Env) (A:List As) (hs:List (Nat×Option Nat)):Env where
 i:=fun k=>match A.find? fun a=>a.n==k&&a.k==0 with
  | some a=>bV (some (a.c.ev J))
  | none=>J.i k
 b:=fun k=>match A.find? fun a=>a.n==k&&a.k==1 with
  | some a=>zV (some (a.c.ev J))
  | none=>J.b k
 s:=fun k=>match A.find? fun a=>a.n==k&&a.k==2 with
  | some a=>OW (some (a.c.ev J))
  | none=>J.s k
 v:=fun k=>match A.find? fun a=>a.n==k&&a.k==3 with
  | some a=>a.c.ev J
  | none=>J.v k
 h:=fun k=>match hs.find? fun p=>p.1==k with
  | some (_,some q)=>J.h q
  | some (_,none)=>Hl.none
  | none=>J.h k
def Nd.holds (C:Ctx) (ms:Nat->Nat) (J:Env):Nd->Prop
 | .tt=>True
 | .e x=>aY J x=true
 | .and a b=>a.holds C ms J/\b.holds C ms J
 | .imp c a=>aY J c=true->a.holds C ms J
 | .pre x=>x.pre C J
 | .ext x a=>∀ J',ai x.n J J'->x.rel C J J'->a.holds C ms J'
 | .inv j A hs=>C.inv j (assign J A hs)
 | .back d j A hs=>C.inv j (assign J A hs)/\C.mu j (assign J A hs)<ms d
 | .havoc d j n0 a=>∀ J',ai n0 J J'->C.inv j J'->a.holds C (fun k=>if k=d then C.mu j J' else ms k) J'
 | .post mem r=>C.post J mem r
def VH:E->Nd
 | .tt=>.tt
 | x=>.e x
def oQ:Nd->Nd->Nd
 | .tt,b=>b
 | a,.tt=>a
 | a,b=>.and a b
def vU:E->Nd->Nd
 | _,.tt=>.tt
 | .tt,a=>a
 | c,a=>.imp c a
section
variable (C:Ctx) (ms:Nat->Nat)
def uJ (x:E) (J:Env):(VH x).holds C ms J=(aY J x=true):=by
 unfold VH;split
 .simp [Nd.holds,bO]
 .rfl
def dv (a b:Nd) (J:Env):(oQ a b).holds C ms J=(a.holds C ms J/\b.holds C ms J):=by unfold oQ;split<;>simp [Nd.holds]
def iJ (c:E) (a:Nd) (J:Env):(vU c a).holds C ms J=(aY J c=true->a.holds C ms J):=by unfold vU;split<;>simp [Nd.holds,bO]
end
section
variable {P:Program} {w:World}
def Fu (g o:Nat) (t:TypeId) (fr:Nat×Nat):∀ (vs:List Value) (i:Nat) (cur:Array Value) (w:World),w.heap[g]?=some (.cells cur t fr)->o+i+vs.length<=cur.size->(fr.2<=o+i\/o+i+vs.length<=fr.1)->(∀ v∈vs,v.oneCell'=true) ->
 (storeCells ⟨g,o,none⟩ vs i).run P w=.ok () (w.setRow g (cur.toList.take (o+i)++vs++cur.toList.drop (o+i+vs.length)).toArray)
 | [],i,cur,w,hg,_,_,_=>by
  simp only[storeCells,abl,aa9,aa3,List.take_append_drop,acV];rw[setRow_self w g cur t fr hg];rfl
 | v::rest,i,cur,w,hg,hl,hf,h1=>by
  have hi:o+i<cur.size:=by simp at hl;omega
  have hadd:(⟨g,o,none⟩:Addr).add i=⟨g,o+i,none⟩:=by unfold Addr.add;split<;>simp_all
  have hcell:w.cell? ⟨g,o+i,none⟩=some cur[o+i]:=by simp [World.cell?,hg,hi]
  have hfro:w.frozen? ⟨g,o+i,none⟩=false:=by
   obtain⟨lo,hi'⟩:=fr;simp only[World.frozen?,hg,aaL]at hf ⊢;simp only[Bool.and_eq_false_iff,aa6];omega
  have hst:(store ((⟨g,o,none⟩:Addr).add i) v).run P w=.ok () (w.setRow g (cur.setIfInBounds (o+i) v)):=by
   rw[hadd,run_store P w _ v _ (h1 v aC),hcell];simp [hfro,setCell_eq_setRow w g (o+i) cur t fr v hg]
  have ih:=Fu g o t fr rest (i+1) (cur.setIfInBounds (o+i) v) (w.setRow g (cur.setIfInBounds (o+i) v)) (setRow_heap w g cur _ t _ hg) (by simp at hl ⊢;omega) (by simp only[aaL]at hf;omega) (fun x hx=>h1 x (by simp [hx]));simp only[storeCells,Sem.run_bind,hst,Result.andThen_ok,ih,setRow_setRow]
  congr 3
  have e:=list_seg_step cur.toList (o+i) v rest (by simp at hl ⊢;omega);simpa [ac2,abL] using e
def Qu (hs:h.sub w) {x:Nat} {c:Array Value} {fr:Nat×Nat} (hx:h x=some (.cells c T fr)):(h.put x y vs).sub (w.setRow x (bz c.toList y vs).toArray):=by
 intro b o hb;unfold Hl.put at hb;split at hb
 .rename_i e;subst e;rw[hx]at hb;cases hb;exact setRow_heap w b c _ T fr (hs _ _ hx)
 .rename_i e;rw[setRow_other w x b _ e];exact hs b o hb
def jX {x n:Nat} (hw:h.wr x y n=true):∃ c T fr,h x=some (.cells c T fr)/\y+n<=c.size/\(fr.2<=y\/y+n<=fr.1):=by
 unfold Hl.wr at hw;split at hw
 .rename_i c T fr hx;simp only[aaj,abA,aaf]at hw;exact⟨c,T,fr,hx,hw.1,hw.2⟩
 .cases hw
def OP (hs:h.sub w) {x:Nat} (hsz:dw P t=some vs.length) (hv:v.cells.toList=vs) (h1:∀ u∈vs,u.oneCell'=true) (hw:h.wr x y vs.length=true) :
 ∃ cs,(storeVar t ⟨x,y,none⟩ v).run P w=.ok () (w.setRow x cs)/\(h.put x y vs).sub (w.setRow x cs):=by
 obtain⟨c,T,fr,hx,hle,hfr⟩:=jX hw;refine⟨(bz c.toList y vs).toArray,?_,Qu hs hx⟩;unfold storeVar;have hsize:v.cells.size=vs.length:=by rw[<-abG,hv]
 simp only[Sem.run_bind,c9 hsz,Result.andThen_ok,hsize,ne_eq,ab4,abP];rw[hv];have:=Fu (P:=P) x y T fr vs 0 c w (hs _ _ hx) ah ah h1;simp only[aa3]at this;rw[this];simp [bz]
def EM (hs:H.sub w) {n:Nat} (h:aK H e size v n xs):w.ownsRow 0 e size v n xs:=by
 refine⟨h.1,?_⟩;rcases h.2 with h | ⟨g,cap,cur,rfl,hg,r1,r2,r3,r4⟩
 .exact Or.inl h
 .exact Or.inr ⟨g,cap,cur,rfl,abn _,hs _ _ hg,r1,r2,r3,r4⟩
def LX (w:World) (u:Value) (m:Nat) (news:List Value):Prop :=
 (∃ a c,u=.slice (some a) m c/\∀ j x,news[j]?=some x->w.cell? (a.add j)=some x)\/((∃ c,u=.slice none 0 c)/\m=0/\news=[])
def Du (base:Nat) (t ty e:TypeId) (i:TypeInfo) (size:Nat) (ht:P.underlying t=some (.slice e)) (hi:P.info? e=some i)
 (v:Value) (n:Nat) (xs:List Value) (hown:w.ownsRow base e size v n xs) (c:Nat) :
 (Builtin.append_ #[t,t] ty #[v,.slice none 0 c]).run P w=.ok v w:=by
 rcases hown.2 with ⟨rfl,rfl⟩ | ⟨g,cap,cur,rfl,_,_,hnc,_⟩
 .simp [Builtin.append_,run_underlying ht,sizeOf,typeInfo,hi,Builtin.lenOf,Builtin.firstCells]
 .simp [Builtin.append_,run_underlying ht,sizeOf,typeInfo,hi,Builtin.lenOf,Builtin.firstCells,hnc,storeCells]
def FP (hs:H.sub w) {i:TypeInfo} (ht:P.underlying t=some (.slice e)) (hi:P.info? e=some i) (hz:i.zero=some z)
 (hsize:i.size=size) (hby:i.bytes=bytes) (hzs:z.cells.size=size) (hsz:0<size) {v:Value} {n:Nat} {xs:List Value} (ho:aK H e size v n xs)
 {u:Value} {m:Nat} {news:List Value} (hl:news.length=m*size) (hu:LX w u m news) (h1:∀ x∈news,x.oneCell'=true) (h63:n+m<=maxLen) (hbytes:(n+m)*bytes<=140737488355328) :
 ∃ v' w' H',(Builtin.append_ #[t,t] ty #[v,u]).run P w=.ok v' w'/\aK H' e size v' (n+m) (xs++news)/\H'.sub w'/\w.grownBy w' v.ownBlock /\
  (∀ b,H.mem b->some b≠v.ownBlock->H' b=H b)/\(∀ b,H'.mem b->H.mem b\/(v'.ownBlock=some b/\w.heap.size<=b))/\(v'.ownBlock=v.ownBlock\/∃ b,v'.ownBlock=some b/\w.heap.size<=b)/\aK H' e size v n xs:=by
 subst hsize;subst hby;have hsmall:n+m<=9223372036854775807:=by simp only[maxLen]at h63;omega
 rcases hu with ⟨a,c,rfl,hnews⟩ | ⟨⟨c,rfl⟩,rfl,rfl⟩
 rotate_left
 .refine⟨v,w,H,Du 0 t ty e i i.size ht hi v n xs (EM hs ho) c,by simpa using ho,hs,⟨rfl,rfl,rfl,aaz _,fun _ _ _=>rfl⟩,fun _ _ _=>rfl,fun b hb=>Or.inl hb,Or.inl rfl,ho⟩
 have hlen:(xs++news).length=(n+m)*i.size:=by rw[aac,ho.1,hl,abS]
 have grown:∀ (old:Nat),old<n+m->v.ownBlock=none\/(∃ g,v.ownBlock=some g/\g<w.heap.size) ->
  ∃ H',aK H' e i.size (.slice (some ⟨w.heap.size,0,none⟩) (n+m) (grownCap w (n+m) old e)) (n+m) (xs++news) /\
   H'.sub (w.drew.alloc (.cells (xs.toArray++news.toArray++Builtin.zeroCells z.cells (grownCap w (n+m) old e-(n+m))) e)) /\
   w.grownBy (w.drew.alloc (.cells (xs.toArray++news.toArray++Builtin.zeroCells z.cells (grownCap w (n+m) old e-(n+m))) e)) v.ownBlock /\
   (∀ b,H.mem b->some b≠v.ownBlock->H' b=H b)/\(∀ b,H'.mem b->H.mem b\/(some w.heap.size=some b/\w.heap.size<=b))/\aK H' e i.size v n xs:=by
  intro old hold hv;have hge:=grownCap_ge w (n+m) old e;have hcm:grownCap w (n+m) old e<=maxLen:=grownCap_le_maxLen w (n+m) old e h63
  let ob:Obj:=.cells (xs.toArray++news.toArray++Builtin.zeroCells z.cells (grownCap w (n+m) old e-(n+m))) e
  refine⟨fun b=>if b=w.heap.size then some ob else H b,⟨hlen,Or.inr ⟨w.heap.size,_,_,rfl,aay rfl,hge,hcm,?_,?_⟩⟩,?_,⟨rfl,rfl,rfl,aC,fun k hk _=>heap_alloc_old w.drew _ hk⟩,?_,?_,ho.1,ho.2.imp id fun⟨g,cap,cur,hv,hg,r⟩=>⟨g,cap,cur,hv,?_,r⟩⟩
  .simp only[Array.size_append,ab6,size_zeroCells,hzs,ho.1,hl,<-abS]
   congr 1
   omega
  .simp only[adr,aaF];rw[<-aaF,<-hlen];exact acI
  .intro b o hb;simp only at hb;split at hb
   .rename_i e1;subst e1;cases hb;exact heap_alloc_new w.drew _
   .have:=hs b o hb;rw[heap_alloc_old w.drew _ (aaG.1 this).1];exact this
  .intro b hb _;have:=Hl.sub_lt hs hb;exact aal ah
  .intro b hb;by_cases e1:b=w.heap.size
   .exact Or.inr ⟨by rw[e1],ah⟩
   .left;unfold Hl.mem at hb ⊢;simpa [e1] using hb
  .have:=Hl.sub_lt hs (b:=g) (by unfold Hl.mem;rw[hg];rfl);exact(aal ah).trans hg
 rcases ho.2 with ⟨rfl,rfl⟩ | ⟨g,cap,cur,rfl,hg,hnc,hcm,hcs,htake⟩
 .have hx:xs=[]:=abT (by simpa using ho.1);subst hx;by_cases hm:m=0
  .subst hm;have hn:news=[]:=abT (by simpa using hl);subst hn;refine⟨.slice none 0 0,w,H,?_,ho,hs,⟨rfl,rfl,rfl,aaz _,fun _ _ _=>rfl⟩,fun _ _ _=>rfl,fun b hb=>Or.inl hb,Or.inl rfl,ho⟩;simp [Builtin.append_,run_underlying ht,sizeOf,typeInfo,hi,Builtin.lenOf,Builtin.firstCells,loadCells,loadCellsFrom]
  .have hr:=run_append_nil (P:=P) w t ty e i z ht hi hz a m c news hl hnews ah ah (by have hb:=hbytes;simp only[aaM]at hb;omega);obtain⟨H',g1,g2,g3,g4,g5,g6⟩:=grown 0 ah (Or.inl rfl);simp only[aaM,abE,Array.empty_append]at hr g1 g2 g3 g4 g5 ⊢;exact⟨_,_,H',hr,g1,g2,g3,g4,g5,Or.inr ⟨_,rfl,aaz _⟩,g6⟩
 .by_cases hroom:n+m<=cap
  .have hfit:n*i.size+news.length<=cur.size:=by rw[hl,hcs,<-abS];exact acq _ hroom
   have hr:=run_append_room (P:=P) w t ty e i ht hi g n cap cur (hs _ _ hg) a m c news hl hnews h1 hroom hfit;refine⟨_,_,fun b=>if b=g then some (.cells (cur.toList.take (n*i.size)++news++cur.toList.drop (n*i.size+news.length)).toArray e (0,0))else H b,hr,
    ⟨hlen,Or.inr ⟨g,cap,_,rfl,aay rfl,hroom,hcm,?_,?_⟩⟩,?_,⟨rfl,rfl,rfl,aC,fun k _ hk=>setRow_other w g k _ (fun e=>hk (by simp [Value.ownBlock,e]))⟩,?_,?_,Or.inl rfl,ho.1,Or.inr ⟨g,cap,_,rfl,aay rfl,hnc,hcm,?_,?_⟩⟩
   .simp only[ab6,aac,aaA,aaV,abG];omega
   .rw[htake,<-hlen];exact acI
   .intro b o hb;simp only at hb;split at hb
    .rename_i e1;subst e1;cases hb;exact setRow_heap w b cur _ e _ (hs _ _ hg)
    .rename_i e1;rw[setRow_other w g b _ e1];exact hs b o hb
   .intro b hb hne;exact aal (fun e1=>hne (by simp [Value.ownBlock,e1]))
   .intro b hb;left;by_cases e1:b=g
    .subst e1;unfold Hl.mem;rw[hg];rfl
    .unfold Hl.mem at hb ⊢;simpa [e1] using hb
   .simp only[ab6,aac,aaA,aaV,abG];omega
   .rw[htake,aaF,<-ho.1];exact acI
  .have holds:∀ j u,xs[j]?=some u->w.cell? ((⟨g,0,none⟩:Addr).add j)=some u:=(EM hs ho).cells (g:=g) rfl;have hr:=run_append_grow (P:=P) w t ty e i z ht hi hz ⟨g,0,none⟩ n cap xs ho.1 holds a m c news hl hnews ah ah (growslice_fits ah hbytes);obtain⟨H',g1,g2,g3,g4,g5,g6⟩:=grown cap ah (Or.inr ⟨g,rfl,(aaG.1 (hs _ _ hg)).1⟩);exact⟨_,_,H',hr,g1,g2,g3,g4,g5,Or.inr ⟨_,rfl,aaz _⟩,g6⟩
def Dt {i:TypeInfo} (ht:P.underlying t=some (.slice e)) (hi:P.info? e=some i) (hz:i.zero=some z)
 (hsize:i.size=size) (hby:i.bytes=bytes) (hzs:z.cells.size=size) {b:Addr} {n cap:Nat} {olds:List Value} (hlo:olds.length=n*size) (holds:∀ j x,olds[j]?=some x->w.cell? (b.add j)=some x)
 {u:Value} {m:Nat} {news:List Value} (hl:news.length=m*size) (hu:LX w u m news) (hg:cap<n+m) (hnc:n<=cap) (h63:n+m<=maxLen) (hbytes:(n+m)*bytes<=140737488355328) :
 ∃ cp ob,(Builtin.append_ #[t,t] ty #[.slice (some b) n cap,u]).run P w=.ok (.slice (some ⟨w.heap.size,0,none⟩) (n+m) cp) (w.drew.alloc ob) /\
  aK (Hl.one w.heap.size ob) e size (.slice (some ⟨w.heap.size,0,none⟩) (n+m) cp) (n+m) (olds++news):=by
 subst hsize;subst hby;have hsmall:n+m<=9223372036854775807:=by simp only[maxLen]at h63;omega
 rcases hu with ⟨a,c,rfl,hnews⟩ | ⟨⟨c,rfl⟩,rfl,rfl⟩
 rotate_left
 .omega
 have hr:=run_append_grow (P:=P) w t ty e i z ht hi hz b n cap olds hlo holds a m c news hl hnews hg ah (growslice_fits ah hbytes);have hge:=grownCap_ge w (n+m) cap e;have hcm:grownCap w (n+m) cap e<=maxLen:=grownCap_le_maxLen w (n+m) cap e h63;have hlen:(olds++news).length=(n+m)*i.size:=by rw[aac,hlo,hl,abS]
 refine⟨_,_,hr,hlen,Or.inr ⟨w.heap.size,_,_,rfl,Hl.aN _ _,hge,hcm,?_,?_⟩⟩
 .simp only[Array.size_append,ab6,size_zeroCells,hzs,hlo,hl,<-abS]
  congr 1
  omega
 .simp only[adr,aaF];rw[<-aaF,<-hlen];exact acI
end
end Go.Sx
