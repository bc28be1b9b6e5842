/- RelayPlays. -/
import Derived.Laws.MakeOwn
import Derived.Laws.OwnMore
import Derived.Test.YtomdimlnggpgbaaGreatDoorTA
set_option linter.all false
namespace Go.Sx
open Go
variable {ats:Array TypeId}{op:BinOp}{i:Int}{l:List CV}{is:List Nat}{vs xs:List Value}{b bytes cap d f k m o size y:Nat}{hi lo mx:Option TV}{x:TV}{T e el s t ty:TypeId}{v z:Value}
section
variable {P:Program} {S:Nat->Prop} {w0:World} {J:Env} {st:St} {mem:Mem} {a:Act} {w:World} {n:E} {v:TV}
def gU {v:SV} (h:gE P t l o=some v):(part t (l.map (CV.ev J)).toArray o).run P w=.ok (v.ev J) w:=by
 unfold gE at h;unfold part;split at h
 .rename_i n ha hs;split at h
  .rename_i hle;cases h;simp only[Sem.run_bind,te ha,Result.andThen_ok,abL,dv hs,Sem.run_pure,SV.ev]
   congr 2
   simp [acC,acV,List.extract_eq_take_drop]
  .cases h
 .rename_i ha;simp only[aam]at h;obtain⟨x,hx,rfl⟩:=h;simp only[Sem.run_bind,te ha,Result.andThen_ok,aba,abK];have:(l.map (CV.ev J)).toArray[o]?=some (x.ev J):=by simp [hx]
  simp only[this];rfl
 .cases h
def MD {op:UnOp} (h:ZW op x=some (n,v)):(Op.unary op (x.ev J)).run P w=.ok (v.ev J) w:=by
 unfold ZW at h;split at h
 .cases h;simp only[TV.ev,SV.ev,CV.ev,df,Op.unary,Sem.run_pure]
 .cases h;simp only[TV.ev,SV.ev,CV.ev,om,nz,aq,Op.unary,Op.intArith,Sem.run_pure]
 .cases h;simp only[TV.ev,SV.ev,CV.ev,tG,aq,Op.unary,Op.intBits,Sem.run_pure,ct]
 .cases h
def Cz (x:Int) (l:List Int):bytesOf (x::l)=bytesOf [x]++bytesOf l:=by
 have key:∀ (l:List Int) (r:ByteArray),l.foldl (fun r n=>r.push (UInt8.ofNat n.toNat)) r=r++bytesOf l:=by
  intro l
  induction l with
  | nil=>intro r;simp [bytesOf]
  | cons y l ih =>
   intro r;simp only[acD];rw[ih];have e:bytesOf (y::l)=ByteArray.empty.push (UInt8.ofNat y.toNat)++bytesOf l:=by
    show List.foldl _ _ _=_;rw[acD,ih]
   rw[e,<-ByteArray.append_assoc]
   congr 1
   apply ByteArray.ext;simp [ByteArray.data_append,ByteArray.data_push]
 simp only[bytesOf,acD,List.foldl_nil];exact key l _
def wX:∀ (l:List CV) (s:E),strOf l=some s->∃ ns:List Int,l.map (CV.ev J)=ns.map (Value.int .u8)/\kl J s=bytesOf ns
 | [],s,h=>by cases h;exact⟨[],rfl,rfl⟩
 | c::l,s,h=>by
  unfold strOf at h;split at h
  .cases ‹c::l=[]›
  .rename_i e l' heq;cases heq;simp only[aam]at h;obtain⟨r,hr,rfl⟩:=h;obtain⟨ns,h1,h2⟩:=wX _ r hr;refine⟨aB J e::ns,by simp [h1,CV.ev],?_⟩;rw[BX,Ms,h2,Cz (aB J e) ns]
  .cases h
def AQ {h:Hl} {x n:Nat} (hb:bG h x y n=true):∀ j,j<n->h.cell x (y+j)=some (.int .u8 (bS (h.cell x (y+j)))):=by
 intro j hj;unfold bG at hb;rw[aaF]at hb;have:=hb j (aaO.2 hj);cases hc:h.cell x (y+j)with
 | none=>simp [hc,bp]at this
 | some v =>
  rw[hc]at this;cases v<;>simp [bp]at this
  rename_i k m;subst this;rfl
def JD (h:Lm P el=true):P.underlying el=some (.int .u8):=by
 unfold Lm at h;split at h
 .assumption
 .cases h
def En (hm:MRel S w0 J mem w) {d:TypeId} (h:Ng P mem s d x=some (n,v)) (hn:ba J n=true):(convert s d (x.ev J)).run P w=.ok (v.ev J) w:=by
 unfold Ng at h;split at h
 .rename_i k k' e hs hd;cases h;simp only[TV.ev,SV.ev,CV.ev,om];unfold convert;simp only[Sem.run_bind,run_underlying hs,run_underlying hd,Result.andThen_ok,Conv.intToInt];rfl
 .rename_i e hs hd;cases h;simp only[TV.ev,SV.ev,CV.ev];unfold convert;simp only[Sem.run_bind,run_underlying hs,run_underlying hd,Result.andThen_ok];rfl
 .rename_i el x y l c hs hd;split at h
  .rename_i hu;have he:=JD hu;split at h
   .rename_i hx;subst hx;cases h;simp only[TV.ev,SV.ev,CV.ev,aq,fb,fX];rw[run_convert_bytes_string w s d el _ _ _ hs he hd];rfl
   .split at h
    .rename_i a p cs T o m hk0;obtain⟨rfl,rfl,hk⟩:=gT hk0;split at h
     .rename_i hle;simp only[aam,aaZ]at h;obtain⟨r,hr,rfl,rfl⟩:=h;obtain⟨ns,h1,h2⟩:=wX (J:=J) _ _ hr;have hpos:0<=J.i a:=hm.pos _ (aae hk);simp only[TV.ev,SV.ev,CV.ev,aq,ak,au hpos,aaa];rw[run_convert_bytes_string w s d el _ _ _ hs he hd,run_bytesToString w _ _ _ ns,h2]
      .rfl
      .have hb:=hm.bd hk;have:=run_loadCells_list (P:=P) w ⟨(J.i a).toNat,o,none⟩ (ns.map (Value.int .u8)) (fun j u hu=>by
        rw[<-h1]at hu;rw[fi];simp only[World.cell?,hb];simp only[abl,Option.isSome_none,aba,abK];rw[aao,aaX]at hu;split at hu
        .rw[aaV]at hu;rw[aao];exact hu
        .simp at hu)
       have hl:(ns.map (Value.int .u8)).length=m.toNat:=by rw[<-h1];simp;omega
       rw[hl]at this;exact this
     .cases h
    .split at h
     .rename_i l _ _ _ _ k hk;have hsub:=yN hm hk;cases h;simp only[TV.ev,SV.ev,CV.ev];rw[run_convert_bytes_string w s d el _ _ _ hs he hd];rw[th,abE,fR,aq,aaf]at hn;have hsev:∀ a b:E,kl J (mkIte (mkEq x (.lit (-1))) a b)=if aB J x= -1 then kl J a else kl J b:=by
       intro a b;have hq:=fR J x (.lit (-1));rw[aq]at hq;unfold mkIte;split
       .rename_i e;rw[e,cJ]at hq;rw[aav (by simpa using hq.symm)]
       .rename_i e;rw[e,de]at hq;rw[aan (by simpa using hq.symm)]
       .split
        .rename_i e;subst e;simp
        .rw[iy,hq];simp
      rw[hsev];by_cases hx:aB J x= -1
      .rw[aav hx,hx,fb];rfl
      .rw[aan hx];have hn:=hn.resolve_left hx;rw[th,abE,fR,aq,aaf]at hn;by_cases hl0:aB J l=0
       .rw[hl0,gZ,hl0];cases hp:az (aB J x) (aB J y)with
        | none =>
         have h1:=iA (aB J x) (aB J y);rw[hp]at h1;exact absurd (by simpa using h1) hx
        | some a0 =>
         rw[run_bytesToString w a0 _ _ []]
         .rfl
         .exact run_loadCells_list (P:=P) w a0 [] (fun j u hu=>by cases hu)
       have hn:=hn.resolve_left hl0;rw[aP,aah,aP,aah,aX,aX,aq,aaf,aaf,Ct]at hn;obtain⟨hx0,hy0,hby⟩:=hn;rw[au hx0,gZ];rw[run_bytesToString w _ _ _ (fG (J.h k) (aB J x).toNat (aB J y).toNat (aB J l).toNat)]
       .rfl
       .have:=run_loadCells_list (P:=P) w ⟨(aB J x).toNat,(aB J y).toNat,none⟩ ((fG (J.h k) (aB J x).toNat (aB J y).toNat (aB J l).toNat).map (Value.int .u8)) (fun j u hu=>by
         rw[fi];unfold fG at hu;rw[abg,aao]at hu;by_cases hj:j<(aB J l).toNat
         .rw[aaE hj]at hu;simp only[aaP,aai,Function.comp]at hu;rw[<-hu];exact Hl.gQ hsub (AQ hby j hj)
         .rw[aaq (by simp;omega)]at hu;cases hu)
        have hl:((fG (J.h k) (aB J x).toNat (aB J y).toNat (aB J l).toNat).map (Value.int .u8)).length=(aB J l).toNat:=by simp [fG]
        rw[hl]at this;exact this
     .cases h
  .cases h
 .cases h
def yO (fl:Field) (hs:fp P fl.type=some (m+1)):(fieldPlace ⟨b,o,none⟩ fl).run P w=.ok ⟨b,o+fl.offset,none⟩ w:=by
 unfold fieldPlace;simp only[Sem.run_bind,dv hs,Result.andThen_ok,Nat.add_eq_zero_iff,acX,and_false,abK,Sem.run_pure,fi]
def qX {x y:Int} (hx:0<=x) (hy:0<=y) (n:Nat):az x (y+n)=some ⟨x.toNat,y.toNat+n,none⟩:=by
 rw[au hx];congr 2;omega
def yM (hm:MRel S w0 J mem w) {a:Nat} (h:(tD mem a).isSome=true):0<=J.i a:=by
 obtain⟨⟨p,l,T⟩,hp⟩:=aa5.1 h;exact hm.pos _ (aae (gh hp))
def oI {s:Nat} (h:0<=i):((o:Int)+(s:Int)*i)=((o+s*i.toNat:Nat):Int):=by
 obtain⟨q,hq⟩:=abB h;rw[hq,aaa];simp
def uQ (hm:MRel S w0 J mem w) (h:sh P mem s f x=some (n,v)) (hn:ba J n=true):(Instr.fieldAt s (x.ev J) f).run P w=.ok (v.ev J) w:=by
 unfold sh at h;split at h
 .rename_i fs hu;split at h
  .rename_i fl hf;split at h
   .rename_i m hs;have key:∀ b o,(Instr.fieldAt s (.pointer (some ⟨b,o,none⟩)) f).run P w=.ok (.pointer (some ⟨b,o+fl.offset,none⟩)) w:=fun b o=>by
     unfold Instr.fieldAt;simp only[Sem.run_bind,run_underlying hu,Result.andThen_ok,hf,Instr.sureAddr,Sem.run_pure,yO fl hs]
    split at h
    .rename_i x y;cases h;rw[aP,aah,aX,aq,aaf]at hn;have hx:=hm.Fb hn.1;simp only[TV.ev,SV.ev,CV.ev,fh,aq];rw[au hx,key,qX hx hn.2]
    .rename_i a o s' n' i;split at h
     .rename_i ha;cases h;obtain⟨h0,h1⟩:=iH hn;have hx:=yM hm ha;simp only[TV.ev,SV.ev,CV.ev];rw[au hx,key,oI h0,oI h0,aaa,au hx,aaa]
      congr 4
      omega
     .cases h
    .cases h
   .cases h
  .cases h
 .cases h
def mm {len:Nat} {k:IntKind} (hu:P.underlying t=some (.array len el)) (hs:fp P el=some m) (h0:0<=i) (h1:i<len) :
 (Instr.indexAt t (.pointer (some ⟨b,o,none⟩)) (.int k i)).run P w=.ok (.pointer (some ⟨b,o+i.toNat*m,none⟩)) w:=by
 unfold Instr.indexAt;simp only[asIntOf,Sem.run_bind,Sem.run_pure,Result.andThen_ok,run_underlying hu,Instr.sureAddr,h0,h1,and_self,abL,dv hs,fi]
def mN {len c:Nat} {k:IntKind} (hu:P.underlying t=some (.slice el)) (hs:fp P el=some m) (h0:0<=i) (h1:i<len) :
 (Instr.indexAt t (.slice (some ⟨b,o,none⟩) len c) (.int k i)).run P w=.ok (.pointer (some ⟨b,o+i.toNat*m,none⟩)) w:=by
 unfold Instr.indexAt;simp only[asIntOf,Sem.run_bind,Sem.run_pure,Result.andThen_ok,run_underlying hu,h0,h1,and_self,abL,dv hs,fi]
def qM (h:0<=i) (m:Nat):i*(m:Int)=((i.toNat*m:Nat):Int):=by
 obtain⟨q,hq⟩:=abB h;rw[hq,aaa];simp
def uT (hm:MRel S w0 J mem w) {i:TV} (h:sm P mem t x i=some (n,v)) (hn:ba J n=true):(Instr.indexAt t (x.ev J) (i.ev J)).run P w=.ok (v.ev J) w:=by
 unfold sm at h;split at h
 .rename_i k e;split at h
  .rename_i len el hu;split at h
   .rename_i m a o s q kk hs;split at h
    .rename_i j;split at h
     .rename_i hj;cases h;obtain⟨h0,h1⟩:=iH hn;have hx:=yM hm hj.2.2;simp only[TV.ev,SV.ev,CV.ev,aq];rw[au hx,mm hu hs hj.1 hj.2.1,oI h0,oI h0,aaa,au hx,aaa]
      congr 4
      omega
     .cases h
    .cases h
   .rename_i m x y hs;split at h
    .rename_i j _;split at h
     .rename_i hj;cases h;rw[aP,aah,aX,aq,aaf]at hn;have hx:=hm.Fb hn.1;simp only[TV.ev,SV.ev,CV.ev,aq,fh];rw[au hx,mm hu hs hj.1 hj.2,<-Int.natCast_mul,qX hx hn.2]
     .cases h
    .rename_i e a p l T o _ hk0;obtain⟨rfl,rfl,hk⟩:=gT hk0;cases h;obtain⟨h0,h1⟩:=iH hn;have hx:0<=J.i a:=hm.pos _ (aae hk);simp only[TV.ev,SV.ev,CV.ev,ak,aq];rw[au hx,aaa,mm hu hs h0 h1,oI h0,au hx,aaa,aci]
    .rename_i e _ _;cases h;rw[aP,aah,aP,aah,aX,aq,aaf]at hn;obtain⟨hx,hy,hb⟩:=hn;have hx:=hm.Fb hx;obtain⟨h0,h1⟩:=iH hb;simp only[TV.ev,SV.ev,CV.ev,fh,ny,aq];rw[au hx,mm hu hs h0 h1,qM h0,qX hx hy]
   .cases h
  .rename_i el hu;split at h
   .rename_i m x y l c hs;split at h
    .rename_i j _ _;cases h;rw[aP,aah,aP,aah,aP,aah,aX,aX,iX,aaf,aaf,aaf,aq,aq]at hn;obtain⟨hx,hy,h0,h1⟩:=hn;have hx:=hm.Fb hx;simp only[TV.ev,SV.ev,CV.ev,fh,ny,aq];rw[au hx,mN hu hs h0 ah,qM h0,qX hx hy]
    .rename_i a p l' T o q _ hk0;obtain⟨rfl,rfl,hk⟩:=gT hk0;cases h;rw[aP,aah]at hn;obtain⟨h0,h1⟩:=iH hn.1;have hx:0<=J.i a:=hm.pos _ (aae hk);simp only[TV.ev,SV.ev,CV.ev,ak,aq];rw[au hx,aaa,mN hu hs h0 ah,oI h0,au hx,aaa,aci]
    .cases h;rw[aP,aah,aP,aah,aP,aah,aX,aX,iX,aaf,aaf,aaf,aq]at hn;obtain⟨hx,hy,h0,h1⟩:=hn;have hx:=hm.Fb hx;simp only[TV.ev,SV.ev,CV.ev,fh,ny,aq];rw[au hx,mN hu hs h0 ah,qM h0,qX hx hy]
   .cases h
  .cases h
 .cases h
def CI (h:He P t f x=some (n,v)):(Instr.field t (x.ev J) f).run P w=.ok (v.ev J) w:=by
 unfold He at h;split at h
 .rename_i fs l hu;split at h
  .rename_i fl hf;simp only[aam,aaZ]at h;obtain⟨u,hu',_,rfl⟩:=h;unfold Instr.field;simp only[Sem.run_bind,run_underlying hu,Result.andThen_ok,hf,TV.ev,SV.ev,asAgg,Sem.run_pure];exact gU hu'
  .cases h
 .cases h
def Bl {len:Nat} {k:IntKind} {u:SV} (hu:P.underlying t=some (.array len el)) (hs:fp P el=some m) (h0:0<=i) (h1:i<len)
 (hl:gE P el l (i.toNat*m)=some u):(Instr.index t (.agg (l.map (CV.ev J)).toArray) (.int k i)).run P w=.ok (u.ev J) w:=by
 unfold Instr.index;simp only[asIntOf,Sem.run_bind,Sem.run_pure,Result.andThen_ok,run_underlying hu,h0,h1,and_self,abL,dv hs];exact gU hl
def CT {i:TV} (h:Hr P t x i=some (n,v)) (hn:ba J n=true):(Instr.index t (x.ev J) (i.ev J)).run P w=.ok (v.ev J) w:=by
 unfold Hr at h;split at h
 .rename_i len el l k e hu;split at h
  .rename_i m hs;split at h
   .rename_i j;split at h
    .rename_i hj;simp only[aam,aaZ]at h;obtain⟨u,hu',_,rfl⟩:=h;simp only[TV.ev,SV.ev,CV.ev,aq];exact Bl hu hs hj.1 hj.2 hu'
    .cases h
   .split at h
    .rename_i vs hvs;simp only[aam,aaZ]at h;obtain⟨u,hu',rfl,rfl⟩:=h;obtain⟨h0,h1⟩:=iH hn;obtain⟨hlen,hget⟩:=me hvs;simp only[aaz,abJ]at hlen;obtain⟨z,hz,hzv⟩:=Ap vs 0 u hu' ah ah;have hz':=hget _ _ hz;rw[adl,aao,aaE ah]at hz';simp only[aaP,aai]at hz';simp only[TV.ev,hzv];exact Bl hu hs h0 h1 hz'
    .cases h
  .cases h
 .rename_i s k e hu;cases h;rw[aP,aah,aX,iX,aaf,aaf,aq,kQ]at hn;obtain⟨h0,h1⟩:=hn;unfold Instr.index;simp only[TV.ev,SV.ev,CV.ev,asIntOf,Sem.run_bind,Sem.run_pure,Result.andThen_ok,run_underlying hu,h0,abL];have hlt:(aB J e).toNat<(kl J s).size:=ah;have e1:(kl J s)[(aB J e).toNat]?=some ((kl J s)[(aB J e).toNat]'hlt):=getElem?_pos (kl J s) (aB J e).toNat hlt;have e2:(kl J s).data[(aB J e).toNat]?.getD 0=(kl J s)[(aB J e).toNat]'hlt:=by
   rw[getElem?_pos (kl J s).data (aB J e).toNat hlt];rfl
  simp only[e1,Li,e2];rfl
 .cases h
def yL {i:Nat} (h:yK i x=some (n,v)):(Instr.extract (x.ev J) i).run P w=.ok (v.ev J) w:=by
 unfold yK at h;split at h
 .simp only[aam,aaZ]at h;obtain⟨u,hu,_,rfl⟩:=h;unfold Instr.extract;simp only[TV.ev];have:((List.map (SV.ev J) ‹_›).toArray)[i]?=some (u.ev J):=by simp [hu]
  simp only[this];rfl
 .cases h
def Hz (hm:MRel S w0 J mem w) (ht:ats[0]?=some t) (h:TW P mem t x=some (n,v)) (hn:ba J n=true):(Builtin.len_ ats ty #[x.ev J]).run P w=.ok (v.ev J) w:=by
 unfold TW at h;unfold Builtin.len_;have h0:(#[x.ev J]:Array Value)[0]?=some (x.ev J):=rfl;simp only[ht,h0];split at h
 .rename_i m _ hu;cases h;simp only[Sem.run_bind,run_underlying hu,Result.andThen_ok];rfl
 .rename_i el _ _ l _ hu;cases h;rw[aX,aaf,aq]at hn;simp only[Sem.run_bind,run_underlying hu,Result.andThen_ok,TV.ev,SV.ev,CV.ev,Sem.run_pure,goInt,acx hn]
 .rename_i e hu;cases h;simp only[Sem.run_bind,run_underlying hu,Result.andThen_ok,TV.ev,SV.ev,CV.ev,Sem.run_pure,goInt,kQ]
 .rename_i k vt x hu;split at h
  .rename_i q hq;have hsub:=yN hm hq;cases h;rw[aP,aah,aP,aah,aX,aq,aaf,MX]at hn;obtain⟨hx,_,he⟩:=hn;have hne:¬aB J x= -1:=ah;obtain⟨es,c,he⟩:∃ es c,J.h q (aB J x).toNat=some (.map es c):=by
    revert he;generalize J.h q (aB J x).toNat=o;intro he;cases o with
    | none=>cases he
    | some o=>cases o<;>first | exact⟨_,_,rfl⟩ | cases he
   have hw:=hsub _ _ he;simp only[Sem.run_bind,run_underlying hu,Result.andThen_ok,TV.ev,SV.ev,CV.ev,aan hne,Sem.run_pure,goInt,fD,he,HH];simp [getObj,Sem.run,hw]
  .cases h
 .cases h
def HM {y z:TV} (h:T5 x y=some z):(Builtin.min2 (x.ev J) (y.ev J)).run P w=.ok (z.ev J) w:=by
 unfold T5 at h;split at h
 .cases h;simp only[TV.ev,SV.ev,CV.ev,Builtin.min2,iG,iX,aaf,Sem.run_pure]
 .cases h
def HJ {y z:TV} (h:T4 x y=some z):(Builtin.max2 (x.ev J) (y.ev J)).run P w=.ok (z.ev J) w:=by
 unfold T4 at h;split at h
 .cases h;simp only[TV.ev,SV.ev,CV.ev,Builtin.max2,iG,iX,aaf,Sem.run_pure,GT.gt]
 .cases h
def pM {f:TV->TV->Option TV} {F:Value->Value->Sem Value} (hf:∀ x y z,f x y=some z->(F (x.ev J) (y.ev J)).run P w=.ok (z.ev J) w) :
 ∀ (l:List TV) (x z:TV),EF f l x=some z->((l.map (TV.ev J)).foldlM F (x.ev J)).run P w=.ok (z.ev J) w
 | [],x,z,h=>by cases h;rfl
 | y::l,x,z,h=>by
  simp only[EF]at h;split at h
  .rename_i u hu;simp only[aaC,List.foldlM_cons,Sem.run_bind,hf x y u hu,Result.andThen_ok];exact pM hf l u z h
  .cases h
def iP (h:Rel S w0 J st a w):∀ (l:List Operand) (vs:List TV),tY st l=some vs->l.map a.eval=vs.map (TV.ev J)
 | [],vs,ho=>by cases ho;rfl
 | x::l,vs,ho=>by
  simp only[tY]at ho;split at ho
  .rename_i v1 v2 h1 h2;cases ho;simp only[aaC,aH h h1,iP h l _ h2]
  .cases ho
def yj (hm:MRel S w0 J mem w) {b:Builtin} {cs:Array Bool} {vs:List TV} (h:yi P mem b ats vs=some (n,v)) (hn:ba J n=true) :
 (builtin b ats ty cs (vs.map (TV.ev J)).toArray).run P w=.ok (.value (v.ev J)) w:=by
 unfold yi at h;split at h
 .split at h
  .rename_i t ht;have:=Hz hm (ty:=ty) ht h hn;unfold builtin;simp only[aaC,abn,Sem.run_bind,this,Result.andThen_ok,Sem.run_pure]
  .cases h
 .simp only[aam,aaZ]at h;obtain⟨u,hu,_,rfl⟩:=h;have:=pM (P:=P) (w:=w) (J:=J) (fun x y z=>HM) _ _ _ hu;unfold builtin;simp only[aaC,Sem.run_bind,Builtin.min_,this,Result.andThen_ok,Sem.run_pure]
 .simp only[aam,aaZ]at h;obtain⟨u,hu,_,rfl⟩:=h;have:=pM (P:=P) (w:=w) (J:=J) (fun x y z=>HJ) _ _ _ hu;unfold builtin;simp only[aaC,Sem.run_bind,Builtin.max_,this,Result.andThen_ok,Sem.run_pure]
 .cases h
def tF (off:Nat):∀ (vs:List Value) (k:Nat) (arr:Array Value),off+k+vs.length<=arr.size ->
 (vs.zipIdx k).foldl (fun cs (p:Value×Nat)=>cs.setIfInBounds (off+p.2) p.1) arr=(bE arr.toList (off+k) vs).toArray
 | [],k,arr,h=>by simp [bE]
 | x::vs,k,arr,h=>by
  simp only[aaN]at h;rw[List.zipIdx_cons,acD,tF off vs (k+1) _ (by simp;omega)]
  congr 1
  have:=list_seg_step arr.toList (off+k) x vs (by simp;omega);simpa [bE,ac3,abM] using this
def jL {place:Nat->Option (Nat×Nat)} : ∀ (ps:List (Nat×SV)) (l r:List CV),yP place l ps=some r ->
 Instr.fill place (l.map (CV.ev J)).toArray (ps.map fun p=>(p.1,p.2.ev J))=some (r.map (CV.ev J)).toArray
 | [],l,r,h=>by cases h;rfl
 | (i,v)::ps,l,r,h=>by
  simp only[yP]at h;split at h
  .cases h
  .rename_i off size hp;split at h
   .rename_i hc;obtain⟨h1,h2,h3⟩:=hc;have hcs:=SV.tq (J:=J) v h3;have hsz:(v.ev J).cells.size=v.cells.length:=by rw[<-abF,hcs];simp
    have hle:¬off+(v.ev J).cells.size>(l.map (CV.ev J)).toArray.size:=by rw[hsz];simp;omega
    simp only[aaC,Instr.fill,hp];rw[aan (by simp only[hsz,h1,ne_eq,ab5,decide_false,Bool.false_or,aaf];rw[<-h1,<-hsz];exact hle)];have e:(v.ev J).cells.zipIdx.foldl (fun cs (p:Value×Nat)=>cs.setIfInBounds (off+p.2) p.1) (l.map (CV.ev J)).toArray=((bE l off v.cells).map (CV.ev J)).toArray:=by
     rw[<-Array.foldl_toList,Array.toList_zipIdx,hcs];have:=tF off (v.cells.map (CV.ev J)) 0 (l.map (CV.ev J)).toArray (by simp;omega);rw[this];simp [bE,aaM,acC,acV]
    have ih:=jL ps _ _ h;rw[<-ih];exact aaD (fun z=>Instr.fill place z _) e
   .cases h
def IK:∀ (l:List TV) (m:List SV),Vh l=some m->l.map (TV.ev J)=m.map (SV.ev J)
 | [],m,h=>by cases h;rfl
 | .sv v::l,m,h=>by
  simp only[Vh,aam]at h;obtain⟨r,hr,rfl⟩:=h;simp only[aaC,IK l r hr];rfl
 | .tup _::l,m,h=>by simp [Vh]at h
def sG:∀ (fs:List Field) (ps:List (Nat×Nat)),gS (fs.map fun f=>(fp P f.type).map fun n=>(f.offset,n))=some ps ->
 (fs.mapM fun(f:Field)=>(do pure (f.offset,<-sizeOf f.type):Sem (Nat×Nat))).run P w=.ok ps w
 | [],ps,h=>by cases h;rfl
 | f::fs,ps,h=>by
  simp only[aaC]at h;cases hs:fp P f.type with
  | none=>simp [hs,gS]at h
  | some m =>
   simp only[hs,aaP,gS,aam]at h;obtain⟨r,hr,rfl⟩:=h;have ih:=sG fs r hr;simp only[ads,Sem.run_bind,dv hs,Result.andThen_ok,Sem.run_pure,ih]
def zx {α β γ:Type} {f:α->β} {h:α->γ} : ∀ (l:List α),l.map (fun x=>(f x,h x))=(l.map f).zip (l.map h)
 | []=>rfl
 | x::l=>by simp [zx l]
def IX:∀ (is:List Nat) (vs:List SV),(is.zip vs).map (fun p=>(p.1,p.2.ev J))=is.zip (vs.map (SV.ev J))
 | [],_=>rfl
 | _::_,[]=>rfl
 | i::is,v::vs=>by simp [IX is vs]
def Cv {vs:List TV} (h:GR P t is vs=some (n,v)):(Instr.build t (is.zip (vs.map (TV.ev J))).toArray).run P w=.ok (v.ev J) w:=by
 unfold GR at h;split at h
 .rename_i z us hz hus;rw[IK _ _ hus,<-IX];have hzc:z.cells=((z.cells.toList.map hZ).map (CV.ev J)).toArray:=by rw[iL]
  unfold Instr.build;simp only[Sem.run_bind,kU hz,Result.andThen_ok];split at h
  .rename_i fs hu;split at h
   .rename_i places hp;simp only[aam,aaZ]at h;obtain⟨r,hr,_,rfl⟩:=h;have hf:=jL (J:=J) _ _ _ hr;rw[<-hzc]at hf;have hpl:(fs.mapM fun(f:Field)=>(do pure (f.offset,<-sizeOf f.type):Sem (Nat×Nat))).run P w=.ok places.toArray w:=by
     have:=sG (w:=w) _ _ hp;obtain⟨fs⟩:=fs;simp only[ada,Sem.run_map,this,Result.andThen_ok]
    simp only[run_underlying hu,Result.andThen_ok,Sem.run_bind,hpl];have e:(fun(i:Nat)=>places.toArray[i]?)=(fun(i:Nat)=>places[i]?):=by funext i;simp
    simp only[e,hf];rfl
   .cases h
  .rename_i m el hu;split at h
   .rename_i q hs;simp only[aam,aaZ]at h;obtain⟨r,hr,_,rfl⟩:=h;have hf:=jL (J:=J) _ _ _ hr;rw[<-hzc]at hf;simp only[run_underlying hu,Result.andThen_ok,Sem.run_bind,dv hs,hf];rfl
   .cases h
  .cases h
 .cases h
def GP {vs:List TV} (h:S8 P t is vs=some (n,v)) (hn:ba J n=true):(Instr.build t (is.zip (vs.map (TV.ev J))).toArray).run P w=.ok (v.ev J) w:=by
 unfold S8 at h;split at h
 .rename_i j z fs hz hu;split at h
  .rename_i y f hc hf;split at h
   .rename_i ho;cases h;rw[j7,aaf]at hn;have hv:(J.v j).oneCell'=true:=by
     rcases AH hn with h | ⟨a,b,h⟩<;>rw[h]<;>rfl
    have hpl:(fs.mapM fun(f:Field)=>(do pure (f.offset,<-sizeOf f.type):Sem (Nat×Nat))).run P w=.ok #[(0,1)] w:=by
     have:=sG (P:=P) (w:=w) fs.toList [(0,1)] (by rw[hf];simp [ho.1,ho.2,gS]);obtain⟨fs⟩:=fs;simp only[ada,Sem.run_map,this,Result.andThen_ok]
    have hzc:z.cells=((z.cells.toList.map hZ).map (CV.ev J)).toArray:=by rw[iL]
    have hfill:=jL (J:=J) (place:=fun i=>([(0,1)]:List (Nat×Nat))[i]?) [(0,.one (.val (J.v j)))] (z.cells.toList.map hZ) [.val (J.v j)] (by
     rw[hc];simp [yP,SV.cells,CV.rI,hv,bE])
    rw[<-hzc]at hfill;unfold Instr.build;simp only[Sem.run_bind,kU hz,Result.andThen_ok,run_underlying hu,hpl];have e:(fun(i:Nat)=>(#[(0,1)]:Array (Nat×Nat))[i]?)=(fun(i:Nat)=>([(0,1)]:List (Nat×Nat))[i]?):=by funext i;simp
    have e2:([0].zip ([TV.sv (.one (.vr j))].map (TV.ev J))).toArray.toList=[(0,J.v j)]:=rfl;simp only[e];have hfill:Instr.fill (fun i=>([(0,1)]:List (Nat×Nat))[i]?) z.cells [(0,J.v j)]=some #[J.v j]:=hfill;have e3:[0].zip ([TV.sv (.one (.vr j))].map (TV.ev J))=[(0,J.v j)]:=rfl;rw[e3,hfill];rfl
   .cases h
  .cases h
 .cases h
def pL {rec:TypeId->SV->SV->Option E} {D:Nat} (hrec:∀ t x y e,rec t x y=some e->(Op.equalIn D t (x.ev J) (y.ev J)).run P w=.ok (ba J e) w) {xs ys:List CV} :
 ∀ (fs:List Field) (e:E),EA P rec xs ys fs=some e->(Op.eqFields D (xs.map (CV.ev J)).toArray (ys.map (CV.ev J)).toArray fs).run P w=.ok (ba J e) w
 | [],e,h=>by cases h;simp [Op.eqFields,cJ]
 | f::fs,e,h=>by
  unfold EA at h;unfold Op.eqFields;split at h
  .rename_i hn;rw[aav hn];split at h
   .rename_i a b ha hb;split at h
    .rename_i q r hq hr;cases h;have ih:=pL hrec fs r hr;simp only[Sem.run_bind,gU ha,gU hb,Result.andThen_ok,hrec _ _ _ _ hq,aP];cases hb:ba J q with
     | true=>simpa using ih
     | false=>simp
    .cases h
   .cases h
  .rename_i hn;rw[aan hn];exact pL hrec fs e h
def wa {rec:TypeId->SV->SV->Option E} {D:Nat} (hrec:∀ t x y e,rec t x y=some e->(Op.equalIn D t (x.ev J) (y.ev J)).run P w=.ok (ba J e) w) {t:TypeId} {xs ys:List CV} :
 ∀ (is:List Nat) (e:E),Jl P rec t xs ys is=some e->(Op.eqItems D t (P.cellsOf t) (xs.map (CV.ev J)).toArray (ys.map (CV.ev J)).toArray is).run P w=.ok (ba J e) w
 | [],e,h=>by cases h;simp [Op.eqItems,cJ]
 | i::is,e,h=>by
  unfold Jl at h;unfold Op.eqItems;split at h
  .rename_i a b ha hb;split at h
   .rename_i q r hq hr;cases h;have ih:=wa hrec is r hr;simp only[Sem.run_bind,gU ha,gU hb,Result.andThen_ok,hrec _ _ _ _ hq,aP];cases hb:ba J q with
    | true=>simpa using ih
    | false=>simp
   .cases h
  .cases h
def GG (a b:ByteArray):(a==b)=decide (a=b):=by
 rw[ab6];simp only[aaf];cases a;cases b;simp only[BEq.beq,ByteArray.beq,ByteArray.mk.injEq];exact⟨fun h=>Array.eq_of_isEqv _ _ (by simpa [BEq.beq] using h),fun h=>by subst h;simpa [BEq.beq] using Array.isEqv_self _⟩
def Hb {a b:CV} {e:E} (h:CF P (d+1) t (.one a) (.one b)=some e):(∃ k x k' y,a=.int k x/\b=.int k' y)\/(∃ x y,a=.str x/\b=.str y)\/(∃ x y,a=.bool x/\b=.bool y)\/(∃ x y l c x' y' l' c',a=.sl x y l c/\b=.sl x' y' l' c')\/(∃ x y x' y',a=.hptr x y/\b=.hptr x' y')\/(∃ x y,a=.map x/\b=.map y):=by
 unfold CF at h;cases hu:P.underlying t with
 | none=>simp [hu]at h
 | some d'=>cases d'<;>simp only[hu]at h<;>first | (cases h;done) | (cases a<;>first | (cases h;done) | (cases b<;>first | (cases h;done) | simp))
def pX {x x':E} {e:E} (he:(if x'=.lit (-1)then some (mkEq x (.lit (-1)))else if x=.lit (-1)then some (mkEq x' (.lit (-1)))else none)=some e) :
 (aB J x'= -1/\ba J e=decide (aB J x= -1))\/(aB J x= -1/\ba J e=decide (aB J x'= -1)):=by
 split at he
 .rename_i hx;cases he;subst hx;exact Or.inl ⟨rfl,by rw[fR];rfl⟩
 .split at he
  .rename_i hx;cases he;subst hx;exact Or.inr ⟨rfl,by rw[fR];rfl⟩
  .cases he
def sg:∀ (d:Nat) (t:TypeId) (x y:SV) (e:E) (D:Nat),d<=D->CF P d t x y=some e->(Op.equalIn D t (x.ev J) (y.ev J)).run P w=.ok (ba J e) w
 | 0,_,_,_,_,_,_,h=>by cases h
 | d+1,t,x,y,e,D,hD,h=>by
  obtain⟨D,rfl⟩:∃ D',D=D'+1:=⟨D-1,ah⟩;have ih:∀ t x y e,CF P d t x y=some e->(Op.equalIn D t (x.ev J) (y.ev J)).run P w=.ok (ba J e) w:=fun t x y e h=>sg d t x y e D ah h;unfold CF at h;split at h
  .rename_i hu;split at h
   .cases h;simp [Op.equalIn,Sem.run_bind,run_underlying hu,SV.ev,CV.ev,KO]
   .cases h
  .rename_i kk hu;split at h
   .split at h
    .rename_i hk;subst hk;cases h;simp [Op.equalIn,Sem.run_bind,run_underlying hu,SV.ev,CV.ev,fR];rfl
    .cases h
   .cases h
  .rename_i hu;split at h
   .rename_i a b;cases h;have:(kl J a==kl J b)=decide (kl J a=kl J b):=GG _ _;simp only[Op.equalIn,Sem.run_bind,run_underlying hu,SV.ev,CV.ev,uK,Result.andThen_ok,Sem.run_pure,this]
   .cases h
  .rename_i el hu;split at h
   .rename_i x l1 q1 z1 x' l2 q2 z2;rw[Op.equalIn];simp only[Sem.run_bind,run_underlying hu,Result.andThen_ok,SV.ev,CV.ev];rcases pX (J:=J) h with ⟨h1,h2⟩ | ⟨h1,h2⟩
    .rw[h1,fb,h2];cases hs:az (aB J x) (aB J l1)with
     | none=>have:=iA (aB J x) (aB J l1);rw[hs]at this;simp at this;simp [this]
     | some q=>have:=iA (aB J x) (aB J l1);rw[hs]at this;simp at this;simp [this]
    .rw[h1,fb,h2];simp [iA]
   .cases h
  .rename_i el hu;split at h
   .rename_i x l1 x' l2;rw[Op.equalIn];simp only[Sem.run_bind,run_underlying hu,Result.andThen_ok,SV.ev,CV.ev];rcases pX (J:=J) h with ⟨h1,h2⟩ | ⟨h1,h2⟩
    .rw[h1,fb,h2];cases hs:az (aB J x) (aB J l1)with
     | none=>have:=iA (aB J x) (aB J l1);rw[hs]at this;simp at this;simp [this]
     | some q=>have:=iA (aB J x) (aB J l1);rw[hs]at this;simp at this;simp [this]
    .rw[h1,fb,h2];simp [iA]
   .cases h
  .rename_i k el hu;split at h
   .rename_i x x';rw[Op.equalIn];simp only[Sem.run_bind,run_underlying hu,Result.andThen_ok,SV.ev,CV.ev];rcases pX (J:=J) h with ⟨h1,h2⟩ | ⟨h1,h2⟩
    .rw[h1,aav rfl,h2];by_cases hx:aB J x= -1
     .simp [hx]
     .simp [hx]
    .rw[h1,aav rfl,h2];by_cases hx:aB J x'= -1
     .simp [hx]
     .simp [hx]
   .cases h
  .rename_i fs hu;split at h
   .split at h
    .rename_i hp;have hf:P.fieldsOf t=fs:=by simp [Program.fieldsOf,hu]
     simp only[SV.ev];rw[run_equalIn_struct w D t _ _ (by rw[hf];exact hu) hp,hf];exact pL ih _ _ h
    .cases h
   .cases h
  .rename_i n el hu;split at h
   .split at h
    .rename_i i hi;simp only[SV.ev];rw[run_equalIn_array w D _ _ hu hi];exact wa ih _ _ h
    .cases h
   .cases h
  .cases h
def GM {y:TV} {X Y:Operand} (h:S5 P op t x y=some (n,v)) (hn:ba J n=true) :
 Sem.run P (do eqGuard op t X Y (x.ev J) (y.ev J);binOp op t (x.ev J) (y.ev J)) w=.ok (v.ev J) w:=by
 unfold S5 at h;split at h
 .rename_i k a k' b;have:=GN (T:=t) (w:=w) (P:=P) h hn;simp only[TV.ev,SV.ev,CV.ev]at this ⊢;have hg:(eqGuard op t X Y (.int k (aB J a)) (.int k' (aB J b))).run P w=.ok () w:=by
   unfold eqGuard;split<;>rfl
  simp only[Sem.run_bind,hg,Result.andThen_ok];exact this
 .rename_i a b;have:=GO (T:=t) (w:=w) (P:=P) h hn;simp only[TV.ev,SV.ev,CV.ev]at this ⊢;have hg:(eqGuard op t X Y (.string (kl J a)) (.string (kl J b))).run P w=.ok () w:=by
   unfold eqGuard;split<;>rfl
  simp only[Sem.run_bind,hg,Result.andThen_ok];exact this
 .rename_i a b hni hns;split at h
  .rename_i e he;have heq:(Op.equal t (a.ev J) (b.ev J)).run P w=.ok (ba J e) w:=sg 20 t _ _ e 10000 aA he;have hsh:(∃ x y,a=.bool x/\b=.bool y)\/(∃ x y l c x' y' l' c',a=.sl x y l c/\b=.sl x' y' l' c')\/(∃ x y x' y',a=.hptr x y/\b=.hptr x' y')\/(∃ x y,a=.map x/\b=.map y):=by
    rcases Hb he with ⟨_,_,_,_,rfl,rfl⟩ | ⟨_,_,rfl,rfl⟩ | h | h | h | h
    .exact(hni _ _ _ _ rfl rfl).elim
    .exact(hns _ _ rfl rfl).elim
    .exact Or.inl h
    .exact Or.inr (Or.inl h)
    .exact Or.inr (Or.inr (Or.inl h))
    .exact Or.inr (Or.inr (Or.inr h))
   rcases hsh with ⟨x,y,rfl,rfl⟩ | ⟨x,y,l,c,x',y',l',c',rfl,rfl⟩ | ⟨x,y,x',y',rfl,rfl⟩ | ⟨x,y,rfl,rfl⟩
   all_goals
    split at h
    .cases h;simp only[TV.ev,SV.ev]at heq ⊢;simp only[CV.ev]at heq ⊢;simp only[Sem.run_bind,eqGuard,binOp,heq,Sem.run_pure,Result.andThen_ok];simp [heq]
    .cases h;simp only[TV.ev,SV.ev]at heq ⊢;simp only[CV.ev]at heq ⊢;simp [Sem.run_bind,eqGuard,binOp,heq,df]
    .cases h
  .cases h
 .rename_i a b;split at h
  .rename_i hgt;have hg:∀ op,(eqGuard op t X Y (SV.ev J (.agg a)) (SV.ev J (.agg b))).run P w=.ok () w:=by
    intro op;cases op<;>simp [eqGuard,SV.ev,Sem.run_bind,run_program,hgt]
   split at h
   .rename_i e he;have heq:(Op.equal t (SV.ev J (.agg a)) (SV.ev J (.agg b))).run P w=.ok (ba J e) w:=sg 20 t _ _ e 10000 aA he;split at h
    .cases h;simp only[SV.ev]at hg heq;simp only[TV.ev,SV.ev,CV.ev,Sem.run_bind,hg,Result.andThen_ok,binOp,heq,Sem.run_pure]
    .cases h;simp only[SV.ev]at hg heq;simp only[TV.ev,SV.ev,CV.ev,Sem.run_bind,hg,Result.andThen_ok,binOp,heq,Sem.run_pure,df]
    .cases h
   .cases h
  .cases h
 .cases h
end
section
variable {P:Program} {S:Nat->Prop} {w0:World} {J:Env} {st:St} {mem:Mem} {a:Act} {w:World} {n:E} {v:TV}
def MRel.Ov (h:MRel S w0 J mem w) {x:E} (hx:ba J (Ov mem x)=true):-1<=aB J x:=by
 unfold Sx.Ov at hx;split at hx
 .split at hx
  .rename_i a ha;have:=yM h ha;rw[ak];omega
  .rw[j7,aq,aaf]at hx;exact hx
 .rw[aX,aq,aaf]at hx;exact hx
def gP {k:IntKind} {code:BoundsCode} (h0:0<=i) (h1:i<=y):(Instr.sliceBound (.int k i) y code).run P w=.ok i.toNat w:=by
 unfold Instr.sliceBound;simp only[asIntOf,Sem.run_bind,Sem.run_pure,Result.andThen_ok,h0,h1,and_self,abL]
def nf {d:E} {x:Option TV} {e:E} (h:mJ d x=some e):(x=none/\e=d)\/∃ k,x.map (TV.ev J)=some (.int k (aB J e)):=by
 unfold mJ at h;split at h
 .cases h;exact Or.inl ⟨rfl,rfl⟩
 .cases h;exact Or.inr ⟨_,rfl⟩
 .cases h
def km {isSlice:Bool} {len:Nat} {dl dh l h:E} (hl:mJ dl lo=some l) (hh:mJ dh hi=some h) (h0:aB J dl=0) (h1:aB J dh=len)
 (a0:0<=aB J l) (a1:aB J l<=aB J h) (a2:aB J h<=cap) :
 (Instr.sliceBounds isSlice len cap (lo.map (TV.ev J)) (hi.map (TV.ev J)) none).run P w=.ok ((aB J l).toNat,(aB J h).toNat,cap) w:=by
 unfold Instr.sliceBounds;simp only[Sem.run_bind,Sem.run_pure,Result.andThen_ok];rcases nf (J:=J) hh with ⟨rfl,rfl⟩ | ⟨k,hk⟩
 .simp only[abX,Sem.run_pure,Result.andThen_ok];rw[h1];rcases nf (J:=J) hl with ⟨rfl,rfl⟩ | ⟨k',hk'⟩
  .simp only[abX,Sem.run_pure,Result.andThen_ok,h0,aaa];rfl
  .simp only[hk',Sem.run_bind,Sem.run_pure,Result.andThen_ok];rw[gP a0 ah];simp
 .simp only[hk,Sem.run_bind];rw[gP ah a2];simp only[Result.andThen_ok];rcases nf (J:=J) hl with ⟨rfl,rfl⟩ | ⟨k',hk'⟩
  .simp only[abX,Sem.run_pure,Result.andThen_ok,h0];rfl
  .simp only[hk',Sem.run_bind];rw[gP a0 ah];simp
def vB {m l y:E} (hl:0<=aB J l):aB J (Ar m l y k)=if aB J m=aB J l then aB J y else aB J y+(((aB J l).toNat*k:Nat):Int):=by
 unfold Ar;rw[iG,fR,fh,ny,aq,qM hl];by_cases h:aB J m=aB J l<;>simp [h]
def Gc {x y:Int} (hx:-1<=x) (hy:0<=y) (k:Nat):(az x y).map (·.add k)=az x (y+k):=by
 by_cases h:0<=x
 .rw[au h,qX h hy,aaP,fi]
 .have:x= -1:=ah;subst this;rfl
def DG (hm:MRel S w0 J mem w) (h:IB P mem t x lo hi mx=some (n,v)) (hn:ba J n=true) :
 (Instr.sliceAt t (x.ev J) (lo.map (TV.ev J)) (hi.map (TV.ev J)) (mx.map (TV.ev J))).run P w=.ok (v.ev J) w:=by
 unfold IB at h;split at h
 .cases h
 .split at h
  .rename_i s hu;split at h
   .rename_i l hh hl hh';cases h;rw[aP,aah,aP,aah,aX,aX,aX,aq,aaf,aaf,aaf,kQ]at hn;obtain⟨a0,a1,a2⟩:=hn;have hb:=km (P:=P) (w:=w) (isSlice:=false) (len:=(kl J s).size) (cap:=(kl J s).size) hl hh' (aq _ _) (kQ _ _) a0 a1 a2;unfold Instr.sliceAt;simp only[Sem.run_bind,run_underlying hu,Result.andThen_ok];unfold Instr.slice;simp only[Sem.run_bind,run_underlying hu,Result.andThen_ok,TV.ev,SV.ev,CV.ev,abX,Option.isSome_none,aba,abK,Sem.run_pure,hb,Py]
   .cases h
  .rename_i el x y len cap hu;split at h
   .rename_i l hh k hl hh' hs;cases h;rw[aP,aah,aP,aah,aP,aah,aP,aah,aX,aX,aX,aX,aq,aaf,aaf,aaf,aaf]at hn;obtain⟨hx,hy,a0,a1,a2⟩:=hn;have hx:=hm.Ov hx;by_cases hlen:0<=aB J len
    .have hb:=km (P:=P) (w:=w) (isSlice:=true) (len:=(aB J len).toNat) (cap:=(aB J cap).toNat) hl hh' (aq _ _) (by rw[acx hlen]) a0 a1 ah;unfold Instr.sliceAt;simp only[Sem.run_bind,run_underlying hu,Result.andThen_ok];unfold Instr.slice;simp only[Sem.run_bind,run_underlying hu,Result.andThen_ok,TV.ev,SV.ev,CV.ev,abX,hb,dv hs,Sem.run_pure,vB a0,nz]
     congr 2
     .by_cases hc:aB J cap=aB J l
      .rw[aav (by rw[hc]),aav hc]
      .rw[aan ah,aan hc,Gc hx hy]
     .omega
     .omega
    .
     rcases nf (J:=J) hh' with ⟨rfl,rfl⟩ | ⟨kk,hk⟩
     .omega
     .unfold Instr.sliceAt;simp only[Sem.run_bind,run_underlying hu,Result.andThen_ok];unfold Instr.slice;simp only[Sem.run_bind,run_underlying hu,Result.andThen_ok,TV.ev,SV.ev,CV.ev,abX];have hb:(Instr.sliceBounds true (aB J len).toNat (aB J cap).toNat (lo.map (TV.ev J)) (hi.map (TV.ev J)) none).run P w=.ok ((aB J l).toNat,(aB J hh).toNat,(aB J cap).toNat) w:=by
       unfold Instr.sliceBounds;simp only[Sem.run_bind,Sem.run_pure,Result.andThen_ok,hk];rw[gP ah ah];simp only[Result.andThen_ok];rcases nf (J:=J) hl with ⟨rfl,rfl⟩ | ⟨k',hk'⟩
       .simp only[abX,Sem.run_pure,Result.andThen_ok,aq];rfl
       .simp only[hk',Sem.run_bind];rw[gP a0 ah];simp
      simp only[hb,dv hs,Sem.run_pure,vB a0,nz,Result.andThen_ok]
      congr 2
      .by_cases hc:aB J cap=aB J l
       .rw[aav (by rw[hc]),aav hc]
       .rw[aan ah,aan hc,Gc hx hy]
      .omega
      .omega
   .cases h
  .rename_i q el x y hu;split at h
   .rename_i l hh k hl hh' hs;cases h;rw[aP,aah,aP,aah,aP,aah,aP,aah,aX,aX,aX,aX,aq,aq,aaf,aaf,aaf,aaf]at hn;obtain⟨hx,hy,a0,a1,a2⟩:=hn;have hx:=hm.Fb hx;have hb:=km (P:=P) (w:=w) (isSlice:=false) (len:=q) (cap:=q) hl hh' (aq _ _) (aq _ _) a0 a1 a2;have es:aB J (Ar (.lit q) l y k)=if(q:Int)=aB J l then aB J y else aB J y+(((aB J l).toNat*k:Nat):Int):=vB a0
    unfold Instr.sliceAt;simp only[Sem.run_bind,run_underlying hu,Result.andThen_ok,TV.ev,SV.ev,CV.ev,au hx,Instr.sureAddr,Sem.run_pure,abX,hb,dv hs,es,nz,aq]
    congr 2
    .by_cases hc:(q:Int)=aB J l
     .rw[aav ah,aav hc]
     .rw[aan ah,aan hc,fi];congr 2;omega
    .omega
    .omega
   .cases h
  .cases h
def zM {o:Option Operand} {x:Option TV} (hr:Rel S w0 J st a w) (h:(match o with | none=>some none | some o=>(cV st o).map some)=some x):o.map a.eval=x.map (TV.ev J):=by
 cases o with
 | none=>simp only[aai]at h;subst h;rfl
 | some o =>
  simp only[aam]at h;obtain⟨y,hy,rfl⟩:=h;simp [aH hr hy]
def C3 (hr:Rel S w0 J st a w) {x y:Operand} (h:HT P st op t x y=some (n,v)) (hn:ba J n=true) :
 Sem.run P (do eqGuard op t x y (a.eval x) (a.eval y);binOp op t (a.eval x) (a.eval y)) w=.ok (v.ev J) w:=by
 unfold HT at h;split at h
 .rename_i j hx;have e1:=aH hr hx;simp only[TV.ev,SV.ev,CV.ev]at e1;have e2:a.eval (.const .nilIface)=.nilIface:=rfl;split at h
  .rename_i ms ht;have heq:(Op.equal t (J.v j) .nilIface).run P w=.ok (decide (pj (J.v j)=0)) w:=by
    have hd:∀ v:Value,v=.nilIface\/(∃ t x,v=.iface t x)->(Op.equal t v .nilIface).run P w=.ok (decide (pj v=0)) w:=by
     rintro v (rfl | ⟨t',x',rfl⟩)
     .show(Op.equalIn (9999+1) t .nilIface .nilIface).run P w=_;rw[Op.equalIn];simp only[Sem.run_bind,run_underlying ht,Result.andThen_ok,Sem.run_pure,pj];rfl
     .show(Op.equalIn (9999+1) t (.iface t' x') .nilIface).run P w=_;rw[Op.equalIn];simp only[Sem.run_bind,run_underlying ht,Result.andThen_ok,Sem.run_pure,pj];rfl
    refine hd _ (AH ?_);split at h
    .cases h;rw[j7,aaf]at hn;exact hn
    .cases h;rw[j7,aaf]at hn;exact hn
    .cases h
   have hv:J.v j=.nilIface\/(∃ t x,J.v j=.iface t x):=by
    refine AH ?_;split at h
    .cases h;rw[j7,aaf]at hn;exact hn
    .cases h;rw[j7,aaf]at hn;exact hn
    .cases h
   have hg:∀ op,(eqGuard op t x (.const .nilIface) (J.v j) .nilIface).run P w=.ok () w:=by
    intro op;rcases hv with h | ⟨t',x',h⟩<;>rw[h]<;>cases op<;>simp [eqGuard]
   have hb:(binOp .eql t (J.v j) .nilIface).run P w=.ok (.bool (decide (pj (J.v j)=0))) w/\(binOp .neq t (J.v j) .nilIface).run P w=.ok (.bool (!decide (pj (J.v j)=0))) w:=by
    rcases hv with h | ⟨t',x',h⟩<;>rw[h]at heq ⊢<;>constructor<;>simp only[binOp,Sem.run_bind,heq,Result.andThen_ok,Sem.run_pure]
   split at h
   .cases h;simp only[e1,e2,Sem.run_bind,hg,Result.andThen_ok,hb.1];rfl
   .cases h;simp only[e1,e2,Sem.run_bind,hg,Result.andThen_ok,hb.2];rfl
   .cases h
  .cases h
 .rename_i hx;have e1:=aH hr hx;have e2:a.eval (.const .nilIface)=.nilIface:=rfl;have e1:a.eval x=.nilIface:=e1;split at h
  .rename_i ms ht;have hd:(Op.equal t .nilIface .nilIface).run P w=.ok true w:=by
    show(Op.equalIn (9999+1) t .nilIface .nilIface).run P w=_;rw[Op.equalIn];simp only[Sem.run_bind,run_underlying ht,Result.andThen_ok,Sem.run_pure]
   have hg:∀ op,(eqGuard op t x (.const .nilIface) .nilIface .nilIface).run P w=.ok () w:=by
    intro op;cases op<;>simp [eqGuard]
   have hb:(binOp .eql t .nilIface .nilIface).run P w=.ok (.bool true) w/\(binOp .neq t .nilIface .nilIface).run P w=.ok (.bool false) w:=by
    constructor<;>simp only[binOp,Sem.run_bind,hd,Result.andThen_ok,Sem.run_pure]<;>rfl
   split at h
   .cases h;simp only[e1,e2,Sem.run_bind,hg,Result.andThen_ok,hb.1];rfl
   .cases h;simp only[e1,e2,Sem.run_bind,hg,Result.andThen_ok,hb.2];rfl
   .cases h
  .cases h
 .cases h
def qg (hr:Rel S w0 J st a w) {o:Oper} (h:quiet P st o.op=some (n,v)) (hn:ba J n=true) :
 (execOp a.eval o).run P w=.ok (.value (v.ev J)) w:=by
 obtain⟨dst,op,ty,pos,af,gd⟩:=o;simp only at h;unfold quiet at h;split at h
 .rename_i x;simp only[aam,aaZ]at h;obtain⟨y,hy,_,rfl⟩:=h;simp only[execOp,Sem.run_pure,aH hr hy]
 .rename_i x;simp only[aam,aaZ]at h;obtain⟨y,hy,_,rfl⟩:=h;simp only[execOp,Sem.run_pure,aH hr hy]
 .rename_i c x y;split at h
  .rename_i e hc;have e1:=aH hr hc;simp only[TV.ev,SV.ev,CV.ev]at e1;split at h
   .rename_i hk;simp only[aam,aaZ]at h;obtain⟨z,hz,_,rfl⟩:=h;simp only[execOp,Sem.run_bind,e1,fI hr.path hk,asBool,Sem.run_pure,Result.andThen_ok,abL,aH hr hz]
   .rename_i hk;simp only[aam,aaZ]at h;obtain⟨z,hz,_,rfl⟩:=h;simp only[execOp,Sem.run_bind,e1,fI hr.path hk,asBool,Sem.run_pure,Result.andThen_ok,abK,aba,aH hr hz]
   .split at h
    .rename_i va vb ha hb;simp only[aam,aaZ]at h;obtain⟨u,hu,_,rfl⟩:=h;have em:=zy (J:=J) hu;simp only[execOp,Sem.run_bind,e1,asBool,Sem.run_pure,Result.andThen_ok,TV.ev,em,aH hr ha,aH hr hb]
    .cases h
  .cases h
 .rename_i x;split at h
  .rename_i p q hx;cases h;have hp:=hr.toMRel.Fb hn;have e1:=aH hr hx;simp only[TV.ev,SV.ev,CV.ev]at e1;simp only[execOp,e1,TV.ev,SV.ev,CV.ev,au hp,Sem.run_pure]
  .cases h
 .rename_i op t x y _;split at h
  .rename_i r hnc;cases h;have:=C3 hr hnc hn;unfold execOp;simp only[Sem.run_bind]at this ⊢;rw[this];simp only[Result.andThen_ok,Sem.run_pure]
  split at h
  .rename_i v1 v2 hx hy;have e1:=aH hr hx;have e2:=aH hr hy;have:=GM (w:=w) (X:=x) (Y:=y) h hn;rw[<-e1,<-e2]at this;unfold execOp;simp only[Sem.run_bind]at this ⊢;rw[this];simp only[Result.andThen_ok,Sem.run_pure]
  .cases h
 .rename_i op t x;split at h
  .rename_i v1 hx;simp only[execOp,Sem.run_bind,aH hr hx,MD (w:=w) (P:=P) (J:=J) h,Result.andThen_ok,Sem.run_pure]
  .cases h
 .rename_i s d x;split at h
  .rename_i v1 hx;simp only[execOp,Sem.run_bind,aH hr hx,En hr.toMRel h hn,Result.andThen_ok,Sem.run_pure]
  .cases h
 .rename_i s x f;split at h
  .rename_i v1 hx;simp only[execOp,Sem.run_bind,aH hr hx,uQ hr.toMRel h hn,Result.andThen_ok,Sem.run_pure]
  .cases h
 .rename_i s x f;split at h
  .rename_i v1 hx;simp only[execOp,Sem.run_bind,aH hr hx,CI (w:=w) (J:=J) h,Result.andThen_ok,Sem.run_pure]
  .cases h
 .rename_i t x y;split at h
  .rename_i v1 v2 hx hy;simp only[execOp,Sem.run_bind,aH hr hx,aH hr hy,uT hr.toMRel h hn,Result.andThen_ok,Sem.run_pure]
  .cases h
 .rename_i t x y;split at h
  .rename_i v1 v2 hx hy;simp only[execOp,Sem.run_bind,aH hr hx,aH hr hy,CT (w:=w) h hn,Result.andThen_ok,Sem.run_pure]
  .cases h
 .rename_i t x;split at h
  .rename_i c hx;simp only[aam,aaZ]at h;obtain⟨⟨nn,u⟩,hu,rfl,rfl⟩:=h;have e1:=aH hr hx;obtain⟨p,hp,hl⟩:=wq hr.toMRel hu hn;simp only[TV.ev,SV.ev,hp]at e1;simp only[execOp,Sem.run_bind,e1,Instr.loadAt,Instr.sureAddr,Sem.run_pure,Result.andThen_ok,hl,TV.ev]
  .cases h
 .rename_i x i;split at h
  .rename_i v1 hx;simp only[execOp,Sem.run_bind,aH hr hx,yL (w:=w) (P:=P) (J:=J) h,Result.andThen_ok,Sem.run_pure]
  .cases h
 .rename_i t x;split at h
  .rename_i q el x' y l c hu hx;cases h;rw[aX,aq,aaf]at hn;have e1:=aH hr hx;simp only[TV.ev,SV.ev,CV.ev]at e1;have:¬(aB J l).toNat<q:=ah;simp only[execOp,Sem.run_bind,e1,Instr.arrayAt,run_underlying hu,Result.andThen_ok,aan this,Sem.run_pure,TV.ev,SV.ev,CV.ev]
  .cases h
 .rename_i t x lo hi mx;split at h
  .rename_i v1 hx;split at h
   .rename_i l hh m h1 h2 h3;have:=DG hr.toMRel h hn;rw[<-zM hr h1,<-zM hr h2,<-zM hr h3,<-aH hr hx]at this;simp only[execOp,Sem.run_bind,this,Result.andThen_ok,Sem.run_pure]
   .cases h
  .cases h
 .rename_i f first captured
  split at h
  .rename_i hc;cases h;obtain⟨rfl,rfl⟩:=hc;simp [execOp,Sem.run_bind,Instr.makeFunc,TV.ev,SV.ev,CV.ev]
  .split at h
   .rename_i c hcap;split at h
    .rename_i hf;split at h
     .rename_i x y hx;split at h
      .rename_i hy;cases h;subst hy;subst hf;have e1:=aH hr hx;simp only[TV.ev,SV.ev,CV.ev,aq]at e1;have ec:captured=#[c]:=by
        obtain⟨l⟩:=captured;simp only at hcap;subst hcap;rfl
       subst ec;simp [execOp,Sem.run_bind,Instr.makeFunc,TV.ev,SV.ev,CV.ev,e1]
      .cases h
     .cases h
    .cases h
   .cases h
 .rename_i b args ats;split at h
  .rename_i vs hx;have e1:=iP hr _ _ hx;have e2:args.map a.eval=(vs.map (TV.ev J)).toArray:=by
    rw[<-e1];obtain⟨l⟩:=args;exact acR
   rw[BigFrame.execOp_builtin,e2];exact yj hr.toMRel h hn
  .cases h
 .rename_i t parts;split at h
  .rename_i vs hx;have e1:=iP hr _ _ hx;have e2:(parts.map fun p=>(p.1,a.eval p.2))=((parts.toList.map (·.1)).zip (vs.map (TV.ev J))).toArray:=by
    rw[<-e1,abg,<-zx parts.toList];obtain⟨l⟩:=parts;exact acR
   split at h
   .rename_i r hb;cases h;have:=GP (w:=w) (J:=J) hb hn;rw[<-e2]at this;simp only[execOp,Sem.run_bind,this,Result.andThen_ok,Sem.run_pure]
   .have:=Cv (w:=w) (J:=J) h;rw[<-e2]at this;simp only[execOp,Sem.run_bind,this,Result.andThen_ok,Sem.run_pure]
  .cases h
 .cases h
end
def Env.fO (J:Env) (n:Nat) (x:Int):Env:={J with i:=fun k=>if k=n then x else J.i k}
def Env.lO (J:Env) (n:Nat) (x:Hl):Env:={J with h:=fun k=>if k=n then x else J.h k}
def Env.Ga (J:Env) (n:Nat) (x:Value):Env:={J with v:=fun k=>if k=n then x else J.v k}
def Env.Mr (J:Env) (n:Nat) (x:Bool):Env:={J with b:=fun k=>if k=n then x else J.b k}
def Env.RK (J:Env) (n:Nat) (x:ByteArray):Env:={J with s:=fun k=>if k=n then x else J.s k}
section
variable (J:Env) (n m:Nat)
def mX (x:Int):(J.fO n x).i n=x:=by simp [Env.fO]
def Kn (x:Int) (h:m≠n):(J.fO n x).i m=J.i m:=by simp [Env.fO,h]
def gm (x:Hl):(J.lO n x).h n=x:=by simp [Env.lO]
def bW (x:Int) (h:n<=k):ai n J (J.fO k x):=⟨fun j hj=>by simp [Env.fO];omega,fun _ _=>rfl,fun _ _=>rfl,fun _ _=>rfl,fun _ _=>rfl⟩
def fj (x:Hl) (h:n<=k):ai n J (J.lO k x):=⟨fun _ _=>rfl,fun _ _=>rfl,fun _ _=>rfl,fun _ _=>rfl,fun j hj=>by simp [Env.lO];omega⟩
def yc (x:Value) (h:n<=k):ai n J (J.Ga k x):=⟨fun _ _=>rfl,fun _ _=>rfl,fun _ _=>rfl,fun j hj=>by simp [Env.Ga];omega,fun _ _=>rfl⟩
def ya (x:Bool) (h:n<=k):ai n J (J.Mr k x):=⟨fun _ _=>rfl,fun j hj=>by simp [Env.Mr];omega,fun _ _=>rfl,fun _ _=>rfl,fun _ _=>rfl⟩
def GA (x:ByteArray) (h:n<=k):ai n J (J.RK k x):=⟨fun _ _=>rfl,fun _ _=>rfl,fun j hj=>by simp [Env.RK];omega,fun _ _=>rfl,fun _ _=>rfl⟩
end
def Hl.put (h:Hl) (x y:Nat) (vs:List Value):Hl:=fun b=>if b=x then
 match h x with
 | some (.cells c T fr)=>some (.cells (bE c.toList y vs).toArray T fr)
 | o=>o
 else h b
variable {H a h:Hl}
def Hl.wr (h:Hl) (x y n:Nat):Bool :=
 match h x with
 | some (.cells c _ fr)=>decide (y+n<=c.size)&&(decide (fr.2<=y)||decide (y+n<=fr.1))
 | _=>false
def Hl.gF {x:Nat} : (h.put x y vs).mem b↔h.mem b:=by
 unfold Hl.mem Hl.put;split
 .rename_i e;subst e;split
  .rename_i c T fr hb;simp [hb]
  .rfl
 .rfl
def Hl.un (a b:Hl):Hl:=fun k=>(a k).or (b k)
def cP (l:List Hl):Hl:=l.foldr Hl.un Hl.none
def Hl.le (a b:Hl):Prop:=∀ k o,a k=some o->b k=some o
def Hl.dz {b:Hl} : (a.un b).mem k↔a.mem k\/b.mem k:=by
 unfold Hl.mem Hl.un;cases a k<;>simp
def Hl.IU {b:Hl} {w:World} (h1:a.sub w) (h2:b.sub w):(a.un b).sub w:=by
 intro k o h;unfold Hl.un at h;cases ha:a k with
 | some x=>rw[ha]at h;cases h;exact h1 _ _ ha
 | none=>rw[ha]at h;exact h2 _ _ h
def aN (h:Hl) (e:TypeId) (size:Nat) (v:Value) (n:Nat) (xs:List Value):Prop :=
 xs.length=n*size /\
 ((v=.slice none 0 0/\n=0) \/
  ∃ g cap cur,v=.slice (some ⟨g,0,none⟩) n cap/\h g=some (.cells cur e (0,0))/\n<=cap/\cap<=maxLen/\cur.size=cap*size/\cur.toList.take (n*size)=xs)
inductive Src | cvs (l:List CV) (m:Nat) | seg (h:Nat) (x y l:E)
def bR (h:Hl) (x y n:Nat):List Value:=(List.range n).map fun j=>(h.cell x (y+j)).getD (.tuple #[])
def Src.len (J:Env):Src->Nat
 | .cvs _ m=>m
 | .seg _ _ _ l=>(aB J l).toNat
def Src.iB (J:Env) (size:Nat):Src->List Value
 | .cvs l _=>l.map (CV.ev J)
 | .seg h x y l=>bR (J.h h) (aB J x).toNat (aB J y).toNat ((aB J l).toNat*size)
def Src.ok (J:Env) (size:Nat):Src->Prop
 | .cvs l m=>True
 | .seg h x y l=>(0<=aB J x/\0<=aB J y/\0<=aB J l/\∀ j,j<(aB J l).toNat*size->∃ v,(J.h h).cell (aB J x).toNat ((aB J y).toNat+j)=some v/\v.oneCell'=true)\/aB J l=0
def mn (kd:Kd) (key:Value) (es:Array MapEntry):Option (Option (Nat×Value)) :=
 match kd with
 | .int k=>Instr.findNow (.int k) key es.toList 0
 | .str=>Instr.findNow .string key es.toList 0
 | _=>none
def sC (kd:Kd) (key val:Value) (es:Array MapEntry) (clock:Nat):Obj :=
 match mn kd key es with
 | some (some (i,_))=>.map (es.modify i fun e=>{e with key,val}) clock
 | _=>.map (es.push {key,val,born:=clock}) (clock+1)
def isAgg:Value->Bool
 | .agg _=>true
 | _=>false
def Hl.setObj (h:Hl) (x:Nat) (o:Obj):Hl:=fun b=>if b=x then some o else h b
inductive Ck | int (k:IntKind) | bool | str | any | ptr | sl | map | slw
inductive Cp | one (k:Ck) | agg (ks:List Ck)
def Ck.len:Ck->Nat
 | .ptr=>2 | .sl=>4 | .slw=>4 | _=>1
def Ck.cv (n:Nat):Ck->CV
 | .int k=>.int k (.var n)
 | .bool=>.bool (.bvar n)
 | .str=>.str (.svar n)
 | .any=>.vr n
 | .ptr=>.hptr (.var n) (.var (n+1))
 | .sl=>.sl (.var n) (.var (n+1)) (.var (n+2)) (.var (n+3))
 | .map=>.map (.var n)
 | .slw=>.sl (.var n) (.var (n+1)) (.var (n+2)) (.var (n+3))
def Ck.root (n:Nat):Ck->List E
 | .ptr | .sl | .map=>[.var n]
 | _=>[]
def al:Nat->List Ck->List CV
 | _,[]=>[]
 | n,k::l=>k.cv n::al (n+k.len) l
def I3:Nat->List Ck->List E
 | _,[]=>[]
 | n,k::l=>k.root n++I3 (n+k.len) l
def aW (l:List Ck):Nat:=(l.map Ck.len).sum
def Cp.sv (n:Nat):Cp->SV
 | .one k=>.one (k.cv n)
 | .agg ks=>.agg (al n ks)
def Cp.len:Cp->Nat
 | .one k=>k.len
 | .agg ks=>aW ks
def Cp.roots (n:Nat):Cp->List E
 | .one k=>k.root n
 | .agg ks=>I3 n ks
def bV:Nat->List Cp->List SV
 | _,[]=>[]
 | n,c::l=>c.sv n::bV (n+c.len) l
def aK:Nat->List Cp->List E
 | _,[]=>[]
 | n,c::l=>c.roots n++aK (n+c.len) l
def VK (l:List Cp):Nat:=(l.map Cp.len).sum
def j8 (n:Nat) (l:List Cp):TV :=
 match l with
 | [c]=>.sv (c.sv n)
 | l=>.tup (bV n l)
def kW:Value->Ck
 | .int k _=>.int k
 | .bool _=>.bool
 | .string _=>.str
 | .slice _ _ _=>.sl
 | .pointer _=>.ptr
 | .map _=>.map
 | _=>.any
def lC (n:Nat) (ks:List Ck) (agg:Bool):SV:=if agg then .agg (al n ks)else match ks with
 | [k]=>.one (k.cv n)
 | _=>.agg (al n ks)
def np (ks:List Ck) (agg:Bool) (v:Value):Prop:=if agg then ∃ cs,v=.agg cs/\cs.toList.map kW=ks else ∃ k,ks=[k]/\kW v=k
def iY (n:Nat) (J:Env):Ck->Prop
 | .ptr=> -1<=J.i n/\0<=J.i (n+1)
 | .sl=> -1<=J.i n/\0<=J.i (n+1)/\0<=J.i (n+2)/\0<=J.i (n+3)
 | .map=> -1<=J.i n
 | .slw=>True/\0<=J.i (n+1)/\0<=J.i (n+2)/\0<=J.i (n+3)
 | _=>True
def cD:Nat->List Ck->Env->Prop
 | _,[],_=>True
 | n,k::l,J=>iY n J k/\cD (n+k.len) l J
def GW (n:Nat) (J:Env):Cp->Prop
 | .one k=>iY n J k
 | .agg ks=>cD n ks J
def dZ:Nat->List Cp->Env->Prop
 | _,[],_=>True
 | n,c::l,J=>GW n J c/\dZ (n+c.len) l J
inductive XZ | arg (i:Nat) | link (i j:Nat) | far (i j k:Nat)
structure Spec where
 fn:FuncId
 own:List XZ
 rd:List Nat
 res:List Cp
 links:List Nat:=[]
 pre:List Value->List Hl->List Hl->Prop
 post:List Value->List Hl->List Hl->Value->List Hl->Hl->Prop
structure x7 (w w':World) (Hs Hs':List Hl) (F:Hl):Prop where
 os:w'.os=w.os
 tape:w'.tape=w.tape
 output:w'.output=w.output
 size:w.heap.size<=w'.heap.size
 block:∀ b,b<w.heap.size->(∀ H∈Hs,¬H.mem b)->w'.heap[b]?=w.heap[b]?
 len:Hs'.length=Hs.length
 sub:∀ H∈Hs',H.sub w'
 fsub:F.sub w'
 dom:∀ H∈Hs',∀ b,H.mem b->(∃ K∈Hs,K.mem b)\/w.heap.size<=b
 fdom:∀ b,F.mem b->(∃ K∈Hs,K.mem b)\/w.heap.size<=b
 bP:∀ (p q:Nat) H K,p≠q->Hs'[p]?=some H->Hs'[q]?=some K->H.bP K
 fdis:∀ H∈Hs',H.bP F
def Spec.OK (P:Program) (s:Spec):Prop:=∀ w (xs:List Value) (Hs Rs:List Hl),Hs.length=s.own.length->Rs.length=s.rd.length ->
 (∀ H∈Hs,H.sub w)->(∀ R∈Rs,R.sub w)->(∀ (p q:Nat) H K,p≠q->Hs[p]?=some H->Hs[q]?=some K->H.bP K)->(∀ H∈Hs,∀ R∈Rs,H.bP R)->s.pre xs Hs Rs ->
 Calls P s.fn xs.toArray w fun e w'=>∃ (J:Env) (Hs':List Hl) (F:Hl),e=.returned ((j8 0 s.res).ev J)/\dZ 0 s.res J/\x7 w w' Hs Hs' F/\s.post xs Hs Rs ((j8 0 s.res).ev J) Hs' F
structure Ctx where
 Γ:List Spec
 inv:Nat->Env->Prop
 mu:Nat->Env->Nat
 post:Env->Mem->TV->Prop
inductive X
 | alloc (n:Nat)
 | put (n h:Nat) (x y:E) (cs:List CV)
 | app (n:Nat) (el:TypeId) (size bytes:Nat) (s:CV) (l:E) (H:bD) (src:Src)
 | grow (n:Nat) (el:TypeId) (size bytes:Nat) (olds:List CV) (l c:Nat) (src:Src)
 | mk (n:Nat) (el:TypeId) (z:List CV) (bytes:Nat) (l:E)
 | call (j n:Nat) (args:List TV) (own rd:List bD)
 | mnew (n:Nat)
 | mget (n h:Nat) (x:E) (kd:Kd) (key:CV) (z:SV) (ks:List Ck) (agg:Bool)
 | mset (n h:Nat) (x:E) (kd:Kd) (key:CV) (v:SV)
 | mclr (n h:Nat) (x:E)
 | cbs (n a:Nat) (cs:List CV) (T:TypeId)
 | QT (n:Nat) (a b:bD)
 | cpy (n h:Nat) (x y ld:E) (hs:Nat) (xs ys ls:E)
 | MM (n:Nat) (r:bD)
 | mki (n:Nat) (T:TypeId) (v:SV)
def X.n:X->Nat
 | .mnew n | .mget n _ _ _ _ _ _ _ | .mset n _ _ _ _ _ | .mclr n _ _ | .cbs n _ _ _ | .QT n _ _ | .cpy n _ _ _ _ _ _ _ _ | .MM n _ | .mki n _ _=>n
 | .alloc n | .put n _ _ _ _ | .app n _ _ _ _ _ _ _ | .grow n _ _ _ _ _ _ _ | .mk n _ _ _ _ | .call _ n _ _ _=>n
def newHs (J:Env) (n k:Nat):List Hl:=(List.range k).map fun j=>J.h (n+j)
def X.pre (C:Ctx) (J:Env):X->Prop
 | .alloc _=>True
 | .put _ h x y cs=>0<=aB J x/\0<=aB J y/\(J.h h).wr (aB J x).toNat (aB J y).toNat cs.length=true
 | .app _ el size bytes s l H src=>(∃ xs,aN (H.hl J) el size (s.ev J) (aB J l).toNat xs)/\0<=aB J l/\src.ok J size/\(aB J l).toNat+src.len J<=maxLen/\((aB J l).toNat+src.len J)*bytes<=140737488355328
 | .grow _ el size bytes olds l c src=>src.ok J size/\c<l+src.len J/\l+src.len J<=maxLen/\(l+src.len J)*bytes<=140737488355328
 | .mk _ el z bytes l=>0<=aB J l/\(bytes:Int)*aB J l<=281474976710656/\aB J l<=9223372036854775807
 | .call j _ args own rd=>match C.Γ[j]? with
  | some s=>s.pre (args.map (TV.ev J)) (own.map (bD.hl J)) (rd.map (bD.hl J))
  | none=>False
 | .mnew _=>True
 | .mget _ h x kd key z ks agg=>0<=aB J x/\∃ es clock r,J.h h (aB J x).toNat=some (.map es clock)/\mn kd (key.ev J) es=some r/\∀ i v,r=some (i,v)->np ks agg v
 | .mset _ h x kd key v=>0<=aB J x/\∃ es clock r,J.h h (aB J x).toNat=some (.map es clock)/\mn kd (key.ev J) es=some r
 | .mclr _ h x=>0<=aB J x/\∃ es clock,J.h h (aB J x).toNat=some (.map es clock)
 | .cbs _ _ _ _=>True
 | .QT _ _ _=>True
 | .MM _ _=>True
 | .mki _ _ _=>True
 | .cpy _ h x y ld hs xs ys ls=>(0<=aB J x/\0<=aB J y/\0<=aB J ld/\0<=aB J ls)/\(∃ c T,J.h h (aB J x).toNat=some (.cells c T (0,0))/\aB J y+min (aB J ls) (aB J ld)<=c.size) /\
  (min (aB J ls) (aB J ld)=0\/0<=aB J xs/\0<=aB J ys/\bG (J.h hs) (aB J xs).toNat (aB J ys).toNat (min (aB J ls) (aB J ld)).toNat=true)
def X.rel (C:Ctx) (J J':Env):X->Prop
 | .alloc n=>0<=J'.i n
 | .put n h x y cs=>J'.h n=(J.h h).put (aB J x).toNat (aB J y).toNat (cs.map (CV.ev J))
 | .app n el size bytes s l H src =>
  -1<=J'.i n/\0<=J'.i (n+1) /\
  (∀ xs,aN (H.hl J) el size (s.ev J) (aB J l).toNat xs->aN (J'.h n) el size (.slice (az (J'.i n) 0) ((aB J l).toNat+src.len J) (J'.i (n+1)).toNat) ((aB J l).toNat+src.len J) (xs++src.iB J size)) /\
  (∀ b,(H.hl J).mem b->some b≠(s.ev J).ownBlock->J'.h n b=H.hl J b) /\
  ((∀ b,(J'.h n).mem b->(H.hl J).mem b\/(b=(J'.i n).toNat/\0<=J'.i n))/\∀ xs,aN (H.hl J) el size (s.ev J) (aB J l).toNat xs->aN (J'.h n) el size (s.ev J) (aB J l).toNat xs) /\
  (some (J'.i n).toNat=(s.ev J).ownBlock\/¬(H.hl J).mem (J'.i n).toNat\/J'.i n= -1)
 | .grow n el size bytes olds l c src =>
  0<=J'.i n/\0<=J'.i (n+1) /\
  aN (J'.h n) el size (.slice (az (J'.i n) 0) (l+src.len J) (J'.i (n+1)).toNat) (l+src.len J) (olds.map (CV.ev J)++src.iB J size) /\
  (∀ b,(J'.h n).mem b->b=(J'.i n).toNat)
 | .mk n el z bytes l=>0<=J'.i n/\J'.h n=Hl.one (J'.i n).toNat (.cells (madeCells (z.map (CV.ev J)).toArray ((aB J l).toNat*z.length)) el (0,0))
 | .call j n args own rd=>match C.Γ[j]? with
  | some s=>∃ F,s.post (args.map (TV.ev J)) (own.map (bD.hl J)) (rd.map (bD.hl J)) ((j8 n s.res).ev J') (newHs J' n own.length) F/\(aK 0 s.res≠[]->J'.h (n+own.length)=F)/\dZ n s.res J'
  | none=>False
 | .mnew n=>0<=J'.i n/\J'.h n=Hl.one (J'.i n).toNat (.map #[] 0)
 | .mget n h x kd key z ks agg=>∀ es clock r,J.h h (aB J x).toNat=some (.map es clock)->mn kd (key.ev J) es=some r ->
  (lC n ks agg).ev J'=(match r with | some (_,v)=>v | none=>z.ev J)/\J'.b (n+aW ks)=r.isSome
 | .mset n h x kd key v=>∀ es clock,J.h h (aB J x).toNat=some (.map es clock)->J'.h n=(J.h h).setObj (aB J x).toNat (sC kd (key.ev J) (v.ev J) es clock)
 | .mclr n h x=>∀ es clock,J.h h (aB J x).toNat=some (.map es clock)->J'.h n=(J.h h).setObj (aB J x).toNat (.map #[] clock)
 | .cbs n a cs T=>J'.h n=Hl.one (J.i a).toNat (.cells (cs.map (CV.ev J)).toArray T (cs.length,cs.length+1))
 | .MM n r=>J'.h n=r.hl J
 | .mki n T v=>J'.v n=.iface T (v.ev J)
 | .QT n a b=>J'.h n=(a.hl J).un (b.hl J)/\(a.hl J).bP (b.hl J)
 | .cpy n h x y ld hs xs ys ls=>J'.h n=(J.h h).put (aB J x).toNat (aB J y).toNat (bR (J.h hs) (aB J xs).toNat (aB J ys).toNat (min (aB J ls) (aB J ld)).toNat)
structure As where
 n:Nat
 k:Nat
 c:CV
inductive Nd
 | tt | e (x:E) | and (a b:Nd) | imp (c:E) (a:Nd) | pre (x:X) | ext (x:X) (a:Nd)
 | inv (j:Nat) (A:List As) (hs:List (Nat×Option Nat)) | back (d j:Nat) (A:List As) (hs:List (Nat×Option Nat)) | havoc (d j n0:Nat) (a:Nd)
 | post (mem:Mem) (r:TV)
def assign (J:Env) (A:List As) (hs:List (Nat×Option Nat)):Env where
 i:=fun k=>match A.find? fun a=>a.n==k&&a.k==0 with
  | some a=>bS (some (a.c.ev J))
  | none=>J.i k
 b:=fun k=>match A.find? fun a=>a.n==k&&a.k==1 with
  | some a=>xm (some (a.c.ev J))
  | none=>J.b k
 s:=fun k=>match A.find? fun a=>a.n==k&&a.k==2 with
  | some a=>PN (some (a.c.ev J))
  | none=>J.s k
 v:=fun k=>match A.find? fun a=>a.n==k&&a.k==3 with
  | some a=>a.c.ev J
  | none=>J.v k
 h:=fun k=>match hs.find? fun p=>p.1==k with
  | some (_,some q)=>J.h q
  | some (_,none)=>Hl.none
  | none=>J.h k
def Nd.holds (C:Ctx) (ms:Nat->Nat) (J:Env):Nd->Prop
 | .tt=>True
 | .e x=>ba J x=true
 | .and a b=>a.holds C ms J/\b.holds C ms J
 | .imp c a=>ba J c=true->a.holds C ms J
 | .pre x=>x.pre C J
 | .ext x a=>∀ J',ai x.n J J'->x.rel C J J'->a.holds C ms J'
 | .inv j A hs=>C.inv j (assign J A hs)
 | .back d j A hs=>C.inv j (assign J A hs)/\C.mu j (assign J A hs)<ms d
 | .havoc d j n0 a=>∀ J',ai n0 J J'->C.inv j J'->a.holds C (fun k=>if k=d then C.mu j J' else ms k) J'
 | .post mem r=>C.post J mem r
def Wr:E->Nd
 | .tt=>.tt
 | x=>.e x
def pc:Nd->Nd->Nd
 | .tt,b=>b
 | a,.tt=>a
 | a,b=>.and a b
def wz:E->Nd->Nd
 | _,.tt=>.tt
 | .tt,a=>a
 | c,a=>.imp c a
section
variable (C:Ctx) (ms:Nat->Nat)
def uZ (x:E) (J:Env):(Wr x).holds C ms J=(ba J x=true):=by
 unfold Wr;split
 .simp [Nd.holds,cJ]
 .rfl
def fg (a b:Nd) (J:Env):(pc a b).holds C ms J=(a.holds C ms J/\b.holds C ms J):=by unfold pc;split<;>simp [Nd.holds]
def iM (c:E) (a:Nd) (J:Env):(wz c a).holds C ms J=(ba J c=true->a.holds C ms J):=by unfold wz;split<;>simp [Nd.holds,cJ]
end
section
variable {P:Program} {w:World}
def Gf (g o:Nat) (t:TypeId) (fr:Nat×Nat):∀ (vs:List Value) (i:Nat) (cur:Array Value) (w:World),w.heap[g]?=some (.cells cur t fr)->o+i+vs.length<=cur.size->(fr.2<=o+i\/o+i+vs.length<=fr.1)->(∀ v∈vs,v.oneCell'=true) ->
 (storeCells ⟨g,o,none⟩ vs i).run P w=.ok () (w.setRow g (cur.toList.take (o+i)++vs++cur.toList.drop (o+i+vs.length)).toArray)
 | [],i,cur,w,hg,_,_,_=>by
  simp only[storeCells,aa6,aa7,aaW,acK,acU];rw[setRow_self w g cur t fr hg];rfl
 | v::rest,i,cur,w,hg,hl,hf,h1=>by
  have hi:o+i<cur.size:=by simp at hl;omega
  have hadd:(⟨g,o,none⟩:Addr).add i=⟨g,o+i,none⟩:=by unfold Addr.add;split<;>simp_all
  have hcell:w.cell? ⟨g,o+i,none⟩=some cur[o+i]:=by simp [World.cell?,hg,hi]
  have hfro:w.frozen? ⟨g,o+i,none⟩=false:=by
   obtain⟨lo,hi'⟩:=fr;simp only[World.frozen?,hg,aaN]at hf ⊢;simp only[Bool.and_eq_false_iff,aa3];omega
  have hst:(store ((⟨g,o,none⟩:Addr).add i) v).run P w=.ok () (w.setRow g (cur.setIfInBounds (o+i) v)):=by
   rw[hadd,run_store P w _ v _ (h1 v aF),hcell];simp [hfro,setCell_eq_setRow w g (o+i) cur t fr v hg]
  have ih:=Gf g o t fr rest (i+1) (cur.setIfInBounds (o+i) v) (w.setRow g (cur.setIfInBounds (o+i) v)) (setRow_heap w g cur _ t _ hg) (by simp at hl ⊢;omega) (by simp only[aaN]at hf;omega) (fun x hx=>h1 x (by simp [hx]));simp only[storeCells,Sem.run_bind,hst,Result.andThen_ok,ih,setRow_setRow]
  congr 3
  have e:=list_seg_step cur.toList (o+i) v rest (by simp at hl ⊢;omega);simpa [ac3,abM] using e
def Rc (hs:h.sub w) {x:Nat} {c:Array Value} {fr:Nat×Nat} (hx:h x=some (.cells c T fr)):(h.put x y vs).sub (w.setRow x (bE c.toList y vs).toArray):=by
 intro b o hb;unfold Hl.put at hb;split at hb
 .rename_i e;subst e;rw[hx]at hb;cases hb;exact setRow_heap w b c _ T fr (hs _ _ hx)
 .rename_i e;rw[setRow_other w x b _ e];exact hs b o hb
def jm {x n:Nat} (hw:h.wr x y n=true):∃ c T fr,h x=some (.cells c T fr)/\y+n<=c.size/\(fr.2<=y\/y+n<=fr.1):=by
 unfold Hl.wr at hw;split at hw
 .rename_i c T fr hx;simp only[aah,abE,aaf]at hw;exact⟨c,T,fr,hx,hw.1,hw.2⟩
 .cases hw
def PE (hs:h.sub w) {x:Nat} (hsz:fp P t=some vs.length) (hv:v.cells.toList=vs) (h1:∀ u∈vs,u.oneCell'=true) (hw:h.wr x y vs.length=true) :
 ∃ cs,(storeVar t ⟨x,y,none⟩ v).run P w=.ok () (w.setRow x cs)/\(h.put x y vs).sub (w.setRow x cs):=by
 obtain⟨c,T,fr,hx,hle,hfr⟩:=jm hw;refine⟨(bE c.toList y vs).toArray,?_,Rc hs hx⟩;unfold storeVar;have hsize:v.cells.size=vs.length:=by rw[<-abF,hv]
 simp only[Sem.run_bind,dv hsz,Result.andThen_ok,hsize,ne_eq,ab5,abK];rw[hv];have:=Gf (P:=P) x y T fr vs 0 c w (hs _ _ hx) ah ah h1;simp only[aaW]at this;rw[this];simp [bE]
def Fs (hs:H.sub w) {n:Nat} (h:aN H e size v n xs):w.ownsRow 0 e size v n xs:=by
 refine⟨h.1,?_⟩;rcases h.2 with h | ⟨g,cap,cur,rfl,hg,r1,r2,r3,r4⟩
 .exact Or.inl h
 .exact Or.inr ⟨g,cap,cur,rfl,abi _,hs _ _ hg,r1,r2,r3,r4⟩
def MR (w:World) (u:Value) (m:Nat) (news:List Value):Prop :=
 (∃ a c,u=.slice (some a) m c/\∀ j x,news[j]?=some x->w.cell? (a.add j)=some x)\/((∃ c,u=.slice none 0 c)/\m=0/\news=[])
def Eb (base:Nat) (t ty e:TypeId) (i:TypeInfo) (size:Nat) (ht:P.underlying t=some (.slice e)) (hi:P.info? e=some i)
 (v:Value) (n:Nat) (xs:List Value) (hown:w.ownsRow base e size v n xs) (c:Nat) :
 (Builtin.append_ #[t,t] ty #[v,.slice none 0 c]).run P w=.ok v w:=by
 rcases hown.2 with ⟨rfl,rfl⟩ | ⟨g,cap,cur,rfl,_,_,hnc,_⟩
 .simp [Builtin.append_,run_underlying ht,sizeOf,typeInfo,hi,Builtin.lenOf,Builtin.firstCells]
 .simp [Builtin.append_,run_underlying ht,sizeOf,typeInfo,hi,Builtin.lenOf,Builtin.firstCells,hnc,storeCells]
def GD (hs:H.sub w) {i:TypeInfo} (ht:P.underlying t=some (.slice e)) (hi:P.info? e=some i) (hz:i.zero=some z)
 (hsize:i.size=size) (hby:i.bytes=bytes) (hzs:z.cells.size=size) (hsz:0<size) {v:Value} {n:Nat} {xs:List Value} (ho:aN H e size v n xs)
 {u:Value} {m:Nat} {news:List Value} (hl:news.length=m*size) (hu:MR w u m news) (h1:∀ x∈news,x.oneCell'=true) (h63:n+m<=maxLen) (hbytes:(n+m)*bytes<=140737488355328) :
 ∃ v' w' H',(Builtin.append_ #[t,t] ty #[v,u]).run P w=.ok v' w'/\aN H' e size v' (n+m) (xs++news)/\H'.sub w'/\w.grownBy w' v.ownBlock /\
  (∀ b,H.mem b->some b≠v.ownBlock->H' b=H b)/\(∀ b,H'.mem b->H.mem b\/(v'.ownBlock=some b/\w.heap.size<=b))/\(v'.ownBlock=v.ownBlock\/∃ b,v'.ownBlock=some b/\w.heap.size<=b)/\aN H' e size v n xs:=by
 subst hsize;subst hby;have hsmall:n+m<=9223372036854775807:=by simp only[maxLen]at h63;omega
 rcases hu with ⟨a,c,rfl,hnews⟩ | ⟨⟨c,rfl⟩,rfl,rfl⟩
 rotate_left
 .refine⟨v,w,H,Eb 0 t ty e i i.size ht hi v n xs (Fs hs ho) c,by simpa using ho,hs,⟨rfl,rfl,rfl,aaw _,fun _ _ _=>rfl⟩,fun _ _ _=>rfl,fun b hb=>Or.inl hb,Or.inl rfl,ho⟩
 have hlen:(xs++news).length=(n+m)*i.size:=by rw[aac,ho.1,hl,abQ]
 have grown:∀ (old:Nat),old<n+m->v.ownBlock=none\/(∃ g,v.ownBlock=some g/\g<w.heap.size) ->
  ∃ H',aN H' e i.size (.slice (some ⟨w.heap.size,0,none⟩) (n+m) (grownCap w (n+m) old e)) (n+m) (xs++news) /\
   H'.sub (w.drew.alloc (.cells (xs.toArray++news.toArray++Builtin.zeroCells z.cells (grownCap w (n+m) old e-(n+m))) e)) /\
   w.grownBy (w.drew.alloc (.cells (xs.toArray++news.toArray++Builtin.zeroCells z.cells (grownCap w (n+m) old e-(n+m))) e)) v.ownBlock /\
   (∀ b,H.mem b->some b≠v.ownBlock->H' b=H b)/\(∀ b,H'.mem b->H.mem b\/(some w.heap.size=some b/\w.heap.size<=b))/\aN H' e i.size v n xs:=by
  intro old hold hv;have hge:=grownCap_ge w (n+m) old e;have hcm:grownCap w (n+m) old e<=maxLen:=grownCap_le_maxLen w (n+m) old e h63
  let ob:Obj:=.cells (xs.toArray++news.toArray++Builtin.zeroCells z.cells (grownCap w (n+m) old e-(n+m))) e
  refine⟨fun b=>if b=w.heap.size then some ob else H b,⟨hlen,Or.inr ⟨w.heap.size,_,_,rfl,aav rfl,hge,hcm,?_,?_⟩⟩,?_,⟨rfl,rfl,rfl,aF,fun k hk _=>heap_alloc_old w.drew _ hk⟩,?_,?_,ho.1,ho.2.imp id fun⟨g,cap,cur,hv,hg,r⟩=>⟨g,cap,cur,hv,?_,r⟩⟩
  .simp only[Array.size_append,abW,size_zeroCells,hzs,ho.1,hl,<-abQ]
   congr 1
   omega
  .simp only[adt,aax];rw[<-aax,<-hlen];exact acs
  .intro b o hb;simp only at hb;split at hb
   .rename_i e1;subst e1;cases hb;exact heap_alloc_new w.drew _
   .have:=hs b o hb;rw[heap_alloc_old w.drew _ (aaS.1 this).1];exact this
  .intro b hb _;have:=Hl.sub_lt hs hb;exact aan ah
  .intro b hb;by_cases e1:b=w.heap.size
   .exact Or.inr ⟨by rw[e1],ah⟩
   .left;unfold Hl.mem at hb ⊢;simpa [e1] using hb
  .have:=Hl.sub_lt hs (b:=g) (by unfold Hl.mem;rw[hg];rfl);exact(aan ah).trans hg
 rcases ho.2 with ⟨rfl,rfl⟩ | ⟨g,cap,cur,rfl,hg,hnc,hcm,hcs,htake⟩
 .have hx:xs=[]:=abR (by simpa using ho.1);subst hx;by_cases hm:m=0
  .subst hm;have hn:news=[]:=abR (by simpa using hl);subst hn;refine⟨.slice none 0 0,w,H,?_,ho,hs,⟨rfl,rfl,rfl,aaw _,fun _ _ _=>rfl⟩,fun _ _ _=>rfl,fun b hb=>Or.inl hb,Or.inl rfl,ho⟩;simp [Builtin.append_,run_underlying ht,sizeOf,typeInfo,hi,Builtin.lenOf,Builtin.firstCells,loadCells,loadCellsFrom]
  .have hr:=run_append_nil (P:=P) w t ty e i z ht hi hz a m c news hl hnews ah ah (by have hb:=hbytes;simp only[aaI]at hb;omega);obtain⟨H',g1,g2,g3,g4,g5,g6⟩:=grown 0 ah (Or.inl rfl);simp only[aaI,abw,Array.empty_append]at hr g1 g2 g3 g4 g5 ⊢;exact⟨_,_,H',hr,g1,g2,g3,g4,g5,Or.inr ⟨_,rfl,aaw _⟩,g6⟩
 .by_cases hroom:n+m<=cap
  .have hfit:n*i.size+news.length<=cur.size:=by rw[hl,hcs,<-abQ];exact acq _ hroom
   have hr:=run_append_room (P:=P) w t ty e i ht hi g n cap cur (hs _ _ hg) a m c news hl hnews h1 hroom hfit;refine⟨_,_,fun b=>if b=g then some (.cells (cur.toList.take (n*i.size)++news++cur.toList.drop (n*i.size+news.length)).toArray e (0,0))else H b,hr,
    ⟨hlen,Or.inr ⟨g,cap,_,rfl,aav rfl,hroom,hcm,?_,?_⟩⟩,?_,⟨rfl,rfl,rfl,aF,fun k _ hk=>setRow_other w g k _ (fun e=>hk (by simp [Value.ownBlock,e]))⟩,?_,?_,Or.inl rfl,ho.1,Or.inr ⟨g,cap,_,rfl,aav rfl,hnc,hcm,?_,?_⟩⟩
   .simp only[abW,aac,aaA,aaK,abF];omega
   .rw[htake,<-hlen];exact acs
   .intro b o hb;simp only at hb;split at hb
    .rename_i e1;subst e1;cases hb;exact setRow_heap w b cur _ e _ (hs _ _ hg)
    .rename_i e1;rw[setRow_other w g b _ e1];exact hs b o hb
   .intro b hb hne;exact aan (fun e1=>hne (by simp [Value.ownBlock,e1]))
   .intro b hb;left;by_cases e1:b=g
    .subst e1;unfold Hl.mem;rw[hg];rfl
    .unfold Hl.mem at hb ⊢;simpa [e1] using hb
   .simp only[abW,aac,aaA,aaK,abF];omega
   .rw[htake,aax,<-ho.1];exact acs
  .have holds:∀ j u,xs[j]?=some u->w.cell? ((⟨g,0,none⟩:Addr).add j)=some u:=(Fs hs ho).cells (g:=g) rfl;have hr:=run_append_grow (P:=P) w t ty e i z ht hi hz ⟨g,0,none⟩ n cap xs ho.1 holds a m c news hl hnews ah ah (growslice_fits ah hbytes);obtain⟨H',g1,g2,g3,g4,g5,g6⟩:=grown cap ah (Or.inr ⟨g,rfl,(aaS.1 (hs _ _ hg)).1⟩);exact⟨_,_,H',hr,g1,g2,g3,g4,g5,Or.inr ⟨_,rfl,aaw _⟩,g6⟩
def Ea {i:TypeInfo} (ht:P.underlying t=some (.slice e)) (hi:P.info? e=some i) (hz:i.zero=some z)
 (hsize:i.size=size) (hby:i.bytes=bytes) (hzs:z.cells.size=size) {b:Addr} {n cap:Nat} {olds:List Value} (hlo:olds.length=n*size) (holds:∀ j x,olds[j]?=some x->w.cell? (b.add j)=some x)
 {u:Value} {m:Nat} {news:List Value} (hl:news.length=m*size) (hu:MR w u m news) (hg:cap<n+m) (hnc:n<=cap) (h63:n+m<=maxLen) (hbytes:(n+m)*bytes<=140737488355328) :
 ∃ cp ob,(Builtin.append_ #[t,t] ty #[.slice (some b) n cap,u]).run P w=.ok (.slice (some ⟨w.heap.size,0,none⟩) (n+m) cp) (w.drew.alloc ob) /\
  aN (Hl.one w.heap.size ob) e size (.slice (some ⟨w.heap.size,0,none⟩) (n+m) cp) (n+m) (olds++news):=by
 subst hsize;subst hby;have hsmall:n+m<=9223372036854775807:=by simp only[maxLen]at h63;omega
 rcases hu with ⟨a,c,rfl,hnews⟩ | ⟨⟨c,rfl⟩,rfl,rfl⟩
 rotate_left
 .omega
 have hr:=run_append_grow (P:=P) w t ty e i z ht hi hz b n cap olds hlo holds a m c news hl hnews hg ah (growslice_fits ah hbytes);have hge:=grownCap_ge w (n+m) cap e;have hcm:grownCap w (n+m) cap e<=maxLen:=grownCap_le_maxLen w (n+m) cap e h63;have hlen:(olds++news).length=(n+m)*i.size:=by rw[aac,hlo,hl,abQ]
 refine⟨_,_,hr,hlen,Or.inr ⟨w.heap.size,_,_,rfl,Hl.aT _ _,hge,hcm,?_,?_⟩⟩
 .simp only[Array.size_append,abW,size_zeroCells,hzs,hlo,hl,<-abQ]
  congr 1
  omega
 .simp only[adt,aax];rw[<-aax,<-hlen];exact acs
end
end Go.Sx
