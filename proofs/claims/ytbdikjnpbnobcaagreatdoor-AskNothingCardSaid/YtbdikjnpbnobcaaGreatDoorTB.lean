/- Bytes that are no request are told nothing and change nothing: a part of the proof. No condition. -/
import Derived.Laws.MakeOwn
import Derived.Laws.OwnMore
import Derived.Test.YtbdikjnpbnobcaaGreatDoorTA
set_option linter.all false
namespace Go.Sx
open Go
variable {ats:Array TypeId}{op:BinOp}{i:Int}{l:List CV}{is:List Nat}{vs xs:List Value}{b bytes cap d f k o size y:Nat}{hi lo mx:Option TV}{x:TV}{T e el s t ty:TypeId}{z:Value}
section
variable {P:Program} {S:Nat->Prop} {w0:World} {J:Env} {st:St} {mem:Mem} {a:Act} {w:World} {n:E} {v:TV}
def loadRow_part {v:SV} (h:loadRow P t l o=some v):(part t (l.map (CV.ev J)).toArray o).run P w=.ok (v.ev J) w:=by
 unfold loadRow at h;unfold part;split at h
 .rename_i n a hs;split at h
  .rename_i hle;cases h;simp only[Sem.run_bind,aggB_run a,Result.andThen_ok,OA,sizeT_run hs,Sem.run_pure,SV.ev]
   congr 2
   simp [Pa,Pt,List.extract_eq_take_drop]
  .cases h
 .rename_i a;simp only[MN]at h;obtain⟨x,hx,rfl⟩:=h;simp only[Sem.run_bind,aggB_run a,Result.andThen_ok,NI,Om];have:(l.map (CV.ev J)).toArray[o]?=some (x.ev J):=by simp [hx]
  simp only[this];rfl
 .cases h
def unE_sound {op:UnOp} (h:unE op x=some (n,v)):(Op.unary op (x.ev J)).run P w=.ok (v.ev J) w:=by
 unfold unE at h;split at h
 .cases h;simp only[TV.ev,SV.ev,CV.ev,bev_mkNot,Op.unary,Sem.run_pure]
 .cases h;simp only[TV.ev,SV.ev,CV.ev,iev_mkWrap,iev_mkSub,iev_lit,Op.unary,Op.intArith,Sem.run_pure]
 .cases h;simp only[TV.ev,SV.ev,CV.ev,iev_bits,iev_lit,Op.unary,Op.intBits,Sem.run_pure,bitsI]
 .cases h
def bytesOf_cons (x:Int) (l:List Int):bytesOf (x::l)=bytesOf [x]++bytesOf l:=by
 have key:∀ (l:List Int) (r:ByteArray),l.foldl (fun r n=>r.push (UInt8.ofNat n.toNat)) r=r++bytesOf l:=by
  intro l
  induction l with
  | nil=>intro r;simp [bytesOf]
  | cons y l ih =>
   intro r;simp only[Pu];rw[ih];have e:bytesOf (y::l)=ByteArray.empty.push (UInt8.ofNat y.toNat)++bytesOf l:=by
    show List.foldl _ _ _=_;rw[Pu,ih]
   rw[e,<-ByteArray.append_assoc]
   congr 1
   apply ByteArray.ext;simp [ByteArray.data_append,ByteArray.data_push]
 simp only[bytesOf,Pu,List.foldl_nil];exact key l _
def strOf_sound:∀ (l:List CV) (s:E),strOf l=some s->∃ a:List Int,l.map (CV.ev J)=a.map (Value.int .u8)/\sev J s=bytesOf a
 | [],s,h=>by cases h;exact⟨[],rfl,rfl⟩
 | c::l,s,h=>by
  unfold strOf at h;split at h
  .cases ‹c::l=[]›
  .rename_i e l' heq;cases heq;simp only[MN]at h;obtain⟨r,hr,rfl⟩:=h;obtain⟨a,h1,h2⟩:=strOf_sound _ r hr;refine⟨iev J e::a,by simp [h1,CV.ev],?_⟩;rw[sev_mkCat,sev_sbyte,h2,bytesOf_cons (iev J e) a]
  .cases h
def cellBytes_get {h:Hl} {x n:Nat} (hb:cellBytes h x y n=true):∀ j,j<n->h.cell x (y+j)=some (.int .u8 (valI (h.cell x (y+j)))):=by
 intro j b;unfold cellBytes at hb;rw[M8]at hb;have:=hb j (Nn.2 b);cases a:h.cell x (y+j)with
 | none=>simp [a,valIs]at this
 | some v =>
  rw[a]at this;cases v<;>simp [valIs]at this
  rename_i k m;subst this;rfl
def isU8_eq (h:isU8 P el=true):P.underlying el=some (.int .u8):=by
 unfold isU8 at h;split at h
 .assumption
 .cases h
def convE_sound (hm:MRel S w0 J mem w) {d:TypeId} (h:convE P mem s d x=some (n,v)) (hn:bev J n=true):(convert s d (x.ev J)).run P w=.ok (v.ev J) w:=by
 unfold convE at h;split at h
 .rename_i k F e hs hd;cases h;simp only[TV.ev,SV.ev,CV.ev,iev_mkWrap];unfold convert;simp only[Sem.run_bind,run_underlying hs,run_underlying hd,Result.andThen_ok,Conv.intToInt];rfl
 .rename_i e hs hd;cases h;simp only[TV.ev,SV.ev,CV.ev];unfold convert;simp only[Sem.run_bind,run_underlying hs,run_underlying hd,Result.andThen_ok];rfl
 .rename_i el x y l c hs hd;split at h
  .rename_i hu;have he:=isU8_eq hu;split at h
   .rename_i hx;subst hx;cases h;simp only[TV.ev,SV.ev,CV.ev,iev_lit,slP_nil,sev_slit];rw[run_convert_bytes_string w s d el _ _ _ hs he hd];rfl
   .split at h
    .rename_i a p cs T o m z;obtain⟨rfl,rfl,hk⟩:=knownP_sound z;split at h
     .rename_i hle;simp only[MN,Nr]at h;obtain⟨r,hr,rfl,rfl⟩:=h;obtain⟨A,h1,h2⟩:=strOf_sound (J:=J) _ _ hr;have q:0<=J.i a:=hm.pos _ (MG hk);simp only[TV.ev,SV.ev,CV.ev,iev_lit,iev_var,slP_pos q,MD];rw[run_convert_bytes_string w s d el _ _ _ hs he hd,run_bytesToString w _ _ _ A,h2]
      .rfl
      .have hb:=hm.blk hk;have:=run_loadCells_list (P:=P) w ⟨(J.i a).toNat,o,none⟩ (A.map (Value.int .u8)) (fun j u hu=>by
        rw[<-h1]at hu;rw[addr_add];simp only[World.cell?,hb];simp only[N7,Option.isSome_none,NI,Om];rw[MU,NB]at hu;split at hu
        .rw[Nm]at hu;rw[MU];exact hu
        .simp at hu)
       have hl:(A.map (Value.int .u8)).length=m.toNat:=by rw[<-h1];simp;omega
       rw[hl]at this;exact this
     .cases h
    .split at h
     .rename_i l _ _ _ _ k hk;have hsub:=fHp_hk hm hk;cases h;simp only[TV.ev,SV.ev,CV.ev];rw[run_convert_bytes_string w s d el _ _ _ hs he hd];rw[bev_mkOr,N6,bev_mkEq,iev_lit,MI]at hn;have t:∀ a b:E,sev J (mkIte (mkEq x (.lit (-1))) a b)=if iev J x= -1 then sev J a else sev J b:=by
       intro a b;have g:=bev_mkEq J x (.lit (-1));rw[iev_lit]at g;unfold mkIte;split
       .rename_i e;rw[e,bev_tt]at g;rw[M0 (by simpa using g.symm)]
       .rename_i e;rw[e,bev_ff]at g;rw[MM (by simpa using g.symm)]
       .split
        .rename_i e;subst e;simp
        .rw[sev_ite,g];simp
      rw[t];by_cases hx:iev J x= -1
      .rw[M0 hx,hx,slP_nil];rfl
      .rw[MM hx];have hn:=hn.resolve_left hx;rw[bev_mkOr,N6,bev_mkEq,iev_lit,MI]at hn;by_cases f:iev J l=0
       .rw[f,sev_sof,f];cases hp:slP (iev J x) (iev J y)with
        | none =>
         have h1:=slP_isNone (iev J x) (iev J y);rw[hp]at h1;exact absurd (by simpa using h1) hx
        | some a0 =>
         rw[run_bytesToString w a0 _ _ []]
         .rfl
         .exact run_loadCells_list (P:=P) w a0 [] (fun j u hu=>by cases hu)
       have hn:=hn.resolve_left f;rw[bev_mkAnd,ML,bev_mkAnd,ML,bev_mkLe,bev_mkLe,iev_lit,MI,MI,bev_hby]at hn;obtain⟨B,D,hby⟩:=hn;rw[slP_pos B,sev_sof];rw[run_bytesToString w _ _ _ (cellInts (J.h k) (iev J x).toNat (iev J y).toNat (iev J l).toNat)]
       .rfl
       .have:=run_loadCells_list (P:=P) w ⟨(iev J x).toNat,(iev J y).toNat,none⟩ ((cellInts (J.h k) (iev J x).toNat (iev J y).toNat (iev J l).toNat).map (Value.int .u8)) (fun j u hu=>by
         rw[addr_add];unfold cellInts at hu;rw[NY,MU]at hu;by_cases C:j<(iev J l).toNat
         .rw[Nf C]at hu;simp only[Nl,MP,Function.comp]at hu;rw[<-hu];exact Hl.sub_cell hsub (cellBytes_get hby j C)
         .rw[MS (by simp;omega)]at hu;cases hu)
        have hl:((cellInts (J.h k) (iev J x).toNat (iev J y).toNat (iev J l).toNat).map (Value.int .u8)).length=(iev J l).toNat:=by simp [cellInts]
        rw[hl]at this;exact this
     .cases h
  .cases h
 .cases h
def fieldPlace_run {m:Nat} (fl:Field) (hs:sizeT P fl.type=some (m+1)):(fieldPlace ⟨b,o,none⟩ fl).run P w=.ok ⟨b,o+fl.offset,none⟩ w:=by
 unfold fieldPlace;simp only[Sem.run_bind,sizeT_run hs,Result.andThen_ok,Nat.add_eq_zero_iff,Nat.one_ne_zero,and_false,Om,Sem.run_pure,addr_add]
def slP_add {x y:Int} (hx:0<=x) (hy:0<=y) (n:Nat):slP x (y+n)=some ⟨x.toNat,y.toNat+n,none⟩:=by
 rw[slP_pos hx];congr 2;omega
def fBlk_pos (hm:MRel S w0 J mem w) {a:Nat} (h:(fBlk mem a).isSome=true):0<=J.i a:=by
 obtain⟨⟨p,l,T⟩,hp⟩:=NJ.1 h;exact hm.pos _ (MG (fBlk_sound hp))
def pti_nat {s:Nat} (h:0<=i):((o:Int)+(s:Int)*i)=((o+s*i.toNat:Nat):Int):=by
 obtain⟨q,a⟩:=N3 h;rw[a,MD];simp
def fieldAddrE_sound (hm:MRel S w0 J mem w) (h:fieldAddrE P mem s f x=some (n,v)) (hn:bev J n=true):(Instr.fieldAt s (x.ev J) f).run P w=.ok (v.ev J) w:=by
 unfold fieldAddrE at h;split at h
 .rename_i fs hu;split at h
  .rename_i fl hf;split at h
   .rename_i m hs;have key:∀ b o,(Instr.fieldAt s (.pointer (some ⟨b,o,none⟩)) f).run P w=.ok (.pointer (some ⟨b,o+fl.offset,none⟩)) w:=fun b o=>by
     unfold Instr.fieldAt;simp only[Sem.run_bind,run_underlying hu,Result.andThen_ok,hf,Instr.sureAddr,Sem.run_pure,fieldPlace_run fl hs]
    split at h
    .rename_i x y;cases h;rw[bev_mkAnd,ML,bev_mkLe,iev_lit,MI]at hn;have hx:=hm.nnX hn.1;simp only[TV.ev,SV.ev,CV.ev,iev_mkAdd,iev_lit];rw[slP_pos hx,key,slP_add hx hn.2]
    .rename_i a o d n' i;split at h
     .rename_i c;cases h;obtain⟨h0,h1⟩:=inB_sound hn;have hx:=fBlk_pos hm c;simp only[TV.ev,SV.ev,CV.ev];rw[slP_pos hx,key,pti_nat h0,pti_nat h0,MD,slP_pos hx,MD]
      congr 4
      omega
     .cases h
    .cases h
   .cases h
  .cases h
 .cases h
def indexAt_arr {len m:Nat} {k:IntKind} (hu:P.underlying t=some (.array len el)) (hs:sizeT P el=some m) (h0:0<=i) (h1:i<len) :
 (Instr.indexAt t (.pointer (some ⟨b,o,none⟩)) (.int k i)).run P w=.ok (.pointer (some ⟨b,o+i.toNat*m,none⟩)) w:=by
 unfold Instr.indexAt;simp only[asIntOf,Sem.run_bind,Sem.run_pure,Result.andThen_ok,run_underlying hu,Instr.sureAddr,h0,h1,and_self,OA,sizeT_run hs,addr_add]
def indexAt_slice {len c m:Nat} {k:IntKind} (hu:P.underlying t=some (.slice el)) (hs:sizeT P el=some m) (h0:0<=i) (h1:i<len) :
 (Instr.indexAt t (.slice (some ⟨b,o,none⟩) len c) (.int k i)).run P w=.ok (.pointer (some ⟨b,o+i.toNat*m,none⟩)) w:=by
 unfold Instr.indexAt;simp only[asIntOf,Sem.run_bind,Sem.run_pure,Result.andThen_ok,run_underlying hu,h0,h1,and_self,OA,sizeT_run hs,addr_add]
def mul_toNat (h:0<=i) (m:Nat):i*(m:Int)=((i.toNat*m:Nat):Int):=by
 obtain⟨q,a⟩:=N3 h;rw[a,MD];simp
def indexAddrE_sound (hm:MRel S w0 J mem w) {i:TV} (h:indexAddrE P mem t x i=some (n,v)) (hn:bev J n=true):(Instr.indexAt t (x.ev J) (i.ev J)).run P w=.ok (v.ev J) w:=by
 unfold indexAddrE at h;split at h
 .rename_i k e;split at h
  .rename_i len el hu;split at h
   .rename_i m a o s q kk hs;split at h
    .rename_i j;split at h
     .rename_i d;cases h;obtain⟨h0,h1⟩:=inB_sound hn;have hx:=fBlk_pos hm d.2.2;simp only[TV.ev,SV.ev,CV.ev,iev_lit];rw[slP_pos hx,indexAt_arr hu hs d.1 d.2.1,pti_nat h0,pti_nat h0,MD,slP_pos hx,MD]
      congr 4
      omega
     .cases h
    .cases h
   .rename_i m x y hs;split at h
    .rename_i j _;split at h
     .rename_i d;cases h;rw[bev_mkAnd,ML,bev_mkLe,iev_lit,MI]at hn;have hx:=hm.nnX hn.1;simp only[TV.ev,SV.ev,CV.ev,iev_lit,iev_mkAdd];rw[slP_pos hx,indexAt_arr hu hs d.1 d.2,<-Int.natCast_mul,slP_add hx hn.2]
     .cases h
    .rename_i e a p l T o _ b;obtain⟨rfl,rfl,hk⟩:=knownP_sound b;cases h;obtain⟨h0,h1⟩:=inB_sound hn;have hx:0<=J.i a:=hm.pos _ (MG hk);simp only[TV.ev,SV.ev,CV.ev,iev_var,iev_lit];rw[slP_pos hx,MD,indexAt_arr hu hs h0 h1,pti_nat h0,slP_pos hx,MD,OV]
    .rename_i e _ _;cases h;rw[bev_mkAnd,ML,bev_mkAnd,ML,bev_mkLe,iev_lit,MI]at hn;obtain⟨hx,hy,hb⟩:=hn;have hx:=hm.nnX hx;obtain⟨h0,h1⟩:=inB_sound hb;simp only[TV.ev,SV.ev,CV.ev,iev_mkAdd,iev_mkMul,iev_lit];rw[slP_pos hx,indexAt_arr hu hs h0 h1,mul_toNat h0,slP_add hx hy]
   .cases h
  .rename_i el hu;split at h
   .rename_i m x y l c hs;split at h
    .rename_i j _ _;cases h;rw[bev_mkAnd,ML,bev_mkAnd,ML,bev_mkAnd,ML,bev_mkLe,bev_mkLe,bev_mkLt,MI,MI,MI,iev_lit,iev_lit]at hn;obtain⟨hx,hy,h0,h1⟩:=hn;have hx:=hm.nnX hx;simp only[TV.ev,SV.ev,CV.ev,iev_mkAdd,iev_mkMul,iev_lit];rw[slP_pos hx,indexAt_slice hu hs h0 ae,mul_toNat h0,slP_add hx hy]
    .rename_i a p l' T o q _ b;obtain⟨rfl,rfl,hk⟩:=knownP_sound b;cases h;rw[bev_mkAnd,ML]at hn;obtain⟨h0,h1⟩:=inB_sound hn.1;have hx:0<=J.i a:=hm.pos _ (MG hk);simp only[TV.ev,SV.ev,CV.ev,iev_var,iev_lit];rw[slP_pos hx,MD,indexAt_slice hu hs h0 ae,pti_nat h0,slP_pos hx,MD,OV]
    .cases h;rw[bev_mkAnd,ML,bev_mkAnd,ML,bev_mkAnd,ML,bev_mkLe,bev_mkLe,bev_mkLt,MI,MI,MI,iev_lit]at hn;obtain⟨hx,hy,h0,h1⟩:=hn;have hx:=hm.nnX hx;simp only[TV.ev,SV.ev,CV.ev,iev_mkAdd,iev_mkMul,iev_lit];rw[slP_pos hx,indexAt_slice hu hs h0 ae,mul_toNat h0,slP_add hx hy]
   .cases h
  .cases h
 .cases h
def fieldE_sound (h:fieldE P t f x=some (n,v)):(Instr.field t (x.ev J) f).run P w=.ok (v.ev J) w:=by
 unfold fieldE at h;split at h
 .rename_i fs l hu;split at h
  .rename_i fl hf;simp only[MN,Nr]at h;obtain⟨u,a,_,rfl⟩:=h;unfold Instr.field;simp only[Sem.run_bind,run_underlying hu,Result.andThen_ok,hf,TV.ev,SV.ev,asAgg,Sem.run_pure];exact loadRow_part a
  .cases h
 .cases h
def index_arr {len m:Nat} {k:IntKind} {u:SV} (hu:P.underlying t=some (.array len el)) (hs:sizeT P el=some m) (h0:0<=i) (h1:i<len)
 (hl:loadRow P el l (i.toNat*m)=some u):(Instr.index t (.agg (l.map (CV.ev J)).toArray) (.int k i)).run P w=.ok (u.ev J) w:=by
 unfold Instr.index;simp only[asIntOf,Sem.run_bind,Sem.run_pure,Result.andThen_ok,run_underlying hu,h0,h1,and_self,OA,sizeT_run hs];exact loadRow_part hl
def indexE_sound {i:TV} (h:indexE P t x i=some (n,v)) (hn:bev J n=true):(Instr.index t (x.ev J) (i.ev J)).run P w=.ok (v.ev J) w:=by
 unfold indexE at h;split at h
 .rename_i len el l k e hu;split at h
  .rename_i m hs;split at h
   .rename_i j;split at h
    .rename_i o;simp only[MN,Nr]at h;obtain⟨u,b,_,rfl⟩:=h;simp only[TV.ev,SV.ev,CV.ev,iev_lit];exact index_arr hu hs o.1 o.2 b
    .cases h
   .split at h
    .rename_i vs f;simp only[MN,Nr]at h;obtain⟨u,b,rfl,rfl⟩:=h;obtain⟨h0,h1⟩:=inB_sound hn;obtain⟨hlen,d⟩:=allSome_get f;simp only[M7,Oy]at hlen;obtain⟨z,hz,g⟩:=selSV_ev vs 0 u b ae ae;have c:=d _ _ hz;rw[PQ,MU,Nf ae]at c;simp only[Nl,MP]at c;simp only[TV.ev,g];exact index_arr hu hs h0 h1 c
    .cases h
  .cases h
 .rename_i s k e hu;cases h;rw[bev_mkAnd,ML,bev_mkLe,bev_mkLt,MI,MI,iev_lit,iev_mkLen]at hn;obtain⟨h0,h1⟩:=hn;unfold Instr.index;simp only[TV.ev,SV.ev,CV.ev,asIntOf,Sem.run_bind,Sem.run_pure,Result.andThen_ok,run_underlying hu,h0,OA];have a:(iev J e).toNat<(sev J s).size:=ae;have e1:(sev J s)[(iev J e).toNat]?=some ((sev J s)[(iev J e).toNat]'a):=getElem?_pos (sev J s) (iev J e).toNat a;have p:(sev J s).data[(iev J e).toNat]?.getD 0=(sev J s)[(iev J e).toNat]'a:=by
   rw[getElem?_pos (sev J s).data (iev J e).toNat a];rfl
  simp only[e1,iev_mkSat,p];rfl
 .cases h
def extractE_sound {i:Nat} (h:extractE i x=some (n,v)):(Instr.extract (x.ev J) i).run P w=.ok (v.ev J) w:=by
 unfold extractE at h;split at h
 .simp only[MN,Nr]at h;obtain⟨u,hu,_,rfl⟩:=h;unfold Instr.extract;simp only[TV.ev];have:((List.map (SV.ev J) ‹_›).toArray)[i]?=some (u.ev J):=by simp [hu]
  simp only[this];rfl
 .cases h
def lenE_sound (hm:MRel S w0 J mem w) (b:ats[0]?=some t) (h:lenE P mem t x=some (n,v)) (hn:bev J n=true):(Builtin.len_ ats ty #[x.ev J]).run P w=.ok (v.ev J) w:=by
 unfold lenE at h;unfold Builtin.len_;have h0:(#[x.ev J]:Array Value)[0]?=some (x.ev J):=rfl;simp only[b,h0];split at h
 .rename_i m _ hu;cases h;simp only[Sem.run_bind,run_underlying hu,Result.andThen_ok];rfl
 .rename_i el _ _ l _ hu;cases h;rw[bev_mkLe,MI,iev_lit]at hn;simp only[Sem.run_bind,run_underlying hu,Result.andThen_ok,TV.ev,SV.ev,CV.ev,Sem.run_pure,goInt,O7 hn]
 .rename_i e hu;cases h;simp only[Sem.run_bind,run_underlying hu,Result.andThen_ok,TV.ev,SV.ev,CV.ev,Sem.run_pure,goInt,iev_mkLen]
 .rename_i k f x hu;split at h
  .rename_i q d;have hsub:=fHp_hk hm d;cases h;rw[bev_mkAnd,ML,bev_mkAnd,ML,bev_mkLe,iev_lit,MI,bev_hism]at hn;obtain⟨hx,_,he⟩:=hn;have a:¬iev J x= -1:=ae;obtain⟨es,c,he⟩:∃ es c,J.h q (iev J x).toNat=some (.map es c):=by
    revert he;generalize J.h q (iev J x).toNat=o;intro he;cases o with
    | none=>cases he
    | some o=>cases o<;>first | exact⟨_,_,rfl⟩ | cases he
   have hw:=hsub _ _ he;simp only[Sem.run_bind,run_underlying hu,Result.andThen_ok,TV.ev,SV.ev,CV.ev,MM a,Sem.run_pure,goInt,iev_hmlen,he,mapLen];simp [getObj,Sem.run,hw]
  .cases h
 .cases h
def minE_sound {y z:TV} (h:minE x y=some z):(Builtin.min2 (x.ev J) (y.ev J)).run P w=.ok (z.ev J) w:=by
 unfold minE at h;split at h
 .cases h;simp only[TV.ev,SV.ev,CV.ev,Builtin.min2,iev_mkIte,bev_mkLt,MI,Sem.run_pure]
 .cases h
def maxE_sound {y z:TV} (h:maxE x y=some z):(Builtin.max2 (x.ev J) (y.ev J)).run P w=.ok (z.ev J) w:=by
 unfold maxE at h;split at h
 .cases h;simp only[TV.ev,SV.ev,CV.ev,Builtin.max2,iev_mkIte,bev_mkLt,MI,Sem.run_pure,GT.gt]
 .cases h
def foldE_sound {f:TV->TV->Option TV} {F:Value->Value->Sem Value} (hf:∀ x y z,f x y=some z->(F (x.ev J) (y.ev J)).run P w=.ok (z.ev J) w) :
 ∀ (l:List TV) (x z:TV),foldE f l x=some z->((l.map (TV.ev J)).foldlM F (x.ev J)).run P w=.ok (z.ev J) w
 | [],x,z,h=>by cases h;rfl
 | y::l,x,z,h=>by
  simp only[foldE]at h;split at h
  .rename_i u hu;simp only[M6,List.foldlM_cons,Sem.run_bind,hf x y u hu,Result.andThen_ok];exact foldE_sound hf l u z h
  .cases h
def opnds_sound (h:Rel S w0 J st a w):∀ (l:List Operand) (vs:List TV),opnds st l=some vs->l.map a.eval=vs.map (TV.ev J)
 | [],vs,ho=>by cases ho;rfl
 | x::l,vs,ho=>by
  simp only[opnds]at ho;split at ho
  .rename_i v1 v2 h1 h2;cases ho;simp only[M6,opnd_sound h h1,opnds_sound h l _ h2]
  .cases ho
def builtinE_sound (hm:MRel S w0 J mem w) {b:Builtin} {cs:Array Bool} {vs:List TV} (h:builtinE P mem b ats vs=some (n,v)) (hn:bev J n=true) :
 (builtin b ats ty cs (vs.map (TV.ev J)).toArray).run P w=.ok (.value (v.ev J)) w:=by
 unfold builtinE at h;split at h
 .split at h
  .rename_i t a;have:=lenE_sound hm (ty:=ty) a h hn;unfold builtin;simp only[M6,NN,Sem.run_bind,this,Result.andThen_ok,Sem.run_pure]
  .cases h
 .simp only[MN,Nr]at h;obtain⟨u,hu,_,rfl⟩:=h;have:=foldE_sound (P:=P) (w:=w) (J:=J) (fun x y z=>minE_sound) _ _ _ hu;unfold builtin;simp only[M6,Sem.run_bind,Builtin.min_,this,Result.andThen_ok,Sem.run_pure]
 .simp only[MN,Nr]at h;obtain⟨u,hu,_,rfl⟩:=h;have:=foldE_sound (P:=P) (w:=w) (J:=J) (fun x y z=>maxE_sound) _ _ _ hu;unfold builtin;simp only[M6,Sem.run_bind,Builtin.max_,this,Result.andThen_ok,Sem.run_pure]
 .cases h
def foldl_splice (off:Nat):∀ (vs:List Value) (k:Nat) (arr:Array Value),off+k+vs.length<=arr.size ->
 (vs.zipIdx k).foldl (fun cs (p:Value×Nat)=>cs.setIfInBounds (off+p.2) p.1) arr=(splice arr.toList (off+k) vs).toArray
 | [],k,arr,h=>by simp [splice]
 | x::vs,k,arr,h=>by
  simp only[Nk]at h;rw[List.zipIdx_cons,Pu,foldl_splice off vs (k+1) _ (by simp;omega)]
  congr 1
  have:=list_seg_step arr.toList (off+k) x vs (by simp;omega);simpa [splice,PB,Ow] using this
def fillE_sound {place:Nat->Option (Nat×Nat)} : ∀ (ps:List (Nat×SV)) (l r:List CV),fillE place l ps=some r ->
 Instr.fill place (l.map (CV.ev J)).toArray (ps.map fun p=>(p.1,p.2.ev J))=some (r.map (CV.ev J)).toArray
 | [],l,r,h=>by cases h;rfl
 | (i,v)::ps,l,r,h=>by
  simp only[fillE]at h;split at h
  .cases h
  .rename_i off size hp;split at h
   .rename_i b;obtain⟨h1,h2,c⟩:=b;have a:=SV.cells_ev (J:=J) v c;have hsz:(v.ev J).cells.size=v.cells.length:=by rw[<-Of,a];simp
    have hle:¬off+(v.ev J).cells.size>(l.map (CV.ev J)).toArray.size:=by rw[hsz];simp;omega
    simp only[M6,Instr.fill,hp];rw[MM (by simp only[hsz,h1,ne_eq,OJ,decide_false,Bool.false_or,MI];rw[<-h1,<-hsz];exact hle)];have e:(v.ev J).cells.zipIdx.foldl (fun cs (p:Value×Nat)=>cs.setIfInBounds (off+p.2) p.1) (l.map (CV.ev J)).toArray=((splice l off v.cells).map (CV.ev J)).toArray:=by
     rw[<-Array.foldl_toList,Array.toList_zipIdx,a];have:=foldl_splice off (v.cells.map (CV.ev J)) 0 (l.map (CV.ev J)).toArray (by simp;omega);rw[this];simp [splice,M9,Pa,Pt]
    have ih:=fillE_sound ps _ _ h;rw[<-ih];exact Ns (fun z=>Instr.fill place z _) e
   .cases h
def svs_ev:∀ (l:List TV) (m:List SV),svs l=some m->l.map (TV.ev J)=m.map (SV.ev J)
 | [],m,h=>by cases h;rfl
 | .sv v::l,m,h=>by
  simp only[svs,MN]at h;obtain⟨r,hr,rfl⟩:=h;simp only[M6,svs_ev l r hr];rfl
 | .tup _::l,m,h=>by simp [svs]at h
def places_run:∀ (fs:List Field) (ps:List (Nat×Nat)),allSome (fs.map fun f=>(sizeT P f.type).map fun n=>(f.offset,n))=some ps ->
 (fs.mapM fun(f:Field)=>(do pure (f.offset,<-sizeOf f.type):Sem (Nat×Nat))).run P w=.ok ps w
 | [],ps,h=>by cases h;rfl
 | f::fs,ps,h=>by
  simp only[M6]at h;cases hs:sizeT P f.type with
  | none=>simp [hs,allSome]at h
  | some m =>
   simp only[hs,Nl,allSome,MN]at h;obtain⟨r,hr,rfl⟩:=h;have ih:=places_run fs r hr;simp only[PY,Sem.run_bind,sizeT_run hs,Result.andThen_ok,Sem.run_pure,ih]
def map_zip2 {α β a:Type} {f:α->β} {h:α->a} : ∀ (l:List α),l.map (fun x=>(f x,h x))=(l.map f).zip (l.map h)
 | []=>rfl
 | x::l=>by simp [map_zip2 l]
def zip_ev:∀ (is:List Nat) (vs:List SV),(is.zip vs).map (fun p=>(p.1,p.2.ev J))=is.zip (vs.map (SV.ev J))
 | [],_=>rfl
 | _::_,[]=>rfl
 | i::is,v::vs=>by simp [zip_ev is vs]
def buildE_sound {vs:List TV} (h:buildE P t is vs=some (n,v)):(Instr.build t (is.zip (vs.map (TV.ev J))).toArray).run P w=.ok (v.ev J) w:=by
 unfold buildE at h;split at h
 .rename_i z us hz b;rw[svs_ev _ _ b,<-zip_ev];have a:z.cells=((z.cells.toList.map liftC).map (CV.ev J)).toArray:=by rw[map_liftC]
  unfold Instr.build;simp only[Sem.run_bind,zeroT_run hz,Result.andThen_ok];split at h
  .rename_i fs hu;split at h
   .rename_i places hp;simp only[MN,Nr]at h;obtain⟨r,hr,_,rfl⟩:=h;have hf:=fillE_sound (J:=J) _ _ _ hr;rw[<-a]at hf;have c:(fs.mapM fun(f:Field)=>(do pure (f.offset,<-sizeOf f.type):Sem (Nat×Nat))).run P w=.ok places.toArray w:=by
     have:=places_run (w:=w) _ _ hp;obtain⟨fs⟩:=fs;simp only[PJ,Sem.run_map,this,Result.andThen_ok]
    simp only[run_underlying hu,Result.andThen_ok,Sem.run_bind,c];have e:(fun(i:Nat)=>places.toArray[i]?)=(fun(i:Nat)=>places[i]?):=by funext i;simp
    simp only[e,hf];rfl
   .cases h
  .rename_i m el hu;split at h
   .rename_i q hs;simp only[MN,Nr]at h;obtain⟨r,hr,_,rfl⟩:=h;have hf:=fillE_sound (J:=J) _ _ _ hr;rw[<-a]at hf;simp only[run_underlying hu,Result.andThen_ok,Sem.run_bind,sizeT_run hs,hf];rfl
   .cases h
  .cases h
 .cases h
def boxI_sound {vs:List TV} (h:boxI P t is vs=some (n,v)) (hn:bev J n=true):(Instr.build t (is.zip (vs.map (TV.ev J))).toArray).run P w=.ok (v.ev J) w:=by
 unfold boxI at h;split at h
 .rename_i j z fs hz hu;split at h
  .rename_i y f k hf;split at h
   .rename_i ho;cases h;rw[bev_le,MI]at hn;have hv:(J.v j).oneCell'=true:=by
     rcases vcode_le hn with h | ⟨a,b,h⟩<;>rw[h]<;>rfl
    have d:(fs.mapM fun(f:Field)=>(do pure (f.offset,<-sizeOf f.type):Sem (Nat×Nat))).run P w=.ok #[(0,1)] w:=by
     have:=places_run (P:=P) (w:=w) fs.toList [(0,1)] (by rw[hf];simp [ho.1,ho.2,allSome]);obtain⟨fs⟩:=fs;simp only[PJ,Sem.run_map,this,Result.andThen_ok]
    have g:z.cells=((z.cells.toList.map liftC).map (CV.ev J)).toArray:=by rw[map_liftC]
    have c:=fillE_sound (J:=J) (place:=fun i=>([(0,1)]:List (Nat×Nat))[i]?) [(0,.one (.val (J.v j)))] (z.cells.toList.map liftC) [.val (J.v j)] (by
     rw[k];simp [fillE,SV.cells,CV.cellB,hv,splice])
    rw[<-g]at c;unfold Instr.build;simp only[Sem.run_bind,zeroT_run hz,Result.andThen_ok,run_underlying hu,d];have e:(fun(i:Nat)=>(#[(0,1)]:Array (Nat×Nat))[i]?)=(fun(i:Nat)=>([(0,1)]:List (Nat×Nat))[i]?):=by funext i;simp
    have m:([0].zip ([TV.sv (.one (.vr j))].map (TV.ev J))).toArray.toList=[(0,J.v j)]:=rfl;simp only[e];have c:Instr.fill (fun i=>([(0,1)]:List (Nat×Nat))[i]?) z.cells [(0,J.v j)]=some #[J.v j]:=c;have l:[0].zip ([TV.sv (.one (.vr j))].map (TV.ev J))=[(0,J.v j)]:=rfl;rw[l,c];rfl
   .cases h
  .cases h
 .cases h
def eqFsE_sound {rec:TypeId->SV->SV->Option E} {D:Nat} (c:∀ t x y e,rec t x y=some e->(Op.equalIn D t (x.ev J) (y.ev J)).run P w=.ok (bev J e) w) {xs ys:List CV} :
 ∀ (fs:List Field) (e:E),eqFsE P rec xs ys fs=some e->(Op.eqFields D (xs.map (CV.ev J)).toArray (ys.map (CV.ev J)).toArray fs).run P w=.ok (bev J e) w
 | [],e,h=>by cases h;simp [Op.eqFields,bev_tt]
 | f::fs,e,h=>by
  unfold eqFsE at h;unfold Op.eqFields;split at h
  .rename_i hn;rw[M0 hn];split at h
   .rename_i a b d hb;split at h
    .rename_i q r g hr;cases h;have ih:=eqFsE_sound c fs r hr;simp only[Sem.run_bind,loadRow_part d,loadRow_part hb,Result.andThen_ok,c _ _ _ _ g,bev_mkAnd];cases hb:bev J q with
     | true=>simpa using ih
     | false=>simp
    .cases h
   .cases h
  .rename_i hn;rw[MM hn];exact eqFsE_sound c fs e h
def eqIsE_sound {rec:TypeId->SV->SV->Option E} {D:Nat} (c:∀ t x y e,rec t x y=some e->(Op.equalIn D t (x.ev J) (y.ev J)).run P w=.ok (bev J e) w) {t:TypeId} {xs ys:List CV} :
 ∀ (is:List Nat) (e:E),eqIsE P rec t xs ys is=some e->(Op.eqItems D t (P.cellsOf t) (xs.map (CV.ev J)).toArray (ys.map (CV.ev J)).toArray is).run P w=.ok (bev J e) w
 | [],e,h=>by cases h;simp [Op.eqItems,bev_tt]
 | i::is,e,h=>by
  unfold eqIsE at h;unfold Op.eqItems;split at h
  .rename_i a b d hb;split at h
   .rename_i q r f hr;cases h;have ih:=eqIsE_sound c is r hr;simp only[Sem.run_bind,loadRow_part d,loadRow_part hb,Result.andThen_ok,c _ _ _ _ f,bev_mkAnd];cases hb:bev J q with
    | true=>simpa using ih
    | false=>simp
   .cases h
  .cases h
def ba_beq (a b:ByteArray):(a==b)=decide (a=b):=by
 rw[OU];simp only[MI];cases a;cases b;simp only[BEq.beq,ByteArray.beq,ByteArray.mk.injEq];exact⟨fun h=>Array.eq_of_isEqv _ _ (by simpa [BEq.beq] using h),fun h=>by subst h;simpa [BEq.beq] using Array.isEqv_self _⟩
def eqSV_shape {a b:CV} {e:E} (h:eqSV P (d+1) t (.one a) (.one b)=some e):(∃ k x f y,a=.int k x/\b=.int f y)\/(∃ x y,a=.str x/\b=.str y)\/(∃ x y,a=.bool x/\b=.bool y)\/(∃ x y l c x' y' l' c',a=.sl x y l c/\b=.sl x' y' l' c')\/(∃ x y x' y',a=.hptr x y/\b=.hptr x' y')\/(∃ x y,a=.map x/\b=.map y):=by
 unfold eqSV at h;cases hu:P.underlying t with
 | none=>simp [hu]at h
 | some g=>cases g<;>simp only[hu]at h<;>first | (cases h;done) | (cases a<;>first | (cases h;done) | (cases b<;>first | (cases h;done) | simp))
def nilEq_sound {x x':E} {e:E} (he:(if x'=.lit (-1)then some (mkEq x (.lit (-1)))else if x=.lit (-1)then some (mkEq x' (.lit (-1)))else none)=some e) :
 (iev J x'= -1/\bev J e=decide (iev J x= -1))\/(iev J x= -1/\bev J e=decide (iev J x'= -1)):=by
 split at he
 .rename_i hx;cases he;subst hx;exact Or.inl ⟨rfl,by rw[bev_mkEq];rfl⟩
 .split at he
  .rename_i hx;cases he;subst hx;exact Or.inr ⟨rfl,by rw[bev_mkEq];rfl⟩
  .cases he
def eqSV_sound:∀ (d:Nat) (t:TypeId) (x y:SV) (e:E) (D:Nat),d<=D->eqSV P d t x y=some e->(Op.equalIn D t (x.ev J) (y.ev J)).run P w=.ok (bev J e) w
 | 0,_,_,_,_,_,_,h=>by cases h
 | d+1,t,x,y,e,D,g,h=>by
  obtain⟨D,rfl⟩:∃ D',D=D'+1:=⟨D-1,ae⟩;have ih:∀ t x y e,eqSV P d t x y=some e->(Op.equalIn D t (x.ev J) (y.ev J)).run P w=.ok (bev J e) w:=fun t x y e h=>eqSV_sound d t x y e D ae h;unfold eqSV at h;split at h
  .rename_i hu;split at h
   .cases h;simp [Op.equalIn,Sem.run_bind,run_underlying hu,SV.ev,CV.ev,bev_mkBeq]
   .cases h
  .rename_i kk hu;split at h
   .split at h
    .rename_i hk;subst hk;cases h;simp [Op.equalIn,Sem.run_bind,run_underlying hu,SV.ev,CV.ev,bev_mkEq];rfl
    .cases h
   .cases h
  .rename_i hu;split at h
   .rename_i a b;cases h;have:(sev J a==sev J b)=decide (sev J a=sev J b):=ba_beq _ _;simp only[Op.equalIn,Sem.run_bind,run_underlying hu,SV.ev,CV.ev,bev_mkSeq,Result.andThen_ok,Sem.run_pure,this]
   .cases h
  .rename_i el hu;split at h
   .rename_i x c q1 j x' f q2 l;rw[Op.equalIn];simp only[Sem.run_bind,run_underlying hu,Result.andThen_ok,SV.ev,CV.ev];rcases nilEq_sound (J:=J) h with ⟨h1,h2⟩ | ⟨h1,h2⟩
    .rw[h1,slP_nil,h2];cases hs:slP (iev J x) (iev J c)with
     | none=>have:=slP_isNone (iev J x) (iev J c);rw[hs]at this;simp at this;simp [this]
     | some q=>have:=slP_isNone (iev J x) (iev J c);rw[hs]at this;simp at this;simp [this]
    .rw[h1,slP_nil,h2];simp [slP_isNone]
   .cases h
  .rename_i el hu;split at h
   .rename_i x c x' f;rw[Op.equalIn];simp only[Sem.run_bind,run_underlying hu,Result.andThen_ok,SV.ev,CV.ev];rcases nilEq_sound (J:=J) h with ⟨h1,h2⟩ | ⟨h1,h2⟩
    .rw[h1,slP_nil,h2];cases hs:slP (iev J x) (iev J c)with
     | none=>have:=slP_isNone (iev J x) (iev J c);rw[hs]at this;simp at this;simp [this]
     | some q=>have:=slP_isNone (iev J x) (iev J c);rw[hs]at this;simp at this;simp [this]
    .rw[h1,slP_nil,h2];simp [slP_isNone]
   .cases h
  .rename_i k el hu;split at h
   .rename_i x x';rw[Op.equalIn];simp only[Sem.run_bind,run_underlying hu,Result.andThen_ok,SV.ev,CV.ev];rcases nilEq_sound (J:=J) h with ⟨h1,h2⟩ | ⟨h1,h2⟩
    .rw[h1,M0 rfl,h2];by_cases hx:iev J x= -1
     .simp [hx]
     .simp [hx]
    .rw[h1,M0 rfl,h2];by_cases hx:iev J x'= -1
     .simp [hx]
     .simp [hx]
   .cases h
  .rename_i fs hu;split at h
   .split at h
    .rename_i hp;have hf:P.fieldsOf t=fs:=by simp [Program.fieldsOf,hu]
     simp only[SV.ev];rw[run_equalIn_struct w D t _ _ (by rw[hf];exact hu) hp,hf];exact eqFsE_sound ih _ _ h
    .cases h
   .cases h
  .rename_i n el hu;split at h
   .split at h
    .rename_i i hi;simp only[SV.ev];rw[run_equalIn_array w D _ _ hu hi];exact eqIsE_sound ih _ _ h
    .cases h
   .cases h
  .cases h
def binE_sound {y:TV} {X Y:Operand} (h:binE P op t x y=some (n,v)) (hn:bev J n=true) :
 Sem.run P (do eqGuard op t X Y (x.ev J) (y.ev J);binOp op t (x.ev J) (y.ev J)) w=.ok (v.ev J) w:=by
 unfold binE at h;split at h
 .rename_i k a j b;have:=binI_sound (T:=t) (w:=w) (P:=P) h hn;simp only[TV.ev,SV.ev,CV.ev]at this ⊢;have hg:(eqGuard op t X Y (.int k (iev J a)) (.int j (iev J b))).run P w=.ok () w:=by
   unfold eqGuard;split<;>rfl
  simp only[Sem.run_bind,hg,Result.andThen_ok];exact this
 .rename_i a b;have:=binS_sound (T:=t) (w:=w) (P:=P) h hn;simp only[TV.ev,SV.ev,CV.ev]at this ⊢;have hg:(eqGuard op t X Y (.string (sev J a)) (.string (sev J b))).run P w=.ok () w:=by
   unfold eqGuard;split<;>rfl
  simp only[Sem.run_bind,hg,Result.andThen_ok];exact this
 .rename_i a b d f;split at h
  .rename_i e he;have heq:(Op.equal t (a.ev J) (b.ev J)).run P w=.ok (bev J e) w:=eqSV_sound 20 t _ _ e 10000 aj he;have g:(∃ x y,a=.bool x/\b=.bool y)\/(∃ x y l c x' y' l' c',a=.sl x y l c/\b=.sl x' y' l' c')\/(∃ x y x' y',a=.hptr x y/\b=.hptr x' y')\/(∃ x y,a=.map x/\b=.map y):=by
    rcases eqSV_shape he with ⟨_,_,_,_,rfl,rfl⟩ | ⟨_,_,rfl,rfl⟩ | h | h | h | h
    .exact(d _ _ _ _ rfl rfl).elim
    .exact(f _ _ rfl rfl).elim
    .exact Or.inl h
    .exact Or.inr (Or.inl h)
    .exact Or.inr (Or.inr (Or.inl h))
    .exact Or.inr (Or.inr (Or.inr h))
   rcases g with ⟨x,y,rfl,rfl⟩ | ⟨x,y,l,c,x',y',l',c',rfl,rfl⟩ | ⟨x,y,x',y',rfl,rfl⟩ | ⟨x,y,rfl,rfl⟩
   all_goals
    split at h
    .cases h;simp only[TV.ev,SV.ev]at heq ⊢;simp only[CV.ev]at heq ⊢;simp only[Sem.run_bind,eqGuard,binOp,heq,Sem.run_pure,Result.andThen_ok];simp [heq]
    .cases h;simp only[TV.ev,SV.ev]at heq ⊢;simp only[CV.ev]at heq ⊢;simp [Sem.run_bind,eqGuard,binOp,heq,bev_mkNot]
    .cases h
  .cases h
 .rename_i a b;split at h
  .rename_i i;have hg:∀ op,(eqGuard op t X Y (SV.ev J (.agg a)) (SV.ev J (.agg b))).run P w=.ok () w:=by
    intro op;cases op<;>simp [eqGuard,SV.ev,Sem.run_bind,run_program,i]
   split at h
   .rename_i e he;have heq:(Op.equal t (SV.ev J (.agg a)) (SV.ev J (.agg b))).run P w=.ok (bev J e) w:=eqSV_sound 20 t _ _ e 10000 aj he;split at h
    .cases h;simp only[SV.ev]at hg heq;simp only[TV.ev,SV.ev,CV.ev,Sem.run_bind,hg,Result.andThen_ok,binOp,heq,Sem.run_pure]
    .cases h;simp only[SV.ev]at hg heq;simp only[TV.ev,SV.ev,CV.ev,Sem.run_bind,hg,Result.andThen_ok,binOp,heq,Sem.run_pure,bev_mkNot]
    .cases h
   .cases h
  .cases h
 .cases h
end
section
variable {P:Program} {S:Nat->Prop} {w0:World} {J:Env} {st:St} {mem:Mem} {a:Act} {w:World} {n:E} {v:TV}
def MRel.nnX1 (h:MRel S w0 J mem w) {x:E} (hx:bev J (nnX1 mem x)=true):-1<=iev J x:=by
 unfold Sx.nnX1 at hx;split at hx
 .split at hx
  .rename_i a b;have:=fBlk_pos h b;rw[iev_var];omega
  .rw[bev_le,iev_lit,MI]at hx;exact hx
 .rw[bev_mkLe,iev_lit,MI]at hx;exact hx
def sliceBound_run {k:IntKind} {code:BoundsCode} (h0:0<=i) (h1:i<=y):(Instr.sliceBound (.int k i) y code).run P w=.ok i.toNat w:=by
 unfold Instr.sliceBound;simp only[asIntOf,Sem.run_bind,Sem.run_pure,Result.andThen_ok,h0,h1,and_self,OA]
def boundE_ev {d:E} {x:Option TV} {e:E} (h:boundE d x=some e):(x=none/\e=d)\/∃ k,x.map (TV.ev J)=some (.int k (iev J e)):=by
 unfold boundE at h;split at h
 .cases h;exact Or.inl ⟨rfl,rfl⟩
 .cases h;exact Or.inr ⟨_,rfl⟩
 .cases h
def sliceBounds_run {isSlice:Bool} {len:Nat} {dl b l h:E} (hl:boundE dl lo=some l) (hh:boundE b hi=some h) (h0:iev J dl=0) (h1:iev J b=len)
 (a0:0<=iev J l) (a1:iev J l<=iev J h) (a2:iev J h<=cap) :
 (Instr.sliceBounds isSlice len cap (lo.map (TV.ev J)) (hi.map (TV.ev J)) none).run P w=.ok ((iev J l).toNat,(iev J h).toNat,cap) w:=by
 unfold Instr.sliceBounds;simp only[Sem.run_bind,Sem.run_pure,Result.andThen_ok];rcases boundE_ev (J:=J) hh with ⟨rfl,rfl⟩ | ⟨k,hk⟩
 .simp only[OB,Sem.run_pure,Result.andThen_ok];rw[h1];rcases boundE_ev (J:=J) hl with ⟨rfl,rfl⟩ | ⟨c,a⟩
  .simp only[OB,Sem.run_pure,Result.andThen_ok,h0,MD];rfl
  .simp only[a,Sem.run_bind,Sem.run_pure,Result.andThen_ok];rw[sliceBound_run a0 ae];simp
 .simp only[hk,Sem.run_bind];rw[sliceBound_run ae a2];simp only[Result.andThen_ok];rcases boundE_ev (J:=J) hl with ⟨rfl,rfl⟩ | ⟨c,a⟩
  .simp only[OB,Sem.run_pure,Result.andThen_ok,h0];rfl
  .simp only[a,Sem.run_bind];rw[sliceBound_run a0 ae];simp
def shiftE_ev {m l y:E} (hl:0<=iev J l):iev J (shiftE m l y k)=if iev J m=iev J l then iev J y else iev J y+(((iev J l).toNat*k:Nat):Int):=by
 unfold shiftE;rw[iev_mkIte,bev_mkEq,iev_mkAdd,iev_mkMul,iev_lit,mul_toNat hl];by_cases h:iev J m=iev J l<;>simp [h]
def slP_addr {x y:Int} (hx:-1<=x) (hy:0<=y) (k:Nat):(slP x y).map (·.add k)=slP x (y+k):=by
 by_cases h:0<=x
 .rw[slP_pos h,slP_add h hy,Nl,addr_add]
 .have:x= -1:=ae;subst this;rfl
def sliceE_sound (hm:MRel S w0 J mem w) (h:sliceE P mem t x lo hi mx=some (n,v)) (hn:bev J n=true) :
 (Instr.sliceAt t (x.ev J) (lo.map (TV.ev J)) (hi.map (TV.ev J)) (mx.map (TV.ev J))).run P w=.ok (v.ev J) w:=by
 unfold sliceE at h;split at h
 .cases h
 .split at h
  .rename_i s hu;split at h
   .rename_i l hh hl a;cases h;rw[bev_mkAnd,ML,bev_mkAnd,ML,bev_mkLe,bev_mkLe,bev_mkLe,iev_lit,MI,MI,MI,iev_mkLen]at hn;obtain⟨a0,a1,a2⟩:=hn;have hb:=sliceBounds_run (P:=P) (w:=w) (isSlice:=false) (len:=(sev J s).size) (cap:=(sev J s).size) hl a (iev_lit _ _) (iev_mkLen _ _) a0 a1 a2;unfold Instr.sliceAt;simp only[Sem.run_bind,run_underlying hu,Result.andThen_ok];unfold Instr.slice;simp only[Sem.run_bind,run_underlying hu,Result.andThen_ok,TV.ev,SV.ev,CV.ev,OB,Option.isSome_none,NI,Om,Sem.run_pure,hb,sev_sext]
   .cases h
  .rename_i el x y len cap hu;split at h
   .rename_i l hh k hl a hs;cases h;rw[bev_mkAnd,ML,bev_mkAnd,ML,bev_mkAnd,ML,bev_mkAnd,ML,bev_mkLe,bev_mkLe,bev_mkLe,bev_mkLe,iev_lit,MI,MI,MI,MI]at hn;obtain⟨hx,hy,a0,a1,a2⟩:=hn;have hx:=hm.nnX1 hx;by_cases hlen:0<=iev J len
    .have hb:=sliceBounds_run (P:=P) (w:=w) (isSlice:=true) (len:=(iev J len).toNat) (cap:=(iev J cap).toNat) hl a (iev_lit _ _) (by rw[O7 hlen]) a0 a1 ae;unfold Instr.sliceAt;simp only[Sem.run_bind,run_underlying hu,Result.andThen_ok];unfold Instr.slice;simp only[Sem.run_bind,run_underlying hu,Result.andThen_ok,TV.ev,SV.ev,CV.ev,OB,hb,sizeT_run hs,Sem.run_pure,shiftE_ev a0,iev_mkSub]
     congr 2
     .by_cases b:iev J cap=iev J l
      .rw[M0 (by rw[b]),M0 b]
      .rw[MM ae,MM b,slP_addr hx hy]
     .omega
     .omega
    .
     rcases boundE_ev (J:=J) a with ⟨rfl,rfl⟩ | ⟨kk,hk⟩
     .omega
     .unfold Instr.sliceAt;simp only[Sem.run_bind,run_underlying hu,Result.andThen_ok];unfold Instr.slice;simp only[Sem.run_bind,run_underlying hu,Result.andThen_ok,TV.ev,SV.ev,CV.ev,OB];have hb:(Instr.sliceBounds true (iev J len).toNat (iev J cap).toNat (lo.map (TV.ev J)) (hi.map (TV.ev J)) none).run P w=.ok ((iev J l).toNat,(iev J hh).toNat,(iev J cap).toNat) w:=by
       unfold Instr.sliceBounds;simp only[Sem.run_bind,Sem.run_pure,Result.andThen_ok,hk];rw[sliceBound_run ae ae];simp only[Result.andThen_ok];rcases boundE_ev (J:=J) hl with ⟨rfl,rfl⟩ | ⟨d,c⟩
       .simp only[OB,Sem.run_pure,Result.andThen_ok,iev_lit];rfl
       .simp only[c,Sem.run_bind];rw[sliceBound_run a0 ae];simp
      simp only[hb,sizeT_run hs,Sem.run_pure,shiftE_ev a0,iev_mkSub,Result.andThen_ok]
      congr 2
      .by_cases b:iev J cap=iev J l
       .rw[M0 (by rw[b]),M0 b]
       .rw[MM ae,MM b,slP_addr hx hy]
      .omega
      .omega
   .cases h
  .rename_i q el x y hu;split at h
   .rename_i l hh k hl a hs;cases h;rw[bev_mkAnd,ML,bev_mkAnd,ML,bev_mkAnd,ML,bev_mkAnd,ML,bev_mkLe,bev_mkLe,bev_mkLe,bev_mkLe,iev_lit,iev_lit,MI,MI,MI,MI]at hn;obtain⟨hx,hy,a0,a1,a2⟩:=hn;have hx:=hm.nnX hx;have hb:=sliceBounds_run (P:=P) (w:=w) (isSlice:=false) (len:=q) (cap:=q) hl a (iev_lit _ _) (iev_lit _ _) a0 a1 a2;have es:iev J (shiftE (.lit q) l y k)=if(q:Int)=iev J l then iev J y else iev J y+(((iev J l).toNat*k:Nat):Int):=shiftE_ev a0
    unfold Instr.sliceAt;simp only[Sem.run_bind,run_underlying hu,Result.andThen_ok,TV.ev,SV.ev,CV.ev,slP_pos hx,Instr.sureAddr,Sem.run_pure,OB,hb,sizeT_run hs,es,iev_mkSub,iev_lit]
    congr 2
    .by_cases b:(q:Int)=iev J l
     .rw[M0 ae,M0 b]
     .rw[MM ae,MM b,addr_add];congr 2;omega
    .omega
    .omega
   .cases h
  .cases h
def optOp_ev {o:Option Operand} {x:Option TV} (hr:Rel S w0 J st a w) (h:(match o with | none=>some none | some o=>(opnd st o).map some)=some x):o.map a.eval=x.map (TV.ev J):=by
 cases o with
 | none=>simp only[MP]at h;subst h;rfl
 | some o =>
  simp only[MN]at h;obtain⟨y,hy,rfl⟩:=h;simp [opnd_sound hr hy]
def nilCmp_sound (hr:Rel S w0 J st a w) {x y:Operand} (h:nilCmp P st op t x y=some (n,v)) (hn:bev J n=true) :
 Sem.run P (do eqGuard op t x y (a.eval x) (a.eval y);binOp op t (a.eval x) (a.eval y)) w=.ok (v.ev J) w:=by
 unfold nilCmp at h;split at h
 .rename_i j hx;have e1:=opnd_sound hr hx;simp only[TV.ev,SV.ev,CV.ev]at e1;have b:a.eval (.const .nilIface)=.nilIface:=rfl;split at h
  .rename_i ms c;have heq:(Op.equal t (J.v j) .nilIface).run P w=.ok (decide (vcode (J.v j)=0)) w:=by
    have hd:∀ v:Value,v=.nilIface\/(∃ t x,v=.iface t x)->(Op.equal t v .nilIface).run P w=.ok (decide (vcode v=0)) w:=by
     rintro v (rfl | ⟨t',x',rfl⟩)
     .show(Op.equalIn (9999+1) t .nilIface .nilIface).run P w=_;rw[Op.equalIn];simp only[Sem.run_bind,run_underlying c,Result.andThen_ok,Sem.run_pure,vcode];rfl
     .show(Op.equalIn (9999+1) t (.iface t' x') .nilIface).run P w=_;rw[Op.equalIn];simp only[Sem.run_bind,run_underlying c,Result.andThen_ok,Sem.run_pure,vcode];rfl
    refine hd _ (vcode_le ?_);split at h
    .cases h;rw[bev_le,MI]at hn;exact hn
    .cases h;rw[bev_le,MI]at hn;exact hn
    .cases h
   have hv:J.v j=.nilIface\/(∃ t x,J.v j=.iface t x):=by
    refine vcode_le ?_;split at h
    .cases h;rw[bev_le,MI]at hn;exact hn
    .cases h;rw[bev_le,MI]at hn;exact hn
    .cases h
   have hg:∀ op,(eqGuard op t x (.const .nilIface) (J.v j) .nilIface).run P w=.ok () w:=by
    intro op;rcases hv with h | ⟨t',x',h⟩<;>rw[h]<;>cases op<;>simp [eqGuard]
   have hb:(binOp .eql t (J.v j) .nilIface).run P w=.ok (.bool (decide (vcode (J.v j)=0))) w/\(binOp .neq t (J.v j) .nilIface).run P w=.ok (.bool (!decide (vcode (J.v j)=0))) w:=by
    rcases hv with h | ⟨t',x',h⟩<;>rw[h]at heq ⊢<;>constructor<;>simp only[binOp,Sem.run_bind,heq,Result.andThen_ok,Sem.run_pure]
   split at h
   .cases h;simp only[e1,b,Sem.run_bind,hg,Result.andThen_ok,hb.1];rfl
   .cases h;simp only[e1,b,Sem.run_bind,hg,Result.andThen_ok,hb.2];rfl
   .cases h
  .cases h
 .rename_i hx;have e1:=opnd_sound hr hx;have b:a.eval (.const .nilIface)=.nilIface:=rfl;have e1:a.eval x=.nilIface:=e1;split at h
  .rename_i ms c;have hd:(Op.equal t .nilIface .nilIface).run P w=.ok true w:=by
    show(Op.equalIn (9999+1) t .nilIface .nilIface).run P w=_;rw[Op.equalIn];simp only[Sem.run_bind,run_underlying c,Result.andThen_ok,Sem.run_pure]
   have hg:∀ op,(eqGuard op t x (.const .nilIface) .nilIface .nilIface).run P w=.ok () w:=by
    intro op;cases op<;>simp [eqGuard]
   have hb:(binOp .eql t .nilIface .nilIface).run P w=.ok (.bool true) w/\(binOp .neq t .nilIface .nilIface).run P w=.ok (.bool false) w:=by
    constructor<;>simp only[binOp,Sem.run_bind,hd,Result.andThen_ok,Sem.run_pure]<;>rfl
   split at h
   .cases h;simp only[e1,b,Sem.run_bind,hg,Result.andThen_ok,hb.1];rfl
   .cases h;simp only[e1,b,Sem.run_bind,hg,Result.andThen_ok,hb.2];rfl
   .cases h
  .cases h
 .cases h
def quiet_sound (hr:Rel S w0 J st a w) {o:Oper} (h:quiet P st o.op=some (n,v)) (hn:bev J n=true) :
 (execOp a.eval o).run P w=.ok (.value (v.ev J)) w:=by
 obtain⟨dst,op,ty,pos,G,gd⟩:=o;simp only at h;unfold quiet at h;split at h
 .rename_i x;simp only[MN,Nr]at h;obtain⟨y,hy,_,rfl⟩:=h;simp only[execOp,Sem.run_pure,opnd_sound hr hy]
 .rename_i x;simp only[MN,Nr]at h;obtain⟨y,hy,_,rfl⟩:=h;simp only[execOp,Sem.run_pure,opnd_sound hr hy]
 .rename_i c x y;split at h
  .rename_i e k;have e1:=opnd_sound hr k;simp only[TV.ev,SV.ev,CV.ev]at e1;split at h
   .rename_i hk;simp only[MN,Nr]at h;obtain⟨z,hz,_,rfl⟩:=h;simp only[execOp,Sem.run_bind,e1,known_sound hr.path hk,asBool,Sem.run_pure,Result.andThen_ok,OA,opnd_sound hr hz]
   .rename_i hk;simp only[MN,Nr]at h;obtain⟨z,hz,_,rfl⟩:=h;simp only[execOp,Sem.run_bind,e1,known_sound hr.path hk,asBool,Sem.run_pure,Result.andThen_ok,Om,NI,opnd_sound hr hz]
   .split at h
    .rename_i H I E hb;simp only[MN,Nr]at h;obtain⟨u,hu,_,rfl⟩:=h;have em:=mergeSV_ev (J:=J) hu;simp only[execOp,Sem.run_bind,e1,asBool,Sem.run_pure,Result.andThen_ok,TV.ev,em,opnd_sound hr E,opnd_sound hr hb]
    .cases h
  .cases h
 .rename_i x;split at h
  .rename_i p q hx;cases h;have hp:=hr.toMRel.nnX hn;have e1:=opnd_sound hr hx;simp only[TV.ev,SV.ev,CV.ev]at e1;simp only[execOp,e1,TV.ev,SV.ev,CV.ev,slP_pos hp,Sem.run_pure]
  .cases h
 .rename_i op t x y _;split at h
  .rename_i r A;cases h;have:=nilCmp_sound hr A hn;unfold execOp;simp only[Sem.run_bind]at this ⊢;rw[this];simp only[Result.andThen_ok,Sem.run_pure]
  split at h
  .rename_i v1 v2 hx hy;have e1:=opnd_sound hr hx;have j:=opnd_sound hr hy;have:=binE_sound (w:=w) (X:=x) (Y:=y) h hn;rw[<-e1,<-j]at this;unfold execOp;simp only[Sem.run_bind]at this ⊢;rw[this];simp only[Result.andThen_ok,Sem.run_pure]
  .cases h
 .rename_i op t x;split at h
  .rename_i v1 hx;simp only[execOp,Sem.run_bind,opnd_sound hr hx,unE_sound (w:=w) (P:=P) (J:=J) h,Result.andThen_ok,Sem.run_pure]
  .cases h
 .rename_i s d x;split at h
  .rename_i v1 hx;simp only[execOp,Sem.run_bind,opnd_sound hr hx,convE_sound hr.toMRel h hn,Result.andThen_ok,Sem.run_pure]
  .cases h
 .rename_i s x f;split at h
  .rename_i v1 hx;simp only[execOp,Sem.run_bind,opnd_sound hr hx,fieldAddrE_sound hr.toMRel h hn,Result.andThen_ok,Sem.run_pure]
  .cases h
 .rename_i s x f;split at h
  .rename_i v1 hx;simp only[execOp,Sem.run_bind,opnd_sound hr hx,fieldE_sound (w:=w) (J:=J) h,Result.andThen_ok,Sem.run_pure]
  .cases h
 .rename_i t x y;split at h
  .rename_i v1 v2 hx hy;simp only[execOp,Sem.run_bind,opnd_sound hr hx,opnd_sound hr hy,indexAddrE_sound hr.toMRel h hn,Result.andThen_ok,Sem.run_pure]
  .cases h
 .rename_i t x y;split at h
  .rename_i v1 v2 hx hy;simp only[execOp,Sem.run_bind,opnd_sound hr hx,opnd_sound hr hy,indexE_sound (w:=w) h hn,Result.andThen_ok,Sem.run_pure]
  .cases h
 .rename_i t x;split at h
  .rename_i c hx;simp only[MN,Nr]at h;obtain⟨⟨K,u⟩,hu,rfl,rfl⟩:=h;have e1:=opnd_sound hr hx;obtain⟨p,hp,hl⟩:=loadE_sound hr.toMRel hu hn;simp only[TV.ev,SV.ev,hp]at e1;simp only[execOp,Sem.run_bind,e1,Instr.loadAt,Instr.sureAddr,Sem.run_pure,Result.andThen_ok,hl,TV.ev]
  .cases h
 .rename_i x i;split at h
  .rename_i v1 hx;simp only[execOp,Sem.run_bind,opnd_sound hr hx,extractE_sound (w:=w) (P:=P) (J:=J) h,Result.andThen_ok,Sem.run_pure]
  .cases h
 .rename_i t x;split at h
  .rename_i q el x' y l c hu hx;cases h;rw[bev_mkLe,iev_lit,MI]at hn;have e1:=opnd_sound hr hx;simp only[TV.ev,SV.ev,CV.ev]at e1;have:¬(iev J l).toNat<q:=ae;simp only[execOp,Sem.run_bind,e1,Instr.arrayAt,run_underlying hu,Result.andThen_ok,MM this,Sem.run_pure,TV.ev,SV.ev,CV.ev]
  .cases h
 .rename_i t x lo hi mx;split at h
  .rename_i v1 hx;split at h
   .rename_i l hh m h1 h2 F;have:=sliceE_sound hr.toMRel h hn;rw[<-optOp_ev hr h1,<-optOp_ev hr h2,<-optOp_ev hr F,<-opnd_sound hr hx]at this;simp only[execOp,Sem.run_bind,this,Result.andThen_ok,Sem.run_pure]
   .cases h
  .cases h
 .rename_i f first captured
  split at h
  .rename_i k;cases h;obtain⟨rfl,rfl⟩:=k;simp [execOp,Sem.run_bind,Instr.makeFunc,TV.ev,SV.ev,CV.ev]
  .split at h
   .rename_i c g;split at h
    .rename_i hf;split at h
     .rename_i x y hx;split at h
      .rename_i hy;cases h;subst hy;subst hf;have e1:=opnd_sound hr hx;simp only[TV.ev,SV.ev,CV.ev,iev_lit]at e1;have B:captured=#[c]:=by
        obtain⟨l⟩:=captured;simp only at g;subst g;rfl
       subst B;simp [execOp,Sem.run_bind,Instr.makeFunc,TV.ev,SV.ev,CV.ev,e1]
      .cases h
     .cases h
    .cases h
   .rename_i c d g;split at h
    .rename_i hf;split at h
     .rename_i x y x' y' hx C;split at h
      .rename_i hy;obtain⟨hy,D⟩:=hy;cases h;subst hy D;subst hf;have e1:=opnd_sound hr hx;have j:=opnd_sound hr C;simp only[TV.ev,SV.ev,CV.ev,iev_lit]at e1 j;have B:captured=#[c,d]:=by
        obtain⟨l⟩:=captured;simp only at g;subst g;rfl
       subst B;simp [execOp,Sem.run_bind,Instr.makeFunc,TV.ev,SV.ev,CV.ev,e1,j]
      .cases h
     .cases h
    .cases h
   .cases h
 .rename_i b args ats;split at h
  .rename_i vs hx;have e1:=opnds_sound hr _ _ hx;have j:args.map a.eval=(vs.map (TV.ev J)).toArray:=by
    rw[<-e1];obtain⟨l⟩:=args;exact Pm
   rw[BigFrame.execOp_builtin,j];exact builtinE_sound hr.toMRel h hn
  .cases h
 .rename_i t parts;split at h
  .rename_i vs hx;have e1:=opnds_sound hr _ _ hx;have j:(parts.map fun p=>(p.1,a.eval p.2))=((parts.toList.map (·.1)).zip (vs.map (TV.ev J))).toArray:=by
    rw[<-e1,NY,<-map_zip2 parts.toList];obtain⟨l⟩:=parts;exact Pm
   split at h
   .rename_i r hb;cases h;have:=boxI_sound (w:=w) (J:=J) hb hn;rw[<-j]at this;simp only[execOp,Sem.run_bind,this,Result.andThen_ok,Sem.run_pure]
   .have:=buildE_sound (w:=w) (J:=J) h;rw[<-j]at this;simp only[execOp,Sem.run_bind,this,Result.andThen_ok,Sem.run_pure]
  .cases h
 .cases h
end
def Env.setI (J:Env) (n:Nat) (x:Int):Env:={J with i:=fun k=>if k=n then x else J.i k}
def Env.setH (J:Env) (n:Nat) (x:Hl):Env:={J with h:=fun k=>if k=n then x else J.h k}
def Env.setV (J:Env) (n:Nat) (x:Value):Env:={J with v:=fun k=>if k=n then x else J.v k}
def Env.setB (J:Env) (n:Nat) (x:Bool):Env:={J with b:=fun k=>if k=n then x else J.b k}
def Env.setS (J:Env) (n:Nat) (x:ByteArray):Env:={J with s:=fun k=>if k=n then x else J.s k}
section
variable (J:Env) (n m:Nat)
def setI_i (x:Int):(J.setI n x).i n=x:=by simp [Env.setI]
def setI_ne (x:Int) (h:m≠n):(J.setI n x).i m=J.i m:=by simp [Env.setI,h]
def setH_h (x:Hl):(J.setH n x).h n=x:=by simp [Env.setH]
def agree_setI (x:Int) (h:n<=k):Agree n J (J.setI k x):=⟨fun j a=>by simp [Env.setI];omega,fun _ _=>rfl,fun _ _=>rfl,fun _ _=>rfl,fun _ _=>rfl⟩
def agree_setH (x:Hl) (h:n<=k):Agree n J (J.setH k x):=⟨fun _ _=>rfl,fun _ _=>rfl,fun _ _=>rfl,fun _ _=>rfl,fun j a=>by simp [Env.setH];omega⟩
def agree_setV (x:Value) (h:n<=k):Agree n J (J.setV k x):=⟨fun _ _=>rfl,fun _ _=>rfl,fun _ _=>rfl,fun j a=>by simp [Env.setV];omega,fun _ _=>rfl⟩
def agree_setB (x:Bool) (h:n<=k):Agree n J (J.setB k x):=⟨fun _ _=>rfl,fun j a=>by simp [Env.setB];omega,fun _ _=>rfl,fun _ _=>rfl,fun _ _=>rfl⟩
def agree_setS (x:ByteArray) (h:n<=k):Agree n J (J.setS k x):=⟨fun _ _=>rfl,fun _ _=>rfl,fun j a=>by simp [Env.setS];omega,fun _ _=>rfl,fun _ _=>rfl⟩
end
def Hl.put (h:Hl) (x y:Nat) (vs:List Value):Hl:=fun b=>if b=x then
 match h x with
 | some (.cells c T a)=>some (.cells (splice c.toList y vs).toArray T a)
 | o=>o
 else h b
variable {H h:Hl}
def Hl.wr (h:Hl) (x y n:Nat):Bool :=
 match h x with
 | some (.cells c _ a)=>decide (y+n<=c.size)&&(decide (a.2<=y)||decide (y+n<=a.1))
 | _=>false
def Hl.put_mem {x:Nat} : (h.put x y vs).mem b↔h.mem b:=by
 unfold Hl.mem Hl.put;split
 .rename_i e;subst e;split
  .rename_i c T a hb;simp [hb]
  .rfl
 .rfl
def Hl.un (a b:Hl):Hl:=fun k=>(a k).or (b k)
def hls (l:List Hl):Hl:=l.foldr Hl.un Hl.none
def Hl.le (a b:Hl):Prop:=∀ k o,a k=some o->b k=some o
def Hl.un_mem {a b:Hl} : (a.un b).mem k↔a.mem k\/b.mem k:=by
 unfold Hl.mem Hl.un;cases a k<;>simp
def Hl.un_sub {a b:Hl} {w:World} (h1:a.sub w) (h2:b.sub w):(a.un b).sub w:=by
 intro k o h;unfold Hl.un at h;cases c:a k with
 | some x=>rw[c]at h;cases h;exact h1 _ _ c
 | none=>rw[c]at h;exact h2 _ _ h
def OwnsH (h:Hl) (e:TypeId) (size:Nat) (v:Value) (n:Nat) (xs:List Value):Prop :=
 xs.length=n*size /\
 ((v=.slice none 0 0/\n=0) \/
  ∃ g cap cur,v=.slice (some ⟨g,0,none⟩) n cap/\h g=some (.cells cur e (0,0))/\n<=cap/\cap<=maxLen/\cur.size=cap*size/\cur.toList.take (n*size)=xs)
inductive Src | cvs (l:List CV) (m:Nat) | seg (h:Nat) (x y l:E)
def segVals (h:Hl) (x y n:Nat):List Value:=(List.range n).map fun j=>(h.cell x (y+j)).getD (.tuple #[])
def Src.len (J:Env):Src->Nat
 | .cvs _ m=>m
 | .seg _ _ _ l=>(iev J l).toNat
def Src.vals (J:Env) (size:Nat):Src->List Value
 | .cvs l _=>l.map (CV.ev J)
 | .seg h x y l=>segVals (J.h h) (iev J x).toNat (iev J y).toNat ((iev J l).toNat*size)
def Src.ok (J:Env) (size:Nat):Src->Prop
 | .cvs l m=>True
 | .seg h x y l=>(0<=iev J x/\0<=iev J y/\0<=iev J l/\∀ j,j<(iev J l).toNat*size->∃ v,(J.h h).cell (iev J x).toNat ((iev J y).toNat+j)=some v/\v.oneCell'=true)\/iev J l=0
def mapFind (kd:Kd) (key:Value) (es:Array MapEntry):Option (Option (Nat×Value)) :=
 match kd with
 | .int k=>Instr.findNow (.int k) key es.toList 0
 | .str=>Instr.findNow .string key es.toList 0
 | _=>none
def mapPut (kd:Kd) (key val:Value) (es:Array MapEntry) (clock:Nat):Obj :=
 match mapFind kd key es with
 | some (some (i,_))=>.map (es.modify i fun e=>{e with key,val}) clock
 | _=>.map (es.push {key,val,born:=clock}) (clock+1)
def isAgg:Value->Bool
 | .agg _=>true
 | _=>false
def Hl.setObj (h:Hl) (x:Nat) (o:Obj):Hl:=fun b=>if b=x then some o else h b
inductive Ck | int (k:IntKind) | bool | str | any | ptr | sl | map | slw
inductive Cp | one (k:Ck) | agg (ks:List Ck)
def Ck.len:Ck->Nat
 | .ptr=>2 | .sl=>4 | .slw=>4 | _=>1
def Ck.cv (n:Nat):Ck->CV
 | .int k=>.int k (.var n)
 | .bool=>.bool (.bvar n)
 | .str=>.str (.svar n)
 | .any=>.vr n
 | .ptr=>.hptr (.var n) (.var (n+1))
 | .sl=>.sl (.var n) (.var (n+1)) (.var (n+2)) (.var (n+3))
 | .map=>.map (.var n)
 | .slw=>.sl (.var n) (.var (n+1)) (.var (n+2)) (.var (n+3))
def Ck.root (n:Nat):Ck->List E
 | .ptr | .sl | .map=>[.var n]
 | _=>[]
def ckCVs:Nat->List Ck->List CV
 | _,[]=>[]
 | n,k::l=>k.cv n::ckCVs (n+k.len) l
def ckRoots:Nat->List Ck->List E
 | _,[]=>[]
 | n,k::l=>k.root n++ckRoots (n+k.len) l
def ckLen (l:List Ck):Nat:=(l.map Ck.len).sum
def Cp.sv (n:Nat):Cp->SV
 | .one k=>.one (k.cv n)
 | .agg ks=>.agg (ckCVs n ks)
def Cp.len:Cp->Nat
 | .one k=>k.len
 | .agg ks=>ckLen ks
def Cp.roots (n:Nat):Cp->List E
 | .one k=>k.root n
 | .agg ks=>ckRoots n ks
def cpSVs:Nat->List Cp->List SV
 | _,[]=>[]
 | n,c::l=>c.sv n::cpSVs (n+c.len) l
def cpRoots:Nat->List Cp->List E
 | _,[]=>[]
 | n,c::l=>c.roots n++cpRoots (n+c.len) l
def cpLen (l:List Cp):Nat:=(l.map Cp.len).sum
def cpTV (n:Nat) (l:List Cp):TV :=
 match l with
 | [c]=>.sv (c.sv n)
 | l=>.tup (cpSVs n l)
def ckOf:Value->Ck
 | .int k _=>.int k
 | .bool _=>.bool
 | .string _=>.str
 | .slice _ _ _=>.sl
 | .pointer _=>.ptr
 | .map _=>.map
 | _=>.any
def mshape (n:Nat) (ks:List Ck) (agg:Bool):SV:=if agg then .agg (ckCVs n ks)else match ks with
 | [k]=>.one (k.cv n)
 | _=>.agg (ckCVs n ks)
def hasShape (ks:List Ck) (agg:Bool) (v:Value):Prop:=if agg then ∃ cs,v=.agg cs/\cs.toList.map ckOf=ks else ∃ k,ks=[k]/\ckOf v=k
def ckNorm (n:Nat) (J:Env):Ck->Prop
 | .ptr=> -1<=J.i n/\0<=J.i (n+1)
 | .sl=> -1<=J.i n/\0<=J.i (n+1)/\0<=J.i (n+2)/\0<=J.i (n+3)
 | .map=> -1<=J.i n
 | .slw=>True/\0<=J.i (n+1)/\0<=J.i (n+2)/\0<=J.i (n+3)
 | _=>True
def ckNorms:Nat->List Ck->Env->Prop
 | _,[],_=>True
 | n,k::l,J=>ckNorm n J k/\ckNorms (n+k.len) l J
def cpNorm (n:Nat) (J:Env):Cp->Prop
 | .one k=>ckNorm n J k
 | .agg ks=>ckNorms n ks J
def cpNorms:Nat->List Cp->Env->Prop
 | _,[],_=>True
 | n,c::l,J=>cpNorm n J c/\cpNorms (n+c.len) l J
inductive Sel | arg (i:Nat) | link (i j:Nat) | far (i j k:Nat)
structure Spec where
 fn:FuncId
 own:List Sel
 rd:List Nat
 res:List Cp
 links:List Nat:=[]
 pre:List Value->List Hl->List Hl->Prop
 post:List Value->List Hl->List Hl->Value->List Hl->Hl->Prop
structure Turned (w w':World) (Hs Hs':List Hl) (F:Hl):Prop where
 os:w'.os=w.os
 tape:w'.tape=w.tape
 output:w'.output=w.output
 size:w.heap.size<=w'.heap.size
 block:∀ b,b<w.heap.size->(∀ H∈Hs,¬H.mem b)->w'.heap[b]?=w.heap[b]?
 len:Hs'.length=Hs.length
 sub:∀ H∈Hs',H.sub w'
 fsub:F.sub w'
 dom:∀ H∈Hs',∀ b,H.mem b->(∃ K∈Hs,K.mem b)\/w.heap.size<=b
 fdom:∀ b,F.mem b->(∃ K∈Hs,K.mem b)\/w.heap.size<=b
 dis:∀ (p q:Nat) H K,p≠q->Hs'[p]?=some H->Hs'[q]?=some K->H.dis K
 fdis:∀ H∈Hs',H.dis F
def Spec.OK (P:Program) (s:Spec):Prop:=∀ w (xs:List Value) (Hs Rs:List Hl),Hs.length=s.own.length->Rs.length=s.rd.length ->
 (∀ H∈Hs,H.sub w)->(∀ R∈Rs,R.sub w)->(∀ (p q:Nat) H K,p≠q->Hs[p]?=some H->Hs[q]?=some K->H.dis K)->(∀ H∈Hs,∀ R∈Rs,H.dis R)->s.pre xs Hs Rs ->
 Calls P s.fn xs.toArray w fun e w'=>∃ (J:Env) (Hs':List Hl) (F:Hl),e=.returned ((cpTV 0 s.res).ev J)/\cpNorms 0 s.res J/\Turned w w' Hs Hs' F/\s.post xs Hs Rs ((cpTV 0 s.res).ev J) Hs' F
structure Ctx where
 Γ:List Spec
 inv:Nat->Env->Prop
 mu:Nat->Env->Nat
 post:Env->Mem->TV->Prop
inductive X
 | alloc (n:Nat)
 | put (n h:Nat) (x y:E) (cs:List CV)
 | app (n:Nat) (el:TypeId) (size bytes:Nat) (s:CV) (l:E) (H:Res) (src:Src)
 | grow (n:Nat) (el:TypeId) (size bytes:Nat) (olds:List CV) (l c:Nat) (src:Src)
 | mk (n:Nat) (el:TypeId) (z:List CV) (bytes:Nat) (l:E)
 | call (j n:Nat) (args:List TV) (own rd:List Res)
 | mnew (n:Nat)
 | mget (n h:Nat) (x:E) (kd:Kd) (key:CV) (z:SV) (ks:List Ck) (agg:Bool)
 | mset (n h:Nat) (x:E) (kd:Kd) (key:CV) (v:SV)
 | mclr (n h:Nat) (x:E)
 | cbs (n a:Nat) (cs:List CV) (T:TypeId)
 | mrg (n:Nat) (a b:Res)
 | cpy (n h:Nat) (x y ld:E) (hs:Nat) (xs ys ls:E)
 | hpf (n:Nat) (r:Res)
 | mki (n:Nat) (T:TypeId) (v:SV)
def X.n:X->Nat
 | .mnew n | .mget n _ _ _ _ _ _ _ | .mset n _ _ _ _ _ | .mclr n _ _ | .cbs n _ _ _ | .mrg n _ _ | .cpy n _ _ _ _ _ _ _ _ | .hpf n _ | .mki n _ _=>n
 | .alloc n | .put n _ _ _ _ | .app n _ _ _ _ _ _ _ | .grow n _ _ _ _ _ _ _ | .mk n _ _ _ _ | .call _ n _ _ _=>n
def newHs (J:Env) (n k:Nat):List Hl:=(List.range k).map fun j=>J.h (n+j)
def X.pre (C:Ctx) (J:Env):X->Prop
 | .alloc _=>True
 | .put _ h x y cs=>0<=iev J x/\0<=iev J y/\(J.h h).wr (iev J x).toNat (iev J y).toNat cs.length=true
 | .app _ el size bytes s l H src=>(∃ xs,OwnsH (H.hl J) el size (s.ev J) (iev J l).toNat xs)/\0<=iev J l/\src.ok J size/\(iev J l).toNat+src.len J<=maxLen/\((iev J l).toNat+src.len J)*bytes<=140737488355328
 | .grow _ el size bytes olds l c src=>src.ok J size/\c<l+src.len J/\l+src.len J<=maxLen/\(l+src.len J)*bytes<=140737488355328
 | .mk _ el z bytes l=>0<=iev J l/\(bytes:Int)*iev J l<=281474976710656/\iev J l<=9223372036854775807
 | .call j _ args own rd=>match C.Γ[j]? with
  | some s=>s.pre (args.map (TV.ev J)) (own.map (Res.hl J)) (rd.map (Res.hl J))
  | none=>False
 | .mnew _=>True
 | .mget _ h x kd key z ks agg=>0<=iev J x/\∃ es clock r,J.h h (iev J x).toNat=some (.map es clock)/\mapFind kd (key.ev J) es=some r/\∀ i v,r=some (i,v)->hasShape ks agg v
 | .mset _ h x kd key v=>0<=iev J x/\∃ es clock r,J.h h (iev J x).toNat=some (.map es clock)/\mapFind kd (key.ev J) es=some r
 | .mclr _ h x=>0<=iev J x/\∃ es clock,J.h h (iev J x).toNat=some (.map es clock)
 | .cbs _ _ _ _=>True
 | .mrg _ _ _=>True
 | .hpf _ _=>True
 | .mki _ _ _=>True
 | .cpy _ h x y ld hs xs ys ls=>(0<=iev J x/\0<=iev J y/\0<=iev J ld/\0<=iev J ls)/\(∃ c T,J.h h (iev J x).toNat=some (.cells c T (0,0))/\iev J y+min (iev J ls) (iev J ld)<=c.size) /\
  (min (iev J ls) (iev J ld)=0\/0<=iev J xs/\0<=iev J ys/\cellBytes (J.h hs) (iev J xs).toNat (iev J ys).toNat (min (iev J ls) (iev J ld)).toNat=true)
def X.rel (C:Ctx) (J J':Env):X->Prop
 | .alloc n=>0<=J'.i n
 | .put n h x y cs=>J'.h n=(J.h h).put (iev J x).toNat (iev J y).toNat (cs.map (CV.ev J))
 | .app n el size bytes s l H src =>
  -1<=J'.i n/\0<=J'.i (n+1) /\
  (∀ xs,OwnsH (H.hl J) el size (s.ev J) (iev J l).toNat xs->OwnsH (J'.h n) el size (.slice (slP (J'.i n) 0) ((iev J l).toNat+src.len J) (J'.i (n+1)).toNat) ((iev J l).toNat+src.len J) (xs++src.vals J size)) /\
  (∀ b,(H.hl J).mem b->some b≠(s.ev J).ownBlock->J'.h n b=H.hl J b) /\
  ((∀ b,(J'.h n).mem b->(H.hl J).mem b\/(b=(J'.i n).toNat/\0<=J'.i n))/\∀ xs,OwnsH (H.hl J) el size (s.ev J) (iev J l).toNat xs->OwnsH (J'.h n) el size (s.ev J) (iev J l).toNat xs) /\
  (some (J'.i n).toNat=(s.ev J).ownBlock\/¬(H.hl J).mem (J'.i n).toNat\/J'.i n= -1)
 | .grow n el size bytes olds l c src =>
  0<=J'.i n/\0<=J'.i (n+1) /\
  OwnsH (J'.h n) el size (.slice (slP (J'.i n) 0) (l+src.len J) (J'.i (n+1)).toNat) (l+src.len J) (olds.map (CV.ev J)++src.vals J size) /\
  (∀ b,(J'.h n).mem b->b=(J'.i n).toNat)
 | .mk n el z bytes l=>0<=J'.i n/\J'.h n=Hl.one (J'.i n).toNat (.cells (madeCells (z.map (CV.ev J)).toArray ((iev J l).toNat*z.length)) el (0,0))
 | .call j n args own rd=>match C.Γ[j]? with
  | some s=>∃ F,s.post (args.map (TV.ev J)) (own.map (Res.hl J)) (rd.map (Res.hl J)) ((cpTV n s.res).ev J') (newHs J' n own.length) F/\(cpRoots 0 s.res≠[]->J'.h (n+own.length)=F)/\cpNorms n s.res J'
  | none=>False
 | .mnew n=>0<=J'.i n/\J'.h n=Hl.one (J'.i n).toNat (.map #[] 0)
 | .mget n h x kd key z ks agg=>∀ es clock r,J.h h (iev J x).toNat=some (.map es clock)->mapFind kd (key.ev J) es=some r ->
  (mshape n ks agg).ev J'=(match r with | some (_,v)=>v | none=>z.ev J)/\J'.b (n+ckLen ks)=r.isSome
 | .mset n h x kd key v=>∀ es clock,J.h h (iev J x).toNat=some (.map es clock)->J'.h n=(J.h h).setObj (iev J x).toNat (mapPut kd (key.ev J) (v.ev J) es clock)
 | .mclr n h x=>∀ es clock,J.h h (iev J x).toNat=some (.map es clock)->J'.h n=(J.h h).setObj (iev J x).toNat (.map #[] clock)
 | .cbs n a cs T=>J'.h n=Hl.one (J.i a).toNat (.cells (cs.map (CV.ev J)).toArray T (cs.length,cs.length+1))
 | .hpf n r=>J'.h n=r.hl J
 | .mki n T v=>J'.v n=.iface T (v.ev J)
 | .mrg n a b=>J'.h n=(a.hl J).un (b.hl J)/\(a.hl J).dis (b.hl J)
 | .cpy n h x y ld hs xs ys ls=>J'.h n=(J.h h).put (iev J x).toNat (iev J y).toNat (segVals (J.h hs) (iev J xs).toNat (iev J ys).toNat (min (iev J ls) (iev J ld)).toNat)
structure As where
 n:Nat
 k:Nat
 c:CV
inductive Nd
 | tt | e (x:E) | and (a b:Nd) | imp (c:E) (a:Nd) | pre (x:X) | ext (x:X) (a:Nd)
 | inv (j:Nat) (A:List As) (hs:List (Nat×Option Nat)) | back (d j:Nat) (A:List As) (hs:List (Nat×Option Nat)) | havoc (d j n0:Nat) (a:Nd)
 | post (mem:Mem) (r:TV)
def assign (J:Env) (A:List As) (hs:List (Nat×Option Nat)):Env where
 i:=fun k=>match A.find? fun a=>a.n==k&&a.k==0 with
  | some a=>valI (some (a.c.ev J))
  | none=>J.i k
 b:=fun k=>match A.find? fun a=>a.n==k&&a.k==1 with
  | some a=>valB (some (a.c.ev J))
  | none=>J.b k
 s:=fun k=>match A.find? fun a=>a.n==k&&a.k==2 with
  | some a=>valS (some (a.c.ev J))
  | none=>J.s k
 v:=fun k=>match A.find? fun a=>a.n==k&&a.k==3 with
  | some a=>a.c.ev J
  | none=>J.v k
 h:=fun k=>match hs.find? fun p=>p.1==k with
  | some (_,some q)=>J.h q
  | some (_,none)=>Hl.none
  | none=>J.h k
def Nd.holds (C:Ctx) (ms:Nat->Nat) (J:Env):Nd->Prop
 | .tt=>True
 | .e x=>bev J x=true
 | .and a b=>a.holds C ms J/\b.holds C ms J
 | .imp c a=>bev J c=true->a.holds C ms J
 | .pre x=>x.pre C J
 | .ext x a=>∀ J',Agree x.n J J'->x.rel C J J'->a.holds C ms J'
 | .inv j A hs=>C.inv j (assign J A hs)
 | .back d j A hs=>C.inv j (assign J A hs)/\C.mu j (assign J A hs)<ms d
 | .havoc d j n0 a=>∀ J',Agree n0 J J'->C.inv j J'->a.holds C (fun k=>if k=d then C.mu j J' else ms k) J'
 | .post mem r=>C.post J mem r
def ndE:E->Nd
 | .tt=>.tt
 | x=>.e x
def ndAnd:Nd->Nd->Nd
 | .tt,b=>b
 | a,.tt=>a
 | a,b=>.and a b
def ndImp:E->Nd->Nd
 | _,.tt=>.tt
 | .tt,a=>a
 | c,a=>.imp c a
section
variable (C:Ctx) (ms:Nat->Nat)
def ndE_holds (x:E) (J:Env):(ndE x).holds C ms J=(bev J x=true):=by
 unfold ndE;split
 .simp [Nd.holds,bev_tt]
 .rfl
def ndAnd_holds (a b:Nd) (J:Env):(ndAnd a b).holds C ms J=(a.holds C ms J/\b.holds C ms J):=by unfold ndAnd;split<;>simp [Nd.holds]
def ndImp_holds (c:E) (a:Nd) (J:Env):(ndImp c a).holds C ms J=(bev J c=true->a.holds C ms J):=by unfold ndImp;split<;>simp [Nd.holds,bev_tt]
end
section
variable {P:Program} {w:World}
def store_at (g o:Nat) (t:TypeId) (a:Nat×Nat):∀ (vs:List Value) (i:Nat) (cur:Array Value) (w:World),w.heap[g]?=some (.cells cur t a)->o+i+vs.length<=cur.size->(a.2<=o+i\/o+i+vs.length<=a.1)->(∀ v∈vs,v.oneCell'=true) ->
 (storeCells ⟨g,o,none⟩ vs i).run P w=.ok () (w.setRow g (cur.toList.take (o+i)++vs++cur.toList.drop (o+i+vs.length)).toArray)
 | [],i,cur,w,hg,_,_,_=>by
  simp only[storeCells,Nu,N0,NH,On,Pr];rw[setRow_self w g cur t a hg];rfl
 | v::rest,i,cur,w,hg,hl,hf,h1=>by
  have hi:o+i<cur.size:=by simp at hl;omega
  have c:(⟨g,o,none⟩:Addr).add i=⟨g,o+i,none⟩:=by unfold Addr.add;split<;>simp_all
  have b:w.cell? ⟨g,o+i,none⟩=some cur[o+i]:=by simp [World.cell?,hg,hi]
  have d:w.frozen? ⟨g,o+i,none⟩=false:=by
   obtain⟨lo,h⟩:=a;simp only[World.frozen?,hg,Nk]at hf ⊢;simp only[Bool.and_eq_false_iff,NF];omega
  have f:(store ((⟨g,o,none⟩:Addr).add i) v).run P w=.ok () (w.setRow g (cur.setIfInBounds (o+i) v)):=by
   rw[c,run_store P w _ v _ (h1 v ar),b];simp [d,setCell_eq_setRow w g (o+i) cur t a v hg]
  have ih:=store_at g o t a rest (i+1) (cur.setIfInBounds (o+i) v) (w.setRow g (cur.setIfInBounds (o+i) v)) (setRow_heap w g cur _ t _ hg) (by simp at hl ⊢;omega) (by simp only[Nk]at hf;omega) (fun x hx=>h1 x (by simp [hx]));simp only[storeCells,Sem.run_bind,f,Result.andThen_ok,ih,setRow_setRow]
  congr 3
  have e:=list_seg_step cur.toList (o+i) v rest (by simp at hl ⊢;omega);simpa [PB,Ow] using e
def put_sub (hs:h.sub w) {x:Nat} {c:Array Value} {a:Nat×Nat} (hx:h x=some (.cells c T a)):(h.put x y vs).sub (w.setRow x (splice c.toList y vs).toArray):=by
 intro b o hb;unfold Hl.put at hb;split at hb
 .rename_i e;subst e;rw[hx]at hb;cases hb;exact setRow_heap w b c _ T a (hs _ _ hx)
 .rename_i e;rw[setRow_other w x b _ e];exact hs b o hb
def wr_cells {x n:Nat} (hw:h.wr x y n=true):∃ c T a,h x=some (.cells c T a)/\y+n<=c.size/\(a.2<=y\/y+n<=a.1):=by
 unfold Hl.wr at hw;split at hw
 .rename_i c T a hx;simp only[ML,N6,MI]at hw;exact⟨c,T,a,hx,hw.1,hw.2⟩
 .cases hw
def store_hl (hs:h.sub w) {x:Nat} {v:Value} (hsz:sizeT P t=some vs.length) (hv:v.cells.toList=vs) (h1:∀ u∈vs,u.oneCell'=true) (hw:h.wr x y vs.length=true) :
 ∃ cs,(storeVar t ⟨x,y,none⟩ v).run P w=.ok () (w.setRow x cs)/\(h.put x y vs).sub (w.setRow x cs):=by
 obtain⟨c,T,a,hx,hle,b⟩:=wr_cells hw;refine⟨(splice c.toList y vs).toArray,?_,put_sub hs hx⟩;unfold storeVar;have hsize:v.cells.size=vs.length:=by rw[<-Of,hv]
 simp only[Sem.run_bind,sizeT_run hsz,Result.andThen_ok,hsize,ne_eq,OJ,Om];rw[hv];have:=store_at (P:=P) x y T a vs 0 c w (hs _ _ hx) ae ae h1;simp only[NH]at this;rw[this];simp [splice]
def owns_row (hs:H.sub w) {v:Value} {n:Nat} (h:OwnsH H e size v n xs):w.ownsRow 0 e size v n xs:=by
 refine⟨h.1,?_⟩;rcases h.2 with h | ⟨g,cap,cur,rfl,hg,r1,r2,a,b⟩
 .exact Or.inl h
 .exact Or.inr ⟨g,cap,cur,rfl,NO _,hs _ _ hg,r1,r2,a,b⟩
def SrcAt (w:World) (u:Value) (m:Nat) (news:List Value):Prop :=
 (∃ a c,u=.slice (some a) m c/\∀ j x,news[j]?=some x->w.cell? (a.add j)=some x)\/((∃ c,u=.slice none 0 c)/\m=0/\news=[])
def append_none (base:Nat) (t ty e:TypeId) (i:TypeInfo) (size:Nat) (d:P.underlying t=some (.slice e)) (hi:P.info? e=some i)
 (v:Value) (n:Nat) (xs:List Value) (a:w.ownsRow base e size v n xs) (c:Nat) :
 (Builtin.append_ #[t,t] ty #[v,.slice none 0 c]).run P w=.ok v w:=by
 rcases a.2 with ⟨rfl,rfl⟩ | ⟨g,cap,cur,rfl,_,_,b,_⟩
 .simp [Builtin.append_,run_underlying d,sizeOf,typeInfo,hi,Builtin.lenOf,Builtin.firstCells]
 .simp [Builtin.append_,run_underlying d,sizeOf,typeInfo,hi,Builtin.lenOf,Builtin.firstCells,b,storeCells]
def append_own (hs:H.sub w) {i:TypeInfo} (q:P.underlying t=some (.slice e)) (hi:P.info? e=some i) (hz:i.zero=some z)
 (hsize:i.size=size) (hby:i.bytes=bytes) (E:z.cells.size=size) (hsz:0<size) {v:Value} {n:Nat} {xs:List Value} (ho:OwnsH H e size v n xs)
 {u:Value} {m:Nat} {news:List Value} (hl:news.length=m*size) (hu:SrcAt w u m news) (h1:∀ x∈news,x.oneCell'=true) (s:n+m<=maxLen) (h:(n+m)*bytes<=140737488355328) :
 ∃ v' w' H',(Builtin.append_ #[t,t] ty #[v,u]).run P w=.ok v' w'/\OwnsH H' e size v' (n+m) (xs++news)/\H'.sub w'/\w.grownBy w' v.ownBlock /\
  (∀ b,H.mem b->some b≠v.ownBlock->H' b=H b)/\(∀ b,H'.mem b->H.mem b\/(v'.ownBlock=some b/\w.heap.size<=b))/\(v'.ownBlock=v.ownBlock\/∃ b,v'.ownBlock=some b/\w.heap.size<=b)/\OwnsH H' e size v n xs:=by
 subst hsize;subst hby;have A:n+m<=9223372036854775807:=by simp only[maxLen]at s;omega
 rcases hu with ⟨a,c,rfl,d⟩ | ⟨⟨c,rfl⟩,rfl,rfl⟩
 rotate_left
 .refine⟨v,w,H,append_none 0 t ty e i i.size q hi v n xs (owns_row hs ho) c,by simpa using ho,hs,⟨rfl,rfl,rfl,M1 _,fun _ _ _=>rfl⟩,fun _ _ _=>rfl,fun b hb=>Or.inl hb,Or.inl rfl,ho⟩
 have hlen:(xs++news).length=(n+m)*i.size:=by rw[MJ,ho.1,hl,OE]
 have grown:∀ (old:Nat),old<n+m->v.ownBlock=none\/(∃ g,v.ownBlock=some g/\g<w.heap.size) ->
  ∃ H',OwnsH H' e i.size (.slice (some ⟨w.heap.size,0,none⟩) (n+m) (grownCap w (n+m) old e)) (n+m) (xs++news) /\
   H'.sub (w.drew.alloc (.cells (xs.toArray++news.toArray++Builtin.zeroCells z.cells (grownCap w (n+m) old e-(n+m))) e)) /\
   w.grownBy (w.drew.alloc (.cells (xs.toArray++news.toArray++Builtin.zeroCells z.cells (grownCap w (n+m) old e-(n+m))) e)) v.ownBlock /\
   (∀ b,H.mem b->some b≠v.ownBlock->H' b=H b)/\(∀ b,H'.mem b->H.mem b\/(some w.heap.size=some b/\w.heap.size<=b))/\OwnsH H' e i.size v n xs:=by
  intro old hold hv;have F:=grownCap_ge w (n+m) old e;have p:grownCap w (n+m) old e<=maxLen:=grownCap_le_maxLen w (n+m) old e s
  let L:Obj:=.cells (xs.toArray++news.toArray++Builtin.zeroCells z.cells (grownCap w (n+m) old e-(n+m))) e
  refine⟨fun b=>if b=w.heap.size then some L else H b,⟨hlen,Or.inr ⟨w.heap.size,_,_,rfl,M0 rfl,F,p,?_,?_⟩⟩,?_,⟨rfl,rfl,rfl,ar,fun k hk _=>heap_alloc_old w.drew _ hk⟩,?_,?_,ho.1,ho.2.imp id fun⟨g,cap,cur,hv,hg,r⟩=>⟨g,cap,cur,hv,?_,r⟩⟩
  .simp only[Array.size_append,OL,size_zeroCells,E,ho.1,hl,<-OE]
   congr 1
   omega
  .simp only[Qc,MY];rw[<-MY,<-hlen];exact Ox
  .intro b o hb;simp only at hb;split at hb
   .rename_i e1;subst e1;cases hb;exact heap_alloc_new w.drew _
   .have:=hs b o hb;rw[heap_alloc_old w.drew _ (Ng.1 this).1];exact this
  .intro b hb _;have:=Hl.sub_lt hs hb;exact MM ae
  .intro b hb;by_cases e1:b=w.heap.size
   .exact Or.inr ⟨by rw[e1],ae⟩
   .left;unfold Hl.mem at hb ⊢;simpa [e1] using hb
  .have:=Hl.sub_lt hs (b:=g) (by unfold Hl.mem;rw[hg];rfl);exact(MM ae).trans hg
 rcases ho.2 with ⟨rfl,rfl⟩ | ⟨g,cap,cur,rfl,hg,G,p,I,l⟩
 .have hx:xs=[]:=Oo (by simpa using ho.1);subst hx;by_cases hm:m=0
  .subst hm;have hn:news=[]:=Oo (by simpa using hl);subst hn;refine⟨.slice none 0 0,w,H,?_,ho,hs,⟨rfl,rfl,rfl,M1 _,fun _ _ _=>rfl⟩,fun _ _ _=>rfl,fun b hb=>Or.inl hb,Or.inl rfl,ho⟩;simp [Builtin.append_,run_underlying q,sizeOf,typeInfo,hi,Builtin.lenOf,Builtin.firstCells,loadCells,loadCellsFrom]
  .have hr:=run_append_nil (P:=P) w t ty e i z q hi hz a m c news hl d ae ae (by have hb:=h;simp only[Nw]at hb;omega);obtain⟨H',B,C,g3,g4,D,J⟩:=grown 0 ae (Or.inl rfl);simp only[Nw,N1,Array.empty_append]at hr B C g3 g4 D ⊢;exact⟨_,_,H',hr,B,C,g3,g4,D,Or.inr ⟨_,rfl,M1 _⟩,J⟩
 .by_cases f:n+m<=cap
  .have y:n*i.size+news.length<=cur.size:=by rw[hl,I,<-OE];exact O1 _ f
   have hr:=run_append_room (P:=P) w t ty e i q hi g n cap cur (hs _ _ hg) a m c news hl d h1 f y;refine⟨_,_,fun b=>if b=g then some (.cells (cur.toList.take (n*i.size)++news++cur.toList.drop (n*i.size+news.length)).toArray e (0,0))else H b,hr,
    ⟨hlen,Or.inr ⟨g,cap,_,rfl,M0 rfl,f,p,?_,?_⟩⟩,?_,⟨rfl,rfl,rfl,ar,fun k _ hk=>setRow_other w g k _ (fun e=>hk (by simp [Value.ownBlock,e]))⟩,?_,?_,Or.inl rfl,ho.1,Or.inr ⟨g,cap,_,rfl,M0 rfl,G,p,?_,?_⟩⟩
   .simp only[OL,MJ,M3,Nj,Of];omega
   .rw[l,<-hlen];exact Ox
   .intro b o hb;simp only at hb;split at hb
    .rename_i e1;subst e1;cases hb;exact setRow_heap w b cur _ e _ (hs _ _ hg)
    .rename_i e1;rw[setRow_other w g b _ e1];exact hs b o hb
   .intro b hb K;exact MM (fun e1=>K (by simp [Value.ownBlock,e1]))
   .intro b hb;left;by_cases e1:b=g
    .subst e1;unfold Hl.mem;rw[hg];rfl
    .unfold Hl.mem at hb ⊢;simpa [e1] using hb
   .simp only[OL,MJ,M3,Nj,Of];omega
   .rw[l,MY,<-ho.1];exact Ox
  .have holds:∀ j u,xs[j]?=some u->w.cell? ((⟨g,0,none⟩:Addr).add j)=some u:=(owns_row hs ho).cells (g:=g) rfl;have hr:=run_append_grow (P:=P) w t ty e i z q hi hz ⟨g,0,none⟩ n cap xs ho.1 holds a m c news hl d ae ae (growslice_fits ae h);obtain⟨H',B,C,g3,g4,D,J⟩:=grown cap ae (Or.inr ⟨g,rfl,(Ng.1 (hs _ _ hg)).1⟩);exact⟨_,_,H',hr,B,C,g3,g4,D,Or.inr ⟨_,rfl,M1 _⟩,J⟩
def append_grow {i:TypeInfo} (s:P.underlying t=some (.slice e)) (hi:P.info? e=some i) (hz:i.zero=some z)
 (hsize:i.size=size) (hby:i.bytes=bytes) (l:z.cells.size=size) {b:Addr} {n cap:Nat} {olds:List Value} (f:olds.length=n*size) (holds:∀ j x,olds[j]?=some x->w.cell? (b.add j)=some x)
 {u:Value} {m:Nat} {news:List Value} (hl:news.length=m*size) (hu:SrcAt w u m news) (hg:cap<n+m) (v:n<=cap) (h:n+m<=maxLen) (d:(n+m)*bytes<=140737488355328) :
 ∃ q r,(Builtin.append_ #[t,t] ty #[.slice (some b) n cap,u]).run P w=.ok (.slice (some ⟨w.heap.size,0,none⟩) (n+m) q) (w.drew.alloc r) /\
  OwnsH (Hl.one w.heap.size r) e size (.slice (some ⟨w.heap.size,0,none⟩) (n+m) q) (n+m) (olds++news):=by
 subst hsize;subst hby;have k:n+m<=9223372036854775807:=by simp only[maxLen]at h;omega
 rcases hu with ⟨a,c,rfl,g⟩ | ⟨⟨c,rfl⟩,rfl,rfl⟩
 rotate_left
 .omega
 have hr:=run_append_grow (P:=P) w t ty e i z s hi hz b n cap olds f holds a m c news hl g hg ae (growslice_fits ae d);have o:=grownCap_ge w (n+m) cap e;have p:grownCap w (n+m) cap e<=maxLen:=grownCap_le_maxLen w (n+m) cap e h;have hlen:(olds++news).length=(n+m)*i.size:=by rw[MJ,f,hl,OE]
 refine⟨_,_,hr,hlen,Or.inr ⟨w.heap.size,_,_,rfl,Hl.one_self _ _,o,p,?_,?_⟩⟩
 .simp only[Array.size_append,OL,size_zeroCells,l,f,hl,<-OE]
  congr 1
  omega
 .simp only[Qc,MY];rw[<-MY,<-hlen];exact Ox
end
end Go.Sx
