/- Bytes that are no request are told nothing and change nothing: a part of the proof. No condition. -/
import Derived.MapKept
import Derived.Test.YtbdikjnpbnobcaaGreatDoorTE
set_option linter.all false
set_option maxHeartbeats 4000000
namespace Go.Proofs.YtbdikjnpbnobcaaGreatDoor.D
open Go Go.Sx
variable {es es':Array MapEntry}{f g:E}{q:Env}{F H R R':Hl}{c frm fuse i most x y:Int}{k:IntKind}{bs bs' h:List Int}{mem t:Mem}{a clock clock' da j k1 k2 m n s:Nat}{e:TypeId}{dp dp' p sl sl' v:Value}
def mapPut_st {l:List (Int×Value)} (h:MapIs k es l) (hn:mapGo i l 0=none) (v:Value) (hs:MapKept.Stamped es clock) :
 ∃ es',mapPut (.int k) (.int k i) v es clock=.map es' (clock+1)/\MapIs k es' (l++[(i,v)])/\MapKept.Stamped es' (clock+1):=by
 refine⟨es.push ⟨.int k i,v,clock⟩,?_,?_,MapKept.stamped_push hs fun x hx he=>?_⟩
 .unfold mapPut;rw[mapFind_int h,hn]
 .unfold MapIs at h ⊢;rw[Array.toList_push,M9,M9,h];rfl
 .have:(x.key,x.val)∈l.map fun p=>(Value.int k p.1,p.2):=by
   rw[<-show es.toList.map (fun e=>(e.key,e.val))=_ from h];exact Np.2 ⟨x,hx,rfl⟩
  obtain⟨q,a,e⟩:=Np.1 this;have h1:=mapGo_none.1 hn q a;rw[Nr]at e;rw[he]at e;exact h1 (Value.int.inj e.1).2
structure DM where
 n:Nat
 now:List Int
 loose:List (Int×List Int)
 fuse:Int
 gone:Bool
variable {D D':DM}
structure DM.ok (D:DM):Prop where
 now:D.now.length=64*D.n
 n:D.n<=16384
 f0:-1<=D.fuse
 f1:D.fuse<=9223372036854775807
 loose:∀ p∈D.loose,p.2.length=64/\0<=p.1/\p.1<D.n
def lv (l:List (Int×List Int)):List (Int×Value):=l.map fun p=>(p.1,.agg (bys p.2).toArray)
def dStruct (a s m n:Nat) (fuse:Int) (gone:Bool):Hl:=Hl.one a (.cells #[.slice (some ⟨s,0,none⟩) n n,.map (some m),.int .i64 fuse,.bool gone] 93 (0,0))
def dNow (s:Nat) (now:List Int):Hl:=Hl.one s (.cells (bys now).toArray 277 (0,0))
structure DiskIn (H:Hl) (a s m:Nat) (es:Array MapEntry) (clock:Nat) (D:DM):Prop where
 ok:D.ok
 map:MapIs .i64 es (lv D.loose)
 st:MapKept.Stamped es clock
 nas:a≠s
 nam:a≠m
 nsm:s≠m
 hl:H=hls [dStruct a s m D.n D.fuse D.gone,dNow s D.now,Hl.one m (.map es clock)]
def DiskAt (H:Hl) (v:Value) (D:DM):Prop:=∃ a s m es clock,v=.pointer (some ⟨a,0,none⟩)/\DiskIn H a s m es clock D
def dMem:Mem:=[.blk 0 [.sl (.var 6) (.var 7) (.var 8) (.var 9),.map (.var 10),.int .i64 (.var 11),.bool (.bvar 12)] 93,.hp 13 [] [.var 6] [],.hp 14 [] [.var 10] []]
def dEnv (a s m:Nat) (D:DM) (l:List Int) (es:Array MapEntry) (clock:Nat) (R:Hl):Env :=
 envI (([(a:Int)]++l++[(s:Int),0,D.n,D.n,m,D.fuse])) D.gone (List.replicate 13 Hl.none++[dNow s D.now,Hl.one m (.map es clock),R])
def dBlk {gone:Bool} (h0:q.i 0=a) (c:q.i 6=s) (d:q.i 7=0) (e:q.i 8=n) (h:q.i 9=n) (b:q.i 10=m) (hf:iev q f=fuse) (hg:bev q g=gone) :
 (Res.blk 0 [.sl (.var 6) (.var 7) (.var 8) (.var 9),.map (.var 10),.int .i64 f,.bool g] 93).hl q=dStruct a s m n fuse gone:=by
 simp only[Res.hl,M6,NN,CV.ev,iev_var,h0,c,d,e,h,b,hf,hg,MD];rw[slP_pos ae,MM ae];rfl
def dEntry (h:DiskIn H a s m es clock D) (l:List Int) (hl:l.length=5) (R:Hl):Entry (dEnv a s m D l es clock R) dMem [H] []:=by
 obtain⟨x1,b,c,d,e,rfl⟩:∃ x1 b c d e,l=[x1,b,c,d,e]:=by
  match l,hl with
  | [x1,b,c,d,e],_=>exact⟨x1,b,c,d,e,rfl⟩
 have hb:(Res.blk 0 [.sl (.var 6) (.var 7) (.var 8) (.var 9),.map (.var 10),.int .i64 (.var 11),.bool (.bvar 12)] 93).hl (dEnv a s m D [x1,b,c,d,e] es clock R)=dStruct a s m D.n D.fuse D.gone:=dBlk rfl rfl rfl rfl rfl rfl rfl rfl;have d1:(dStruct a s m D.n D.fuse D.gone).dis (dNow s D.now):=Hl.one_dis_one h.nas;have d2:(dStruct a s m D.n D.fuse D.gone).dis (Hl.one m (.map es clock)):=Hl.one_dis_one h.nam;have d3:(dNow s D.now).dis (Hl.one m (.map es clock)):=Hl.one_dis_one h.nsm;obtain⟨f,g,i⟩:=hls3_le d1 d2 d3;refine⟨fun r hr ho=>⟨H,ar,?_⟩,fun r hr ho=>?_,?_,fun r hr=>?_⟩
 .rw[h.hl];simp only[dMem,MQ,MV,Nt]at hr;rcases hr with rfl | rfl | rfl
  .rw[hb];exact f
  .exact g
  .exact i
 .simp only[dMem,MQ,MV,Nt]at hr;rcases hr with rfl | rfl | rfl<;>cases ho
 .unfold dMem;refine List.Pairwise.cons (fun r hr _ _=>?_) (List.Pairwise.cons (fun r hr _ _=>?_) (List.Pairwise.cons (fun r hr=>by cases hr) List.Pairwise.nil))
  .rw[hb];simp only[MQ,MV,Nt]at hr;rcases hr with rfl | rfl
   .exact d1
   .exact d2
  .simp only[MQ,MV,Nt]at hr;subst hr;exact d3
 .simp only[dMem,MQ,MV,Nt]at hr;rcases hr with rfl | rfl | rfl
  .show(0:Int)<=(a:Int);omega
  .trivial
  .trivial
def dEntry2 (h:DiskIn H a s m es clock D) (l:List Int) (hl:l.length=5) (R:Hl) (t:List E):Entry (dEnv a s m D l es clock R) (dMem++[.ro 15 t false]) [H] [R]:=by
 obtain⟨h1,h2,b,c⟩:=dEntry h l hl R;refine⟨fun r hr ho=>?_,fun r hr ho=>?_,?_,fun r hr=>?_⟩
 .rcases Nb.1 hr with hr | hr
  .exact h1 r hr ho
  .rw[MO]at hr;subst hr;cases ho
 .rcases Nb.1 hr with hr | hr
  .obtain⟨R,d,_⟩:=h2 r hr ho;cases d
  .rw[MO]at hr;subst hr;exact⟨R,ar,Hl.le_refl _⟩
 .rw[PW];refine⟨b,ar,fun r _ s hs _ ho=>?_⟩;rw[MO]at hs;subst hs;cases ho
 .rcases Nb.1 hr with hr | hr
  .exact c r hr
  .rw[MO]at hr;subst hr;trivial
def sects (n:Int):Nat:=(min (max n 0) 16384).toNat
def newD (n:Int):DM:=⟨sects n,List.replicate (64*sects n) 0,[],-1,false⟩
def newS:Sx.Spec where
 fn:=8
 own:=[]
 rd:=[]
 res:=[.one .ptr]
 pre:=fun xs Hs Rs=>∃ n,xs=[.int .i64 n]
 post:=fun xs Hs Rs v Hs' F=>∃ n,xs=[.int .i64 n]/\DiskAt F v (newD n)
def newW:Walk Tryz.prog [] newS.fn where
 Λ:=noLoops
 args:=[TI .i64 (.var 0)]
 mem:=[]
 nv:=1
def made_rep (k n:Nat) (hk:0<k) (z:Value):madeCells (List.replicate k z).toArray n=(List.replicate n z).toArray:=by
 apply Array.ext
 .simp [madeCells]
 .intro i h1 h2;simp [madeCells,Oj,Qg _ hk]
def made_bytes (n:Nat):madeCells (List.replicate 64 (Value.int .u8 0)).toArray (n*64)=(bys (List.replicate (64*n) 0)).toArray:=by
 rw[made_rep 64 _ ae,OV];unfold bys;rw[PE]
def newS_ok:newS.OK Tryz.prog:=by
 refine Spec.of_fn (Γ:=[]) (fun _ h=>by cases h) ?_;rintro xs Hs Rs k l ⟨n,rfl⟩;have e0:Hs=[]:=MF.1 k;have e1:Rs=[]:=MF.1 l;subst e0;subst e1;refine⟨newW,envI [n] false [],fun _ _=>True,fun _ _=>0,?_,⟨?_,?_,?_,?_⟩,(fun _ h=>nomatch h),?_⟩
 .simp [newW,TI,TV.ev,SV.ev,CV.ev,iev_var,envI]
 .intro r hr;simp [newW]at hr
 .intro r hr;simp [newW]at hr
 .simp [newW]
 .intro r hr;simp [newW]at hr
 .refine Walk.read [] [] [] ?_;simp only[go_sem,Nat.reduceAdd];have e:(if(16384:Int)<if n<0 then 0 else n then 16384 else if n<0 then 0 else n)=(sects n:Int):=by
   unfold sects;split<;>split<;>omega
  have hs:sects n<=16384:=by unfold sects;omega
  have o:(envI [n] false []).i 0=n:=rfl;rw[o];simp only[e];refine⟨⟨ae,ae,ae⟩,fun q1 v ⟨p1,f⟩ q2 q ⟨p2,g⟩ b g3 p3 hd=>?_⟩;have i0:b.i 0=n:=by rw[g3.i 0,q.i 0,v.i 0];rfl
  have i1:b.i 1=q1.i 1:=by rw[g3.i 1,q.i 1]
  have i2:b.i 2=q2.i 2:=by rw[g3.i 2]
  obtain⟨s,t⟩:=N3 p1;obtain⟨m,u⟩:=N3 p2;obtain⟨a,j⟩:=N3 p3;rw[t]at i1 f;rw[u]at i2 g;rw[MD]at f g;have w:(List.replicate 64 (CV.int IntKind.u8 (E.lit 0))).map (CV.ev (envI [n] false []))=List.replicate 64 (Value.int .u8 0):=rfl;rw[w]at f;have h1:b.h 1=dNow s (newD n).now:=by
   rw[g3.h 1,q.h 1,f,Og,MD,made_bytes];rfl
  have h2:b.h 2=Hl.one m (.map #[] 0):=by rw[g3.h 2,g]
  have x:(Res.blk 3 [.sl (.var 1) (.lit 0) (.ite (.lt (.lit 16384) (.ite (.lt (.var 0) (.lit 0)) (.lit 0) (.var 0))) (.lit 16384) (.ite (.lt (.var 0) (.lit 0)) (.lit 0) (.var 0))) (.ite (.lt (.lit 16384) (.ite (.lt (.var 0) (.lit 0)) (.lit 0) (.var 0))) (.lit 16384) (.ite (.lt (.var 0) (.lit 0)) (.lit 0) (.var 0))),.map (.var 2),.int .i64 (.lit (-1)),.bool .ff] 93).hl b=dStruct a s m (sects n) (-1) false:=by
   simp only[Res.hl,M6,NN,CV.ev,bT_tt,bT_ff,bT_bvar,bT_not,bT_and,bT_or,bT_ite,bT_lt,bT_le,bT_eq,bT_beq,bT_seq,bT_hB,bT_his,bT_hby,bT_hism,bT_hks,iev_lit,iev_var,iev_add,iev_sub,iev_mul,iev_wrap,iev_ite,iev_hI,iev_hP,iev_hmlen,sev_ite,sev_slit,sev_sof,sev_svar,bev_ff,bev_lt,MI,i0,i1,i2,j,e,MD];rw[slP_pos ae,MM ae];rfl
  have c:=hd 0 1 _ _ aj rfl rfl rfl;have d:=hd 0 2 _ _ aj rfl rfl rfl;have d12:=hd 1 2 _ _ aj rfl rfl rfl;rw[x]at d d12;have c:(b.h 1).dis (b.h 2):=c;have d:(b.h 1).dis (dStruct a s m (sects n) (-1) false):=d;have d12:(b.h 2).dis (dStruct a s m (sects n) (-1) false):=d12;rw[h1]at c d;rw[h2]at c d12;have nsm:s≠m:=fun e=>Hl.one_dis.1 c (Hl.one_mem.2 e);have nas:a≠s:=fun e=>Hl.one_dis.1 d (Hl.one_mem.2 e.symm);have nam:a≠m:=fun e=>Hl.one_dis.1 d12 (Hl.one_mem.2 e.symm);refine⟨[],[2,0,1],rfl,rfl,⟨b.setI 0 (b.i 3) |>.setI 1 0,rfl,⟨by show -1<=b.i 3;omega,MT _⟩,zzT⟩,n,rfl,a,s,m,#[],0,?_,⟨⟨?_,hs,by show(-1:Int)<= -1;omega,by show(-1:Int)<=_;omega,fun p hp=>by cases hp⟩,rfl,MapKept.stamped_empty _,nas,nam,nsm,?_⟩⟩
  .simp only[TV.ev,SV.ev,CV.ev,iev_var,iev_lit,j];rw[slP_pos ae];rfl
  .show(List.replicate (64*sects n) (0:Int)).length=_;rw[Og];rfl
  .show hls [_,b.h 1,b.h 2]=_;rw[h1,h2]
   congr 1
   congr 1
def lv_inj {a b:List (Int×List Int)} (h:lv a=lv b):a=b:=by
 apply Ni;intro j;have:=Ns (fun l=>l[j]?) h;simp only[lv,MU]at this;cases c:a[j]? with
 | none =>
  cases hb:b[j]? with
  | none=>rfl
  | some q=>simp [c,hb]at this
 | some p =>
  cases hb:b[j]? with
  | none=>simp [c,hb]at this
  | some q =>
   simp only[c,hb,Nl,MP,Nr,Value.agg.injEq]at this;obtain⟨h1,h2⟩:=this;have e:=Ns Array.toList h2;have d:=bys_inj e;obtain⟨p1,p2⟩:=p;obtain⟨q1,q2⟩:=q;simp only at h1 d;rw[h1,d]
def MapIs.inj {a b:List (Int×Value)} (h1:MapIs k es a) (h2:MapIs k es b):a=b:=by
 unfold MapIs at h1 h2;rw[h1]at h2;apply Ni;intro j;have:=Ns (fun l=>l[j]?) h2;simp only[MU]at this;cases c:a[j]?<;>cases hb:b[j]?<;>simp [c,hb]at this ⊢
 exact Prod.ext this.1 this.2
def DiskIn.at (h:DiskIn H a s m es clock D) :
 H a=some (.cells #[.slice (some ⟨s,0,none⟩) D.n D.n,.map (some m),.int .i64 D.fuse,.bool D.gone] 93 (0,0))/\H s=some (.cells (bys D.now).toArray 277 (0,0))/\H m=some (.map es clock):=by
 obtain⟨b,c,d⟩:=hls3_le (A:=dStruct a s m D.n D.fuse D.gone) (B:=dNow s D.now) (C:=Hl.one m (.map es clock)) (Hl.one_dis_one h.nas) (Hl.one_dis_one h.nam) (Hl.one_dis_one h.nsm);rw[h.hl];exact⟨b _ _ (Hl.one_self _ _),c _ _ (Hl.one_self _ _),d _ _ (Hl.one_self _ _)⟩
def DiskAt.uniq (h:DiskAt H v D) (h':DiskAt H v D'):D=D':=by
 obtain⟨a,s,m,es,clock,rfl,h⟩:=h;obtain⟨a',o,m',es',clock',he,h'⟩:=h';simp only[Value.pointer.injEq,MP,Addr.mk.injEq,MZ]at he;subst he;obtain⟨x1,k,l⟩:=h.at;obtain⟨c,d,e⟩:=h'.at;rw[x1]at c;simp only[MP,Obj.cells.injEq,Nc,MH,Value.slice.injEq,Addr.mk.injEq,Value.map.injEq,Value.int.injEq,Value.bool.injEq,MZ,Nz]at c;obtain⟨⟨rfl,hn,_⟩,rfl,hf,hg⟩:=c;rw[k]at d;rw[l]at e;simp only[MP,Obj.cells.injEq,M4,MZ]at d;simp only[MP,Obj.map.injEq]at e;obtain⟨rfl,rfl⟩:=e;have e1:=bys_inj (Ns Array.toList d);have i:=lv_inj (MapIs.inj h.map h'.map);obtain⟨n,now,loose,fuse,gone⟩:=D;obtain⟨n',j,b,f,g⟩:=D';simp only at hn hf hg e1 i;subst hn hf hg e1 i;rfl
def dExit (hok:D.ok) (hm:MapIs .i64 es (lv D.loose)) (b:MapKept.Stamped es clock) (h1:a≠s) (h2:a≠m) (c:s≠m)
 (e1:resAt q mem 0=dStruct a s m D.n D.fuse D.gone) (d:resAt q mem 1=dNow s D.now) (e:resAt q mem 2=Hl.one m (.map es clock)):DiskIn (uni q mem [0,1,2]) a s m es clock D :=
 ⟨hok,hm,b,h1,h2,c,by show hls [resAt q mem 0,resAt q mem 1,resAt q mem 2]=_;rw[e1,d,e]⟩
def dArg (a:Nat):Value.pointer (slP (a:Int) 0)=.pointer (some ⟨a,0,none⟩):=by rw[slP_pos ae];rfl
def numS (f:FuncId) (num:DM->Int):Sx.Spec where
 fn:=f
 own:=[.arg 0]
 rd:=[]
 res:=[.one (.int .i64)]
 pre:=fun xs Hs Rs=>∃ p H D,xs=[p]/\Hs=[H]/\DiskAt H p D
 post:=fun xs Hs Rs v Hs' F=>∃ p H D H',xs=[p]/\Hs=[H]/\DiskAt H p D/\Hs'=[H']/\DiskAt H' p D/\v=.int .i64 (num D)
def sectorsS:=numS 71 fun D=>D.n
def sectorsW:Walk Tryz.prog [] sectorsS.fn where
 Λ:=noLoops
 args:=[TP (.var 0) (.lit 0)]
 mem:=dMem
 nv:=15
def sectorsS_ok:sectorsS.OK Tryz.prog:=by
 refine Spec.of_fn (Γ:=[]) (fun _ h=>by cases h) ?_;rintro xs Hs Rs c b ⟨p,H,D,rfl,rfl,a,s,m,es,clock,rfl,h⟩;have e1:Rs=[]:=MF.1 b;subst e1;refine⟨sectorsW,dEnv a s m D [0,0,0,0,0] es clock Hl.none,fun _ _=>True,fun _ _=>0,?_,dEntry h _ rfl _,(fun _ h=>nomatch h),?_⟩
 .show [Value.pointer (slP (a:Int) 0)]=_;rw[dArg]
 .refine Walk.read [] [] [] ?_;simp only[go_sem,Nat.reduceAdd];refine⟨by show(0:Int)<=(D.n:Int);omega,fun _=>⟨[[0,1,2]],[],rfl,rfl,⟨(ay fun _=>D.n),rfl,zzT,zzT⟩,_,H,D,_,rfl,rfl,⟨a,s,m,es,clock,rfl,h⟩,rfl,⟨a,s,m,es,clock,rfl,?_⟩,rfl⟩⟩;exact dExit h.ok h.map h.st h.nas h.nam h.nsm (dBlk rfl rfl rfl rfl rfl rfl rfl rfl) rfl rfl
def DM.has (D:DM) (i:Int):Bool:=decide (0<=i/\i<D.n)
def DM.sector (D:DM) (i:Int):List Int:=(D.now.drop (64*i.toNat)).take 64
def readR (D:DM) (i:Int):List Int×Int:=if D.has i=false then([],1)else if D.gone then([],5)else(D.sector i,0)
def sector_length (h:D.ok) (hi:D.has i=true):(D.sector i).length=64:=by
 unfold DM.has at hi;simp only[MI]at hi;unfold DM.sector;rw[M3,Nj,h.now];omega
def sector_get (h:D.ok) (hi:D.has i=true) (a:j<64):(D.sector i)[j]?=D.now[64*i.toNat+j]?:=by
 unfold DM.sector;rw[Nv a,Nm]
def now_cell (s y:Nat):(dNow s D.now).cell s y=(D.now[y]?).map (Value.int .u8):=by
 unfold dNow;rw[Hl.one_cell,N7,bys_get]
def readS:Sx.Spec where
 fn:=166
 own:=[.arg 0]
 rd:=[]
 res:=[.one .sl,.one (.int .i64)]
 pre:=fun xs Hs Rs=>∃ p i H D,xs=[p,.int .i64 i]/\Hs=[H]/\DiskAt H p D
 post:=fun xs Hs Rs v Hs' F=>∃ p i H D H' u,xs=[p,.int .i64 i]/\Hs=[H]/\DiskAt H p D/\Hs'=[H']/\DiskAt H' p D/\v=.tuple #[u,.int .i64 (readR D i).2]/\OwB F 5 u (readR D i).1
def readW:Walk Tryz.prog [] readS.fn where
 Λ:=noLoops
 args:=[TP (.var 0) (.lit 0),TI .i64 (.var 1)]
 mem:=dMem
 nv:=15
def readS_ok:readS.OK Tryz.prog:=by
 refine Spec.of_fn (Γ:=[]) (fun _ h=>by cases h) ?_;rintro xs Hs Rs u o ⟨p,i,H,D,rfl,rfl,a,s,m,es,clock,rfl,h⟩;have e1:Rs=[]:=MF.1 o;subst e1;refine⟨readW,dEnv a s m D [i,0,0,0,0] es clock Hl.none,fun _ _=>True,fun _ _=>0,?_,dEntry h _ rfl _,(fun _ h=>nomatch h),?_⟩
 .show [Value.pointer (slP (a:Int) 0),Value.int .i64 i]=_;rw[dArg]
 .refine Walk.read [] [] [] ?_;simp only[go_sem,Nat.reduceAdd];have v1:(dEnv a s m D [i,0,0,0,0] es clock Hl.none).i 1=i:=rfl;have v6:(dEnv a s m D [i,0,0,0,0] es clock Hl.none).i 6=s:=rfl;have v7:(dEnv a s m D [i,0,0,0,0] es clock Hl.none).i 7=0:=rfl;have w:(dEnv a s m D [i,0,0,0,0] es clock Hl.none).i 8=D.n:=rfl;have x:(dEnv a s m D [i,0,0,0,0] es clock Hl.none).b 12=D.gone:=rfl;rw[v1,v6,v7,w,x];have keep:∀ (q:Env) (t:Mem),Agree 15 (dEnv a s m D [i,0,0,0,0] es clock Hl.none) q->DiskAt (uni q (dMem++t) [0,1,2]) (.pointer (some ⟨a,0,none⟩)) D:=fun q t g =>
   ⟨a,s,m,es,clock,rfl,dExit h.ok h.map h.st h.nas h.nam h.nsm (dBlk (f:=.var 11) (g:=.bvar 12) (g.i 0) (g.i 6) (g.i 7) (g.i 8) (g.i 9) (g.i 10) (g.i 11) (g.b 12)) (g.h 13) (g.h 14)⟩
  have bad:∀ e:Int,readR D i=([],e)->postOf readS [.pointer (some ⟨a,0,none⟩),.int .i64 i] [H] [] (dEnv a s m D [i,0,0,0,0] es clock Hl.none) dMem (.tup [.one (.sl (.lit (-1)) (.lit 0) (.lit 0) (.lit 0)),.one (.int .i64 (.lit e))]):=fun e he _ =>
   ⟨[[0,1,2]],[],rfl,rfl,⟨(ay fun k=>[-1,0,0,0,e].getD k 0),rfl,⟨by show(-1:Int)<= -1;omega,MT _,MT _,MT _⟩,zzT,zzT⟩,_,i,H,D,_,_,rfl,rfl,⟨a,s,m,es,clock,rfl,h⟩,rfl,keep _ [] (Agree.refl _ _),by rw[he];rfl,by rw[he];exact⟨rfl,Or.inl ⟨rfl,rfl⟩⟩⟩
  refine⟨fun h0=>⟨ae,fun hn=>bad 1 ?_,fun hn=>⟨fun hg=>bad 5 ?_,fun hg=>⟨ae,ae,fun q1 c p1=>⟨⟨⟨[],?_⟩,ae,Or.inl ⟨?_,?_,ae,?_⟩,aj,aj⟩,fun q2 y ⟨a1,a2,z,_⟩ _=>?_⟩⟩⟩⟩,fun h0=>bad 1 ?_⟩
  .unfold readR DM.has;rw[M0 (by simp only[NF];omega)]
  .have hh:D.has i=true:=by unfold DM.has;simpa using ⟨h0,hn⟩
   unfold readR;rw[hh,hg];rfl
  .refine⟨rfl,Or.inr ⟨(q1.i 15).toNat,0,#[],by rw[slP_pos p1];rfl,Hl.one_self _ _,ae,aj,rfl,rfl⟩⟩
  .rw[c.i 6,v6];omega
  .rw[c.i 7,c.i 1,v7,v1];omega
  .intro j d;have d:j<64:=d;rw[c.h 13,c.i 6,c.i 7,c.i 1,v6,v7,v1];show ∃ v,(dNow s D.now).cell s _=some v/\_;rw[now_cell,ME (by rw[h.ok.now];omega)];exact⟨_,rfl,rfl⟩
  .have hh:D.has i=true:=by unfold DM.has;simpa using ⟨h0,hn⟩
   have hr:readR D i=(D.sector i,0):=by
    unfold readR;rw[hh];simp only[Bool.true_eq_false,Om];rw[MM hg]
   have r:=sector_length h.ok hh;have l:segVals (q1.h 13) (q1.i 6).toNat (q1.i 7+q1.i 1*64).toNat (Int.toNat 64)=bys (D.sector i):=by
    rw[c.h 13,c.i 6,c.i 7,c.i 1,v6,v7,v1];show segVals (dNow s D.now) s _ 64=_;unfold segVals;apply Ni;intro j;rw[MU,bys_get];rcases ND j 64 with d | d
    .rw[Nf d,Nl,now_cell,sector_get h.ok hh d,show(0+i*64).toNat+j=64*i.toNat+j by omega,ME (by rw[h.ok.now];omega)];rfl
    .rw[MS (by simpa using d),MS ae];rfl
   have hx:=z [] ⟨rfl,Or.inr ⟨(q1.i 15).toNat,0,#[],by rw[slP_pos p1];rfl,Hl.one_self _ _,ae,aj,rfl,rfl⟩⟩;rw[l,N1]at hx;refine⟨[[0,1,2]],[3],rfl,rfl,⟨(ay fun k=>[q2.i 16,0,64,q2.i 17,0].getD k 0),rfl,⟨a1,MT _,by show(0:Int)<=64;omega,a2⟩,zzT,zzT⟩,_,i,H,D,_,_,rfl,rfl,⟨a,s,m,es,clock,rfl,h⟩,rfl,keep q2 _ (c.tr y),by rw[hr];rfl,?_⟩;rw[hr];show OwnsH (hls [q2.h 16]) _ _ _ _ _;rw[hls_one,r];exact hx
  .unfold readR DM.has;rw[M0 (by simp only[NF];omega)]
def putD (D:DM) (i:Int) (bs:List Int):DM:=⟨D.n,splice D.now (64*i.toNat) bs,if(mapGo i (lv D.loose) 0).isSome then D.loose else D.loose++[(i,D.sector i)],if 0<D.fuse then D.fuse-1 else D.fuse,false⟩
def writeR (D:DM) (i:Int) (bs:List Int):Int×DM :=
 if D.has i=false\/bs.length≠64 then(1,D)else if D.gone then(5,D)else if D.fuse=0 then(5,{D with gone:=true})else(0,putD D i bs)
def writeG (a:Hl->Value->List Int->Prop):Sx.Spec where
 fn:=202
 own:=[.arg 0]
 rd:=[2]
 res:=[.one (.int .i64)]
 pre:=fun xs Hs Rs=>∃ p i u bs H R D,xs=[p,.int .i64 i,u]/\Hs=[H]/\Rs=[R]/\DiskAt H p D/\a R u bs
 post:=fun xs Hs Rs v Hs' F=>∃ p i u bs H R D H',xs=[p,.int .i64 i,u]/\Hs=[H]/\Rs=[R]/\DiskAt H p D/\a R u bs/\Hs'=[H']/\DiskAt H' p (writeR D i bs).2/\v=.int .i64 (writeR D i bs).1
def writeS:Sx.Spec:=writeG RdB
def writeTail (f:E):Nd:=(fun a k h i j=>(fun b c d g l=>(.and (.pre c) (.ext c (.ext (.alloc 81) (.and (.imp (.not (.bvar 80)) (.and (.e (.le h i)) (.and (.e (.le h (.var 7))) (.and (.e (.hby 13 i a (.lit 64))) (.and (.pre d) (.ext d (.and (.e (.le h (.var 2))) (.and (.e (.le h (.var 3))) (.and j (.and (.pre (.put 83 13 i a b)) (.ext (.put 83 13 i a b) (.post [.blk 0 g 93,.hp 83 [13] [.var 6] [],.hp 82 [14] [.var 10] [],.ro 15 [.var 2] false,.dead] l)))))))))))) (.imp (.bvar 80) (.and (.e (.le h (.var 2))) (.and (.e (.le h (.var 3))) (.and j (.and (.e (.le h i)) (.and (.e (.le h (.var 7))) (.and (.pre (.put 82 13 i a b)) (.ext (.put 82 13 i a b) (.post [.blk 0 g 93,.hp 82 [13] [.var 6] [],.hp 14 [] [.var 10] [],.ro 15 [.var 2] false,.dead] l)))))))))))):Nd)) (romCells 15 (.var 2) (.var 3) 0 k) (.mget 16 14 (.var 10) (.int .i64) (.int .i64 (.var 1)) (.agg (List.replicate 64 (CV.int .u8 h))) (List.replicate 64 (Ck.int .u8)) true) (.mset 82 14 (.var 10) (.int .i64) (.int .i64 (.var 1)) (.agg (romCells 13 i a 0 k))) [.sl i (.var 7) (.var 8) (.var 9),.map (.var 10),.int .i64 f,.bool (.bvar 12)] (.sv (.one (.int .i64 h)))) (.add (.var 7) (.mul (.var 1) (.lit 64))) (List.replicate 64 (Kd.int .u8)) (.lit 0) (.var 6) (.e (.hby 15 (.var 2) (.var 3) (.lit 64)))
def writeNd:Nd:=(fun g c d f=>(fun a=>(fun b=>(.and (.imp (.le d (.var 1)) (.and (.e (.le d g)) (.and (.imp (.lt (.var 1) g) (.and (.e (.le d (.var 4))) (.and (.imp (.not (.eq (.var 4) (.lit 64))) b) (.imp (.eq (.var 4) (.lit 64)) (.and (.imp (.not (.bvar 12)) (.and (.imp (.eq c d) (.post [.blk 0 [.sl (.var 6) (.var 7) g (.var 9),.map (.var 10),.int .i64 c,.bool .tt] 93,.hp 13 [] [.var 6] [],.hp 14 [] [.var 10] [],.ro 15 [.var 2] false] f)) (.imp (.not (.eq c d)) (.and (.imp (.lt d c) (writeTail (.wrap .i64 (.sub c (.lit 1))))) (.imp (.not (.lt d c)) (writeTail c)))))) (.imp (.bvar 12) (.post a f))))))) (.imp (.not (.lt (.var 1) g)) b)))) (.imp (.not (.le d (.var 1))) b):Nd)) (.post a (.sv (.one (.int .i64 (.lit 1)))))) [.blk 0 [.sl (.var 6) (.var 7) g (.var 9),.map (.var 10),.int .i64 c,.bool (.bvar 12)] 93,.hp 13 [] [.var 6] [],.hp 14 [] [.var 10] [],.ro 15 [.var 2] false]) (.var 8) (.var 11) (.lit 0) (.sv (.one (.int .i64 (.lit 5))))
def writeW:Walk Tryz.prog [] 202 where
 Λ:=noLoops
 args:=[TP (.var 0) (.lit 0),TI .i64 (.var 1),.sv (.one (.sl (.var 2) (.var 3) (.var 4) (.var 5)))]
 mem:=dMem++[.ro 15 [.var 2] false]
 nv:=16
def ckOf_bys (l:List Int):(bys l).map ckOf=List.replicate l.length (.int .u8):=by
 unfold bys;rw[NY]
 induction l with
 | nil=>rfl
 | cons a l ih=>rw[M6,Nk,Px,ih];rfl
def putD_ok (h:D.ok) (hi:D.has i=true) (hb:bs.length=64):(putD D i bs).ok:=by
 have hh:0<=i/\i<D.n:=by unfold DM.has at hi;simpa using hi
 refine⟨?_,h.n,?_,?_,fun p hp=>?_⟩
 .show(splice D.now (64*i.toNat) bs).length=_;rw[splice_length (by rw[h.now];omega),h.now];rfl
 .have:=h.f0;show(-1:Int)<=if 0<D.fuse then D.fuse-1 else D.fuse
  split<;>omega
 .have:=h.f1;show(if 0<D.fuse then D.fuse-1 else D.fuse)<=(9223372036854775807:Int);split<;>omega
 .have hp:p∈(if(mapGo i (lv D.loose) 0).isSome then D.loose else D.loose++[(i,D.sector i)]):=hp;split at hp
  .exact h.loose p hp
  .rcases Nb.1 hp with hp | hp
   .exact h.loose p hp
   .rw[MO]at hp;subst hp;exact⟨sector_length h hi,hh.1,hh.2⟩
def lv_append (a:List (Int×List Int)) (i:Int) (l:List Int):lv (a++[(i,l)])=lv a++[(i,.agg (bys l).toArray)]:=by simp [lv]
def dNow_put (s y:Nat) (now bs:List Int):(dNow s now).put s y (bys bs)=dNow s (splice now y bs):=by
 unfold dNow;rw[Hl.one_put,<-splice_bys]
def now_get (h:D.ok) (hi:D.has i=true) (s:Nat):∀ j z,(D.sector i)[j]?=some z->(dNow s D.now).cell s (64*i.toNat+j)=some (.int .u8 z):=by
 intro j z hz;have hl:=sector_length h hi;have a:j<64:=by have:=(MK.1 hz).1;omega
 rw[now_cell,<-sector_get h hi a,hz];rfl
def writeG_ok {o:Hl->Value->List Int->Prop} (hw:∀ {R u bs},o R u bs->RdW R u bs):(writeG o).OK Tryz.prog:=by
 refine Spec.of_fn (Γ:=[]) (fun _ h=>by cases h) ?_;rintro xs Hs Rs ak al ⟨p,i,u,bs,H,R,D,rfl,rfl,rfl,⟨a,s,m,es,clock,rfl,h⟩,Q⟩;obtain⟨x,y,M,rfl,hy,hR⟩:=hw Q;refine⟨writeW,dEnv a s m D [i,x,y,bs.length,M] es clock R,fun _ _=>True,fun _ _=>0,?_,dEntry2 h _ rfl _ _,(fun _ h=>nomatch h),?_⟩
 .show [Value.pointer (slP (a:Int) 0),Value.int .i64 i,Value.slice (slP x y) ((bs.length:Int)).toNat ((M:Int)).toNat]=_;rw[dArg,MD,MD]
 .refine Walk.lit (x:=writeNd) ?_;generalize e:dEnv a s m D [i,x,y,bs.length,M] es clock R=J;have v0:J.i 0=a:=by rw[<-e];rfl
  have v1:J.i 1=i:=by rw[<-e];rfl
  have v2:J.i 2=x:=by rw[<-e];rfl
  have v3:J.i 3=y:=by rw[<-e];rfl
  have v4:J.i 4=bs.length:=by rw[<-e];rfl
  have v6:J.i 6=s:=by rw[<-e];rfl
  have v7:J.i 7=0:=by rw[<-e];rfl
  have v8:J.i 8=D.n:=by rw[<-e];rfl
  have v9:J.i 9=D.n:=by rw[<-e];rfl
  have v10:J.i 10=m:=by rw[<-e];rfl
  have v11:J.i 11=D.fuse:=by rw[<-e];rfl
  have vb:J.b 12=D.gone:=by rw[<-e];rfl
  have N:J.h 13=dNow s D.now:=by rw[<-e];rfl
  have O:J.h 14=Hl.one m (.map es clock):=by rw[<-e];rfl
  have vr:J.h 15=R:=by rw[<-e];rfl
  have hI:∀ q,Agree 16 J q->∀ k,k<16->q.i k=J.i k:=fun q g k h=>g.i k h;have ab:DiskAt H (.pointer (some ⟨a,0,none⟩)) D:=⟨a,s,m,es,clock,rfl,h⟩;have out:∀ (q:Env) (f g:E) (k1 k2:Nat) (t:Mem) (ts:List E) (v1 v2:List Nat) (c:Int) (D':DM) (es':Array MapEntry) (clock':Nat),Agree 16 J q->writeR D i bs=(c,D')->D'.ok->D'.n=D.n->(MapIs .i64 es' (lv D'.loose)/\MapKept.Stamped es' clock')->iev q f=D'.fuse->bev q g=D'.gone->q.h k1=dNow s D'.now->q.h k2=Hl.one m (.map es' clock') ->
   postOf (writeG o) [.pointer (some ⟨a,0,none⟩),.int .i64 i,.slice (slP x y) bs.length M] [H] [R] q
    (.blk 0 [.sl (.var 6) (.var 7) (.var 8) (.var 9),.map (.var 10),.int .i64 f,.bool g] 93::.hp k1 v1 [.var 6] []::.hp k2 v2 [.var 10] []::t) (.sv (.one (.int .i64 (.lit c)))):=by
   intro q f g k1 k2 t ts w1 w2 c D' es' clock' P hw hok hn hm hf hg h1 h2 _;refine⟨[[0,1,2]],[],rfl,rfl,⟨(ay fun _=>c),rfl,zzT,zzT⟩,_,i,_,bs,H,R,D,_,rfl,rfl,rfl,ab,Q,rfl,⟨a,s,m,es',clock',rfl,?_⟩,by rw[hw];rfl⟩;rw[hw];refine dExit hok hm.1 hm.2 h.nas h.nam h.nsm (dBlk ?_ ?_ ?_ ?_ ?_ ?_ hf hg) h1 h2
   .rw[P.i 0,v0]
   .rw[P.i 6,v6]
   .rw[P.i 7,v7]
   .rw[P.i 8,v8];show(D.n:Int)=(D'.n:Int);rw[hn]
   .rw[P.i 9,v9];show(D.n:Int)=(D'.n:Int);rw[hn]
   .rw[P.i 10,v10]
  have tail:∀ f:E,(∀ q,Agree 16 J q->iev q f=if 0<D.fuse then D.fuse-1 else D.fuse)->D.has i=true->bs.length=64->D.gone=false->D.fuse≠0->(writeTail f).holds ⟨[],fun _ _=>True,fun _ _=>0,postOf (writeG o) [.pointer (some ⟨a,0,none⟩),.int .i64 i,.slice (slP x y) bs.length M] [H] [R]⟩ (fun _=>0) J:=by
   intro f hf hi hb hg hz;have hh:0<=i/\i<D.n:=by unfold DM.has at hi;simpa using hi
   have hw:writeR D i bs=(0,putD D i bs):=by
    unfold writeR;rw[MM (by rw[hi,hb];simp),MM (by rw[hg];simp),MM hz]
   have hx:0<=x/\∀ j z,bs[j]?=some z->R.cell x.toNat (y.toNat+j)=some (.int .u8 z):=by
    rcases hR with h | h
    .rw[h]at hb;cases hb
    .exact h
   have G:=putD_ok h.ok hi hb;have S:=sector_length h.ok hi;unfold writeTail;simp only[go_sem,Nat.reduceAdd];rw[v10,v1,O];have r:(Hl.one m (.map es clock)) ((m:Int)).toNat=some (.map es clock):=by rw[MD];exact Hl.one_self _ _
   refine⟨⟨ae,es,clock,_,r,mapFind_int h.map i,?_⟩,fun q1 g1 ad q2 g2 _=>?_⟩
   .intro j v hv;obtain⟨_,hv⟩:=mapGo_some hv;unfold lv at hv;rw[MU,MN]at hv;obtain⟨p,hp,he⟩:=hv;cases he;have:=(h.ok.loose p (MG hp)).1;refine⟨_,rfl,?_⟩;show(bys p.2).map ckOf=_;rw[ckOf_bys,this]
   .obtain⟨_,w⟩:=ad es clock _ r (mapFind_int h.map i);have w:q1.b 80=(mapGo i (lv D.loose) 0).isSome:=w;have T:q2.b 80=(mapGo i (lv D.loose) 0).isSome:=by rw[g2.b 80,w]
    have d:Agree 16 J q2:=g1.tr g2;have hby:∀ q,Agree 16 J q->cellBytes (q.h 15) (q.i 2).toNat (q.i 3).toNat (Int.toNat 64)=true:=by
     intro q g;rw[g.h 15,g.i 2,g.i 3,vr,v2,v3];exact cells_bytes hx.2 (by rw[hb];decide)
    have U:∀ q,Agree 16 J q->(romCells 15 (.var 2) (.var 3) 0 (List.replicate 64 (Kd.int .u8))).map (CV.ev q)=bys bs:=by
     intro q g;refine romCells_ev 64 0 bs hb fun j z hz=>?_;rw[g.h 15,iev_var,iev_var,g.i 2,g.i 3,vr,v2,v3,Nw];exact hx.2 j z hz
    have C:∀ q,Agree 16 J q->(q.i 7+q.i 1*64).toNat=64*i.toNat:=by
     intro q g;rw[g.i 7,g.i 1,v7,v1];omega
    have V:∀ q,Agree 16 J q->0<=q.i 6/\0<=q.i 7+q.i 1*64/\(q.h 13).wr (q.i 6).toNat (q.i 7+q.i 1*64).toNat (romCells 15 (.var 2) (.var 3) 0 (List.replicate 64 (Kd.int .u8))).length=true:=by
     intro q g;have:=C q g;refine⟨by rw[g.i 6,v6];omega,by rw[g.i 7,g.i 1,v7,v1];omega,?_⟩;rw[this,g.h 13,g.i 6,N,v6,romCells_length,Og,MD];exact Hl.one_wr _ _ _ _ _ (by rw[OL,bys_length,h.ok.now];omega)
    have I:∀ q,Agree 16 J q->(q.h 13).put (q.i 6).toNat (q.i 7+q.i 1*64).toNat (bys bs)=dNow s (putD D i bs).now:=by
     intro q g;rw[C q g,g.h 13,g.i 6,N,v6,MD,dNow_put];rfl
    have n2:∀ q,Agree 16 J q->0<=q.i 2/\0<=q.i 3/\0<=q.i 6/\0<=q.i 7:=by
     intro q g;rw[g.i 2,g.i 3,g.i 6,g.i 7,v2,v3,v6,v7];exact⟨hx.1,hy,ae,ae⟩
    refine⟨fun K=>?_,fun af=>?_⟩
    .have A:mapGo i (lv D.loose) 0=none:=by
      rw[T]at K;cases ag:mapGo i (lv D.loose) 0 with
      | none=>rfl
      | some v=>rw[ag]at K;simp at K
     obtain⟨es',ah,ai,W⟩:=mapPut_st h.map A (.agg (bys (D.sector i)).toArray) h.st;have aj:cellBytes (q2.h 13) (q2.i 6).toNat (q2.i 7+q2.i 1*64).toNat (Int.toNat 64)=true:=by
      rw[C q2 d,d.h 13,d.i 6,N,v6,MD];exact cells_bytes (now_get h.ok hi s) (by rw[S];decide)
     have X:(romCells 13 (.var 6) (.add (.var 7) (.mul (.var 1) (.lit 64))) 0 (List.replicate 64 (Kd.int .u8))).map (CV.ev q2)=bys (D.sector i):=by
      refine romCells_ev 64 0 _ S fun j z hz=>?_;simp only[iev_add,iev_mul,iev_var,iev_lit];rw[C q2 d,d.h 13,d.i 6,N,v6,MD,Nw];exact now_get h.ok hi s j z hz
     have Y:q2.h 14 (q2.i 10).toNat=some (.map es clock):=by
      rw[d.h 14,d.i 10,O,v10];exact r
     refine⟨(n2 q2 d).2.2.1,(n2 q2 d).2.2.2,aj,⟨by rw[d.i 10,v10];omega,es,clock,_,Y,mapFind_int h.map _⟩,fun B g3 F=>?_⟩;have l:Agree 16 J B:=d.tr g3;have Z:=F es clock Y;rw[X,d.i 1,v1,ah,d.h 14,d.i 10,O,v10,MD,Hl.one_setObj]at Z;refine⟨(n2 B l).1,(n2 B l).2.1,hby B l,V B l,fun q4 g4 aa=>?_⟩;have L:Agree 16 J q4:=l.tr g4;rw[U B l,I B l]at aa;refine out q4 _ _ _ _ _ [] _ _ 0 (putD D i bs) es' (clock+1) L hw G rfl ?_ (hf q4 L) (by rw[bev_bvar,L.b 12,vb,hg];rfl) aa (by rw[g4.h 82,Z]);have el:(putD D i bs).loose=D.loose++[(i,D.sector i)]:=by
      show(if(mapGo i (lv D.loose) 0).isSome then D.loose else D.loose++[(i,D.sector i)])=_;rw[A];rfl
     rw[el,lv_append];exact⟨ai,W⟩
    .have el:(putD D i bs).loose=D.loose:=by
      show(if(mapGo i (lv D.loose) 0).isSome then D.loose else D.loose++[(i,D.sector i)])=_;rw[<-T,af];rfl
     refine⟨(n2 q2 d).1,(n2 q2 d).2.1,hby q2 d,(n2 q2 d).2.2.1,(n2 q2 d).2.2.2,V q2 d,fun B g3 F=>?_⟩;have l:Agree 16 J B:=d.tr g3;rw[U q2 d,I q2 d]at F;exact out B _ _ _ _ _ [] _ _ 0 (putD D i bs) es clock l hw G rfl (by rw[el];exact⟨h.map,h.st⟩) (hf B l) (by rw[bev_bvar,l.b 12,vb,hg];rfl) F (by rw[l.h 14,O])
  unfold writeNd;simp only[go_sem,Nat.reduceAdd];rw[v1,v4,v8,v11,vb];have bad:∀ c:Int,writeR D i bs=(c,D)->postOf (writeG o) [.pointer (some ⟨a,0,none⟩),.int .i64 i,.slice (slP x y) bs.length M] [H] [R] J
   (.blk 0 [.sl (.var 6) (.var 7) (.var 8) (.var 9),.map (.var 10),.int .i64 (.var 11),.bool (.bvar 12)] 93::.hp 13 [] [.var 6] []::.hp 14 [] [.var 10] []::[.ro 15 [.var 2] false]) (.sv (.one (.int .i64 (.lit c)))):=fun c hc =>
   out J _ _ _ _ _ [] _ _ c D es clock (Agree.refl _ _) hc h.ok rfl ⟨h.map,h.st⟩ (by rw[iev_var,v11]) (by rw[bev_bvar,vb]) N O
  have yes:0<=i->i<D.n->D.has i=true:=fun h0 h1=>by unfold DM.has;simp [h0,h1]
  refine⟨fun h0=>⟨ae,fun hn=>⟨ae,fun hb=>bad 1 ?_,fun hb=>⟨fun hg=>⟨fun hz=>?_,fun hz=>⟨fun hp=>?_,fun hp=>?_⟩⟩,fun hg=>bad 5 ?_⟩⟩,fun hn=>bad 1 ?_⟩,fun h0=>bad 1 ?_⟩
  .unfold writeR;rw[M0 (Or.inr ae)]
  .have hw:writeR D i bs=(5,{D with gone:=true}):=by
    unfold writeR;rw[MM (by rw[yes h0 hn];simp;omega),MM hg,M0 hz]
   exact out J _ _ _ _ _ [] _ _ 5 {D with gone:=true} es clock (Agree.refl _ _) hw ⟨h.ok.now,h.ok.n,h.ok.f0,h.ok.f1,h.ok.loose⟩ rfl ⟨h.map,h.st⟩ (by rw[iev_var,v11]) (by rw[bev_tt]) N O
  .refine tail _ (fun q g=>?_) (yes h0 hn) ae (by simpa using hg) hz;have:=h.ok.f1;rw[iev_wrap,iev_sub,iev_var,iev_lit,g.i 11,v11,M0 hp,wrap_i64 ae ae]
  .refine tail _ (fun q g=>?_) (yes h0 hn) ae (by simpa using hg) hz;rw[iev_var,g.i 11,v11,MM hp]
  .unfold writeR;rw[MM (by rw[yes h0 hn];simp;omega),M0 hg]
  .unfold writeR DM.has;rw[M0 (Or.inl (by simp only[NF];omega))]
  .unfold writeR DM.has;rw[M0 (Or.inl (by simp only[NF];omega))]
def writeS_ok:writeS.OK Tryz.prog:=writeG_ok fun h=>h.w
def syncR (D:DM):Int×DM:=if D.gone then(5,D)else if D.fuse=0 then(5,{D with gone:=true})else(0,⟨D.n,D.now,[],if 0<D.fuse then D.fuse-1 else D.fuse,D.gone⟩)
def dOut {x1 d e j k:Int} (h:DiskIn H a s m es clock D) (b:Agree 15 (dEnv a s m D [x1,d,e,j,k] es clock R) q) {v1 v2:List Nat} 
 (hok:D'.ok) (hn:D'.n=D.n) (hm:MapIs .i64 es' (lv D'.loose)) (c:MapKept.Stamped es' clock') (hf:iev q f=D'.fuse) (hg:bev q g=D'.gone) (h1:q.h k1=dNow s D'.now) (h2:q.h k2=Hl.one m (.map es' clock')) :
 DiskAt (uni q (.blk 0 [.sl (.var 6) (.var 7) (.var 8) (.var 9),.map (.var 10),.int .i64 f,.bool g] 93::.hp k1 v1 [.var 6] []::.hp k2 v2 [.var 10] []::t) [0,1,2]) (.pointer (some ⟨a,0,none⟩)) D':=by
 refine⟨a,s,m,es',clock',rfl,dExit hok hm c h.nas h.nam h.nsm (dBlk (b.i 0) (b.i 6) (b.i 7) ?_ ?_ (b.i 10) hf hg) h1 h2⟩
 .rw[b.i 8];show(D.n:Int)=(D'.n:Int);rw[hn]
 .rw[b.i 9];show(D.n:Int)=(D'.n:Int);rw[hn]
def syncS:Sx.Spec where
 fn:=203
 own:=[.arg 0]
 rd:=[]
 res:=[.one (.int .i64)]
 pre:=fun xs Hs Rs=>∃ p H D,xs=[p]/\Hs=[H]/\DiskAt H p D
 post:=fun xs Hs Rs v Hs' F=>∃ p H D H',xs=[p]/\Hs=[H]/\DiskAt H p D/\Hs'=[H']/\DiskAt H' p (syncR D).2/\v=.int .i64 (syncR D).1
def syncW:Walk Tryz.prog [] syncS.fn where
 Λ:=noLoops
 args:=[TP (.var 0) (.lit 0)]
 mem:=dMem
 nv:=15
def syncS_ok:syncS.OK Tryz.prog:=by
 refine Spec.of_fn (Γ:=[]) (fun _ h=>by cases h) ?_;rintro xs Hs Rs w l ⟨p,H,D,rfl,rfl,a,s,m,es,clock,rfl,h⟩;have e1:Rs=[]:=MF.1 l;subst e1;refine⟨syncW,dEnv a s m D [0,0,0,0,0] es clock Hl.none,fun _ _=>True,fun _ _=>0,?_,dEntry h _ rfl _,(fun _ h=>nomatch h),?_⟩
 .show [Value.pointer (slP (a:Int) 0)]=_;rw[dArg]
 .refine Walk.read [] [] [] ?_;simp only[go_sem,Nat.reduceAdd];generalize d:dEnv a s m D [0,0,0,0,0] es clock Hl.none=J;have v10:J.i 10=m:=by rw[<-d];rfl
  have v11:J.i 11=D.fuse:=by rw[<-d];rfl
  have o:J.b 12=D.gone:=by rw[<-d];rfl
  have r:J.h 13=dNow s D.now:=by rw[<-d];rfl
  have u:J.h 14=Hl.one m (.map es clock):=by rw[<-d];rfl
  have out:∀ (q:Env) (f g:E) (k1 k2:Nat) (w1 w2:List Nat) (t:Mem) (c:Int) (D':DM) (es':Array MapEntry) (clock':Nat),Agree 15 J q->syncR D=(c,D')->D'.ok->D'.n=D.n->MapIs .i64 es' (lv D'.loose)->MapKept.Stamped es' clock'->iev q f=D'.fuse->bev q g=D'.gone->q.h k1=dNow s D'.now->q.h k2=Hl.one m (.map es' clock') ->
   postOf syncS [.pointer (some ⟨a,0,none⟩)] [H] [] q (.blk 0 [.sl (.var 6) (.var 7) (.var 8) (.var 9),.map (.var 10),.int .i64 f,.bool g] 93::.hp k1 w1 [.var 6] []::.hp k2 w2 [.var 10] []::t) (.sv (.one (.int .i64 (.lit c)))):=by
   intro q f g k1 k2 w1 w2 t c D' es' clock' k hs hok hn hm v hf hg h1 h2 _;rw[<-d]at k;refine⟨[[0,1,2]],[],rfl,rfl,⟨(ay fun _=>c),rfl,zzT,zzT⟩,_,H,D,_,rfl,rfl,⟨a,s,m,es,clock,rfl,h⟩,rfl,?_,by rw[hs];rfl⟩;rw[hs];exact dOut h k hok hn hm v hf hg h1 h2
  have e:(Hl.one m (.map es clock)) ((m:Int)).toNat=some (.map es clock):=by rw[MD];exact Hl.one_self _ _
  have tail:∀ (f:E),(∀ q,Agree 15 J q->iev q f=if 0<D.fuse then D.fuse-1 else D.fuse)->D.gone=false->D.fuse≠0->(0<=J.i 10/\∃ es clock,J.h 14 (J.i 10).toNat=some (.map es clock))/\∀ J',Agree 15 J J'->(∀ es clock,J.h 14 (J.i 10).toNat=some (.map es clock)->J'.h 15=(J.h 14).setObj (J.i 10).toNat (.map #[] clock)) ->
   postOf syncS [.pointer (some ⟨a,0,none⟩)] [H] [] J' [.blk 0 [.sl (.var 6) (.var 7) (.var 8) (.var 9),.map (.var 10),.int .i64 f,.bool (.bvar 12)] 93,.hp 13 [] [.var 6] [],.hp 15 [14] [.var 10] []] (.sv (.one (.int .i64 (.lit 0)))):=by
   intro f hf hg hz;rw[v10,u];refine⟨⟨ae,es,clock,e⟩,fun q j k=>?_⟩;have k:=k es clock e;rw[MD,Hl.one_setObj]at k;refine out q f (.bvar 12) 13 15 _ _ _ 0 ⟨D.n,D.now,[],if 0<D.fuse then D.fuse-1 else D.fuse,D.gone⟩ #[] clock j ?_ ⟨h.ok.now,h.ok.n,?_,?_,fun p hp=>by cases hp⟩ rfl rfl (MapKept.stamped_empty _) (hf q j) (by rw[bev_bvar,j.b 12,o]) (by rw[j.h 13,r]) k
   .unfold syncR;rw[MM (by rw[hg];simp),MM hz]
   .have:=h.ok.f0;show -1<=(if 0<D.fuse then D.fuse-1 else D.fuse);split<;>omega
   .have:=h.ok.f1;show(if 0<D.fuse then D.fuse-1 else D.fuse)<=_;split<;>omega
  rw[o,v11];have f0:=h.ok.f0;have f1:=h.ok.f1;refine⟨fun hg=>⟨fun hz=>?_,fun hz=>⟨fun hp=>tail _ (fun q j=>?_) (N4.2 hg) hz,fun hp=>tail _ (fun q j=>?_) (N4.2 hg) hz⟩⟩,fun hg=>?_⟩
  .refine out J _ _ _ _ _ _ _ 5 {D with gone:=true} es clock (Agree.refl _ _) ?_ ⟨h.ok.now,h.ok.n,h.ok.f0,h.ok.f1,h.ok.loose⟩ rfl h.map h.st (by rw[iev_var,v11]) (bev_tt _) r u;unfold syncR;rw[MM hg,M0 hz]
  .rw[M0 hp,iev_wrap,iev_sub,iev_var,iev_lit,j.i 11,v11];exact wrap_i64 ae ae
  .rw[MM hp,iev_var,j.i 11,v11]
  .refine out J _ _ _ _ _ _ _ 5 D es clock (Agree.refl _ _) ?_ h.ok rfl h.map h.st (by rw[iev_var,v11]) (by rw[bev_bvar,o]) r u;unfold syncR;rw[M0 hg]
def intsOf (v:Value):List Int:=(cellsV v).map fun c=>valI (some c)
def intsOf_bys (l:List Int):intsOf (.agg (bys l).toArray)=l:=by
 show((l.map (Value.int .u8)).map fun c=>valI (some c))=l;rw[NY];exact List.map_id l
def rowOK_bys:∀ (n:Nat) (l:List Int),l.length=n->rowOK (bys l) ((List.replicate n (Ck.int .u8)).map kdOf)
 | 0,[],_=>trivial
 | n+1,x::l,h=>⟨by simp [valIs,kdOf],rowOK_bys n l (by simpa using h)⟩
 | 0,_::_,h=>by simp at h
 | _+1,[],h=>by simp at h
def bigB (n c:Int):Int:=bitsI .or .u64 (IntKind.u64.wrap (n*2 ^ (min (Int.toNat 8) IntKind.u64.bits))) (IntKind.u64.wrap c)
def bigI (bs:List Int):Int:=bs.foldl bigB 0
def bigI_take (bs:List Int) (k:Nat) (h:k<bs.length):bigI (bs.take (k+1))=bigB (bigI (bs.take k)) bs[k]:=by
 unfold bigI;rw[Oh,ME h,List.foldl_append];rfl
def bigS:Sx.Spec where
 fn:=189
 own:=[]
 rd:=[0]
 res:=[.one (.int .u64)]
 pre:=fun xs Hs Rs=>∃ u bs R,xs=[u]/\Rs=[R]/\RdW R u bs/\bs.length<=1000
 post:=fun xs Hs Rs v Hs' F=>∃ u bs R,xs=[u]/\Rs=[R]/\RdW R u bs/\v=.int .u64 (bigI bs)
def bigW:Walk Tryz.prog [] bigS.fn where
 Λ:=fun p=>if lp p then some ⟨0,[(3,TI .u64 (.var 10)),(8,TI .i64 (.var 11))],[],12⟩else none
 args:=[.sv (.one (.sl (.var 0) (.var 1) (.var 2) (.var 3)))]
 mem:=[.ro 4 [.var 0] false]
 nv:=5
def bigInv (bs:List Int) (_:Nat) (q:Env):Prop:=∃ k:Nat,k<=bs.length/\q.i 11=k/\q.i 10=bigI (bs.take k)
def bigS_ok:bigS.OK Tryz.prog:=by
 refine Spec.of_fn (Γ:=[]) (fun _ h=>by cases h) ?_;rintro xs Hs Rs m s ⟨u,bs,R,rfl,rfl,⟨x,y,l,rfl,hy,n⟩,hlen⟩;have e0:Hs=[]:=MF.1 m;subst e0;refine⟨bigW,envI [x,y,bs.length,l] false [Hl.none,Hl.none,Hl.none,Hl.none,R],bigInv bs,fun _ q=>(bs.length-q.i 11).toNat,?_,⟨?_,?_,?_,?_⟩,(fun _ h=>nomatch h),?_⟩
 .show [Value.slice (slP x y) ((bs.length:Int)).toNat ((l:Int)).toNat]=_;rw[MD,MD]
 .intro r hr ho;simp [bigW]at hr;subst hr;cases ho
 .intro r hr ho;simp [bigW]at hr;subst hr;exact⟨R,ar,Hl.le_refl _⟩
 .simp [bigW]
 .intro r hr;simp [bigW]at hr;subst hr;trivial
 .refine Walk.read [] [] [] ?_;generalize a:envI [x,y,bs.length,l] false [Hl.none,Hl.none,Hl.none,Hl.none,R]=J;have v0:J.i 0=x:=by rw[<-a];rfl
  have v1:J.i 1=y:=by rw[<-a];rfl
  have v2:J.i 2=bs.length:=by rw[<-a];rfl
  have o:J.h 4=R:=by rw[<-a];rfl
  simp only[go_sem,Nat.reduceAdd];rw[v2];refine⟨ae,⟨0,ae,rfl,rfl⟩,fun q g ⟨k,hk,b,c⟩=>?_⟩;rw[g.i 0,g.i 1,g.i 2,g.h 4,v0,v1,v2,o,b];refine⟨fun t=>?_,fun v=>?_⟩
  .have d:k<bs.length:=ae;have f:0<=x/\∀ j z,bs[j]?=some z->R.cell x.toNat (y.toNat+j)=some (.int .u8 z):=by
    rcases n with h | h
    .subst h;simp at d
    .exact h
   have p:R.cell x.toNat (y+k).toNat=some (.int .u8 bs[k]):=by
    rw[show(y+(k:Int)).toNat=y.toNat+k by omega];exact f.2 _ _ (ME d)
   rw[p];refine⟨f.1,hy,ae,rfl,⟨k+1,ae,?_,?_⟩,?_⟩
   .show IntKind.i64.wrap (q.i 11+1)=_;rw[b];exact wrap_i64 ae ae
   .show bigB (q.i 10) (valI ((q.h 4).cell (q.i 0).toNat (q.i 1+q.i 11).toNat))=_;rw[c,g.i 0,g.i 1,g.h 4,v0,v1,o,b,p,bigI_take bs k d];rfl
   .show((bs.length:Int)-IntKind.i64.wrap (q.i 11+1)).toNat<_;rw[b,wrap_i64 ae ae];omega
  .have e:k=bs.length:=ae;subst e;rw[NZ]at c;refine fun _=>⟨[],[],rfl,rfl,⟨(ay fun _=>q.i 10),rfl,zzT,zzT⟩,_,bs,R,rfl,rfl,⟨x,y,l,rfl,hy,n⟩,?_⟩;show Value.int .u64 (q.i 10)=_;rw[c]
def wrap_u64 (h0:0<=x) (h1:x<18446744073709551616):IntKind.u64.wrap x=x:=by
 show Int.emod x 18446744073709551616=x;exact PM h0 h1
def bigB_add {n:Int} (n0:0<=n) (n1:n<72057594037927936) (c0:0<=c) (c1:c<256):bigB n c=n*256+c:=by
 unfold bigB;rw[show n*2 ^ (min (Int.toNat 8) IntKind.u64.bits)=n*256 from rfl,wrap_u64 ae ae,wrap_u64 c0 ae];obtain⟨m,rfl⟩:=N3 n0;obtain⟨d,rfl⟩:=N3 c0;show IntKind.u64.wrap (((BitVec.ofInt 64 ((m:Int)*256)) |||(BitVec.ofInt 64 (d:Int))).toNat:Int)=_;have e1:(BitVec.ofInt 64 ((m:Int)*256)).toNat=m*256:=by
  rw[show((m:Int)*256)=((m*256:Nat):Int)by omega,OI,OS];exact ON ae
 have a:(BitVec.ofInt 64 (d:Int)).toNat=d:=by
  rw[OI,OS];exact ON ae
 rw[Pz,e1,a];have e:m*256 |||d=m*256+d:=by
  have:=Po (i:=8) (b:=d) ae m;rw[Nat.shiftLeft_eq]at this;exact this.symm
 rw[e,wrap_u64 ae ae];omega
def be8 (x:Int):List Int:=[x/72057594037927936%256,x/281474976710656%256,x/1099511627776%256,x/4294967296%256,x/16777216%256,x/65536%256,x/256%256,x%256]
def big_eight {a b d e f g h:Int} (i:0<=a/\a<256) (hb:0<=b/\b<256) (j:0<=c/\c<256) (hd:0<=d/\d<256) (he:0<=e/\e<256) (hf:0<=f/\f<256) (hg:0<=g/\g<256) (hh:0<=h/\h<256) :
 bigI [a,b,c,d,e,f,g,h]=((((((a*256+b)*256+c)*256+d)*256+e)*256+f)*256+g)*256+h:=by
 show bigB (bigB (bigB (bigB (bigB (bigB (bigB (bigB 0 a) b) c) d) e) f) g) h=_;have e1:bigB 0 a=a:=by rw[bigB_add ae ae i.1 i.2];omega
 rw[e1,bigB_add (n:=a) (c:=b) i.1 ae hb.1 hb.2];rw[bigB_add (n:=a*256+b) (c:=c) ae ae j.1 j.2];rw[bigB_add (n:=(a*256+b)*256+c) (c:=d) ae ae hd.1 hd.2];rw[bigB_add (n:=((a*256+b)*256+c)*256+d) (c:=e) ae ae he.1 he.2];rw[bigB_add (n:=(((a*256+b)*256+c)*256+d)*256+e) (c:=f) ae ae hf.1 hf.2];rw[bigB_add (n:=((((a*256+b)*256+c)*256+d)*256+e)*256+f) (c:=g) ae ae hg.1 hg.2];rw[bigB_add (n:=(((((a*256+b)*256+c)*256+d)*256+e)*256+f)*256+g) (c:=h) ae ae hh.1 hh.2]
def big_be8 (h0:0<=x) (h1:x<18446744073709551616):bigI (be8 x)=x:=by
 unfold be8;rw[big_eight ae ae ae ae ae ae ae ae];omega
def u8s (n:Nat):List Ck:=List.replicate n (.int .u8)
def hdk:List Ck:=[.int .u64,.int .u64]++u8s 16
def halfL (l:List Int):List Int:=be8 (l.getD 0 0)++be8 (l.getD 1 0)++(l.drop 2).take 16
def halfG (xs:List Value):Value:=match xs with
 | [v]=>.agg (bys (halfL (intsOf v))).toArray
 | _=>.bool false
def halfN (xs:List Value):Prop:=match xs with
 | [v]=>(0<=(intsOf v).getD 0 0/\(intsOf v).getD 0 0<18446744073709551616)/\0<=(intsOf v).getD 1 0/\(intsOf v).getD 1 0<18446744073709551616
 | _=>False
def halfS:Sx.Spec:=pureS 204 [.agg hdk] [.agg (u8s 32)] halfN halfG
def halfW:Walk Tryz.prog [] 204 where
 Λ:=noLoops
 args:=(cpSVs 0 [.agg hdk]).map .sv
 mem:=[]
 nv:=18
def wrap_u8 (x:Int):IntKind.u8.wrap x=x%256:=rfl
def shr_u64 (h:q.i n=x) (h0:0<=x) (k:Nat):iev q (.wrap .u8 (.shr .u64 (.var n) (.lit k)))=x/2 ^ (min k 64)%256:=by
 rw[iev_wrap,wrap_u8,iev_shr,iev_var,h];show x.fdiv (2 ^ (min ((k:Int)).toNat 64))%256=_;rw[MD,Oc _ (Int.le_of_lt (Int.pow_pos ae))]
def be8_ev (h:q.i n=x) (h0:0<=x):[Value.int .u8 (iev q (.wrap .u8 (.shr .u64 (.var n) (.lit 56)))),Value.int .u8 (iev q (.wrap .u8 (.shr .u64 (.var n) (.lit 48)))),Value.int .u8 (iev q (.wrap .u8 (.shr .u64 (.var n) (.lit 40)))),Value.int .u8 (iev q (.wrap .u8 (.shr .u64 (.var n) (.lit 32)))),Value.int .u8 (iev q (.wrap .u8 (.shr .u64 (.var n) (.lit 24)))),Value.int .u8 (iev q (.wrap .u8 (.shr .u64 (.var n) (.lit 16)))),Value.int .u8 (iev q (.wrap .u8 (.shr .u64 (.var n) (.lit 8)))),Value.int .u8 (iev q (.wrap .u8 (.shr .u64 (.var n) (.lit 0))))]=(be8 x).map (Value.int .u8):=by
 have s:=fun k=>shr_u64 h h0 k;have a:iev q (.wrap .u8 (.shr .u64 (.var n) (.lit 56)))=x/72057594037927936%256:=s 56;have b:iev q (.wrap .u8 (.shr .u64 (.var n) (.lit 48)))=x/281474976710656%256:=s 48;have c:iev q (.wrap .u8 (.shr .u64 (.var n) (.lit 40)))=x/1099511627776%256:=s 40;have d:iev q (.wrap .u8 (.shr .u64 (.var n) (.lit 32)))=x/4294967296%256:=s 32;have e:iev q (.wrap .u8 (.shr .u64 (.var n) (.lit 24)))=x/16777216%256:=s 24;have f:iev q (.wrap .u8 (.shr .u64 (.var n) (.lit 16)))=x/65536%256:=s 16;have s8:iev q (.wrap .u8 (.shr .u64 (.var n) (.lit 8)))=x/256%256:=s 8;have s0:iev q (.wrap .u8 (.shr .u64 (.var n) (.lit 0)))=x/1%256:=s 0;rw[a,b,c,d,e,f,s8,s0,Int.ediv_one];rfl
set_option maxRecDepth 20000 in
def halfS_ok:halfS.OK Tryz.prog:=by
 refine pure_of (fun t h=>by cases h) halfW rfl rfl rfl (fun q _ _=>?_) (fun q f hN=>⟨fun _ _=>True,fun _ _=>0,?_⟩)
 .obtain⟨J,_,_,e⟩:=row_rep (u8s 32) 0 (bys (halfL (intsOf ((SV.agg (ckCVs 0 hdk)).ev q)))) q (rowOK_bys 32 _ rfl);exact⟨J,by show Value.agg _=Value.agg ((ckCVs 0 (u8s 32)).map (CV.ev J)).toArray;rw[e];rfl,ckNorms_pure _ _ _ aj,zzT⟩
 .have hN:(0<=q.i 0/\q.i 0<18446744073709551616)/\0<=q.i 1/\q.i 1<18446744073709551616:=hN;obtain⟨⟨a0,a1⟩,b,b1⟩:=hN;refine Walk.read [] [] [] ?_;simp only[Nd.holds,X.pre,X.rel,X.n];intro q1 c _ q2 d _ a g3 _;have G:Agree 18 q a:=(c.tr d).tr g3;have e0:a.i 0=q.i 0:=G.i 0;have e1:a.i 1=q.i 1:=G.i 1;show Value.agg (List.map (CV.ev a) (_++_)).toArray=Value.agg (bys (be8 (q.i 0)++be8 (q.i 1)++(List.range 16).map fun j=>q.i (2+j))).toArray
  congr 2
  rw[M9];unfold bys;rw[M9]
  congr 1
  .rw[M9,<-be8_ev e0 a0,<-be8_ev e1 b];rfl
  .have:=CV.agreeL (G.mono aj) _ (ckCVs_upto (u8s 16) 2);unfold u8s at this;rw[this];rfl
def headV (l:List Int):List Value:=[.int .u64 (bigI (l.take 8)),.int .u64 (bigI ((l.drop 8).take 8))]++bys ((l.drop 16).take 16)
def headOfG (xs:List Value):Value:=match xs with
 | [v]=>.agg (headV (intsOf v)).toArray
 | _=>.bool false
def headOfS:Sx.Spec:=pureS 167 [.agg (u8s 32)] [.agg hdk] (fun _=>True) headOfG
def headΓ:List Sx.Spec:=[bigS]
def headΓ_ok:∀ t∈headΓ,t.OK Tryz.prog:=fun t a=>by
 rw[headΓ,MO]at a;subst a;exact bigS_ok
def headOfW:Walk Tryz.prog headΓ 167 where
 Λ:=noLoops
 args:=(cpSVs 0 [.agg (u8s 32)]).map .sv
 mem:=[]
 nv:=32
def hg0:headΓ[0]?=some bigS:=rfl
def hr0:bigS.res=[.one (.int .u64)]:=rfl
def rdBlk {a:Int} (h0:0<=a) (vs:List Int) (o n c:Nat) (T:TypeId) (hn:o+n<=vs.length):RdW (Hl.one a.toNat (.cells (bys vs).toArray T (0,0))) (.slice (slP a (o:Int)) n c) ((vs.drop o).take n):=by
 have hl:((vs.drop o).take n).length=n:=by rw[M3,Nj];omega
 refine⟨a,o,c,by rw[hl],ae,Or.inr ⟨h0,fun j z hz=>?_⟩⟩;rw[Hl.one_cell,N7,bys_get,MD];rw[NB]at hz;split at hz
 .rw[Nm]at hz;rw[hz];rfl
 .cases hz
set_option maxRecDepth 20000 in
def headOfS_ok:headOfS.OK Tryz.prog:=by
 refine pure_of headΓ_ok headOfW rfl rfl rfl (fun q _ _=>?_) (fun q v hN=>⟨fun _ _=>True,fun _ _=>0,?_⟩)
 .obtain⟨J,_,_,e⟩:=row_rep hdk 0 (headV (intsOf ((SV.agg (ckCVs 0 (u8s 32))).ev q))) q ⟨by simp [valIs,kdOf],by simp [valIs,kdOf],rowOK_bys 16 _ rfl⟩;exact⟨J,by show Value.agg _=Value.agg ((ckCVs 0 hdk).map (CV.ev J)).toArray;rw[e];rfl,ckNorms_pure _ _ _ aj,zzT⟩
 .refine Walk.read [] [] [] ?_;simp only[Nd.holds,X.pre,X.rel,X.n,hg0,hr0,newHs_zero,cpTV,Cp.sv,Ck.cv,cpSVs,Cp.len,Ck.len,newHs_one,roots_ne,TV.ev,SV.ev,CV.ev,M6,NN,Res.hl,iev_var,iev_lit];intro q1 p a1 q2 l a2;obtain⟨L,d⟩:∃ L,L=(List.range 32).map fun j=>q.i j:=⟨_,rfl⟩;have r:L.length=32:=by rw[d];rfl
  have m:Agree 32 q q2:=p.tr l;have cells:∀ q',Agree 32 q q'->List.map (CV.ev q') (ckCVs 0 (List.replicate 32 (Ck.int .u8)))=bys L:=by
   intro q' g;have:=CV.agreeL (g.mono aj) _ (ckCVs_upto (u8s 32) 0);unfold u8s at this;rw[this,d];rfl
  rw[cells q2 m];have p2:0<=q2.i 32:=by rw[l.i 32];exact a1
  refine⟨⟨_,L.take 8,_,rfl,rfl,rdBlk p2 L 0 8 32 _ ae,by rw[M3];omega⟩,fun f g3 ⟨_,⟨u,bs,R,hx,h,k,hv⟩,_⟩=>?_⟩;cases hx;cases h;have e1:=k.uniq (rdBlk p2 L 0 8 32 _ ae);have o:Agree 32 q f:=m.tr g3;rw[cells f o];have p3:0<=f.i 32:=by rw[g3.i 32];exact p2
  refine⟨⟨_,(L.drop 8).take 8,_,rfl,rfl,rdBlk p3 L 8 8 24 _ ae,by rw[M3];omega⟩,fun b g4 ⟨_,⟨u,bs2,R,hx,h,c,a⟩,_⟩=>?_⟩;cases hx;cases h;have s:=c.uniq (rdBlk p3 L 8 8 24 _ ae);have t:Agree 32 q b:=o.tr g4;simp only[Value.int.injEq,Nz]at hv a;have hv:b.i 34=bigI (L.take 8):=by rw[g4.i 34,hv,e1];rfl
  have a:b.i 35=bigI ((L.drop 8).take 8):=by rw[a,s]
  show Value.agg (List.map (CV.ev b) (_++_)).toArray=Value.agg (headV ((List.range 32).map fun j=>q.i j)).toArray;rw[<-d]
  congr 2
  rw[M9];unfold headV
  congr 1
  .show [Value.int .u64 (b.i 34),Value.int .u64 (b.i 35)]=_;rw[hv,a]
  .have:=CV.agreeL (t.mono aj) _ (ckCVs_upto (u8s 16) 16);unfold u8s at this;rw[this,d];rfl
structure LM where
 frm:Int
 most:Int
 serial:Int
 size:Int
 note:List Int
 over:Bool
variable {L L':LM}
structure LM.ok (L:LM):Prop where
 frm:0<=L.frm/\L.frm<=16384
 most:0<=L.most/\L.most<=1048576
 note:L.note.length=16
def lCells (dp sl:Value) (L:LM):List Value:=[dp,.int .i64 L.frm,.int .i64 L.most,.int .u64 L.serial,.int .u64 L.size]++(bys L.note++[sl,.bool L.over])
def LogIn (R:Hl) (a:Nat) (dp sl:Value) (L:LM):Prop:=L.ok/\R a=some (.cells (lCells dp sl L).toArray 196 (0,0))
def LogRd (R:Hl) (p dp sl:Value) (L:LM):Prop:=∃ a:Nat,p=.pointer (some ⟨a,0,none⟩)/\LogIn R a dp sl L
def lCells_inj (h1:L.note.length=16) (h2:L'.note.length=16) (h:lCells dp sl L=lCells dp' sl' L'):dp=dp'/\sl=sl'/\L=L':=by
 unfold lCells at h;obtain⟨a,hb⟩:=List.append_inj h rfl;obtain⟨f,hd⟩:=List.append_inj hb (by rw[bys_length,bys_length,h1,h2]);simp only[MH,Value.int.injEq,Value.bool.injEq,Nz,MZ]at a hd;obtain⟨e0,e1,b,c,d⟩:=a;have e:=bys_inj f;obtain⟨x1,j,k,l,m,n⟩:=L;obtain⟨o,p,q,r,s,t⟩:=L';simp only at e1 b c d e hd;obtain⟨g,i⟩:=hd;subst e1 b c d e i;exact⟨e0,g,rfl⟩
def LogRd.uniq (h:LogRd R p dp sl L) (h':LogRd R p dp' sl' L'):dp=dp'/\sl=sl'/\L=L':=by
 obtain⟨a,rfl,ho,h⟩:=h;obtain⟨a',he,b,h'⟩:=h';simp only[Value.pointer.injEq,MP,Addr.mk.injEq,MZ]at he;subst he;rw[h]at h';simp only[MP,Obj.cells.injEq,MZ]at h';exact lCells_inj ho.note b.note (Ns Array.toList h')
def LogIn.cell (h:LogIn R a dp sl L) (j:Nat):R.cell a j=(lCells dp sl L)[j]?:=by
 unfold Hl.cell;rw[h.2];simp
def LogIn.mono (h:LogIn R a dp sl L) (hl:R.le R'):LogIn R' a dp sl L:=⟨h.1,hl _ _ h.2⟩
def LogRd.mono (h:LogRd R p dp sl L) (hl:R.le R'):LogRd R' p dp sl L:=by
 obtain⟨a,e,h⟩:=h;exact⟨a,e,h.mono hl⟩
def zeros18:List Int:=List.replicate 18 0
def headI (x:List Int):List Int:=[bigI (x.take 8),bigI ((x.drop 8).take 8)]++(x.drop 16).take 16
def hdV (h:List Int):List Value:=[.int .u64 (h.getD 0 0),.int .u64 (h.getD 1 0)]++bys (h.drop 2)
def goodH (b:List Int) (most place:Int):Prop:=b.take 32=b.drop 32/\(bigI ((b.take 32).take 8)).tmod 2=place/\bigI (((b.take 32).drop 8).take 8)<=most
instance (b:List Int) (most place:Int):Decidable (goodH b most place):=by unfold goodH;infer_instance
def lreadR (D:DM) (frm most place:Int):List Int×Int :=
 if(readR D (frm+place)).2≠0 then(zeros18,(readR D (frm+place)).2)
 else if goodH (readR D (frm+place)).1 most place then(headI ((readR D (frm+place)).1.take 32),0)else(zeros18,0)
def lreadS:Sx.Spec where
 fn:=123
 own:=[.link 0 0]
 rd:=[0]
 res:=[.agg hdk,.one (.int .i64)]
 pre:=fun xs Hs Rs=>∃ p place H R dp sl L D,xs=[p,.int .u64 place]/\Hs=[H]/\Rs=[R]/\LogRd R p dp sl L/\DiskAt H dp D/\(place=0\/place=1)
 post:=fun xs Hs Rs v Hs' F=>∃ p place H R dp sl L D H',xs=[p,.int .u64 place]/\Hs=[H]/\Rs=[R]/\LogRd R p dp sl L/\DiskAt H dp D/\Hs'=[H']/\DiskAt H' dp D /\
  v=.tuple #[.agg (hdV (lreadR D L.frm L.most place).1).toArray,.int .i64 (lreadR D L.frm L.most place).2]
def readY:E:=.ite (.eq (.var 8) (.lit 32)) (.var 6) (.add (.var 6) (.lit 32))
def eqE (f g:Nat->E):Nat->Nat->E
 | 0,j=>.eq (f j) (g j)
 | n+1,j=>.and (.eq (f j) (g j)) (eqE f g n (j+1))
def eqE_bev {q:Env} {f g:Nat->E} : ∀ (n j:Nat),bev q (eqE f g n j)=true↔∀ i,j<=i->i<=j+n->iev q (f i)=iev q (g i)
 | 0,j=>by
  unfold eqE;rw[bT_eq]
  exact⟨fun h i h1 h2=>by obtain rfl:i=j:=by omega
                          exact h,fun h=>h j ae ae⟩
 | n+1,j=>by
  unfold eqE;rw[bT_and,bT_eq,eqE_bev n (j+1)];refine⟨fun⟨h1,h2⟩ i a b=>?_,fun h=>⟨h j ae ae,fun i a b=>h i ae ae⟩⟩;rcases ND j i with h | h
  .exact h2 i ae ae
  .obtain rfl:i=j:=ae;exact h1
def readEq:E:=eqE (fun j=>.hI 6 (.var 5) (.var 6) j) (fun j=>.hI 6 (.var 5) readY j) 31 0
def lreadNd:Nd:=(fun g c m j k=>(fun l h f i=>(fun d b=>(fun a=>(.ext (.alloc 4) (.and (.e (.le c g)) (.and (.e (.his 2 g c 0 .ptr)) (.and (.e (.his 2 g (.lit 1) 0 (.int .i64))) (.and (.pre b) (.ext b (.and (.imp (.not (.eq (.var 9) c)) (.post [.hp 5 [3] l [],.ro 2 [.var 0] false,.dead,.hp 6 [] [.var 5] []] (.tup [.agg h,.one (.int .i64 (.var 9))]))) (.imp (.eq (.var 9) c) (.and (.e (.le (.lit (-1)) m)) (.and (.e (.le c (.var 6))) (.and (.e (.le j (.var 8))) (.and (.e (.le c m)) (.and (.e (.hby 6 m (.var 6) j)) (.and (.e (.le j (.var 7))) (.and (.e (.le (.var 7) (.var 8))) (.and (.e (.le j (.sub (.var 7) j))) (.and (.e (.le c readY)) (.and (.e (.hby 6 m readY j)) (.ext (.alloc 10) (.ext (.alloc 11) (.and (.pre f) (.ext f (.ext (.alloc 30) (.and (.imp (.not readEq) a) (.imp readEq (.and (.imp (.not k) a) (.imp k (.and (.e (.his 2 g (.lit 2) 0 (.int .i64))) (.and (.imp i a) (.imp (.not i) (.post d (.tup [.agg (ckCVs 12 ([Ck.int .u64,Ck.int .u64]++List.replicate 16 (Ck.int .u8))),.one (.int .i64 c)]))))))))))))))))))))))))))))))):Nd)) (.post d (.tup [.agg h,.one (.int .i64 c)]))) [.hp 5 [3] l [],.ro 2 [.var 0] false,.dead,.hp 6 [] [.var 5] [],.dead,.dead,.dead] (.call 0 5 [.sv (.one (.hptr (.hP 2 g c 0 0) (.hP 2 g c 0 1))),.sv (.one (.int .i64 (.wrap .i64 (.add (.hI 2 g (.lit 1) 0) (.wrap .i64 (.var 1))))))] [.hp 3 [] l []] [])) [.hP 2 g c 0 0] ([.int .u64 c,.int .u64 c]++List.replicate 16 (CV.int .u8 c)) (.call 1 12 [.sv (.agg (romCells 6 m (.var 6) 0 (List.replicate 32 (Kd.int .u8))))] [] []) (.lt (.wrap .u64 (.hI 2 g (.lit 2) 0)) (.var 13))) (.var 0) (.lit 0) (.var 5) (.lit 32) (.eq (.rem (.var 12) (.lit 2)) (.var 1))
def lreadΓ:List Sx.Spec:=[readS,headOfS]
def lreadΓ_ok:∀ t∈lreadΓ,t.OK Tryz.prog:=ai readS_ok <| ai headOfS_ok <| aD
def lreadW:Walk Tryz.prog lreadΓ lreadS.fn where
 Λ:=noLoops
 args:=[TP (.var 0) (.lit 0),TI .u64 (.var 1)]
 mem:=[.hp 3 [] [.hP 2 (.var 0) (.lit 0) 0 0] [],.ro 2 [.var 0] false]
 nv:=4
def rg1:lreadΓ[1]?=some headOfS:=rfl
def rr0:readS.res=[.one .sl,.one (.int .i64)]:=rfl
def rr1:headOfS.res=[.agg hdk]:=rfl
def rc0:(cpRoots 0 [Cp.one .sl,Cp.one (.int .i64)]≠[])=True:=by simp [cpRoots,Cp.roots,Ck.root]
def normsW_bytes (q:Env):∀ (m n:Nat),ckNormsW n (List.replicate m (Ck.int .u8)) q
 | 0,_=>trivial
 | m+1,n=>⟨zzT,normsW_bytes q m (n+1)⟩
def OwB.cap {l:Int} (h:OwB F e (.slice (slP x y) l.toNat c.toNat) bs) (hl:0<=l) (a:0<=c):l<=c:=by
 obtain⟨_,h⟩:=h;rcases h with ⟨h,_⟩ | ⟨g,cap,cur,h,_,hle,_⟩
 .simp only[Value.slice.injEq]at h;omega
 .simp only[Value.slice.injEq]at h;omega
def readR_ok (h:D.ok) (e:(readR D i).2=0):D.has i=true/\D.gone=false/\(readR D i).1=D.sector i/\(D.sector i).length=64:=by
 unfold readR at e ⊢;split at e
 .cases e
 .rename_i h1;have h1:D.has i=true:=by simpa using h1
  rw[MM (by simp [h1])];split at e
  .cases e
  .rename_i h2;rw[MM h2];exact⟨h1,by simpa using h2,rfl,sector_length h h1⟩
def headOf_pre {x:List Int} (h:x.length=32):headOfS.pre [.agg (bys x).toArray] [] []:=by
 obtain⟨c,_,_,a⟩:=row_rep (u8s 32) 0 (bys x) (ay fun _=>0) (rowOK_bys 32 _ h);refine⟨⟨c,⟨normsW_bytes c 32 0,zzT⟩,?_⟩,zzT⟩;show [Value.agg (bys x).toArray]=[Value.agg ((ckCVs 0 (u8s 32)).map (CV.ev c)).toArray];rw[a]
def lreadS_ok:lreadS.OK Tryz.prog:=by
 refine Spec.of_fn (Γ:=lreadΓ) lreadΓ_ok ?_;rintro xs Hs Rs af ag ⟨p,place,H,R,dp,sl,L,D,rfl,rfl,rfl,⟨a,rfl,C⟩,hD,ah⟩;obtain⟨da,s,m,es,clock,rfl,G⟩:=hD;refine⟨lreadW,envI [a,place] false [Hl.none,Hl.none,R,H],fun _ _=>True,fun _ _=>0,?_,⟨?_,?_,?_,?_⟩,(fun _ h=>nomatch h),?_⟩
 .show [Value.pointer (slP (a:Int) 0),Value.int .u64 place]=_;rw[dArg]
 .intro r hr ho;simp [lreadW]at hr;rcases hr with rfl | rfl
  .exact⟨H,ar,Hl.le_refl _⟩
  .cases ho
 .intro r hr ho;simp [lreadW]at hr;rcases hr with rfl | rfl
  .cases ho
  .exact⟨R,ar,Hl.le_refl _⟩
 .simp [lreadW,Res.own]
 .intro r hr;simp [lreadW]at hr;rcases hr with rfl | rfl<;>trivial
 .refine Walk.lit (x:=lreadNd) ?_;generalize o:envI [(a:Int),place] false [Hl.none,Hl.none,R,H]=J;have v0:J.i 0=a:=by rw[<-o];rfl
  have v1:J.i 1=place:=by rw[<-o];rfl
  have w2:J.h 2=R:=by rw[<-o];rfl
  have w3:J.h 3=H:=by rw[<-o];rfl
  unfold lreadNd;simp only[go_sem,Nat.reduceAdd,lreadΓ,rg1,rr0,rr1,rc0];intro q0 g0 _;have w:DiskAt H (.pointer (some ⟨da,0,none⟩)) D:=⟨da,s,m,es,clock,rfl,G⟩;have t0:Int.toNat 0=0:=rfl;have t1:Int.toNat 1=1:=rfl;have t2:Int.toNat 2=2:=rfl;have t32:Int.toNat 32=32:=rfl;have c0:R.cell a 0=some (.pointer (some ⟨da,0,none⟩)):=by rw[C.cell];rfl
  have c1:R.cell a 1=some (.int .i64 L.frm):=by rw[C.cell];rfl
  have c2:R.cell a 2=some (.int .i64 L.most):=by rw[C.cell];rfl
  obtain⟨f0,f1⟩:=C.1.frm;obtain⟨m0,m1⟩:=C.1.most;have ep:Value.pointer (slP (valP (R.cell a 0) 0) (valP (R.cell a 0) 1))=.pointer (some ⟨da,0,none⟩):=by rw[c0];exact dArg da
  have ei:IntKind.i64.wrap (valI (R.cell a 1)+IntKind.i64.wrap place)=L.frm+place:=by
   rw[c1];show IntKind.i64.wrap (L.frm+IntKind.i64.wrap place)=_;rw[wrap_i64 (n:=place) ae ae];exact wrap_i64 ae ae
  rw[g0.i 0,v0,g0.h 2,w2,g0.i 1,v1,g0.h 3,w3,MD,t0,t1,ep,ei];refine⟨ae,by rw[c0];rfl,by rw[c1];rfl,⟨_,L.frm+place,H,D,rfl,rfl,w⟩,fun q1 S ⟨F,⟨p',i',H',D',H2,u,hx,hH,T,I,U,hv,V⟩,W,hn⟩=>?_⟩;cases hx;cases hH;have e:=T.uniq w;subst e;obtain⟨⟨n5,n6,n7,X⟩,_⟩:=hn;have n6:0<=q1.i 6:=n6;have n7:0<=q1.i 7:=n7;have X:0<=q1.i 8:=X;simp only[Value.tuple.injEq,Nc,MH,Value.int.injEq,Nz,MZ]at hv I;obtain⟨rfl,O⟩:=hv;have W:=W trivial;subst W;have out:∀ (q:Env) (t:Mem) (r:TV) (h:List Int) (e:Int) (y:Env),Agree 10 q1 q->lreadR D' L.frm L.most place=(h,e)->r.ev q=(cpTV 0 lreadS.res).ev y->r.ev q=.tuple #[.agg (hdV h).toArray,.int .i64 e] ->
   postOf lreadS [.pointer (some ⟨a,0,none⟩),.int .u64 place] [H] [R] q (.hp 5 [3] [.hP 2 (.var 0) (.lit 0) 0 0] []::t) r:=by
   intro q t r h e y Y hr h1 h2 _;refine⟨[[0]],[],rfl,rfl,⟨y,h1,ckNorms_pure _ _ _ aj,zzT,zzT⟩,_,place,H,R,_,sl,L,D',_,rfl,rfl,rfl,⟨a,rfl,C⟩,w,rfl,?_,?_⟩
   .show DiskAt (hls [q.h 5]) _ _;rw[hls_one,Y.h 5,I];exact U
   .rw[h2,hr]
  have zero:∀ (q:Env) (t:Mem) (x:E) (e:Int),Agree 10 q1 q->lreadR D' L.frm L.most place=(zeros18,e)->iev q x=e ->
   postOf lreadS [.pointer (some ⟨a,0,none⟩),.int .u64 place] [H] [R] q (.hp 5 [3] [.hP 2 (.var 0) (.lit 0) 0 0] []::t) (.tup [.agg ([.int .u64 (.lit 0),.int .u64 (.lit 0)]++List.replicate 16 (CV.int .u8 (.lit 0))),.one (.int .i64 x)]):=by
   intro q t x e Y hr hx;refine out q t _ zeros18 e (ay fun k=>if k=18 then e else 0) Y hr ?_ ?_
   .subst hx;rfl
   .subst hx;rfl
  refine⟨fun h=>zero q1 _ _ _ (Agree.refl _ _) ?_ (by rw[iev_var]),fun h=>?_⟩
  .unfold lreadR;rw[<-O,M0 h]
  .rw[h]at O;obtain⟨hh,hg,hs,hl⟩:=readR_ok G.ok O.symm;obtain⟨b,hb⟩:∃ b,b=(readR D' (L.frm+place)).1:=⟨_,rfl⟩;rw[<-hb]at V hs;have A:b.length=64:=by rw[hs];exact hl
   have Z:=V.rd.at n5 n6 n7;obtain⟨e7,f⟩:=Z;rw[A]at e7;have f:0<=q1.i 5/\∀ j z,b[j]?=some z->(q1.h 6).cell (q1.i 5).toNat ((q1.i 6).toNat+j)=some (.int .u8 z):=by
    rcases f with ⟨_,f⟩ | f
    .rw[f]at A;cases A
    .exact f
   obtain⟨p5,f⟩:=f;have ad:=OwB.cap V n7 X;have eY:∀ q,Agree 10 q1 q->iev q readY=q1.i 6+32:=by
    intro q g;unfold readY;rw[iev_ite,MM (by rw[bT_eq,iev_var,iev_lit,g.i 8];omega),iev_add,iev_var,iev_lit,g.i 6]
   rw[eY q1 (Agree.refl _ _),t32];refine⟨n5,n6,ae,p5,cells_bytes f ae,ae,ae,ae,ae,?_,fun q2 P _ q3 g3 _=>?_⟩
   .refine cells_bytes (bs:=b.drop 32) (fun j z hz=>?_) (by rw[Nj];omega);rw[Nm]at hz;have:=f _ _ hz;rw[show(q1.i 6+32).toNat+j=(q1.i 6).toNat+(32+j)by omega];exact this
   have Q:Agree 10 q1 q3:=P.tr g3;have K:(b.take 32).length=32:=by rw[M3];omega
   have M:(romCells 6 (E.var 5) (E.var 6) 0 (List.replicate 32 (Kd.int IntKind.u8))).map (CV.ev q3)=bys (b.take 32):=by
    refine romCells_ev 32 0 _ K fun i z hz=>?_;rw[NB]at hz;split at hz
    .rw[iev_var,iev_var,Q.h 6,Q.i 5,Q.i 6,Nw];exact f _ _ hz
    .cases hz
   rw[M];refine⟨headOf_pre K,fun N g4 ⟨F4,c,_,_⟩ d B _=>?_⟩;have c:Value.agg (List.map (CV.ev N) (ckCVs 12 hdk)).toArray=Value.agg (headV (intsOf (.agg (bys (b.take 32)).toArray))).toArray:=c;rw[intsOf_bys]at c;have c:List.map (CV.ev N) (ckCVs 12 hdk)=headV (b.take 32):=by simpa using c
   have i12:N.i 12=bigI ((b.take 32).take 8):=by
    have:=Ns (fun l=>l[0]?) c;simpa [hdk,ckCVs,Ck.cv,CV.ev,headV,iev_var] using this
   have i13:N.i 13=bigI (((b.take 32).drop 8).take 8):=by
    have:=Ns (fun l=>l[1]?) c;simpa [hdk,ckCVs,Ck.cv,CV.ev,headV,iev_var,Ck.len] using this
   have v:Agree 10 q1 d:=(Q.tr g4).tr B;have aa:d.i 12=bigI ((b.take 32).take 8):=by rw[B.i 12,i12]
   have ab:d.i 13=bigI (((b.take 32).drop 8).take 8):=by rw[B.i 13,i13]
   have heq:bev d readEq=true↔b.take 32=b.drop 32:=by
    unfold readEq;rw[eqE_bev];have ex:∀ i:Nat,i<=31->iev d (.hI 6 (.var 5) (.var 6) i)=b.getD i 0/\iev d (.hI 6 (.var 5) readY i)=b.getD (32+i) 0:=by
     intro i hi;rw[iev_hI,iev_hI,iev_var,iev_var,eY d v,v.i 5,v.i 6,v.h 6];rw[f i _ (ME ae),show(q1.i 6+32).toNat+i=(q1.i 6).toNat+(32+i)by omega,f (32+i) _ (ME ae)];simp only[MR];rw[ME ae,ME ae];exact⟨rfl,rfl⟩
    constructor
    .intro h;apply Ni;intro j;rcases ND j 32 with hj | hj
     .have:=h j ae ae;rw[(ex j ae).1,(ex j ae).2]at this;rw[Nv hj,Nm,ME ae,ME ae];simp only[MR]at this;rw[ME ae,ME ae]at this;exact Ns some this
     .rw[MS (by rw[M3];omega),MS (by rw[Nj];omega)]
    .intro h i _ hi;rw[(ex i ae).1,(ex i ae).2];have this:(b.take 32)[i]?=(b.drop 32)[i]?:=Ns (fun l=>l[i]?) h;rw[Nv ae,Nm]at this;rw[MR,MR,this]
   rw[heq,iev_rem,iev_var,iev_lit,aa,ab,B.i 1,g4.i 1,g3.i 1,P.i 1,S.i 1,g0.i 1,v1];rw[B.i 0,g4.i 0,g3.i 0,P.i 0,S.i 0,g0.i 0,v0];rw[B.h 2,g4.h 2,g3.h 2,P.h 2,S.h 2,g0.h 2,w2,MD,t2,c2];have hw:IntKind.u64.wrap (valI (some (.int .i64 L.most)))=L.most:=by show IntKind.u64.wrap L.most=_;exact wrap_u64 m0 ae
   rw[hw];have hl:lreadR D' L.frm L.most place=if goodH b L.most place then(headI (b.take 32),0)else(zeros18,0):=by
    unfold lreadR;rw[MM (by rw[<-O];simp),<-hb]
   refine⟨fun h1=>zero d _ _ _ v (by rw[hl,MM fun h=>h1 h.1]) (iev_lit _ _),fun h1=>⟨fun h2=>zero d _ _ _ v (by rw[hl,MM fun h=>h2 h.2.1]) (iev_lit _ _),fun h2=>⟨rfl,fun(h3:L.most<bigI (((b.take 32).drop 8).take 8))=>zero d _ _ _ v (by rw[hl,MM fun h=>Int.not_le.2 h3 h.2.2]) (iev_lit _ _),fun(h3:¬L.most<bigI (((b.take 32).drop 8).take 8))=>?_⟩⟩⟩;refine out d _ _ (headI (b.take 32)) 0 (ay fun k=>if k=18 then 0 else d.i (12+k)) v (by rw[hl,M0 ⟨h1,h2,Int.not_lt.1 h3⟩]) ?_ ?_
   .rfl
   .show Value.tuple #[Value.agg (List.map (CV.ev d) (ckCVs 12 hdk)).toArray,_]=_;have e5:List.map (CV.ev d) (ckCVs 12 hdk)=List.map (CV.ev N) (ckCVs 12 hdk):=CV.agreeL (B.mono aj) _ (ckCVs_upto hdk 12);rw[e5,c];rfl
def OwB.rep (h:OwB F e v bs):∃ (x:Int) (c:Nat),-1<=x/\v=.slice (slP x 0) bs.length c/\bs.length<=c/\((x= -1/\bs=[])\/(0<=x/\∀ j z,bs[j]?=some z->F.cell x.toNat j=some (.int .u8 z))):=by
 obtain⟨hl,h⟩:=h;rcases h with ⟨rfl,hn⟩ | ⟨g,cap,cur,rfl,hg,hle,hm,hs,a⟩
 .exact⟨-1,0,ae,by rw[slP_nil,hn],ae,Or.inl ⟨rfl,MF.1 hn⟩⟩
 .refine⟨g,cap,ae,by rw[slP_pos ae];simp,hle,Or.inr ⟨ae,fun j z hz=>?_⟩⟩;have b:=(MK.1 hz).1;simp only[MD,Hl.cell,hg];have e1:(cur.toList.take (bs.length*1))[j]?=some (.int .u8 z):=by rw[a,bys_get,hz];rfl
  rw[Nv ae,OW]at e1;exact e1
def secA (all:List Int) (i:Nat):List Int:=(List.range 64).map fun j=>(all[64*i+j]?).getD 0
def fillGo (frm:Int) (all:List Int):Nat->Nat->DM->Int×DM
 | 0,_,D=>syncR D
 | f+1,i,D=>if 64*i<all.length then(if(writeR D (frm+2+i) (secA all i)).1≠0 then writeR D (frm+2+i) (secA all i)else fillGo frm all f (i+1) (writeR D (frm+2+i) (secA all i)).2)else syncR D
def fillR (D:DM) (frm:Int) (all:List Int) (from_:Int):Int×DM:=fillGo frm all (all.length+1) (from_/64).toNat D
def fillS:Sx.Spec where
 fn:=197
 own:=[.link 0 0]
 rd:=[0,1]
 res:=[.one (.int .i64)]
 pre:=fun xs Hs Rs=>∃ p u all a H R1 R2 dp sl L D,xs=[p,u,.int .i64 a]/\Hs=[H]/\Rs=[R1,R2]/\LogRd R1 p dp sl L/\OwB R2 5 u all/\DiskAt H dp D/\0<=a/\a<=1073741824/\all.length<=1073741824
 post:=fun xs Hs Rs v Hs' F=>∃ p u all a H R1 R2 dp sl L D H',xs=[p,u,.int .i64 a]/\Hs=[H]/\Rs=[R1,R2]/\LogRd R1 p dp sl L/\OwB R2 5 u all/\DiskAt H dp D/\Hs'=[H']/\DiskAt H' dp (fillR D L.frm all a).2/\v=.int .i64 (fillR D L.frm all a).1
def fillW64:E:=.wrap .i64 (.mul (.var 20) (.lit 64))
def fillM:E:=.ite (.lt (.sub (.var 3) fillW64) (.lit 64)) (.sub (.var 3) fillW64) (.lit 64)
def fillY:E:=.ite (.eq (.var 4) fillW64) (.var 2) (.add (.var 2) fillW64)
def fillCs:List CV:=(List.range 64).map fun(j:Nat)=>.int .u8 (.ite (.lt (.lit (j:Int)) fillM) (.hI 7 (.var 1) fillY j) (.lit 0))
def fillNd:Nd:=(fun f c g i=>(fun j h b k=>(fun a d=>(.and (.inv 0 [⟨20,0,.int .i64 (.wrap .i64 (.quo (.var 5) g))⟩] [(21,some 6)]) (.havoc 0 0 9 (.and (.e (.le c i)) (.and (.imp (.lt b i) (.and (.pre k) (.ext k (.and (.e (.le (.lit (-1)) (.var 1))) (.and (.e (.le c (.var 2))) (.and (.e (.le c b)) (.and (.e (.le b i)) (.and (.e (.le i (.var 4))) (.and (.e (.and (.or (.and (.eq (.var 1) (.lit (-1))) (.eq (.sub i b) c)) (.and (.le c (.var 1)) (.and (.le c fillY) (.hby 7 (.var 1) fillY fillM)))) (.and (.le c (.sub i b)) (.le fillM g)))) (.and (.e (.le c f)) (.and (.e (.his 8 f c 0 .ptr)) (.and (.e (.his 8 f (.lit 1) 0 (.int .i64))) (.and (.pre a) (.ext a (.and (.imp (.not (.eq (.var 23) c)) (.post [.hp 23 [21] j [],.ro 7 [.var 1] false,.ro 8 [.var 0] false,.dead] (.sv (.one (.int .i64 (.var 23)))))) (.imp (.eq (.var 23) c) (.back 0 0 [⟨20,0,.int .i64 (.wrap .i64 (.add (.var 20) (.lit 1)))⟩] [(21,some 23)]))))))))))))))))) (.imp (.not (.lt b i)) (.and (.e (.le c f)) (.and (.e (.his 8 f c 0 .ptr)) (.and (.pre d) (.ext d (.post [.hp 22 [21] j [],.ro 7 [.var 1] false,.ro 8 [.var 0] false] (.sv (.one (.int .i64 (.var 22))))))))))))):Nd)) (.call 0 23 [.sv h,.sv (.one (.int .i64 (.wrap .i64 (.add (.wrap .i64 (.add (.hI 8 f (.lit 1) 0) (.lit 2))) (.var 20))))),.sv (.one (.sl (.var 22) c g g))] [.hp 21 [] j []] [.blk 22 fillCs 5]) (.call 1 22 [.sv h] [.hp 21 [] j []] [])) [.hP 8 f c 0 0] (.one (.hptr (.hP 8 f c 0 0) (.hP 8 f c 0 1))) (.wrap .i64 (.mul (.var 20) g)) (.mk 22 5 [.int .u8 c] 1 g)) (.var 0) (.lit 0) (.lit 64) (.var 3)
def fillΓ:List Sx.Spec:=[writeS,syncS]
def fillΓ_ok:∀ t∈fillΓ,t.OK Tryz.prog:=ai writeS_ok <| ai syncS_ok <| aD
def fillW:Walk Tryz.prog fillΓ fillS.fn where
 Λ:=fun p=>if lp p then some ⟨0,[(7,TI .i64 (.var 20))],[(0,.hp 21 [] [.hP 8 (.var 0) (.lit 0) 0 0] [])],22⟩else none
 args:=[TP (.var 0) (.lit 0),.sv (.one (.sl (.var 1) (.var 2) (.var 3) (.var 4))),TI .i64 (.var 5)]
 mem:=[.hp 6 [] [.hP 8 (.var 0) (.lit 0) 0 0] [],.ro 7 [.var 1] false,.ro 8 [.var 0] false]
 nv:=9
def fg1:fillΓ[1]?=some syncS:=rfl
def fr0:writeS.res=[.one (.int .i64)]:=rfl
def fr1:syncS.res=[.one (.int .i64)]:=rfl
def fillInv (D:DM) (frm:Int) (all:List Int) (dp:Value) (b:Int) (_:Nat) (q:Env):Prop:=∃ (f i:Nat) (a:DM),q.i 20=i/\DiskAt (q.h 21) dp a/\fillGo frm all f i a=fillR D frm all b/\all.length+1<=f+i/\i<=all.length+16777217
def fillS_ok:fillS.OK Tryz.prog:=by
 refine Spec.of_fn (Γ:=fillΓ) fillΓ_ok ?_;rintro xs Hs Rs aa ab ⟨p,u,all,v,H,R1,R2,dp,sl,L,D,rfl,rfl,rfl,⟨a,rfl,P⟩,X,Q,R,ad,hall⟩;obtain⟨x,c,hx,rfl,hc,b⟩:=OwB.rep X;refine⟨fillW,envI [a,x,0,all.length,c,v] false [Hl.none,Hl.none,Hl.none,Hl.none,Hl.none,Hl.none,H,R2,R1],fillInv D L.frm all dp v,fun _ q=>(all.length-q.i 20).toNat,?_,⟨?_,?_,?_,?_⟩,(fun _ h=>nomatch h),?_⟩
 .show [Value.pointer (slP (a:Int) 0),Value.slice (slP x 0) ((all.length:Int)).toNat ((c:Int)).toNat,Value.int .i64 v]=_;rw[dArg,MD,MD]
 .intro r hr ho;simp [fillW]at hr;rcases hr with rfl | rfl | rfl
  .exact⟨H,ar,Hl.le_refl _⟩
  .cases ho
  .cases ho
 .intro r hr ho;simp [fillW]at hr;rcases hr with rfl | rfl | rfl
  .cases ho
  .exact⟨R2,ar,Hl.le_refl _⟩
  .exact⟨R1,ar,Hl.le_refl _⟩
 .simp [fillW,Res.own]
 .intro r hr;simp [fillW]at hr;rcases hr with rfl | rfl | rfl<;>trivial
 .refine Walk.lit (x:=fillNd) ?_;generalize d:envI [(a:Int),x,0,all.length,c,v] false [Hl.none,Hl.none,Hl.none,Hl.none,Hl.none,Hl.none,H,R2,R1]=J;have v0:J.i 0=a:=by rw[<-d];rfl
  have v1:J.i 1=x:=by rw[<-d];rfl
  have v2:J.i 2=0:=by rw[<-d];rfl
  have Y:J.i 3=all.length:=by rw[<-d];rfl
  have v4:J.i 4=c:=by rw[<-d];rfl
  have v5:J.i 5=v:=by rw[<-d];rfl
  have w6:J.h 6=H:=by rw[<-d];rfl
  have w7:J.h 7=R2:=by rw[<-d];rfl
  have Z:J.h 8=R1:=by rw[<-d];rfl
  unfold fillNd;simp only[go_sem,Nat.reduceAdd,fillΓ,fg1,fr0,fr1];have t0:Int.toNat 0=0:=rfl;have t1:Int.toNat 1=1:=rfl;have t64:Int.toNat 64=64:=rfl;obtain⟨da,s,m,es,clock,I,af⟩:=id Q;have c0:R1.cell a 0=some dp:=by rw[P.cell];rfl
  have c1:R1.cell a 1=some (.int .i64 L.frm):=by rw[P.cell];rfl
  obtain⟨f0,f1⟩:=P.1.frm;have ep:Value.pointer (slP (valP (R1.cell a 0) 0) (valP (R1.cell a 0) 1))=dp:=by rw[c0,I];exact dArg da
  have wk:valIs (R1.cell a 0) Kd.ptr=true:=by rw[c0,I];rfl
  refine⟨⟨all.length+1,(v/64).toNat,D,?_,?_,rfl,ae,ae⟩,fun q g ⟨f,i,D1,K,w,C,ag,hi⟩=>?_⟩
  .show IntKind.i64.wrap ((J.i 5).tdiv 64)=_;rw[v5,PC R,wrap_i64 ae ae];omega
  .show DiskAt (J.h 6) dp D;rw[w6];exact Q
  .have u0:q.i 0=a:=by rw[g.i 0,v0]
   have u3:q.i 3=all.length:=by rw[g.i 3,Y]
   have y8:q.h 8=R1:=by rw[g.h 8,Z]
   have S:IntKind.i64.wrap ((i:Int)*64)=64*i:=by rw[wrap_i64 ae ae];omega
   have out:∀ (q':Env) (n:Nat) (vs:List Nat) (t:Mem) (r:Int×DM),Agree 9 J q'->fillR D L.frm all v=r->DiskAt (q'.h n) dp r.2->q'.i n=r.1 ->
    postOf fillS [.pointer (some ⟨a,0,none⟩),.slice (slP x 0) all.length c,.int .i64 v] [H] [R1,R2] q' (.hp n vs [.hP 8 (.var 0) (.lit 0) 0 0] []::t) (.sv (.one (.int .i64 (.var n)))):=by
    intro q' n vs t r hq hr h1 h2 _;refine⟨[[0]],[],rfl,rfl,⟨(ay fun _=>q'.i n),rfl,zzT,zzT⟩,_,_,all,v,H,R1,R2,dp,sl,L,D,_,rfl,rfl,rfl,⟨a,rfl,P⟩,X,Q,rfl,?_,?_⟩
    .show DiskAt (hls [q'.h n]) _ _;rw[hls_one,hr];exact h1
    .show Value.int .i64 (q'.i n)=_;rw[h2,hr]
   rw[u0,u3,K,S,y8,MD,t0,ep];refine⟨ae,fun M=>⟨⟨ae,ae,ae⟩,fun q1 G ⟨T,_⟩=>?_⟩,fun ah=>⟨ae,wk,⟨_,_,D1,rfl,rfl,w⟩,fun q1 G ⟨F,⟨p',H',D',H2,hx,U,y,o,l,hv⟩,_,_⟩=>?_⟩⟩
   .have A:Agree 9 J q1:=g.tr G;have x1:q1.i 1=x:=by rw[A.i 1,v1]
    have x2:q1.i 2=0:=by rw[A.i 2,v2]
    have x3:q1.i 3=all.length:=by rw[A.i 3,Y]
    have x4:q1.i 4=c:=by rw[A.i 4,v4]
    have E:q1.i 20=i:=by rw[G.i 20,K]
    have z7:q1.h 7=R2:=by rw[A.h 7,w7]
    have b:0<=x/\∀ (j:Nat) (z:Int),all[j]?=some z->R2.cell x.toNat j=some (.int .u8 z):=by
     rcases b with ⟨_,h⟩ | h
     .rw[h]at M;simp only[N0]at M;omega
     .exact h
    obtain⟨V,b⟩:=b;have eW:iev q1 fillW64=64*i:=by
     unfold fillW64;rw[iev_wrap,iev_mul,iev_var,iev_lit,E,S]
    have eM:iev q1 fillM=min (all.length-64*i:Int) 64:=by
     unfold fillM;rw[iev_ite,bev_lt,iev_sub,iev_var,iev_lit,eW,x3];simp only[MI];split<;>omega
    have eY:iev q1 fillY=64*i:=by
     unfold fillY;rw[iev_ite,bev_eq,iev_add,iev_var,iev_var,eW,x2,x4];simp only[MI];split<;>omega
    have eC:(fillCs.map (CV.ev q1))=bys (secA all i):=by
     unfold fillCs secA bys;rw[NY,NY];refine NL fun j hj=>?_;have hj:=Nn.1 hj;show Value.int .u8 (iev q1 (.ite (.lt (.lit (j:Int)) fillM) (.hI 7 (.var 1) fillY j) (.lit 0)))=Value.int .u8 _;rw[iev_ite,bev_lt,iev_hI,iev_lit,iev_lit,eM,eY,iev_var,x1,z7];simp only[MI];rcases ND (64*i+j) all.length with h | h
     .rw[M0 ae,ME h,show(64*(i:Int)).toNat+j=64*i+j by omega,b _ _ (ME h)];rfl
     .rw[MM ae,MS h];rfl
    have ei:IntKind.i64.wrap (IntKind.i64.wrap (valI (R1.cell a 1)+2)+i)=L.frm+2+i:=by
     rw[c1];show IntKind.i64.wrap (IntKind.i64.wrap (L.frm+2)+i)=_;rw[wrap_i64 (n:=L.frm+2) ae ae,wrap_i64 ae ae]
    have W:valIs (R1.cell a 1) (Kd.int .i64)=true:=by rw[c1];rfl
    have N:RdB (Hl.one (q1.i 22).toNat (.cells (bys (secA all i)).toArray 5 (0,0))) (.slice (slP (q1.i 22) 0) 64 64) (secA all i):=by
     refine⟨q1.i 22,0,64,by simp [secA],ae,Or.inr ⟨T,fun j z hz=>?_⟩⟩;rw[Hl.one_cell,N7,bys_get,PZ,Nw,hz];rfl
    rw[x1,x2,x3,x4,E,S,eY,eM,eC,z7,A.i 0,v0,A.h 8,Z,MD,t1,t64,ep,ei];refine⟨hx,ae,ae,ae,ae,⟨Or.inr ⟨V,ae,?_⟩,ae,ae⟩,ae,wk,W,⟨dp,L.frm+2+i,_,secA all i,q1.h 21,_,D1,rfl,rfl,rfl,?_,N⟩,fun q2 g2 ⟨F,⟨p',i',u',bs',H',R',D',H2,hx,U,hR,y,O,o,l,hv⟩,_,_⟩=>?_⟩
    .refine cells_bytes (bs:=all.drop (64*i)) (fun j z hz=>?_) (by rw[Nj];omega);rw[Nm]at hz;rw[show(64*(i:Int)).toNat+j=64*i+j by omega];exact b _ _ hz
    .rw[G.h 21];exact w
    .cases hx;cases U;cases hR;rw[G.h 21]at y;have e:=y.uniq w;subst e;have e:=O.uniq N;subst e;simp only[Value.int.injEq,Nz,MH,MZ]at hv o;rw[<-o]at l;have G2:Agree 9 J q2:=A.tr g2;have step:fillGo L.frm all f i D'=if(writeR D' (L.frm+2+i) (secA all i)).1≠0 then writeR D' (L.frm+2+i) (secA all i)else fillGo L.frm all (f-1) (i+1) (writeR D' (L.frm+2+i) (secA all i)).2:=by
      obtain⟨k,rfl⟩:∃ k,f=k+1:=⟨f-1,ae⟩;show(if 64*i<all.length then _ else _)=_;rw[M0 ae];rfl
     refine⟨fun h=>out q2 23 _ _ (writeR D' (L.frm+2+i) (secA all i)) G2 ?_ l hv,fun h=>?_⟩
     .rw[<-C,step,M0 (by rw[<-hv];exact h)]
     .have B:(assign q2 [⟨20,0,.int .i64 (.wrap .i64 (.add (.var 20) (.lit 1)))⟩] [(21,some 23)]).i 20=i+1:=by
       show IntKind.i64.wrap (q2.i 20+1)=_;rw[g2.i 20,E,wrap_i64 ae ae]
      refine⟨⟨f-1,i+1,(writeR D' (L.frm+2+i) (secA all i)).2,by rw[B];omega,l,?_,ae,ae⟩,by rw[B];omega⟩;rw[<-C,step,MM (by rw[<-hv,h];simp)]
   .cases hx;cases U;have e:=y.uniq w;subst e;simp only[Value.int.injEq,Nz,MH,MZ]at hv o;rw[<-o]at l;refine out q1 22 _ _ (syncR D') (g.tr G) ?_ l hv;rw[<-C];cases f with
    | zero=>rfl
    | succ k =>
     show(if 64*i<all.length then _ else _)=_;rw[MM ae]
def turnR (D:DM) (frm:Int) (h:List Int):Int×DM :=
 if(writeR D (frm+(h.getD 0 0).tmod 2) (halfL h++halfL h)).1≠0 then writeR D (frm+(h.getD 0 0).tmod 2) (halfL h++halfL h)else syncR (writeR D (frm+(h.getD 0 0).tmod 2) (halfL h++halfL h)).2
def headOK (h:List Int):Prop:=h.length=18/\(0<=h.getD 0 0/\h.getD 0 0<18446744073709551616)/\0<=h.getD 1 0/\h.getD 1 0<18446744073709551616
def turnS:Sx.Spec where
 fn:=198
 own:=[.link 0 0]
 rd:=[0]
 res:=[.one (.int .i64)]
 pre:=fun xs Hs Rs=>∃ p h H R dp sl L D,xs=[p,.agg (hdV h).toArray]/\Hs=[H]/\Rs=[R]/\LogRd R p dp sl L/\DiskAt H dp D/\headOK h
 post:=fun xs Hs Rs v Hs' F=>∃ p h H R dp sl L D H',xs=[p,.agg (hdV h).toArray]/\Hs=[H]/\Rs=[R]/\LogRd R p dp sl L/\DiskAt H dp D/\headOK h/\Hs'=[H']/\DiskAt H' dp (turnR D L.frm h).2/\v=.int .i64 (turnR D L.frm h).1
def list18 (hl:h.length=18):∃ a b t,h=a::b::t/\t.length=16:=by
 match h,hl with
 | a::b::t,hl=>exact⟨a,b,t,rfl,by simpa using hl⟩
def intsOf_hdV (hl:h.length=18):intsOf (.agg (hdV h).toArray)=h:=by
 obtain⟨a,b,t,rfl,d⟩:=list18 hl;show([Value.int .u64 a,Value.int .u64 b]++t.map (Value.int .u8)).map (fun c=>valI (some c))=_;rw[M9,NY];show [a,b]++t.map id=_;rw[List.map_id];rfl
def hdV_inj {k:List Int} (h1:h.length=18) (h2:k.length=18) (e:Value.agg (hdV h).toArray=Value.agg (hdV k).toArray):h=k:=by
 rw[<-intsOf_hdV h1,<-intsOf_hdV h2,e]
def rowOK_hdV (hl:h.length=18):rowOK (hdV h) (hdk.map kdOf):=by
 obtain⟨a,b,t,rfl,c⟩:=list18 hl;exact⟨by simp [valIs,kdOf],by simp [valIs,kdOf],rowOK_bys 16 _ c⟩
def normsW_hdk (q:Env) (n:Nat):ckNormsW n hdk q:=⟨zzT,zzT,normsW_bytes q 16 (n+2)⟩
def half_pre (hh:headOK h):halfS.pre [.agg (hdV h).toArray] [] []:=by
 obtain⟨c,_,_,a⟩:=row_rep hdk 0 (hdV h) (ay fun _=>0) (rowOK_hdV hh.1);refine⟨⟨c,⟨normsW_hdk c 0,zzT⟩,?_⟩,?_⟩
 .show [Value.agg (hdV h).toArray]=[Value.agg ((ckCVs 0 hdk).map (CV.ev c)).toArray];rw[a]
 .show(0<=(intsOf (.agg (hdV h).toArray)).getD 0 0/\(intsOf (.agg (hdV h).toArray)).getD 0 0<_)/\0<=(intsOf (.agg (hdV h).toArray)).getD 1 0/\(intsOf (.agg (hdV h).toArray)).getD 1 0<_;rw[intsOf_hdV hh.1];exact hh.2
def halfL_length (hl:h.length=18):(halfL h).length=32:=by
 unfold halfL be8;simp [hl]
def turnΓ:List Sx.Spec:=[writeS,syncS,halfS]
def turnΓ_ok:∀ t∈turnΓ,t.OK Tryz.prog:=ai writeS_ok <| ai syncS_ok <| ai halfS_ok <| aD
def turnW:Walk Tryz.prog turnΓ turnS.fn where
 Λ:=noLoops
 args:=[TP (.var 0) (.lit 0),.sv (.agg (ckCVs 1 hdk))]
 mem:=[.hp 19 [] [.hP 20 (.var 0) (.lit 0) 0 0] [],.ro 20 [.var 0] false]
 nv:=21
def tr2:halfS.res=[.agg (u8s 32)]:=rfl
def turnS_ok:turnS.OK Tryz.prog:=by
 refine Spec.of_fn (Γ:=turnΓ) turnΓ_ok ?_;rintro xs Hs Rs aa ab ⟨p,h,H,R,dp,sl,L,D,rfl,rfl,rfl,⟨a,rfl,A⟩,B,hh⟩;obtain⟨f,b1,t,g,l⟩:=list18 hh.1;have hg0:h.getD 0 0=f:=by rw[g];rfl
 refine⟨turnW,⟨fun k=>if k=0 then(a:Int)else h.getD (k-1) 0,fun _=>false,fun _=>.empty,fun _=>.tuple #[],fun k=>if k=19 then H else R⟩,fun _ _=>True,fun _ _=>0,?_,⟨?_,?_,?_,?_⟩,(fun _ h=>nomatch h),?_⟩
 .generalize hq:(⟨fun k=>if k=0 then(a:Int)else h.getD (k-1) 0,fun _=>false,fun _=>.empty,fun _=>.tuple #[],fun k=>if k=19 then H else R⟩:Env)=q;show [Value.pointer (slP (q.i 0) 0),Value.agg ((ckCVs 1 hdk).map (CV.ev q)).toArray]=_;have e0:q.i 0=a:=by rw[<-hq];rfl
  have e1:(ckCVs 1 hdk).map (CV.ev q)=hdV h:=by
   rw[<-hq,g]
   match t,l with
   | [a1,a2,a3,a4,a5,a6,a7,a8,a9,G,I,K,M,N,O,P],_=>rfl
  rw[e0,dArg,e1]
 .intro r hr ho;simp [turnW]at hr;rcases hr with rfl | rfl
  .exact⟨H,ar,Hl.le_refl _⟩
  .cases ho
 .intro r hr ho;simp [turnW]at hr;rcases hr with rfl | rfl
  .cases ho
  .exact⟨R,ar,Hl.le_refl _⟩
 .simp [turnW,Res.own]
 .intro r hr;simp [turnW]at hr;rcases hr with rfl | rfl<;>trivial
 .refine Walk.read [] [] [] ?_;generalize c:(⟨fun k=>if k=0 then(a:Int)else h.getD (k-1) 0,fun _=>false,fun _=>.empty,fun _=>.tuple #[],fun k=>if k=19 then H else R⟩:Env)=J;have v0:J.i 0=a:=by rw[<-c];rfl
  have v1:J.i 1=f:=by rw[<-c,<-hg0];rfl
  have Q:J.h 19=H:=by rw[<-c];rfl
  have j:J.h 20=R:=by rw[<-c];rfl
  have eH:(ckCVs 1 hdk).map (CV.ev J)=hdV h:=by
   rw[<-c,g]
   match t,l with
   | [a1,a2,a3,a4,a5,a6,a7,a8,a9,G,I,K,M,N,O,P],_=>rfl
  simp only[go_sem,Nat.reduceAdd,turnΓ,fr0,fr1,tr2];intro q1 g1 _;have t0:Int.toNat 0=0:=rfl;have t1:Int.toNat 1=1:=rfl;have t64:Int.toNat 64=64:=rfl;obtain⟨da,s,m,es,clock,o,ad⟩:=id B;have c0:R.cell a 0=some dp:=by rw[A.cell];rfl
  have c1:R.cell a 1=some (.int .i64 L.frm):=by rw[A.cell];rfl
  obtain⟨f0,f1⟩:=A.1.frm;have ep:Value.pointer (slP (valP (R.cell a 0) 0) (valP (R.cell a 0) 1))=dp:=by rw[c0,o];exact dArg da
  have wk:valIs (R.cell a 0) Kd.ptr=true:=by rw[c0,o];rfl
  have S:valIs (R.cell a 1) (Kd.int .i64)=true:=by rw[c1];rfl
  have⟨T,af⟩:0<=f/\f<18446744073709551616:=by rw[<-hg0];exact hh.2.1
  have r0:=Int.tmod_nonneg 2 T;have r1:=Int.tmod_lt_of_pos f (by decide:(0:Int)<2);have ei:IntKind.i64.wrap (valI (R.cell a 1)+IntKind.i64.wrap (f.tmod 2))=L.frm+(h.getD 0 0).tmod 2:=by
   rw[c1,hg0];show IntKind.i64.wrap (L.frm+IntKind.i64.wrap (f.tmod 2))=_;rw[wrap_i64 (n:=f.tmod 2) ae ae];exact wrap_i64 ae ae
  have e1:(ckCVs 1 ([Ck.int IntKind.u64,Ck.int IntKind.u64]++List.replicate 16 (Ck.int IntKind.u8))).map (CV.ev q1)=hdV h:=by
   rw[<-eH];exact CV.agreeL (g1.mono aj) _ (ckCVs_upto hdk 1)
  rw[e1];refine⟨half_pre hh,fun q2 g2 ⟨F2,b,_,_⟩ q3 g3 _=>?_⟩;have b:Value.agg (List.map (CV.ev q2) (ckCVs 22 (u8s 32))).toArray=Value.agg (bys (halfL (intsOf (.agg (hdV h).toArray)))).toArray:=b;rw[intsOf_hdV hh.1]at b;have b:List.map (CV.ev q2) (ckCVs 22 (u8s 32))=bys (halfL h):=by simpa using b
  have e3:List.map (CV.ev q3) (ckCVs 22 (List.replicate 32 (Ck.int IntKind.u8)))=bys (halfL h):=by
   rw[<-b];exact CV.agreeL (g3.mono aj) _ (ckCVs_upto (u8s 32) 22)
  have U:Agree 21 J q3:=(g1.tr g2).tr g3;rw[e3,U.i 0,v0,U.h 20,j,MD,t0,t1];refine⟨ae,wk,S,⟨ae,aj,aj⟩,fun C g4 ⟨ag,ah,E,_⟩=>?_⟩;have u:Agree 21 J C:=U.tr g4;have V:(halfL h++halfL h).length=64:=by rw[MJ,halfL_length hh.1]
  have E:OwB (C.h 55) 5 (.slice (slP (C.i 55) 0) (Int.toNat 64) (C.i 56).toNat) (halfL h++halfL h):=by
   unfold OwB;rw[V,bys_append];exact E
  rw[iev_rem,iev_var,iev_lit,u.i 0,v0,u.i 1,v1,u.h 20,j,u.h 19,Q,MD,ep,ei];refine⟨⟨dp,_,_,halfL h++halfL h,H,_,D,rfl,rfl,rfl,B,E.rd⟩,fun q5 g5 ⟨F,⟨p',i',u',bs',H',R',D',H2,hx,W,hR,X,v,w,d,hv⟩,_,_⟩=>?_⟩;cases hx;cases W;cases hR;have e:=X.uniq B;subst e;have e:=v.uniq E.rd;subst e;simp only[Value.int.injEq,Nz,MH,MZ]at hv w;rw[<-w]at d;have G5:Agree 21 J q5:=u.tr g5;have out:∀ (q':Env) (n:Nat) (vs:List Nat) (t:Mem) (r:Int×DM),turnR D' L.frm h=r->DiskAt (q'.h n) dp r.2->q'.i n=r.1 ->
   postOf turnS [.pointer (some ⟨a,0,none⟩),.agg (hdV h).toArray] [H] [R] q' (.hp n vs [.hP 20 (.var 0) (.lit 0) 0 0] []::t) (.sv (.one (.int .i64 (.var n)))):=by
   intro q' n vs t r hr h1 h2 _;refine⟨[[0]],[],rfl,rfl,⟨(ay fun _=>q'.i n),rfl,zzT,zzT⟩,_,h,H,R,dp,sl,L,D',_,rfl,rfl,rfl,⟨a,rfl,A⟩,B,hh,rfl,?_,?_⟩
   .show DiskAt (hls [q'.h n]) _ _;rw[hls_one,hr];exact h1
   .show Value.int .i64 (q'.i n)=_;rw[h2,hr]
  rw[G5.i 0,v0,G5.h 20,j,MD,ep];refine⟨fun Y=>out q5 57 _ _ _ ?_ d hv,fun heq=>⟨⟨dp,_,_,rfl,rfl,d⟩,fun q6 g6 ⟨F,⟨p',H',D2,H3,hx,W,Z,x,y,z⟩,_,_⟩=>?_⟩⟩
  .unfold turnR;rw[M0 (by rw[<-hv];exact Y)]
  .cases hx;cases W;have e:=Z.uniq d;subst e;simp only[Value.int.injEq,Nz,MH,MZ]at z x;rw[<-x]at y;refine out q6 59 _ _ _ ?_ y z;unfold turnR;rw[MM (by rw[<-hv,heq];simp)]
def lObj (dp sl:Value) (L:LM):Obj:=.cells (lCells dp sl L).toArray 196 (0,0)
def LogAt (H:Hl) (p dp:Value) (L:LM) (bs:List Int):Prop:=∃ (a:Nat) (sl:Value) (HB:Hl),p=.pointer (some ⟨a,0,none⟩)/\L.ok/\OwB HB 5 sl bs/\(Hl.one a (lObj dp sl L)).dis HB/\H=hls [Hl.one a (lObj dp sl L),HB]
def LogAt.parts (h:LogAt H p dp L bs):∃ sl,LogRd H p dp sl L/\RdB H sl bs:=by
 obtain⟨a,sl,HB,rfl,hok,b,hd,rfl⟩:=h;refine⟨sl,⟨a,rfl,hok,?_⟩,?_⟩
 .exact Hl.un_left _ _ _ _ (Hl.one_self _ _)
 .obtain⟨x,y,c,hv,hy,h⟩:=b.rd;refine⟨x,y,c,hv,hy,h.imp id fun⟨h0,h⟩=>⟨h0,fun j z hz=>?_⟩⟩;have hle:HB.le (hls [Hl.one a (lObj dp sl L),HB]):=by
   show HB.le ((Hl.one a (lObj dp sl L)).un (hls [HB]));rw[hls_one];exact Hl.un_right hd
  have:=h j z hz;unfold Hl.cell at this ⊢;split at this
  .rename_i o c' T d ho;rw[hle _ _ ho];exact this
  .cases this
def LogAt.uniq (h:LogAt H p dp L bs) (h':LogAt H p dp' L' bs'):dp=dp'/\L=L'/\bs=bs':=by
 obtain⟨sl,h1,h2⟩:=h.parts;obtain⟨sl',a,b⟩:=h'.parts;obtain⟨e1,rfl,c⟩:=h1.uniq a;exact⟨e1,c,h2.uniq b⟩
def OwB.pre {l:Int} (h:OwB F e (.slice (slP x 0) l.toNat c.toNat) bs) (hx:-1<=x) {n:Int} (h0:0<=n) (hn:n.toNat<=bs.length):OwB F e (.slice (slP x 0) n.toNat c.toNat) (bs.take n.toNat):=by
 obtain⟨hl,h⟩:=h;have e1:(bs.take n.toNat).length=n.toNat:=by rw[M3];omega
 refine⟨by rw[bys_length];omega,?_⟩;rw[e1];rcases h with ⟨h,hb⟩ | ⟨g,cap,cur,h,hg,hle,hm,hs,a⟩
 .simp only[Value.slice.injEq]at h;refine Or.inl ⟨?_,ae⟩;rw[h.1,h.2.2,show n.toNat=0 by omega]
 .simp only[Value.slice.injEq]at h;refine Or.inr ⟨g,cap,cur,by rw[h.1,h.2.2],hg,ae,hm,hs,?_⟩;have:=Ns (List.take n.toNat) a;rw[Qa]at this;rw[Pf];rw[show min n.toNat (bs.length*1)=n.toNat by omega]at this;rw[this];unfold bys;rw[Pa]
def logK:List Ck:=[.ptr,.int .i64,.int .i64,.int .u64,.int .u64]++List.replicate 16 (.int .u8)
def lInts (da:Nat) (L:LM):List Int:=[(da:Int),0,L.frm,L.most,L.serial,L.size]++L.note
def list16 {l:List Int} (h:l.length=16):∃ a1 a2 i j k m n o p a b c d e f g,l=[a1,a2,i,j,k,m,n,o,p,a,b,c,d,e,f,g]:=by
 match l,h with
 | [a1,a2,i,j,k,m,n,o,p,a,b,c,d,e,f,g],_=>exact⟨a1,a2,i,j,k,m,n,o,p,a,b,c,d,e,f,g,rfl⟩
def logK_ev (a:L.ok) (h:∀ k,k<22->q.i (n+k)=(lInts da L).getD k 0):(ckCVs n logK).map (CV.ev q)=[Value.pointer (some ⟨da,0,none⟩),.int .i64 L.frm,.int .i64 L.most,.int .u64 L.serial,.int .u64 L.size]++bys L.note:=by
 obtain⟨a1,a2,o,p,r,t,u,w,x,c,d,e,f,g,j,l,hn⟩:=list16 a.note;have y:=Agree.refl 0 q;have key:∀ (q':Env),(∀ k,k<22->q'.i k=(lInts da L).getD k 0)->(ckCVs 0 logK).map (CV.ev q')=[Value.pointer (some ⟨da,0,none⟩),.int .i64 L.frm,.int .i64 L.most,.int .u64 L.serial,.int .u64 L.size]++bys L.note:=by
  intro q' h;have ag:Agree 22 ((ay fun k=>(lInts da L).getD k 0):Env) (ay (q'.i)):=⟨fun k hk=>h k hk,fun _ _=>rfl,fun _ _=>rfl,fun _ _=>rfl,fun _ _=>rfl⟩;have e1:(ckCVs 0 logK).map (CV.ev q')=(ckCVs 0 logK).map (CV.ev (ay (q'.i))):=rfl;rw[e1,CV.agreeL ag _ (ckCVs_upto logK 0)];unfold lInts;rw[hn];have m:Value.pointer (slP (da:Int) 0)=.pointer (some ⟨da,0,none⟩):=dArg da;show [Value.pointer (slP (da:Int) 0)]++_=_;rw[m];rfl
 have:=key ⟨fun k=>q.i (n+k),q.b,q.s,q.v,q.h⟩ h;rw[<-this];rfl
def spec_of_fn2 {P:Program} {s:Sx.Spec} {Γ:List Sx.Spec} (a:∀ t∈Γ,t.OK P)
 (h:∀ xs Hs Rs,Hs.length=s.own.length->Rs.length=s.rd.length->(∀ (p q:Nat) H K,p≠q->Hs[p]?=some H->Hs[q]?=some K->H.dis K)->s.pre xs Hs Rs->∃ (W:Walk P Γ s.fn) (J:Env) (inv:Nat->Env->Prop) (mu:Nat->Env->Nat),
  W.args.map (TV.ev J)=xs/\Entry J W.mem Hs Rs/\Path J W.path/\W.owes ⟨Γ,inv,mu,postOf s xs Hs Rs⟩ (fun _=>0) J):s.OK P:=by
 intro w xs Hs Rs d g i j k l b;obtain⟨W,J,inv,mu,hx,o,hp,hn⟩:=h xs Hs Rs d g k b;unfold Walk.owes at hn;obtain⟨nd,u,hn⟩:=hn;have hm:=o.mrel i j l;have:=fn_sound (C:=⟨Γ,inv,mu,postOf s xs Hs Rs⟩) a (dk_ok (C:=⟨Γ,inv,mu,postOf s xs Hs Rs⟩) a) u hm hp hn;rw[hx]at this;refine this.mono ?_;rintro e w' ⟨J',mem',r,rfl,hg,c,m⟩;obtain⟨gs,f,hl,hok,⟨n,h2,v⟩,hpost⟩:=m c.dis;refine⟨n,gs.map (uni J' mem'),uni J' mem' f,by rw[h2],v,Turned.of c hl hok,?_⟩;rw[<-h2];exact hpost
def bytesAt (D:DM) (frm:Int) (n:Int):List Int:=(D.now.drop (64*(frm+2).toNat)).take n.toNat
def loadS:Sx.Spec where
 fn:=124
 own:=[.arg 0,.link 0 0]
 rd:=[]
 res:=[.one (.int .i64)]
 pre:=fun xs Hs Rs=>∃ p a b c dp L D,xs=[p]/\Hs=[b,c]/\p=.pointer (some ⟨a,0,none⟩)/\LogIn b a dp (.slice none 0 0) L/\DiskAt c dp D/\D.gone=false/\0<=L.size/\64*(L.frm+2)+L.size<=64*D.n
 post:=fun xs Hs Rs v Hs' F=>∃ p a b c dp L D d e,xs=[p]/\Hs=[b,c]/\p=.pointer (some ⟨a,0,none⟩)/\LogIn b a dp (.slice none 0 0) L/\DiskAt c dp D/\Hs'=[d,e]/\DiskAt e dp D/\LogAt d p dp L (bytesAt D L.frm L.size)/\v=.int .i64 0
def loadΓ:List Sx.Spec:=[readS]
def loadΓ_ok:∀ t∈loadΓ,t.OK Tryz.prog:=fun t a=>by
 rw[loadΓ,MO]at a;subst a;exact readS_ok
def loadW:Walk Tryz.prog loadΓ loadS.fn where
 Λ:=fun p=>if lp p then some ⟨0,[(3,TI .i64 (.var 40))],[(0,.blk 0 (ckCVs 1 logK++[.sl (.var 41) (.lit 0) (.var 43) (.var 44),.bool (.bvar 23)]) 196),(1,.hp 45 [] [.var 1] []),(2,.hp 46 [] [.var 41] [])],47⟩else none
 args:=[TP (.var 0) (.lit 0)]
 mem:=[.blk 0 (ckCVs 1 logK++[.sl (.lit (-1)) (.lit 0) (.lit 0) (.lit 0),.bool (.bvar 23)]) 196,.hp 24 [] [.var 1] []]
 nv:=25
def readR_in (h:D.has i=true) (hg:D.gone=false):readR D i=(D.sector i,0):=by
 unfold readR;rw[MM (by simp [h]),MM (by simp [hg])]
def loadInv (D:DM) (L:LM) (dp:Value) (_:Nat) (q:Env):Prop:=∃ i:Nat,q.i 40=i/\q.i 43=64*i/\ -1<=q.i 41/\0<=q.i 44/\(i=0\/(64*(i:Int)-64<L.size))/\DiskAt (q.h 45) dp D/\OwB (q.h 46) 5 (.slice (slP (q.i 41) 0) (q.i 43).toNat (q.i 44).toNat) ((D.now.drop (64*(L.frm+2).toNat)).take (64*i))
def loadS_ok:loadS.OK Tryz.prog:=by
 refine spec_of_fn2 (Γ:=loadΓ) loadΓ_ok ?_;rintro xs Hs Rs al aa I ⟨p,a,Z,G,dp,L,D,rfl,rfl,rfl,y,hD,A,hs0,an⟩;have e1:Rs=[]:=MF.1 aa;subst e1;obtain⟨da,s,m,es,clock,K,B⟩:=id hD;have ao:=y.1.note;obtain⟨f0,f1⟩:=y.1.frm;have aq:=B.ok.n;have ak:=B.ok.now;have eB:∀ (q:Env) (sl:CV),q.i 0=a->(∀ k,k<22->q.i (1+k)=(lInts da L).getD k 0)->q.b 23=L.over->(Res.blk 0 (ckCVs 1 logK++[sl,.bool (.bvar 23)]) 196).hl q=Hl.one a (lObj dp (sl.ev q) L):=by
  intro q sl h0 h1 h2;show Hl.one (q.i 0).toNat (.cells ((ckCVs 1 logK++[sl,.bool (.bvar 23)]).map (CV.ev q)).toArray _ (0,0))=_;rw[M9,logK_ev y.1 h1,h0,MD];unfold lObj lCells;rw[K,<-h2,MY];rfl
 refine⟨loadW,⟨fun k=>if k=0 then(a:Int)else(lInts da L).getD (k-1) 0,fun _=>L.over,fun _=>.empty,fun _=>.tuple #[],fun _=>G⟩,loadInv D L dp,fun _ q=>(L.size-64*q.i 40+64).toNat,?_,⟨?_,?_,?_,?_⟩,(fun _ h=>nomatch h),?_⟩
 .show [Value.pointer (slP (a:Int) 0)]=_;rw[dArg]
 .intro r hr ho;simp only[loadW,MQ,MV,Nt]at hr;rcases hr with rfl | rfl
  .refine⟨Z,ar,?_⟩;rw[eB _ _ rfl (fun k hk=>by show(if 1+k=0 then(a:Int)else(lInts da L).getD (1+k-1) 0)=_;rw[MM ae,show 1+k-1=k by omega]) rfl];intro b o hb;obtain⟨rfl,rfl⟩:=Hl.one_eq hb;exact y.2
  .exact⟨G,ar,Hl.le_refl _⟩
 .intro r hr ho;simp only[loadW,MQ,MV,Nt]at hr;rcases hr with rfl | rfl<;>cases ho
 .have hd:Z.dis G:=I 0 1 _ _ aj rfl rfl;have hm:Z.mem a:=by unfold Hl.mem;rw[y.2];rfl
  refine List.Pairwise.cons (fun r hr _ _=>?_) (List.Pairwise.cons (fun r hr=>by cases hr) List.Pairwise.nil);rw[MO]at hr;subst hr;exact Hl.one_dis.2 fun h=>hd a ⟨hm,h⟩
 .intro r hr;simp only[loadW,MQ,MV,Nt]at hr;rcases hr with rfl | rfl
  .show(0:Int)<=(a:Int);omega
  .trivial
 .refine Walk.read [] [] [] ?_;generalize d:(⟨fun k=>if k=0 then(a:Int)else(lInts da L).getD (k-1) 0,fun _=>L.over,fun _=>.empty,fun _=>.tuple #[],fun _=>G⟩:Env)=J;simp only[go_sem,Nat.reduceAdd,loadΓ,rr0,rc0];have r0:J.i 0=a:=by rw[<-d];rfl
  have M:∀ k,k<22->J.i (1+k)=(lInts da L).getD k 0:=by
   intro k hk;rw[<-d];show(if 1+k=0 then(a:Int)else(lInts da L).getD (1+k-1) 0)=_;rw[MM ae,show 1+k-1=k by omega]
  have rb:J.b 23=L.over:=by rw[<-d]
  have rh:J.h 24=G:=by rw[<-d]
  refine⟨⟨0,rfl,rfl,MT _,MT _,Or.inl rfl,?_,⟨rfl,Or.inl ⟨rfl,rfl⟩⟩⟩,fun q g ⟨i,N,f,O,ab,hi,C,x⟩=>?_⟩
  .show DiskAt (J.h 24) dp D;rw[rh];exact hD
  .have u1:q.i 1=da:=by rw[g.i 1];exact M 0 ae
   have u2:q.i 2=0:=by rw[g.i 2];exact M 1 ae
   have u3:q.i 3=L.frm:=by rw[g.i 3];exact M 2 ae
   have u6:q.i 6=L.size:=by rw[g.i 6];exact M 5 ae
   have ep:Value.pointer (slP (da:Int) 0)=dp:=by rw[dArg,K]
   have es:IntKind.i64.wrap L.size=L.size:=wrap_i64 ae ae;rw[u1,u2,u3,u6,N,f,es,ep];refine⟨ae,fun au=>?_,fun av=>⟨O,hs0,?_,fun hd=>?_⟩⟩
   .have ei:IntKind.i64.wrap (IntKind.i64.wrap (L.frm+2)+i)=L.frm+2+i:=by
     rw[wrap_i64 (n:=L.frm+2) ae ae,wrap_i64 ae ae]
    rw[ei];have hh:D.has (L.frm+2+i)=true:=by unfold DM.has;simp only[MI];omega
    have hr:=readR_in hh A;have l:=sector_length B.ok hh;refine⟨⟨dp,_,_,D,rfl,rfl,C⟩,fun q1 P ⟨F,⟨p',i',H',D',H2,u,hx,hH,ad,Q,af,hv,R⟩,hF,hn⟩=>?_⟩;cases hx;cases hH;have e:=ad.uniq C;subst e;have hF:=hF trivial;subst hF;rw[hr]at hv R;simp only[Value.tuple.injEq,Nc,MH,Value.int.injEq,Nz,MZ]at hv Q;obtain⟨rfl,ag⟩:=hv;obtain⟨⟨ah,t,E,aw⟩,_⟩:=hn;have t:0<=q1.i 48:=t;have E:0<=q1.i 49:=E;obtain⟨v,c⟩:=R.rd.at ah t E;have v:q1.i 49=64:=by rw[v];show(((D'.sector (L.frm+2+i)).length:Nat):Int)=64;rw[l];rfl
    have c:0<=q1.i 47/\∀ j z,(D'.sector (L.frm+2+i))[j]?=some z->(q1.h 48).cell (q1.i 47).toNat ((q1.i 48).toNat+j)=some (.int .u8 z):=by
     rcases c with ⟨_,c⟩ | c
     .have c:D'.sector (L.frm+2+i)=[]:=c;rw[c]at l;cases l
     .exact c
    obtain⟨ai,c⟩:=c;have S:q1.i 43=64*i:=by rw[P.i 43,f]
    rw[P.h 46,P.i 41,P.i 44,S,v];rw[f]at x;have w:((D'.now.drop (64*(L.frm+2).toNat)).take (64*i)).length=64*i:=by rw[M3,Nj];omega
    have T:OwnsH (q.h 46) 5 1 (.slice (slP (q.i 41) 0) (64*(i:Int)).toNat (q.i 44).toNat) (64*(i:Int)).toNat (bys ((D'.now.drop (64*(L.frm+2).toNat)).take (64*i))):=by
     unfold OwB at x;rw[w]at x;rw[show(64*(i:Int)).toNat=64*i by omega]at x ⊢;exact x
    refine⟨fun h=>absurd ag h,fun _=>⟨⟨⟨_,T⟩,ae,Or.inl ⟨ai,t,ae,fun j H=>?_⟩,by unfold maxLen;omega,ae⟩,fun q2 g2 ⟨a1,a2,a3,_⟩=>?_⟩⟩
    .have H:j<(D'.sector (L.frm+2+i)).length:=by have:(64:Int).toNat=64:=rfl;omega
     exact⟨_,c j _ (ME H),rfl⟩
    .have U:segVals (q1.h 48) (q1.i 47).toNat (q1.i 48).toNat (Int.toNat 64)=bys (D'.sector (L.frm+2+i)):=by
      unfold segVals;apply Ni;intro j;rw[MU,bys_get];rcases ND j 64 with H | H
      .rw[show(64:Int).toNat=64 from rfl,Nf H,Nl,c j _ (ME ae),ME ae];rfl
      .rw[MS (by simpa using H),MS ae];rfl
     have hx:=a3 _ T;rw[U]at hx;have V:(D'.now.drop (64*(L.frm+2).toNat)).take (64*(i+1))=(D'.now.drop (64*(L.frm+2).toNat)).take (64*i)++D'.sector (L.frm+2+i):=by
      rw[show 64*(i+1)=64*i+64 by omega,Qe,OO];unfold DM.sector;rw[show 64*(L.frm+2).toNat+64*i=64*(L.frm+2+i).toNat by omega]
     have W:(assign q2 [⟨40,0,.int .i64 (.wrap .i64 (.add (.var 40) (.lit 1)))⟩,⟨41,0,.int .i64 (.var 52)⟩,⟨43,0,.int .i64 (.add (.var 43) (.var 49))⟩,⟨44,0,.int .i64 (.var 53)⟩] [(45,some 47),(46,some 52)]).i 40=i+1:=by
      show IntKind.i64.wrap (q2.i 40+1)=_;rw[g2.i 40,P.i 40,N,wrap_i64 ae ae]
     have X:(assign q2 [⟨40,0,.int .i64 (.wrap .i64 (.add (.var 40) (.lit 1)))⟩,⟨41,0,.int .i64 (.var 52)⟩,⟨43,0,.int .i64 (.add (.var 43) (.var 49))⟩,⟨44,0,.int .i64 (.var 53)⟩] [(45,some 47),(46,some 52)]).i 43=64*i+64:=by
      show q2.i 43+q2.i 49=_;rw[g2.i 43,g2.i 49,S,v]
     refine⟨⟨i+1,by rw[W];omega,by rw[X];omega,a1,a2,Or.inr ae,?_,?_⟩,by rw[W];omega⟩
     .show DiskAt (q2.h 47) dp D';rw[g2.h 47,Q];exact af
     .rw[X];show OwB (q2.h 52) _ (.slice (slP (q2.i 52) 0) (64*(i:Int)+64).toNat (q2.i 53).toNat) _;rw[V];unfold OwB;rw[bys_append,MJ,w,l];rw[show(64*(i:Int)).toNat+Int.toNat 64=64*i+64 by have:(64:Int).toNat=64:=rfl;omega]at hx;rw[show(64*(i:Int)+64).toNat=64*i+64 by omega];exact hx
   .have:=OwB.cap x ae ab;omega
   .have Y:=hd 0 2 _ _ aj rfl rfl rfl;have eb:=eB q (.sl (.var 41) (.lit 0) (.var 6) (.var 44)) (by rw[g.i 0,r0]) (fun k hk=>by rw[g.i (1+k)];exact M k hk) (by rw[g.b 23,rb]);have ev:CV.ev q (.sl (.var 41) (.lit 0) (.var 6) (.var 44))=.slice (slP (q.i 41) 0) L.size.toNat (q.i 44).toNat:=by
     simp only[CV.ev,iev_var,iev_lit,u6]
    rw[ev]at eb;refine⟨[[0,2],[1]],[],rfl,rfl,⟨(ay fun _=>0),rfl,zzT,zzT⟩,_,a,Z,G,dp,L,D,_,_,rfl,rfl,rfl,y,hD,rfl,?_,?_,rfl⟩
    .show DiskAt (hls [q.h 45]) _ _;rw[hls_one];exact C
    .refine⟨a,.slice (slP (q.i 41) 0) L.size.toNat (q.i 44).toNat,q.h 46,rfl,y.1,?_,?_,?_⟩
     .rw[f]at x;have w:((D.now.drop (64*(L.frm+2).toNat)).take (64*i)).length=64*i:=by
       rw[M3,Nj];rcases hi with rfl | hi<;>omega
      have:=OwB.pre x O hs0 (by rw[w];omega);rw[Qa,show min L.size.toNat (64*i)=L.size.toNat by omega]at this;exact this
     .rw[<-eb];exact Y
     .exact Ns (fun z=>hls [z,q.h 46]) eb
def bigB_range (n c:Int):0<=bigB n c/\bigB n c<18446744073709551616:=by
 unfold bigB;have h:∀ x:Int,0<=IntKind.u64.wrap x/\IntKind.u64.wrap x<18446744073709551616:=fun x=>⟨Int.emod_nonneg _ aj,Int.emod_lt_of_pos _ aj⟩;exact h _
def bigI_range (l:List Int):0<=bigI l/\bigI l<18446744073709551616:=by
 have h:∀ (l:List Int) (n:Int),(0<=n/\n<18446744073709551616)->0<=l.foldl bigB n/\l.foldl bigB n<18446744073709551616:=by
  intro l
  induction l with
  | nil=>exact fun n h=>h
  | cons c l ih=>exact fun n _=>ih _ (bigB_range n c)
 exact h l 0 ae
def lread_head (a:D.ok) (frm:Int) (hm:0<=most) (place:Int):headOK (lreadR D frm most place).1/\(lreadR D frm most place).1.getD 1 0<=most:=by
 have hz:headOK zeros18/\zeros18.getD 1 0<=most:=⟨⟨rfl,⟨MT _,aj⟩,MT _,aj⟩,hm⟩;unfold lreadR;split
 .exact hz
 .rename_i h;have h:(readR D (frm+place)).2=0:=by simpa using h
  obtain⟨_,_,e,hl⟩:=readR_ok a h;split
  .rename_i hg;have b:=bigI_range (((readR D (frm+place)).1.take 32).take 8);have r1:=bigI_range ((((readR D (frm+place)).1.take 32).drop 8).take 8);refine⟨⟨?_,b,r1⟩,hg.2.2⟩;unfold headI;rw[e];simp only[MJ,Nk,N0,M3,Nj,hl];rfl
  .exact hz
def lread_code {place:Int} (h:D.has (frm+place)=true):(lreadR D frm most place).2=if D.gone then 5 else 0:=by
 unfold lreadR readR;rw[h];cases D.gone with
 | true=>simp
 | false=>simp;split<;>rfl
def headL (frm most:Int) (h:List Int):LM:=⟨frm,most,h.getD 0 0,h.getD 1 0,h.drop 2,false⟩
def openE (D:DM) (frm n:Int):Int:=if n<3\/frm<0\/(D.n:Int)<frm\/(D.n:Int)-frm<n then 1 else if D.gone then 5 else 0
def openH (D:DM) (frm n:Int):List Int:=if(lreadR D frm (64*(n-2)) 0).1.getD 0 0<(lreadR D frm (64*(n-2)) 1).1.getD 0 0 then(lreadR D frm (64*(n-2)) 1).1 else(lreadR D frm (64*(n-2)) 0).1
def openL (D:DM) (frm n:Int):LM:=headL frm (64*(n-2)) (openH D frm n)
def openB (D:DM) (frm n:Int):List Int:=bytesAt D frm (openL D frm n).size
def openS:Sx.Spec where
 fn:=72
 own:=[.arg 0]
 rd:=[]
 res:=[.one .ptr,.one (.int .i64)]
 links:=[0]
 pre:=fun xs Hs Rs=>∃ dp frm n H D,xs=[dp,.int .i64 frm,.int .i64 n]/\Hs=[H]/\DiskAt H dp D
 post:=fun xs Hs Rs v Hs' F=>∃ dp frm n H D H' a,xs=[dp,.int .i64 frm,.int .i64 n]/\Hs=[H]/\DiskAt H dp D/\Hs'=[H']/\DiskAt H' dp D/\v=.tuple #[a,.int .i64 (openE D frm n)]/\(openE D frm n=0->LogAt F a dp (openL D frm n) (openB D frm n))/\(openE D frm n≠0->a=.pointer none)
def openΓ:List Sx.Spec:=[sectorsS,lreadS,loadS]
def openΓ_ok:∀ t∈openΓ,t.OK Tryz.prog:=ai sectorsS_ok <| ai lreadS_ok <| ai loadS_ok <| aD
def openW:Walk Tryz.prog openΓ openS.fn where
 Λ:=noLoops
 args:=[TP (.var 0) (.lit 0),TI .i64 (.var 1),TI .i64 (.var 2)]
 mem:=[.hp 3 [] [.var 0] []]
 nv:=4
def og2:openΓ[2]?=some loadS:=rfl
def or0:sectorsS.res=[.one (.int .i64)]:=rfl
def or1:lreadS.res=[.agg hdk,.one (.int .i64)]:=rfl
def or2:loadS.res=[.one (.int .i64)]:=rfl
def oCs (l:List CV):List CV:=[.hptr (.var 0) (.lit 0),.int .i64 (.var 1),.int .i64 (.wrap .i64 (.mul (.lit 64) (.wrap .i64 (.sub (.var 2) (.lit 2)))))]++l++[.sl (.lit (-1)) (.lit 0) (.lit 0) (.lit 0),.bool .ff]
def oBlk {l:List CV} {n:Int} (h0:q.i 0=da) (h1:q.i 1=frm) (h2:q.i 2=n) (hn:3<=n/\n<=16384) (hh:h.length=18) (hl:l.map (CV.ev q)=hdV h) :
 (Res.blk 8 (oCs l) 196).hl q=Hl.one (q.i 8).toNat (lObj (.pointer (some ⟨da,0,none⟩)) (.slice none 0 0) (headL frm (64*(n-2)) h)):=by
 show Hl.one (q.i 8).toNat (.cells ((oCs l).map (CV.ev q)).toArray _ (0,0))=_;have e:(oCs l).map (CV.ev q)=lCells (.pointer (some ⟨da,0,none⟩)) (.slice none 0 0) (headL frm (64*(n-2)) h):=by
  unfold oCs;rw[M9,M9,hl];have a:Value.pointer (slP (q.i 0) 0)=.pointer (some ⟨da,0,none⟩):=by rw[h0,dArg]
  have em:IntKind.i64.wrap (64*IntKind.i64.wrap (q.i 2-2))=64*(n-2):=by
   rw[h2,wrap_i64 (n:=n-2) ae ae,wrap_i64 ae ae]
  show [Value.pointer (slP (q.i 0) 0),Value.int .i64 (q.i 1),Value.int .i64 (IntKind.i64.wrap (64*IntKind.i64.wrap (q.i 2-2)))]++hdV h++[Value.slice (slP (-1) 0) 0 0,Value.bool false]=_;rw[a,em,h1,slP_nil];unfold lCells headL hdV;simp only[OD,N1,MY]
 rw[e];rfl
def hd_first (e:(ckCVs n hdk).map (CV.ev q)=hdV h):q.i n=h.getD 0 0:=by
 have:=Ns (fun l=>l[0]?) e;simpa [hdk,ckCVs,Ck.cv,CV.ev,hdV,iev_var] using this
def headL_ok {n:Int} (hf:0<=frm/\frm<=16384) (hn:3<=n/\n<=16384) (hh:h.length=18):(headL frm (64*(n-2)) h).ok:=⟨hf,⟨by show 0<=64*(n-2);omega,by show 64*(n-2)<=_;omega⟩,by show(h.drop 2).length=16;rw[Nj];omega⟩
def openS_ok:openS.OK Tryz.prog:=by
 refine Spec.of_fn (Γ:=openΓ) openΓ_ok ?_;rintro xs Hs Rs aO aB ⟨dp,frm,n,H,D,rfl,rfl,U⟩;have e1:Rs=[]:=MF.1 aB;subst e1;obtain⟨da,s,m,es,clock,V,W⟩:=id U;have aP:=W.ok.n;refine⟨openW,envI [da,frm,n] false [Hl.none,Hl.none,Hl.none,H],fun _ _=>True,fun _ _=>0,?_,⟨?_,?_,?_,?_⟩,(fun _ h=>nomatch h),?_⟩
 .show [Value.pointer (slP (da:Int) 0),Value.int .i64 frm,Value.int .i64 n]=_;rw[dArg,V]
 .intro r hr ho;simp [openW]at hr;subst hr;exact⟨H,ar,Hl.le_refl _⟩
 .intro r hr ho;simp [openW]at hr;subst hr;cases ho
 .simp [openW]
 .intro r hr;simp [openW]at hr;subst hr;trivial
 .refine Walk.read [] [] [] ?_;generalize C:envI [(da:Int),frm,n] false [Hl.none,Hl.none,Hl.none,H]=J;have v0:J.i 0=da:=by rw[<-C];rfl
  have v1:J.i 1=frm:=by rw[<-C];rfl
  have v2:J.i 2=n:=by rw[<-C];rfl
  have w3:J.h 3=H:=by rw[<-C];rfl
  have ep:Value.pointer (slP (da:Int) 0)=dp:=by rw[dArg,V]
  have bad:∀ (q:Env) (k:Nat) (vs:List Nat) (t:Mem) (x:E) (e:Int),DiskAt (q.h k) dp D->iev q x=e->openE D frm n=e->e≠0 ->
   postOf openS [dp,.int .i64 frm,.int .i64 n] [H] [] q (.hp k vs [.var 0] []::t) (.tup [.one (.hptr (.lit (-1)) (.lit 0)),.one (.int .i64 x)]):=by
   intro q k vs t x e o hx he aC _;refine⟨[[0]],[],rfl,rfl,⟨(ay fun j=>[-1,0,e].getD j 0),?_,⟨by show(-1:Int)<= -1;omega,MT _⟩,zzT,zzT⟩,dp,frm,n,H,D,_,.pointer none,rfl,rfl,U,rfl,?_,?_,fun h=>absurd (he.symm.trans h) aC,fun _=>rfl⟩
   .subst hx;rfl
   .show DiskAt (hls [q.h k]) _ _;rw[hls_one];exact o
   .rw[he,<-hx];rfl
  simp only[go_sem,Nat.reduceAdd,openΓ,og2,or0,or1,or2];rw[v0,v1,v2,w3,ep];refine⟨fun h3=>⟨fun h0=>⟨⟨dp,H,D,rfl,rfl,U⟩,fun q1 g1 ⟨F,⟨p',H',D',H2,hx,G,X,I,K,hv⟩,_,_⟩=>?_⟩,fun h0=>bad _ 3 _ _ _ 1 (by rw[w3];exact U) (iev_lit _ _) (by unfold openE;rw[M0 (Or.inr (Or.inl h0))]) aj⟩,fun h3=>bad _ 3 _ _ _ 1 (by rw[w3];exact U) (iev_lit _ _) (by unfold openE;rw[M0 (Or.inl h3)]) aj⟩;cases hx;cases G;have e:=X.uniq U;subst e;simp only[Value.int.injEq,Nz,MH,MZ]at hv I;rw[<-I]at K;have hv:q1.i 4=D'.n:=hv;rw[g1.i 0,g1.i 1,v0,v1,hv,ep];refine⟨fun c=>⟨⟨dp,_,D',rfl,rfl,K⟩,fun q2 g2 ⟨F,⟨p',H',b,H3,hx,G,X,ab,Y,L⟩,_,_⟩=>?_⟩,fun c=>bad _ 4 _ _ _ 1 K (iev_lit _ _) (by unfold openE;rw[M0 (Or.inr (Or.inr (Or.inl c)))]) aj⟩;cases hx;cases G;have e:=X.uniq K;subst e;simp only[Value.int.injEq,Nz,MH,MZ]at L ab;rw[<-ab]at Y;have L:q2.i 6=b.n:=L;have h3:3<=n:=ae;have h0:0<=frm:=ae;have c:frm<=b.n:=ae;have ad:IntKind.i64.wrap ((b.n:Int)-frm)=b.n-frm:=wrap_i64 ae ae;rw[g2.i 1,g2.i 2,g1.i 1,g1.i 2,v1,v2,L,ad];refine⟨fun hr=>bad _ 6 _ _ _ 1 Y (iev_lit _ _) (by unfold openE;rw[M0 (Or.inr (Or.inr (Or.inr hr)))]) aj,fun hr q3 g3 p8=>?_⟩;have hr:n<=b.n-frm:=ae;have G3:Agree 4 J q3:=(g1.tr g2).tr g3;have S:3<=n/\n<=16384:=⟨h3,ae⟩;have af:0<=frm/\frm<=16384:=⟨h0,ae⟩;have ag:0<=64*(n-2):=ae;have M:∀ q:Env,0<=q.i 8->Value.pointer (slP (q.i 8) 0)=.pointer (some ⟨(q.i 8).toNat,0,none⟩):=fun q h=>by rw[slP_pos h];rfl
  have rd:∀ (q:Env) (l:List CV) (h:List Int),Agree 4 J q->h.length=18->l.map (CV.ev q)=hdV h->0<=q.i 8 ->
   LogIn ((Res.blk 8 (oCs l) 196).hl q) (q.i 8).toNat dp (.slice none 0 0) (headL frm (64*(n-2)) h):=by
   intro q l h o hh hl u;refine⟨headL_ok af S hh,?_⟩;rw[oBlk (by rw[o.i 0,v0]) (by rw[o.i 1,v1]) (by rw[o.i 2,v2]) S hh hl,V];exact Hl.one_self _ _
  have call:∀ (q:Env) (l:List CV) (h:List Int) (k:Nat) (place:Int),Agree 4 J q->h.length=18->l.map (CV.ev q)=hdV h->0<=q.i 8->DiskAt (q.h k) dp b->(place=0\/place=1) ->
   lreadS.pre [.pointer (slP (q.i 8) 0),.int .u64 place] [q.h k] [(Res.blk 8 (oCs l) 196).hl q]:=by
   intro q l h k place o hh hl u hd hp;exact⟨_,place,_,_,dp,_,_,b,rfl,rfl,rfl,⟨_,M q u,rd q l h o hh hl u⟩,hd,hp⟩
  have back:∀ (q:Env) (l:List CV) (h:List Int) (k:Nat) (place:Int) (v:Value) (H' F:Hl),Agree 4 J q->h.length=18->l.map (CV.ev q)=hdV h->0<=q.i 8->DiskAt (q.h k) dp b ->
   lreadS.post [.pointer (slP (q.i 8) 0),.int .u64 place] [q.h k] [(Res.blk 8 (oCs l) 196).hl q] v [H'] F ->
   DiskAt H' dp b/\v=.tuple #[.agg (hdV (lreadR b frm (64*(n-2)) place).1).toArray,.int .i64 (lreadR b frm (64*(n-2)) place).2]:=by
   intro q l h k place v H' F o hh hl u hd ⟨p',aA,Hx,R,dp',sl',L',Dx,aQ,hx,G,hR,hL,N,g,Z,O⟩;cases hx;cases G;have hR:(Res.blk 8 (oCs l) 196).hl q=R:=by simpa using hR
   subst hR;obtain⟨e1,e2,e3⟩:=hL.uniq ⟨_,M q u,rd q l h o hh hl u⟩;subst e1 e2 e3;have e:=N.uniq hd;subst e;simp only[MH,MZ]at g;subst g;exact⟨Z,O⟩
  have inr:∀ place:Int,place=0\/place=1->b.has (frm+place)=true:=by
   intro place hp;unfold DM.has;simp only[MI];omega
  have oE:openE b frm n=if b.gone then 5 else 0:=by
   unfold openE;rw[MM ae]
  have leaf:∀ (q:Env) (l:List CV) (h:List Int),Agree 4 J q->headOK h->h.getD 1 0<=64*(n-2)->l.map (CV.ev q)=hdV h->0<=q.i 8->DiskAt (q.h 29) dp b->b.gone=false->openH b frm n=h ->
   (loadS.pre [.pointer (slP (q.i 8) 0)] [(Res.blk 8 (oCs l) 196).hl q,q.h 29] [] /\
   ∀ q':Env,Agree 49 q q'->(∃ F,loadS.post [.pointer (slP (q.i 8) 0)] [(Res.blk 8 (oCs l) 196).hl q,q.h 29] [] (.int .i64 (q'.i 49)) (newHs q' 49 2) F/\(cpRoots 0 [Cp.one (Ck.int .i64)]≠[]->q'.h 51=F)/\cpNorms 49 [Cp.one (Ck.int .i64)] q') ->
    (¬q'.i 49=0->postOf openS [dp,.int .i64 frm,.int .i64 n] [H] [] q' [.hp 50 [29,9,6,4,3] [.var 0] [],.hp 49 [] [.var 8] [],.dead,.dead] (.tup [.one (.hptr (.lit (-1)) (.lit 0)),.one (.int .i64 (.var 49))])) /\
    (q'.i 49=0->postOf openS [dp,.int .i64 frm,.int .i64 n] [H] [] q' [.hp 50 [29,9,6,4,3] [.var 0] [],.hp 49 [] [.var 8] [],.dead,.dead] (.tup [.one (.hptr (.var 8) (.lit 0)),.one (.int .i64 (.lit 0))]))):=by
   intro q l h o hh aD hl u hd a aE;refine⟨⟨_,_,_,_,dp,_,b,rfl,rfl,M q u,rd q l h o hh.1 hl u,hd,a,hh.2.2.1,?_⟩,fun q' g' ⟨F,⟨p',a',HL,aF,dp',L',Dx,ah,ai,hx,G,hp,hL,N,g,Z,aG,O⟩,_,_⟩=>?_⟩
   .show 64*(frm+2)+h.getD 1 0<=64*(b.n:Int);omega
   .have hx:Value.pointer (slP (q.i 8) 0)=p':=by simpa using hx
    subst hx;have G:(Res.blk 8 (oCs l) 196).hl q=HL/\q.h 29=aF:=by simpa using G
    obtain⟨aH,I⟩:=G;subst aH I;have e:=N;obtain⟨e1,e2,e3⟩:=LogRd.uniq ⟨a',hp,hL⟩ ⟨_,M q u,rd q l h o hh.1 hl u⟩;subst e1 e3;have e:=N.uniq hd;subst e;have g:q'.h 49=ah/\q'.h 50=ai:=by
     have h1:[q'.h 49,q'.h 50]=[ah,ai]:=g;simpa using h1
    obtain⟨aI,aJ⟩:=g;simp only[Value.int.injEq,Nz]at O;refine⟨fun h=>absurd O h,fun _ _=>⟨[[0]],[1],rfl,rfl,⟨(ay fun j=>[q'.i 8,0,0].getD j 0),rfl,⟨?_,MT _⟩,zzT,zzT⟩,_,frm,n,H,Dx,_,Value.pointer (slP (q'.i 8) 0),rfl,rfl,U,rfl,?_,?_,fun _=>?_,fun h=>absurd (by rw[oE,a];rfl) h⟩⟩
    .show -1<=q'.i 8;rw[g'.i 8];omega
    .show DiskAt (hls [q'.h 50]) _ _;rw[hls_one,aJ];exact Z
    .rw[oE,a];rfl
    .show LogAt (hls [q'.h 49]) _ _ _ _;rw[hls_one,aI,g'.i 8];unfold openB openL;rw[aE];exact aG
  have ak:∀ q:Env,([CV.int .u64 (.lit 0),CV.int .u64 (.lit 0)]++List.replicate 16 (CV.int .u8 (.lit 0))).map (CV.ev q)=hdV zeros18:=fun q=>rfl;obtain⟨w,al⟩:=lread_head W.ok frm ag 0;obtain⟨an,ao⟩:=lread_head W.ok frm ag 1;have aq:DiskAt (q3.h 6) dp b:=by rw[g3.h 6];exact Y
  refine⟨call q3 _ zeros18 6 0 G3 rfl (ak q3) p8 aq (Or.inl rfl),fun q4 g4 ⟨F,aK,_,_⟩ p T _=>?_⟩;obtain⟨aL,au⟩:=back q3 _ zeros18 6 0 _ _ _ G3 rfl (ak q3) p8 aq aK;simp only[Value.tuple.injEq,Nc,MH,Value.int.injEq,Value.agg.injEq,Nz,MZ]at au;obtain⟨aM,d⟩:=au;have d:q4.i 27=(lreadR b frm (64*(n-2)) 0).2:=d;rw[lread_code (inr 0 (Or.inl rfl))]at d;have G5:Agree 4 J p:=(G3.tr g4).tr T;have P:List.map (CV.ev p) (ckCVs 9 hdk)=hdV (lreadR b frm (64*(n-2)) 0).1:=by
   rw[CV.agreeL (T.mono aj) _ (ckCVs_upto hdk 9)];exact aM
  have Q:0<=p.i 8:=by rw[T.i 8,g4.i 8];exact p8
  have f:DiskAt (p.h 9) dp b:=by rw[T.h 9];exact aL
  refine⟨fun y=>bad p 9 _ _ _ 5 f (by rw[iev_var,T.i 27,d,M0];exact NR fun hg=>y (by rw[T.i 27,d,MM hg])) (by rw[oE,M0];exact NR fun hg=>y (by rw[T.i 27,d,MM hg])) aj,fun y=>?_⟩;have a:b.gone=false:=by
   cases hg:b.gone with
   | false=>rfl
   | true=>rw[T.i 27,d,hg]at y;cases y
  have av:∀ (A:Env),Agree 29 p A->∀ F,lreadS.post [.pointer (slP (p.i 8) 0),.int .u64 1] [p.h 9] [(Res.blk 8 (oCs (ckCVs 9 hdk)) 196).hl p] (.tuple #[.agg (List.map (CV.ev A) (ckCVs 29 hdk)).toArray,.int .i64 (A.i 47)]) [A.h 29] F ->
   ∀ q7,Agree 48 A q7->q7.i 47=0/\Agree 4 J q7/\0<=q7.i 8/\DiskAt (q7.h 29) dp b/\List.map (CV.ev q7) (ckCVs 29 hdk)=hdV (lreadR b frm (64*(n-2)) 1).1/\List.map (CV.ev q7) (ckCVs 9 hdk)=hdV (lreadR b frm (64*(n-2)) 0).1:=by
   intro A g6 F z q7 B;obtain⟨aw,ax⟩:=back p _ _ 9 1 _ _ _ G5 w.1 P Q f z;simp only[Value.tuple.injEq,Nc,MH,Value.int.injEq,Value.agg.injEq,Nz,MZ]at ax;obtain⟨aN,az⟩:=ax;rw[lread_code (inr 1 (Or.inr rfl)),a]at az;refine⟨by rw[B.i 47,az];rfl,(G5.tr g6).tr B,by rw[B.i 8,g6.i 8];exact Q,by rw[B.h 29];exact aw,?_,?_⟩
   .rw[CV.agreeL (B.mono aj) _ (ckCVs_upto hdk 29)];exact aN
   .rw[CV.agreeL ((g6.tr B).mono aj) _ (ckCVs_upto hdk 9)];exact P
  have both:∀ (q7:Env),Agree 4 J q7->0<=q7.i 8->DiskAt (q7.h 29) dp b->List.map (CV.ev q7) (ckCVs 29 hdk)=hdV (lreadR b frm (64*(n-2)) 1).1->List.map (CV.ev q7) (ckCVs 9 hdk)=hdV (lreadR b frm (64*(n-2)) 0).1 ->
   (q7.i 9<q7.i 29->openH b frm n=(lreadR b frm (64*(n-2)) 1).1)/\(¬q7.i 9<q7.i 29->openH b frm n=(lreadR b frm (64*(n-2)) 0).1):=by
   intro q7 _ _ _ h1 h2;rw[hd_first h1,hd_first h2];exact⟨fun h=>by unfold openH;rw[M0 h],fun h=>by unfold openH;rw[MM h]⟩
  constructor
  .intro _;refine⟨call p _ _ 9 1 G5 w.1 P Q f (Or.inr rfl),fun A g6 ⟨F,z,_,_⟩ q7 B _=>?_⟩;obtain⟨z1,z2,z3,z4,z5,z6⟩:=av A g6 F z q7 B;obtain⟨b1,b2⟩:=both q7 z2 z3 z4 z5 z6;exact⟨fun h=>absurd z1 h,fun _=>⟨fun c=>leaf q7 (ckCVs 29 hdk) _ z2 an ao z5 z3 z4 a (b1 c),fun aa=>leaf q7 (ckCVs 9 hdk) _ z2 w al z6 z3 z4 a (b2 aa)⟩⟩
  .intro _;refine⟨call p _ _ 9 1 G5 w.1 P Q f (Or.inr rfl),fun A g6 ⟨F,z,_,_⟩ q7 B _=>?_⟩;obtain⟨z1,z2,z3,z4,z5,z6⟩:=av A g6 F z q7 B;obtain⟨b1,b2⟩:=both q7 z2 z3 z4 z5 z6;exact⟨fun h=>absurd z1 h,fun _=>⟨fun c=>leaf q7 (ckCVs 29 hdk) _ z2 an ao z5 z3 z4 a (b1 c),fun aa=>leaf q7 (ckCVs 9 hdk) _ z2 w al z6 z3 z4 a (b2 aa)⟩⟩
def slOf (sl:Value) (n:Nat):Prop:=∃ (x y:Int) (c:Nat),sl=.slice (slP x y) n c/\ -1<=x/\0<=y
def OwB.slOf (h:OwB F e v bs):slOf v bs.length:=by
 obtain⟨x,c,hx,hv,_⟩:=OwB.rep h;exact⟨x,0,c,hv,hx,MT _⟩
def RdB.slOf (h:RdB F v bs):slOf v bs.length:=by
 obtain⟨x,y,c,hv,hy,h⟩:=h;exact⟨x,y,c,hv,by rcases h with ⟨h,_⟩ | ⟨h,_⟩<;>omega,hy⟩
def slOf.uniq (h:slOf sl n) (h':slOf sl m):n=m:=by
 obtain⟨x,y,c,rfl,_⟩:=h;obtain⟨x',y',c',he,_⟩:=h';simp only[Value.slice.injEq]at he;exact he.2.1
def valP_sl0 (hx:-1<=x) (n c:Nat):valP (some (.slice (slP x y) n c)) 0=x:=by
 rcases NU x 0 with h | h
 .obtain rfl:x= -1:=ae;rfl
 .rw[slP_pos h];show((x.toNat:Nat):Int)=x;omega
def valP_sl1 (hx:0<=x) (hy:0<=y) (n c:Nat):valP (some (.slice (slP x y) n c)) 1=y:=by
 rw[slP_pos hx];show((y.toNat:Nat):Int)=y;omega
def valP_sl2 (hx:-1<=x) (n c:Nat):valP (some (.slice (slP x y) n c)) 2=n:=by
 rcases NU x 0 with h | h
 .obtain rfl:x= -1:=ae;rfl
 .rw[slP_pos h];rfl
def rdLog (a:Nat) (R1 R2:Hl):Env:=envI [(a:Int)] false [Hl.none,R2,R1]
def rdMem:Mem:=[.ro 1 [.hP 2 (.var 0) (.lit 21) 0 0] false,.ro 2 [.var 0] false]
def rdEntry (a:Nat) (R1 R2:Hl) (Rs:List Hl) (h1:R1∈Rs) (h2:R2∈Rs):Entry (rdLog a R1 R2) rdMem [] Rs:=by
 refine⟨fun r hr ho=>?_,fun r hr ho=>?_,?_,fun r hr=>?_⟩
 .simp [rdMem]at hr;rcases hr with rfl | rfl<;>cases ho
 .simp [rdMem]at hr;rcases hr with rfl | rfl
  .exact⟨R2,h2,Hl.le_refl _⟩
  .exact⟨R1,h1,Hl.le_refl _⟩
 .simp [rdMem,Res.own]
 .simp [rdMem]at hr;rcases hr with rfl | rfl<;>trivial
def roomS:Sx.Spec where
 fn:=157
 own:=[]
 rd:=[0]
 res:=[.one (.int .i64)]
 pre:=fun xs Hs Rs=>∃ p R dp sl L n,xs=[p]/\Rs=[R]/\LogRd R p dp sl L/\slOf sl n/\n<=1048576
 post:=fun xs Hs Rs v Hs' F=>∃ p R dp sl L n,xs=[p]/\Rs=[R]/\LogRd R p dp sl L/\slOf sl n/\v=.int .i64 (L.most-n)
def roomW:Walk Tryz.prog [] roomS.fn where
 Λ:=noLoops
 args:=[TP (.var 0) (.lit 0)]
 mem:=rdMem
 nv:=3
def lnoteS:Sx.Spec where
 fn:=125
 own:=[]
 rd:=[0]
 res:=[.agg (u8s 16)]
 pre:=fun xs Hs Rs=>∃ p R dp sl L,xs=[p]/\Rs=[R]/\LogRd R p dp sl L
 post:=fun xs Hs Rs v Hs' F=>∃ p R dp sl L,xs=[p]/\Rs=[R]/\LogRd R p dp sl L/\v=.agg (bys L.note).toArray
def lnoteW:Walk Tryz.prog [] lnoteS.fn where
 Λ:=noLoops
 args:=[TP (.var 0) (.lit 0)]
 mem:=rdMem
 nv:=3
def LogIn.at21 (h:LogIn R a dp sl L):R.cell a 21=some sl:=by
 rw[h.cell];unfold lCells;rw[MX ar,MX (by rw[bys_length,h.1.note];simp)];rw[bys_length,h.1.note];rfl
def LogIn.note_at (h:LogIn R a dp sl L):∀ j z,L.note[j]?=some z->R.cell a (5+j)=some (.int .u8 z):=by
 intro j z hz;rw[h.cell];unfold lCells;have b:=(MK.1 hz).1;rw[MX ar,M5 (by rw[bys_length];simp;omega),bys_get];rw[show 5+j-_=j from by simp,hz];rfl
def roomS_ok:roomS.OK Tryz.prog:=by
 refine Spec.of_fn (Γ:=[]) (fun _ h=>by cases h) ?_;rintro xs Hs Rs f g ⟨p,R,dp,sl,L,n,rfl,rfl,⟨a,rfl,e⟩,hs,hn⟩;have e0:Hs=[]:=MF.1 f;subst e0;refine⟨roomW,rdLog a R R,fun _ _=>True,fun _ _=>0,?_,rdEntry a R R _ ar ar,(fun _ h=>nomatch h),?_⟩
 .show [Value.pointer (slP (a:Int) 0)]=_;rw[dArg]
 .refine Walk.read [] [] [] ?_;simp only[go_sem,Nat.reduceAdd];have v0:(rdLog a R R).i 0=a:=rfl;have w2:(rdLog a R R).h 2=R:=rfl;have c2:R.cell a 2=some (.int .i64 L.most):=by rw[e.cell];rfl
  have b:=e.at21;obtain⟨x,y,c,d,hx,hy⟩:=id hs;obtain⟨j,m1⟩:=e.1.most;rw[v0,w2,MD,show Int.toNat 2=2 from rfl,show Int.toNat 21=21 from rfl,c2,b,d];refine⟨ae,rfl,rfl,by rw[valP_sl2 hx];omega,fun _=>⟨[],[],rfl,rfl,⟨(ay fun _=>L.most-n),?_,zzT,zzT⟩,_,R,dp,sl,L,n,rfl,rfl,⟨a,rfl,e⟩,hs,?_⟩⟩
  all_goals
   show Value.int .i64 (IntKind.i64.wrap (valI (R.cell ((a:Int)).toNat 2)-valP (R.cell ((a:Int)).toNat 21) 2))=Value.int .i64 (L.most-n);rw[MD,c2,b,d];rw[valP_sl2 hx];show Value.int .i64 (IntKind.i64.wrap (L.most-(n:Int)))=_;rw[wrap_i64 ae ae]
def lnoteS_ok:lnoteS.OK Tryz.prog:=by
 refine Spec.of_fn (Γ:=[]) (fun _ h=>by cases h) ?_;rintro xs Hs Rs d f ⟨p,R,dp,sl,L,rfl,rfl,⟨a,rfl,b⟩⟩;have e0:Hs=[]:=MF.1 d;subst e0;refine⟨lnoteW,rdLog a R R,fun _ _=>True,fun _ _=>0,?_,rdEntry a R R _ ar ar,(fun _ h=>nomatch h),?_⟩
 .show [Value.pointer (slP (a:Int) 0)]=_;rw[dArg]
 .refine Walk.read [] [] [] ?_;simp only[go_sem,Nat.reduceAdd];intro q g _;have v0:q.i 0=a:=g.i 0;have w2:q.h 2=R:=g.h 2;have e:=b.note_at;rw[v0,w2,MD,show Int.toNat 5=5 from rfl,show Int.toNat 16=16 from rfl];have er:(romCells 2 (E.var 0) (E.lit 5) 0 (List.replicate 16 (Kd.int IntKind.u8))).map (CV.ev q)=bys L.note:=by
   refine romCells_ev 16 0 _ b.1.note fun i z hz=>?_;rw[iev_var,iev_lit,v0,w2,MD,Nw];exact e _ _ hz
  refine⟨ae,cells_bytes e (by rw[b.1.note];omega),fun _=>⟨[],[],rfl,rfl,?_,_,R,dp,sl,L,rfl,rfl,⟨a,rfl,b⟩,?_⟩⟩
  .obtain⟨c,_,_,j⟩:=row_rep (u8s 16) 0 (bys L.note) (ay fun _=>0) (rowOK_bys 16 _ b.1.note);refine⟨c,?_,ckNorms_pure _ _ _ aj,zzT⟩;show Value.agg (List.map (CV.ev q) _).toArray=Value.agg ((ckCVs 0 (u8s 16)).map (CV.ev c)).toArray;rw[er,j]
  .show Value.agg (List.map (CV.ev q) _).toArray=_;rw[er]
def bytesS:Sx.Spec where
 fn:=75
 own:=[]
 rd:=[0,1021]
 res:=[.one .sl]
 pre:=fun xs Hs Rs=>∃ p R1 R2 dp sl L bs,xs=[p]/\Rs=[R1,R2]/\LogRd R1 p dp sl L/\RdB R2 sl bs/\bs.length<=1048576
 post:=fun xs Hs Rs v Hs' F=>∃ p R1 R2 dp sl L bs,xs=[p]/\Rs=[R1,R2]/\LogRd R1 p dp sl L/\RdB R2 sl bs/\OwB F 5 v bs
def bytesW:Walk Tryz.prog [] bytesS.fn where
 Λ:=noLoops
 args:=[TP (.var 0) (.lit 0)]
 mem:=rdMem
 nv:=3
def bytesS_ok:bytesS.OK Tryz.prog:=by
 refine Spec.of_fn (Γ:=[]) (fun _ h=>by cases h) ?_;rintro xs Hs Rs r A ⟨p,R1,R2,dp,sl,L,bs,rfl,rfl,⟨a,rfl,s⟩,hB,hn⟩;have e0:Hs=[]:=MF.1 r;subst e0;refine⟨bytesW,rdLog a R1 R2,fun _ _=>True,fun _ _=>0,?_,rdEntry a R1 R2 _ ar ar,(fun _ h=>nomatch h),?_⟩
 .show [Value.pointer (slP (a:Int) 0)]=_;rw[dArg]
 .refine Walk.read [] [] [] ?_;simp only[go_sem,Nat.reduceAdd];have f:=s.at21;obtain⟨x,y,c,d,hy,t⟩:=id hB;have hx:-1<=x:=by rcases t with ⟨h,_⟩ | ⟨h,_⟩<;>omega
  have w2:(rdLog a R1 R2).h 2=R1:=rfl;have v0:(rdLog a R1 R2).i 0=a:=rfl;have t0:Int.toNat 0=0:=rfl;rw[v0,w2,MD,show Int.toNat 21=21 from rfl,f,d,valP_sl0 hx];refine⟨ae,rfl,fun h=>fun _=>?_,fun h q g p3=>?_⟩
  .have u:bs=[]:=by
    rcases t with ⟨_,h'⟩ | ⟨h',_⟩
    .exact h'
    .omega
   subst u;exact⟨[],[],rfl,rfl,⟨(ay fun k=>[-1,0,0,0].getD k 0),rfl,⟨by show(-1:Int)<= -1;omega,MT _,MT _,MT _⟩,zzT⟩,_,R1,R2,dp,sl,L,[],rfl,rfl,⟨a,rfl,s⟩,hB,⟨rfl,Or.inl ⟨rfl,rfl⟩⟩⟩
  .have m:0<=x:=ae;have b:∀ (j:Nat) (z:Int),bs[j]?=some z->R2.cell x.toNat (y.toNat+j)=some (.int .u8 z):=by
    rcases t with ⟨h',_⟩ | ⟨_,h'⟩
    .omega
    .exact h'
   have v:=d;rw[g.i 0,v0,g.h 2,w2,g.h 1,show(rdLog a R1 R2).h 1=R2 from rfl,MD,f,d,valP_sl0 hx,valP_sl1 m hy,valP_sl2 hx,t0,MD];have e:OwnsH (Hl.one (q.i 3).toNat (.cells #[] 5 (0,0))) 5 1 (.slice (slP (q.i 3) 0) 0 0) 0 []:=⟨rfl,Or.inr ⟨(q.i 3).toNat,0,#[],by rw[slP_pos p3];rfl,Hl.one_self _ _,ae,aj,rfl,rfl⟩⟩;refine⟨⟨⟨[],e⟩,ae,Or.inl ⟨m,hy,ae,fun j l=>?_⟩,by unfold maxLen;omega,ae⟩,fun q2 B ⟨a1,a2,C,_⟩=>?_⟩
   .exact⟨_,b j _ (ME l),rfl⟩
   .have n:segVals R2 x.toNat y.toNat bs.length=bys bs:=by
     unfold segVals;apply Ni;intro j;rw[MU,bys_get];rcases ND j bs.length with l | l
     .rw[Nf l,Nl,b j _ (ME l),ME l];rfl
     .rw[MS (by simpa using l),MS ae];rfl
    have o:=C _ e;rw[n,N1,Nw]at o;have w:Agree 3 (rdLog a R1 R2) q2:=g.tr B;have ev:(TV.sv (SV.one (CV.sl (.var 4) (.lit 0) (.hP 2 (.var 0) (.lit 21) 0 2) (.var 5)))).ev q2=.slice (slP (q2.i 4) 0) bs.length (q2.i 5).toNat:=by
     show Value.slice (slP (q2.i 4) 0) (iev q2 (.hP 2 (.var 0) (.lit 21) 0 2)).toNat (q2.i 5).toNat=_;rw[iev_hP,iev_var,iev_lit,w.i 0,v0,w.h 2,w2,MD,show Int.toNat 21+0=21 from rfl,f,d,valP_sl2 hx,MD]
    refine fun _=>⟨[],[2],rfl,rfl,⟨(ay fun k=>[q2.i 4,0,bs.length,q2.i 5].getD k 0),?_,⟨a1,MT _,by show(0:Int)<=(bs.length:Int);omega,a2⟩,zzT⟩,_,R1,R2,dp,sl,L,bs,rfl,rfl,⟨a,rfl,s⟩,hB,?_⟩
    .rw[ev];show _=Value.slice (slP (q2.i 4) 0) ((bs.length:Int)).toNat (q2.i 5).toNat;rw[MD]
    .rw[ev];show OwB (hls [q2.h 4]) _ _ _;rw[hls_one];exact o
def u8_ev {q:Env} : ∀ (m n:Nat) (l:List Int),l.length=m->(∀ k,k<m->q.i (n+k)=l.getD k 0)->(ckCVs n (List.replicate m (Ck.int .u8))).map (CV.ev q)=bys l
 | 0,n,[],_,_=>rfl
 | m+1,n,z::l,hl,h=>by
  rw[Px];show CV.ev q (.int .u8 (.var n))::(ckCVs (n+1) (List.replicate m (Ck.int .u8))).map (CV.ev q)=Value.int .u8 z::bys l;rw[u8_ev m (n+1) l (by simpa using hl) fun k hk=>by rw[show n+1+k=n+(k+1)by omega,h (k+1) ae];rfl]
  congr 1
  show Value.int .u8 (q.i n)=_;have:=h 0 ae;rw[NH]at this;rw[this];rfl
 | 0,_,_::_,h,_=>by simp at h
 | _+1,_,[],h,_=>by simp at h
def newH (L:LM) (all nt:List Int):List Int:=(L.serial+1)::(all.length:Int)::nt
def becomeR (D:DM) (L:LM) (all nt:List Int) (n:Nat):Int×DM :=
 if(fillR D L.frm all n).1≠0 then(5,(fillR D L.frm all n).2)
 else if(turnR (fillR D L.frm all n).2 L.frm (newH L all nt)).1≠0 then(5,(turnR (fillR D L.frm all n).2 L.frm (newH L all nt)).2)
 else(0,(turnR (fillR D L.frm all n).2 L.frm (newH L all nt)).2)
def grownL (L:LM) (all nt:List Int):LM:=⟨L.frm,L.most,L.serial+1,all.length,nt,L.over⟩
def overL (L:LM):LM:={L with over:=true}
def becomeS:Sx.Spec where
 fn:=186
 own:=[.arg 0,.arg 1,.link 0 0]
 rd:=[]
 res:=[.one (.int .i64)]
 pre:=fun xs Hs Rs=>∃ p a u all nt H HA b dp sl L n D,xs=[p,u,.agg (bys nt).toArray,.bool true]/\Hs=[H,HA,b]/\p=.pointer (some ⟨a,0,none⟩)/\LogIn H a dp sl L/\slOf sl n/\n<=1048576/\OwB HA 5 u all/\all.length<=1048576/\nt.length=16/\DiskAt b dp D/\0<=L.serial/\L.serial<4611686018427387904
 post:=fun xs Hs Rs v Hs' F=>∃ p a u all nt H HA b dp sl L n D H' d c,xs=[p,u,.agg (bys nt).toArray,.bool true]/\Hs=[H,HA,b]/\p=.pointer (some ⟨a,0,none⟩)/\LogIn H a dp sl L/\slOf sl n/\OwB HA 5 u all/\DiskAt b dp D/\Hs'=[H',d,c]/\DiskAt c dp (becomeR D L all nt n).2/\v=.int .i64 (becomeR D L all nt n).1 /\
  ((becomeR D L all nt n).1=0->LogAt H' p dp (grownL L all nt) all)/\((becomeR D L all nt n).1≠0->H'=Hl.one a (lObj dp sl (overL L)))
def becomeΓ:List Sx.Spec:=[fillS,turnS]
def becomeΓ_ok:∀ t∈becomeΓ,t.OK Tryz.prog:=ai fillS_ok <| ai turnS_ok <| aD
def becomeW:Walk Tryz.prog becomeΓ becomeS.fn where
 Λ:=noLoops
 args:=[TP (.var 0) (.lit 0),.sv (.one (.sl (.var 1) (.var 2) (.var 3) (.var 4))),.sv (.agg (ckCVs 5 (u8s 16))),.sv (.one (.bool (.bvar 60)))]
 mem:=[.blk 0 (ckCVs 21 logK++[.sl (.var 43) (.var 44) (.var 45) (.var 46),.bool (.bvar 47)]) 196,.hp 48 [] [.var 1] [],.hp 49 [] [.var 21] []]
 nv:=61
def br0:fillS.res=[.one (.int .i64)]:=rfl
def br1:turnS.res=[.one (.int .i64)]:=rfl
def becEnv (a:Nat) (x:Int) (n c:Nat) (nt:List Int) (da:Nat) (L:LM) (sx sy:Int) (b sc:Nat) (HA d:Hl):Env :=
 ⟨fun k=>if k<5 then [(a:Int),x,0,n,c].getD k 0 else if k<21 then nt.getD (k-5) 0 else if k<43 then(lInts da L).getD (k-21) 0 else [sx,sy,(b:Int),(sc:Int)].getD (k-43) 0,fun k=>if k=60 then true else L.over,fun _=>.empty,fun _=>.tuple #[],fun k=>if k=48 then HA else d⟩
def becomeS_ok:becomeS.OK Tryz.prog:=by
 refine spec_of_fn2 (Γ:=becomeΓ) becomeΓ_ok ?_;rintro xs Hs Rs aB ah v ⟨p,a,u,all,nt,H,HA,l,dp,sl,L,n,D,rfl,rfl,rfl,A,O,hn,Y,hall,B,hD,hs0,aC⟩;have e1:Rs=[]:=MF.1 ah;subst e1;obtain⟨da,s,m,es,clock,P,aD⟩:=id hD;obtain⟨x,c,hx,hu,hc,ai⟩:=OwB.rep Y;obtain⟨sx,sy,sc,M,aE,aF⟩:=id O;have eB:∀ (q:Env),Agree 61 (becEnv a x all.length c nt da L sx sy n sc HA l) q->(Res.blk 0 (ckCVs 21 logK++[.sl (.var 43) (.var 44) (.var 45) (.var 46),.bool (.bvar 47)]) 196).hl q=Hl.one a (lObj dp sl L):=by
  intro q g;have h1:∀ k,k<22->q.i (21+k)=(lInts da L).getD k 0:=fun k hk=>by
   rw[g.i _ ae];show(if 21+k<5 then _ else if 21+k<21 then _ else if 21+k<43 then(lInts da L).getD (21+k-21) 0 else _)=_;rw[MM ae,MM ae,M0 ae,show 21+k-21=k by omega]
  show Hl.one (q.i 0).toNat (.cells ((ckCVs 21 logK++[CV.sl (.var 43) (.var 44) (.var 45) (.var 46),.bool (.bvar 47)]).map (CV.ev q)).toArray _ (0,0))=_;rw[M9,logK_ev A.1 h1,g.i 0];have e1:CV.ev q (.sl (.var 43) (.var 44) (.var 45) (.var 46))=sl:=by
   simp only[CV.ev,iev_var,g.i 43,g.i 44,g.i 45,g.i 46];rw[M];show Value.slice (slP sx sy) ((n:Int)).toNat ((sc:Int)).toNat=_;rw[MD,MD]
  have e2:CV.ev q (.bool (.bvar 47))=.bool L.over:=by
   show Value.bool (q.b 47)=_;rw[g.b 47];rfl
  rw[M6,M6,NN,e1,e2,MY,<-P];rfl
 refine⟨becomeW,becEnv a x all.length c nt da L sx sy n sc HA l,fun _ _=>True,fun _ _=>0,?_,⟨?_,?_,?_,?_⟩,(fun _ h=>nomatch h),?_⟩
 .show [Value.pointer (slP (a:Int) 0),Value.slice (slP x 0) ((all.length:Int)).toNat ((c:Int)).toNat,Value.agg ((ckCVs 5 (u8s 16)).map (CV.ev _)).toArray,Value.bool true]=_;unfold u8s;rw[dArg,MD,MD,<-hu,u8_ev 16 5 nt B fun k hk=>?_];show(if 5+k<5 then _ else if 5+k<21 then nt.getD (5+k-5) 0 else _)=_;rw[MM ae,M0 ae,show 5+k-5=k by omega]
 .intro r hr ho;simp only[becomeW,MQ,MV,Nt]at hr;rcases hr with rfl | rfl | rfl
  .refine⟨H,ar,?_⟩;rw[eB _ (Agree.refl _ _)];intro b o hb;obtain⟨rfl,rfl⟩:=Hl.one_eq hb;exact A.2
  .exact⟨HA,ar,Hl.le_refl _⟩
  .exact⟨l,ar,Hl.le_refl _⟩
 .intro r hr ho;simp only[becomeW,MQ,MV,Nt]at hr;rcases hr with rfl | rfl | rfl<;>cases ho
 .have d1:H.dis HA:=v 0 1 _ _ aj rfl rfl;have d2:H.dis l:=v 0 2 _ _ aj rfl rfl;have d3:HA.dis l:=v 1 2 _ _ aj rfl rfl;have hm:H.mem a:=by unfold Hl.mem;rw[A.2];rfl
  refine List.Pairwise.cons (fun r hr _ _=>?_) (List.Pairwise.cons (fun r hr _ _=>?_) (List.Pairwise.cons (fun r hr=>by cases hr) List.Pairwise.nil))
  .simp only[MQ,MV,Nt]at hr;rw[eB _ (Agree.refl _ _)];rcases hr with rfl | rfl
   .exact Hl.one_dis.2 fun h=>d1 a ⟨hm,h⟩
   .exact Hl.one_dis.2 fun h=>d2 a ⟨hm,h⟩
  .rw[MO]at hr;subst hr;exact d3
 .intro r hr;simp only[becomeW,MQ,MV,Nt]at hr;rcases hr with rfl | rfl | rfl
  .show(0:Int)<=(a:Int);omega
  .trivial
  .trivial
 .refine Walk.read [] [] [] ?_;generalize f:becEnv a x all.length c nt da L sx sy n sc HA l=J at eB ⊢;have v0:J.i 0=a:=by rw[<-f];rfl
  have v1:J.i 1=x:=by rw[<-f];rfl
  have v2:J.i 2=0:=by rw[<-f];rfl
  have v3:J.i 3=all.length:=by rw[<-f];rfl
  have v4:J.i 4=c:=by rw[<-f];rfl
  have ak:J.i 45=n:=by rw[<-f];rfl
  have al:J.b 60=true:=by rw[<-f];rfl
  have aa:J.h 48=HA:=by rw[<-f];rfl
  have an:J.h 49=l:=by rw[<-f];rfl
  have rk:∀ k,k<22->J.i (21+k)=(lInts da L).getD k 0:=fun k hk=>by
   rw[<-f];show(if 21+k<5 then _ else if 21+k<21 then _ else if 21+k<43 then(lInts da L).getD (21+k-21) 0 else _)=_;rw[MM ae,MM ae,M0 ae,show 21+k-21=k by omega]
  have rn:∀ k,k<16->J.i (5+k)=nt.getD k 0:=fun k hk=>by
   rw[<-f];show(if 5+k<5 then _ else if 5+k<21 then nt.getD (5+k-5) 0 else _)=_;rw[MM ae,M0 ae,show 5+k-5=k by omega]
  simp only[go_sem,Nat.reduceAdd,becomeΓ,br0,br1];intro q1 g1 _;rw[g1.i 3,v3];refine⟨ae,fun q2 g2 _=>?_⟩;have w:Agree 61 J q2:=g1.tr g2;rw[w.b 60,al];refine⟨fun _=>?_,fun h=>absurd rfl h⟩;rw[w.i 0,v0,w.i 1,v1,w.i 2,v2,w.i 3,v3,w.i 4,v4,w.i 45,ak,w.h 48,aa,w.h 49,an,dArg,MD,MD,<-hu];have ls:∀ q:Env,Agree 61 J q->CV.ev q (.sl (.var 43) (.var 44) (.var 45) (.var 46))=sl:=by
   intro q g;simp only[CV.ev,iev_var,g.i 43,g.i 44,g.i 45,g.i 46];rw[<-f,M];show Value.slice (slP sx sy) ((n:Int)).toNat ((sc:Int)).toNat=_;rw[MD,MD]
  have Z:∀ q:Env,Agree 61 J q->∀ k,k<22->q.i (21+k)=(lInts da L).getD k 0:=fun q g k hk=>by rw[g.i _ ae];exact rk k hk
  have ab:∀ q:Env,Agree 61 J q->Hl.one a (Obj.cells (List.map (CV.ev q) (ckCVs 21 ([Ck.ptr,Ck.int IntKind.i64,Ck.int IntKind.i64,Ck.int IntKind.u64,Ck.int IntKind.u64]++List.replicate 16 (Ck.int IntKind.u8)++[Ck.sl,Ck.bool]))).toArray 196 (0,0))=Hl.one a (lObj dp sl L):=by
   intro q g;have h:Hl.one (q.i 0).toNat (Obj.cells (List.map (CV.ev q) (ckCVs 21 ([Ck.ptr,Ck.int IntKind.i64,Ck.int IntKind.i64,Ck.int IntKind.u64,Ck.int IntKind.u64]++List.replicate 16 (Ck.int IntKind.u8)++[Ck.sl,Ck.bool]))).toArray 196 (0,0))=Hl.one a (lObj dp sl L):=eB q g;rw[g.i 0,v0,MD]at h;exact h
  have eT:∀ q:Env,Agree 61 J q->(Res.blk 0 (ckCVs 21 ([Ck.ptr,Ck.int IntKind.i64,Ck.int IntKind.i64,Ck.int IntKind.u64,Ck.int IntKind.u64]++List.replicate 16 (Ck.int IntKind.u8)++[Ck.sl])++[CV.bool E.tt]) 196).hl q=Hl.one a (lObj dp sl (overL L)):=by
   intro q g;have h:(Res.blk 0 (ckCVs 21 ([Ck.ptr,Ck.int IntKind.i64,Ck.int IntKind.i64,Ck.int IntKind.u64,Ck.int IntKind.u64]++List.replicate 16 (Ck.int IntKind.u8)++[Ck.sl])++[CV.bool E.tt]) 196).hl q=Hl.one (q.i 0).toNat (.cells ((ckCVs 21 logK++[CV.sl (.var 43) (.var 44) (.var 45) (.var 46),.bool .tt]).map (CV.ev q)).toArray 196 (0,0)):=rfl;rw[h,M9,logK_ev A.1 (Z q g),g.i 0,v0,M6,M6,NN,ls q g,MY,<-P,MD];rfl
  have eN:∀ q:Env,Agree 61 J q->(ckCVs 5 (List.replicate 16 (Ck.int IntKind.u8))).map (CV.ev q)=bys nt:=fun q g=>u8_ev 16 5 nt B fun k hk=>by rw[g.i _ ae];exact rn k hk
  have i23:∀ q:Env,Agree 61 J q->q.i 21=da/\q.i 22=0/\q.i 23=L.frm/\q.i 24=L.most/\q.i 25=L.serial:=fun q g=>⟨Z q g 0 ae,Z q g 1 ae,Z q g 2 ae,Z q g 3 ae,Z q g 4 ae⟩;have wS:IntKind.u64.wrap (L.serial+1)=L.serial+1:=wrap_u64 ae ae;have wL:IntKind.u64.wrap (all.length:Int)=all.length:=wrap_u64 ae ae;have eH:∀ q:Env,Agree 61 J q->List.map (CV.ev q) ([CV.int IntKind.u64 (E.wrap IntKind.u64 ((E.var 25).add (E.lit 1))),CV.int IntKind.u64 (E.wrap IntKind.u64 (E.var 3))]++ckCVs 5 (List.replicate 16 (Ck.int IntKind.u8)))=hdV (newH L all nt):=by
   intro q g;rw[M9,eN q g];show [Value.int .u64 (IntKind.u64.wrap (q.i 25+1)),Value.int .u64 (IntKind.u64.wrap (q.i 3))]++bys nt=_;rw[(i23 q g).2.2.2.2,g.i 3,v3,wS,wL];rfl
  have eG:∀ q:Env,Agree 61 J q->(Res.blk 0 ([CV.hptr (E.var 21) (E.var 22),CV.int IntKind.i64 (E.var 23),CV.int IntKind.i64 (E.var 24),CV.int IntKind.u64 (E.wrap IntKind.u64 ((E.var 25).add (E.lit 1))),CV.int IntKind.u64 (E.wrap IntKind.u64 (E.var 3))]++ckCVs 5 (List.replicate 16 (Ck.int IntKind.u8))++[CV.sl (E.var 1) (E.var 2) (E.var 3) (E.var 4),CV.bool (E.bvar 47)]) 196).hl q=Hl.one a (lObj dp u (grownL L all nt)):=by
   intro q g;show Hl.one (q.i 0).toNat (.cells (List.map (CV.ev q) _).toArray _ (0,0))=_;rw[M9,M9,eN q g];obtain⟨j0,j1,j2,j3,j4⟩:=i23 q g;have eb:q.b 47=L.over:=by rw[g.b 47,<-f];rfl
   show Hl.one (q.i 0).toNat (.cells ([Value.pointer (slP (q.i 21) (q.i 22)),.int .i64 (q.i 23),.int .i64 (q.i 24),.int .u64 (IntKind.u64.wrap (q.i 25+1)),.int .u64 (IntKind.u64.wrap (q.i 3))]++bys nt++[Value.slice (slP (q.i 1) (q.i 2)) (q.i 3).toNat (q.i 4).toNat,.bool (q.b 47)]).toArray _ (0,0))=_;rw[j0,j1,j2,j3,j4,eb,g.i 0,v0,g.i 1,v1,g.i 2,v2,g.i 3,v3,g.i 4,v4,wS,wL,dArg,<-P,MD,MD,MD,<-hu,MY];rfl
  have C:LogRd (Hl.one a (lObj dp sl L)) (.pointer (some ⟨a,0,none⟩)) dp sl L:=⟨a,rfl,A.1,Hl.one_self _ _⟩;have bad:∀ (q:Env) (k:Nat) (vs:List Nat) (t:Mem) (r:Int×DM),Agree 61 J q->becomeR D L all nt n=r->r.1=5->DiskAt (q.h k) dp r.2 ->
   postOf becomeS [.pointer (some ⟨a,0,none⟩),u,.agg (bys nt).toArray,.bool true] [H,HA,l] [] q (.blk 0 (ckCVs 21 ([Ck.ptr,Ck.int IntKind.i64,Ck.int IntKind.i64,Ck.int IntKind.u64,Ck.int IntKind.u64]++List.replicate 16 (Ck.int IntKind.u8)++[Ck.sl])++[CV.bool E.tt]) 196::.hp 48 [] [.var 1] []::.hp k vs [.var 21] []::t) (.sv (.one (.int .i64 (.lit 5)))):=by
   intro q k vs t r hq hr h5 hd _;refine⟨[[0],[1],[2]],[],rfl,rfl,⟨(ay fun _=>5),rfl,zzT,zzT⟩,_,a,u,all,nt,H,HA,l,dp,sl,L,n,D,_,_,_,rfl,rfl,rfl,A,O,Y,hD,rfl,?_,?_,fun h=>?_,fun _=>?_⟩
   .show DiskAt (hls [q.h k]) _ _;rw[hls_one,hr];exact hd
   .rw[hr,h5];rfl
   .rw[hr,h5]at h;cases h
   .show hls [_]=_;rw[hls_one];exact eT q hq
  rw[MD,ab q2 w];refine⟨ae,⟨_,u,all,n,l,_,HA,dp,sl,L,D,rfl,rfl,rfl,C,Y,hD,ae,ae,ae⟩,fun Q g3 ⟨F,⟨p',u',d,ao,Hx,R1,R2,dp',sl',L',N,H2,hx,R,S,aq,au,av,T,G,I⟩,_,_⟩=>?_⟩;have hx:Value.pointer (some ⟨a,0,none⟩)=p'/\u=u'/\(n:Int)=ao:=by simpa using hx
  obtain⟨rfl,rfl,rfl⟩:=hx;have R:l=Hx:=by simpa using R
  subst R;have S:Hl.one a (lObj dp sl L)=R1/\HA=R2:=by simpa using S
  obtain⟨rfl,rfl⟩:=S;obtain⟨rfl,rfl,rfl⟩:=C.uniq aq;have e:=au.rd.uniq Y.rd;subst e;have e:=av.uniq hD;subst e;have T:Q.h 63=H2:=by simpa using T
  rw[<-T]at G;have I:Q.i 63=(fillR N L.frm d n).1:=by simpa using I
  have G3:Agree 61 J Q:=w.tr g3;rw[G3.i 0,v0,dArg,MD,ab Q G3,eH Q G3];have ad:headOK (newH L d nt):=⟨by simp [newH,B],⟨by show 0<=L.serial+1;omega,by show L.serial+1<_;omega⟩,by show(0:Int)<=(d.length:Int);omega,by show(d.length:Int)<_;omega⟩;refine⟨fun U=>⟨⟨_,_,_,_,dp,sl,L,_,rfl,rfl,rfl,C,G,ad⟩,fun y g4 ⟨F,⟨p',h',Hx,R1,dp',sl',L',Dy,H3,hx,R,S,aw,ax,az,V,W,K⟩,_,_⟩=>?_⟩,fun U=>bad Q 63 _ _ (5,(fillR N L.frm d n).2) G3 (by unfold becomeR;rw[M0 (by rw[<-I];exact U)]) rfl G⟩;have hx:Value.pointer (some ⟨a,0,none⟩)=p'/\Value.agg (hdV (newH L d nt)).toArray=Value.agg (hdV h').toArray:=by simpa using hx
  obtain⟨rfl,aA⟩:=hx;have e:=hdV_inj ad.1 az.1 aA;subst e;have R:Q.h 63=Hx:=by simpa using R
  subst R;have S:Hl.one a (lObj dp sl L)=R1:=by simpa using S
  subst S;obtain⟨rfl,rfl,rfl⟩:=C.uniq aw;have e:=ax.uniq G;subst e;have V:y.h 65=H3:=by simpa using V
  rw[<-V]at W;have K:y.i 65=(turnR (fillR N L.frm d n).2 L.frm (newH L d nt)).1:=by simpa using K
  have G4:Agree 61 J y:=G3.tr g4;have af:¬(fillR N L.frm d n).1≠0:=by rw[<-I,U];simp
  refine⟨fun X=>bad y 65 _ _ (5,(turnR (fillR N L.frm d n).2 L.frm (newH L d nt)).2) G4 (by unfold becomeR;rw[MM af,M0 (by rw[<-K];exact X)]) rfl W,fun X hd=>?_⟩;have hr:becomeR N L d nt n=(0,(turnR (fillR N L.frm d n).2 L.frm (newH L d nt)).2):=by
   unfold becomeR;rw[MM af,MM (by rw[<-K,X];simp)]
  have j:=hd 0 1 _ _ aj rfl rfl rfl;rw[eG y G4]at j;refine⟨[[0,1],[],[2]],[],rfl,rfl,⟨(ay fun _=>0),rfl,zzT,zzT⟩,_,a,u,d,nt,H,HA,l,dp,sl,L,n,N,_,_,_,rfl,rfl,rfl,A,O,Y,hD,rfl,?_,?_,fun _=>?_,fun h=>?_⟩
  .show DiskAt (hls [y.h 65]) _ _;rw[hls_one,hr];exact W
  .rw[hr];rfl
  .have ag:y.h 48=HA:=by rw[G4.h 48,aa]
   have j:(Hl.one a (lObj dp u (grownL L d nt))).dis (y.h 48):=j;rw[ag]at j;refine⟨a,u,HA,rfl,⟨A.1.frm,A.1.most,B⟩,Y,j,?_⟩;rw[<-ag];exact Ns (fun z=>hls [z,y.h 48]) (eG y G4)
  .rw[hr]at h;exact absurd rfl h
structure AR where
 e:Int
 D:DM
 L:LM
 bs:List Int
def appendR (D:DM) (L:LM) (bs b nt:List Int):AR :=
 if L.over then⟨5,D,L,bs⟩
 else if 4611686018427387904<=L.serial then⟨14,D,L,bs⟩
 else if L.most-bs.length<b.length then⟨4,D,L,bs⟩
 else if(becomeR D L (bs++b) nt bs.length).1=0 then⟨0,(becomeR D L (bs++b) nt bs.length).2,grownL L (bs++b) nt,bs++b⟩
 else⟨5,(becomeR D L (bs++b) nt bs.length).2,overL L,bs⟩
def becomeR_code (D:DM) (L:LM) (all nt:List Int) (n:Nat):(becomeR D L all nt n).1=0\/(becomeR D L all nt n).1=5:=by
 unfold becomeR;split
 .exact Or.inr rfl
 .split
  .exact Or.inr rfl
  .exact Or.inl rfl
def appendS:Sx.Spec where
 fn:=160
 own:=[.arg 0,.link 0 0]
 rd:=[1]
 res:=[.one (.int .i64)]
 pre:=fun xs Hs Rs=>∃ p u b nt H a R dp L bs D,xs=[p,u,.agg (bys nt).toArray]/\Hs=[H,a]/\Rs=[R]/\LogAt H p dp L bs/\DiskAt a dp D/\RdW R u b/\bs.length<=1048576/\nt.length=16/\0<=L.serial
 post:=fun xs Hs Rs v Hs' F=>∃ p u b nt H a R dp L bs D H' c,xs=[p,u,.agg (bys nt).toArray]/\Hs=[H,a]/\Rs=[R]/\LogAt H p dp L bs/\DiskAt a dp D/\RdW R u b/\Hs'=[H',c]/\DiskAt c dp (appendR D L bs b nt).D/\LogAt H' p dp (appendR D L bs b nt).L (appendR D L bs b nt).bs/\v=.int .i64 (appendR D L bs b nt).e
def appendΓ:List Sx.Spec:=[roomS,bytesS,becomeS]
def appendΓ_ok:∀ t∈appendΓ,t.OK Tryz.prog:=ai roomS_ok <| ai bytesS_ok <| ai becomeS_ok <| aD
def appendW:Walk Tryz.prog appendΓ appendS.fn where
 Λ:=noLoops
 args:=[TP (.var 0) (.lit 0),.sv (.one (.sl (.var 1) (.var 2) (.var 3) (.var 4))),.sv (.agg (ckCVs 5 (u8s 16)))]
 mem:=[.blk 0 (ckCVs 21 logK++[.sl (.var 43) (.var 44) (.var 45) (.var 46),.bool (.bvar 47)]) 196,.hp 48 [] [.var 21] [],.hp 49 [] [.var 43] [],.ro 50 [.var 1] false]
 nv:=51
def ar0:roomS.res=[.one (.int .i64)]:=rfl
def ar1:bytesS.res=[.one .sl]:=rfl
def ar2:becomeS.res=[.one (.int .i64)]:=rfl
def ac1:(cpRoots 0 [Cp.one .sl]≠[])=True:=by simp [cpRoots,Cp.roots,Ck.root]
def appEnv (a:Nat) (x y:Int) (n c:Nat) (nt:List Int) (da:Nat) (L:LM) (sx:Int) (b sc:Nat) (d HB R:Hl):Env :=
 ⟨fun k=>if k<5 then [(a:Int),x,y,n,c].getD k 0 else if k<21 then nt.getD (k-5) 0 else if k<43 then(lInts da L).getD (k-21) 0 else [sx,0,(b:Int),(sc:Int)].getD (k-43) 0,fun _=>L.over,fun _=>.empty,fun _=>.tuple #[],fun k=>if k=48 then d else if k=49 then HB else R⟩
def appendS_ok:appendS.OK Tryz.prog:=by
 refine spec_of_fn2 (Γ:=appendΓ) appendΓ_ok ?_;rintro xs Hs Rs aW aX an ⟨p,u,b,nt,H,v,R,dp,L,bs,D,rfl,rfl,rfl,M,X,hB,Y,Z,hs0⟩;obtain⟨a,sl,HB,rfl,hok,hO,w,hH⟩:=id M;obtain⟨da,s,m,es,clock,aG,aY⟩:=id X;obtain⟨x,y,c,hu,hy,d⟩:=id hB;obtain⟨sx,sc,aZ,aH,a0,_⟩:=OwB.rep hO;generalize f:appEnv a x y b.length c nt da L sx bs.length sc v HB R=J;have v0:J.i 0=a:=by rw[<-f];rfl
 have v1:J.i 1=x:=by rw[<-f];rfl
 have v2:J.i 2=y:=by rw[<-f];rfl
 have v3:J.i 3=b.length:=by rw[<-f];rfl
 have v4:J.i 4=c:=by rw[<-f];rfl
 have A:J.h 48=v:=by rw[<-f];rfl
 have o:J.h 49=HB:=by rw[<-f];rfl
 have ao:J.h 50=R:=by rw[<-f];rfl
 have aq:J.b 47=L.over:=by rw[<-f];rfl
 have rk:∀ k,k<22->J.i (21+k)=(lInts da L).getD k 0:=fun k hk=>by
  rw[<-f];show(if 21+k<5 then _ else if 21+k<21 then _ else if 21+k<43 then(lInts da L).getD (21+k-21) 0 else _)=_;rw[MM ae,MM ae,M0 ae,show 21+k-21=k by omega]
 have rn:∀ k,k<16->J.i (5+k)=nt.getD k 0:=fun k hk=>by
  rw[<-f];show(if 5+k<5 then _ else if 5+k<21 then nt.getD (5+k-5) 0 else _)=_;rw[MM ae,M0 ae,show 5+k-5=k by omega]
 have lk:∀ q:Env,Agree 51 J q->∀ k,k<22->q.i (21+k)=(lInts da L).getD k 0:=fun q g k hk=>by rw[g.i _ ae];exact rk k hk
 have ls:∀ q:Env,Agree 51 J q->CV.ev q (.sl (.var 43) (.var 44) (.var 45) (.var 46))=sl:=by
  intro q g;simp only[CV.ev,iev_var,g.i 43,g.i 44,g.i 45,g.i 46];rw[<-f,aH];show Value.slice (slP sx 0) ((bs.length:Int)).toNat ((sc:Int)).toNat=_;rw[MD,MD]
 have eB:∀ (q:Env),Agree 51 J q->(Res.blk 0 (ckCVs 21 logK++[.sl (.var 43) (.var 44) (.var 45) (.var 46),.bool (.bvar 47)]) 196).hl q=Hl.one a (lObj dp sl L):=by
  intro q g;show Hl.one (q.i 0).toNat (.cells ((ckCVs 21 logK++[CV.sl (.var 43) (.var 44) (.var 45) (.var 46),.bool (.bvar 47)]).map (CV.ev q)).toArray _ (0,0))=_;have e2:CV.ev q (.bool (.bvar 47))=.bool L.over:=by
   show Value.bool (q.b 47)=_;rw[g.b 47,aq]
  rw[M9,logK_ev hok (lk q g),g.i 0,v0,M6,M6,NN,ls q g,e2,MY,<-aG,MD];rfl
 have S:(Hl.one a (lObj dp sl L)).le H:=by rw[hH];exact Hl.un_left _ _
 have T:HB.le H:=by
  rw[hH];show HB.le ((Hl.one a (lObj dp sl L)).un (hls [HB]));rw[hls_one];exact Hl.un_right w
 have au:H.dis v:=an 0 1 _ _ aj rfl rfl;refine⟨appendW,J,fun _ _=>True,fun _ _=>0,?_,⟨?_,?_,?_,?_⟩,(fun _ h=>nomatch h),?_⟩
 .show [Value.pointer (slP (J.i 0) 0),Value.slice (slP (J.i 1) (J.i 2)) (J.i 3).toNat (J.i 4).toNat,Value.agg ((ckCVs 5 (u8s 16)).map (CV.ev J)).toArray]=_;unfold u8s;rw[v0,v1,v2,v3,v4,dArg,MD,MD,<-hu,u8_ev 16 5 nt Z rn]
 .intro r hr ho;simp only[appendW,MQ,MV,Nt]at hr;rcases hr with rfl | rfl | rfl | rfl
  .refine⟨H,ar,?_⟩;rw[eB J (Agree.refl _ _)];exact S
  .refine⟨v,ar,?_⟩;show(J.h 48).le v;rw[A];exact Hl.le_refl _
  .refine⟨H,ar,?_⟩;show(J.h 49).le H;rw[o];exact T
  .cases ho
 .intro r hr ho;simp only[appendW,MQ,MV,Nt]at hr;rcases hr with rfl | rfl | rfl | rfl
  .cases ho
  .cases ho
  .cases ho
  .refine⟨R,ar,?_⟩;show(J.h 50).le R;rw[ao];exact Hl.le_refl _
 .have d1:v.dis HB:=fun k ⟨h1,h2⟩=>au k ⟨Hl.le_mem T h2,h1⟩;refine List.Pairwise.cons (fun r hr _ ho=>?_) (List.Pairwise.cons (fun r hr _ ho=>?_) (List.Pairwise.cons (fun r hr _ ho=>?_) (List.Pairwise.cons (fun r hr=>by cases hr) List.Pairwise.nil)))
  .simp only[MQ,MV,Nt]at hr;rw[eB J (Agree.refl _ _)];rcases hr with rfl | rfl | rfl
   .show Hl.dis _ (J.h 48);rw[A];exact fun k ⟨h1,h2⟩=>au k ⟨Hl.le_mem S h1,h2⟩
   .show Hl.dis _ (J.h 49);rw[o];exact w
   .cases ho
  .simp only[MQ,MV,Nt]at hr;rcases hr with rfl | rfl
   .show(J.h 48).dis (J.h 49);rw[A,o];exact d1
   .cases ho
  .rw[MO]at hr;subst hr;cases ho
 .intro r hr;simp only[appendW,MQ,MV,Nt]at hr;rcases hr with rfl | rfl | rfl | rfl
  .show(0:Int)<=J.i 0;rw[v0];omega
  .trivial
  .trivial
  .trivial
 .refine Walk.read [] [] [] ?_;have aa:∀ q:Env,Agree 51 J q->Hl.one a (Obj.cells (List.map (CV.ev q) (ckCVs 21 ([Ck.ptr,Ck.int IntKind.i64,Ck.int IntKind.i64,Ck.int IntKind.u64,Ck.int IntKind.u64]++List.replicate 16 (Ck.int IntKind.u8)++[Ck.sl,Ck.bool]))).toArray 196 (0,0))=Hl.one a (lObj dp sl L):=by
   intro q g;have h:Hl.one (q.i 0).toNat (Obj.cells (List.map (CV.ev q) (ckCVs 21 ([Ck.ptr,Ck.int IntKind.i64,Ck.int IntKind.i64,Ck.int IntKind.u64,Ck.int IntKind.u64]++List.replicate 16 (Ck.int IntKind.u8)++[Ck.sl,Ck.bool]))).toArray 196 (0,0))=Hl.one a (lObj dp sl L):=eB q g;rw[g.i 0,v0,MD]at h;exact h
  have eN:∀ q:Env,Agree 51 J q->(ckCVs 5 (List.replicate 16 (Ck.int IntKind.u8))).map (CV.ev q)=bys nt:=fun q g=>u8_ev 16 5 nt Z fun k hk=>by rw[g.i _ ae];exact rn k hk
  have i25:∀ q:Env,Agree 51 J q->q.i 25=L.serial:=fun q g=>lk q g 4 ae;have hIn:LogIn (Hl.one a (lObj dp sl L)) a dp sl L:=⟨hok,Hl.one_self _ _⟩;have B:LogRd (Hl.one a (lObj dp sl L)) (.pointer (some ⟨a,0,none⟩)) dp sl L:=⟨a,rfl,hIn⟩;have n:slOf sl bs.length:=OwB.slOf hO;obtain⟨m0,m1⟩:=hok.most;have out:∀ (q:Env) (t:Mem) (e:Int),Agree 51 J q->appendR D L bs b nt=⟨e,D,L,bs⟩ ->
   postOf appendS [.pointer (some ⟨a,0,none⟩),u,.agg (bys nt).toArray] [H,v] [R] q (.blk 0 (ckCVs 21 ([Ck.ptr,Ck.int IntKind.i64,Ck.int IntKind.i64,Ck.int IntKind.u64,Ck.int IntKind.u64]++List.replicate 16 (Ck.int IntKind.u8)++[Ck.sl,Ck.bool])) 196::.hp 48 [] [.var 21] []::.hp 49 [] [.var 43] []::t) (.sv (.one (.int .i64 (.lit e)))):=by
   intro q t e hq hr _;refine⟨[[0,2],[1]],[],rfl,rfl,⟨(ay fun _=>e),rfl,zzT,zzT⟩,_,u,b,nt,H,v,R,dp,L,bs,D,_,_,rfl,rfl,rfl,M,X,hB,rfl,?_,?_,?_⟩
   .show DiskAt (hls [q.h 48]) _ _;rw[hls_one,hr,hq.h 48,A];exact X
   .rw[hr];refine⟨a,sl,HB,rfl,hok,hO,w,?_⟩;have N:q.h 49=HB:=by rw[hq.h 49,o]
    rw[<-N];exact Ns (fun z=>hls [z,q.h 49]) (eB q hq)
   .rw[hr];rfl
  simp only[go_sem,Nat.reduceAdd,appendΓ,ar0,ar1,ar2,ac1];intro q1 U _;rw[U.b 47,aq,i25 q1 U,U.i 3,v3,U.i 0,v0,dArg,MD,aa q1 U];refine⟨fun ho=>out q1 _ 5 U ?_,fun ho=>⟨fun hs=>out q1 _ 14 U ?_,fun hs=>⟨ae,⟨_,_,dp,sl,L,bs.length,rfl,rfl,B,n,Y⟩,fun q2 g2 ⟨F,⟨p',R',dp',sl',L',n',hx,hR,C,G,ab⟩,_,_⟩=>?_⟩⟩⟩
  .unfold appendR;rw[M0 ho]
  .unfold appendR;rw[MM ho,M0 hs]
  have hx:Value.pointer (some ⟨a,0,none⟩)=p':=by simpa using hx
  subst hx;have hR:Hl.one a (lObj dp sl L)=R':=by simpa using hR
  subst hR;obtain⟨rfl,rfl,rfl⟩:=B.uniq C;have e:=G.uniq n;subst e;have ab:q2.i 52=L.most-bs.length:=by simpa using ab
  have G2:Agree 51 J q2:=U.tr g2;rw[ab,G2.i 3,v3];refine⟨fun O=>out q2 _ 4 G2 ?_,fun O=>?_⟩
  .unfold appendR;rw[MM ho,MM hs,M0 O]
  rw[G2.i 0,v0,dArg,MD,aa q2 G2,G2.h 49,o];refine⟨⟨_,_,_,dp,sl,L,bs,rfl,rfl,B,hO.rd,Y⟩,fun q3 g3 ⟨F,⟨p',R1,R2,dp',sl',L',bs',hx,hR,C,aI,I⟩,hF,aJ⟩=>?_⟩;have hx:Value.pointer (some ⟨a,0,none⟩)=p':=by simpa using hx
  subst hx;have hR:Hl.one a (lObj dp sl L)=R1/\HB=R2:=by simpa using hR
  obtain⟨rfl,rfl⟩:=hR;obtain⟨rfl,rfl,rfl⟩:=B.uniq C;have e:=aI.uniq hO.rd;subst e;have hF:=hF trivial;subst hF;obtain⟨⟨aK,ad,af,a4⟩,_⟩:=aJ;have ad:0<=q3.i 54:=ad;have af:0<=q3.i 55:=af;obtain⟨ag,_⟩:=I.rd.at aK ad af;have G3:Agree 51 J q3:=G2.tr g3;rw[G3.i 1,v1,G3.i 2,v2,G3.i 3,v3,G3.h 50,ao,ag];rw[ag]at I;have V:OwnsH (q3.h 53) 5 1 (.slice (slP (q3.i 53) (q3.i 54)) ((bs'.length:Int)).toNat (q3.i 56).toNat) ((bs'.length:Int)).toNat (bys bs'):=by
   unfold OwB at I;rw[MD]at I ⊢;exact I
  have aU:(bs'.length:Int)+b.length<=1048576:=ae;refine⟨⟨⟨_,V⟩,ae,?_,by unfold maxLen;omega,ae⟩,fun K g4 ⟨a1,a2,a3,_⟩=>?_⟩
  .rcases d with hb | ⟨av,d⟩
   .subst hb;exact Or.inr rfl
   .refine Or.inl ⟨av,hy,ae,fun j P=>?_⟩;have P:j<b.length:=ae;exact⟨_,d j _ (ME P),rfl⟩
  have aw:segVals R x.toNat y.toNat ((b.length:Int)).toNat=bys b:=by
   rw[MD];unfold segVals;apply Ni;intro j;rw[MU,bys_get];rcases ND j b.length with P | P
   .rcases d with hb | ⟨av,d⟩
    .subst hb;cases P
    .rw[Nf P,Nl,d j _ (ME P),ME P];rfl
   .rw[MS (by simpa using P),MS ae];rfl
  have ah:=a3 _ V;rw[aw]at ah;have G4:Agree 51 J K:=G3.tr g4;have aL:K.i 55=bs'.length:=by rw[g4.i 55,ag]
  have ax:OwB (K.h 57) 5 (.slice (slP (K.i 57) 0) ((bs'.length:Int)+b.length).toNat (K.i 58).toNat) (bs'++b):=by
   unfold OwB;rw[bys_append,MJ];rw[show((bs'.length:Int)+b.length).toNat=bs'.length+b.length by omega];rw[MD,MD]at ah;exact ah
  rw[G4.i 0,v0,dArg,MD,aa K G4,eN K G4,aL,G4.i 3,v3,G4.h 48,A];refine⟨⟨_,a,_,bs'++b,nt,_,_,v,dp,sl,L,bs'.length,D,rfl,rfl,rfl,hIn,n,Y,ax,by rw[MJ];omega,Z,X,hs0,ae⟩,fun l g5 ⟨F,⟨p',a',u',aV,nt',H1,HA,aM,dp',sl',L',n',D',H',az,aA,hx,hH,hp,C,G,aN,aO,ai,aB,Q,aC,aD⟩,_,_⟩=>?_⟩;have hx:Value.pointer (some ⟨a,0,none⟩)=p'/\Value.slice (slP (K.i 57) 0) ((bs'.length:Int)+b.length).toNat (K.i 58).toNat=u'/\bys nt=bys nt'/\bev K E.tt=true:=by simpa using hx
  obtain⟨aP,aQ,ak,_⟩:=hx;have ak:=bys_inj ak;subst aP aQ ak;have hH:Hl.one a (lObj dp sl L)=H1/\K.h 57=HA/\v=aM:=by simpa using hH
  obtain⟨aR,aS,aT⟩:=hH;subst aR aS aT;have hp:a=a':=by simpa using hp
  subst hp;obtain⟨rfl,rfl,rfl⟩:=LogRd.uniq B ⟨a,rfl,C⟩;have e:=G.uniq n;subst e;have e:=aN.rd.uniq ax.rd;subst e;have e:=aO.uniq X;subst e;have ai:l.h 59=H'/\l.h 60=az/\l.h 61=aA:=by
   have h1:[l.h 59,l.h 60,l.h 61]=[H',az,aA]:=ai;simpa using h1
  obtain⟨al,a5,aE⟩:=ai;have Q:l.i 59=(becomeR D' L (bs'++b) nt bs'.length).1:=by simpa using Q
  have G5:Agree 51 J l:=G4.tr g5;have N:l.h 49=HB:=by rw[G5.h 49,o]
  intro hd;by_cases hz:(becomeR D' L (bs'++b) nt bs'.length).1=0
  .have hr:appendR D' L bs' b nt=⟨0,(becomeR D' L (bs'++b) nt bs'.length).2,grownL L (bs'++b) nt,bs'++b⟩:=by
    unfold appendR;rw[MM ho,MM hs,MM O,M0 hz]
   refine⟨[[0],[1]],[],rfl,rfl,⟨(ay fun _=>l.i 59),rfl,zzT,zzT⟩,_,u,b,nt,H,v,R,dp,L,bs',D',_,_,rfl,rfl,rfl,M,X,hB,rfl,?_,?_,?_⟩
   .show DiskAt (hls [l.h 61]) _ _;rw[hls_one,hr,aE];exact aB
   .show LogAt (hls [l.h 59]) _ _ _ _;rw[hls_one,hr,al];exact aC hz
   .show Value.int .i64 (l.i 59)=_;rw[hr,Q,hz]
  .have h5:=(becomeR_code D' L (bs'++b) nt bs'.length).resolve_left hz;have hr:appendR D' L bs' b nt=⟨5,(becomeR D' L (bs'++b) nt bs'.length).2,overL L,bs'⟩:=by
    unfold appendR;rw[MM ho,MM hs,MM O,MM hz]
   have W:(l.h 59).dis (l.h 49):=hd 0 2 _ _ aj rfl rfl rfl;have aF:=aD hz;rw[al,aF,N]at W;refine⟨[[0,2],[1]],[],rfl,rfl,⟨(ay fun _=>l.i 59),rfl,zzT,zzT⟩,_,u,b,nt,H,v,R,dp,L,bs',D',_,_,rfl,rfl,rfl,M,X,hB,rfl,?_,?_,?_⟩
   .show DiskAt (hls [l.h 61]) _ _;rw[hls_one,hr,aE];exact aB
   .rw[hr];refine⟨a,sl,HB,rfl,⟨hok.frm,hok.most,hok.note⟩,hO,W,?_⟩;show hls [l.h 59,l.h 49]=_;rw[al,aF,N]
   .show Value.int .i64 (l.i 59)=_;rw[hr,Q,h5]
end Go.Proofs.YtbdikjnpbnobcaaGreatDoor.D
