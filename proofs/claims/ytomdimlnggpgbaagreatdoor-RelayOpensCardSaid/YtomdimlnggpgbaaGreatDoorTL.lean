/- RelayOpens. -/
import Derived.Test.YtomdimlnggpgbaaGreatDoorTK
set_option linter.all false
set_option maxHeartbeats 4000000
namespace Go.Proofs.YtomdimlnggpgbaaGreatDoor
open Go Go.Sx Go.Pk
def L8 (c:List Value) (w:Int) (n k:Nat):Value:=.int .u64 (if w-1=k then(n:Int)else cI c (54+k))
def kZ (c:List Value) (w:Int) (n:Nat) (lJ:List Int):List Value:=([.int .i64 w,.int .u64 ((n:Int)+1)]++aS lJ)++(c.drop 34).take 20
def pZ (c:List Value) (w:Int) (n:Nat) (sum:List Int):List Value:=[L8 c w n 0,L8 c w n 1,L8 c w n 2,L8 c w n 3,L8 c w n 4,L8 c w n 5]++(aS sum++(.int .i64 80::(c.drop 93).take 32))
def fT (c:List Value) (w:Int) (n:Nat) (lJ sum:List Int):List Value:=kZ c w n lJ++pZ c w n sum
def fi (n:Nat) (b:List Int):List Int:=List.replicate 80 (match b with | []=>((n%256:Nat):Int) | z::_=>z)
noncomputable def jM (hs:List Hd) (w:Int) (p:Pc):Pc:=⟨⟨fT p.h.c w hs.length (i7 hs) (gr (fi hs.length p.b)),p.h.t⟩,fi hs.length p.b⟩
theorem gS:∀ {a b:List Value} {ka kb:List Kd},bg a ka->bg b kb->bg (a++b) (ka++kb)
 | [],b,[],kb,_,h=>h
 | v::a,b,k::ka,kb,h,h2=>⟨h.1,gS h.2 h2⟩
theorem qc:∀ {n:Nat} {l:List Value} {ks:List Kd},bg l ks->bg (l.drop n) (ks.drop n)
 | 0,_,_,h=>h
 | n+1,[],[],h=>h
 | n+1,v::l,k::ks,h=>qc (n:=n) h.2
theorem LP (hs:List Hd):∀ z∈i7 hs,0<=z/\z<256:=by
 unfold i7;split
 .intro z hz;rw[acz hz];omega
 .exact BL _
theorem JI {l:List Int} (h:∀ z∈l,0<=z/\z<256):∀ v∈aS l,wY v:=by
 intro v hv;obtain⟨z,hz,rfl⟩:=aaS.1 hv;exact h z hz
theorem HM {R:Hl} {row:List Value} {h:Hd} (hx:bN R row h) {w:Int} {n:Nat} {lJ:List Int} (ht:lJ.length=32):([.int .i64 w,.int .u64 ((n:Int)+1)]++aS lJ:List Value).length=34/\(kZ row w n lJ).length=54:=by
 have hl:row.length=125:=fU hx.ok;have h1:([.int .i64 w,.int .u64 ((n:Int)+1)]++aS lJ:List Value).length=34:=by rw[aac,cj,ht];rfl
 refine⟨h1,?_⟩;unfold kZ;rw[aac,h1,aaz,aaF];omega
theorem On {R:Hl} {row:List Value} {h:Hd} (hx:bN R row h) {w:Int} {n:Nat} {lJ sum:List Int} (hw:1<=w/\w<=6) (hn:n<=100000) (ht:lJ.length=32) (hs:sum.length=32) (bt:∀ z∈lJ,0<=z/\z<256) (bs:∀ z∈sum,0<=z/\z<256) :
 bN R (fT row w n lJ sum) ⟨fT h.c w n lJ sum,h.t⟩:=by
 have hl:row.length=125:=fU hx.ok;obtain⟨l34,l54⟩:=HM hx (w:=w) (n:=n) ht;have hk:∀ k:Nat,k<6->L8 h.c w n k=L8 row w n k:=fun k hk=>by
  unfold L8;rw[hx.I ah]
 have hz:pZ h.c w n sum=pZ row w n sum:=by
  unfold pZ;rw[hk 0 ah,hk 1 ah,hk 2 ah,hk 3 ah,hk 4 ah,hk 5 ah,hx.core,List.drop_set_of_lt ah]
 have ha:kZ h.c w n lJ=(kZ row w n lJ).set 53 (.bool false):=by
  unfold kZ;rw[acV _ _ (by rw[l34];omega),l34,hx.core,List.drop_set,aal ah,<-List.take_set]
 have hg53:(fT row w n lJ sum).getD 53 (.bool false)=row.getD 53 (.bool false):=by
  unfold fT;rw[aan,aan,aaG ah];unfold kZ;rw[aau (by rw[l34];omega),l34,aaX,aax ah,aaW]
 refine⟨?_,?_,?_,?_,hx.byte⟩
 .have e:dZ=(([Kd.int .i64,.int .u64]++List.replicate 32 (.int .u8))++(dZ.drop 34).take 20)++(List.replicate 6 (.int .u64)++(List.replicate 32 (.int .u8)++(.int .i64::(dZ.drop 93).take 32))):=rfl;rw[e];unfold fT kZ pZ;exact gS (gS (gS ⟨rfl,rfl,trivial⟩ (Dm 32 lJ ht)) (jf (qc hx.ok))) (gS ⟨rfl,rfl,rfl,rfl,rfl,rfl,trivial⟩ (gS (Dm 32 sum hs) ⟨rfl,jf (qc hx.ok)⟩))
 .intro v hv;have hk:∀ k:Nat,k<6->wY (L8 row w n k):=fun k hk=>by
   unfold L8;split
   .exact⟨ah,ah⟩
   .have hkk:dZ[54+k]?=some (.int .u64):=by
     have:k=0\/k=1\/k=2\/k=3\/k=4\/k=5:=ah;rcases this with rfl | rfl | rfl | rfl | rfl | rfl<;>rfl
    exact hx.rng _ (aae (tW hx.ok hkk))
  unfold fT kZ pZ at hv;simp only[aaR,aas,aaA,abc]at hv;rcases hv with (((rfl | rfl) | hv) | hv) | ((rfl | rfl | rfl | rfl | rfl | rfl) | hv | rfl | hv)
  .show jT w;unfold jT;omega
  .exact⟨ah,ah⟩
  .exact JI bt v hv
  .exact hx.rng v (abO (abC hv))
  .exact hk 0 ah
  .exact hk 1 ah
  .exact hk 2 ah
  .exact hk 3 ah
  .exact hk 4 ah
  .exact hk 5 ah
  .exact JI bs v hv
  .show jT 80;unfold jT;omega
  .exact hx.rng v (abO (abC hv))
 .show fT h.c w n lJ sum=_;unfold fT;rw[List.set_append_left _ _ ah,ha,hz]
 .rw[hg53];exact hx.tok
theorem C9 (n:Nat) {b:List Int} (hb:ak b):(fi n b).length=80/\ak (fi n b):=by
 refine⟨aa5,fun z hz=>?_⟩;have:=acz hz;cases b with
 | nil=>simp at this;omega
 | cons y b=>simp at this;rw[this];exact hb y (aaH ..)
end Go.Proofs.YtomdimlnggpgbaaGreatDoor
