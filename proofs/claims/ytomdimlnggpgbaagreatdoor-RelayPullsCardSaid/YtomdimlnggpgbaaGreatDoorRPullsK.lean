/- RelayPulls: of any pieces, fuses and questions the law returns true; the card. -/
import Derived.Test.YtomdimlnggpgbaaGreatDoorTie
import Derived.SevenTiedAt
import Derived.Test.YtomdimlnggpgbaaGreatDoorTN
set_option linter.all false
set_option maxHeartbeats 4000000
namespace Go.Proofs.YtomdimlnggpgbaaGreatDoor.rpullsP
open Go Go.Sx Go.ChangeShapes Go.WideShapes Go.ChangeAt Go.RowKit Go.Deep
abbrev MD:=@Ki
def ka:List Ex.Kt:=[.int .u64,.int .u64,.int .u64,.int .u64,.int .u64,.int .u64,.bool,.other 62,.int .i64]
theorem Vu:Ex.mg Tryz.prog 6 81=some ka:=by kernel_rfl
theorem L3 {Φ:Value->TypeId->Prop} : ∀ {row:List Value},Ex.j9 Φ row ka->∃ (cv:Nat->Int) (all:Bool) (u:Value) (most:Int),row=[.int .u64 (cv 0),.int .u64 (cv 1),.int .u64 (cv 2),.int .u64 (cv 3),.int .u64 (cv 4),.int .u64 (cv 5),.bool all,u,.int .i64 most]/\(∀ i,i<6->0<=cv i/\cv i<18446744073709551616)/\Φ u 62
 | row,h=>by
  have hl:=Ex.vY h;obtain⟨a0,a1,a2,a3,a4,a5,a6,u,a8,rfl⟩:∃ a0 a1 a2 a3 a4 a5 a6 u a8,row=[a0,a1,a2,a3,a4,a5,a6,u,a8]:=by
   match row,hl with
   | [a0,a1,a2,a3,a4,a5,a6,u,a8],_=>exact⟨_,_,_,_,_,_,_,_,_,rfl⟩
  obtain⟨⟨n0,e0,h0⟩,⟨n1,e1,h1⟩,⟨n2,e2,h2⟩,⟨n3,e3,h3⟩,⟨n4,e4,h4⟩,⟨n5,e5,h5⟩,⟨b,e6⟩,hu,⟨m,e8,_⟩,_⟩:=h;subst e0 e1 e2 e3 e4 e5 e6 e8;refine⟨fun i=>[n0,n1,n2,n3,n4,n5].getD i 0,b,u,m,rfl,fun i hi=>?_,hu⟩;rcases i with _ | _ | _ | _ | _ | _ | i
  .exact sC h0
  .exact sC h1
  .exact sC h2
  .exact sC h3
  .exact sC h4
  .exact sC h5
  .omega
theorem own:ownKnob Tryz.prog.godebug=none:=by kernel_rfl
theorem laidOut:laidOutB Tryz.prog=true:=by kernel_rfl
set_option maxRecDepth 100000 in
theorem lifted (os:Os) (started:os.Started) (H:Type) (enc:TypeId×Value->H) :
 ReturnsInHanded {} Tryz.checked os 7 .any (fun w args=>(Rows.relayPullsSpec.pre enc Tryz.prog Tryz.f7 Rows.relayPullsRow.domain false w args/\laidMetH Tryz.prog oO w)/\sizedMet enc Tryz.prog Tryz.f7 (OpenSpec.ofChange Rows.relayPullsSpec) false w args) (Rows.relayPullsSpec.post enc Tryz.prog Tryz.f7 false true false false):=by
 refine returnsInHanded_of_change_and (C:=Tryz.checked) (X:=fun w _=>laidMetH Tryz.prog oO w) (fun _ _ _ hh h=>h.of_heap hh) own started (by kernel_rfl) Tryz.func7
  (ChangeSpec.witness_shaped (enc:=enc) (C:=Tryz.checked) (os:=os) (X:=fun w _=>laidMetH Tryz.prog oO w) false (World.doorLaid Tryz.prog 400 os) #[.slice none 0 0,.slice none 0 0,.agg #[.int .u64 0,.int .u64 0,.int .u64 0,.int .u64 0,.int .u64 0,.int .u64 0,.bool false,.slice none 0 0,.int .i64 0]] 8 rfl (World.shaped_of_RefB (by kernel_rfl) (by kernel_rfl)) (by kernel_rfl) (by kernel_rfl) (by kernel_rfl) (MD os _)) ?_
 intro W base args ds gs before hval0 hW hcnd _ hL _;have hval:∀ (j:Nat) t v,Tryz.f7.params[j]?=some t->args[j]?=some v->Value.okWide Tryz.prog W .any base t v:=hval0;have hW':=hW;obtain⟨p,q,hA0,hV,rfl,hfz,hnd⟩:=hW;have hA:DataW.TrodAll enc Tryz.prog W 0 (fun _=>true) true Tryz.f7.params.toList args.toList ds p:=hA0;rw[Tryz.params7]at hA hval;obtain⟨v0,vs0,d0,ds0,p0,q0,hargs,rfl,rfl,h0,r0⟩:=trodAll_cons hA;obtain⟨v1,vs1,d1,ds1,p1,q1,rfl,rfl,rfl,h1,r1⟩:=trodAll_cons r0;obtain⟨v2,vs2,d2,ds2,p2,q2,rfl,rfl,rfl,h2,r2⟩:=trodAll_cons r1;obtain⟨rfl,rfl,rfl⟩:=trodAll_nil r2;obtain rfl:args=#[v0,v1,v2]:=by cases args;simp_all
 obtain⟨rfl,rfl⟩:=trodVars_none hV;have lt:∀ {t v d} {ps:List MemPlace},DataW.Trod enc Tryz.prog W 0 (fun _=>true) true t v d ps->∀ x∈ps,x.block<W.heap.size:=fun hk=>by obtain⟨m,hm⟩:=hk;exact DataW.trod_lt m _ _ _ hm
 have k0:=h0;have k1:=h1;have k2:=h2;clear hA0 hval0;obtain⟨rows,hR,hrows⟩:=QH Tryz.underlying49 (ks:=opP.kp) (dp:=6) opP.Vv (by kernel_rfl) (abx (by kernel_rfl)) (okWide_slice Tryz.underlying49 (hval 0 49 v0 rfl rfl)) h0;rw[show opP.kp.map Kz=mP by kernel_rfl]at hR;obtain⟨bs,hB,hb⟩:=DB Tryz.underlying46 (dp:=1) (by kernel_rfl) (by kernel_rfl) (okWide_slice Tryz.underlying46 (hval 1 46 v1 rfl rfl)) h1;obtain⟨⟨row⟩,rfl,_⟩:=okWide_struct Tryz.underlying81 (hval 2 81 v2 rfl rfl);obtain⟨fuel,hfu⟩:=id h2;have ho:Ex.j9 (Ex.qi enc Tryz.prog W 0 (fun _=>true) true) row ka:=Ex.wJ 6 81 ka fuel row _ Vu hfu;obtain⟨cv,all,u,most,rfl,hcv,hu⟩:=L3 ho;obtain⟨TT,a,c,rfl,hU,htk⟩:=opP.By hu;obtain⟨g,hG⟩:=gl6 hL;have hcall:Calls Tryz.prog 7 #[v0,v1,_] W fun e w'=>e=.returned (.bool true)/\Below W.heap.size W w' :=
  ON Ox rfl ⟨v0,v1,cv,all,_,most,_,_,g,rows,bs,TT,rfl,rfl,hR,fun row h a b=>by obtain⟨c,hc,_⟩:=opP.VS (hrows row h) a b;exact⟨c,hc⟩,⟨hB,hb⟩,hcv,hU,htk,⟨hG,Ye hL,XV hL⟩,Yf hL⟩ (fun _ _ h=>h)
 refine hcall.mono fun e W' ⟨he,bel⟩=>?_;subst he;exact⟨_,rfl,_,_,_,[],_,[],hW',trodAll_mk1 (shut_bool Tryz.underlying4 _),(trodAll_cons_mk (Below.trod laidOut (by kernel_rfl) (abx (by kernel_rfl)) k0 bel (lt k0)) (trodAll_cons_mk (Below.trod laidOut (by kernel_rfl) (abx (by kernel_rfl)) k1 bel (lt k1)) (trodAll_cons_mk (Below.trod laidOut (by kernel_rfl) (abx (by kernel_rfl)) k2 bel (lt k2)) trodAll_mk0))),rfl,bel.frame _,fun h=>by cases h⟩
theorem Lh:Rows.RelayPullsSaid :=
 OpenClaim.holds_of_wide 7 Tryz.f7 rfl rfl rfl rfl rfl rfl rfl ⟨rfl,rfl,rfl,rfl,rfl⟩ rfl rfl rfl rfl rfl (by kernel_rfl) Tryz.func7 (by kernel_rfl)
  (abx (by kernel_rfl)) (by unfold Func.isWrapper;rw[aal (of_decide_eq_false (by kernel_rfl))];exact⟨rfl,rfl⟩)
  (fun os started H enc _=>lifted os started H enc)
theorem proved:Rows.RelayPullsCardSaid :=
 Claim7.holds_tied_plain_at .later [] [.data,.handle,.data,.sentinel,.sentinel,.sentinel] true (true, "33caa361b3f2c05034e5de2c4e3505ba99b5e2a6ed0b2ef0c6551c80cd8a7c54") true
  Lh (fun _ h=>by cases h) (by kernel_rfl) (fun _ h=>by cases h) relayPulls_row_tie rfl ⟨rfl,rfl⟩ (by kernel_rfl) rfl
  (fun f fn hf hfn=>by
   obtain rfl:f=7:=aa1 ((show Tryz.prog.funcNamed "jalousie/jalousielaw21.RelayPulls"= some 7 by kernel_rfl).symm.trans hf) |>.symm
   obtain rfl:fn=Tryz.f7:=(aa1 (Tryz.func7.symm.trans hfn)).symm;exact⟨by kernel_rfl,fun j t ht=>by
    rw[Tryz.params7]at ht;have hm:t∈[49,46,81]:=by simpa using Array.mem_of_getElem? ht
    have hall:([49,46,81].all fun u=>!Tryz.prog.wantsStandIn u)=true:=by kernel_rfl
    exact(show Tryz.prog.wantsStandIn t=false by simpa using aaD.1 hall t hm)⟩)
  (by kernel_rfl)
end Go.Proofs.YtomdimlnggpgbaaGreatDoor.rpullsP
