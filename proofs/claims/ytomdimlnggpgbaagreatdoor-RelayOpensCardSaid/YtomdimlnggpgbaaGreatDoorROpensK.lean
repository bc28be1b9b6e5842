/- RelayOpens. -/
import Derived.Test.YtomdimlnggpgbaaGreatDoorTie
import Derived.SevenTiedAt
import Derived.Test.YtomdimlnggpgbaaGreatDoorTO
set_option linter.all false
set_option maxHeartbeats 4000000
namespace Go.Proofs.YtomdimlnggpgbaaGreatDoor.ropensP
open Go Go.Sx Go.ChangeShapes Go.WideShapes Go.ChangeAt Go.RowKit Go.Deep
abbrev MJ:=@Ku
theorem own:ownKnob Tryz.prog.godebug=none:=by kernel_rfl
theorem laidOut:laidOutB Tryz.prog=true:=by kernel_rfl
set_option maxRecDepth 100000 in
theorem lifted (os:Os) (started:os.Started) (H:Type) (enc:TypeId×Value->H) :
 ReturnsInHanded {} Tryz.checked os 6 .any (fun w args=>(Rows.relayOpensSpec.pre enc Tryz.prog Tryz.f6 Rows.relayOpensRow.domain false w args/\laidMetH Tryz.prog oQ w)/\sizedMet enc Tryz.prog Tryz.f6 (OpenSpec.ofChange Rows.relayOpensSpec) false w args) (Rows.relayOpensSpec.post enc Tryz.prog Tryz.f6 false true false false):=by
 refine returnsInHanded_of_change_and (C:=Tryz.checked) (X:=fun w _=>laidMetH Tryz.prog oQ w) (fun _ _ _ hh h=>h.of_heap hh) own started (by kernel_rfl) Tryz.func6
  (ChangeSpec.witness_shaped (enc:=enc) (C:=Tryz.checked) (os:=os) (X:=fun w _=>laidMetH Tryz.prog oQ w) false (World.doorLaid Tryz.prog 400 os) #[.slice none 0 0,.slice none 0 0] 8 rfl (World.shaped_of_RefB (by kernel_rfl) (by kernel_rfl)) (by kernel_rfl) (by kernel_rfl) (by kernel_rfl) (MJ os _)) ?_
 intro W base args ds gs before hval0 hW hcnd _ hL _;have hval:∀ (j:Nat) t v,Tryz.f6.params[j]?=some t->args[j]?=some v->Value.okWide Tryz.prog W .any base t v:=hval0;have hW':=hW;obtain⟨p,q,hA0,hV,rfl,hfz,hnd⟩:=hW;have hA:DataW.TrodAll enc Tryz.prog W 0 (fun _=>true) true Tryz.f6.params.toList args.toList ds p:=hA0;rw[Tryz.params6]at hA hval;obtain⟨v0,vs0,d0,ds0,p0,q0,hargs,rfl,rfl,h0,r0⟩:=trodAll_cons hA;obtain⟨v1,vs1,d1,ds1,p1,q1,rfl,rfl,rfl,h1,r1⟩:=trodAll_cons r0;obtain⟨rfl,rfl,rfl⟩:=trodAll_nil r1;obtain rfl:args=#[v0,v1]:=by cases args;simp_all
 obtain⟨rfl,rfl⟩:=trodVars_none hV;have lt:∀ {t v d} {ps:List MemPlace},DataW.Trod enc Tryz.prog W 0 (fun _=>true) true t v d ps->∀ x∈ps,x.block<W.heap.size:=fun hk=>by obtain⟨m,hm⟩:=hk;exact DataW.trod_lt m _ _ _ hm
 have k0:=h0;have k1:=h1;clear hA0 hval0;obtain⟨rows,hR,hrows⟩:=QL Tryz.underlying49 (ks:=opP.kp) (dp:=6) opP.Vp (by kernel_rfl) (abz (by kernel_rfl)) (okWide_slice Tryz.underlying49 (hval 0 49 v0 rfl rfl)) h0;rw[show opP.kp.map KN=rI by kernel_rfl]at hR;obtain⟨us,raws,x2,y2,c2,e1,hy2,hlen,hcell,aD,hcap,hbyte⟩:=T6 Tryz.underlying31 Tryz.underlying46 (dp:=1) (by kernel_rfl) (by kernel_rfl) (by kernel_rfl) (okWide_slice Tryz.underlying31 (hval 1 31 v1 rfl rfl)) h1;obtain⟨g,hG⟩:=ZZ hL;have hcall:Calls Tryz.prog 6 #[v0,v1] W fun e w'=>e=.returned (.bool true)/\Below W.heap.size W w' :=
  OR Oq rfl ⟨v0,v1,_,_,g,rows,us,raws,rfl,rfl,hR,fun row h a b=>by obtain⟨c,hc,_⟩:=opP.VK (hrows row h) a b;exact⟨c,hc⟩,⟨x2,y2,c2,e1,hy2,hlen,hcell,aD,hcap,hbyte⟩,⟨hG,XL hL,Xz hL⟩,XM hL⟩ (fun _ _ h=>h)
 refine hcall.mono fun e W' ⟨he,bel⟩=>?_;subst he;exact⟨_,rfl,_,_,_,[],_,[],hW',trodAll_mk1 (shut_bool Tryz.underlying4 _),(trodAll_cons_mk (Below.trod laidOut (by kernel_rfl) (abz (by kernel_rfl)) k0 bel (lt k0)) (trodAll_cons_mk (Below.trod laidOut (by kernel_rfl) (abz (by kernel_rfl)) k1 bel (lt k1)) trodAll_mk0)),rfl,bel.frame _,fun h=>by cases h⟩
theorem Lw:Rows.RelayOpensSaid :=
 OpenClaim.holds_of_wide 6 Tryz.f6 rfl rfl rfl rfl rfl rfl rfl ⟨rfl,rfl,rfl,rfl,rfl⟩ rfl rfl rfl rfl rfl (by kernel_rfl) Tryz.func6 (by kernel_rfl)
  (abz (by kernel_rfl)) (by unfold Func.isWrapper;rw[aal (of_decide_eq_false (by kernel_rfl))];exact⟨rfl,rfl⟩)
  (fun os started H enc _=>lifted os started H enc)
theorem proved:Rows.RelayOpensCardSaid :=
 Claim7.holds_tied_plain_at .later [] [.data,.handle,.data,.sentinel,.sentinel,.sentinel] true (true, "33caa361b3f2c05034e5de2c4e3505ba99b5e2a6ed0b2ef0c6551c80cd8a7c54") true
  Lw (fun _ h=>by cases h) (by kernel_rfl) (fun _ h=>by cases h) relayOpens_row_tie rfl ⟨rfl,rfl⟩ (by kernel_rfl) rfl
  (fun f fn hf hfn=>by
   obtain rfl:f=6:=aaZ ((show Tryz.prog.funcNamed "jalousie/jalousielaw21.RelayOpens"= some 6 by kernel_rfl).symm.trans hf) |>.symm
   obtain rfl:fn=Tryz.f6:=(aaZ (Tryz.func6.symm.trans hfn)).symm;exact⟨by kernel_rfl,fun j t ht=>by
    rw[Tryz.params6]at ht;have hm:t∈[49,31]:=by simpa using Array.mem_of_getElem? ht
    have hall:([49,31].all fun u=>!Tryz.prog.wantsStandIn u)=true:=by kernel_rfl
    exact(show Tryz.prog.wantsStandIn t=false by simpa using aaE.1 hall t hm)⟩)
  (by kernel_rfl)
end Go.Proofs.YtomdimlnggpgbaaGreatDoor.ropensP
