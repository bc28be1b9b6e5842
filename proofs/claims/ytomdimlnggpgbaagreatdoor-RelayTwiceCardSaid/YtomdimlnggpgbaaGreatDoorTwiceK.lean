/- RelayTwice. -/
import Derived.Test.YtomdimlnggpgbaaGreatDoorTie
import Derived.SevenTiedAt
import Derived.Test.YtomdimlnggpgbaaGreatDoorTL
set_option linter.all false
set_option maxHeartbeats 4000000
namespace Go.Proofs.YtomdimlnggpgbaaGreatDoor.twiceP
open Go Go.Sx Go.ChangeShapes Go.WideShapes Go.ChangeAt Go.RowKit Go.Deep
abbrev K0:=@IP
theorem own:ownKnob Tryz.prog.godebug=none:=by kernel_rfl
theorem laidOut:laidOutB Tryz.prog=true:=by kernel_rfl
set_option maxRecDepth 100000 in
theorem lifted (os:Os) (started:os.Started) (H:Type) (enc:TypeId×Value->H) :
 ReturnsInHanded {} Tryz.checked os 5 .any (fun w args=>(Rows.relayTwiceSpec.pre enc Tryz.prog Tryz.f5 Rows.relayTwiceRow.domain false w args/\laidMetH Tryz.prog nq w)/\sizedMet enc Tryz.prog Tryz.f5 (OpenSpec.ofChange Rows.relayTwiceSpec) false w args) (Rows.relayTwiceSpec.post enc Tryz.prog Tryz.f5 false true false false):=by
 refine returnsInHanded_of_change_and (C:=Tryz.checked) (X:=fun w _=>laidMetH Tryz.prog nq w) (fun _ _ _ hh h=>h.of_heap hh) own started (by kernel_rfl) Tryz.func5
  (ChangeSpec.witness_shaped (enc:=enc) (C:=Tryz.checked) (os:=os) (X:=fun w _=>laidMetH Tryz.prog nq w) false (World.doorLaid Tryz.prog 400 os) #[.slice none 0 0] 8 rfl (World.shaped_of_RefB (by kernel_rfl) (by kernel_rfl)) (by kernel_rfl) (by kernel_rfl) (by kernel_rfl) (K0 os _)) ?_
 intro W base args ds gs before hval0 hW hcnd _ hL _;have hval:∀ (j:Nat) t v,Tryz.f5.params[j]?=some t->args[j]?=some v->Value.okWide Tryz.prog W .any base t v:=hval0;have hW':=hW;obtain⟨p,q,hA0,hV,rfl,hfz,hnd⟩:=hW;have hA:DataW.TrodAll enc Tryz.prog W 0 (fun _=>true) true Tryz.f5.params.toList args.toList ds p:=hA0;rw[Tryz.params5]at hA hval;obtain⟨v0,vs0,d0,ds0,p0,q0,hargs,rfl,rfl,h0,r0⟩:=trodAll_cons hA;obtain⟨rfl,rfl,rfl⟩:=trodAll_nil r0;obtain rfl:args=#[v0]:=by cases args;simp_all
 obtain⟨rfl,rfl⟩:=trodVars_none hV;have lt:∀ {t v d} {ps:List MemPlace},DataW.Trod enc Tryz.prog W 0 (fun _=>true) true t v d ps->∀ x∈ps,x.block<W.heap.size:=fun hk=>by obtain⟨m,hm⟩:=hk;exact DataW.trod_lt m _ _ _ hm
 have k0:=h0;clear hA0 hval0;obtain⟨rows,hR,hrows⟩:=OI Tryz.underlying49 (ks:=opP.kp) (dp:=6) opP.Td (by kernel_rfl) (aaB (by kernel_rfl)) (okWide_slice Tryz.underlying49 (hval 0 49 v0 rfl rfl)) h0;rw[show opP.kp.map I4=qo by kernel_rfl]at hR;obtain⟨g,hG⟩:=YK hL;have hcall:Calls Tryz.prog 5 #[v0] W fun e w'=>e=.returned (.bool true)/\Below W.heap.size W w' :=
  MZ J1 rfl ⟨v0,_,_,g,rows,rfl,rfl,hR,fun row h a b=>by obtain⟨c,hc,_⟩:=opP.Tw (hrows row h) a b;exact⟨c,hc⟩,⟨hG,Vu hL,U3 hL⟩,Vv hL⟩ (fun _ _ h=>h)
 refine hcall.mono fun e W' ⟨he,bel⟩=>?_;subst he;exact⟨_,rfl,_,_,_,[],_,[],hW',trodAll_mk1 (shut_bool Tryz.underlying4 _),(trodAll_cons_mk (Below.trod laidOut (by kernel_rfl) (aaB (by kernel_rfl)) k0 bel (lt k0)) trodAll_mk0),rfl,bel.frame _,fun h=>by cases h⟩
theorem JH:Rows.RelayTwiceSaid :=
 OpenClaim.holds_of_wide 5 Tryz.f5 rfl rfl rfl rfl rfl rfl rfl ⟨rfl,rfl,rfl,rfl,rfl⟩ rfl rfl rfl rfl rfl (by kernel_rfl) Tryz.func5 (by kernel_rfl)
  (aaB (by kernel_rfl)) (by unfold Func.isWrapper;rw[Zo (of_decide_eq_false (by kernel_rfl))];exact⟨rfl,rfl⟩)
  (fun os started H enc _=>lifted os started H enc)
theorem proved:Rows.RelayTwiceCardSaid :=
 Claim7.holds_tied_plain_at .later [] [.data,.handle,.data,.sentinel,.sentinel,.sentinel] true (true, "33caa361b3f2c05034e5de2c4e3505ba99b5e2a6ed0b2ef0c6551c80cd8a7c54") true
  JH (fun _ h=>by cases h) (by kernel_rfl) (fun _ h=>by cases h) relayTwice_row_tie rfl ⟨rfl,rfl⟩ (by kernel_rfl) rfl
  (fun f fn hf hfn=>by
   obtain rfl:f=5:=Z1 ((show Tryz.prog.funcNamed "jalousie/jalousielaw21.RelayTwice"= some 5 by kernel_rfl).symm.trans hf) |>.symm
   obtain rfl:fn=Tryz.f5:=(Z1 (Tryz.func5.symm.trans hfn)).symm;exact⟨by kernel_rfl,fun j t ht=>by
    rw[Tryz.params5]at ht;have hm:t∈[49]:=by simpa using Array.mem_of_getElem? ht
    have hall:([49].all fun u=>!Tryz.prog.wantsStandIn u)=true:=by kernel_rfl
    exact(show Tryz.prog.wantsStandIn t=false by simpa using ZF.1 hall t hm)⟩)
  (by kernel_rfl)
end Go.Proofs.YtomdimlnggpgbaaGreatDoor.twiceP
