/- Bytes that are no request are told nothing and change nothing: a part of the proof. No condition. -/
import Derived.Test.YtbdikjnpbnobcaaGreatDoorTie
import Derived.Test.YtbdikjnpbnobcaaGreatDoorCards
import Derived.SevenTiedAt
import Derived.Test.YtbdikjnpbnobcaaGreatDoorTM
set_option linter.all false
set_option maxHeartbeats 4000000
namespace Go.Proofs.YtbdikjnpbnobcaaGreatDoor.nothingP
open Go Go.Sx Go.ChangeShapes Go.WideShapes Go.ChangeAt Go.RowKit Go.Deep
abbrev zm:=@xl
theorem own:ownKnob Tryz.prog.godebug=none:=by kernel_rfl
theorem laidOut:laidOutB Tryz.prog=true:=by kernel_rfl
set_option maxRecDepth 100000 in
theorem lifted (os:Os) (started:os.Started) (H:Type) (enc:TypeId×Value->H) :
 ReturnsInHanded {} Tryz.checked os 3 .any (fun w args=>(Rows.askNothingSpec.pre enc Tryz.prog Tryz.f3 Rows.askNothingRow.domain false w args/\laidMetH Tryz.prog ic w)/\sizedMet enc Tryz.prog Tryz.f3 (OpenSpec.ofChange Rows.askNothingSpec) false w args) (Rows.askNothingSpec.post enc Tryz.prog Tryz.f3 false true false false):=by
 refine returnsInHanded_of_change_and (C:=Tryz.checked) (X:=fun w _=>laidMetH Tryz.prog ic w) (fun _ _ _ hh h=>h.of_heap hh) own started (by kernel_rfl) Tryz.func3
  (ChangeSpec.witness_shaped (enc:=enc) (C:=Tryz.checked) (os:=os) (X:=fun w _=>laidMetH Tryz.prog ic w) false (qJ os) #[.slice none 0 0] 8 (yp os) (World.shaped_of_ZipB (by kernel_rfl) (by kernel_rfl)) (by kernel_rfl) (by kernel_rfl) (by kernel_rfl) (zm os _)) ?_
 intro W base args ds gs before hval0 hW hcnd _ hL _;have hval:∀ (j:Nat) t v,Tryz.f3.params[j]?=some t->args[j]?=some v->Value.okWide Tryz.prog W .any base t v:=hval0;have hW':=hW;obtain⟨p,q,hA0,hV,rfl,hfz,hnd⟩:=hW;have hA:DataW.TrodAll enc Tryz.prog W 0 (fun _=>true) true Tryz.f3.params.toList args.toList ds p:=hA0;rw[Tryz.params3]at hA hval;obtain⟨v0,vs0,d0,ds0,p0,q0,hargs,rfl,rfl,h0,r0⟩:=trodAll_cons hA;obtain⟨rfl,rfl,rfl⟩:=trodAll_nil r0;obtain rfl:args=#[v0]:=by cases args;simp_all
 obtain⟨rfl,rfl⟩:=trodVars_none hV;have lt:∀ {t v d} {ps:List MemPlace},DataW.Trod enc Tryz.prog W 0 (fun _=>true) true t v d ps->∀ x∈ps,x.block<W.heap.size:=fun hk=>by obtain⟨m,hm⟩:=hk;exact DataW.trod_lt m _ _ _ hm
 have k0:=h0;clear hA0 hval0;obtain⟨bs,hB,hb⟩:=yY Tryz.underlying22 (dp:=1) (by kernel_rfl) (by kernel_rfl) (okWide_slice Tryz.underlying22 (hval 0 22 v0 rfl rfl)) h0;obtain⟨g,hG⟩:=Mg hL;have hcall:Calls Tryz.prog 3 #[v0] W fun e w'=>e=.returned (.bool true)/\Below W.heap.size W w' :=
  Bh Eb rfl ⟨v0,bs,_,_,g,rfl,rfl,hB,hb,⟨hG,H8 hL,Kk hL⟩⟩ (fun _ _ h=>h)
 refine hcall.mono fun e W' ⟨he,bel⟩=>?_;subst he;exact⟨_,rfl,_,_,_,[],_,[],hW',trodAll_mk1 (shut_bool Tryz.underlying4 _),(trodAll_cons_mk (Below.trod laidOut (by kernel_rfl) (Ol (by kernel_rfl)) k0 bel (lt k0)) trodAll_mk0),rfl,bel.frame _,fun h=>by cases h⟩
theorem yg:Rows.AskNothingSaid :=
 OpenClaim.holds_of_wide 3 Tryz.f3 rfl rfl rfl rfl rfl rfl rfl ⟨rfl,rfl,rfl,rfl,rfl⟩ rfl rfl rfl rfl rfl (by kernel_rfl) Tryz.func3 (by kernel_rfl)
  (Ol (by kernel_rfl)) (by unfold Func.isWrapper;rw[MM (of_decide_eq_false (by kernel_rfl))];exact⟨rfl,rfl⟩)
  (fun os started H enc _=>lifted os started H enc)
theorem proved:Rows.AskNothingCardSaid :=
 Claim7.holds_tied_plain_at .later [] [.data,.handle,.data,.sentinel,.sentinel,.sentinel,.pinned] true (true, "57bb4c635ee0b689e6edc1681576926702ad2f040583621acfb44a24bd3ec1ab") true
  yg (fun _ h=>by cases h) (by kernel_rfl) (fun _ h=>by cases h) askNothing_row_tie rfl ⟨rfl,rfl⟩ (by kernel_rfl) rfl
  (fun f fn hf hfn=>by
   obtain rfl:f=3:=Nx ((show Tryz.prog.funcNamed "jalousie/jalousielaw22.AskNothing"= some 3 by kernel_rfl).symm.trans hf) |>.symm
   obtain rfl:fn=Tryz.f3:=(Nx (Tryz.func3.symm.trans hfn)).symm;exact⟨by kernel_rfl,fun j t ht=>by
    rw[Tryz.params3]at ht;have hm:t∈[22]:=by simpa using Array.mem_of_getElem? ht
    have hall:([22].all fun u=>!Tryz.prog.wantsStandIn u)=true:=by kernel_rfl
    exact(show Tryz.prog.wantsStandIn t=false by simpa using M8.1 hall t hm)⟩)
  (by kernel_rfl)
end Go.Proofs.YtbdikjnpbnobcaaGreatDoor.nothingP
