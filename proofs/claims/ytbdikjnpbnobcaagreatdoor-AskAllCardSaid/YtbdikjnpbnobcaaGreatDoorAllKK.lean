/- Pull after pull, for all and with bodies, brings every piece laid in a door once, each whole and in its writer's order: a part of the proof. No condition. -/
import Derived.Test.YtbdikjnpbnobcaaGreatDoorTie
import Derived.SevenTiedAt
import Derived.Test.YtbdikjnpbnobcaaGreatDoorTM
set_option linter.all false
set_option maxHeartbeats 4000000
namespace Go.Proofs.YtbdikjnpbnobcaaGreatDoor.allP
open Go Go.Sx Go.ChangeShapes Go.WideShapes Go.ChangeAt Go.RowKit Go.Deep
abbrev PN:=@MZ
theorem own:ownKnob Tryz.prog.godebug=none:=by kernel_rfl
theorem laidOut:laidOutB Tryz.prog=true:=by kernel_rfl
set_option maxRecDepth 100000 in
theorem lifted (os:Os) (started:os.Started) (H:Type) (enc:TypeId×Value->H) :
 ReturnsInHanded {} Tryz.checked os 5 .any (fun w args=>(Rows.askAllSpec.pre enc Tryz.prog Tryz.f5 Rows.askAllRow.domain false w args/\laidMetH Tryz.prog oT w)/\sizedMet enc Tryz.prog Tryz.f5 (OpenSpec.ofChange Rows.askAllSpec) false w args) (Rows.askAllSpec.post enc Tryz.prog Tryz.f5 false true false false):=by
 refine returnsInHanded_of_change_and (C:=Tryz.checked) (X:=fun w _=>laidMetH Tryz.prog oT w) (fun _ _ _ hh h=>h.of_heap hh) own started (by kernel_rfl) Tryz.func5
  (ChangeSpec.witness_shaped (enc:=enc) (C:=Tryz.checked) (os:=os) (X:=fun w _=>laidMetH Tryz.prog oT w) false (E8 os) #[.slice none 0 0,.int .u8 0] 8 (OA os) (World.shaped_of_ZipB (by kernel_rfl) (by kernel_rfl)) (by kernel_rfl) (by kernel_rfl) (by kernel_rfl) (PN os _)) ?_
 intro W base args ds gs before hval0 hW hcnd _ hL _;have hval:∀ (j:Nat) t v,Tryz.f5.params[j]?=some t->args[j]?=some v->Value.okWide Tryz.prog W .any base t v:=hval0;have hW':=hW;obtain⟨p,q,hA0,hV,rfl,hfz,hnd⟩:=hW;have hA:DataW.TrodAll enc Tryz.prog W 0 (fun _=>true) true Tryz.f5.params.toList args.toList ds p:=hA0;rw[Tryz.params5]at hA hval;obtain⟨v0,vs0,d0,ds0,p0,q0,hargs,rfl,rfl,h0,r0⟩:=trodAll_cons hA;obtain⟨v1,vs1,d1,ds1,p1,q1,rfl,rfl,rfl,h1,r1⟩:=trodAll_cons r0;obtain⟨rfl,rfl,rfl⟩:=trodAll_nil r1;obtain rfl:args=#[v0,v1]:=by cases args;simp_all
 obtain⟨rfl,rfl⟩:=trodVars_none hV;have lt:∀ {t v d} {ps:List MemPlace},DataW.Trod enc Tryz.prog W 0 (fun _=>true) true t v d ps->∀ x∈ps,x.block<W.heap.size:=fun hk=>by obtain⟨m,hm⟩:=hk;exact DataW.trod_lt m _ _ _ hm
 have k0:=h0;have k1:=h1;clear hA0 hval0;obtain⟨mm,rfl⟩:∃ x,v1=.int .u8 x:=okWide_int Tryz.underlying5 (hval 1 5 v1 rfl rfl);have hm:=ab4 Tryz.underlying5 h1;obtain⟨rows,hR,hrows⟩:=UN Tryz.underlying51 (ks:=opP.kp) (dp:=6) opP.aaV (by kernel_rfl) (aej (by kernel_rfl)) (okWide_slice Tryz.underlying51 (hval 0 51 v0 rfl rfl)) h0;rw[show opP.kp.map Np=oj by kernel_rfl]at hR;obtain⟨g,hG⟩:=gl7 hL;have hcall:Calls Tryz.prog 5 #[v0,.int .u8 mm] W fun e w'=>e=.returned (.bool true)/\Below W.heap.size W w' :=
  Sv Wj rfl ⟨v0,mm,_,_,g,rows,rfl,rfl,hR,fun row h a b=>by obtain⟨c,hc,_⟩:=opP.abo (hrows row h) a b;exact⟨c,hc⟩,hm,⟨hG,aaT hL,adA hL⟩,aaU hL⟩ (fun _ _ h=>h)
 refine hcall.mono fun e W' ⟨he,bel⟩=>?_;subst he;exact⟨_,rfl,_,_,_,[],_,[],hW',trodAll_mk1 (shut_bool Tryz.underlying4 _),(trodAll_cons_mk (Below.trod laidOut (by kernel_rfl) (aej (by kernel_rfl)) k0 bel (lt k0)) (trodAll_cons_mk (Below.trod laidOut (by kernel_rfl) (aej (by kernel_rfl)) k1 bel (lt k1)) trodAll_mk0)),rfl,bel.frame _,fun h=>by cases h⟩
theorem Oc:Rows.AskAllSaid :=
 OpenClaim.holds_of_wide 5 Tryz.f5 rfl rfl rfl rfl rfl rfl rfl ⟨rfl,rfl,rfl,rfl,rfl⟩ rfl rfl rfl rfl rfl (by kernel_rfl) Tryz.func5 (by kernel_rfl)
  (aej (by kernel_rfl)) (by unfold Func.isWrapper;rw[aa8 (of_decide_eq_false (by kernel_rfl))];exact⟨rfl,rfl⟩)
  (fun os started H enc _=>lifted os started H enc)
theorem proved:Rows.AskAllCardSaid :=
 Claim7.holds_tied_plain_at .later [] [.data,.data,.handle,.data,.sentinel,.sentinel,.sentinel,.pinned] true (true, "57bb4c635ee0b689e6edc1681576926702ad2f040583621acfb44a24bd3ec1ab") true
  Oc (fun _ h=>by cases h) (by kernel_rfl) (fun _ h=>by cases h) askAll_row_tie rfl ⟨rfl,rfl⟩ (by kernel_rfl) rfl
  (fun f fn hf hfn=>by
   obtain rfl:f=5:=acE ((show Tryz.prog.funcNamed "jalousie/jalousielaw22.AskAll"= some 5 by kernel_rfl).symm.trans hf) |>.symm
   obtain rfl:fn=Tryz.f5:=(acE (Tryz.func5.symm.trans hfn)).symm;exact⟨by kernel_rfl,fun j t ht=>by
    rw[Tryz.params5]at ht;have hm:t∈[51,5]:=by simpa using Array.mem_of_getElem? ht
    have hall:([51,5].all fun u=>!Tryz.prog.wantsStandIn u)=true:=by kernel_rfl
    exact(show Tryz.prog.wantsStandIn t=false by simpa using acd.1 hall t hm)⟩)
  (by kernel_rfl)
end Go.Proofs.YtbdikjnpbnobcaaGreatDoor.allP
