/- RelayCrashes. -/
import Derived.Test.YtomdimlnggpgbaaGreatDoorTie
import Derived.SevenTiedAt
import Derived.Test.YtomdimlnggpgbaaGreatDoorTO
set_option linter.all false
set_option maxHeartbeats 4000000
namespace Go.Proofs.YtomdimlnggpgbaaGreatDoor.rcrashP
open Go Go.Sx Go.ChangeShapes Go.WideShapes Go.ChangeAt Go.RowKit Go.Deep
abbrev NS:=@Lu
theorem own:ownKnob Tryz.prog.godebug=none:=by kernel_rfl
theorem laidOut:laidOutB Tryz.prog=true:=by kernel_rfl
set_option maxRecDepth 100000 in
theorem lifted (os:Os) (started:os.Started) (H:Type) (enc:TypeId×Value->H) :
 ReturnsInHanded {} Tryz.checked os 9 .any (fun w args=>(Rows.relayCrashesSpec.pre enc Tryz.prog Tryz.f9 Rows.relayCrashesRow.domain false w args/\laidMetH Tryz.prog pJ w)/\sizedMet enc Tryz.prog Tryz.f9 (OpenSpec.ofChange Rows.relayCrashesSpec) false w args) (Rows.relayCrashesSpec.post enc Tryz.prog Tryz.f9 false true false false):=by
 refine returnsInHanded_of_change_and (C:=Tryz.checked) (X:=fun w _=>laidMetH Tryz.prog pJ w) (fun _ _ _ hh h=>h.of_heap hh) own started (by kernel_rfl) Tryz.func9
  (ChangeSpec.witness_shaped (enc:=enc) (C:=Tryz.checked) (os:=os) (X:=fun w _=>laidMetH Tryz.prog pJ w) false (World.doorLaid Tryz.prog 400 os) #[.slice none 0 0,.slice none 0 0,.slice none 0 0] 8 rfl (World.shaped_of_RefB (by kernel_rfl) (by kernel_rfl)) (by kernel_rfl) (by kernel_rfl) (by kernel_rfl) (NS os _)) ?_
 intro W base args ds gs before hval0 hW hcnd _ hL _;have hval:∀ (j:Nat) t v,Tryz.f9.params[j]?=some t->args[j]?=some v->Value.okWide Tryz.prog W .any base t v:=hval0;have hW':=hW;obtain⟨p,q,hA0,hV,rfl,hfz,hnd⟩:=hW;have hA:DataW.TrodAll enc Tryz.prog W 0 (fun _=>true) true Tryz.f9.params.toList args.toList ds p:=hA0;rw[Tryz.params9]at hA hval;obtain⟨v0,vs0,d0,ds0,p0,q0,hargs,rfl,rfl,h0,r0⟩:=trodAll_cons hA;obtain⟨v1,vs1,d1,ds1,p1,q1,rfl,rfl,rfl,h1,r1⟩:=trodAll_cons r0;obtain⟨v2,vs2,d2,ds2,p2,q2,rfl,rfl,rfl,h2,r2⟩:=trodAll_cons r1;obtain⟨rfl,rfl,rfl⟩:=trodAll_nil r2;obtain rfl:args=#[v0,v1,v2]:=by cases args;simp_all
 obtain⟨rfl,rfl⟩:=trodVars_none hV;have lt:∀ {t v d} {ps:List MemPlace},DataW.Trod enc Tryz.prog W 0 (fun _=>true) true t v d ps->∀ x∈ps,x.block<W.heap.size:=fun hk=>by obtain⟨m,hm⟩:=hk;exact DataW.trod_lt m _ _ _ hm
 have k0:=h0;have k1:=h1;have k2:=h2;clear hA0 hval0;obtain⟨rows,hR,hrows⟩:=Sb Tryz.underlying49 (ks:=opP.kp) (dp:=6) opP.WU (by kernel_rfl) (abK (by kernel_rfl)) (okWide_slice Tryz.underlying49 (hval 0 49 v0 rfl rfl)) h0;rw[show opP.kp.map LQ=rE by kernel_rfl]at hR;obtain⟨bs,hB,hb⟩:=yG Tryz.underlying46 (dp:=1) (by kernel_rfl) (by kernel_rfl) (okWide_slice Tryz.underlying46 (hval 1 46 v1 rfl rfl)) h1;obtain⟨fs,hF,hf⟩:=yG Tryz.underlying46 (dp:=1) (by kernel_rfl) (by kernel_rfl) (okWide_slice Tryz.underlying46 (hval 2 46 v2 rfl rfl)) h2;obtain⟨g,hG⟩:=gl6 hL;have hcall:Calls Tryz.prog 9 #[v0,v1,v2] W fun e w'=>e=.returned (.bool true)/\Below W.heap.size W w' :=
  Qh Px rfl ⟨v0,v1,v2,_,_,g,rows,bs,fs,rfl,rfl,hR,fun row h a b=>by obtain⟨c,hc,_⟩:=opP.Xf (hrows row h) a b;exact⟨c,hc⟩,⟨hB,hb⟩,⟨hF,hf⟩,⟨hG,Zk hL,Y4 hL⟩,Zl hL⟩ (fun _ _ h=>h)
 refine hcall.mono fun e W' ⟨he,bel⟩=>?_;subst he;exact⟨_,rfl,_,_,_,[],_,[],hW',trodAll_mk1 (shut_bool Tryz.underlying4 _),(trodAll_cons_mk (Below.trod laidOut (by kernel_rfl) (abK (by kernel_rfl)) k0 bel (lt k0)) (trodAll_cons_mk (Below.trod laidOut (by kernel_rfl) (abK (by kernel_rfl)) k1 bel (lt k1)) (trodAll_cons_mk (Below.trod laidOut (by kernel_rfl) (abK (by kernel_rfl)) k2 bel (lt k2)) trodAll_mk0))),rfl,bel.frame _,fun h=>by cases h⟩
theorem MC:Rows.RelayCrashesSaid :=
 OpenClaim.holds_of_wide 9 Tryz.f9 rfl rfl rfl rfl rfl rfl rfl ⟨rfl,rfl,rfl,rfl,rfl⟩ rfl rfl rfl rfl rfl (by kernel_rfl) Tryz.func9 (by kernel_rfl)
  (abK (by kernel_rfl)) (by unfold Func.isWrapper;rw[aaG (of_decide_eq_false (by kernel_rfl))];exact⟨rfl,rfl⟩)
  (fun os started H enc _=>lifted os started H enc)
theorem proved:Rows.RelayCrashesCardSaid :=
 Claim7.holds_tied_plain_at .later [] [.data,.handle,.data,.sentinel,.sentinel,.sentinel] true (true, "33caa361b3f2c05034e5de2c4e3505ba99b5e2a6ed0b2ef0c6551c80cd8a7c54") true
  MC (fun _ h=>by cases h) (by kernel_rfl) (fun _ h=>by cases h) relayCrashes_row_tie rfl ⟨rfl,rfl⟩ (by kernel_rfl) rfl
  (fun f fn hf hfn=>by
   obtain rfl:f=9:=abp ((show Tryz.prog.funcNamed "jalousie/jalousielaw21.RelayCrashes"= some 9 by kernel_rfl).symm.trans hf) |>.symm
   obtain rfl:fn=Tryz.f9:=(abp (Tryz.func9.symm.trans hfn)).symm;exact⟨by kernel_rfl,fun j t ht=>by
    rw[Tryz.params9]at ht;have hm:t∈[49,46,46]:=by simpa using Array.mem_of_getElem? ht
    have hall:([49,46,46].all fun u=>!Tryz.prog.wantsStandIn u)=true:=by kernel_rfl
    exact(show Tryz.prog.wantsStandIn t=false by simpa using aa3.1 hall t hm)⟩)
  (by kernel_rfl)
end Go.Proofs.YtomdimlnggpgbaaGreatDoor.rcrashP
