/- StoreCrashes: of any calls and any fate the law returns true; the card. No condition. -/
import Derived.Test.YtomdimlnggpgbaaGreatDoorTie
import Derived.Test.YtomdimlnggpgbaaGreatDoorCards
import Derived.ProofKit
import Derived.OpenShut
import Derived.Deep.Slices
import Derived.ChangeSame
import Derived.SevenTiedAt
import Derived.Test.YtomdimlnggpgbaaGreatDoorCg
set_option linter.unusedSimpArgs false
set_option linter.unusedVariables false
set_option linter.constructorNameAsVariable false
namespace Go.Proofs.YtomdimlnggpgbaaGreatDoor.crashesP
open Go Go.Sx Go.ChangeShapes Go.WideShapes Go.ChangeAt Go.RowKit Go.Deep
open Go.Proofs.YtomdimlnggpgbaaGreatDoor.playsP (k9 DW)
theorem own:ownKnob Tryz.prog.godebug=none:=by kernel_rfl
theorem laidOut:laidOutB Tryz.prog=true:=by kernel_rfl
set_option maxRecDepth 100000 in
theorem lifted (os:Os) (started:os.Started) (H:Type) (enc:TypeId×Value→H) :
 ReturnsInHanded {} Tryz.checked os 4 .any (fun w args=>(Rows.storeCrashesSpec.pre enc Tryz.prog Tryz.f4 Rows.storeCrashesRow.domain false w args∧laidMetH Tryz.prog wD w)∧sizedMet enc Tryz.prog Tryz.f4 (OpenSpec.ofChange Rows.storeCrashesSpec) false w args) (Rows.storeCrashesSpec.post enc Tryz.prog Tryz.f4 false true false false):=by
 refine returnsInHanded_of_change_and (C:=Tryz.checked) (X:=fun w _=>laidMetH Tryz.prog wD w) (fun _ _ _ hh h=>h.of_heap hh) own started (by kernel_rfl) Tryz.func4
  (ChangeSpec.witness_shaped (enc:=enc) (C:=Tryz.checked) (os:=os) (X:=fun w _=>laidMetH Tryz.prog wD w) false (World.doorLaid Tryz.prog 400 os) #[.slice none 0 0,.slice none 0 0] 8 rfl (World.shaped_of_RefB (by kernel_rfl) (by kernel_rfl)) (by kernel_rfl) (by kernel_rfl) (by kernel_rfl) (CQ os _)) ?_
 intro W base args ds gs before hval0 hW hcnd _ hL _
 have hval:∀ (j:Nat) t v,Tryz.f4.params[j]?=some t→args[j]?=some v→Value.okWide Tryz.prog W .any base t v:=hval0
 have hW':=hW
 obtain⟨p,q,hA0,hV,rfl,hfz,hnd⟩:=hW
 have hA:DataW.TrodAll enc Tryz.prog W 0 (fun _=>true) true Tryz.f4.params.toList args.toList ds p:=hA0
 rw[Tryz.params4]at hA hval
 obtain⟨v0,vs0,d0,ds0,p0,q0,hargs,rfl,rfl,h0,r0⟩:=trodAll_cons hA
 obtain⟨v1,vs1,d1,ds1,p1,q1,rfl,rfl,rfl,h1,r1⟩:=trodAll_cons r0
 obtain⟨rfl,rfl,rfl⟩:=trodAll_nil r1
 obtain rfl:args=#[v0,v1]:=by cases args;simp_all
 obtain⟨rfl,rfl⟩:=trodVars_none hV
 have lt:∀ {t v d} {ps:List MemPlace},DataW.Trod enc Tryz.prog W 0 (fun _=>true) true t v d ps→∀ x∈ps,x.block<W.heap.size:=fun hk=>by obtain⟨m,hm⟩:=hk;exact DataW.trod_lt m _ _ _ hm
 have k0:=h0
 have k1:=h1
 clear hA0 hval0
 obtain⟨rows,hR,hrows⟩:=E9 Tryz.underlying22 (ks:=k9) (dp:=3) (by kernel_rfl) (by kernel_rfl) (by decide) (okWide_slice Tryz.underlying22 (hval 0 22 v0 rfl rfl)) h0
 obtain⟨ops,rfl,ho1,ho2⟩:=DW hrows
 obtain⟨F,rdF,rdb⟩:=vU Tryz.underlying46 (dp:=1) (by kernel_rfl) (by kernel_rfl) (okWide_slice Tryz.underlying46 (hval 1 46 v1 rfl rfl)) h1
 obtain⟨g,hG⟩:=yE hL
 have hcall:Calls Tryz.prog 4 #[v0,v1] W fun e w'=>e=.returned (.bool true)∧Below W.heap.size W w' :=
  D9 yl rfl ⟨v0,v1,_,_,_,g,ops,F,rfl,rfl,⟨hR,ho1⟩,ho2,rdF,rdb,hG⟩ (fun _ _ h=>h)
 refine hcall.mono fun e W' ⟨he,bel⟩=>?_
 subst he
 exact⟨_,rfl,_,_,_,[],_,[],hW',trodAll_mk1 (shut_bool Tryz.underlying4 _),(trodAll_cons_mk (Below.trod laidOut (by kernel_rfl) (of_decide_eq_true (by kernel_rfl)) k0 bel (lt k0)) (trodAll_cons_mk (Below.trod laidOut (by kernel_rfl) (of_decide_eq_true (by kernel_rfl)) k1 bel (lt k1)) trodAll_mk0)),rfl,bel.frame _,fun h=>by cases h⟩
theorem BN:Rows.StoreCrashesSaid :=
 OpenClaim.holds_of_wide 4 Tryz.f4 rfl rfl rfl rfl rfl rfl rfl ⟨rfl,rfl,rfl,rfl,rfl⟩ rfl rfl rfl rfl rfl (by kernel_rfl) Tryz.func4 (by kernel_rfl)
  (of_decide_eq_true (by kernel_rfl)) (by unfold Func.isWrapper;rw[if_neg (of_decide_eq_false (by kernel_rfl))];exact⟨rfl,rfl⟩)
  (fun os started H enc _=>lifted os started H enc)
theorem proved:Rows.StoreCrashesCardSaid :=
 Claim7.holds_tied_plain_at .later [] [.sentinel,.sentinel,.sentinel] true (true, "33caa361b3f2c05034e5de2c4e3505ba99b5e2a6ed0b2ef0c6551c80cd8a7c54") true
  BN (fun _ h=>by cases h) (by kernel_rfl) (fun _ h=>by cases h) storeCrashes_row_tie rfl ⟨rfl,rfl⟩ (by kernel_rfl) rfl
  (fun f fn hf hfn=>by
   obtain rfl:f=4:=Option.some.inj ((show Tryz.prog.funcNamed "jalousie/jalousielaw09.StoreCrashes"= some 4 by kernel_rfl).symm.trans hf) |>.symm
   obtain rfl:fn=Tryz.f4:=(Option.some.inj (Tryz.func4.symm.trans hfn)).symm
   exact⟨by kernel_rfl,fun j t ht=>by
    rw[Tryz.params4]at ht
    have hm:t∈[22,46]:=by simpa using Array.mem_of_getElem? ht
    have hall:([22,46].all fun u=>!Tryz.prog.wantsStandIn u)=true:=by kernel_rfl
    exact(show Tryz.prog.wantsStandIn t=false by simpa using List.all_eq_true.1 hall t hm)⟩)
  (by kernel_rfl)
end Go.Proofs.YtomdimlnggpgbaaGreatDoor.crashesP
