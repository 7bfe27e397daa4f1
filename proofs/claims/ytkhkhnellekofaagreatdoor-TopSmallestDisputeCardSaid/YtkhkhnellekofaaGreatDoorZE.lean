/- TopSmallestDispute: for all records the law returns true, and the input reads as it did; the listed variables lie as the program's text lays them. -/
import Derived.Test.YtkhkhnellekofaaGreatDoorDP
import Derived.Test.YtkhkhnellekofaaGreatDoorYE
import Derived.Test.YtkhkhnellekofaaGreatDoorCards
import Derived.Test.YtkhkhnellekofaaGreatDoorTie
import Derived.SevenTiedAt
set_option linter.unusedSimpArgs false
set_option linter.unusedVariables false
namespace Go.Proofs.YtkhkhnellekofaaGreatDoor
open Go.ChangeShapes Go.WideShapes Go.ChangeAt Go.RowKit
theorem laid5_of {W:World} (h:laidMetH Tryz.prog Rows.topSmallestDisputeRow.laid W):Laid5 W:=by
 rw[MakeChecks.laidMetH_plain _ _ _ (by kernel_rfl)]at h
 have h':laidMet Tryz.prog [("math/bits.deBruijn32tab",Rows.laid_math_bits_deBruijn32tab),("math/bits.deBruijn64tab",Rows.laid_math_bits_deBruijn64tab),("mortsafe/rule.lengths",Rows.laid_mortsafe_rule_lengths),("mortsafe/right.forms",Rows.laid_mortsafe_right_forms)] W:=h
 exact⟨forms_laid h'.tail.tail.tail,lens_laid h'.tail.tail,tz_laid h'.tail⟩
set_option maxRecDepth 100000 in
theorem topSmallestDispute_lifted (os:Os) (started:os.Started) (H:Type) (enc:TypeId×Value->H):
 ReturnsInHanded {} Tryz.checked os 3 .any (fun w args=>(Rows.topSmallestDisputeSpec.pre enc Tryz.prog Tryz.f3 Rows.topSmallestDisputeRow.domain false w args/\laidMetH Tryz.prog Rows.topSmallestDisputeRow.laid w)/\sizedMet enc Tryz.prog Tryz.f3 (OpenSpec.ofChange Rows.topSmallestDisputeSpec) false w args)
  (Rows.topSmallestDisputeSpec.post enc Tryz.prog Tryz.f3 false true false false):=by
 refine returns_laid (C:=Tryz.checked) (X:=fun w _=>laidMetH Tryz.prog Rows.topSmallestDisputeRow.laid w) (fun _ _ _ hh h=>h.of_heap hh) own_knob started (by kernel_rfl) Tryz.func3
  (ChangeSpec.witness_shaped (enc:=enc) (C:=Tryz.checked) (os:=os) (X:=fun w _=>laidMetH Tryz.prog Rows.topSmallestDisputeRow.laid w) false (World.laidAll Tryz.prog os Rows.topSmallestDisputeRow.laid) #[.slice none 0 0] 8 (World.laidAll_os _ _ _)
    (World.shaped_of_ZipB (by kernel_rfl) (by kernel_rfl)) (by kernel_rfl) (by kernel_rfl) (by kernel_rfl)
    (by rw[MakeChecks.laidMetH_plain _ _ _ (by kernel_rfl)];exact laidMet_laidAll _ (by kernel_rfl) (by kernel_rfl))) ?_
 intro W base args ds gs before hval0 hW hL0 _
 have hL:Laid5 W:=laid5_of hL0
 clear hL0
 have hval: ∀(j:Nat) t v,Tryz.f3.params[j]?=some t->args[j]?=some v->Value.okWide Tryz.prog W .any base t v:=hval0
 have hW':=hW
 obtain⟨p,q,hA0,hV,rfl,hfz,hnd⟩:=hW
 have hA:DataW.TrodAll enc Tryz.prog W 0 (fun _=>true) true Tryz.f3.params.toList args.toList ds p:=hA0
 rw[Tryz.params3]at hA hval
 obtain⟨v0,vs0,d0,ds0,p0,q0,hargs,rfl,rfl,h0,r0⟩:=trodAll_cons hA
 obtain⟨rfl,rfl,rfl⟩:=trodAll_nil r0
 obtain rfl:args= #[v0]:=by cases args;simp_all
 obtain⟨rfl,rfl⟩:=trodVars_none hV
 have k0:=h0
 have lt0: ∀x∈p0,x.block<W.heap.size:=by obtain⟨m,hm⟩:=k0;exact DataW.trod_lt m _ _ _ hm
 obtain⟨l,E0,c0,rfl,hS0,hc0,hX0⟩:=open_recsX (hval 0 22 v0 rfl rfl) h0
 clear hA0 hval0
 refine(topSmallestDispute_any l E0 c0 W hL hc0 hX0 hS0).mono fun e W' ⟨he,z,hz⟩=> ?_
 subst he
 have bel:Below W.heap.size W W':=by rw[hz];exact below_ext W z
 exact⟨_,rfl,_,_,_,[],_,[],hW',trodAll_mk1 (shut_bool Tryz.underlying4 _),(trodAll_cons_mk (Below.trod laid_out (by kernel_rfl) (of_decide_eq_true (by kernel_rfl)) k0 bel lt0) trodAll_mk0),rfl,bel.frame _,fun h=>by cases h⟩
theorem topSmallestDispute_row:Rows.TopSmallestDisputeSaid:=
 OpenClaim.holds_of_wide 3 Tryz.f3 rfl rfl rfl rfl rfl rfl rfl ⟨rfl,rfl,rfl,rfl,rfl⟩ rfl rfl rfl rfl rfl (by kernel_rfl) Tryz.func3 (by kernel_rfl)
  (of_decide_eq_true (by kernel_rfl)) (by unfold Func.isWrapper;first|(rw[if_pos (by decide+kernel)];kernel_rfl)|(rw[if_neg (by decide+kernel)];exact⟨rfl,rfl⟩))
  (fun os started H enc _=>topSmallestDispute_lifted os started H enc)
theorem topSmallestDispute_holds:Rows.TopSmallestDisputeCardSaid:=
 Claim7.holds_tied_plain_at .later [] [.data, .data, .data, .data] true Rows.topSmallestDisputeCard.stood.harness false topSmallestDispute_row (fun _ h=>by cases h) (by kernel_rfl) (fun _ h=>by cases h) topSmallestDispute_row_tie rfl ⟨rfl,rfl⟩ (by kernel_rfl) rfl
  (fun f fn hf hfn=>by
    obtain rfl:f=3:=Option.some.inj ((show Tryz.prog.funcNamed "mortsafe/mortsafetop.TopSmallestDispute" =some 3 by kernel_rfl).symm.trans hf) |>.symm
    obtain rfl:fn=Tryz.f3:=(Option.some.inj (Tryz.func3.symm.trans hfn)).symm
    exact⟨by kernel_rfl,fun j t ht=>by
     rw[Tryz.params3]at ht
     have hm:t∈[22]:=by simpa using Array.mem_of_getElem? ht
     have hall:([22].all fun u=>!Tryz.prog.wantsStandIn u)=true:=by kernel_rfl
     exact(show Tryz.prog.wantsStandIn t=false by simpa using List.all_eq_true.1 hall t hm)⟩)
  (by kernel_rfl)
#print axioms topSmallestDispute_holds
end Go.Proofs.YtkhkhnellekofaaGreatDoor
