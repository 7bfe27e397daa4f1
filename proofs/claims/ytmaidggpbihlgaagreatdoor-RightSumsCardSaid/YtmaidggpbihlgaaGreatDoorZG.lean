/- RightSums: for all rights, every place and every day the law returns true, and the input reads as it did; the listed variables lie as the program's text lays them. -/
import Derived.Test.YtmaidggpbihlgaaGreatDoorDQ
import Derived.Test.YtmaidggpbihlgaaGreatDoorYG
import Derived.Test.YtmaidggpbihlgaaGreatDoorCards
import Derived.Test.YtmaidggpbihlgaaGreatDoorTie
import Derived.SevenTiedAt
set_option linter.unusedSimpArgs false
set_option linter.unusedVariables false
namespace Go.Proofs.YtmaidggpbihlgaaGreatDoor
open Go.ChangeShapes Go.WideShapes Go.ChangeAt Go.RowKit
theorem laid5_of {W:World} (h:laidMetH Tryz.prog Rows.rightSumsRow.laid W):Laid5 W:=by
 rw[MakeChecks.laidMetH_plain _ _ _ (by kernel_rfl)]at h
 have h':laidMet Tryz.prog [("math/bits.deBruijn32tab",Rows.laid_math_bits_deBruijn32tab),("math/bits.deBruijn64tab",Rows.laid_math_bits_deBruijn64tab),("mortsafe/rule.lengths",Rows.laid_mortsafe_rule_lengths),("mortsafe/right.forms",Rows.laid_mortsafe_right_forms)] W:=h
 exact⟨forms_laid h'.tail.tail.tail,lens_laid h'.tail.tail,tz_laid h'.tail⟩
set_option maxRecDepth 100000 in
theorem rightSums_lifted (os:Os) (started:os.Started) (H:Type) (enc:TypeId×Value->H):
 ReturnsInHanded {} Tryz.checked os 4 .any (fun w args=>(Rows.rightSumsSpec.pre enc Tryz.prog Tryz.f4 Rows.rightSumsRow.domain false w args/\laidMetH Tryz.prog Rows.rightSumsRow.laid w)/\sizedMet enc Tryz.prog Tryz.f4 (OpenSpec.ofChange Rows.rightSumsSpec) false w args)
  (Rows.rightSumsSpec.post enc Tryz.prog Tryz.f4 false true false false):=by
 refine returns_laid (C:=Tryz.checked) (X:=fun w _=>laidMetH Tryz.prog Rows.rightSumsRow.laid w) (fun _ _ _ hh h=>h.of_heap hh) own_knob started (by kernel_rfl) Tryz.func4
  (ChangeSpec.witness_shaped (enc:=enc) (C:=Tryz.checked) (os:=os) (X:=fun w _=>laidMetH Tryz.prog Rows.rightSumsRow.laid w) false (World.laidAll Tryz.prog os Rows.rightSumsRow.laid) #[.agg #[.slice none 0 0, .slice none 0 0], .agg #[.string ⟨#[]⟩, .int .i64 0]] 8 (World.laidAll_os _ _ _)
    (World.shaped_of_ZipB (by kernel_rfl) (by kernel_rfl)) (by kernel_rfl) (by kernel_rfl) (by kernel_rfl)
    (by rw[MakeChecks.laidMetH_plain _ _ _ (by kernel_rfl)];exact laidMet_laidAll _ (by kernel_rfl) (by kernel_rfl))) ?_
 intro W base args ds gs before hval0 hW hL0 _
 have hL:Laid5 W:=laid5_of hL0
 clear hL0
 have hval: ∀(j:Nat) t v,Tryz.f4.params[j]?=some t->args[j]?=some v->Value.okWide Tryz.prog W .any base t v:=hval0
 have hW':=hW
 obtain⟨p,q,hA0,hV,rfl,hfz,hnd⟩:=hW
 have hA:DataW.TrodAll enc Tryz.prog W 0 (fun _=>true) true Tryz.f4.params.toList args.toList ds p:=hA0
 rw[Tryz.params4]at hA hval
 obtain⟨v0,vs0,d0,ds0,p0,q0,hargs,rfl,rfl,h0,r0⟩:=trodAll_cons hA
 obtain⟨v1,vs1,d1,ds1,p1,q1,rfl,rfl,rfl,h1,r1⟩:=trodAll_cons r0
 obtain⟨rfl,rfl,rfl⟩:=trodAll_nil r1
 obtain rfl:args= #[v0,v1]:=by cases args;simp_all
 obtain⟨rfl,rfl⟩:=trodVars_none hV
 have k0:=h0
 have k1:=h1
 have lt0: ∀x∈p0,x.block<W.heap.size:=by obtain⟨m,hm⟩:=k0;exact DataW.trod_lt m _ _ _ hm
 have lt1: ∀x∈p1,x.block<W.heap.size:=by obtain⟨m,hm⟩:=k1;exact DataW.trod_lt m _ _ _ hm
 obtain⟨ls,ds,A0,nc0,B0,mc0,rfl,hR0⟩:=open_rights (hval 0 25 v0 rfl rfl) h0
 obtain⟨pl,dy,rfl,hz1⟩:=open_spot (hval 1 40 v1 rfl rfl) h1
 clear hA0 hval0
 refine(rightSums_any ls ds A0 ls.length nc0 B0 ds.length mc0 pl dy W hL hR0).mono fun e W' ⟨he,z,hz⟩=> ?_
 subst he
 have bel:Below W.heap.size W W':=by rw[hz];exact below_ext W z
 exact⟨_,rfl,_,_,_,[],_,[],hW',trodAll_mk1 (shut_bool Tryz.underlying4 _),(trodAll_cons_mk (Below.trod laid_out (by kernel_rfl) (of_decide_eq_true (by kernel_rfl)) k0 bel lt0) (trodAll_cons_mk (Below.trod laid_out (by kernel_rfl) (of_decide_eq_true (by kernel_rfl)) k1 bel lt1) trodAll_mk0)),rfl,bel.frame _,fun h=>by cases h⟩
theorem rightSums_row:Rows.RightSumsSaid:=
 OpenClaim.holds_of_wide 4 Tryz.f4 rfl rfl rfl rfl rfl rfl rfl ⟨rfl,rfl,rfl,rfl,rfl⟩ rfl rfl rfl rfl rfl (by kernel_rfl) Tryz.func4 (by kernel_rfl)
  (of_decide_eq_true (by kernel_rfl)) (by unfold Func.isWrapper;first|(rw[if_pos (by decide+kernel)];kernel_rfl)|(rw[if_neg (by decide+kernel)];exact⟨rfl,rfl⟩))
  (fun os started H enc _=>rightSums_lifted os started H enc)
theorem rightSums_holds:Rows.RightSumsCardSaid:=
 Claim7.holds_tied_plain_at .later [] [.data, .data, .data, .data] true Rows.rightSumsCard.stood.harness false rightSums_row (fun _ h=>by cases h) (by kernel_rfl) (fun _ h=>by cases h) rightSums_row_tie rfl ⟨rfl,rfl⟩ (by kernel_rfl) rfl
  (fun f fn hf hfn=>by
    obtain rfl:f=4:=Option.some.inj ((show Tryz.prog.funcNamed "mortsafe/mortsafelaw05.RightSums" =some 4 by kernel_rfl).symm.trans hf) |>.symm
    obtain rfl:fn=Tryz.f4:=(Option.some.inj (Tryz.func4.symm.trans hfn)).symm
    exact⟨by kernel_rfl,fun j t ht=>by
     rw[Tryz.params4]at ht
     have hm:t∈[25,40]:=by simpa using Array.mem_of_getElem? ht
     have hall:([25,40].all fun u=>!Tryz.prog.wantsStandIn u)=true:=by kernel_rfl
     exact(show Tryz.prog.wantsStandIn t=false by simpa using List.all_eq_true.1 hall t hm)⟩)
  (by kernel_rfl)
#print axioms rightSums_holds
end Go.Proofs.YtmaidggpbihlgaaGreatDoor
