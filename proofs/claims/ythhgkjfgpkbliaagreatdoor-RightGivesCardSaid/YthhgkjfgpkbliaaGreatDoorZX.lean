/- RightGives: for all rights and every gift the law returns true, and the input reads as it did; the listed variables lie as the program's text lays them. -/
import Derived.Test.YthhgkjfgpkbliaaGreatDoorDQ
import Derived.Test.YthhgkjfgpkbliaaGreatDoorYX
import Derived.Test.YthhgkjfgpkbliaaGreatDoorCards
import Derived.SevenTiedAt
set_option linter.all false
set_option maxRecDepth 100000
set_option maxHeartbeats 4000000
namespace Go.Proofs.YthhgkjfgpkbliaaGreatDoor
open Go Go.ChangeShapes Go.WideShapes Go.ChangeAt Go.RowKit
theorem laid5_of{W:World}(h:laidMetH Tryz.prog Rows.rightGivesRow.laid W):Laid5 W:=by
 rw[MakeChecks.laidMetH_plain _ _ _ MbE]at h;have h':laidMet Tryz.prog [("math/bits.deBruijn32tab",Rows.laid_math_bits_deBruijn32tab),("math/bits.deBruijn64tab",Rows.laid_math_bits_deBruijn64tab),("mortsafe/rule.lengths",Rows.laid_mortsafe_rule_lengths),("mortsafe/right.forms",Rows.laid_mortsafe_right_forms)] W:=h
 exact⟨zmR h'.tail.tail.tail,lens_laid h'.tail.tail,tz_laid h'.tail⟩
theorem zfX(os:Os)(started:os.Started)(H:Type)(enc:TypeId×Value->H):
 ReturnsInHanded {} Tryz.checked os 4 .any (fun w args=>(Rows.rightGivesSpec.pre enc Tryz.prog Tryz.f4 Rows.rightGivesRow.domain false w args/\laidMetH Tryz.prog Rows.rightGivesRow.laid w)/\sizedMet enc Tryz.prog Tryz.f4 (OpenSpec.ofChange Rows.rightGivesSpec) false w args)
  (Rows.rightGivesSpec.post enc Tryz.prog Tryz.f4 false true false false):=by
 refine zjg (C:=Tryz.checked) (X:=fun w _=>laidMetH Tryz.prog Rows.rightGivesRow.laid w) (fun _ _ _ hh h=>h.of_heap hh) own_knob started MbE Tryz.func4
  (ChangeSpec.witness_shaped (enc:=enc) (C:=Tryz.checked) (os:=os) (X:=fun w _=>laidMetH Tryz.prog Rows.rightGivesRow.laid w) false (World.laidAll Tryz.prog os Rows.rightGivesRow.laid) #[.agg #[.slice none 0 0,.slice none 0 0],.agg #[.string ⟨#[]⟩,.string ⟨#[]⟩,.string ⟨#[]⟩,.int .i64 0,.int .i64 0,.int .i64 0]] 8 (World.laidAll_os _ _ _)
    (World.shaped_of_ZipB MbE MbE) MbE MbE MbE
    (by rw[MakeChecks.laidMetH_plain _ _ _ MbE];exact laidMet_laidAll _ MbE MbE)) ?_
 intro W base args ds gs before kU hW uL _;have hL:Laid5 W:=laid5_of uL;clear uL;have eK:∀(j:Nat) t v,Tryz.f4.params[j]?=some t->args[j]?=some v->Value.okWide Tryz.prog W .any base t v:=kU;have kp:=hW;obtain⟨p,q,xz,hV,rfl,vD,ca⟩:=hW;have hA:DataW.TrodAll enc Tryz.prog W 0 (fun _=>true) true Tryz.f4.params.toList args.toList ds p:=xz;rw[Tryz.params4]at hA eK;obtain⟨v0,vs0,d0,ds0,p0,q0,yg,rfl,rfl,h0,r0⟩:=trodAll_cons hA;obtain⟨v1,vs1,d1,ds1,p1,q1,rfl,rfl,rfl,h1,r1⟩:=trodAll_cons r0;obtain⟨rfl,rfl,rfl⟩:=trodAll_nil r1;obtain rfl:args= #[v0,v1]:=by cases args;simp_all
 obtain⟨rfl,rfl⟩:=trodVars_none hV;have k0:=h0;have k1:=h1;have lt0:∀x∈p0,x.block<W.heap.size:=by obtain⟨m,hm⟩:=k0;exact DataW.trod_lt m _ _ _ hm
 have lt1:∀x∈p1,x.block<W.heap.size:=by obtain⟨m,hm⟩:=k1;exact DataW.trod_lt m _ _ _ hm
 obtain⟨ls,ds,A0,nc0,B0,mc0,rfl,m9⟩:=zlm (eK 0 25 v0 rfl rfl) h0;obtain⟨pl,frm,tn,dy,pn,pd,rfl,fL,iK,hz3⟩:=open_gift (eK 1 56 v1 rfl rfl) h1;clear xz kU;refine(zhR ls ds A0 ls.length nc0 B0 ds.length mc0 pl frm tn dy pn pd W hL m9).mono fun e W' ⟨he,z,hz⟩=>?_
 subst he;have bel:Below W.heap.size W W':=by rw[hz];exact za5 W z
 exact⟨_,rfl,_,_,_,[],_,[],kp,trodAll_mk1 (shut_bool Tryz.underlying4 _),(trodAll_cons_mk (Below.trod zlq MbE (of_decide_eq_true MbE) k0 bel lt0) (trodAll_cons_mk (Below.trod zlq MbE (of_decide_eq_true MbE) k1 bel lt1) trodAll_mk0)),rfl,bel.frame _,fun h=>by cases h⟩
theorem rjf_and{a b:Bool}(h1:a=true)(h2:b=true):(a&&b)=true:=by rw[h1,h2];rfl
theorem rjf1:(Rows.rightGivesRow.inPlace==Tryz.prog.inPlace 4)=true:=by kernel_rfl
theorem rjf2:(Rows.rightGivesRow.unfollowed==Tryz.prog.unfollowed 4)=true:=by kernel_rfl
theorem rjf3:(Rows.rightGivesRow.recurses==Tryz.prog.recurses 4)=true:=by kernel_rfl
theorem rjf4:(Rows.rightGivesRow.named==Tryz.prog.varsNamed 4)=true:=by kernel_rfl
theorem rjf5:laidOutB Tryz.prog=true:=by kernel_rfl
theorem rjf6:mapsRowed Tryz.prog=true:=by kernel_rfl
theorem rjf7:Tryz.prog.stopsHeard=true:=by kernel_rfl
theorem rjf8:Tryz.prog.mayEnter=true:=by kernel_rfl
theorem rjf9:(Rows.rightGivesRow.plainKeys==Tryz.prog.plainKeys)=true:=by kernel_rfl
theorem rjf10:(Rows.rightGivesRow.lifted==Tryz.prog.liftsFinal)=true:=by kernel_rfl
theorem rjf11:(Tryz.prog.make==some Rows.rightGivesRow.make)=true:=by kernel_rfl
theorem rjf0:joinedFacts Tryz.prog 4 Tryz.f4 Rows.rightGivesSpec Rows.rightGivesRow=true:=by
 unfold joinedFacts;repeat' with_reducible refine rjf_and ?_ ?_
 all_goals first
  |with_reducible exact rjf1
  |with_reducible exact rjf2
  |with_reducible exact rjf3
  |with_reducible exact rjf4
  |with_reducible exact rjf5
  |with_reducible exact rjf6
  |with_reducible exact rjf7
  |with_reducible exact rjf8
  |with_reducible exact rjf9
  |with_reducible exact rjf10
  |with_reducible exact rjf11
  |kernel_rfl
theorem rjh1:Tryz.prog.mainIs=some (Rows.rightGivesCard.stood.harness.1,Rows.rightGivesCard.stood.harness.2.toList):=by kernel_rfl
theorem rjh2:false=Tryz.prog.looks []:=by kernel_rfl
theorem rjh3:false=Rows.rightGivesRow.goesBy Tryz.prog:=by kernel_rfl
theorem zhS:Rows.RightGivesSaid:=
 OpenClaim.holds_of_wide 4 Tryz.f4 rfl rfl rfl rfl rfl rfl rfl ⟨rfl,rfl,rfl,rfl,rfl⟩ rfl rfl rfl rfl rfl MbE Tryz.func4 rjf0
  (of_decide_eq_true MbE) (by unfold Func.isWrapper;first|(rw[if_pos (by decide+kernel)];kernel_rfl)|(rw[if_neg (by decide+kernel)];exact⟨rfl,rfl⟩))
  (fun os started H enc _=>zfX os started H enc)
theorem rightGives_holds:Rows.RightGivesCardSaid:=
 Claim7.holds_tied_plain_at .later [] [.data,.data,.data,.data] true Rows.rightGivesCard.stood.harness false zhS (fun _ h=>by cases h) MbE (fun _ h=>by cases h) rightGives_row_tie rfl ⟨rfl,rfl⟩ rjh1 rfl
  (fun f fn hf vB=>by
    obtain rfl:f=4:=Option.some.inj ((show Tryz.prog.funcNamed "mortsafe/mortsafelaw05.RightGives" =some 4 by kernel_rfl).symm.trans hf) |>.symm
    obtain rfl:fn=Tryz.f4:=(Option.some.inj (Tryz.func4.symm.trans vB)).symm
    exact⟨rjh2,fun j t ht=>by
     rw[Tryz.params4]at ht;have hm:t∈[25,56]:=by simpa using Array.mem_of_getElem? ht
     have aE:([25,56].all fun u=>!Tryz.prog.wantsStandIn u)=true:=MbE
     exact(show Tryz.prog.wantsStandIn t=false by simpa using List.all_eq_true.1 aE t hm)⟩)
  rjh3
#print axioms rightGives_holds
