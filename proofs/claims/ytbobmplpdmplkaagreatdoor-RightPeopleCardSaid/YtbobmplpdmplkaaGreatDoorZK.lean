/- RightPeople: for all rights, and whatever else it is asked, the law returns true, and the input reads as it did; the listed variables lie as the program's text lays them. -/
import Derived.Test.YtbobmplpdmplkaaGreatDoorDQ
import Derived.Test.YtbobmplpdmplkaaGreatDoorYK
import Derived.Test.YtbobmplpdmplkaaGreatDoorCards
set_option linter.all false
set_option maxRecDepth 100000
set_option maxHeartbeats 4000000
namespace Go.Proofs.YtbobmplpdmplkaaGreatDoor
open Go Go.ChangeShapes Go.WideShapes Go.ChangeAt Go.RowKit
theorem laid5_of{W:World}(h:laidMetH Tryz.prog Rows.rightPeopleRow.laid W):Laid5 W:=by
 rw[MakeChecks.laidMetH_plain _ _ _ Mcz]at h;have h':laidMet Tryz.prog [("math/bits.deBruijn32tab",Rows.laid_math_bits_deBruijn32tab),("math/bits.deBruijn64tab",Rows.laid_math_bits_deBruijn64tab),("mortsafe/rule.lengths",Rows.laid_mortsafe_rule_lengths),("mortsafe/right.forms",Rows.laid_mortsafe_right_forms)] W:=h
 exact⟨zpm h'.tail.tail.tail,lens_laid h'.tail.tail,tz_laid h'.tail⟩
theorem zgF(os:Os)(started:os.Started)(H:Type)(enc:TypeId×Value->H):
 ReturnsInHanded {} Tryz.checked os 4 .any (fun w args=>(Rows.rightPeopleSpec.pre enc Tryz.prog Tryz.f4 Rows.rightPeopleRow.domain false w args/\laidMetH Tryz.prog Rows.rightPeopleRow.laid w)/\sizedMet enc Tryz.prog Tryz.f4 (OpenSpec.ofChange Rows.rightPeopleSpec) false w args)
  (Rows.rightPeopleSpec.post enc Tryz.prog Tryz.f4 false true false false):=by
 refine zmh (C:=Tryz.checked) (X:=fun w _=>laidMetH Tryz.prog Rows.rightPeopleRow.laid w) (fun _ _ _ hh h=>h.of_heap hh) own_knob started Mcz Tryz.func4
  (ChangeSpec.witness_shaped (enc:=enc) (C:=Tryz.checked) (os:=os) (X:=fun w _=>laidMetH Tryz.prog Rows.rightPeopleRow.laid w) false (World.laidAll Tryz.prog os Rows.rightPeopleRow.laid) #[.agg #[.slice none 0 0,.slice none 0 0],.string ⟨#[]⟩,.int .i64 0] 8 (World.laidAll_os _ _ _)
    (World.shaped_of_ZipB Mcz Mcz) Mcz Mcz Mcz
    (by rw[MakeChecks.laidMetH_plain _ _ _ Mcz];exact laidMet_laidAll _ Mcz Mcz)) ?_
 intro W base args ds gs before q9 hW zv _;have hL:Laid5 W:=laid5_of zv;clear zv;have fJ:∀(j:Nat) t v,Tryz.f4.params[j]?=some t->args[j]?=some v->Value.okWide Tryz.prog W .any base t v:=q9;have pD:=hW;obtain⟨p,q,EK,hV,rfl,CI,cW⟩:=hW;have hA:DataW.TrodAll enc Tryz.prog W 0 (fun _=>true) true Tryz.f4.params.toList args.toList ds p:=EK;rw[Tryz.params4]at hA fJ;obtain⟨v0,vs0,d0,ds0,p0,q0,Fv,rfl,rfl,h0,r0⟩:=trodAll_cons hA;obtain⟨v1,vs1,d1,ds1,p1,q1,rfl,rfl,rfl,h1,r1⟩:=trodAll_cons r0;obtain⟨v2,vs2,d2,ds2,p2,q2,rfl,rfl,rfl,h2,r2⟩:=trodAll_cons r1;obtain⟨rfl,rfl,rfl⟩:=trodAll_nil r2;obtain rfl:args= #[v0,v1,v2]:=by cases args;simp_all
 obtain⟨rfl,rfl⟩:=trodVars_none hV;have k0:=h0;have k1:=h1;have k2:=h2;have lt0:∀x∈p0,x.block<W.heap.size:=by obtain⟨m,hm⟩:=k0;exact DataW.trod_lt m _ _ _ hm
 have lt1:∀x∈p1,x.block<W.heap.size:=by obtain⟨m,hm⟩:=k1;exact DataW.trod_lt m _ _ _ hm
 have lt2:∀x∈p2,x.block<W.heap.size:=by obtain⟨m,hm⟩:=k2;exact DataW.trod_lt m _ _ _ hm
 obtain⟨ls,ds,A0,nc0,B0,mc0,rfl,rq⟩:=znr (fJ 0 25 v0 rfl rfl) h0;obtain⟨nm,rfl⟩:=okWide_string Tryz.underlying9 (fJ 1 9 v1 rfl rfl);obtain⟨dy,rfl⟩:=okWide_int Tryz.underlying3 (fJ 2 3 v2 rfl rfl);clear EK q9;refine(zjd ls ds A0 ls.length nc0 B0 ds.length mc0 nm dy W hL rq).mono fun e W' ⟨he,z,hz⟩=>?_
 subst he;have bel:Below W.heap.size W W':=by rw[hz];exact zaq W z
 exact⟨_,rfl,_,_,_,[],_,[],pD,trodAll_mk1 (shut_bool Tryz.underlying4 _),(trodAll_cons_mk (Below.trod zkJ Mcz (of_decide_eq_true Mcz) k0 bel lt0) (trodAll_cons_mk (Below.trod zkJ Mcz (of_decide_eq_true Mcz) k1 bel lt1) (trodAll_cons_mk (Below.trod zkJ Mcz (of_decide_eq_true Mcz) k2 bel lt2) trodAll_mk0))),rfl,bel.frame _,fun h=>by cases h⟩
theorem rjf_and{a b:Bool}(h1:a=true)(h2:b=true):(a&&b)=true:=by rw[h1,h2];rfl
theorem rjf1:(Rows.rightPeopleRow.inPlace==Tryz.prog.inPlace 4)=true:=by kernel_rfl
theorem rjf2:(Rows.rightPeopleRow.unfollowed==Tryz.prog.unfollowed 4)=true:=by kernel_rfl
theorem rjf3:(Rows.rightPeopleRow.recurses==Tryz.prog.recurses 4)=true:=by kernel_rfl
theorem rjf4:(Rows.rightPeopleRow.named==Tryz.prog.varsNamed 4)=true:=by kernel_rfl
theorem rjf5:laidOutB Tryz.prog=true:=by kernel_rfl
theorem rjf6:mapsRowed Tryz.prog=true:=by kernel_rfl
theorem rjf7:Tryz.prog.stopsHeard=true:=by kernel_rfl
theorem rjf8:Tryz.prog.mayEnter=true:=by kernel_rfl
theorem rjf9:(Rows.rightPeopleRow.plainKeys==Tryz.prog.plainKeys)=true:=by kernel_rfl
theorem rjf10:(Rows.rightPeopleRow.lifted==Tryz.prog.liftsFinal)=true:=by kernel_rfl
theorem rjf11:(Tryz.prog.make==some Rows.rightPeopleRow.make)=true:=by kernel_rfl
theorem rjf0:joinedFacts Tryz.prog 4 Tryz.f4 Rows.rightPeopleSpec Rows.rightPeopleRow=true:=by
 unfold joinedFacts;repeat' with_reducible refine rjf_and ?_ ?_
 all_goals first
  |with_reducible exact rjf1
  |with_reducible exact rjf2
  |with_reducible exact rjf3
  |with_reducible exact rjf4
  |with_reducible exact rjf5
  |with_reducible exact rjf6
  |with_reducible exact rjf7
  |with_reducible exact rjf8
  |with_reducible exact rjf9
  |with_reducible exact rjf10
  |with_reducible exact rjf11
  |kernel_rfl
theorem rjh1:Tryz.prog.mainIs=some (Rows.rightPeopleCard.stood.harness.1,Rows.rightPeopleCard.stood.harness.2.toList):=by kernel_rfl
theorem rjh2:false=Tryz.prog.looks []:=by kernel_rfl
theorem rjh3:false=Rows.rightPeopleRow.goesBy Tryz.prog:=by kernel_rfl
theorem zje:Rows.RightPeopleSaid:=
 OpenClaim.holds_of_wide 4 Tryz.f4 rfl rfl rfl rfl rfl rfl rfl ⟨rfl,rfl,rfl,rfl,rfl⟩ rfl rfl rfl rfl rfl Mcz Tryz.func4 rjf0
  (of_decide_eq_true Mcz) (by unfold Func.isWrapper;first|(rw[if_pos (by decide+kernel)];kernel_rfl)|(rw[if_neg (by decide+kernel)];exact⟨rfl,rfl⟩))
  (fun os started H enc _=>zgF os started H enc)
theorem rightPeople_holds:Rows.RightPeopleCardSaid:=
 Claim7.holds_tied_plain_at .later [] [.data,.data,.data,.data] true Rows.rightPeopleCard.stood.harness false zje (fun _ h=>by cases h) Mcz (fun _ h=>by cases h) rightPeople_row_tie rfl ⟨rfl,rfl⟩ rjh1 rfl
  (fun f fn hf CG=>by
    obtain rfl:f=4:=Option.some.inj ((show Tryz.prog.funcNamed "mortsafe/mortsafelaw05.RightPeople" =some 4 by kernel_rfl).symm.trans hf) |>.symm
    obtain rfl:fn=Tryz.f4:=(Option.some.inj (Tryz.func4.symm.trans CG)).symm
    exact⟨rjh2,fun j t ht=>by
     rw[Tryz.params4]at ht;have hm:t∈[25,9,3]:=by simpa using Array.mem_of_getElem? ht
     have b9:([25,9,3].all fun u=>!Tryz.prog.wantsStandIn u)=true:=Mcz
     exact(show Tryz.prog.wantsStandIn t=false by simpa using List.all_eq_true.1 b9 t hm)⟩)
  rjh3
#print axioms rightPeople_holds
