/- TopSharesAreOne: for all rights and every deed the law returns true, and the input reads as it did; the listed variables lie as the program's text lays them. -/
import Derived.Test.YtmfbdfejhdkiaaaGreatDoorYW
import Derived.Test.YtmfbdfejhdkiaaaGreatDoorCards
set_option linter.all false
set_option maxRecDepth 100000
set_option maxHeartbeats 4000000
namespace Go.Proofs.YtmfbdfejhdkiaaaGreatDoor
open Go Go.ChangeShapes Go.WideShapes Go.ChangeAt Go.RowKit
theorem laid2_of{W:World}(h:laidMetH Tryz.prog Rows.topSharesAreOneRow.laid W):Laid2 W:=by
 rw[MakeChecks.laidMetH_plain _ _ _ Mcs]at h;have h':laidMet Tryz.prog [("mortsafe/rule.lengths",Rows.laid_mortsafe_rule_lengths),("mortsafe/right.forms",Rows.laid_mortsafe_right_forms)] W:=h
 exact⟨zpv h'.tail,lens_laid h'⟩
theorem zeU(os:Os)(started:os.Started)(H:Type)(enc:TypeId×Value->H):
 ReturnsInHanded {} Tryz.checked os 3 .any (fun w args=>(Rows.topSharesAreOneSpec.pre enc Tryz.prog Tryz.f3 Rows.topSharesAreOneRow.domain false w args/\laidMetH Tryz.prog Rows.topSharesAreOneRow.laid w)/\sizedMet enc Tryz.prog Tryz.f3 (OpenSpec.ofChange Rows.topSharesAreOneSpec) false w args)
  (Rows.topSharesAreOneSpec.post enc Tryz.prog Tryz.f3 false true false false):=by
 refine zkZ (C:=Tryz.checked) (X:=fun w _=>laidMetH Tryz.prog Rows.topSharesAreOneRow.laid w) (fun _ _ _ hh h=>h.of_heap hh) own_knob started Mcs Tryz.func3
  (ChangeSpec.witness_shaped (enc:=enc) (C:=Tryz.checked) (os:=os) (X:=fun w _=>laidMetH Tryz.prog Rows.topSharesAreOneRow.laid w) false (World.laidAll Tryz.prog os Rows.topSharesAreOneRow.laid) #[.agg #[.slice none 0 0,.slice none 0 0],.agg #[.int .i64 0,.int .i64 0,.string ⟨#[]⟩,.string ⟨#[]⟩,.slice none 0 0,.int .i64 0,.int .i64 0]] 8 (World.laidAll_os _ _ _)
    (World.shaped_of_ZipB Mcs Mcs) Mcs Mcs Mcs
    (by rw[MakeChecks.laidMetH_plain _ _ _ Mcs];exact laidMet_laidAll _ Mcs Mcs)) ?_
 intro W base args ds gs before qD hW Ah _;have hL:Laid2 W:=laid2_of Ah;clear Ah;have jH:∀(j:Nat) t v,Tryz.f3.params[j]?=some t->args[j]?=some v->Value.okWide Tryz.prog W .any base t v:=qD;have Am:=hW;obtain⟨p,q,FQ,hV,rfl,DZ,cR⟩:=hW;have hA:DataW.TrodAll enc Tryz.prog W 0 (fun _=>true) true Tryz.f3.params.toList args.toList ds p:=FQ;rw[Tryz.params3]at hA jH;obtain⟨v0,vs0,d0,ds0,p0,q0,GD,rfl,rfl,h0,r0⟩:=trodAll_cons hA;obtain⟨v1,vs1,d1,ds1,p1,q1,rfl,rfl,rfl,h1,r1⟩:=trodAll_cons r0;obtain⟨rfl,rfl,rfl⟩:=trodAll_nil r1;obtain rfl:args= #[v0,v1]:=by cases args;simp_all
 obtain⟨rfl,rfl⟩:=trodVars_none hV;have k0:=h0;have k1:=h1;have lt0:∀x∈p0,x.block<W.heap.size:=by obtain⟨m,hm⟩:=k0;exact DataW.trod_lt m _ _ _ hm
 have lt1:∀x∈p1,x.block<W.heap.size:=by obtain⟨m,hm⟩:=k1;exact DataW.trod_lt m _ _ _ hm
 obtain⟨ls,ds,A0,nc0,B0,mc0,rfl,sa⟩:=znt (jH 0 25 v0 rfl rfl) h0;obtain⟨x1,B1,c1,rfl,pY,KC,Ay,bD⟩:=zpw (jH 1 28 v1 rfl rfl) h1;clear FQ qD;refine(zgp ls ds x1 A0 ls.length nc0 B0 ds.length mc0 B1 c1 W hL sa pY KC Ay bD).mono fun e W' ⟨he,z,hz⟩=>?_
 subst he;have bel:Qa W W':=by rw[hz];exact zaq W z
 exact⟨_,rfl,_,_,_,[],_,[],Am,trodAll_mk1 (shut_bool Tryz.underlying4 _),(trodAll_cons_mk (Below.trod zn7 Mcs (of_decide_eq_true Mcs) k0 bel lt0) (trodAll_cons_mk (Below.trod zn7 Mcs (of_decide_eq_true Mcs) k1 bel lt1) trodAll_mk0)),rfl,bel.frame _,fun h=>by cases h⟩
theorem rjf_and{a b:Bool}(h1:a=true)(h2:b=true):(a&&b)=true:=by rw[h1,h2];rfl
theorem rjf1:(Rows.topSharesAreOneRow.inPlace==Tryz.prog.inPlace 3)=true:=by kernel_rfl
theorem rjf2:(Rows.topSharesAreOneRow.unfollowed==Tryz.prog.unfollowed 3)=true:=by kernel_rfl
theorem rjf3:(Rows.topSharesAreOneRow.recurses==Tryz.prog.recurses 3)=true:=by kernel_rfl
theorem rjf4:(Rows.topSharesAreOneRow.named==Tryz.prog.varsNamed 3)=true:=by kernel_rfl
theorem rjf5:laidOutB Tryz.prog=true:=by kernel_rfl
theorem rjf6:mapsRowed Tryz.prog=true:=by kernel_rfl
theorem rjf7:Tryz.prog.stopsHeard=true:=by kernel_rfl
theorem rjf8:Tryz.prog.mayEnter=true:=by kernel_rfl
theorem rjf9:(Rows.topSharesAreOneRow.plainKeys==Tryz.prog.plainKeys)=true:=by kernel_rfl
theorem rjf10:(Rows.topSharesAreOneRow.lifted==Tryz.prog.liftsFinal)=true:=by kernel_rfl
theorem rjf11:(Tryz.prog.make==some Rows.topSharesAreOneRow.make)=true:=by kernel_rfl
theorem rjf0:joinedFacts Tryz.prog 3 Tryz.f3 Rows.topSharesAreOneSpec Rows.topSharesAreOneRow=true:=by
 unfold joinedFacts;repeat' with_reducible refine rjf_and ?_ ?_
 all_goals first
  |with_reducible exact rjf1
  |with_reducible exact rjf2
  |with_reducible exact rjf3
  |with_reducible exact rjf4
  |with_reducible exact rjf5
  |with_reducible exact rjf6
  |with_reducible exact rjf7
  |with_reducible exact rjf8
  |with_reducible exact rjf9
  |with_reducible exact rjf10
  |with_reducible exact rjf11
  |kernel_rfl
theorem rjh1:Tryz.prog.mainIs=some (Rows.topSharesAreOneCard.stood.harness.1,Rows.topSharesAreOneCard.stood.harness.2.toList):=by kernel_rfl
theorem rjh2:false=Tryz.prog.looks []:=by kernel_rfl
theorem rjh3:false=Rows.topSharesAreOneRow.goesBy Tryz.prog:=by kernel_rfl
theorem zgq:Rows.TopSharesAreOneSaid:=
 OpenClaim.holds_of_wide 3 Tryz.f3 rfl rfl rfl rfl rfl rfl rfl ⟨rfl,rfl,rfl,rfl,rfl⟩ rfl rfl rfl rfl rfl Mcs Tryz.func3 rjf0
  (of_decide_eq_true Mcs) (by unfold Func.isWrapper;first|(rw[if_pos (by decide+kernel)];kernel_rfl)|(rw[if_neg (by decide+kernel)];exact⟨rfl,rfl⟩))
  (fun os started H enc _=>zeU os started H enc)
theorem topSharesAreOne_holds:Rows.TopSharesAreOneCardSaid:=
 Claim7.holds_tied_plain_at .later [] [.data,.data] true Rows.topSharesAreOneCard.stood.harness false zgq (fun _ h=>by cases h) Mcs (fun _ h=>by cases h) topSharesAreOne_row_tie rfl ⟨rfl,rfl⟩ rjh1 rfl
  (fun f fn hf DX=>by
    obtain rfl:f=3:=Option.some.inj ((show Tryz.prog.funcNamed "mortsafe/mortsafetop.TopSharesAreOne" =some 3 by kernel_rfl).symm.trans hf) |>.symm
    obtain rfl:fn=Tryz.f3:=(Option.some.inj (Tryz.func3.symm.trans DX)).symm
    exact⟨rjh2,fun j t ht=>by
     rw[Tryz.params3]at ht;have hm:t∈[25,28]:=by simpa using Array.mem_of_getElem? ht
     have aH:([25,28].all fun u=>!Tryz.prog.wantsStandIn u)=true:=Mcs
     exact(show Tryz.prog.wantsStandIn t=false by simpa using List.all_eq_true.1 aH t hm)⟩)
  rjh3
#print axioms topSharesAreOne_holds
