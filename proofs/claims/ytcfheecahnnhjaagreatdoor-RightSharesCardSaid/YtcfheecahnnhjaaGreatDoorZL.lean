/- RightShares: for all rights, and whatever else it is asked, the law returns true, and the input reads as it did; the listed variables lie as the program's text lays them. -/
import Derived.Test.YtcfheecahnnhjaaGreatDoorYL
import Derived.Test.YtcfheecahnnhjaaGreatDoorCards
set_option linter.all false
set_option maxRecDepth 100000
set_option maxHeartbeats 4000000
namespace Go.Proofs.YtcfheecahnnhjaaGreatDoor
open Go Go.ChangeShapes Go.WideShapes Go.ChangeAt Go.RowKit
theorem laid5_of{W:World}(h:laidMetH Tryz.prog Rows.rightSharesRow.laid W):Laid5 W:=by
 rw[MakeChecks.laidMetH_plain _ _ _ Mcv]at h;have h':laidMet Tryz.prog [("math/bits.deBruijn32tab",Rows.laid_math_bits_deBruijn32tab),("math/bits.deBruijn64tab",Rows.laid_math_bits_deBruijn64tab),("mortsafe/rule.lengths",Rows.laid_mortsafe_rule_lengths),("mortsafe/right.forms",Rows.laid_mortsafe_right_forms)] W:=h
 exact⟨zpp h'.tail.tail.tail,lens_laid h'.tail.tail,tz_laid h'.tail⟩
theorem zgK(os:Os)(started:os.Started)(H:Type)(enc:TypeId×Value->H):
 ReturnsInHanded {} Tryz.checked os 3 .any (fun w args=>(Rows.rightSharesSpec.pre enc Tryz.prog Tryz.f3 Rows.rightSharesRow.domain false w args/\laidMetH Tryz.prog Rows.rightSharesRow.laid w)/\sizedMet enc Tryz.prog Tryz.f3 (OpenSpec.ofChange Rows.rightSharesSpec) false w args)
  (Rows.rightSharesSpec.post enc Tryz.prog Tryz.f3 false true false false):=by
 refine zmp (C:=Tryz.checked) (X:=fun w _=>laidMetH Tryz.prog Rows.rightSharesRow.laid w) (fun _ _ _ hh h=>h.of_heap hh) own_knob started Mcv Tryz.func3
  (ChangeSpec.witness_shaped (enc:=enc) (C:=Tryz.checked) (os:=os) (X:=fun w _=>laidMetH Tryz.prog Rows.rightSharesRow.laid w) false (World.laidAll Tryz.prog os Rows.rightSharesRow.laid) #[.agg #[.slice none 0 0,.slice none 0 0],.string ⟨#[]⟩,.agg #[.string ⟨#[]⟩,.int .i64 0]] 8 (World.laidAll_os _ _ _)
    (World.shaped_of_ZipB Mcv Mcv) Mcv Mcv Mcv
    (by rw[MakeChecks.laidMetH_plain _ _ _ Mcv];exact laidMet_laidAll _ Mcv Mcv)) ?_
 intro W base args ds gs before qh hW Ai _;have hL:Laid5 W:=laid5_of Ai;clear Ai;have fN:∀(j:Nat) t v,Tryz.f3.params[j]?=some t->args[j]?=some v->Value.okWide Tryz.prog W .any base t v:=qh;have pJ:=hW;obtain⟨p,q,F9,hV,rfl,Di,cZ⟩:=hW;have hA:DataW.TrodAll enc Tryz.prog W 0 (fun _=>true) true Tryz.f3.params.toList args.toList ds p:=F9;rw[Tryz.params3]at hA fN;obtain⟨v0,vs0,d0,ds0,p0,q0,FS,rfl,rfl,h0,r0⟩:=trodAll_cons hA;obtain⟨v1,vs1,d1,ds1,p1,q1,rfl,rfl,rfl,h1,r1⟩:=trodAll_cons r0;obtain⟨v2,vs2,d2,ds2,p2,q2,rfl,rfl,rfl,h2,r2⟩:=trodAll_cons r1;obtain⟨rfl,rfl,rfl⟩:=trodAll_nil r2;obtain rfl:args= #[v0,v1,v2]:=by cases args;simp_all
 obtain⟨rfl,rfl⟩:=trodVars_none hV;have k0:=h0;have k1:=h1;have k2:=h2;have lt0:∀x∈p0,x.block<W.heap.size:=by obtain⟨m,hm⟩:=k0;exact DataW.trod_lt m _ _ _ hm
 have lt1:∀x∈p1,x.block<W.heap.size:=by obtain⟨m,hm⟩:=k1;exact DataW.trod_lt m _ _ _ hm
 have lt2:∀x∈p2,x.block<W.heap.size:=by obtain⟨m,hm⟩:=k2;exact DataW.trod_lt m _ _ _ hm
 obtain⟨ls,ds,A0,nc0,B0,mc0,rfl,rG⟩:=znv (fN 0 25 v0 rfl rfl) h0;obtain⟨nm,rfl⟩:=okWide_string Tryz.underlying9 (fN 1 9 v1 rfl rfl);obtain⟨pl,dy,rfl,iH⟩:=open_spot (fN 2 27 v2 rfl rfl) h2;clear F9 qh;refine(zjl ls ds A0 ls.length nc0 B0 ds.length mc0 nm pl dy W hL rG).mono fun e W' ⟨he,z,hz⟩=>?_
 subst he;have bel:Below W.heap.size W W':=by rw[hz];exact zao W z
 exact⟨_,rfl,_,_,_,[],_,[],pJ,trodAll_mk1 (shut_bool Tryz.underlying4 _),(trodAll_cons_mk (Below.trod zkT Mcv (of_decide_eq_true Mcv) k0 bel lt0) (trodAll_cons_mk (Below.trod zkT Mcv (of_decide_eq_true Mcv) k1 bel lt1) (trodAll_cons_mk (Below.trod zkT Mcv (of_decide_eq_true Mcv) k2 bel lt2) trodAll_mk0))),rfl,bel.frame _,fun h=>by cases h⟩
theorem rjf_and{a b:Bool}(h1:a=true)(h2:b=true):(a&&b)=true:=by rw[h1,h2];rfl
theorem rjf1:(Rows.rightSharesRow.inPlace==Tryz.prog.inPlace 3)=true:=by kernel_rfl
theorem rjf2:(Rows.rightSharesRow.unfollowed==Tryz.prog.unfollowed 3)=true:=by kernel_rfl
theorem rjf3:(Rows.rightSharesRow.recurses==Tryz.prog.recurses 3)=true:=by kernel_rfl
theorem rjf4:(Rows.rightSharesRow.named==Tryz.prog.varsNamed 3)=true:=by kernel_rfl
theorem rjf5:laidOutB Tryz.prog=true:=by kernel_rfl
theorem rjf6:mapsRowed Tryz.prog=true:=by kernel_rfl
theorem rjf7:Tryz.prog.stopsHeard=true:=by kernel_rfl
theorem rjf8:Tryz.prog.mayEnter=true:=by kernel_rfl
theorem rjf9:(Rows.rightSharesRow.plainKeys==Tryz.prog.plainKeys)=true:=by kernel_rfl
theorem rjf10:(Rows.rightSharesRow.lifted==Tryz.prog.liftsFinal)=true:=by kernel_rfl
theorem rjf11:(Tryz.prog.make==some Rows.rightSharesRow.make)=true:=by kernel_rfl
theorem rjf0:joinedFacts Tryz.prog 3 Tryz.f3 Rows.rightSharesSpec Rows.rightSharesRow=true:=by
 unfold joinedFacts;repeat' with_reducible refine rjf_and ?_ ?_
 all_goals first
  |with_reducible exact rjf1
  |with_reducible exact rjf2
  |with_reducible exact rjf3
  |with_reducible exact rjf4
  |with_reducible exact rjf5
  |with_reducible exact rjf6
  |with_reducible exact rjf7
  |with_reducible exact rjf8
  |with_reducible exact rjf9
  |with_reducible exact rjf10
  |with_reducible exact rjf11
  |kernel_rfl
theorem rjh1:Tryz.prog.mainIs=some (Rows.rightSharesCard.stood.harness.1,Rows.rightSharesCard.stood.harness.2.toList):=by kernel_rfl
theorem rjh2:false=Tryz.prog.looks []:=by kernel_rfl
theorem rjh3:false=Rows.rightSharesRow.goesBy Tryz.prog:=by kernel_rfl
theorem zjm:Rows.RightSharesSaid:=
 OpenClaim.holds_of_wide 3 Tryz.f3 rfl rfl rfl rfl rfl rfl rfl ⟨rfl,rfl,rfl,rfl,rfl⟩ rfl rfl rfl rfl rfl Mcv Tryz.func3 rjf0
  (of_decide_eq_true Mcv) (by unfold Func.isWrapper;first|(rw[if_pos (by decide+kernel)];kernel_rfl)|(rw[if_neg (by decide+kernel)];exact⟨rfl,rfl⟩))
  (fun os started H enc _=>zgK os started H enc)
theorem rightShares_holds:Rows.RightSharesCardSaid:=
 Claim7.holds_tied_plain_at .later [] [.data,.data,.data,.data] true Rows.rightSharesCard.stood.harness false zjm (fun _ h=>by cases h) Mcv (fun _ h=>by cases h) rightShares_row_tie rfl ⟨rfl,rfl⟩ rjh1 rfl
  (fun f fn hf Dg=>by
    obtain rfl:f=3:=Option.some.inj ((show Tryz.prog.funcNamed "mortsafe/mortsafelaw05.RightShares" =some 3 by kernel_rfl).symm.trans hf) |>.symm
    obtain rfl:fn=Tryz.f3:=(Option.some.inj (Tryz.func3.symm.trans Dg)).symm
    exact⟨rjh2,fun j t ht=>by
     rw[Tryz.params3]at ht;have hm:t∈[25,9,27]:=by simpa using Array.mem_of_getElem? ht
     have aU:([25,9,27].all fun u=>!Tryz.prog.wantsStandIn u)=true:=Mcv
     exact(show Tryz.prog.wantsStandIn t=false by simpa using List.all_eq_true.1 aU t hm)⟩)
  rjh3
#print axioms rightShares_holds
