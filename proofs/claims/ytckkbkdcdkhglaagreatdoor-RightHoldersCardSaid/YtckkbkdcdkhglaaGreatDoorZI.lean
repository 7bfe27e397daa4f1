/- RightHolders: for all rights, and whatever else it is asked, the law returns true, and the input reads as it did; the listed variables lie as the program's text lays them. -/
import Derived.Test.YtckkbkdcdkhglaaGreatDoorYI
import Derived.Test.YtckkbkdcdkhglaaGreatDoorCards
set_option linter.unusedSimpArgs false
set_option linter.unusedVariables false
set_option maxRecDepth 100000
set_option maxHeartbeats 4000000
namespace Go.Proofs.YtckkbkdcdkhglaaGreatDoor
open Go Go.ChangeShapes Go.WideShapes Go.ChangeAt Go.RowKit
theorem zkW {W:World} (h:laidMetH Tryz.prog Rows.rightHoldersRow.laid W):Laid5 W:=by
 exact M7
theorem zfZ (os:Os) (started:os.Started) (H:Type) (enc:TypeId×Value->H):
 ReturnsInHanded {} Tryz.checked os 3 .any (fun w args=>(Rows.rightHoldersSpec.pre enc Tryz.prog Tryz.f3 Rows.rightHoldersRow.domain false w args/\laidMetH Tryz.prog Rows.rightHoldersRow.laid w)/\sizedMet enc Tryz.prog Tryz.f3 (OpenSpec.ofChange Rows.rightHoldersSpec) false w args)
  (Rows.rightHoldersSpec.post enc Tryz.prog Tryz.f3 false true false false):=by
 refine zho (C:=Tryz.checked) (X:=fun w _=>laidMetH Tryz.prog Rows.rightHoldersRow.laid w) (fun _ _ _ hh h=>h.of_heap hh) zn4 started Mcm Tryz.func3
  (ChangeSpec.witness_shaped (enc:=enc) (C:=Tryz.checked) (os:=os) (X:=fun w _=>laidMetH Tryz.prog Rows.rightHoldersRow.laid w) false (World.laidAll Tryz.prog os Rows.rightHoldersRow.laid) #[.agg #[.slice none 0 0, .slice none 0 0], .string ⟨#[]⟩, .int .i64 0] 8 (World.laidAll_os _ _ _)
    (World.shaped_of_ZipB Mcm Mcm) Mcm Mcm Mcm
    Mc7) ?_
 intro W base args ds gs before iM hW qW _;have hL:Laid5 W:=zkW qW;clear qW;have cX: ∀(j:Nat) t v,Tryz.f3.params[j]?=some t->args[j]?=some v->Value.okWide Tryz.prog W .any base t v:=iM;have oo:=hW;obtain⟨p,q,vz,hV,rfl,zR,cM⟩:=hW;have hA:DataW.TrodAll enc Tryz.prog W 0 (fun _=>true) true Tryz.f3.params.toList args.toList ds p:=vz;rw[Tryz.params3]at hA cX;obtain⟨v0,vs0,d0,ds0,p0,q0,wu,rfl,rfl,h0,r0⟩:=trodAll_cons hA;obtain⟨v1,vs1,d1,ds1,p1,q1,rfl,rfl,rfl,h1,r1⟩:=trodAll_cons r0;obtain⟨v2,vs2,d2,ds2,p2,q2,rfl,rfl,rfl,h2,r2⟩:=trodAll_cons r1;obtain⟨rfl,rfl,rfl⟩:=trodAll_nil r2;obtain rfl:args= #[v0,v1,v2]:=by cases args;simp_all
 obtain⟨rfl,rfl⟩:=trodVars_none hV;have k0:=h0;have k1:=h1;have k2:=h2;have lt0: ∀x∈p0,x.block<W.heap.size:=by obtain⟨m,hm⟩:=k0;exact DataW.trod_lt m _ _ _ hm
 have lt1: ∀x∈p1,x.block<W.heap.size:=by obtain⟨m,hm⟩:=k1;exact DataW.trod_lt m _ _ _ hm
 have lt2: ∀x∈p2,x.block<W.heap.size:=by obtain⟨m,hm⟩:=k2;exact DataW.trod_lt m _ _ _ hm
 obtain⟨ls,ds,A0,nc0,B0,mc0,rfl,ol⟩:=ziQ (cX 0 25 v0 rfl rfl) h0;obtain⟨pl,rfl⟩:=okWide_string Tryz.underlying9 (cX 1 9 v1 rfl rfl);obtain⟨dy,rfl⟩:=okWide_int Tryz.underlying3 (cX 2 3 v2 rfl rfl);clear vz iM;refine(zh5 ls ds A0 ls.length nc0 B0 ds.length mc0 pl dy W hL ol).mono fun e W' ⟨he,z,hz⟩=> ?_
 exact MQ
theorem rjf_and {a b:Bool} (h1:a=true) (h2:b=true):(a&&b)=true:=by rw[h1,h2];rfl
theorem rjf1:(Rows.rightHoldersRow.inPlace==Tryz.prog.inPlace 3)=true:=by kernel_rfl
theorem rjf2:(Rows.rightHoldersRow.unfollowed==Tryz.prog.unfollowed 3)=true:=by kernel_rfl
theorem rjf3:(Rows.rightHoldersRow.recurses==Tryz.prog.recurses 3)=true:=by kernel_rfl
theorem rjf4:(Rows.rightHoldersRow.named==Tryz.prog.varsNamed 3)=true:=by kernel_rfl
theorem rjf5:laidOutB Tryz.prog=true:=by kernel_rfl
theorem rjf6:mapsRowed Tryz.prog=true:=by kernel_rfl
theorem rjf7:Tryz.prog.stopsHeard=true:=by kernel_rfl
theorem rjf8:Tryz.prog.mayEnter=true:=by kernel_rfl
theorem rjf9:(Rows.rightHoldersRow.plainKeys==Tryz.prog.plainKeys)=true:=by kernel_rfl
theorem rjf10:(Rows.rightHoldersRow.lifted==Tryz.prog.liftsFinal)=true:=by kernel_rfl
theorem rjf11:(Tryz.prog.make==some Rows.rightHoldersRow.make)=true:=by kernel_rfl
theorem rjf0:joinedFacts Tryz.prog 3 Tryz.f3 Rows.rightHoldersSpec Rows.rightHoldersRow=true:=by
 exact M5
theorem rjh1:Tryz.prog.mainIs=some (Rows.rightHoldersCard.stood.harness.1,Rows.rightHoldersCard.stood.harness.2.toList):=by kernel_rfl
theorem rjh2:false=Tryz.prog.looks []:=by kernel_rfl
theorem rjh3:false=Rows.rightHoldersRow.goesBy Tryz.prog:=by kernel_rfl
theorem zh6:Rows.RightHoldersSaid:=
 OpenClaim.holds_of_wide 3 Tryz.f3 rfl rfl rfl rfl rfl rfl rfl ⟨rfl,rfl,rfl,rfl,rfl⟩ rfl rfl rfl rfl rfl Mcm Tryz.func3 rjf0
  (of_decide_eq_true Mcm) Mc1
  (fun os started H enc _=>zfZ os started H enc)
theorem rightHolders_holds:Rows.RightHoldersCardSaid:=
 Claim7.holds_tied_plain_at .later [] [.data, .data, .data, .data] true Rows.rightHoldersCard.stood.harness false zh6 (fun _ h=>by cases h) Mcm (fun _ h=>by cases h) rightHolders_row_tie rfl ⟨rfl,rfl⟩ rjh1 rfl
  (fun f fn hf wU=>by
    obtain rfl:f=3:=Option.some.inj ((show Tryz.prog.funcNamed "mortsafe/mortsafelaw05.RightHolders" =some 3 by kernel_rfl).symm.trans hf) |>.symm
    obtain rfl:fn=Tryz.f3:=(Option.some.inj (Tryz.func3.symm.trans wU)).symm
    exact⟨rjh2,fun j t ht=>by
     rw[Tryz.params3]at ht;have hm:t∈[25,9,3]:=by simpa using Array.mem_of_getElem? ht
     have aY:([25,9,3].all fun u=>!Tryz.prog.wantsStandIn u)=true:=Mcm
     exact(show Tryz.prog.wantsStandIn t=false by simpa using List.all_eq_true.1 aY t hm)⟩)
  rjh3
#print axioms rightHolders_holds
end Go.Proofs.YtckkbkdcdkhglaaGreatDoor
