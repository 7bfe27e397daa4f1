import Derived.Test.YtogklihlgindkaaGreatDoorYN
import Derived.Test.YtogklihlgindkaaGreatDoorCards
import Derived.SevenTiedAt
set_option linter.all false
set_option maxRecDepth 100000
set_option maxHeartbeats 4000000
namespace Go.Proofs.YtogklihlgindkaaGreatDoor
open Go ChangeShapes WideShapes ChangeAt RowKit Rows
open Go.Proofs.Tryz (prog f3 func3 checked params3)
def uL{W:World}(h:laidMetH prog rightTenuresRow.laid W):Laid5 W:=by
 rw[MakeChecks.laidMetH_plain _ _ _ McT]at h;have h':laidMet prog [("math/bits.deBruijn32tab",laid_math_bits_deBruijn32tab),("math/bits.deBruijn64tab",laid_math_bits_deBruijn64tab),("mortsafe/rule.lengths",laid_mortsafe_rule_lengths),("mortsafe/right.forms",laid_mortsafe_right_forms)] W:=h
 exact⟨zpY h'.tail.tail.tail,lens_laid h'.tail.tail,tz_laid h'.tail⟩
def zgg(os:Os)(st:os.Started)(H:Type)(enc:TypeId×Value->H):
 ReturnsInHanded {} checked os 3 .any (λw args=>(rightTenuresSpec.pre enc prog f3 rightTenuresRow.domain false w args/\laidMetH prog rightTenuresRow.laid w)/\sizedMet enc prog f3 (OpenSpec.ofChange rightTenuresSpec) false w args)
  (rightTenuresSpec.post enc prog f3 false true false false):=by
 refine zm9 (C:=checked) (X:=λw _=>laidMetH prog rightTenuresRow.laid w) (λ_ _ _ hh h=>h.of_heap hh) own_knob st McT func3
  (ChangeSpec.witness_shaped (enc:=enc) (C:=checked) (os:=os) (X:=λw _=>laidMetH prog rightTenuresRow.laid w) false (World.laidAll prog os rightTenuresRow.laid) #[.agg #[.slice none 0 0,.slice none 0 0],.string ⟨#[]⟩] 8 (World.laidAll_os _ _ _)
    (World.shaped_of_ZipB McT McT) McT McT McT
    (by rw[MakeChecks.laidMetH_plain _ _ _ McT];exact laidMet_laidAll _ McT McT)) ?_
 intro W base args ds gs bf qC hW Ax _;have hL:Laid5 W:=uL Ax;clear Ax;have iZ:∀(j:Nat) t v,f3.params[j]?=some t->args[j]?=some v->Value.okWide prog W .any base t v:=qC;have qb:=hW;obtain⟨p,q,FR,hV,rfl,DT,cY⟩:=hW;have hA:DataW.TrodAll enc prog W 0 (λ_=>true) true f3.params.toList args.toList ds p:=FR;rw[params3]at hA iZ;obtain⟨v0,vs0,d0,ds0,p0,q0,GR,rfl,rfl,h0,r0⟩:=trodAll_cons hA;obtain⟨v1,vs1,d1,ds1,p1,q1,rfl,rfl,rfl,h1,r1⟩:=trodAll_cons r0;obtain⟨rfl,rfl,rfl⟩:=trodAll_nil r1;obtain rfl:args= #[v0,v1]:=by cases args;simp_all
 obtain⟨rfl,rfl⟩:=trodVars_none hV;have k0:=h0;have k1:=h1;have lt0:∀x∈p0,x.block<W.heap.size:=by obtain⟨m,hm⟩:=k0;exact DataW.trod_lt m _ _ _ hm
 have lt1:∀x∈p1,x.block<W.heap.size:=by obtain⟨m,hm⟩:=k1;exact DataW.trod_lt m _ _ _ hm
 obtain⟨ls,ds,A0,nc0,B0,mc0,rfl,s9⟩:=znS (iZ 0 25 v0 rfl rfl) h0;obtain⟨pl,rfl⟩:=okWide_string Tryz.underlying9 (iZ 1 9 v1 rfl rfl);clear FR qC;refine(zhF ls ds A0 ls.length nc0 B0 ds.length mc0 pl W hL s9).mono λe W' ⟨he,z,hz⟩=>?_
 subst he;have bel:Qa W W':=by rw[hz];exact zan W z
 exact⟨_,rfl,_,_,_,[],_,[],qb,trodAll_mk1 (shut_bool Tryz.underlying4 _),(trodAll_cons_mk (Below.trod zoG McT (of_decide_eq_true McT) k0 bel lt0) (trodAll_cons_mk (Below.trod zoG McT (of_decide_eq_true McT) k1 bel lt1) trodAll_mk0)),rfl,bel.frame _,λh=>by cases h⟩
def uA{a b:Bool}(h1:a=true)(h2:b=true):(a&&b)=true:=by rw[h1,h2];rfl
def u1:(rightTenuresRow.inPlace==prog.inPlace 3)=true:=by kernel_rfl
def u2:(rightTenuresRow.unfollowed==prog.unfollowed 3)=true:=by kernel_rfl
def u3:(rightTenuresRow.recurses==prog.recurses 3)=true:=by kernel_rfl
def u4:(rightTenuresRow.named==prog.varsNamed 3)=true:=by kernel_rfl
def u5:laidOutB prog=true:=by kernel_rfl
def u6:mapsRowed prog=true:=by kernel_rfl
def u7:prog.stopsHeard=true:=by kernel_rfl
def u8:prog.mayEnter=true:=by kernel_rfl
def u9:(rightTenuresRow.plainKeys==prog.plainKeys)=true:=by kernel_rfl
def u10:(rightTenuresRow.lifted==prog.liftsFinal)=true:=by kernel_rfl
def u11:(prog.make==some rightTenuresRow.make)=true:=by kernel_rfl
def u0:joinedFacts prog 3 f3 rightTenuresSpec rightTenuresRow=true:=by
 unfold joinedFacts;repeat' with_reducible refine uA ?_ ?_
 all_goals first
  |with_reducible first|exact u1|exact u2|exact u3|exact u4|exact u5|exact u6|exact u7|exact u8|exact u9|exact u10|exact u11
  |kernel_rfl
def v_1:prog.mainIs=some (rightTenuresCard.stood.harness.1,rightTenuresCard.stood.harness.2.toList):=by kernel_rfl
def v_2:false=prog.looks []:=by kernel_rfl
def v_3:false=rightTenuresRow.goesBy prog:=by kernel_rfl
def zhG:RightTenuresSaid:=
 OpenClaim.holds_of_wide 3 f3 rfl rfl rfl rfl rfl rfl rfl ⟨rfl,rfl,rfl,rfl,rfl⟩ rfl rfl rfl rfl rfl McT func3 u0
  (of_decide_eq_true McT) (by unfold Func.isWrapper;first|(rw[if_pos (by decide+kernel)];kernel_rfl)|(rw[if_neg (by decide+kernel)];exact⟨rfl,rfl⟩))
  (λos st H enc _=>zgg os st H enc)
theorem rightTenures_holds:Rows.RightTenuresCardSaid:=
 Claim7.holds_tied_plain_at .later [] [.data,.data,.data,.data] true rightTenuresCard.stood.harness false zhG (λ_ h=>by cases h) McT (λ_ h=>by cases h) rightTenures_row_tie rfl ⟨rfl,rfl⟩ v_1 rfl
  (λf fn hf DR=>by
    obtain rfl:f=3:=Option.some.inj ((show prog.funcNamed "mortsafe/mortsafelaw05.RightTenures" =some 3 by kernel_rfl).symm.trans hf) |>.symm
    obtain rfl:fn=f3:=(Option.some.inj (func3.symm.trans DR)).symm
    exact⟨v_2,λj t ht=>by
     rw[params3]at ht;have hm:t∈[25,9]:=by simpa using Array.mem_of_getElem? ht
     have aV:([25,9].all λu=>!prog.wantsStandIn u)=true:=McT
     exact(show prog.wantsStandIn t=false by simpa using List.all_eq_true.1 aV t hm)⟩)
  v_3
#print axioms rightTenures_holds
