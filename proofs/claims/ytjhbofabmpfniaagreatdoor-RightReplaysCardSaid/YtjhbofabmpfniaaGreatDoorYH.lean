/- The law RightReplays, walked. -/
import Derived.Test.YtjhbofabmpfniaaGreatDoorXS
import Derived.Test.YtjhbofabmpfniaaGreatDoorCards
set_option linter.unusedSimpArgs false
set_option linter.unusedVariables false
set_option maxRecDepth 100000
set_option maxHeartbeats 4000000
namespace Go.Proofs.YtjhbofabmpfniaaGreatDoor
open Go.RowKit Go.Shelf
attribute [local go_sem] World.cell?_alloc_mark zae za3 zam za6 zas zat zau zav zaw zax zay
attribute [local go_sem] zaj zac
theorem zh9 (ls:List Law) (ds:List Deed) (LA:Option Addr) (n nc:Nat) (DA:Option Addr) (m mc:Nat) (w:World) (hL:Laid5 w) (hR:RightsIn w ls ds LA n nc DA m mc):
 Calls Tryz.prog 3 #[.agg #[.slice LA n nc, .slice DA m mc]] w (Ret w (.bool true)):=by
 have HL:=zHi hL;have HR:=zHi hR;have qt:=zHi (fun W (h:Below w.heap.size w W)=>few_any ls ds LA n nc DA m mc W (hR.keep h));clear hL hR;go_enter Tryz.func3,Tryz.ntmps3
 go_upto_region 1 with fail
 obtain⟨W0,ao⟩: ∃W0,W0=w.alloc (.cells #[.slice LA n nc, .slice DA m mc] 25):=⟨_,rfl⟩
 have b0:W0.heap[w.heap.size]?=some (.cells #[.slice LA n nc, .slice DA m mc] 25):=Mc9;have aJ:Below w.heap.size w W0:=McU;rw[<-ao];have ak:=zHi aJ;clear ao aJ;go_upto_region 3 with(go_at_call 13;go_must(refine(zpb _ (HL.o.keep ak.o)).mono ?_);rintro e wq ⟨rfl,z0,rfl⟩)
 have c0:(W0.ext z0).heap[w.heap.size]?=some (.cells #[.slice LA n nc, .slice DA m mc] 25):=zb2 b0;have bY:Below w.heap.size w (W0.ext z0):=zb6 ak.o z0;generalize W0.ext z0=W1 at*;have aA:=zHi bY;clear b0 ak bY;obtain⟨r0,r1⟩:=zbu c0;have l0:=zab c0;cases rX:fewP ls ds
 ·rw[rX]at qt;clear rX;go_wp2_with (go_at_call 14;go_must(refine(qt.o _ Mel).mono ?_);rintro e wq ⟨rfl,z,rfl⟩)
  go_ret
  exact Ret.of rfl (zb6 aA.o z)
 obtain⟨bJ,Dn,CO,ym⟩:=few_lens rX;rw[rX]at qt;clear rX;have lA:=zHi (fun W (h:Below w.heap.size w W)=>zpd ls ds LA n nc DA m mc W (HR.o.keep h) Mcn Mcn (fun d hd=>by have:=ym d hd;omega));have kQ:=zHi (fun A1 n1 B1 n2 W (h:Below w.heap.size w W) (hr:RightsIn W ls ds A1 ls.length n1 B1 ds.length n2)=>ziR ls ds A1 ls.length n1 B1 ds.length n2 W hr (HL.o.keep h).forms (HL.o.keep h).lens bJ);have fm:=zHi (fun W (h:Below w.heap.size w W)=>zeR ls ds 200000 LA n nc DA m mc W (HR.o.keep h) bJ Mcn);unfold zhp at fm;have ya:=zed ls ds;clear bJ Dn CO ym HR HL;rw[ya]at kQ;clear ya;generalize zaL ls ds 200000=Q at*;obtain⟨st,k,er⟩:=Q;simp only at kQ fm;go_upto_region 5 with(go_at_call 14;go_must(refine(qt.o _ Mel).mono ?_);rintro e wq ⟨rfl,z,rfl⟩)
 have c1:(W1.ext z).heap[w.heap.size]?=some (.cells #[.slice LA n nc, .slice DA m mc] 25):=zb2 c0;have bB:Below w.heap.size w (W1.ext z):=zb6 aA.o z;generalize W1.ext z=W2 at*;have aB:=zHi bB;have C1:=zHi c1;clear c0 r0 r1 l0 bB aA qt;obtain⟨r0,r1⟩:=zbu c1;have l0:=zab c1;have jk:=aB.o.size;clear c1
 go_upto_region 6 with(first
  |(go_at_call 16
    go_must(refine(lA.o _ aB.o).mono ?_)
    rintro e w5 ⟨A1,n1,B1,n2,rfl,pW,aq⟩;have yZ:=zHi pW;have bi:=zHi aq;have ze:=zHi (aB.o.trans (aq.mono jk))
    clear pW aq)
  |(go_at_call 15
    go_must(refine(kQ.o A1 n1 B1 n2 _ ze.o yZ.o).mono ?_)
    rintro e wq ⟨rfl,z5,rfl⟩))
 obtain⟨W6,dF⟩: ∃W6,W6=w5.ext z5:=⟨_,rfl⟩
 have aI:Below W2.heap.size W2 W6:=by rw[dF];exact zb6 bi.o z5
 have c2:=(aI.block _ l0).trans C1.o;have bV:=zHi (aB.o.trans (aI.mono jk));rw[<-dF];clear dF aI r0 r1 l0 ze yZ bi;obtain⟨r0,r1⟩:=zbu c2;have l0:=zab c2;have lU:=bV.o.size;clear c2
 go_wp2_with (go_at_call 17
              go_must(refine(fm.o _ bV.o).mono ?_)
              rintro e w7 ⟨b0,b1,b2,b3,b4,b5,b6,rfl,aP,bj,_⟩;obtain⟨⟨_,_,_,rfl⟩,⟨_,_,_,rfl⟩,⟨_,_,_,rfl⟩,⟨_,_,_,rfl⟩,⟨_,_,_,rfl⟩,⟨_,_,_,rfl⟩,⟨_,_,_,rfl⟩⟩:=zck aP;have bT:=zHi (bV.o.trans (bj.mono lU))
              clear bj aP)
 go_ret
 exact Ret.of rfl (zad bT.o _ (by have:=bT.o.size;omega))
end Go.Proofs.YtjhbofabmpfniaaGreatDoor
namespace Go.Proofs.YtjhbofabmpfniaaGreatDoor
open Go.ChangeShapes Go.WideShapes Go.ChangeAt Go.RowKit
theorem laid5_of {W:World} (h:laidMetH Tryz.prog Rows.rightReplaysRow.laid W):Laid5 W:=by
 rw[MakeChecks.laidMetH_plain _ _ _ (by kernel_rfl)]at h
 have h':laidMet Tryz.prog [("math/bits.deBruijn32tab",Rows.laid_math_bits_deBruijn32tab),("math/bits.deBruijn64tab",Rows.laid_math_bits_deBruijn64tab),("mortsafe/rule.lengths",Rows.laid_mortsafe_rule_lengths),("mortsafe/right.forms",Rows.laid_mortsafe_right_forms)] W:=h
 exact⟨zpc h'.tail.tail.tail,lens_laid h'.tail.tail,tz_laid h'.tail⟩
theorem zgh (os:Os) (started:os.Started) (H:Type) (enc:TypeId×Value->H):
 ReturnsInHanded {} Tryz.checked os 3 .any (fun w args=>(Rows.rightReplaysSpec.pre enc Tryz.prog Tryz.f3 Rows.rightReplaysRow.domain false w args/\laidMetH Tryz.prog Rows.rightReplaysRow.laid w)/\sizedMet enc Tryz.prog Tryz.f3 (OpenSpec.ofChange Rows.rightReplaysSpec) false w args)
  (Rows.rightReplaysSpec.post enc Tryz.prog Tryz.f3 false true false false):=by
 refine zlh (C:=Tryz.checked) (X:=fun w _=>laidMetH Tryz.prog Rows.rightReplaysRow.laid w) (fun _ _ _ hh h=>h.of_heap hh) own_knob started (by kernel_rfl) Tryz.func3
  (ChangeSpec.witness_shaped (enc:=enc) (C:=Tryz.checked) (os:=os) (X:=fun w _=>laidMetH Tryz.prog Rows.rightReplaysRow.laid w) false (World.laidAll Tryz.prog os Rows.rightReplaysRow.laid) #[.agg #[.slice none 0 0, .slice none 0 0]] 8 (World.laidAll_os _ _ _)
    (World.shaped_of_ZipB (by kernel_rfl) (by kernel_rfl)) (by kernel_rfl) (by kernel_rfl) (by kernel_rfl)
    (by rw[MakeChecks.laidMetH_plain _ _ _ (by kernel_rfl)];exact laidMet_laidAll _ (by kernel_rfl) (by kernel_rfl))) ?_
 intro W base args ds gs before hval0 hW hL0 _
 have hL:Laid5 W:=laid5_of hL0
 clear hL0
 have hval: ∀(j:Nat) t v,Tryz.f3.params[j]?=some t->args[j]?=some v->Value.okWide Tryz.prog W .any base t v:=hval0
 have hW':=hW
 obtain⟨p,q,hA0,hV,rfl,hfz,hnd⟩:=hW
 have hA:DataW.TrodAll enc Tryz.prog W 0 (fun _=>true) true Tryz.f3.params.toList args.toList ds p:=hA0
 rw[Tryz.params3]at hA hval
 obtain⟨v0,vs0,d0,ds0,p0,q0,hargs,rfl,rfl,h0,r0⟩:=trodAll_cons hA
 obtain⟨rfl,rfl,rfl⟩:=trodAll_nil r0
 obtain rfl:args= #[v0]:=by cases args;simp_all
 obtain⟨rfl,rfl⟩:=trodVars_none hV
 have k0:=h0
 have lt0: ∀x∈p0,x.block<W.heap.size:=by obtain⟨m,hm⟩:=k0;exact DataW.trod_lt m _ _ _ hm
 obtain⟨ls,ds,A0,nc0,B0,mc0,rfl,hR0⟩:=zns (hval 0 25 v0 rfl rfl) h0
 clear hA0 hval0
 refine(zh9 ls ds A0 ls.length nc0 B0 ds.length mc0 W hL hR0).mono fun e W' ⟨he,z,hz⟩=> ?_
 subst he
 have bel:Below W.heap.size W W':=by rw[hz];exact zaq W z
 exact⟨_,rfl,_,_,_,[],_,[],hW',trodAll_mk1 (shut_bool Tryz.underlying4 _),(trodAll_cons_mk (Below.trod laid_out (by kernel_rfl) (of_decide_eq_true (by kernel_rfl)) k0 bel lt0) trodAll_mk0),rfl,bel.frame _,fun h=>by cases h⟩
end Go.Proofs.YtjhbofabmpfniaaGreatDoor
