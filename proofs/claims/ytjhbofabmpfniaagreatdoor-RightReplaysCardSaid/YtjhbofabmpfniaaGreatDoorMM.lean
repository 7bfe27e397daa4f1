/- Proofs that are used more than once. -/
import Derived.WalkLawsBesides
import Derived.WalkSpells
import Derived.BigQuiet
import Derived.Lib.Hide
import Derived.Deep.CutBlock
namespace Go.Proofs.YtjhbofabmpfniaaGreatDoor
variable {P:Prop}
theorem Ma (h:P:=by
 intro v4 w4 g1 g2 g3;obtain⟨A7,c7,j8,_,_⟩:=g1.sl zaD;rw[List.length_append]at j8;subst j8;have FR4:Fr2 w w4 (.slice KA ks.length kc) (.slice QA pz.length qc):=(FR3.below Bw).row g2 (fun j hj=> .inr (.inl hj));have dB: ∀g,zaA (.slice A6 (ks.length+[q.name].length) c6)=some g->zaA (.slice QA pz.length qc)≠some g:=fun g e1 e2=>by
  rcases h3 g e1 with h|h
  ·exact fD.out g h e2
  ·have:=(df.out.ge g e2).2;omega
 have oa4:OwnS w4 base 9 1 sC (.slice A6 (ks.length+[q.name].length) c6) (ks++[q.name]):=(h1.keep (n:=w3.heap.size) Bw).grown g2 (by
  cases hb:zaA (.slice A6 (ks.length+[q.name].length) c6)with
  |none=>exact .inl rfl
  |some g=>exact .inr fun e=>dB g hb e.symm)
 have s4:=g2.size;(try simp only[World.size_alloc,World.size_drew]at s4 g3)
 have b1: ∀g,zaA (.slice A6 (ks.length+[q.name].length) c6)=some g->zaA (.slice KA ks.length kc)=some g\/w.heap.size<=g:=fun g e=>by
  rcases h3 g e with h|h
  ·exact .inl h
  ·right;omega
 have b2: ∀g,zaA (.slice A7 (pz.length+[fr].length) c7)=some g->zaA (.slice QA pz.length qc)=some g\/w.heap.size<=g:=fun g e=>by
  rcases g3 g e with h|h
  ·exact .inl h
  ·right;omega
 have b12: ∀g,zaA (.slice A6 (ks.length+[q.name].length) c6)=some g->zaA (.slice A7 (pz.length+[fr].length) c7)≠some g:=fun g e1 e2=>by
  rcases g3 g e2 with h|h
  ·exact dB g e1 h
  ·have:=(h1.ge g e1).2;omega
 refine NxM hK (fun hHeld=> ?_) (aG.out _ FR4);clear hK K;refine OnM 28 true fun K hK=> ?_
 obtain⟨w5,x5,st5,m5,j5,pW,iY,pX,nC,nz,DT⟩:=zgo zmE (FR4.mapS fO.out df.out jS.out) fr;refine zhk rfl _ _ rfl _ _ _ rfl rfl w5 pW ?_;refine NxM hK fun hHeld=> ?_
 clear hK K;refine OnM 29 true fun K hK=> ?_
 go_simp
 refine NxM hK fun hHeld=> ?_
 clear hK K;refine OnM 30 true fun K hK=> ?_
 obtain⟨w6,eK,iT,bG,GJ⟩:=zdM (P:=Tryz.prog) iY nC 134 (.slice A6 (ks.length+[q.name].length) c6);refine zgd rfl _ _ _ rfl _ _ _ rfl rfl rfl w6 eK ?_;rw[pX]at iT;refine NxM hK fun hHeld=> ?_
 clear hK K;refine OnM 31 true fun K hK=> ?_
 have pA:cc≠pp:=by
  have:=HP.out.nd;simp only[List.nodup_cons,List.mem_cons,List.not_mem_nil,or_false,not_or]at this;exact this.2.1.1
 have xz:MapS w6 pp ekS (fun v:Value=>v) mp:=((FR4.mapS fO.out df.out br.out).grown nz (by simpa using fun e=>pA e.symm)).grown bG (by simpa using fun e=>pA e.symm);obtain⟨w7,x7,st7,m7,j7,xS,kB,pY,FW,nA,GK⟩:=zgo zmE xz q.name;refine zhk rfl _ _ rfl _ _ _ rfl rfl w7 xS ?_;refine NxM hK fun hHeld=> ?_
 clear hK K;refine OnM 32 true fun K hK=> ?_
 go_simp
 refine NxM hK fun hHeld=> ?_
 clear hK K;refine OnM 33 true fun K hK=> ?_
 obtain⟨w8,Gq,Ag,tJ,hz8⟩:=zdM (P:=Tryz.prog) kB FW 134 (.slice A7 (pz.length+[fr].length) c7);refine zgd rfl _ _ _ rfl _ _ _ rfl rfl rfl w8 Gq ?_;rw[pY]at Ag;refine NxM hK fun hHeld=> ?_
 clear hK K;refine zaN Mco ?_ _;have xv:=(iT.grown nA (by simpa using pA)).grown tJ (by simpa using pA);have Dl: ∀k,k<w4.heap.size->k≠cc->k≠pp->w8.heap[k]?=w4.heap[k]?:=fun k hk e1 e2=>
  (((tJ.block k Mcn (by simpa using e2)).trans (nA.block k Mcn (by simpa using e2))).trans (bG.block k Mcn (by simpa using e1))).trans (nz.block k hk (by simpa using e1))
 have wA:=zbw (FR4.mapS fO.out df.out jS.out);have xO:=zbw (FR4.mapS fO.out df.out br.out);have ju: ∀(g:Nat) (cur:Array Value),w4.heap[g]?=some (.cells cur 9 (0,0))->w8.heap[g]?=w4.heap[g]?:=fun g cur hg=>by
  obtain⟨es1,x1,ke⟩:=wA;obtain⟨es2,x2,dC⟩:=xO;exact Dl g (zab hg) (fun e=>by subst e;rw[ke]at hg;simp at hg) (fun e=>by subst e;rw[dC]at hg;simp at hg)
 have oa8:=oa4.same (W':=w8) (fun g cur _ hg=>ju g cur hg);have ob8:=g1.same (W':=w8) (fun g cur _ hg=>ju g cur hg);have zw: ∀k,k<w.heap.size->k≠cc->k≠pp->zaA (.slice KA ks.length kc)≠some k->zaA (.slice QA pz.length qc)≠some k->w8.heap[k]?=w.heap[k]?:=fun k hk e1 e2 e3 e4=>
  (Dl k (by have:=FR4.size;omega) e1 e2).trans (FR4.block k hk e3 e4)
 have tD:=wld_child aY HC.out HP.out HT.out jS.out br.out lP.out Ir.out yZ.out sZ.out (by rw[ic.out];exact fO.out) yQ.out (by rw[kO.out];exact df.out) fN.out (by rw[ic.out];exact oa8) (by rw[kO.out];exact ob8) b1 b2 b12 xv Ag zw;have fA:=HP.out.ge;have qV:Below base w w8:=⟨tJ.os.trans (nA.os.trans (bG.os.trans (nz.os.trans FR4.os))),tJ.tape.trans (nA.tape.trans (bG.tape.trans (nz.tape.trans FR4.tape))),tJ.output.trans (nA.output.trans (bG.output.trans (nz.output.trans FR4.output))),by have:=FR4.size;omega,fun k hk=>zw k (by have:=HW.out.lt;omega) Mcn Mcn (fun e=>by have:=(fO.out.ge k e).1;omega) (fun e=>by have:=(df.out.ge k e).1;omega)⟩
 have F8:KeepD w w8:=fun k cur f hk=>zw k (zab hk) (fun e=>by obtain⟨_,_,hx⟩:=zbw jS.out;rw[e,hx]at hk;simp at hk) (fun e=>by obtain⟨_,_,hx⟩:=zbw br.out;rw[e,hx]at hk;simp at hk)
  (fun e=>by obtain⟨_,hx⟩:=zfu fO.out e;have:=Option.some.inj (hx.symm.trans hk);simp only[Obj.cells.injEq]at this;exact absurd this.2.1 Mcp)
  (fun e=>by obtain⟨_,hx⟩:=zfu df.out e;have:=Option.some.inj (hx.symm.trans hk);simp only[Obj.cells.injEq]at this;exact absurd this.2.1 Mcp)
 have jQ:=Lib.hid F8;have IK:=Lib.hid tD;have kH:=Lib.hid qV;clear F8 tD qV zw Dl ju oa8 ob8 wA xO xv Ag tJ Gq kB pY FW nA xS xz iT bG eK iY pX nC nz pW b1 b2 b12 oa4 dB FR4 g1 g2 g3 ob3 FR3 h1 h2 h3;go_wp2_with fail
 go_ret
 have hX:=ji.out;simp only[Bool.false_eq_true,if_false]at hX;rw[if_neg (by simpa using H2.out)]at hX;rw[hX]
 exact⟨rfl,IK.out,kH.out,jQ.out⟩):P:=h
theorem Mb (h:P:=by
 clear eG df;go_upto_region 9 with fail
 have i1:=bX.out wr (Below.refl _ _);refine zaC 10 (fun bb w'=>bb=true\/w'.cell? ⟨b,off+k,none⟩=some (.string x)) Mco (.inr (bX.out _ (zaH (Below.refl _ _)))) ?hrest
 case hrest=>
  intro hHeld;refine TkM 5 ?_;refine TkM 6 ?_;refine TkM 7 ?_;refine TkM 8 ?_;refine TkM 1 ?_;refine TkM 2 ?_;refine TkM 3 ?_;refine FrM 11 false ?_;refine FrM 12 false ?_;refine FrM 13 false ?_;refine TwM 0 9 (fun K hK=> ?_) fun K hK=> ?_
  ·go_simp
   have e0:Below wr.heap.size wr (wr.drew.alloc (.cells #[] 9)):=zad (zaH (Below.refl _ _)) _;refine NxM hK (fun hHeld=> ?_) (.inr (bX.out _ e0));clear hK K;refine TwM 4 9 (fun K hK=> ?_) fun K hK=> ?_
   ·refine zak (v:= .slice (some ⟨wr.heap.size,0,none⟩) 0 0) (n:=0) (m:=a) rfl _ _ rfl zbL zaD zbK rfl (xs:=[]) (ys:=xs.take a) (zgJ wr.drew wr.heap.size (Nat.le_refl _)) rfl rfl (eR.out.symm) (qK.out _ e0) Mcx McM Mcy ?_;intro v4 w4 h1 h2 h3;rw[List.nil_append]at h1;obtain⟨V4,c4,b8,_,_⟩:=h1.sl zaD;rw[eR.out]at b8;subst b8;have aC:Below wr.heap.size wr w4:=Below.grown e0 h2 Mdn (fun j hj=>by simp[zaA]at hj;omega);refine NxM hK (fun hHeld=> ?_) (.inr (bX.out _ aC));clear hK K;refine OnM 9 false fun K hK=> ?_
    go_simp
    have e1:Below wr.heap.size wr (w4.alloc (.cells #[.string x] 9)):=zad aC _;have n1:(w4.alloc (.cells #[.string x] 9)).heap[w4.heap.size]?=some (.cells #[.string x] 9):=zar _ _ _ rfl;have o1:OwnS (w4.alloc (.cells #[.string x] 9)) wr.heap.size 9 1 sC (.slice V4 a c4) (xs.take a):=h1.keep (n:=w4.heap.size) (zad (Below.refl _ _) _);refine NxM hK (fun hHeld=> ?_) (.inr (bX.out _ e1));clear hK K;refine OnM 10 true fun K hK=> ?_
    refine zak (v:= .slice V4 a c4) (n:=a) (m:=1) rfl _ _ rfl zbL zaD zbK rfl (xs:=xs.take a) (ys:=[x]) (o1) eR.out rfl rfl (zga n1) Mcx McM Mcu ?_;intro v5 w5 g1 g2 g3;obtain⟨A5,c5,ed,_,_⟩:=g1.sl zaD;rw[List.length_append,eR.out]at ed;subst ed;have aq:Below wr.heap.size wr w5:=Below.grown e1 g2 McI (fun j hj=>((o1).ge j hj).1);exact MbT
   ·go_simp
    have e1:Below wr.heap.size wr ((wr.drew.alloc (.cells #[] 9)).alloc (.cells #[.string x] 9)):=zad e0 _;have n1:((wr.drew.alloc (.cells #[] 9)).alloc (.cells #[.string x] 9)).heap[wr.heap.size+1]?=some (.cells #[.string x] 9):=zar _ _ _ Mcq;have m1:OwnS ((wr.drew.alloc (.cells #[] 9)).alloc (.cells #[.string x] 9)) wr.heap.size 9 1 sC (.slice (some ⟨wr.heap.size,0,none⟩) 0 0) []:=(zgJ wr.drew wr.heap.size (Nat.le_refl _)).keep (n:=(wr.drew.alloc (.cells #[] 9)).heap.size) (zad (Below.refl _ _) _);refine NxM hK (fun hHeld=> ?_) (.inr (bX.out _ e1));clear hK K;refine OnM 4 false fun K hK=> ?_
    refine zak (v:= .slice (some ⟨wr.heap.size,0,none⟩) 0 0) (n:=0) (m:=a) rfl _ _ rfl zbL zaD zbK rfl (xs:=[]) (ys:=xs.take a) (m1) rfl rfl (eR.out.symm) (qK.out _ e1) Mcx McM Mcu ?_;intro v4 w4 h1 h2 h3;rw[List.nil_append]at h1;obtain⟨V4,c4,b8,_,_⟩:=h1.sl zaD;rw[eR.out]at b8;subst b8;have aC:Below wr.heap.size wr w4:=Below.grown e1 h2 McI (fun j hj=>by simp[zaA]at hj;omega);have n2:w4.heap[wr.heap.size+1]?=some (.cells #[.string x] 9):=(h2.block _ McE Mdg).trans n1;exact Mci
  ·go_simp
   have e0:Below wr.heap.size wr (wr.drew.alloc (.cells #[.string x] 9)):=zad (zaH (Below.refl _ _)) _;have n0:(wr.drew.alloc (.cells #[.string x] 9)).heap[wr.heap.size]?=some (.cells #[.string x] 9):=zar _ _ _ rfl;refine NxM hK (fun hHeld=> ?_) (.inr (bX.out _ e0));clear hK K;refine OnM 0 false fun K hK=> ?_
   go_simp
   have e1:Below wr.heap.size wr ((wr.drew.alloc (.cells #[.string x] 9)).alloc (.cells #[] 9)):=zad e0 _;have n1:((wr.drew.alloc (.cells #[.string x] 9)).alloc (.cells #[] 9)).heap[wr.heap.size]?=some (.cells #[.string x] 9):=zal n0;refine NxM hK (fun hHeld=> ?_) (.inr (bX.out _ e1));clear hK K;refine OnM 4 false fun K hK=> ?_
   have m1:OwnS ((wr.drew.alloc (.cells #[.string x] 9)).alloc (.cells #[] 9)) wr.heap.size 9 1 sC (.slice (some ⟨wr.heap.size+1,0,none⟩) 0 0) []:=by
    exact Mce
   refine zak (v:= .slice (some ⟨wr.heap.size+1,0,none⟩) 0 0) (n:=0) (m:=a) rfl _ _ rfl zbL zaD zbK rfl (xs:=[]) (ys:=xs.take a) (m1) rfl rfl (eR.out.symm) (qK.out _ e1) Mcx McM Mcu ?_;intro v4 w4 h1 h2 h3;rw[List.nil_append]at h1;obtain⟨V4,c4,b8,_,_⟩:=h1.sl zaD;rw[eR.out]at b8;subst b8;have aC:Below wr.heap.size wr w4:=Below.grown e1 h2 McI (fun j hj=>by simp[zaA]at hj;omega);have n2:w4.heap[wr.heap.size]?=some (.cells #[.string x] 9):=(h2.block _ McE Mdg).trans n1
   exact Mci):P:=h
theorem Mc (h:P:=by
 go_simp
 refine hK.out _ _ ?_ (fun hHeld=> ?_);focus((try dsimp only);refine⟨?_,?_,?_,?_,?_⟩<;>first|assumption|(simp[go_sem,fI,fJ,aP];done)|(simp[go_sem,a0,a1,a2,l5,l6,yp,yL];done)|(simp[go_sem,z0,z1,z2,z5,z6,zx,zy];done))
 clear hK K;try simp only[Act.put,List.setIfInBounds_toArray,List.set_cons_zero,List.set_cons_succ]
 refine OnH 10 fun K hK=> ?_
 refine zak (v:= .slice A1 out.length c1) (n:=out.length) (m:=1) rfl _ _ rfl zdU zao zce rfl (xs:=out) (ys:=[(pn,zbg (pq/lf))]) (YO.out.keep (n:=w5.heap.size) Bw) rfl rfl rfl (sl_part (zar _ _ _ rfl)) McL Mcn Mcr ?_;intro v6 w6 h1 h2 h3;obtain⟨A6,c6,dA,_,_⟩:=h1.sl zao;rw[List.length_append]at dA;subst dA;have zT:zbt w6 W0.heap.size gpl gcl frm gfin (.slice A1 out.length c1) (.slice D gdi.length dc):=(h2.block _ Mcr (fun e=>zhJ YO.out YT.out Mcp e.symm)).trans (zal YT.out);have z4:w6.cell? ⟨W0.heap.size,4,none⟩=some (.slice A1 out.length c1):=by unfold zbt at zT;simp only[World.cell?,zT];rfl
 have f4:w6.frozen? ⟨W0.heap.size,4,none⟩=false:=by unfold zbt at zT;simp only[World.frozen?,zT];rfl
 have zL:w6.heap[L]?=some (zbr lf):=(h2.block _ Mcr (fun e=>zhJ YO.out YL.out Mcp e.symm)).trans (zal YL.out);have z5:w6.cell? ⟨L,0,none⟩=some (.int .i64 lf.num):=by simp only[World.cell?,zL,zbr];rfl
 have z6:w6.cell? ⟨L,1,none⟩=some (.int .i64 lf.den):=by simp only[World.cell?,zL,zbr];rfl
 have zP:w6.heap[wr.heap.size]?=some (.cells #[.string pn, .int .i64 pq.num, .int .i64 pq.den] 75):=(h2.block _ Mcr (fun e=>by have:=(dV.out.ge _ e.symm).2;omega)).trans (zal Y0.out);obtain⟨z0,z1,z2⟩:=cF3 zP;have zl:=zab zT;have zx:wr.heap.size≠W0.heap.size:=Mcn;have zy:L≠W0.heap.size:=Mcn;have ZT:=Lib.hid zT;have ZL:=Lib.hid zL;have H1:=Lib.hid h1;have H2:=Lib.hid h2;have H3:=Lib.hid h3;clear zT zL zP h1 h2 h3;refine hK.out _ _ ?_ (fun hHeld=> ?_);focus((try dsimp only);refine⟨?_,?_,?_,?_,?_⟩<;>first|assumption|(simp[go_sem,fI,fJ,aP];done)|(simp[go_sem,a0,a1,a2,l5,l6,yp,yL];done)|(simp[go_sem,z0,z1,z2,z5,z6,zx,zy];done))
 clear hK K;try simp only[Act.put,List.setIfInBounds_toArray,List.set_cons_zero,List.set_cons_succ]
 refine TkH 11 ?_;refine OnH 12 fun K hK=> ?_
 go_simp
 refine hK.out _ _ ?_ (fun hHeld=> ?_);focus((try dsimp only);refine⟨?_,?_,?_,?_,?_⟩<;>first|assumption|(simp[go_sem,fI,fJ,aP];done)|(simp[go_sem,a0,a1,a2,l5,l6,yp,yL];done)|(simp[go_sem,z0,z1,z2,z5,z6,zx,zy];done))
 clear hK K;try simp only[Act.put,List.setIfInBounds_toArray,List.set_cons_zero,List.set_cons_succ]
 refine wpAnyH_done Mco ?_ _;have L3:zaA (.slice A6 (out.length+[(pn,zbg (pq/lf))].length) c6)≠some W0.heap.size:=fun e=>by
  rcases H3.out _ e with h|h
  ·exact zhJ YO.out YT.out Mcp h
  ·simp at h;omega
 have r1:MarkAt (w6.setCell ⟨W0.heap.size,4,none⟩ (.slice A6 (out.length+[(pn,zbg (pq/lf))].length) c6)) C (fl||bigQ (pq/lf)):=
  J_ne Mcn ((H2.out.block C (by have:=zab N1.out;simp;omega) (fun e=>by have:=(dV.out.ge _ e.symm).1;omega)).trans (zal N1.out))
 have r2:=zg0 ZT.out (.slice A6 (out.length+[(pn,zbg (pq/lf))].length) c6);have r3:OwnS (w6.setCell ⟨W0.heap.size,4,none⟩ (.slice A6 (out.length+[(pn,zbg (pq/lf))].length) c6)) W0.heap.size 75 3 zaa (.slice A6 (out.length+[(pn,zbg (pq/lf))].length) c6) (out++[(pn,zbg (pq/lf))]):=H1.out.grown (zaz _ _ _ _) (.inr L3);have r4:(w6.setCell ⟨W0.heap.size,4,none⟩ (.slice A6 (out.length+[(pn,zbg (pq/lf))].length) c6)).heap[L]?=some (zbr lf):=J_ne Mcn ZL.out;have r5:Below C W0 w5:=zaS (W:=(wr.alloc (.cells #[.string pn, .int .i64 pq.num, .int .i64 pq.den] 75)).drew) (zaH (zad sO.out _ Mcn)) N2.out (Nat.le_refl _);have r6:Below C W0 w6:=Below.grown (zad r5 _ Mcn) H2.out (by have:=r5.size;simp;omega) (fun j hj=>by have:=(dV.out.ge _ hj).1;omega);have r7:Below C W0 (w6.setCell ⟨W0.heap.size,4,none⟩ (.slice A6 (out.length+[(pn,zbg (pq/lf))].length) c6)):=zaM r6 (by show C<=W0.heap.size;omega) _;have r8:L<w6.heap.size:=zab ZL.out;have R1:=Lib.hid r1;have R2:=Lib.hid r2;have R3:=Lib.hid r3;have R4:=Lib.hid r4;have R7:=Lib.hid r7;have pE:=dE.out;rw[eP.out]at pE;simp only[Bool.false_eq_true,if_false]at pE;have AP:=Lib.hid pE;clear r1 r2 r3 r4 r5 r6 r7 pE a0 a1 a2 l5 l6 y2 z4 f4 z5 z6 z0 z1 z2;go_wp2_with fail
 go_round
 case rel=>exact⟨k+1,_,out++[(pn,zbg (pq/lf))],_,by omega,by go_num,AP.out.symm,R1.out,R2.out,R3.out,R4.out,R7.out,by simp;omega⟩
 case measure=>simp[intOf];omega):P:=h
theorem Md (h:P:=by
 have d1:wq.cell? ⟨w.heap.size,1,none⟩=some (.int .i64 dy):=by simp only[World.cell?,mZ.out];rfl
 have od:=nM.out;have CI:=zab od;have JW:=zab mZ.out;unfold WldC at od;obtain⟨-,-,-,-,-,-,-,z7,z8⟩:=cF9 od;have f7:wq.frozen? ⟨b,7,none⟩=false:=by simp only[World.frozen?,od];rfl
 have f8:wq.frozen? ⟨b,8,none⟩=false:=by simp only[World.frozen?,od];rfl
 have hwb:w.heap.size≠b:=fun e=>Nat.lt_irrefl _ (e▸cW)
 clear od;have qV:Below base w wq:=Below.trans (Below.mono (B:=w.heap.size) Bw (Nat.le_of_lt (Nat.lt_of_le_of_lt aY cW))) nL.out;have kH:=Lib.hid qV;clear qV;by_cases h0:er=0
 ·subst h0;have l9:=wrap_k xb;have u9:=znd xb;go_wp2_with fail
  go_region
  all_goals go_wp2_with fail
  all_goals go_ret
  all_goals exact taken_ok (wld_drew (wld_tick nk.out dy ((k:Int)+1))) (zaH (zaM (zaM kH.out eo _) eo _))
 ·go_wp2_with fail
  go_ret
  exact taken_no h0 nk.out kH.out):P:=h
theorem Me (h:P:=by
 have HE:=Lib.hid (HG.out rfl);have sf:=frz xs0;have jX:=HF.out.dead;clear HG da;go_upto_region 24 with fail
 obtain⟨U1,ry⟩: ∃U1,U1=WR.setCell ⟨w.heap.size,6,none⟩ (.slice V2 s.graves.length c2'):=⟨_,rfl⟩
 have u0:U1.heap[w.heap.size]?=some (.cells #[.slice LA laws.length c0, .slice CA s.children.length c1, .slice MA s.marriages.length c2, .slice DA s.dead.length c3, .slice WA wd.length c4, .slice RA rd.length c5, .slice V2 s.graves.length c2'] 36):=by
  rw[ry];have:=Joins.block_setCell (i:=6) xs0 (.slice V2 s.graves.length c2');simpa using this
 have u1:U1.heap[w.heap.size+1]?=some (.cells #[.slice none 0 0, .slice none 0 0, .slice none 0 0, .slice none 0 0, .slice none 0 0, .slice none 0 0, .slice none 0 0] 36):=by rw[ry];exact J_ne Mcn xr0
 have CG:Below w.heap.size w U1:=by rw[ry];exact zaM (ak.out.trans (aW.out.mono aw)) (Nat.le_refl _) _
 have wV:WR.grownBy U1 (some w.heap.size):=by rw[ry];exact zaz _ _ _ _
 have Gr:s.graves≠[]->RowC U1 49 ga go 5 (dx.map GX.cells):=fun ai=>by
  have h:=Bu.out ai;rw[Df,List.append_nil]at h;rw[ry];exact h.ne (zmq h xs0 Mcp)
 have Is:=Lib.hid Gr;have AH:=Lib.hid (fun y hy=>((fX.out y hy).keptS wV xs0:okR gxs U1 y));have Ha:=Lib.hid CG;have IE:=Lib.hid u1;have ID:=Lib.hid u0;have JA:=CG.size;rw[<-ry];clear ry Gr wV sf;clear xs0 xr0 s0 s1 s2 s3 s4 s5 s6 r0 r1 r2 r3 r4 r5 r6 rf ls lr;obtain⟨s0,s1,s2,s3,s4,s5,s6⟩:=zaG u0;have ls:=zab u0;have lr:=zab u1;clear u0 u1;have jO:=Lib.hid (H.out U1 CG).dead
 go_upto_region 25 with(first
  |(at_builtin
    go_loud(refine za1 (v:= .slice (some ⟨U1.heap.size,0,none⟩) 0 0) (n:=0) (m:=s.dead.length) rfl _ _ rfl zbL zaD zbK rfl (xs:=[]) (ys:=s.dead) (zdY zaD U1 U1.heap.size (Nat.le_refl _)) rfl rfl rfl (jO.out.keep (zad (Below.refl _ _) _)) McW Mcn Mcq ?_)
    intro v3 w3 h1 h2 h3;rw[List.nil_append]at h1;have ay:Below U1.heap.size U1 w3:=Below.grown (zad (Below.refl _ _) _) h2 Mcq Mc1;obtain⟨V3,vc3,rfl,_,_⟩:=h1.sl zaD;have nh:=Lib.hid h1;have ll:=Lib.hid ay;have qT:=ay.size
    clear h1 h2 h3 ay)
  |(at_builtin
    go_loud(refine za1 (v:= .slice V3 s.dead.length vc3) (n:=s.dead.length) (m:=1) rfl _ _ rfl zbL zaD zbK rfl (xs:=s.dead) (ys:=[n]) (nh.out.keep (n:=w3.heap.size) (zad (Below.refl _ _) _)) rfl rfl rfl (zdj (zar _ _ _ rfl)) McW Mcn Mcr ?_)
    intro v6 w6 h1 h2 h3;have aI:Below U1.heap.size U1 w6:=Below.grown (zad ll.out _) h2 Mcr (fun j hj=>(nh.out.ge j hj).1);obtain⟨A6,vc6,dA,_,xj⟩:=h1.sl zaD;have j8:v6= .slice A6 (s.dead.length+1) vc6:=by rw[dA,List.length_append];rfl
    clear dA;subst j8;have lJ:=Lib.hid h1;have eN:=Lib.hid aI;have AX:=Lib.hid xj;have x6:=(aI.block w.heap.size ls).trans ID.out;have z6:=(aI.block (w.heap.size+1) lr).trans IE.out;have zg:=Lib.hid x6;have IO:=Lib.hid z6;have sf6:=frz x6;obtain⟨_,_,_,p3,_,_,_⟩:=zaG x6;have ls6:=zab x6
    clear h1 h2 h3 aI xj x6 z6))
 obtain⟨U7,rz⟩: ∃U7,U7=w6.setCell ⟨w.heap.size,3,none⟩ (.slice A6 (s.dead.length+1) vc6):=⟨_,rfl⟩
 have y7:U7.heap[w.heap.size]?=some (.cells #[.slice LA laws.length c0, .slice CA s.children.length c1, .slice MA s.marriages.length c2, .slice A6 (s.dead.length+1) vc6, .slice WA wd.length c4, .slice RA rd.length c5, .slice V2 s.graves.length c2'] 36):=by
  rw[rz];have:=Joins.block_setCell (i:=3) zg.out (.slice A6 (s.dead.length+1) vc6);simpa using this
 have z7:U7.heap[w.heap.size+1]?=some (.cells #[.slice none 0 0, .slice none 0 0, .slice none 0 0, .slice none 0 0, .slice none 0 0, .slice none 0 0, .slice none 0 0] 36):=by rw[rz];exact J_ne Mcn IO.out
 have bj:Below w.heap.size w U7:=by rw[rz];exact zaM (Ha.out.trans (eN.out.mono JA)) (Nat.le_refl _) _
 have sb:w6.grownBy U7 (some w.heap.size):=by rw[rz];exact zaz _ _ _ _
 have hS7:Sl U7 5 GX.cells V2 dx:=by
  by_cases ai:s.graves=[]
  ·have h0:dx.length=0:=by rw[iv];rw[ai]at hk;simpa using hk
   rw[List.eq_nil_of_length_eq_zero h0];exact Sl.nil
  ·obtain⟨e,_⟩:=HV.out ai;have h:=(Is.out ai).keep eN.out;rw[e,rz];exact(h.ne (zmq h zg.out Mcp)).sl rfl
 have xJ: ∀x∈dx,x.ok U7:=fun x hx=>by
  rcases((AH.out x hx).keep eN.out).keptS sb zg.out with h|⟨h1,h2⟩
  ·exact(dI.out x h).keep bj
  ·exact⟨h1.sl zao,h2.sl zaD⟩
 have h':=H.out U7 bj;have aD:Hid (StAt U7 laws R.1 (.slice LA laws.length c0) (.slice CA s.children.length c1) (.slice MA s.marriages.length c2) (.slice A6 (s.dead.length+1) vc6) (.slice WA wd.length c4) (.slice RA rd.length c5) (.slice V2 s.graves.length c2')):=by
  show StAt _ _ _ _ _ _ _ _ _ _;rw[HE.out];refine⟨wd,rd,LA,CA,MA,A6,WA,RA,V2,c0,c1,c2,vc6,c4,c5,c2',rfl,rfl,rfl,?_,rfl,rfl,?_,⟨h'.laws,h'.kids,h'.marr,?_,h'.wills,h'.ren,slw_gx hS7 rfl xJ,AX.out⟩,⟨HK.out.wills,HK.out.shares,HK.out.ren,HK.out.tos⟩⟩
  ·show _=Value.slice A6 (s.dead++[n]).length vc6;rw[List.length_append];rfl
  ·show _=Value.slice V2 (dx.map (·.g)).length c2';rw[List.length_map,iv,kx]
  ·exact(lJ.out.ro'.kept sb zg.out Mcp).sl zaD
 rw[<-rz];have bT:=Lib.hid bj;have zj:=Lib.hid z7;clear rz hS7 xJ h' sb bj s0 s1 s2 s3 s4 s5 s6 ls lr p3 sf6 ls6;obtain⟨s0,s1,s2,s3,s4,s5,s6⟩:=zaG y7;obtain⟨r0,r1,r2,r3,r4,r5,r6⟩:=zaG z7;have rf:=frz z7;have ls:=zab y7;have lr:=zab z7;clear y7 z7;go_wp2_with fail
 refine bodyPost_ret (zbB rfl _ rfl rfl (zc0 zj.out)) rfl ?_
 exact⟨_,_,_,_,_,_,_,true,rfl,rfl,zc9 bT.out (show w.heap.size<=w.heap.size+1 by omega), .inl ⟨rfl,by rw[HE.out],(zc3 zj.out rfl).st aD.out⟩⟩):P:=h
theorem Mf (h:P:=by
 clear hR;go_wp2_with fail
 go_ret
 rw[HR.out]
 exact Ret.of (zaQ (by first|rfl|(simp[*];done))) (HB.out.trans (Below.mono (B:=wc.heap.size) Bw HB.out.size))):P:=h
theorem Mg (h:P:=by
 go_wp2_with fail
 rw[HE.out];refine bodyPost_ret (zbB rfl _ rfl rfl (zc0 xr0)) rfl ?_
 exact⟨_,_,_,_,_,_,_,rfl,rfl,zc9 (ak.out.trans (bf.mono aw)) (show w.heap.size<=w.heap.size+2 by omega),fun e=>by cases e⟩):P:=h
theorem Mh (h:P:=by
 (go_wp2_with fail
  go_ret
  exact Ret.of (zb1 (by rw[HR.out];simp[zcs,p1,p2,isDay0,inR04,inR14,inR24,inR34,inR44, *])) (HB.out.trans (Below.mono (B:=wc.heap.size) Bw hs)))):P:=h
theorem Mi (h:P:=by
 intro v6 w6 k1 k2 k3;have aI:Below wr.heap.size wr w6:=Below.grown aq k2 aq.size (fun j hj=>(g1.ge j hj).1);refine NxM hK fun hHeld=> ?_
 clear hK K;refine OnM 15 true fun K hK=> ?_
 go_simp
 refine NxM hK fun hHeld=> ?_
 clear hK K;refine zaN Mco ?_ _;clear hHeld;have K1:=Lib.hid k1;have bV:=Lib.hid aI;clear k1 k2 k3 aI aq g1 g2 g3;go_wp2_with fail
 go_round
 case rel=>exact⟨k+1,am.out,by go_num,by rw[aD.out];exact K1.out.base_le Mcn,HB.out.trans (bV.out.mono Mcn)⟩
 case measure=>have:=am.out;simp only[intOf];omega):P:=h
theorem Mj (h:P:=by
 have oe:D0=none:=by
  cases dL:(f&&l)
  ·obtain⟨h1,h2⟩:=kL.out dL;rw[h1,yM.out];refine Hp.out _ Ea.out fun eM e'=> ?_
   rw[h2]at e';rcases qB.out rfl with e|e
   ·rw[e]at e';cases e'
   ·cases l
    ·obtain rfl:hs=eM:=by simpa using e'
     exact e
    ·cases e'
  ·exact nO.out dL
 have HN:=Lib.hid oe;clear oe;obtain⟨OV,oc,rfl,_,xG⟩:=HO.out.ro;have jr:=eB.out.trans (ee.out.mono eB.out.size);have bh:=bW.out.keep jr;obtain⟨gcur,dM,_⟩:=bh.row;have j3:wr.cell? ⟨ga,go+k*5+3,none⟩=some (.slice x.H x.g.holders.length x.hc):=bh.at eh.out (j:=3) rfl;have jf:=bh.frz;have oB:=bh.lt;have qG:=Lib.hid bh;have lE:=Lib.hid dM;have Bn:=Lib.hid xG;have kg:=Lib.hid jr;clear xG jr bh dM;go_upto_region 20 with fail
 obtain⟨V1,nw⟩: ∃V1,V1=wr.setCell ⟨ga,go+k*5+3,none⟩ (.slice OV out.length oc):=⟨_,rfl⟩
 have gI:wr.grownBy V1 (some ga):=by rw[nw];exact zaz _ _ _ _
 have fL:RowC V1 49 ga go 5 (((dx++gxs.drop k).map GX.cells).set k (x.cells.set 3 (.slice OV out.length oc))):=by rw[nw];exact qG.out.set eh.out Mcp
 have rK:Below w1.heap.size w1 V1:=MdJ;rw[<-nw];have Cs:WR.heap.size<=V1.heap.size:=Nat.le_trans kg.out.size gI.size;clear nw j3 jf oB;have Lg:=hxd5 fL eh.out;have jS:=Lib.hid fL;have uh:=Lib.hid rK;have K9:=fL.lt;have uQ:=Lib.hid (Bn.out.kept gI lE.out Mcp);have uo:=Lib.hid (fun y hy=>(((fX.out y hy).keep kg.out).kept gI lE.out:okR gxs V1 y));have BM:=Lib.hid (pf.out V1 (ak.out.trans ((aA.out.trans (rK.mono gw)).mono aw))).2;clear fL rK gI
 go_wp2_with (first
  |(at_builtin
    go_loud(refine za1 (v:= .slice (some ⟨V1.heap.size,0,none⟩) 0 0) (n:=0) (m:=x.g.died.length) rfl _ _ rfl zbL zaD zbK rfl (xs:=[]) (ys:=x.g.died) (zdY zaD V1 V1.heap.size (Nat.le_refl _)) rfl rfl rfl (BM.out.keep (zad (Below.refl _ _) _)) McW Mcn Mcq ?_)
    intro v3 w3 h1 h2 h3;rw[List.nil_append]at h1;have ay:Below V1.heap.size V1 w3:=Below.grown (zad (Below.refl _ _) _) h2 Mcq Mc1;obtain⟨V3,vc3,rfl,_,_⟩:=h1.sl zaD;have nh:=Lib.hid h1;have ll:=Lib.hid ay;have qT:=ay.size
    clear h1 h2 h3 ay)
  |(at_builtin
    go_loud(refine za1 (v:= .slice V3 x.g.died.length vc3) (n:=x.g.died.length) (m:=1) rfl _ _ rfl zbL zaD zbK rfl (xs:=x.g.died) (ys:=[n]) (nh.out.keep (n:=w3.heap.size) (zad (Below.refl _ _) _)) rfl rfl rfl (zdj (zar _ _ _ rfl)) McW Mcn Mcr ?_)
    intro v6 w6 h1 h2 h3;have aI:Below V1.heap.size V1 w6:=Below.grown (zad ll.out _) h2 Mcr (fun j hj=>(nh.out.ge j hj).1);obtain⟨A6,vc6,dA,_,_⟩:=h1.sl zaD;rw[List.length_append]at dA;subst dA;have lJ:=Lib.hid h1;have eN:=Lib.hid aI;have eK:=jS.out.keep aI;have i4:w6.cell? ⟨ga,go+k*5+4,none⟩=some (.slice x.D x.g.died.length x.dc):=hxd5 eK eh.out;have jf6:=eK.frz;have Dc:=eK.lt;have CD:=aI.size
    clear h1 h2 h3 aI eK))
 go_round
 case rel=>
  have eK:=jS.out.keep eN.out;rw[AG.out]at eK;obtain⟨gcur6,mA,_⟩:=eK.row;refine⟨k+1,true,true,dx++[(⟨{x.g with holders:=out,died:=x.g.died++[n]},OV,oc,A6,vc6⟩:GX)],am.out,by go_num,rfl,rfl,by rw[List.length_append,iv];rfl,Lib.hid fun _=>row_two iv eK,Lib.hid fun y hy=> ?_,Lib.hid fun _=>HN.out,Lib.hid Mcq,zaM (uh.out.trans (eN.out.mono uh.out.size)) zY _,by simp;omega⟩;exact Mb2
 case measure=>have:=am.out;simp only[intOf];omega):P:=h
theorem Mk (h:P:=by
 refine OnM 6 true fun K hK=> ?_
 refine zak (v:= .slice V4 s.graves.length c4') (n:=s.graves.length) (m:=1) rfl _ _ rfl zho zcT zkb rfl (xs:=gxs) (ys:=[(⟨⟨d.place,d.cls,fin,out,[]⟩,VA,vc,none,0⟩:GX)]) o9 bs.out.symm rfl rfl (sl_grave (⟨⟨d.place,d.cls,fin,out,[]⟩,VA,vc,none,0⟩:GX) n9) Mcv McG McJ ?_;intro v5 w5 g1 g2 g3;obtain⟨A5,c5',ed,_,_⟩:=g1.sl zcT;rw[List.length_append,<-bs.out]at ed;subst ed;have aq:Below WX.heap.size WX w5:=Below.grown e9 g2 Md8 (fun j hj=>(o9.ge j hj).1);have bZ:=bx.out.trans (aq.mono dU);refine NxM hK fun hHeld=> ?_
 clear hK K;refine OnM 7 true fun K hK=> ?_
 go_simp
 refine NxM hK fun hHeld=> ?_
 clear hK K;obtain⟨⟨xs0,xd0,xr0⟩,⟨s0,s1,s2,s3,s4,s5,s6⟩,⟨d0,d1,d2,d3,d4,d5,d6⟩,⟨r0,r1,r2,r3,r4,r5,r6⟩,rf,ls,ld,lr⟩:=ddF (ax.out w5 (bZ));have sf:=frz xs0;refine OnM 8 true fun K hK=> ?_
 go_simp
 refine NxM hK fun hHeld=> ?_
 clear hK K;refine zaN Mco ?_ _;clear hHeld;have G1:=Lib.hid g1;have vj:=Lib.hid aq;have bi:=Lib.hid bZ;have X0:=Lib.hid xs0;have X2:=Lib.hid xr0;clear g1 g2 g3 aq bZ h1 h2 h3 aC;clear xs0 xd0 xr0 s0 s1 s2 s3 s4 s5 s6 d0 d1 d2 d3 d4 d5 d6 r0 r1 r2 r3 r4 r5 r6 rf ls ld lr;clear sf;go_wp2_with fail
 go_meet
 refine⟨⟨by first|rfl|trivial,A5,c5',?_,J_ne Mcn X2.out,(G1.out.kept (zaz _ _ _ _) X0.out Mcp).ro',zaM (ak.out.trans (bi.out.mono aw)) (Nat.le_refl _) _⟩,((HO.out.keep vj.out).kept (zaz _ _ _ _) X0.out Mcp).ro'⟩;have:=Joins.block_setCell (i:=6) X0.out (.slice A5 (s.graves.length+1) c5')
 simpa using this):P:=h
theorem Ml (h:P:=by
 have a1:wr.cell? ⟨w.heap.size,5,none⟩=some (.bool fa):=Mcs;have a2:wr.cell? ⟨w.heap.size,7,none⟩=some (.bool true):=Mcs;have b0:wr.cell? ⟨w.heap.size+1,3,none⟩=some (.string frm):=Mct;have b1:wr.cell? ⟨w.heap.size+1,4,none⟩=some (.slice B ps.length c):=Mct;have c0:wr.cell? ⟨w.heap.size+2,0,none⟩=some (.int .i64 s.num):=Mer;have c1:wr.cell? ⟨w.heap.size+2,1,none⟩=some (.int .i64 s.den):=Mer;have d0:wr.frozen? ⟨w.heap.size+2,0,none⟩=false:=Mem;have d1:wr.frozen? ⟨w.heap.size+2,1,none⟩=false:=Mem;have e0:w.heap.size<wr.heap.size:=Mcn;have e1:w.heap.size+1<wr.heap.size:=Mcn;have e2:w.heap.size+2<wr.heap.size:=Mcn;have e3:w.heap.size+2≠wr.heap.size:=Mcn;by_cases aa:k<ps.length
 ·rw[List.drop_eq_getElem_cons aa]at hx;obtain⟨b,off,rfl,hb,hc⟩:=(hS.keep hB).at aa;have vU:=(hS.keep hB).take k;generalize hp:ps[k]=p at*;obtain⟨pn,pu,pd⟩:=p;have h0:wr.cell? ⟨b,off+k*3,none⟩=some (.string pn):=hc 0 _ rfl;have h1:wr.cell? ⟨b,off+k*3+1,none⟩=some (.int .i64 pu):=hc 1 _ rfl;have h2:wr.cell? ⟨b,off+k*3+2,none⟩=some (.int .i64 pd):=hc 2 _ rfl;have HP:=Lib.hid hp;have HF:=Lib.hid dK;have H0:=Lib.hid aw;have HK:=Lib.hid kC;have HS:=Lib.hid vU;have HX:=Lib.hid hx;have HH:=Lib.hid (show ps.length<=100000 by omega);have fH:(k:Int)<=(c:Int):=Mcn;have aT:(0:Int)<=(k:Int):=Mcn;have jC:(k:Int)<(ps.length:Int):=Mcn;have cK:(ps.take k).length=k:=Mc7;have HT:=Lib.hid cK;clear hc hS vU hp dK aw kC hx cK
  go_upto_region 10 with(go_at_call 135
                         refine(zcP _ _ eg (fun q=>zaf q.name pn) _ k _ (ps.take k) _ HT.out.symm (by rw[HT.out];have:=HH.out;omega) (HS.out.keep (n:=wr.heap.size) Bw) (zli _ pn _ _ Mcq McQ)).mono ?_
                         intro e wq hq;rcases Ret.bools hq with⟨zq,rfl,⟨hb,rfl⟩|⟨hb,rfl⟩⟩<;>clear hq)
  all_goals go_wp2_with (first
   |(go_at_call 175;refine(zdO _ _ _).mono ?_;intro e wq hq;rcases Ret.bools hq with⟨zq,rfl,⟨hb,rfl⟩|⟨hb,rfl⟩⟩<;>clear hq)
   |(go_at_call 167;refine(znD s pu pd _ (HF.out.small (Rat.le_trans Mcp H0.out) (cast_le HK.out Mcn)) McY).mono ?_;rintro e w1 ⟨rfl,z1,rfl⟩;simp only[zaB]))
  all_goals first
   |(go_ret
     exact Ret.of (zaQ (by rw[HX.out];simp[zco,zha,zeg,ze7, *])) Bw)
   |(go_round
     case rel=>
      refine⟨k+1,by omega,by go_num,s+Rat.divInt pu pd,(by rw[HX.out,List.take_succ_eq_append_getElem aa,HP.out];simp[zco,RPart.rat,zeg,ze7, *]:_=_),HF.out.add (zeq McY),sum_pos H0.out McY,sum_up HK.out McY,Bw,by simp[zae];omega,by repeat(first|assumption|with_reducible refine zal ?_|with_reducible refine zb2 ?_|with_reducible refine J_ne Mcn ?_),by repeat(first|assumption|with_reducible refine zal ?_|with_reducible refine zb2 ?_|with_reducible refine J_ne Mcn ?_),?_⟩;(repeat(first|with_reducible refine zal ?_|with_reducible refine zb2 ?_));exact zer g2
     case measure=>simp[intOf];omega)
 ·exact Mb3):P:=h
theorem Mm (h:P:=by
 have a1:wr.cell? ⟨w.heap.size,5,none⟩=some (.bool fa):=Mcs;have a2:wr.cell? ⟨w.heap.size,7,none⟩=some (.bool false):=Mcs;have b0:wr.cell? ⟨w.heap.size+1,3,none⟩=some (.string frm):=Mct;have b1:wr.cell? ⟨w.heap.size+1,4,none⟩=some (.slice B ps.length c):=Mct;have c0:wr.cell? ⟨w.heap.size+2,0,none⟩=some (.int .i64 s.num):=Mer;have c1:wr.cell? ⟨w.heap.size+2,1,none⟩=some (.int .i64 s.den):=Mer;have d0:wr.frozen? ⟨w.heap.size+2,0,none⟩=false:=Mem;have d1:wr.frozen? ⟨w.heap.size+2,1,none⟩=false:=Mem;have e0:w.heap.size<wr.heap.size:=Mcn;have e1:w.heap.size+1<wr.heap.size:=Mcn;have e2:w.heap.size+2<wr.heap.size:=Mcn;have e3:w.heap.size+2≠wr.heap.size:=Mcn;by_cases aa:k<ps.length
 ·rw[List.drop_eq_getElem_cons aa]at hx;obtain⟨b,off,rfl,hb,hc⟩:=(hS.keep hB).at aa;have vU:=(hS.keep hB).take k;generalize hp:ps[k]=p at*;obtain⟨pn,pu,pd⟩:=p;have h0:wr.cell? ⟨b,off+k*3,none⟩=some (.string pn):=hc 0 _ rfl;have h1:wr.cell? ⟨b,off+k*3+1,none⟩=some (.int .i64 pu):=hc 1 _ rfl;have h2:wr.cell? ⟨b,off+k*3+2,none⟩=some (.int .i64 pd):=hc 2 _ rfl;have HP:=Lib.hid hp;have HF:=Lib.hid dK;have H0:=Lib.hid aw;have HK:=Lib.hid kC;have HS:=Lib.hid vU;have HX:=Lib.hid hx;have HH:=Lib.hid (show ps.length<=100000 by omega);have fH:(k:Int)<=(c:Int):=Mcn;have aT:(0:Int)<=(k:Int):=Mcn;have jC:(k:Int)<(ps.length:Int):=Mcn;have cK:(ps.take k).length=k:=Mc7;have HT:=Lib.hid cK;clear hc hS vU hp dK aw kC hx cK
  go_upto_region 10 with(go_at_call 135
                         refine(zcP _ _ eg (fun q=>zaf q.name pn) _ k _ (ps.take k) _ HT.out.symm (by rw[HT.out];have:=HH.out;omega) (HS.out.keep (n:=wr.heap.size) Bw) (zli _ pn _ _ Mcq McQ)).mono ?_
                         intro e wq hq;rcases Ret.bools hq with⟨zq,rfl,⟨hb,rfl⟩|⟨hb,rfl⟩⟩<;>clear hq)
  all_goals go_wp2_with (first
   |(go_at_call 175;refine(zdO _ _ _).mono ?_;intro e wq hq;rcases Ret.bools hq with⟨zq,rfl,⟨hb,rfl⟩|⟨hb,rfl⟩⟩<;>clear hq)
   |(go_at_call 167;refine(znD s pu pd _ (HF.out.small (Rat.le_trans Mcp H0.out) (cast_le HK.out Mcn)) McY).mono ?_;rintro e w1 ⟨rfl,z1,rfl⟩;simp only[zaB]))
  all_goals first
   |(go_ret
     exact Ret.of (zaQ (by rw[HX.out];simp[zco,zha,zeg,ze7, *])) Bw)
   |(go_round
     case rel=>
      refine⟨k+1,by omega,by go_num,s,(by rw[HX.out,List.take_succ_eq_append_getElem aa,HP.out];simp[zco,RPart.rat,zeg,ze7, *]:_=_),HF.out,H0.out,Rat.le_trans HK.out (natUp k),Bw,by simp[zae];omega,by repeat(first|assumption|with_reducible refine zal ?_|with_reducible refine zb2 ?_|with_reducible refine J_ne Mcn ?_),by repeat(first|assumption|with_reducible refine zal ?_|with_reducible refine zb2 ?_|with_reducible refine J_ne Mcn ?_),?_⟩;repeat(first|assumption|with_reducible refine zal ?_|with_reducible refine zb2 ?_|with_reducible refine J_ne Mcn ?_)
     case measure=>simp[intOf];omega)
 ·exact Mb3):P:=h
theorem Mn (h:P:=by
 refine OnM 9 true fun K hK=> ?_
 refine zak (v:= .slice V4 s.children.length c4') (n:=s.children.length) (m:=1) rfl _ _ rfl zg1 zbi zdC rfl (xs:=s.children) (ys:=[(d.frm,tn)]) o9 bs.out.symm rfl rfl (zmY (p:=(d.frm,tn)) n9) Mcv McG McJ ?_;intro v5 w5 g1 g2 g3;obtain⟨A5,c5',ed,_,_⟩:=g1.sl zbi;rw[List.length_append,<-bs.out]at ed;subst ed;have aq:Below WX.heap.size WX w5:=Below.grown e9 g2 Md8 (fun j hj=>(o9.ge j hj).1);have bZ:=bx.out.trans (aq.mono dU);refine NxM hK fun hHeld=> ?_
 clear hK K;refine OnM 10 true fun K hK=> ?_
 go_simp
 refine NxM hK fun hHeld=> ?_
 clear hK K;obtain⟨⟨xs0,xd0,xr0⟩,⟨s0,s1,s2,s3,s4,s5,s6⟩,⟨d0,d1,d2,d3,d4,d5,d6⟩,⟨r0,r1,r2,r3,r4,r5,r6⟩,rf,ls,ld,lr⟩:=ddF (ax.out w5 (bZ));have sf:=frz xs0;refine OnM 11 true fun K hK=> ?_
 go_simp
 refine NxM hK fun hHeld=> ?_
 clear hK K;refine zaN Mco ?_ _;clear hHeld;have G1:=Lib.hid g1;have vj:=Lib.hid aq;have bi:=Lib.hid bZ;have X0:=Lib.hid xs0;have X2:=Lib.hid xr0;clear g1 g2 g3 aq bZ h1 h2 h3 aC;clear xs0 xd0 xr0 s0 s1 s2 s3 s4 s5 s6 d0 d1 d2 d3 d4 d5 d6 r0 r1 r2 r3 r4 r5 r6 rf ls ld lr;clear sf;go_wp2_with fail
 go_meet
 refine⟨by first|rfl|trivial,A5,c5',?_,J_ne Mcn X2.out,(G1.out.kept (zaz _ _ _ _) X0.out Mcp).ro',zaM (ak.out.trans (bi.out.mono aw)) (Nat.le_refl _) _⟩;have:=Joins.block_setCell (i:=1) X0.out (.slice A5 (s.children.length+1) c5')
 simpa using this):P:=h
theorem Mo (h:P:=by
 refine OnM 6 true fun K hK=> ?_
 refine zak (v:= .slice V4 rd.length c4') (n:=rd.length) (m:=1) rfl _ _ rfl zeW zb0 zeV rfl (xs:=dvs) (ys:=[(⟨d,B,c⟩:DV)]) o9 bs.out.symm rfl rfl (sl_deed d B c n9) Mcv McG McJ ?_;intro v5 w5 g1 g2 g3;obtain⟨A5,c5',ed,_,_⟩:=g1.sl zb0;rw[List.length_append,<-bs.out]at ed;subst ed;have aq:Below WX.heap.size WX w5:=Below.grown e9 g2 Md8 (fun j hj=>(o9.ge j hj).1);have bZ:=bx.out.trans (aq.mono dU);refine NxM hK fun hHeld=> ?_
 clear hK K;refine OnM 7 true fun K hK=> ?_
 go_simp
 refine NxM hK fun hHeld=> ?_
 clear hK K;obtain⟨⟨xs0,xd0,xr0⟩,⟨s0,s1,s2,s3,s4,s5,s6⟩,⟨d0,d1,d2,d3,d4,d5,d6⟩,⟨r0,r1,r2,r3,r4,r5,r6⟩,rf,ls,ld,lr⟩:=ddF (ax.out w5 (bZ));have sf:=frz xs0;refine OnM 8 true fun K hK=> ?_
 go_simp
 refine NxM hK fun hHeld=> ?_
 clear hK K;refine zaN Mco ?_ _;clear hHeld;have G1:=Lib.hid g1;have vj:=Lib.hid aq;have bi:=Lib.hid bZ;have X0:=Lib.hid xs0;have X2:=Lib.hid xr0;clear g1 g2 g3 aq bZ h1 h2 h3 aC;clear xs0 xd0 xr0 s0 s1 s2 s3 s4 s5 s6 d0 d1 d2 d3 d4 d5 d6 r0 r1 r2 r3 r4 r5 r6 rf ls ld lr;clear sf;go_wp2_with fail
 go_meet
 refine⟨by first|rfl|trivial,A5,c5',?_,J_ne Mcn X2.out,(G1.out.kept (zaz _ _ _ _) X0.out Mcp).ro',zaM (ak.out.trans (bi.out.mono aw)) (Nat.le_refl _) _⟩;have:=Joins.block_setCell (i:=5) X0.out (.slice A5 (rd.length+1) c5')
 simpa using this):P:=h
theorem Mp (h:P:=by
 refine OnM 6 true fun K hK=> ?_
 refine zak (v:= .slice V4 wd.length c4') (n:=wd.length) (m:=1) rfl _ _ rfl zeW zb0 zeV rfl (xs:=dvs) (ys:=[(⟨d,B,c⟩:DV)]) o9 bs.out.symm rfl rfl (sl_deed d B c n9) Mcv McG McJ ?_;intro v5 w5 g1 g2 g3;obtain⟨A5,c5',ed,_,_⟩:=g1.sl zb0;rw[List.length_append,<-bs.out]at ed;subst ed;have aq:Below WX.heap.size WX w5:=Below.grown e9 g2 Md8 (fun j hj=>(o9.ge j hj).1);have bZ:=bx.out.trans (aq.mono dU);refine NxM hK fun hHeld=> ?_
 clear hK K;refine OnM 7 true fun K hK=> ?_
 go_simp
 refine NxM hK fun hHeld=> ?_
 clear hK K;obtain⟨⟨xs0,xd0,xr0⟩,⟨s0,s1,s2,s3,s4,s5,s6⟩,⟨d0,d1,d2,d3,d4,d5,d6⟩,⟨r0,r1,r2,r3,r4,r5,r6⟩,rf,ls,ld,lr⟩:=ddF (ax.out w5 (bZ));have sf:=frz xs0;refine OnM 8 true fun K hK=> ?_
 go_simp
 refine NxM hK fun hHeld=> ?_
 clear hK K;refine zaN Mco ?_ _;clear hHeld;have G1:=Lib.hid g1;have vj:=Lib.hid aq;have bi:=Lib.hid bZ;have X0:=Lib.hid xs0;have X2:=Lib.hid xr0;clear g1 g2 g3 aq bZ h1 h2 h3 aC;clear xs0 xd0 xr0 s0 s1 s2 s3 s4 s5 s6 d0 d1 d2 d3 d4 d5 d6 r0 r1 r2 r3 r4 r5 r6 rf ls ld lr;clear sf;go_wp2_with fail
 go_meet
 refine⟨by first|rfl|trivial,A5,c5',?_,J_ne Mcn X2.out,(G1.out.kept (zaz _ _ _ _) X0.out Mcp).ro',zaM (ak.out.trans (bi.out.mono aw)) (Nat.le_refl _) _⟩;have:=Joins.block_setCell (i:=4) X0.out (.slice A5 (wd.length+1) c5')
 simpa using this):P:=h
theorem Mq (h:P:=by
 refine OnM 9 true fun K hK=> ?_
 refine zak (v:= .slice V4 s.marriages.length c4') (n:=s.marriages.length) (m:=1) rfl _ _ rfl zg1 zbi zdC rfl (xs:=s.marriages) (ys:=[(d.frm,tn)]) o9 bs.out.symm rfl rfl (zmY (p:=(d.frm,tn)) n9) Mcv McG McJ ?_;intro v5 w5 g1 g2 g3;obtain⟨A5,c5',ed,_,_⟩:=g1.sl zbi;rw[List.length_append,<-bs.out]at ed;subst ed;have aq:Below WX.heap.size WX w5:=Below.grown e9 g2 Md8 (fun j hj=>(o9.ge j hj).1);have bZ:=bx.out.trans (aq.mono dU);refine NxM hK fun hHeld=> ?_
 clear hK K;refine OnM 10 true fun K hK=> ?_
 go_simp
 refine NxM hK fun hHeld=> ?_
 clear hK K;obtain⟨⟨xs0,xd0,xr0⟩,⟨s0,s1,s2,s3,s4,s5,s6⟩,⟨d0,d1,d2,d3,d4,d5,d6⟩,⟨r0,r1,r2,r3,r4,r5,r6⟩,rf,ls,ld,lr⟩:=ddF (ax.out w5 (bZ));have sf:=frz xs0;refine OnM 11 true fun K hK=> ?_
 go_simp
 refine NxM hK fun hHeld=> ?_
 clear hK K;refine zaN Mco ?_ _;clear hHeld;have G1:=Lib.hid g1;have vj:=Lib.hid aq;have bi:=Lib.hid bZ;have X0:=Lib.hid xs0;have X2:=Lib.hid xr0;clear g1 g2 g3 aq bZ h1 h2 h3 aC;clear xs0 xd0 xr0 s0 s1 s2 s3 s4 s5 s6 d0 d1 d2 d3 d4 d5 d6 r0 r1 r2 r3 r4 r5 r6 rf ls ld lr;clear sf;go_wp2_with fail
 go_meet
 refine⟨by first|rfl|trivial,A5,c5',?_,J_ne Mcn X2.out,(G1.out.kept (zaz _ _ _ _) X0.out Mcp).ro',zaM (ak.out.trans (bi.out.mono aw)) (Nat.le_refl _) _⟩;have:=Joins.block_setCell (i:=2) X0.out (.slice A5 (s.marriages.length+1) c5')
 simpa using this):P:=h
theorem Mr (h:P:=by
 go_wp2_with (first
               |(go_at_call 79;go_must(refine(zcy _ _ _ _).mono ?_);rintro e wq ⟨rfl,rfl⟩;(first|rw[hJ]|rw[mj]|rw[hy9]))
               |(go_at_call 66;go_must(refine(zcM _ _).mono ?_);rintro e wq ⟨rfl,rfl⟩;rw[jX])
               |(go_at_call 28;go_must(refine(zcL _ _ McY).mono ?_);rintro e wq ⟨rfl,rfl⟩;(first|rw[cZ]|rw[gN]|rw[nF])))
 go_meet
 exact⟨zaQ (by simp[zbx, *]),by first|exact True.intro|rfl⟩):P:=h
theorem Ms (h:P:=by
 go_wp2_with (first
               |(go_at_call 79;go_must(refine(zcy _ _ _ _).mono ?_);rintro e wq ⟨rfl,rfl⟩;(first|rw[hJ]|rw[mj]|rw[hy9]))
               |(go_at_call 66;go_must(refine(zcM _ _).mono ?_);rintro e wq ⟨rfl,rfl⟩;rw[jX])
               |(go_at_call 28;go_must(refine(zcL _ _ McY).mono ?_);rintro e wq ⟨rfl,rfl⟩;(first|rw[cZ]|rw[gN]|rw[nF])))
 go_ret
 exact Ret.of (zb1 HE.out.symm) ak.out):P:=h
theorem Mt (h:P:=by
 intro v6 w6 h1 h2 h3;obtain⟨A6,c6,dA,_,_⟩:=h1.sl zaD;rw[List.length_append]at dA;subst dA;have wR:=o1.ge;have dO: ∀k,k<wc.heap.size->w6.heap[k]?=wc.heap[k]?:=fun k hk=>(h2.block k (by have:=oK.size;simp at this⊢;omega) (fun e=>by have:=(wR k e.symm).1;simp at this;omega)).trans (oK.block k (by simpa using hk))
 have sG:zbt w6 wr.heap.size g.place g.cls frm g.fin (.slice A1 g.holders.length c1) (.slice D g.died.length dc):=(dO _ bv).trans fq.out;have kA:wc.heap.size<=w6.heap.size:=by have a:=oK.size;have b:=h2.size;simp at a b⊢;omega
 have y3:w6.cell? ⟨w.heap.size,3,none⟩=some (.string fr):=(World.cell?_of_block (w:=wc) (dO w.heap.size Mcn)).trans d3;have y5:w6.cell? ⟨T,5,none⟩=some (.slice D g.died.length dc):=(World.cell?_of_block (w:=wc) (dO T Mcn)).trans q5;have jI:=sG;unfold zbt at jI;obtain⟨-,-,-,-,-,u5⟩:=cF6 jI;have fu5:w6.frozen? ⟨wr.heap.size,5,none⟩=false:=by simp only[World.frozen?,jI];rfl
 have hx6:=zab sG;refine NxM hK (fun hHeld=> ?_) (⟨y3,y5⟩);clear hK K;refine TkH 9 ?_;refine OnH 10 fun K hK=> ?_
 go_simp
 refine NxM hK (fun hHeld=> ?_) (⟨(World.cell?_setCell_far _ _ _ _ (by show wr.heap.size≠w.heap.size;omega)).trans y3,(World.cell?_setCell_far _ _ _ _ (by show wr.heap.size≠T;omega)).trans y5⟩);clear hK K;refine wpAnyH_done Mco ?_ _;go_wp2_with fail
 go_meet
 have aI:Below wc.heap.size wc w6:=Below.grown (a:=wc) (B:=wc.heap.size) (B_drop oK) h2 (by have:=oK.size;simp at this⊢;omega) (fun j hj=>by have:=(wR j hj).1;simp at this;omega);have jt:zaA (.slice A1 g.holders.length c1)≠some wr.heap.size:=zkK kj.out fq.out Mcp
 exact⟨A6,c6,tomb_set5 sG _,OwnS.base_le (h1.grown (zaz _ _ _ _) (.inr fun e=>by have:=(h1.ge _ e).1;simp at this;omega)) Mcr,(kj.out.keep aI).grown (zaz _ _ _ _) (.inr jt),zaM (ax.out.trans (aI.mono Mcn)) Mcq _⟩):P:=h
theorem Mu (h:P:=by
 have nW:=Lib.hid (cr);obtain⟨W3,aX⟩: ∃W3,W3=w2.setCell ⟨w.heap.size,4,none⟩ (.slice A2 ts.length c2):=⟨_,rfl⟩
 have b3:W3.heap[w.heap.size]?=some (.cells #[.int .i64 kd, .int .i64 dy, .string pl, .string fr, .slice A2 ts.length c2, .int .i64 cl, .int .i64 yr] 52):=by
  rw[aX];have:=Joins.block_setCell (i:=4) e1 (.slice A2 ts.length c2);simpa using this
 have r3:W3.heap[w.heap.size+1]?=some (.cells #[.int .i64 0, .int .i64 0, .string ⟨#[]⟩, .string ⟨#[]⟩, .slice none 0 0, .int .i64 0, .int .i64 0] 52):=by rw[aX];exact J_ne Mcn e2
 have s3:Ro W3 75 RPart.cells A2 ts:=by rw[aX];exact s2.kept (zaz _ _ _ _) e1 Mcp
 have eT:Below w.heap.size w W3:=by rw[aX];exact zaM (aA.out.trans (bn.mono aA.out.size)) Mcq _
 rw[<-aX];have S3:=Lib.hid s3;have aH:=Lib.hid eT;clear aX eT s3 s2 e1 e2 f4 k4 bn b0 r0 c4 l0 l1;obtain⟨g0,g1,g2,g3,g4,g5,g6⟩:=cF7 b3;obtain⟨t0,t1,t2,t3,t4,t5,t6⟩:=cF7 r3;have f0: ∀j,W3.frozen? ⟨w.heap.size+1,j,none⟩=false:=fun j=>by simp[World.frozen?,r3]
 go_wp2_with fail
 refine bodyPost_ret (v:= .agg #[.int .i64 kd, .int .i64 dy, .string pl, .string fr, .slice A2 ts.length c2, .int .i64 cl, .int .i64 yr]) ?_ rfl ?_
 ·exact zlG rfl _ _ (w.heap.size+1) _ _ _ _ _ _ _ rfl (zc0 r3)
 ·exact⟨A2,c2,rfl,cr,(((((((S3.out.kept (zaz _ _ _ _) r3 Mcp).kept (zaz _ _ _ _) (Joins.block_setCell (i:=0) r3 _) Mcp).kept (zaz _ _ _ _) (Joins.block_setCell (i:=1) (Joins.block_setCell (i:=0) r3 _) _) Mcp).kept (zaz _ _ _ _) (Joins.block_setCell (i:=2) (Joins.block_setCell (i:=1) (Joins.block_setCell (i:=0) r3 _) _) _) Mcp).kept (zaz _ _ _ _) (Joins.block_setCell (i:=3) (Joins.block_setCell (i:=2) (Joins.block_setCell (i:=1) (Joins.block_setCell (i:=0) r3 _) _) _) _) Mcp).kept (zaz _ _ _ _) (Joins.block_setCell (i:=4) (Joins.block_setCell (i:=3) (Joins.block_setCell (i:=2) (Joins.block_setCell (i:=1) (Joins.block_setCell (i:=0) r3 _) _) _) _) _) Mcp).kept (zaz _ _ _ _) (Joins.block_setCell (i:=5) (Joins.block_setCell (i:=4) (Joins.block_setCell (i:=3) (Joins.block_setCell (i:=2) (Joins.block_setCell (i:=1) (Joins.block_setCell (i:=0) r3 _) _) _) _) _) _) Mcp),zaM (zaM (zaM (zaM (zaM (zaM (zaM aH.out Mcq _) Mcq _) Mcq _) Mcq _) Mcq _) Mcq _) Mcq _⟩):P:=h
theorem Mv (h:P:=by
 (refine zan Mco Mco ?_
  repeat(first|go_big_quiet_skip|(go_big_quiet_want;go_big_quiet_op;first|go_big_quiet_on|(apply Exists.intro;refine⟨fun _=> ?_,?_⟩;(go_at_call 85;exact quietx (zhS _));go_big_quiet_on)))
  refine wpQuiet_nil ?_
  rintro _ ⟨zq,rfl⟩)
 go_wp2_with fail
 go_ret
 exact Ret.of (zaQ (by rw[HE.out];simp[fm5, *])) (zb6 aH.out zq)):P:=h
theorem Mw (h:P:=by
 refine bodyPost_ret (zbB rfl _ rfl rfl (zc0 xr5)) rfl ?_
 exact⟨_,_,_,_,_,_,_,rfl,rfl,zc9 (ak.out.trans (bi.out.mono aw)) (show w.heap.size<=w.heap.size+2 by omega),fun h0=>(zc3 xr5 rfl).st (aD.out h0)⟩):P:=h
theorem Mx (h:P:=by
 refine bodyPost_ret (v:=zmH (zbS day) (zbe day) (day-zaE (zbS day) (zbe day)+1)) ?_ rfl ?_
 ·rw[HN.out,kK.out];have g2:=J_set3 (a:= .int .i64 y) (b:= .int .i64 m) (c:= .int .i64 (day-zaE y m+1)) (J_ne (b:=w.heap.size+1) (o:=2) (v:= .int .i64 (day-zaE y m+1)) Mcn g0);refine zlu rfl _ _ w.heap.size _ _ _ rfl ?_ ?_ ?_;all_goals simp[World.cell?,g2]
 ·exact⟨HD.out,Ret.of rfl (by repeat(first|exact B_refl|exact Below.refl _ _|assumption|with_reducible refine zad ?_ _|with_reducible refine zb6 ?_ _|with_reducible refine zaH ?_|with_reducible refine zd5 ?_ _|with_reducible refine zaM ?_ Mdm _))⟩):P:=h
theorem My (h:P:=by
 have qS:=Lib.hid wg;have fE:=Lib.hid (qe.out.trans (((zaH me).trans (Cv.mono me.size)).mono (by have:=qe.out.size;omega)));have cL:=Lib.hid (fun W (h:Below w5.heap.size w5 W)=>zdI ys YA yc W (by have:=ko.out;omega) (qS.out.keep h));clear wg Cv;go_upto_region 11 with fail
 cases hlg:zaF ys
 ·rw[hlg]at cL;go_wp2_with (go_at_call 90;go_must(refine(cL.out _ (Below.refl _ _)).mono ?_);rintro e wq ⟨rfl,rfl⟩)
  rcases Bv.out with h|⟨h1,h2⟩
  ·obtain⟨g1,g2,g3⟩:=uM.out ys h;go_round
   case rel=>exact⟨k+1,ys,YA,yc,am.out,rfl,by go_num,g1,g2,g3,fun _=>Az.out,qS.out,fE.out⟩
   case measure=>have:=am.out;simp only[intOf];omega
  ·rw[hlg]at h2;cases h2
 ·rw[hlg]at cL;go_wp2_with (go_at_call 90;go_must(refine(cL.out _ (Below.refl _ _)).mono ?_);rintro e wq ⟨rfl,rfl⟩)
  go_ret
  have l7:R=none:=by
   rcases Bv.out with h|⟨h1,h2⟩
   ·have:=(uM.out ys h).2.1.out.small;rw[hlg]at this;cases this
   ·exact ng.out h1
  exact⟨YA,yc,ys,rfl,qS.out,ak.out.trans ((aA.out.trans (fE.out.mono gw)).mono lT),ko.out, .inr ⟨l7,hlg⟩⟩):P:=h
theorem Mz (h:P:=by
 go_wp2_with (first
               |(go_at_call 134;refine(zbh _ _ _ _).mono ?_;intro e wq hq;rcases Ret0.bools hq with⟨rfl,⟨hb,rfl⟩|⟨hb,rfl⟩⟩<;>clear hq)
               |(go_at_call 77;refine(zcO _ _).mono ?_;intro e wq hq;rcases Ret0.bools hq with⟨rfl,⟨hb,rfl⟩|⟨hb,rfl⟩⟩<;>clear hq)
               |(go_at_call 130;refine(zcb _ _ McY).mono ?_;intro e wq hq;rcases Ret0.bools hq with⟨rfl,⟨hb,rfl⟩|⟨hb,rfl⟩⟩<;>clear hq)
               |(go_at_call 135;refine(zcP _ _ eg (fun q:RPart=>!zaR q.name) _ _ _ ps _ rfl HL.out (HS.out.keep (n:=w.heap.size) Bw) (zgq ps _ HN.out)).mono ?_;intro e wq hq;rcases Ret.bools hq with⟨zq,rfl,⟨hb,rfl⟩|⟨hb,rfl⟩⟩<;>clear hq)
               |(go_at_call 137;refine(zd9 ⟨word,fp,ff,fc,fy,fa,fpt,fs⟩ _ _ _ _ _ _ ps _ _ _ _ rfl Mcn HC.out (HS.out.keep (n:=w.heap.size) Bw)).mono ?_;intro e wq hq;rcases Ret.bools hq with⟨zq,rfl,⟨hb,rfl⟩|⟨hb,rfl⟩⟩<;>clear hq))
 all_goals go_meet
 all_goals(refine⟨zaQ (by first|exact hb.symm|simp[zbx,noB, *]),Bw,by first|omega|(simp[zae];done)|(simp[zae];omega),?_⟩;repeat(first|assumption|with_reducible refine zal ?_|with_reducible refine zb2 ?_|with_reducible refine J_ne Mcn ?_))):P:=h
theorem MC (h:P:=by
 go_wp2_with fail
 all_goals go_meet
 all_goals(refine⟨zaQ (by first|(simp[noB, *];done)|(rw[Bool.eq_iff_iff];simp[noB];simp[*];done)|(cases fp<;>cases ff<;>simp_all[noB])),Bw,by first|omega|(simp[zae];done)|(simp[zae];omega),?_,?_⟩)
 all_goals(repeat(first|assumption|with_reducible refine zal ?_|with_reducible refine zb2 ?_|with_reducible refine J_ne Mcn ?_))):P:=h
theorem MD (h:P:=by
 have uJ:=Lib.hid iT;have jP:=Lib.hid bG;clear iT bG;refine hK.out _ _ ?_ (fun hHeld=> ?_);focus((try dsimp only);refine⟨?_,?_,?_,?_,?_,?_⟩<;>assumption)
 clear hK K;try simp only[Act.put,List.setIfInBounds_toArray,List.set_cons_zero,List.set_cons_succ]
 refine wpAnyH_done Mco ?_ _;go_wp2_with fail
 go_end0
 refine⟨rfl,⟨_,uJ.out,(zgy _ _ _ kL.out).1,fun k=> ?_⟩,?_,?_⟩
 ·show _\/mget eqS k (mput eqS n _ mm)=some (zaB (zag (setP out n (zbg (zag out n+f))) k));rw[zfl,zln HG.out,gn.out];cases hk:zaf k n
  ·simp only[Bool.false_eq_true,if_false];show _\/_;rcases uC.out k with⟨a1,a2⟩|a
   ·refine .inl ⟨a1,?_⟩;show zag (setP out n (zbg (zag out n+f))) k=0;rw[zln HG.out,hk];exact a2
   ·exact .inr a
  ·exact .inr rfl
 ·show MarkAt w6 C (fl||bigQ (zag out n+f));rw[gn.out];exact N1.out.grown jP.out tq
 ·exact(Two2.of_below Bw).trans ((Two2.grownC N2.out).trans (Two2.grownM jP.out))):P:=h
theorem ME (h:P:=by
 refine NxM hK (fun hHeld=> ?_) (.inr (aG.out _ bj));clear hK K;refine OnM 5 true fun K hK=> ?_
 refine zak (v:= .slice A6 xs.length c6) (n:=xs.length) (m:=1) rfl _ _ rfl zeW zb0 zeV rfl (xs:=xs) (ys:=[⟨d,B,c⟩]) o7 rfl rfl rfl (zfr zb0 n7 (by simp[DV.cells])) MdT Mc3 (by have:=bj.size;simp at this⊢;omega) ?_;intro v8 w8 h1 h2 h3;rw[<-th.out]at h1;obtain⟨A8,c8,rfl,JP,s8⟩:=h1.ro;have wt:Below W5.heap.size W5 w8:=Below.grown bj h2 (by have:=bj.size;simp at this⊢;omega) (fun j hj=>by have:=(o7.ge j hj).1;(try simp at this);omega);refine NxM hK fun hHeld=> ?_
 clear hK K;refine OnM 6 true fun K hK=> ?_
 go_simp
 refine NxM hK fun hHeld=> ?_
 clear hK K;refine zaN Mco ?_ _;clear hHeld;go_wp2_with fail
 go_meet
 exact⟨A8,c8,rfl,rfl,rfl,s8,wt,JP⟩):P:=h
theorem MF (h:P:=by
 intro W B hb;have f0:W.cell? ⟨B,0,none⟩=some (.int .i64 0):=by simp[World.cell?,hb]
 have f1:W.cell? ⟨B,1,none⟩=some (.int .i64 0):=by simp[World.cell?,hb]
 have fz: ∀j,W.frozen? ⟨B,j,none⟩=false:=fun j=>by simp[World.frozen?,hb]
 go_simp
 with_reducible exact⟨zer hb,zpi _ _ _ _⟩):P:=h
theorem MG (h:P:=by
 (go_wp2_with fail
  go_ret
  exact Ret.of (zb1 McF) Bw)):P:=h
theorem MH (h:P:=by
 go_wp2_with fail
 go_round
 case rel=>have aq:=aH.out.trans (zb6 (Below.refl W3.heap.size W3) zq |>.mono jq)
           have KU:=bW.out.keep aq;have e1:(dx++[x])++gxs.drop (k+1)=dx++gxs.drop k:=by rw[AG.out,List.append_assoc];rfl
           refine⟨k+1,l,f,dx++[x],am.out,by go_num,rfl,rfl,by rw[List.length_append,iv];rfl,Lib.hid fun _=>by rw[e1];exact KU,Lib.hid fun y hy=> ?_,nO,Lib.hid fun dL=> ?_,HB.out.trans (aq.mono aE),Nat.le_trans jL aq.size⟩
           ·rcases List.mem_append.1 hy with hy|hy
            ·exact(fX.out y hy).keep aq
            ·rw[List.mem_singleton.1 hy];exact .inl bs.out
           ·obtain⟨h1,h2⟩:=kL.out dL;exact⟨by rw[h1,Ex.out,List.map_append];rfl,h2⟩
 case measure=>have:=am.out;simp only[intOf];omega):P:=h
theorem MI (h:P:=by
 go_round
 case rel=>exact⟨k+1,am.out,by go_num,by first|exact True.intro|rfl,HE.out⟩
 case measure=>have:=am.out;simp only[intOf];omega):P:=h
theorem MJ (h:P:=by
 refine⟨0,Nat.zero_le _,rfl,0,HX,fits_zero,Rat.le_refl,Rat.le_refl,?_,?_,?_,?_,?_⟩
 ·exact Bw
 ·simp
 ·exact zal (zal (zar _ _ _ rfl))
 ·exact zal (zar _ _ _ Mcq)
 ·exact zar _ _ _ Mcq):P:=h
theorem MK (h:P:=by
 have h0:xs=[]:=by
  cases xs with
  |nil=>rfl
  |cons y ys=>obtain⟨b,off,h,_⟩:=hS Mcq;cases h
 subst h0;go_wp2_with fail
 go_ret
 exact⟨_,rfl,OwnS.nil,Below.refl _ _⟩):P:=h
theorem ML (h:P:=by
 have g4:wq.heap[P]?=some (zbr part):=(g3.others P Mcr Mcn Mcn).trans (zal Ip.out);have g5:Two2 w wq C m:=DW.out.trans (Two2.trans McC g3);have G1:=Lib.hid g1;have G2:=Lib.hid g2;have G4:=Lib.hid g4;have G5:=Lib.hid g5;clear g1 g2 g3 g4 g5;go_wp2_with fail
 go_round
 case rel=>exact⟨k+1,_,_,by omega,by go_num,ej.out.symm,G1.out,G2.out,G5.out,G4.out⟩
 case measure=>simp[intOf];omega):P:=h
theorem MM (h:P:=by
 have HX:Hid (R=(0,12)):=by show _=_;rw[HR.out,aL,if_neg (by simp[h0])]
 have gR:=Lib.hid aL;clear HR aL h0
 go_wp2_with (go_at_call 65
              go_must(refine(bF.out _ Bw).mono ?_)
              rintro e wq ⟨h1,⟨ai,_⟩|⟨_,_,rfl⟩|⟨_,base,b,la,co,B,T,i,g,hi,_⟩⟩
              ·exact absurd HE.out ai
              rotate_left 1
              ·rw[gR.out]at hi;cases hi
              go_must(have bK:Below w.heap.size w wq:=Below.trans Bw (h1.mono Mcq))
              have ee:=Lib.hid bK
              clear h1 bK)
 go_ret2
 rw[HX.out]
 exact Ret.of rfl ee.out):P:=h
theorem MN (h:P:=by
 have HX:Hid (R=(0,E)):=by show _=_;rw[HR.out,if_pos Mdh]
 have HE:=Lib.hid h0;have heb:(E != 0)=true:=Mdh;clear HR h0
 go_wp2_with (go_at_call 65
              go_must(refine(bF.out _ Bw).mono ?_)
              rintro e wq ⟨h1,⟨_,rfl⟩|⟨h0,_⟩|⟨h0,_⟩⟩;rotate_left 1
              ·exact absurd h0 HE.out
              ·exact absurd h0 HE.out
              go_must(have bK:Below w.heap.size w wq:=Below.trans Bw (h1.mono Mcq))
              have ee:=Lib.hid bK
              clear h1 bK)
 go_ret2
 rw[HX.out]
 exact Ret.of rfl ee.out):P:=h
theorem MO (h:P:=by
 have bz:Hid (R=4):=by show _=_;rw[HR.out];simp[zcs, *]
 clear HR HK dr;go_wp2_with (go_at_call 130;refine(zcb _ _ McY).mono ?_;rintro e wq ⟨rfl,rfl⟩;rw[hq])
 go_ret
 rw[bz.out]
 exact Ret.of rfl Bw):P:=h
theorem MP (h:P:=by
 have HE:Hid (R=ixI (zlA place day) gs (k+1)):=by show _=_;rw[av.out,if_neg (by unfold zlA zaU;simp[dw, *])]
 go_wp2_with fail
 go_round
 case rel=>exact⟨k+1,am.out,by go_num,HE.out,fF.out⟩
 case measure=>have:=am.out;simp only[intOf];omega):P:=h
theorem MQ (h:P:=by
 (try simp only)
 (repeat' split)<;>intro h<;>first|rfl|exact absurd rfl h):P:=h
theorem MR (h:P:=by
 go_upto_region 6 with fail
 (refine zan Mco Mco ?_
  repeat(first|go_big_quiet_skip|(go_big_quiet_want;go_big_quiet_op;first|go_big_quiet_on|(apply Exists.intro;refine⟨fun _=> ?_,?_⟩;(fail);go_big_quiet_on)))
  refine wpQuiet_nil ?_
  rintro _ ⟨zq,rfl⟩)
 go_wp2_with fail
 go_round
 case rel=>exact⟨k+1,am.out,by go_num,HE,zb6 HB.out zq⟩
 case measure=>have:=am.out;simp only[intOf];omega):P:=h
theorem MS (h:P:=by
 gi_wp2
 have g2:=Boxed.set (.string ⟨#[]⟩) T2.out;have HD:=Lib.hid hd;have bL: ∀i,SpIx s x w .ret (pre++[(i,y1,y2)]) (wr.setCell ⟨w.heap.size+1+1,0,none⟩ (.string ⟨#[]⟩)):=fun i=>⟨⟨rfl,pre.map Prod.snd,(y1,y2),by simp,HP.out,HM.out,by rw[HO.out,HD.out];exact g2⟩,zaM (aJ.trans (aW.out.mono Mcn)) Mcr _⟩
 first
  |exact⟨(KeepsOthers.setCell _ _ _).from _,bL _⟩
  |(trace_state;fail "ret")):P:=h
theorem MT (h:P:=by
 go_wp2_with fail
 go_meet
 exact⟨zaQ (by simp[fm2, *]),by first|exact True.intro|rfl⟩):P:=h
theorem MU (h:P:=by
 go_wp2_with fail
 go_ret
 exact Ret.of (zaQ HE.out.symm) HB.out):P:=h
theorem MV (h:P:=by
 clear bO;go_wp2_with (go_at_call 125;go_must(refine(sY.out _).mono ?_);rintro e wq ⟨rfl,z,rfl⟩)
 rw[HE.out];refine bodyPost_ret (v:= .tuple #[zaB o, .bool false]) ?_ rfl ?_
 ·exact zgH rfl _ _ w.heap.size _ _ _ rfl rfl (by first|exact zb2 (zer g0)|exact zer (zb2 g0))
 ·exact Ret.of rfl (by first|exact zb6 (zaM (zaM HB.out Mcq _) Mcq _) z|exact zaM (zaM (zb6 HB.out z) Mcq _) Mcq _)):P:=h
theorem MW (h:P:=by
 go_roundg f'
 case measure=>omega
 case rel=>
  refine⟨f',y+1,Nat.le_refl _,by omega,by omega,by omega,HN,HC.out,by repeat(first|exact B_refl|exact Below.refl _ _|assumption|with_reducible refine zad ?_ _|with_reducible refine zb6 ?_ _|with_reducible refine zaH ?_|with_reducible refine zd5 ?_ _|with_reducible refine zaM ?_ Mdm _),J_ne Mcn g0,?_⟩;have:=Joins.block_setCell (i:=0) g1 (.int .i64 (y+1))
  simpa using this):P:=h
theorem MX (h:P:=by
 go_wp2_with fail
 go_round
 case rel=>exact⟨k+1,es,by omega,by go_num,nh.out,by rw[aj,mX.out,Option.toList_none,List.append_nil];exact I0.out,aH.out,by have:=eO.out;omega⟩
 case measure=>simp[intOf];omega):P:=h
theorem MY (h:P:=by
 refine znh rfl _ _ w.heap.size _ _ _ _ _ _ rfl ?_ ?_ ?_ ?_ ?_ ?_<;>simp[go_sem]):P:=h
theorem MZ (h:P:=by
 refine zbX rfl _ _ _ _ _ rfl ?_ ?_
 ·simp[go_sem,hC]
 ·simp[go_sem,hC]):P:=h
theorem M0 (h:P:=by
 (repeat(first|exact zar _ _ _ (by simp[zae];done)|with_reducible refine zb2 ?_|with_reducible refine zal ?_))):P:=h
theorem M3 (h:P:=by
 clear hc aV;go_wp2_with fail
 (refine zan Mco Mco ?_
  repeat(first|go_big_quiet_skip|(go_big_quiet_want;go_big_quiet_op;first|go_big_quiet_on|(apply Exists.intro;refine⟨fun _=> ?_,?_⟩;(fail);go_big_quiet_on)))
  refine wpQuiet_nil ?_
  rintro _ ⟨zq,rfl⟩)
 go_wp2_with fail
 go_roundw
 case rel=>exact⟨j+1,by omega,by go_num,zba Bw⟩
 case measure=>simp[intOf];omega):P:=h
theorem M4 (h:P:=by
 rcases h with⟨rfl,_⟩|⟨g,o,c,cur,rfl,_,hg,_⟩
 ·simp[zaA]
 ·intro h;simp only[zaA,Option.some.injEq]at h;subst h;rw[hg]at hT;simp only[Option.some.injEq,Obj.cells.injEq]at hT
  exact ai hT.2.1.symm):P:=h
theorem M5 (h:P:=by
 go_wp2_with (first
  |(go_at_call 134;refine(zbh _ _ _ _).mono ?_;rintro e wq ⟨rfl,rfl⟩;first|rw[v1]|rw[v2])
  |(go_at_call 210;refine(HG.out _).mono ?_;rintro e wq ⟨rfl,z,rfl⟩))
 go_ret
 exact Ret.of (zb1 yQ.out.symm) (HB.out.trans (Below.mono (B:=wc.heap.size) Bw hs))):P:=h
theorem M7 (h:P:=by
 rw[zhR (f:=⟨_,_,_,_,_,_,_,_⟩) (.inl rfl)]
 cases noB fr<;>cases noB pl<;>cases hy:(yr==0)<;>cases hc:(cl==0)<;>simp_all):P:=h
theorem M8 (h:P:=by
 go_wp2_with fail
 go_ret
 exact⟨by rw[HE.out];rfl,rfl⟩):P:=h
theorem M9 (h:P:=by
 unfold za9 at hd;simp only[Bool.and_eq_true,decide_eq_true_eq]at hd;refine⟨law.den.toNat,by omega,by omega,law.num,?_⟩;have hz:(law.den:Rat)≠0:=ratI Mcn;have e:((law.den.toNat:Nat):Rat)=(law.den:Rat):=by rw[<-Rat.intCast_natCast,Int.toNat_of_nonneg Mcn]
 rw[Rat.divInt_eq_div,e]
 grind):P:=h
theorem Maa (h:P:=by
 go_round
 case rel=>exact⟨0+1,by omega,by go_num,by first|exact True.intro|rfl,fun j s hj hs=>by
  rcases Nat.lt_succ_iff_lt_or_eq.1 hj with hj|rfl
  ·exact HK.out j s hj hs
  ·simp at hs;rw[<-hs];exact ng.out⟩
 case measure=>simp[intOf]):P:=h
theorem Mab (h:P:=by
 go_round
 case rel=>exact⟨1+1,by omega,by go_num,by first|exact True.intro|rfl,fun j s hj hs=>by
  rcases Nat.lt_succ_iff_lt_or_eq.1 hj with hj|rfl
  ·exact HK.out j s hj hs
  ·simp at hs;rw[<-hs];exact ng.out⟩
 case measure=>simp[intOf]):P:=h
theorem Mac (h:P:=by
 go_round
 case rel=>exact⟨2+1,by omega,by go_num,by first|exact True.intro|rfl,fun j s hj hs=>by
  rcases Nat.lt_succ_iff_lt_or_eq.1 hj with hj|rfl
  ·exact HK.out j s hj hs
  ·simp at hs;rw[<-hs];exact ng.out⟩
 case measure=>simp[intOf]):P:=h
theorem Mad (h:P:=by
 have hw:Region.wanted o (yielded ops a.tmps)=true:=by simp[Region.wanted,bP]
 rw[if_pos hw];unfold Oper.wp;simp[execOp,ho,hx,hi,hu,hrun,Result.andThen]
 exact h):P:=h
theorem Mae (h:P:=by
 go_wp2_with (go_at_call 64;refine(bF.out _ Bw).mono ?_;rintro e wq ⟨rfl,z,rfl⟩;simp only[zlx,Option.map_none])
 go_ret
 exact zbP HW.out Bw HG.out):P:=h
theorem Maf (h:P:=by
 go_wp2_with (go_at_call 88;go_must(refine(I2.out _ (zb6 ak.out z)).mono ?_);rintro e wq ⟨v,rfl,o,b⟩;obtain⟨VA,vc,rfl,_,_⟩:=o.sl zaD;have H8:=Lib.hid ((zb6 ak.out z).trans (b.mono Mcw));clear o b)
 go_ret
 exact Ret.of (zaQ (by simp[hz])) H8.out):P:=h
theorem Mag (h:P:=by
 refine slw_of ((zjh eb cu Mcp).sl zb0) (by rw[List.map_append,yN.out];rfl) fun y hy=> ?_
 rcases List.mem_append.1 hy with hy|hy
 ·exact⟨(sS.out y hy).1,(sS.out y hy).2.keep dh⟩
 ·rw[List.mem_singleton.1 hy]
  exact⟨lz.out,HS.out _ dh⟩):P:=h
theorem Mah (h:P:=by
 go_round
 case rel=>exact⟨k+1,am.out,by go_num,by rw[aD.out];exact H1.out,aH.out⟩
 case measure=>have:=am.out;simp only[intOf];omega):P:=h
theorem Mai (h:P:=by
 first
  |exact⟨(KeepsOthers.setCell _ _ _).from _,bL _⟩
  |(trace_state;fail "ret")):P:=h
theorem Maj (h:P:=by
 (go_wp2_with fail
  go_ret
  exact Ret.of (zb1 Mc6) Bw)):P:=h
theorem Mak (h:P:=by
 refine zbX rfl _ _ _ _ _ rfl ?_ ?_
 ·simp[go_sem]
 ·simp[go_sem]):P:=h
theorem Mal (h:P:=by
 clear hR;go_wp2_with fail
 go_ret
 exact Ret.of (zaQ HE.out.symm) Bw):P:=h
theorem Mam (h:P:=by
 go_wp2_with fail
 go_ret
 exact zbP HW.out Bw ji.out):P:=h
theorem Man (h:P:=by
 rename_i hc
 have h:(zbT laws s k last d).2=0:=h;rw[h]at hc
 exact absurd hc Mcp):P:=h
theorem Mao (h:P:=by
 rw[zhR (f:=⟨_,_,_,_,_,_,_,_⟩) (.inl rfl)]
 cases noB fr<;>cases noB pl<;>cases hy:(yr==0)<;>cases hc:(cl==0)<;>cases ps<;>simp_all):P:=h
theorem Map (h:P:=by
 go_wp2_with (at_builtin;refine za1 (n:=xs.length) (m:=1) rfl _ _ rfl zdU zao zce rfl HO.out rfl rfl rfl HS.out McL Mcn aQ ?_;intro v' w' h1 h2 h3)
 all_goals go_ret
 all_goals exact⟨_,rfl,h1,h2,h3⟩):P:=h
theorem Maq (h:P:=by
 rcases List.mem_append.1 hy with hy|hy
 ·exact⟨(rs7 y hy).1,(rs7 y hy).2.kept (zaz _ _ _ _) o7 Mcp⟩
 ·obtain rfl:=List.mem_singleton.1 hy
  exact⟨mi,ro7.kept (zaz _ _ _ _) o7 Mcp⟩):P:=h
theorem Mar (h:P:=by
 go_quiet (fail)
 go_wp2_with fail
 go_meet
 exact⟨zaQ (by simp[*]),zd5 (Below.refl _ _) _⟩):P:=h
theorem Mas (h:P:=by
 rw[List.getElem?_set_ne hj]at e2;have ai:T'≠T:=fun e=>by
  subst e;exact hj ((List.getElem?_inj (List.getElem?_eq_some_iff.1 hi).1 hT.nd).1 (hi.trans e1.symm))
 exact(hT.all j T' g e1 e2).kept hg hx ai Mcp Mcp):P:=h
theorem Mat (h:P:=by
 go_wp2_with (go_at_call 79;go_must(refine(zcy _ _ _ _).mono ?_);rintro e wq ⟨rfl,rfl⟩)
 go_ret
 exact⟨rfl,rfl⟩):P:=h
theorem Mau (h:P:=by
 have HE:=Lib.hid he;clear he;go_wp2_with fail
 go_round
 case rel=>exact⟨by first|exact True.intro|rfl, .inr (.inl ⟨by go_num,by rw[HE.out]⟩)⟩
 case measure=>simp only[intOf];decide):P:=h
theorem Mav (h:P:=by
 have:=zdY (t:=52) zb0 (WX.drew.alloc (.cells #[.int .i64 d.kind, .int .i64 d.day, .string d.place, .string d.frm, .slice B d.to.length c, .int .i64 d.cls, .int .i64 d.years] 52)) WX.heap.size Mcq
 simpa using this):P:=h
theorem Maw (h:P:=by
 have HE:Hid (R=(k:Int)):=by show _=_;rw[av.out,if_pos (by unfold zlA zaU;simp[dw, *])]
 go_wp2_with fail
 go_ret
 exact Ret.of (zb1 HE.out.symm) (ak.out.trans (fF.out.mono ak.out.size))):P:=h
theorem Max (h:P:=by
 rw[hd]at sS;clear hx hd;go_wp2_with (go_at_call 32;go_must(refine(sS.out _ Mdi).mono ?_);rintro e wq ⟨rfl,z,rfl⟩)
 go_ret
 exact Ret.of (by rw[HE.out];rfl) (zb6 ak.out z)):P:=h
theorem May (h:P:=by
 go_wp2_with fail
 go_quiet (fail)
 go_wp2_with fail
 go_ret
 exact Ret.of (zaQ (by rw[HU.out];simp)) Bw):P:=h
theorem Maz (h:P:=by
 rw[List.drop_eq_nil_of_le Mcn,zeZ]at hf;have HF:=Lib.hid hf;clear hf hS;have jC: ¬(k:Int)<(ls.length:Int):=Mcn;go_wp2_with fail
 go_ret
 exact Ret.of (zb1 (by rw[HF.out])) Bw):P:=h
theorem MaA (h:P:=by
 go_wp2_with (go_at_call 130;refine(zcb _ _ hs).mono ?_;intro e wq hq;rcases Ret0.bools hq with⟨rfl,⟨hb,rfl⟩|⟨hb,rfl⟩⟩<;>clear hq)
 all_goals go_ret
 all_goals exact Ret.of (zaQ (by simp[*])) Bw):P:=h
theorem MaB (h:P:=by
 go_enter Tryz.func191,Tryz.ntmps191
 go_wp2_with (go_at_call 238;refine(zo1 _ _ h0 h1).mono ?_;rintro e wq ⟨rfl,rfl⟩;rw[hl])
 all_goals go_ret
 all_goals exact⟨by rw[HD.out,hl];rfl,rfl⟩):P:=h
theorem MaC (h:P:=by
 go_wp2_with fail
 refine bodyPost_ret (v:=zaB (zag (P++(qn,qr)::Q) nm)) ?_ rfl ?_
 ·rw[IF.out];exact Mcc
 ·exact Ret.of rfl Bw):P:=h
theorem MaD (h:P:=by
 go_ret
 exact Ret.of (zaQ (by rw[bz.out];rfl)) (HB.out.trans (Below.mono (B:=wr.heap.size) Bw aE))):P:=h
theorem MaE (h:P:=by
 go_wp2_with fail
 go_ret
 rw[av.out]
 exact Ret.of rfl Bw):P:=h
theorem MaF (h:P:=by
 go_wp2_with (go_at_call 126;go_must(refine(qq.out _ Mdi).mono ?_);rintro e wq ⟨rfl,z,rfl⟩)
 go_ret
 exact Ret.of (zb1 HE.out.symm) (zb6 ak.out z)):P:=h
theorem MaG (h:P:=by
 go_wp2_with fail
 go_ret
 exact Ret.of rfl Bw):P:=h
theorem MaH (h:P:=by
 go_wp2_with fail
 go_ret
 exact⟨rfl,rfl⟩):P:=h
theorem MaI (h:P:=by
 have e:xs.flatMap zaa=(xs.take i).flatMap zaa++(xs.drop i).flatMap zaa:=Mdd;rw[e,List.getElem?_append_left Mcn]
 exact hj):P:=h
theorem MaJ (h:P:=by
 clear aj hs;go_wp2_with fail
 go_round
 case rel=>exact⟨k+1,am.out,by go_num,by rw[aD.out];exact HO.out,HB.out⟩
 case measure=>have:=am.out;simp only[intOf];omega):P:=h
theorem MaK (h:P:=by
 go_enter Tryz.func274,Tryz.ntmps274
 go_wp2_with (go_at_call 279;refine(zoZ _ _ h0 h1).mono ?_;rintro e wq ⟨rfl,rfl⟩;rw[hl])
 all_goals go_ret
 all_goals exact⟨rfl,rfl⟩):P:=h
theorem MaL (h:P:=by
 go_wp2_with fail
 go_round
 case rel=>exact⟨by first|exact True.intro|rfl, .inr (.inr ⟨by go_num,by rw[HE.out]⟩)⟩
 case measure=>simp only[intOf];decide):P:=h
theorem MaM (h:P:=by
 go_wp2_with (go_at_call 86;go_must(refine(fD.out _ Mdi).mono ?_);rintro e wq ⟨rfl,z,rfl⟩)
 go_ret
 exact Ret.of (zaQ Mcq) (zb6 ak.out z)):P:=h
theorem MaN (h:P:=by
 have ar: ¬(k:Int)<(l.length:Int):=Mcn;rw[List.take_of_length_le Mcn]at HO;clear ae hB;go_wp2_with fail
 go_ret
 exact⟨_,rfl,HO.out,HB.out⟩):P:=h
theorem MaO (h:P:=by
 rw[aL]at this
 simpa only[zlx,Option.map_some,iC]using this):P:=h
theorem MaP (h:P:=by
 clear hx;go_wp2_with (go_at_call 66;go_must(refine(zcM _ _).mono ?_);rintro e wq ⟨rfl,rfl⟩;rw[hd])
 go_ret
 exact Ret.of (zb1 HE.out.symm) aH.out):P:=h
theorem MaQ (h:P:=by
 (repeat(first|with_reducible exact zar _ _ _ Mcq|with_reducible exact zar _ _ _ Mdv|with_reducible refine zb2 ?_|with_reducible refine zal ?_))):P:=h
theorem MaR (h:P:=by
 rw[ba];clear hN sW ba bK eb
 exact⟨rfl,aj,js,(KeepD.below aZ).trans (KeepD.cells (zcd wr T _ _ _ _ _ _) mW.out Mcp)⟩):P:=h
theorem MaS (h:P:=by
 refine Nat.le_trans (List.length_filter_le _ _) ?_;rw[List.length_take]
 omega):P:=h
theorem MaT (h:P:=by
 rw[hc]at HC;go_wp2_with (go_at_call 165;go_must(refine(HC.out _).mono ?_);rintro e wq ⟨rfl,rfl⟩)
 go_ret
 exact⟨by rw[bz.out];rfl,rfl⟩):P:=h
theorem MaU (h:P:=by
 have sW:=Lib.hid fN;clear fN;go_wp2_with fail
 go_ret
 exact zbP HW.out aW.out (sW.out.trans Mcq)):P:=h
theorem MaV (h:P:=by
 obtain⟨h1,g',h2,h3⟩:=zob n day l (k+1) j i h;refine⟨by omega,g',?_,h3⟩;rw[show i-k=(i-(k+1))+1 by omega,List.getElem?_cons_succ]
 exact h2):P:=h
theorem MaW (h:P:=by
 go_wp2_with (go_at_call 79;refine(zcy _ _ _ _).mono ?_;rintro e wq ⟨rfl,rfl⟩)
 all_goals go_ret
 all_goals exact Ret.of (zaQ (by rw[hv])) Bw):P:=h
theorem MaX (h:P:=by
 have hx:decide ((10:Int)<(ls.length:Int))=true:=Mcr;go_wp2_with fail
 go_ret
 exact Ret.of (zb1 (by rw[za8,if_pos Mcr])) Bw):P:=h
theorem MaY (h:P:=by
 go_round
 case rel=>exact⟨k+1,am.out,by go_num, .inr ⟨uG.out,dJ.out⟩,ax.out⟩
 case measure=>have:=am.out;simp only[intOf];omega):P:=h
theorem MaZ (h:P:=by
 go_ret2
 refine⟨out,true,fun _=>⟨by rw[HR.out,jN.out];rfl,?_⟩,by simp,Ret.of rfl Bw⟩;have h:=jN.out;simp[zbk,inR]at h
 omega):P:=h
theorem Ma0 (h:P:=by
 go_upto_region 6 with fail
 go_quiet (fail)
 go_wp2_with fail
 go_meet
 exact⟨by rw[lO.out],zd5 fE.out _⟩):P:=h
theorem Ma1 (h:P:=by
 go_wp2_with (go_at_call 99;refine(jh.out _ Bw _).mono ?_;rintro e wq ⟨rfl,z,rfl⟩)
 go_ret
 exact zbP HW.out Bw (by rw[ji.out];simp)):P:=h
theorem Ma2 (h:P:=by
 rintro e wq ⟨rfl,z,rfl⟩
 exact⟨rfl,hW.trans ((zaq W z).mono hW.size)⟩):P:=h
theorem Ma3 (h:P:=by
 go_ret
 exact Ret.of (zb1 (by rw[HR.out];simp[zcs,p1,p2,isDay0,inR34, *])) (HB.out.trans (Below.mono (B:=wc.heap.size) Bw hs))):P:=h
theorem Ma4 (h:P:=by
 go_ret
 exact⟨by rw[bz.out];rfl,rfl⟩):P:=h
theorem Ma5 (h:P:=by
 clear hx;rw[zdF h,hp]
 go_simp):P:=h
theorem Ma6 (h:P:=by
 rcases ae with⟨rfl,_⟩|⟨g',o,c',cur,rfl,_,eu,_⟩
 ·cases hk
 ·simp only[zaA,Option.some.injEq]at hk;subst hk
  exact⟨cur,_,eu⟩):P:=h
theorem Ma7 (h:P:=by
 go_wp2_with fail
 go_ret
 exact Ret.of (zaQ HE.out.symm) ak.out):P:=h
theorem Ma8 (h:P:=by
 first|omega|(simp[zae];done)|(simp[zae];omega)):P:=h
theorem Ma9 (h:P:=by
 simp only[Value.slice.injEq]at e'
 omega):P:=h
theorem Mba (h:P:=by
 have:=zdY (t:=163) zbi (WX.drew.alloc (.cells #[.string d.frm, .string tn] 163)) WX.heap.size Mcq
 simpa using this):P:=h
theorem Mbb (h:P:=by
 have:=aV 0 (.string q.name) (by simp[hq,RPart.cells])
 simpa using this):P:=h
theorem Mbc (h:P:=by
 have:sh.num≠0:=fun e=>hz (Rat.num_eq_zero.1 e)
 simpa using this):P:=h
theorem Mbd (h:P:=by
 have:(zai s n).length<=s.children.length:=by unfold zai;rw[List.length_map];exact List.length_filter_le _ _
 omega):P:=h
theorem Mbe (h:P:=by
 refine fun j hj hQ=>⟨hQ.1,fun e=> ?_⟩
 rcases h3 j e with h|h
 ·exact hQ.2 h
 ·omega):P:=h
theorem Mbf (h:P:=by
 refine bC.mono ?_;rintro e wq ⟨rfl,hB⟩
 exact Ret.of rfl hB):P:=h
theorem Mbg (h:P:=by
 clear HR dp ie;go_enter Tryz.func103,Tryz.ntmps103
 go_wp2_with fail
 go_ret
 rw[HX.out]
 exact Ret.of rfl Bw):P:=h
theorem Mbh (h:P:=by
 rename_i h
 have:q=0:=by simpa using h
 subst this;split
 ·rename_i hs;rw[za2.1 hs];grind
 ·rfl):P:=h
theorem Mbi (h:P:=by
 refine bC.mono ?_;rintro e wq ⟨rfl,rfl⟩
 exact⟨rfl,rfl⟩):P:=h
theorem Mbj (h:P:=by
 split
 ·exact h0
 ·simp only
  repeat(first|split|exact h0)):P:=h
theorem Mbk (h:P:=by
 induction a with
 |nil=>rw[List.nil_append,sumQ,Rat.zero_add]
 |cons x a ih=>rw[List.cons_append,sumQ,sumQ,ih];grind):P:=h
theorem Mbl (h:P:=by
 go_wp2_with fail
 go_ret
 exact Ret.of (zaQ Mcq) Bw):P:=h
theorem Mbm (h:P:=by
 go_wp2_with fail
 go_ret
 exact⟨rfl,HW.out.keep (n:=w.heap.size) Bw,Below.mono (B:=w.heap.size) Bw Mcn⟩):P:=h
theorem Mbn (h:P:=by
 repeat(first|exact zar _ _ _ Mdv|with_reducible refine zb2 ?_|with_reducible refine zal ?_)):P:=h
theorem Mbo (h:P:=by
 rw[zi2,eqSp_refl,if_pos rfl]at this
 exact this):P:=h
theorem Mbp (h:P:=by
 rw[List.getElem?_set_self f9]at e2;simp only[Option.some.injEq]at e1 e2;subst e1 e2
 exact hN):P:=h
theorem Mbq (h:P:=by
 refine zb2 ?_;have:=Joins.block_setCell (i:=2) GG.out (.int .i64 af)
 simpa using this):P:=h
theorem Mbr (h:P:=by
 simp only[results,h]
 simp[Sem.run_bind,Result.andThen]):P:=h
theorem Mbs (h:P:=by
 go_wp2_with fail
 go_meet
 rw[fU]at y8
 exact⟨by rw[y8];rfl,rfl⟩):P:=h
theorem Mbt (h:P:=by
 repeat(first|exact zar _ _ _ rfl|with_reducible refine zb2 ?_|with_reducible refine zal ?_)):P:=h
theorem Mbu (h:P:=by simp[List.getD_eq_getElem?_getD,List.getElem?_eq_getElem (show ms.length-1-i<ms.length by omega)]):P:=h
theorem Mbv (h:P:=by
 go_wp2_with fail
 go_meet
 exact⟨zal (zar _ _ _ rfl),zar _ _ _ Mcq,Bw⟩):P:=h
theorem Mbw (h:P:=by
 obtain⟨b',off',he,_,aV⟩:=hS.at (k:=k-1) Mcn;cases he
 exact aV 0 _ rfl):P:=h
theorem Mbx (h:P:=by exact⟨fun o h=>by cases h;rfl,fun h=>by cases h⟩):P:=h
theorem Mby (h:P:=by
 go_wp2_with fail
 go_meet
 exact⟨by rw[kD],by first|exact True.intro|rfl⟩):P:=h
theorem Mbz (h:P:=by
 rename_i hl
 simp only[Bool.or_eq_true,Bool.and_eq_true,beq_iff_eq,bne_iff_ne]at hl
 omega):P:=h
theorem MbA (h:P:=by
 go_wp2_with fail
 go_ret
 exact Ret.of rfl (HB.out.trans (Below.mono Bw HB.out.size))):P:=h
theorem MbB (h:P:=by
 rw[h']at hk;simp only[Option.some.injEq,Obj.cells.injEq]at hk
 exact ht hk.2.1.symm):P:=h
theorem MbC (h:P:=by
 go_ret2
 rw[HX.out];have bK:=ee.out;have aE:=bK.size
 exact Ret.of rfl Bw):P:=h
theorem MbD (h:P:=by
 rintro rfl;have:=HH.out;rw[show y=1800+day/366+10 by omega]at hc
 omega):P:=h
theorem MbE (h:P:=by
 go_wp2_with fail
 go_ret
 refine⟨congrArg Ending.returned (zb1 ?_),rfl⟩
 rw[HV.out]):P:=h
theorem MbF (h:P:=by
 go_ret2
 exact⟨out,false,by simp,fun _=>by rw[HR.out,jN.out];rfl,Ret.of rfl Bw⟩):P:=h
theorem MbG (h:P:=by
 refine zbX rfl _ _ w.heap.size _ _ rfl ?_ ?_
 ·simp[go_sem]
 ·simp[go_sem]):P:=h
theorem MbH (h:P:=by
 rintro e wq ⟨rfl,z,rfl⟩
 exact⟨rfl,ft.trans ((zaq W' z).mono ft.size)⟩):P:=h
theorem MbI (h:P:=by
 have:=Joins.block_setCell (i:=1) g1 (.int .i64 ((m:Int)+1))
 simpa using this):P:=h
theorem MbJ (h:P:=by
 have:=(List.getElem?_eq_some_iff.1 hk).1;simp at this
 omega):P:=h
theorem MbK (h:P:=by
 have:=Joins.block_setCell (i:=1) (Joins.block_setCell (i:=0) h a) b
 simpa using this):P:=h
theorem MbL (h:P:=by
 refine .inl ⟨hd,Ret.of rfl ?_⟩
 exact Bw):P:=h
theorem MbM (h:P:=by
 refine .inr ⟨hd,Ret.of rfl ?_⟩
 exact Bw):P:=h
theorem MbN (h:P:=by
 obtain⟨h1,h2⟩:=zoh g l k x h
 exact⟨List.mem_cons_of_mem _ h1,h2⟩):P:=h
theorem MbO (h:P:=by
 rw[if_pos rfl]
 exact⟨fun o h=>by(cases h),fun _=>zf9 Mcq⟩):P:=h
theorem MbP (h:P:=by
 show _<=((Sort.mapBlock _ _ _).heap++os).size
 simp[Sort.mapBlock,Sort.ahead]):P:=h
theorem MbQ (h:P:=by
 unfold WldC at hC;rw[hC]at hx
 simp at hx):P:=h
theorem MbR (h:P:=by
 clear xs0 xd0 xr0 s0 s1 s2 s3 s4 s5 s6 d0 d1 d2 d3 d4 d5 d6 r0 r1 r2 r3 r4 r5 r6 rf ls ld lr;obtain⟨⟨xs0,xd0,xr0⟩,⟨s0,s1,s2,s3,s4,s5,s6⟩,⟨d0,d1,d2,d3,d4,d5,d6⟩,⟨r0,r1,r2,r3,r4,r5,r6⟩,rf,ls,ld,lr⟩:=ddF (ax.out _ (bf))
 exact Mg):P:=h
theorem MbS (h:P:=by
 have d1:wq.cell? ⟨w.heap.size,1,none⟩=some (.int .i64 dy):=McS;have d2:wq.cell? ⟨w.heap.size,2,none⟩=some (.string pl):=McS;have d3:wq.cell? ⟨w.heap.size,3,none⟩=some (.string fr):=McS;have d4:wq.cell? ⟨w.heap.size,4,none⟩=some (.slice B ts.length c):=McS;have d5:wq.cell? ⟨w.heap.size,5,none⟩=some (.int .i64 cl):=McS;have d6:wq.cell? ⟨w.heap.size,6,none⟩=some (.int .i64 yr):=McS;clear hW hB hK h0 gA fQ cC;refine NxM hK (fun hHeld=> ?_) (⟨d0,d1,d2,d3,d4,d5,d6⟩);clear hK K;refine OnH 5 fun K hK=> ?_
 go_simp
 refine NxM hK (fun hHeld=> ?_) (⟨d0,d1,d2,d3,d4,d5,d6⟩);clear hK K;refine wpAnyH_done Mco ?_ _;clear d0 d2 d3 d4 d5 d6 d1;go_upto_region 18 with fail
 exact Md):P:=h
theorem MbT (h:P:=by
 refine NxM hK fun hHeld=> ?_
 clear hK K;refine OnM 14 true fun K hK=> ?_
 refine zak (v:= .slice A5 (a+[x].length) c5) (n:=a+[x].length) (m:=xs.length-a) rfl _ _ rfl zbL zaD zbK rfl (xs:=xs.take a++[x]) (ys:=xs.drop a) g1 Mek rfl (lC.out) (uY.out w5 aq) McK McR (by have:=aq.size;omega) ?_;intro v6 w6 k1 k2 k3;have aI:Below wr.heap.size wr w6:=Below.grown aq k2 aq.size (fun j hj=>(g1.ge j hj).1);refine NxM hK fun hHeld=> ?_
 clear hK K;refine OnM 15 true fun K hK=> ?_
 go_simp
 refine NxM hK fun hHeld=> ?_
 clear hK K;refine zaN Mco ?_ _;clear hHeld;have K1:=Lib.hid k1;have bV:=Lib.hid aI;clear k1 k2 k3 aI aq g1 g2 g3;go_wp2_with fail
 go_round
 case rel=>exact⟨k+1,am.out,by go_num,by rw[aD.out];exact K1.out.base_le Mcn,HB.out.trans (bV.out.mono Mcn)⟩
 case measure=>have:=am.out;simp only[intOf];omega):P:=h
theorem MbU (h:P:=by
 refine NxM hK (fun hHeld=> ?_) (.inr (bX.out _ aC));clear hK K;refine OnM 10 true fun K hK=> ?_
 refine zak (v:= .slice V4 a c4) (n:=a) (m:=1) rfl _ _ rfl zbL zaD zbK rfl (xs:=xs.take a) (ys:=[x]) (h1) eR.out rfl rfl (zga n2) Mcx McM Mdt ?_;intro v5 w5 g1 g2 g3;obtain⟨A5,c5,ed,_,_⟩:=g1.sl zaD;rw[List.length_append,eR.out]at ed;subst ed;have aq:Below wr.heap.size wr w5:=Below.grown aC g2 (by have:=(aC).size;omega) (fun j hj=>((h1).ge j hj).1);refine NxM hK fun hHeld=> ?_
 clear hK K;refine OnM 14 true fun K hK=> ?_
 refine zak (v:= .slice A5 (a+[x].length) c5) (n:=a+[x].length) (m:=0) rfl _ _ rfl zbL zaD zbK rfl (xs:=xs.take a++[x]) (ys:=xs.drop a) g1 Mek rfl (by rw[<-lC.out];omega) (uY.out _ w5 aq) McK McR (by have:=aq.size;omega) ?_
 exact Mi):P:=h
theorem MbV (h:P:=by
 have HR:Hid (R=false):=by(show _=_;rw[hR];rfl)
 exact Mf):P:=h
theorem MbW (h:P:=by
 have HR:Hid (R=false):=by(show _=_;rw[hR];simp[zaf, *])
 exact Mf):P:=h
theorem MbX (h:P:=by
 have y2:ot.toList.isEmpty=true:=z2;have w2:ot.toList=[]:=Meg;cases z3:noB pl
 ·exact Mcm
 ·have y3:pl.toList.isEmpty=true:=z3;have w3:pl.toList=[]:=Meh
  exact Mck):P:=h
theorem MbY (h:P:=by
 go_wp2_with (go_at_call 127
              go_must(refine(dW.out _ (zaq W0 zq)).mono ?_)
              rintro e w5 ⟨a0,a1,a2,a3,a4,a5,a6,rfl,aP,aq,aj⟩;obtain⟨⟨_,_,_,rfl⟩,⟨_,_,_,rfl⟩,⟨_,_,_,rfl⟩,⟨_,_,_,rfl⟩,⟨_,_,_,rfl⟩,⟨_,_,_,rfl⟩,⟨_,_,_,rfl⟩⟩:=zck aP;have aq:=(zaq W0 zq).trans (aq.mono (zaq W0 zq).size);have bi:=Lib.hid aq;have aD:=Lib.hid aj;obtain⟨_,_,xr5⟩:=ax.out w5 aq;obtain⟨t0,t1,t2,t3,t4,t5,t6⟩:=zaG xr5;have tf:=frz xr5
              clear aq aj aP)
 exact Mw):P:=h
theorem MbZ (h:P:=by
 refine NxM hK (fun hHeld=> ?_) (aG.out _ FR3);clear hK K;refine OnM 27 false fun K hK=> ?_
 refine zak (v:= .slice QA pz.length qc) (n:=pz.length) (m:=1) rfl _ _ rfl zbL zaD zbK rfl (xs:=pz) (ys:=[fr]) (ob3.keep (n:=w3.heap.size) Bw) rfl rfl rfl (zdj (x2)) McL Mcn (by have:=HW.out.lt;(try simp);omega) ?_
 exact Ma):P:=h
theorem Mb0 (h:P:=by
 have HR:Hid (R=true):=by(show _=_;rw[hR];simp[zaf, *])
 exact Mf):P:=h
theorem Mb1 (h:P:=by
 have y2:ot.toList.isEmpty=false:=z2;have w2: ¬ot.toList=[]:=Meg
 exact Mh):P:=h
theorem Mb2 (h:P:=by
 rcases List.mem_append.1 hy with hy|hy
 ·exact((uo.out y hy).keep eN.out).kept (zaz _ _ _ _) mA
 ·rw[List.mem_singleton.1 hy]
  exact .inr ⟨(uQ.out.keep eN.out).kept (zaz _ _ _ _) mA Mcp,(lJ.out.ro').kept (zaz _ _ _ _) mA Mcp⟩):P:=h
theorem Mb3 (h:P:=by
 rw[List.drop_eq_nil_of_le Mcn]at hx;have HX:=Lib.hid hx;clear hx dK aw kC;have jC: ¬(k:Int)<(ps.length:Int):=Mcn;go_wp2_with fail
 all_goals go_ret
 all_goals exact Ret.of (zaQ (by rw[HX.out];first|(simp[zco,zha, *];done)|(simp[zco,zha, *];omega))) Bw):P:=h
theorem Mb4 (h:P:=by
 have w2: ¬fr.toList=[]:=by simpa using(show fr.toList.isEmpty=false from z2)
 cases xM:zaR fr
 ·have gN:zcA fr=false:=by rw[<-zdv,xM]
  exact Mr
 ·have gN:zcA fr=true:=by rw[<-zdv,xM]
  exact Mr):P:=h
theorem Mb5 (h:P:=by
 refine NxM hK (fun hHeld=> ?_) (.inr (aG.out _ aC));clear hK K;have o9:=h1;have n9:=n2;have e9:=aC
 exact Mk):P:=h
theorem Mb6 (h:P:=by
 refine NxM hK (fun hHeld=> ?_) (.inr (aG.out _ aC));clear hK K;have o9:=h1;have n9:=n2;have e9:=aC
 exact Mn):P:=h
theorem Mb7 (h:P:=by
 refine NxM hK (fun hHeld=> ?_) (.inr (aG.out _ aC));clear hK K;have o9:=h1;have n9:=n2;have e9:=aC
 exact Mo):P:=h
theorem Mb8 (h:P:=by
 refine NxM hK (fun hHeld=> ?_) (.inr (aG.out _ aC));clear hK K;have o9:=h1;have n9:=n2;have e9:=aC
 exact Mp):P:=h
theorem Mb9 (h:P:=by
 refine NxM hK (fun hHeld=> ?_) (.inr (aG.out _ aC));clear hK K;have o9:=h1;have n9:=n2;have e9:=aC
 exact Mq):P:=h
theorem Mca (h:P:=by
 go_wp2_with fail
 go_loop [5,8] (fun a b=>b= .int .i64 0) (fun _ _=>0)
 case atStart=>rfl
 case round=>
  obtain rfl:=hrel
  exact MaH):P:=h
theorem Mcb (h:P:=by
 refine bodyPost_ret (v:=zaB 0) ?_ rfl ?_
 ·exact MZ
 ·exact MbM):P:=h
theorem Mcc (h:P:=by
 refine zbX rfl _ _ w.heap.size _ _ rfl ?_ ?_<;>simp[go_sem]):P:=h
theorem Mcd (h:P:=by
 have y3:pl.toList.isEmpty=true:=z3;have w3:pl.toList=[]:=Meh
 exact Mh):P:=h
theorem Mce (h:P:=by
 have:=zgJ (wr.drew.alloc (.cells #[.string x] 9)) wr.heap.size Mcq
 simpa using this):P:=h
theorem Mcf (h:P:=by
 go_wp2_with (go_at_call 273;refine(qs.out _).mono ?_;rintro e wq ⟨rfl,rfl⟩)
 exact Mx):P:=h
theorem Mcg (h:P:=by
 have w2:fr.toList=[]:=by simpa using(show fr.toList.isEmpty=true from z2)
 exact Mr):P:=h
theorem Mch (h:P:=by
 obtain rfl:k=m:=by omega
 have bE: ¬(k:Int)<(k:Int):=Mcn
 exact MaH):P:=h
theorem Mci (h:P:=by
 refine NxM hK (fun hHeld=> ?_) (.inr (bX.out _ aC));clear hK K;refine OnM 10 true fun K hK=> ?_
 refine zak (v:= .slice V4 a c4) (n:=a) (m:=1) rfl _ _ rfl zbL zaD zbK rfl (xs:=xs.take a) (ys:=[x]) (h1) eR.out rfl rfl (zga n2) Mcx McM Mdt ?_;intro v5 w5 g1 g2 g3;obtain⟨A5,c5,ed,_,_⟩:=g1.sl zaD;rw[List.length_append,eR.out]at ed;subst ed;have aq:Below wr.heap.size wr w5:=Below.grown aC g2 (by have:=(aC).size;omega) (fun j hj=>((h1).ge j hj).1)
 exact MbT):P:=h
theorem Mcj (h:P:=by
 rw[aN]at hr;rw[zjg aN]at eC;have HE:Hid (R=(s,6)):=Lib.hid hr;clear hr aN;go_upto_region 3 with(go_at_call 23;go_must(refine(eC.out _ (Below.refl _ _)).mono ?_);rintro e wq ⟨rfl,z,rfl⟩)
 have bf:=zaq W0 z
 exact MbR):P:=h
theorem Mck (h:P:=by
 by_cases t1:tl=0
 ·skip
  by_cases u1:nu=0
  ·skip
   by_cases u2:de=0
   ·skip
    exact Mh
   ·skip
    exact Mh
  ·skip
   exact Mh
 ·skip
  exact Mh):P:=h
theorem Mcl (h:P:=by
 have HE:Hid (R=(s,28)):=Mec;rw[ca]at ib;clear hr ca;go_upto_region 17 with(go_at_call 32;go_must(refine(ib.out).mono ?_);rintro e wq ⟨rfl,z,rfl⟩)
 have bf:=zaq W0 z
 exact MbR):P:=h
theorem Mcm (h:P:=by
 have y3:pl.toList.isEmpty=false:=z3;have w3: ¬pl.toList=[]:=Meh
 exact Mh):P:=h
theorem Mcn (h:P:=by omega):P:=h
theorem Mco (h:P:=by kernel_rfl):P:=h
theorem Mcp (h:P:=by decide):P:=h
theorem Mcq (h:P:=by simp):P:=h
theorem Mcr (h:P:=by simp;omega):P:=h
theorem Mcs (h:P:=by simp[World.cell?,g0]):P:=h
theorem Mct (h:P:=by simp[World.cell?,g1]):P:=h
theorem Mcu (h:P:=by
 have:=(e1).size;first|omega|(simp at this⊢;done)|(simp at this⊢;omega)):P:=h
theorem Mcv (h:P:=by have:=tg.out;simp only[maxLen];omega):P:=h
theorem Mcw (h:P:=by simp[zae];omega):P:=h
theorem Mcx (h:P:=by have:=fP.out;have:=HA.out;simp only[maxLen];omega):P:=h
theorem Mcy (h:P:=by
 have:=(e0).size;first|omega|(simp at this⊢;done)|(simp at this⊢;omega)):P:=h
theorem Mcz (h:P:=by have:=(List.getElem?_eq_some_iff.1 hy).1;simp at this;omega):P:=h
theorem McA (h:P:=by simp[World.frozen?,g0]):P:=h
theorem McB (h:P:=by simp[World.frozen?,g1]):P:=h
theorem McC (h:P:=by
 repeat(first|exact Two2.refl2 _ _ _|assumption|with_reducible refine Two2.alloc ?_ _|with_reducible refine Two2.drew ?_|with_reducible refine Two2.ext ?_ _)):P:=h
theorem McD (h:P:=by
 first|omega|(simp;done)|(simp;omega)):P:=h
theorem McE (h:P:=by
 first|(simp;done)|(simp;omega)):P:=h
theorem McF (h:P:=by rw[<-HR.out];simp only[zdn,mX.out, *,Bool.not_true,Bool.not_false,Bool.or_self,Bool.or_true,Bool.true_or,Bool.false_or,Bool.or_false,if_true,if_false,Bool.false_eq_true,ite_true,ite_false,decide_false];done):P:=h
theorem McG (h:P:=by have:=tg.out;omega):P:=h
theorem McH (h:P:=by rw[IntKind.wrap_i64];rw[Int.tmod_eq_emod_of_nonneg h0];omega):P:=h
theorem McI (h:P:=by have:=(e1).size;omega):P:=h
theorem McJ (h:P:=by
 have:=e9.size;first|omega|(simp at this⊢;done)|(simp at this⊢;omega)):P:=h
theorem McK (h:P:=by
 first|(have:=fP.out;have:=HA.out;simp only[maxLen,List.length_singleton];omega)|exact Nat.le_of_ble_eq_true rfl):P:=h
theorem McL (h:P:=by simp[maxLen];omega):P:=h
theorem McM (h:P:=by have:=fP.out;have:=HA.out;omega):P:=h
theorem McN (h:P:=by rw[Int.tmod_eq_emod_of_nonneg h0];unfold wrap64;omega):P:=h
theorem McO (h:P:=by have:=ah 0 _ rfl;simpa using this):P:=h
theorem McP (h:P:=by grind):P:=h
theorem McQ (h:P:=by simp[go_sem]):P:=h
theorem McR (h:P:=by
 first|(have:=fP.out;have:=HA.out;simp only[List.length_singleton];omega)|exact Nat.le_of_ble_eq_true rfl):P:=h
theorem McS (h:P:=by simp only[World.cell?,h0];rfl):P:=h
theorem McT (h:P:=by simpa using h1):P:=h
theorem McU (h:P:=by rw[ao];exact Bw):P:=h
theorem McV (h:P:=by have:=N2.out.size;simp[zae]at this;omega):P:=h
theorem McW (h:P:=by simp only[maxLen];omega):P:=h
theorem McX (h:P:=by have:=fP.out;simp[maxLen];omega):P:=h
theorem McY (h:P:=by assumption):P:=h
theorem McZ (h:P:=by rw[zbb n2 (by simp[zae];omega) (by omega)];simp[go_sem]):P:=h
theorem Mc0 (h:P:=by rw[IntKind.wrap_i64];omega):P:=h
theorem Mc1 (h:P:=by intro j hj;simp[zaA]at hj;omega):P:=h
theorem Mc2 (h:P:=by
 repeat(first|exact zar _ _ _ (by simp)|refine zal ?_)):P:=h
theorem Mc3 (h:P:=by have:=fP.out;omega):P:=h
theorem Mc4 (h:P:=by rw[gR.out]at hi;cases hi;rw[sX.out]at eu;exact(Option.some.inj eu).symm):P:=h
theorem Mc5 (h:P:=by rw[zex,List.length_take];congr 1;omega):P:=h
theorem Mc6 (h:P:=by
 rw[<-HR.out];first|(simp[zdn, *];done)|(simp[zdn, *];omega)):P:=h
theorem Mc7 (h:P:=by rw[List.length_take];omega):P:=h
theorem Mc8 (h:P:=by intro k hk;simp[Value.ownBlock]at hk;omega):P:=h
theorem Mc9 (h:P:=by rw[ao];exact zar _ _ _ rfl):P:=h
theorem Mda (h:P:=by unfold zbt at cv;simp only[World.cell?,cv];rfl):P:=h
theorem Mdb (h:P:=by rw[aM];exact zaq _ _):P:=h
theorem Mdc (h:P:=by
 first|(simp[Act.eval,Act.put];done)|(simp[Act.eval,Act.put];rfl)):P:=h
theorem Mdd (h:P:=by rw[<-List.flatMap_append,List.take_append_drop]):P:=h
theorem Mde (h:P:=by simpa using h):P:=h
theorem Mdf (h:P:=by rw[List.getD_eq_getElem?_getD,List.getElem?_eq_getElem aa];rfl):P:=h
theorem Mdg (h:P:=by simp[zaA]):P:=h
theorem Mdh (h:P:=by simpa using h0):P:=h
theorem Mdi (h:P:=by have:=ak.out;exact Bw):P:=h
theorem Mdj (h:P:=by rw[List.length_append];have:=qR.out;simp at this⊢;omega):P:=h
theorem Mdk (h:P:=by simp only[World.cell?,G1.out,zbr];rfl):P:=h
theorem Mdl (h:P:=by rw[ao];exact zal (zar _ _ _ rfl)):P:=h
theorem Mdm (h:P:=by dsimp only;omega):P:=h
theorem Mdn (h:P:=by have:=(e0).size;omega):P:=h
theorem Mdo (h:P:=by simp[hp]):P:=h
theorem Mdp (h:P:=by
 repeat(first|exact TQ.out|refine zb2 ?_|refine J_drew ?_|refine zal ?_)):P:=h
theorem Mdq (h:P:=by rw[ao];exact zal (zal (zar _ _ _ rfl))):P:=h
theorem Mdr (h:P:=by
 simp only[Nat.min_def];split<;>omega):P:=h
theorem Mds (h:P:=by simp only[World.cell?,yL',zbr];rfl):P:=h
theorem Mdt (h:P:=by
 have:=(aC).size;first|omega|(simp at this⊢;done)|(simp at this⊢;omega)):P:=h
theorem Mdu (h:P:=by simpa using hz):P:=h
theorem Mdv (h:P:=by simp[zae]):P:=h
theorem Mdw (h:P:=by rw[bv];exact hi):P:=h
theorem Mdx (h:P:=by rw[zbb n2 (by simp[zae];omega) (by omega)];simp[go_sem,y1,y3]):P:=h
theorem Mdy (h:P:=by have:=hc 0 _ rfl;simpa using this):P:=h
theorem Mdz (h:P:=by have:=(Rat.lt_iff 0 q).1 h0;simpa using this):P:=h
theorem MdA (h:P:=by rw[za2];exact hm):P:=h
theorem MdB (h:P:=by show Below _ _ _;rw[cF];exact zad aS _):P:=h
theorem MdC (h:P:=by show decide ((0:Int)<=upto)=true;simp;omega):P:=h
theorem MdD (h:P:=by simp[zaA];omega):P:=h
theorem MdE (h:P:=by have:=aI.size;omega):P:=h
theorem MdF (h:P:=by simp[hq]):P:=h
theorem MdG (h:P:=by
 first|rfl|simp[zae]):P:=h
theorem MdH (h:P:=by show _=_;rw[av.out];rfl):P:=h
theorem MdI (h:P:=by have:=u4 0 (.string pn) rfl;rw[Nat.zero_mul]at this;exact this):P:=h
theorem MdJ (h:P:=by rw[nw];exact zaM (HB.out.trans (kg.out.mono aE)) zY _):P:=h
theorem MdK (h:P:=by rw[aM];exact zal (zar _ _ _ rfl)):P:=h
theorem MdL (h:P:=by have:=(List.getElem?_eq_some_iff.1 hi).1;have:=hT.len;omega):P:=h
theorem MdM (h:P:=by simpa using e):P:=h
theorem MdN (h:P:=by show _=_;rw[cD.out,aO];rfl):P:=h
theorem MdO (h:P:=by simp[zbx,hz,hq]):P:=h
theorem MdP (h:P:=by have:=S2.out;omega):P:=h
theorem MdQ (h:P:=by simp only;omega):P:=h
theorem MdR (h:P:=by simpa using hce):P:=h
theorem MdS (h:P:=by show _=_;rw[HR.out];simp[zcs,p1,p2,isDay0,inR34, *]):P:=h
theorem MdT (h:P:=by have:=fP.out;simp only[maxLen];omega):P:=h
theorem MdU (h:P:=by rw[<-HM.out,List.length_map];exact hi):P:=h
theorem MdV (h:P:=by simpa[HM.out]using h1):P:=h
theorem MdW (h:P:=by simp at dZ;omega):P:=h
theorem MdX (h:P:=by simp[Sort.mapBlock,Sort.ahead];omega):P:=h
theorem MdY (h:P:=by rw[HF.out];simp[zhq, *]):P:=h
theorem MdZ (h:P:=by simpa using hc):P:=h
theorem Md0 (h:P:=by simp[Act.eval,Act.put];rfl):P:=h
theorem Md1 (h:P:=by simp only[World.cell?,eF.out];rfl):P:=h
theorem Md2 (h:P:=by show _=_;rw[aj];simp[hs]):P:=h
theorem Md3 (h:P:=by rw[aM];exact Bw):P:=h
theorem Md4 (h:P:=by have:=cr 0 _ rfl;simpa using this):P:=h
theorem Md5 (h:P:=by simp only[World.cell?,G0.out];rfl):P:=h
theorem Md6 (h:P:=by simp only[World.size_alloc];omega):P:=h
theorem Md7 (h:P:=by show _=_;rw[hx];rfl):P:=h
theorem Md8 (h:P:=by have:=e9.size;omega):P:=h
theorem Md9 (h:P:=by have:=aW.out.size;omega):P:=h
theorem Mea (h:P:=by simpa using j9):P:=h
theorem Meb (h:P:=by rw[zao];omega):P:=h
theorem Mec (h:P:=by show _=_;rw[hr,ca];rfl):P:=h
theorem Med (h:P:=by rw[zex,List.length_drop]):P:=h
theorem Mee (h:P:=by
 rw[zbC];exact hc):P:=h
theorem Mef (h:P:=by simpa using h2):P:=h
theorem Meg (h:P:=by simpa using y2):P:=h
theorem Meh (h:P:=by simpa using y3):P:=h
theorem Mei (h:P:=by show _=_;rw[hR,List.drop_zero]):P:=h
theorem Mej (h:P:=by rw[<-zdv,hp3]):P:=h
theorem Mek (h:P:=by rw[List.length_append,eR.out]):P:=h
theorem Mel (h:P:=by have:=aA.out;exact Bw):P:=h
theorem Mem (h:P:=by simp[World.frozen?,g2]):P:=h
theorem Men (h:P:=by rw[beq_eq_false_iff_ne];omega):P:=h
theorem Meo (h:P:=by simp only[World.cell?,t1];rfl):P:=h
theorem Mep (h:P:=by rw[cF];exact zar _ _ _ rfl):P:=h
theorem Meq (h:P:=by simp[World.cell?,h1]):P:=h
theorem Mer (h:P:=by simp[World.cell?,g2]):P:=h
theorem Mes (h:P:=by rw[om];exact zaq _ _):P:=h
theorem Met (h:P:=by simpa using gB):P:=h
theorem Meu (h:P:=by have:=hf.dead;omega):P:=h
theorem Mev (h:P:=by simpa using hj):P:=h
theorem Mew (h:P:=by simp[go_sem,e6,hh]):P:=h
theorem Mex (h:P:=by simpa using k):P:=h
end Go.Proofs.YtjhbofabmpfniaaGreatDoor
