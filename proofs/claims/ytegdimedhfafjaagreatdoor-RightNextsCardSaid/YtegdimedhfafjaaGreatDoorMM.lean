import Derived.WalkLawsBesides
import Derived.WalkSpells
import Derived.BigQuiet
import Derived.Lib.Hide
import Derived.Deep.CutBlock
namespace Go.Proofs.YtegdimedhfafjaaGreatDoor
variable {P:Prop}
theorem Ma(h:P:=by
 intro v4 w4 g1 g2 g3;obtain⟨A7,c7,ja,_,_⟩:=g1.sl zaD;rw[List.length_append]at ja;subst ja;have FR4:Fr2 w w4 (.slice KA ks.length kc) (.slice QA pz.length qc):=(FR3.below Bw).row g2 (fun j hj=> .inr (.inl hj));have dw:∀g,za7 (.slice A6 (ks.length+[q.name].length) c6)=some g->za7 (.slice QA pz.length qc)≠some g:=fun g e1 e2=>by
  rcases h3 g e1 with h|h
  ·exact fw.out g h e2
  ·have:=(d9.out.ge g e2).2;omega
 have oa4:OwnS w4 base 9 1 sC (.slice A6 (ks.length+[q.name].length) c6) (ks++[q.name]):=(h1.keep (n:=w3.heap.size) Bw).grown g2 (by
  cases hb:za7 (.slice A6 (ks.length+[q.name].length) c6)with
  |none=>exact .inl rfl
  |some g=>exact .inr fun e=>dw g hb e.symm)
 have s4:=g2.size;(try simp only[World.size_alloc,World.size_drew]at s4 g3)
 have b1:∀g,za7 (.slice A6 (ks.length+[q.name].length) c6)=some g->za7 (.slice KA ks.length kc)=some g\/w.heap.size<=g:=fun g e=>by
  rcases h3 g e with h|h
  ·exact .inl h
  ·right;omega
 have b2:∀g,za7 (.slice A7 (pz.length+[fr].length) c7)=some g->za7 (.slice QA pz.length qc)=some g\/w.heap.size<=g:=fun g e=>by
  rcases g3 g e with h|h
  ·exact .inl h
  ·right;omega
 have b12:∀g,za7 (.slice A6 (ks.length+[q.name].length) c6)=some g->za7 (.slice A7 (pz.length+[fr].length) c7)≠some g:=fun g e1 e2=>by
  rcases g3 g e2 with h|h
  ·exact dw g e1 h
  ·have:=(h1.ge g e1).2;omega
 refine NxM hK (fun hHeld=>?_) (ax.out _ FR4);clear hK K;refine OnM 28 true fun K hK=>?_
 obtain⟨w5,x5,st5,m5,j5,mO,iH,qh,nI,nF,Eg⟩:=zgn zmC (FR4.mapS fM.out d9.out jO.out) fr;refine zhh rfl _ _ rfl _ _ _ rfl rfl w5 mO ?_;refine NxM hK fun hHeld=>?_
 clear hK K;refine OnM 29 true fun K hK=>?_
 go_simp
 refine NxM hK fun hHeld=>?_
 clear hK K;refine OnM 30 true fun K hK=>?_
 obtain⟨w6,eF,iW,bI,Hr⟩:=zdK (P:=Tryz.prog) iH nI 90 (.slice A6 (ks.length+[q.name].length) c6);refine zfX rfl _ _ _ rfl _ _ _ rfl rfl rfl w6 eF ?_;rw[qh]at iW;refine NxM hK fun hHeld=>?_
 clear hK K;refine OnM 31 true fun K hK=>?_
 have pO:cc≠pp:=by
  have:=HP.out.nd;simp only[List.nodup_cons,List.mem_cons,List.not_mem_nil,or_false,not_or]at this;exact this.2.1.1
 have xQ:MapS w6 pp ekS (fun v:Value=>v) mp:=((FR4.mapS fM.out d9.out bD.out).grown nF (by simpa using fun e=>pO e.symm)).grown bI (by simpa using fun e=>pO e.symm);obtain⟨w7,x7,st7,m7,j7,ym,kx,qi,Gq,nG,Hs⟩:=zgn zmC xQ q.name;refine zhh rfl _ _ rfl _ _ _ rfl rfl w7 ym ?_;refine NxM hK fun hHeld=>?_
 clear hK K;refine OnM 32 true fun K hK=>?_
 go_simp
 refine NxM hK fun hHeld=>?_
 clear hK K;refine OnM 33 true fun K hK=>?_
 obtain⟨w8,GW,Aw,u9,hz8⟩:=zdK (P:=Tryz.prog) kx Gq 90 (.slice A7 (pz.length+[fr].length) c7);refine zfX rfl _ _ _ rfl _ _ _ rfl rfl rfl w8 GW ?_;rw[qi]at Aw;refine NxM hK fun hHeld=>?_
 clear hK K;refine zaI Mcn ?_ _;have xM:=(iW.grown nG (by simpa using pO)).grown u9 (by simpa using pO);have DF:∀k,k<w4.heap.size->k≠cc->k≠pp->w8.heap[k]?=w4.heap[k]?:=fun k hk e1 e2=>
  (((u9.block k Mcm (by simpa using e2)).trans (nG.block k Mcm (by simpa using e2))).trans (bI.block k Mcm (by simpa using e1))).trans (nF.block k hk (by simpa using e1))
 have wT:=zby (FR4.mapS fM.out d9.out jO.out);have yg:=zby (FR4.mapS fM.out d9.out bD.out);have ju:∀(g:Nat) (cur:Array Value),w4.heap[g]?=some (.cells cur 9 (0,0))->w8.heap[g]?=w4.heap[g]?:=fun g cur hg=>by
  obtain⟨es1,x1,jW⟩:=wT;obtain⟨es2,x2,dA⟩:=yg;exact DF g (zab hg) (fun e=>by subst e;rw[jW]at hg;simp at hg) (fun e=>by subst e;rw[dA]at hg;simp at hg)
 have oa8:=oa4.same (W':=w8) (fun g cur _ hg=>ju g cur hg);have ob8:=g1.same (W':=w8) (fun g cur _ hg=>ju g cur hg);have zQ:∀k,k<w.heap.size->k≠cc->k≠pp->za7 (.slice KA ks.length kc)≠some k->za7 (.slice QA pz.length qc)≠some k->w8.heap[k]?=w.heap[k]?:=fun k hk e1 e2 e3 e4=>
  (DF k (by have:=FR4.size;omega) e1 e2).trans (FR4.block k hk e3 e4)
 have tU:=wld_child b8 HC.out HP.out HT.out jO.out bD.out lQ.out IP.out IQ.out tC.out (by rw[ii.out];exact fM.out) zh.out (by rw[kM.out];exact d9.out) fL.out (by rw[ii.out];exact oa8) (by rw[kM.out];exact ob8) b1 b2 b12 xM Aw zQ;have dg:=HP.out.ge;have ru:Below base w w8:=⟨u9.os.trans (nG.os.trans (bI.os.trans (nF.os.trans FR4.os))),u9.tape.trans (nG.tape.trans (bI.tape.trans (nF.tape.trans FR4.tape))),u9.output.trans (nG.output.trans (bI.output.trans (nF.output.trans FR4.output))),by have:=FR4.size;omega,fun k hk=>zQ k (by have:=HW.out.lt;omega) Mcm Mcm (fun e=>by have:=(fM.out.ge k e).1;omega) (fun e=>by have:=(d9.out.ge k e).1;omega)⟩
 have Fr:KeepD w w8:=fun k cur f hk=>zQ k (zab hk) (fun e=>by obtain⟨_,_,hx⟩:=zby jO.out;rw[e,hx]at hk;simp at hk) (fun e=>by obtain⟨_,_,hx⟩:=zby bD.out;rw[e,hx]at hk;simp at hk)
  (fun e=>by obtain⟨_,hx⟩:=zfl fM.out e;have:=Option.some.inj (hx.symm.trans hk);simp only[Obj.cells.injEq]at this;exact absurd this.2.1 Mco)
  (fun e=>by obtain⟨_,hx⟩:=zfl d9.out e;have:=Option.some.inj (hx.symm.trans hk);simp only[Obj.cells.injEq]at this;exact absurd this.2.1 Mco)
 have jM:=Lib.hid Fr;have Jb:=Lib.hid tU;have kE:=Lib.hid ru;clear Fr tU ru zQ DF ju oa8 ob8 wT yg xM Aw u9 GW kx qi Gq nG ym xQ iW bI eF iH qh nI nF mO b1 b2 b12 oa4 dw FR4 g1 g2 g3 ob3 FR3 h1 h2 h3;go_wp2_with fail
 go_ret
 have hX:=jk.out;simp only[Bool.false_eq_true,if_false]at hX;rw[if_neg (by simpa using H2.out)]at hX;rw[hX]
 exact⟨rfl,Jb.out,kE.out,jM.out⟩):P:=h
theorem Mb(h:P:=by
 clear eB d9;go_upto_region 9 with fail
 have i1:=bT.out wr (Below.refl _ _);refine zaB 10 (fun bb w'=>bb=true\/w'.cell? ⟨b,off+k,none⟩=some (.string x)) Mcn (.inr (bT.out _ (zaH (Below.refl _ _)))) ?hrest
 case hrest=>
  intro hHeld;refine TkM 5 ?_;refine TkM 6 ?_;refine TkM 7 ?_;refine TkM 8 ?_;refine TkM 1 ?_;refine TkM 2 ?_;refine TkM 3 ?_;refine FrM 11 false ?_;refine FrM 12 false ?_;refine FrM 13 false ?_;refine TwM 0 9 (fun K hK=>?_) fun K hK=>?_
  ·go_simp
   have e0:Below wr.heap.size wr (wr.drew.alloc (.cells #[] 9)):=zac (zaH (Below.refl _ _)) _;refine NxM hK (fun hHeld=>?_) (.inr (bT.out _ e0));clear hK K;refine TwM 4 9 (fun K hK=>?_) fun K hK=>?_
   ·refine zal (v:=.slice (some ⟨wr.heap.size,0,none⟩) 0 0) (n:=0) (m:=a) rfl _ _ rfl zbM zaD zbL rfl (xs:=[]) (ys:=xs.take a) (zgH wr.drew wr.heap.size (Nat.le_refl _)) rfl rfl (eL.out.symm) (qY.out _ e0) Mcw McM Mcx ?_;intro v4 w4 h1 h2 h3;rw[List.nil_append]at h1;obtain⟨V4,c4,aZ,_,_⟩:=h1.sl zaD;rw[eL.out]at aZ;subst aZ;have aD:Below wr.heap.size wr w4:=Below.grown e0 h2 Mdq (fun j hj=>by simp[za7]at hj;omega);refine NxM hK (fun hHeld=>?_) (.inr (bT.out _ aD));clear hK K;refine OnM 9 false fun K hK=>?_
    go_simp
    have e1:Below wr.heap.size wr (w4.alloc (.cells #[.string x] 9)):=zac aD _;have n1:(w4.alloc (.cells #[.string x] 9)).heap[w4.heap.size]?=some (.cells #[.string x] 9):=zas _ _ _ rfl;have o1:OwnS (w4.alloc (.cells #[.string x] 9)) wr.heap.size 9 1 sC (.slice V4 a c4) (xs.take a):=h1.keep (n:=w4.heap.size) (zac (Below.refl _ _) _);refine NxM hK (fun hHeld=>?_) (.inr (bT.out _ e1));clear hK K;refine OnM 10 true fun K hK=>?_
    refine zal (v:=.slice V4 a c4) (n:=a) (m:=1) rfl _ _ rfl zbM zaD zbL rfl (xs:=xs.take a) (ys:=[x]) (o1) eL.out rfl rfl (zga n1) Mcw McM Mct ?_;intro v5 w5 g1 g2 g3;obtain⟨A5,c5,cH,_,_⟩:=g1.sl zaD;rw[List.length_append,eL.out]at cH;subst cH;have aq:Below wr.heap.size wr w5:=Below.grown e1 g2 McI (fun j hj=>((o1).ge j hj).1);exact MbT
   ·go_simp
    have e1:Below wr.heap.size wr ((wr.drew.alloc (.cells #[] 9)).alloc (.cells #[.string x] 9)):=zac e0 _;have n1:((wr.drew.alloc (.cells #[] 9)).alloc (.cells #[.string x] 9)).heap[wr.heap.size+1]?=some (.cells #[.string x] 9):=zas _ _ _ Mcp;have m1:OwnS ((wr.drew.alloc (.cells #[] 9)).alloc (.cells #[.string x] 9)) wr.heap.size 9 1 sC (.slice (some ⟨wr.heap.size,0,none⟩) 0 0) []:=(zgH wr.drew wr.heap.size (Nat.le_refl _)).keep (n:=(wr.drew.alloc (.cells #[] 9)).heap.size) (zac (Below.refl _ _) _);refine NxM hK (fun hHeld=>?_) (.inr (bT.out _ e1));clear hK K;refine OnM 4 false fun K hK=>?_
    refine zal (v:=.slice (some ⟨wr.heap.size,0,none⟩) 0 0) (n:=0) (m:=a) rfl _ _ rfl zbM zaD zbL rfl (xs:=[]) (ys:=xs.take a) (m1) rfl rfl (eL.out.symm) (qY.out _ e1) Mcw McM Mct ?_;intro v4 w4 h1 h2 h3;rw[List.nil_append]at h1;obtain⟨V4,c4,aZ,_,_⟩:=h1.sl zaD;rw[eL.out]at aZ;subst aZ;have aD:Below wr.heap.size wr w4:=Below.grown e1 h2 McI (fun j hj=>by simp[za7]at hj;omega);have n2:w4.heap[wr.heap.size+1]?=some (.cells #[.string x] 9):=(h2.block _ McD Mdf).trans n1;exact Mch
  ·go_simp
   have e0:Below wr.heap.size wr (wr.drew.alloc (.cells #[.string x] 9)):=zac (zaH (Below.refl _ _)) _;have n0:(wr.drew.alloc (.cells #[.string x] 9)).heap[wr.heap.size]?=some (.cells #[.string x] 9):=zas _ _ _ rfl;refine NxM hK (fun hHeld=>?_) (.inr (bT.out _ e0));clear hK K;refine OnM 0 false fun K hK=>?_
   go_simp
   have e1:Below wr.heap.size wr ((wr.drew.alloc (.cells #[.string x] 9)).alloc (.cells #[] 9)):=zac e0 _;have n1:((wr.drew.alloc (.cells #[.string x] 9)).alloc (.cells #[] 9)).heap[wr.heap.size]?=some (.cells #[.string x] 9):=zak n0;refine NxM hK (fun hHeld=>?_) (.inr (bT.out _ e1));clear hK K;refine OnM 4 false fun K hK=>?_
   have m1:OwnS ((wr.drew.alloc (.cells #[.string x] 9)).alloc (.cells #[] 9)) wr.heap.size 9 1 sC (.slice (some ⟨wr.heap.size+1,0,none⟩) 0 0) []:=by
    exact Mcd
   refine zal (v:=.slice (some ⟨wr.heap.size+1,0,none⟩) 0 0) (n:=0) (m:=a) rfl _ _ rfl zbM zaD zbL rfl (xs:=[]) (ys:=xs.take a) (m1) rfl rfl (eL.out.symm) (qY.out _ e1) Mcw McM Mct ?_;intro v4 w4 h1 h2 h3;rw[List.nil_append]at h1;obtain⟨V4,c4,aZ,_,_⟩:=h1.sl zaD;rw[eL.out]at aZ;subst aZ;have aD:Below wr.heap.size wr w4:=Below.grown e1 h2 McI (fun j hj=>by simp[za7]at hj;omega);have n2:w4.heap[wr.heap.size]?=some (.cells #[.string x] 9):=(h2.block _ McD Mdf).trans n1
   exact Mch):P:=h
theorem Mc(h:P:=by
 go_simp
 refine hK.out _ _ ?_ (fun hHeld=>?_);focus((try dsimp only);refine⟨?_,?_,?_,?_,?_⟩<;>first|assumption|(simp[go_sem,fE,fF,aV];done)|(simp[go_sem,a0,a1,a2,l5,l6,yp,yL];done)|(simp[go_sem,z0,z1,z2,z5,z6,zx,zy];done))
 clear hK K;try simp only[Act.put,List.setIfInBounds_toArray,List.set_cons_zero,List.set_cons_succ]
 refine OnH 10 fun K hK=>?_
 refine zal (v:=.slice A1 out.length c1) (n:=out.length) (m:=1) rfl _ _ rfl zdQ zan zcd rfl (xs:=out) (ys:=[(pn,zbh (pq/lf))]) (YO.out.keep (n:=w5.heap.size) Bw) rfl rfl rfl (sl_part (zas _ _ _ rfl)) McL Mcm Mcr ?_;intro v6 w6 h1 h2 h3;obtain⟨A6,c6,du,_,_⟩:=h1.sl zan;rw[List.length_append]at du;subst du;have zT:zbz w6 W0.heap.size gpl gcl frm gfin (.slice A1 out.length c1) (.slice D gdi.length dc):=(h2.block _ Mcr (fun e=>zhF YO.out YT.out Mco e.symm)).trans (zak YT.out);have z4:w6.cell? ⟨W0.heap.size,4,none⟩=some (.slice A1 out.length c1):=by unfold zbz at zT;simp only[World.cell?,zT];rfl
 have f4:w6.frozen? ⟨W0.heap.size,4,none⟩=false:=by unfold zbz at zT;simp only[World.frozen?,zT];rfl
 have zL:w6.heap[L]?=some (zbu lf):=(h2.block _ Mcr (fun e=>zhF YO.out YL.out Mco e.symm)).trans (zak YL.out);have z5:w6.cell? ⟨L,0,none⟩=some (.int .i64 lf.num):=by simp only[World.cell?,zL,zbu];rfl
 have z6:w6.cell? ⟨L,1,none⟩=some (.int .i64 lf.den):=by simp only[World.cell?,zL,zbu];rfl
 have zP:w6.heap[wr.heap.size]?=some (.cells #[.string pn,.int .i64 pq.num,.int .i64 pq.den] 62):=(h2.block _ Mcr (fun e=>by have:=(dS.out.ge _ e.symm).2;omega)).trans (zak Y0.out);obtain⟨z0,z1,z2⟩:=cF3 zP;have zl:=zab zT;have zx:wr.heap.size≠W0.heap.size:=Mcm;have zy:L≠W0.heap.size:=Mcm;have ZT:=Lib.hid zT;have ZL:=Lib.hid zL;have H1:=Lib.hid h1;have H2:=Lib.hid h2;have H3:=Lib.hid h3;clear zT zL zP h1 h2 h3;refine hK.out _ _ ?_ (fun hHeld=>?_);focus((try dsimp only);refine⟨?_,?_,?_,?_,?_⟩<;>first|assumption|(simp[go_sem,fE,fF,aV];done)|(simp[go_sem,a0,a1,a2,l5,l6,yp,yL];done)|(simp[go_sem,z0,z1,z2,z5,z6,zx,zy];done))
 clear hK K;try simp only[Act.put,List.setIfInBounds_toArray,List.set_cons_zero,List.set_cons_succ]
 refine TkH 11 ?_;refine OnH 12 fun K hK=>?_
 go_simp
 refine hK.out _ _ ?_ (fun hHeld=>?_);focus((try dsimp only);refine⟨?_,?_,?_,?_,?_⟩<;>first|assumption|(simp[go_sem,fE,fF,aV];done)|(simp[go_sem,a0,a1,a2,l5,l6,yp,yL];done)|(simp[go_sem,z0,z1,z2,z5,z6,zx,zy];done))
 clear hK K;try simp only[Act.put,List.setIfInBounds_toArray,List.set_cons_zero,List.set_cons_succ]
 refine wpAnyH_done Mcn ?_ _;have LD:za7 (.slice A6 (out.length+[(pn,zbh (pq/lf))].length) c6)≠some W0.heap.size:=fun e=>by
  rcases H3.out _ e with h|h
  ·exact zhF YO.out YT.out Mco h
  ·simp at h;omega
 have r1:MarkAt (w6.setCell ⟨W0.heap.size,4,none⟩ (.slice A6 (out.length+[(pn,zbh (pq/lf))].length) c6)) C (fl||bigQ (pq/lf)):=
  J_ne Mcm ((H2.out.block C (by have:=zab N1.out;simp;omega) (fun e=>by have:=(dS.out.ge _ e.symm).1;omega)).trans (zak N1.out))
 have r2:=zgu ZT.out (.slice A6 (out.length+[(pn,zbh (pq/lf))].length) c6);have r3:OwnS (w6.setCell ⟨W0.heap.size,4,none⟩ (.slice A6 (out.length+[(pn,zbh (pq/lf))].length) c6)) W0.heap.size 62 3 zaa (.slice A6 (out.length+[(pn,zbh (pq/lf))].length) c6) (out++[(pn,zbh (pq/lf))]):=H1.out.grown (zar _ _ _ _) (.inr LD);have r4:(w6.setCell ⟨W0.heap.size,4,none⟩ (.slice A6 (out.length+[(pn,zbh (pq/lf))].length) c6)).heap[L]?=some (zbu lf):=J_ne Mcm ZL.out;have r5:Below C W0 w5:=zaW (W:=(wr.alloc (.cells #[.string pn,.int .i64 pq.num,.int .i64 pq.den] 62)).drew) (zaH (zac tk.out _ Mcm)) N2.out (Nat.le_refl _);have r6:Below C W0 w6:=Below.grown (zac r5 _ Mcm) H2.out (by have:=r5.size;simp;omega) (fun j hj=>by have:=(dS.out.ge _ hj).1;omega);have r7:Below C W0 (w6.setCell ⟨W0.heap.size,4,none⟩ (.slice A6 (out.length+[(pn,zbh (pq/lf))].length) c6)):=zaL r6 (by show C<=W0.heap.size;omega) _;have r8:L<w6.heap.size:=zab ZL.out;have R1:=Lib.hid r1;have R2:=Lib.hid r2;have R3:=Lib.hid r3;have R4:=Lib.hid r4;have R7:=Lib.hid r7;have pR:=dB.out;rw[eJ.out]at pR;simp only[Bool.false_eq_true,if_false]at pR;have qJ:=Lib.hid pR;clear r1 r2 r3 r4 r5 r6 r7 pR a0 a1 a2 l5 l6 y2 z4 f4 z5 z6 z0 z1 z2;go_wp2_with fail
 go_round
 case rel=>exact⟨k+1,_,out++[(pn,zbh (pq/lf))],_,by omega,by go_num,qJ.out.symm,R1.out,R2.out,R3.out,R4.out,R7.out,by simp;omega⟩
 case measure=>simp[intOf];omega):P:=h
theorem Md(h:P:=by
 have d1:wq.cell? ⟨w.heap.size,1,none⟩=some (.int .i64 dy):=by simp only[World.cell?,ni.out];rfl
 have oo:=nR.out;have D8:=zab oo;have Ky:=zab ni.out;unfold WldC at oo;obtain⟨-,-,-,-,-,-,-,z7,z8⟩:=cF9 oo;have f7:wq.frozen? ⟨b,7,none⟩=false:=by simp only[World.frozen?,oo];rfl
 have f8:wq.frozen? ⟨b,8,none⟩=false:=by simp only[World.frozen?,oo];rfl
 have hwb:w.heap.size≠b:=fun e=>Nat.lt_irrefl _ (e▸cu)
 clear oo;have ru:Below base w wq:=Below.trans (Below.mono (B:=w.heap.size) Bw (Nat.le_of_lt (Nat.lt_of_le_of_lt b8 cu))) nQ.out;have kE:=Lib.hid ru;clear ru;by_cases h0:er=0
 ·subst h0;have l8:=wrap_k xw;have ut:=znb xw;go_wp2_with fail
  go_region
  all_goals go_wp2_with fail
  all_goals go_ret
  all_goals exact taken_ok (wld_drew (wld_tick nw.out dy ((k:Int)+1))) (zaH (zaL (zaL kE.out ee _) ee _))
 ·go_wp2_with fail
  go_ret
  exact taken_no h0 nw.out kE.out):P:=h
theorem Me(h:P:=by
 have HE:=Lib.hid (HG.out rfl);have sf:=frz xs0;have jS:=HF.out.dead;clear HG d8;go_upto_region 24 with fail
 obtain⟨U1,rO⟩:∃U1,U1=WR.setCell ⟨w.heap.size,6,none⟩ (.slice V2 s.graves.length c2'):=⟨_,rfl⟩
 have u0:U1.heap[w.heap.size]?=some (.cells #[.slice LA laws.length c0,.slice CA s.children.length c1,.slice MA s.marriages.length c2,.slice DA s.dead.length c3,.slice WA wd.length c4,.slice RA rd.length c5,.slice V2 s.graves.length c2'] 41):=by
  rw[rO];have:=Joins.block_setCell (i:=6) xs0 (.slice V2 s.graves.length c2');simpa using this
 have u1:U1.heap[w.heap.size+1]?=some (.cells #[.slice none 0 0,.slice none 0 0,.slice none 0 0,.slice none 0 0,.slice none 0 0,.slice none 0 0,.slice none 0 0] 41):=by rw[rO];exact J_ne Mcm xr0
 have CZ:Below w.heap.size w U1:=by rw[rO];exact zaL (ak.out.trans (aW.out.mono ay)) (Nat.le_refl _) _
 have xn:WR.grownBy U1 (some w.heap.size):=by rw[rO];exact zar _ _ _ _
 have GY:s.graves≠[]->RowC U1 189 ga go 5 (dx.map GX.cells):=fun ai=>by
  have h:=BL.out ai;rw[Dx,List.append_nil]at h;rw[rO];exact h.ne (zmq h xs0 Mco)
 have IT:=Lib.hid GY;have AZ:=Lib.hid (fun y hy=>((fV.out y hy).keptS xn xs0:okR gxs U1 y));have I1:=Lib.hid CZ;have J5:=Lib.hid u1;have J4:=Lib.hid u0;have Ka:=CZ.size;rw[<-rO];clear rO GY xn sf;clear xs0 xr0 s0 s1 s2 s3 s4 s5 s6 r0 r1 r2 r3 r4 r5 r6 rf ls lr;obtain⟨s0,s1,s2,s3,s4,s5,s6⟩:=zaG u0;have ls:=zab u0;have lr:=zab u1;clear u0 u1;have fB:=Lib.hid (H.out U1 CZ).dead
 go_upto_region 25 with(first
  |(at_builtin
    go_loud(refine zau (v:=.slice (some ⟨U1.heap.size,0,none⟩) 0 0) (n:=0) (m:=s.dead.length) rfl _ _ rfl zbM zaD zbL rfl (xs:=[]) (ys:=s.dead) (zdW zaD U1 U1.heap.size (Nat.le_refl _)) rfl rfl rfl (fB.out.keep (zac (Below.refl _ _) _)) McS Mcm Mcp ?_)
    intro v3 w3 h1 h2 h3;rw[List.nil_append]at h1;have aC:Below U1.heap.size U1 w3:=Below.grown (zac (Below.refl _ _) _) h2 Mcp Mc0;obtain⟨V3,vc3,rfl,_,_⟩:=h1.sl zaD;have nk:=Lib.hid h1;have lj:=Lib.hid aC;have rp:=aC.size
    clear h1 h2 h3 aC)
  |(at_builtin
    go_loud(refine zau (v:=.slice V3 s.dead.length vc3) (n:=s.dead.length) (m:=1) rfl _ _ rfl zbM zaD zbL rfl (xs:=s.dead) (ys:=[n]) (nk.out.keep (n:=w3.heap.size) (zac (Below.refl _ _) _)) rfl rfl rfl (zd4 (zas _ _ _ rfl)) McS Mcm Mcr ?_)
    intro v6 w6 h1 h2 h3;have aG:Below U1.heap.size U1 w6:=Below.grown (zac lj.out _) h2 Mcr (fun j hj=>(nk.out.ge j hj).1);obtain⟨A6,vc6,du,_,xC⟩:=h1.sl zaD;have ja:v6=.slice A6 (s.dead.length+1) vc6:=by rw[du,List.length_append];rfl
    clear du;subst ja;have lK:=Lib.hid h1;have eH:=Lib.hid aG;have Bl:=Lib.hid xC;have x6:=(aG.block w.heap.size ls).trans J4.out;have z6:=(aG.block (w.heap.size+1) lr).trans J5.out;have zw:=Lib.hid x6;have Jg:=Lib.hid z6;have sf6:=frz x6;obtain⟨_,_,_,p3,_,_,_⟩:=zaG x6;have ls6:=zab x6
    clear h1 h2 h3 aG xC x6 z6))
 obtain⟨U7,rP⟩:∃U7,U7=w6.setCell ⟨w.heap.size,3,none⟩ (.slice A6 (s.dead.length+1) vc6):=⟨_,rfl⟩
 have y7:U7.heap[w.heap.size]?=some (.cells #[.slice LA laws.length c0,.slice CA s.children.length c1,.slice MA s.marriages.length c2,.slice A6 (s.dead.length+1) vc6,.slice WA wd.length c4,.slice RA rd.length c5,.slice V2 s.graves.length c2'] 41):=by
  rw[rP];have:=Joins.block_setCell (i:=3) zw.out (.slice A6 (s.dead.length+1) vc6);simpa using this
 have z7:U7.heap[w.heap.size+1]?=some (.cells #[.slice none 0 0,.slice none 0 0,.slice none 0 0,.slice none 0 0,.slice none 0 0,.slice none 0 0,.slice none 0 0] 41):=by rw[rP];exact J_ne Mcm Jg.out
 have aR:Below w.heap.size w U7:=by rw[rP];exact zaL (I1.out.trans (eH.out.mono Ka)) (Nat.le_refl _) _
 have sx:w6.grownBy U7 (some w.heap.size):=by rw[rP];exact zar _ _ _ _
 have hS7:Sl U7 5 GX.cells V2 dx:=by
  by_cases ai:s.graves=[]
  ·have h0:dx.length=0:=by rw[iy];rw[ai]at hk;simpa using hk
   rw[List.eq_nil_of_length_eq_zero h0];exact Sl.nil
  ·obtain⟨e,_⟩:=HV.out ai;have h:=(IT.out ai).keep eH.out;rw[e,rP];exact(h.ne (zmq h zw.out Mco)).sl rfl
 have y8:∀x∈dx,x.ok U7:=fun x hx=>by
  rcases((AZ.out x hx).keep eH.out).keptS sx zw.out with h|⟨h1,h2⟩
  ·exact(dG.out x h).keep aR
  ·exact⟨h1.sl zan,h2.sl zaD⟩
 have h':=H.out U7 aR;have aH:Hid (StAt U7 laws R.1 (.slice LA laws.length c0) (.slice CA s.children.length c1) (.slice MA s.marriages.length c2) (.slice A6 (s.dead.length+1) vc6) (.slice WA wd.length c4) (.slice RA rd.length c5) (.slice V2 s.graves.length c2')):=by
  show StAt _ _ _ _ _ _ _ _ _ _;rw[HE.out];refine⟨wd,rd,LA,CA,MA,A6,WA,RA,V2,c0,c1,c2,vc6,c4,c5,c2',rfl,rfl,rfl,?_,rfl,rfl,?_,⟨h'.laws,h'.kids,h'.marr,?_,h'.wills,h'.ren,slw_gx hS7 rfl y8,Bl.out⟩,⟨HK.out.wills,HK.out.shares,HK.out.ren,HK.out.tos⟩⟩
  ·show _=Value.slice A6 (s.dead++[n]).length vc6;rw[List.length_append];rfl
  ·show _=Value.slice V2 (dx.map (·.g)).length c2';rw[List.length_map,iy,kv]
  ·exact(lK.out.ro'.kept sx zw.out Mco).sl zaD
 rw[<-rP];have bC:=Lib.hid aR;have zC:=Lib.hid z7;clear rP hS7 y8 h' sx aR s0 s1 s2 s3 s4 s5 s6 ls lr p3 sf6 ls6;obtain⟨s0,s1,s2,s3,s4,s5,s6⟩:=zaG y7;obtain⟨r0,r1,r2,r3,r4,r5,r6⟩:=zaG z7;have rf:=frz z7;have ls:=zab y7;have lr:=zab z7;clear y7 z7;go_wp2_with fail
 refine bodyPost_ret (zbD rfl _ rfl rfl (zc5 zC.out)) rfl ?_
 exact⟨_,_,_,_,_,_,_,true,rfl,rfl,zcA bC.out (show w.heap.size<=w.heap.size+1 by omega),.inl ⟨rfl,by rw[HE.out],(zcB zC.out rfl).st aH.out⟩⟩):P:=h
theorem Mf(h:P:=by
 clear hR;go_wp2_with fail
 go_ret
 rw[HR.out]
 exact Ret.of (zaO (by first|rfl|(simp[*];done))) (HB.out.trans (Below.mono (B:=wc.heap.size) Bw HB.out.size))):P:=h
theorem Mg(h:P:=by
 go_wp2_with fail
 rw[HE.out];refine bodyPost_ret (zbD rfl _ rfl rfl (zc5 xr0)) rfl ?_
 exact⟨_,_,_,_,_,_,_,rfl,rfl,zcA (ak.out.trans (be.mono ay)) (show w.heap.size<=w.heap.size+2 by omega),fun e=>by cases e⟩):P:=h
theorem Mh(h:P:=by
 (go_wp2_with fail
  go_ret
  exact Ret.of (zbC (by rw[HR.out];simp[zcr,p1,p2,isDay0,inR04,inR14,inR24,inR34,inR44, *])) (HB.out.trans (Below.mono (B:=wc.heap.size) Bw hs)))):P:=h
theorem Mi(h:P:=by
 intro v6 w6 k1 k2 k3;have aG:Below wr.heap.size wr w6:=Below.grown aq k2 aq.size (fun j hj=>(g1.ge j hj).1);refine NxM hK fun hHeld=>?_
 clear hK K;refine OnM 15 true fun K hK=>?_
 go_simp
 refine NxM hK fun hHeld=>?_
 clear hK K;refine zaI Mcn ?_ _;clear hHeld;have K1:=Lib.hid k1;have cI:=Lib.hid aG;clear k1 k2 k3 aG aq g1 g2 g3;go_wp2_with fail
 go_round
 case rel=>exact⟨k+1,am.out,by go_num,by rw[aH.out];exact K1.out.base_le Mcm,HB.out.trans (cI.out.mono Mcm)⟩
 case measure=>have:=am.out;simp only[intOf];omega):P:=h
theorem Mj(h:P:=by
 have ou:D0=none:=by
  cases dJ:(f&&l)
  ·obtain⟨h1,h2⟩:=kL.out dJ;rw[h1,zf.out];refine Ic.out _ Eu.out fun eG e'=>?_
   rw[h2]at e';rcases qN.out rfl with e|e
   ·rw[e]at e';cases e'
   ·cases l
    ·obtain rfl:hs=eG:=by simpa using e'
     exact e
    ·cases e'
  ·exact nU.out dJ
 have HN:=Lib.hid ou;clear ou;obtain⟨OV,oc,rfl,_,xX⟩:=HO.out.ro;have jr:=eo.out.trans (ie.out.mono eo.out.size);have bh:=bS.out.keep jr;obtain⟨gcur,dK,_⟩:=bh.row;have j3:wr.cell? ⟨ga,go+k*5+3,none⟩=some (.slice x.H x.g.holders.length x.hc):=bh.at dZ.out (j:=3) rfl;have jf:=bh.frz;have oJ:=bh.lt;have qU:=Lib.hid bh;have lD:=Lib.hid dK;have BF:=Lib.hid xX;have jY:=Lib.hid jr;clear xX jr bh dK;go_upto_region 20 with fail
 obtain⟨V1,nC⟩:∃V1,V1=wr.setCell ⟨ga,go+k*5+3,none⟩ (.slice OV out.length oc):=⟨_,rfl⟩
 have gJ:wr.grownBy V1 (some ga):=by rw[nC];exact zar _ _ _ _
 have fJ:RowC V1 189 ga go 5 (((dx++gxs.drop k).map GX.cells).set k (x.cells.set 3 (.slice OV out.length oc))):=by rw[nC];exact qU.out.set dZ.out Mco
 have rZ:Below w1.heap.size w1 V1:=MdL;rw[<-nC];have CK:WR.heap.size<=V1.heap.size:=Nat.le_trans jY.out.size gJ.size;clear nC j3 jf oJ;have Hn:=hxd5 fJ dZ.out;have jO:=Lib.hid fJ;have uB:=Lib.hid rZ;have KH:=fJ.lt;have vp:=Lib.hid (BF.out.kept gJ lD.out Mco);have uI:=Lib.hid (fun y hy=>(((fV.out y hy).keep jY.out).kept gJ lD.out:okR gxs V1 y));have C1:=Lib.hid (pD.out V1 (ak.out.trans ((aB.out.trans (rZ.mono gw)).mono ay))).2;clear fJ rZ gJ
 go_wp2_with (first
  |(at_builtin
    go_loud(refine zau (v:=.slice (some ⟨V1.heap.size,0,none⟩) 0 0) (n:=0) (m:=x.g.died.length) rfl _ _ rfl zbM zaD zbL rfl (xs:=[]) (ys:=x.g.died) (zdW zaD V1 V1.heap.size (Nat.le_refl _)) rfl rfl rfl (C1.out.keep (zac (Below.refl _ _) _)) McS Mcm Mcp ?_)
    intro v3 w3 h1 h2 h3;rw[List.nil_append]at h1;have aC:Below V1.heap.size V1 w3:=Below.grown (zac (Below.refl _ _) _) h2 Mcp Mc0;obtain⟨V3,vc3,rfl,_,_⟩:=h1.sl zaD;have nk:=Lib.hid h1;have lj:=Lib.hid aC;have rp:=aC.size
    clear h1 h2 h3 aC)
  |(at_builtin
    go_loud(refine zau (v:=.slice V3 x.g.died.length vc3) (n:=x.g.died.length) (m:=1) rfl _ _ rfl zbM zaD zbL rfl (xs:=x.g.died) (ys:=[n]) (nk.out.keep (n:=w3.heap.size) (zac (Below.refl _ _) _)) rfl rfl rfl (zd4 (zas _ _ _ rfl)) McS Mcm Mcr ?_)
    intro v6 w6 h1 h2 h3;have aG:Below V1.heap.size V1 w6:=Below.grown (zac lj.out _) h2 Mcr (fun j hj=>(nk.out.ge j hj).1);obtain⟨A6,vc6,du,_,_⟩:=h1.sl zaD;rw[List.length_append]at du;subst du;have lK:=Lib.hid h1;have eH:=Lib.hid aG;have eF:=jO.out.keep aG;have i4:w6.cell? ⟨ga,go+k*5+4,none⟩=some (.slice x.D x.g.died.length x.dc):=hxd5 eF dZ.out;have jf6:=eF.frz;have Du:=eF.lt;have CW:=aG.size
    clear h1 h2 h3 aG eF))
 go_round
 case rel=>
  have eF:=jO.out.keep eH.out;rw[AY.out]at eF;obtain⟨gcur6,mz,_⟩:=eF.row;refine⟨k+1,true,true,dx++[(⟨{x.g with holders:=out,died:=x.g.died++[n]},OV,oc,A6,vc6⟩:GX)],am.out,by go_num,rfl,rfl,by rw[List.length_append,iy];rfl,Lib.hid fun _=>row_two iy eF,Lib.hid fun y hy=>?_,Lib.hid fun _=>HN.out,Lib.hid Mcp,zaL (uB.out.trans (eH.out.mono uB.out.size)) Ao _,by simp;omega⟩;exact Mb2
 case measure=>have:=am.out;simp only[intOf];omega):P:=h
theorem Mk(h:P:=by
 refine OnM 6 true fun K hK=>?_
 refine zal (v:=.slice V4 s.graves.length c4') (n:=s.graves.length) (m:=1) rfl _ _ rfl zhn zcO zjY rfl (xs:=gxs) (ys:=[(⟨⟨d.place,d.cls,fin,out,[]⟩,VA,vc,none,0⟩:GX)]) o9 bp.out.symm rfl rfl (sl_grave (⟨⟨d.place,d.cls,fin,out,[]⟩,VA,vc,none,0⟩:GX) n9) Mcu McF McJ ?_;intro v5 w5 g1 g2 g3;obtain⟨A5,c5',cH,_,_⟩:=g1.sl zcO;rw[List.length_append,<-bp.out]at cH;subst cH;have aq:Below WX.heap.size WX w5:=Below.grown e9 g2 Md8 (fun j hj=>(o9.ge j hj).1);have bU:=bv.out.trans (aq.mono fu);refine NxM hK fun hHeld=>?_
 clear hK K;refine OnM 7 true fun K hK=>?_
 go_simp
 refine NxM hK fun hHeld=>?_
 clear hK K;obtain⟨⟨xs0,xd0,xr0⟩,⟨s0,s1,s2,s3,s4,s5,s6⟩,⟨d0,d1,d2,d3,d4,d5,d6⟩,⟨r0,r1,r2,r3,r4,r5,r6⟩,rf,ls,ld,lr⟩:=ddF (aw.out w5 (bU));have sf:=frz xs0;refine OnM 8 true fun K hK=>?_
 go_simp
 refine NxM hK fun hHeld=>?_
 clear hK K;refine zaI Mcn ?_ _;clear hHeld;have G1:=Lib.hid g1;have vG:=Lib.hid aq;have bl:=Lib.hid bU;have X0:=Lib.hid xs0;have X2:=Lib.hid xr0;clear g1 g2 g3 aq bU h1 h2 h3 aD;clear xs0 xd0 xr0 s0 s1 s2 s3 s4 s5 s6 d0 d1 d2 d3 d4 d5 d6 r0 r1 r2 r3 r4 r5 r6 rf ls ld lr;clear sf;go_wp2_with fail
 go_meet
 refine⟨⟨by first|rfl|trivial,A5,c5',?_,J_ne Mcm X2.out,(G1.out.kept (zar _ _ _ _) X0.out Mco).ro',zaL (ak.out.trans (bl.out.mono ay)) (Nat.le_refl _) _⟩,((HO.out.keep vG.out).kept (zar _ _ _ _) X0.out Mco).ro'⟩;have:=Joins.block_setCell (i:=6) X0.out (.slice A5 (s.graves.length+1) c5')
 simpa using this):P:=h
theorem Ml(h:P:=by
 have a1:wr.cell? ⟨w.heap.size,5,none⟩=some (.bool fa):=Mcq;have a2:wr.cell? ⟨w.heap.size,7,none⟩=some (.bool true):=Mcq;have b0:wr.cell? ⟨w.heap.size+1,3,none⟩=some (.string frm):=Mcs;have b1:wr.cell? ⟨w.heap.size+1,4,none⟩=some (.slice B ps.length c):=Mcs;have c0:wr.cell? ⟨w.heap.size+2,0,none⟩=some (.int .i64 s.num):=Mep;have c1:wr.cell? ⟨w.heap.size+2,1,none⟩=some (.int .i64 s.den):=Mep;have d0:wr.frozen? ⟨w.heap.size+2,0,none⟩=false:=Mek;have d1:wr.frozen? ⟨w.heap.size+2,1,none⟩=false:=Mek;have e0:w.heap.size<wr.heap.size:=Mcm;have e1:w.heap.size+1<wr.heap.size:=Mcm;have e2:w.heap.size+2<wr.heap.size:=Mcm;have e3:w.heap.size+2≠wr.heap.size:=Mcm;by_cases aa:k<ps.length
 ·rw[List.drop_eq_getElem_cons aa]at hx;obtain⟨b,off,rfl,hb,hc⟩:=(hS.keep hB).at aa;have wA:=(hS.keep hB).take k;generalize hp:ps[k]=p at*;obtain⟨pn,pu,pd⟩:=p;have h0:wr.cell? ⟨b,off+k*3,none⟩=some (.string pn):=hc 0 _ rfl;have h1:wr.cell? ⟨b,off+k*3+1,none⟩=some (.int .i64 pu):=hc 1 _ rfl;have h2:wr.cell? ⟨b,off+k*3+2,none⟩=some (.int .i64 pd):=hc 2 _ rfl;have HP:=Lib.hid hp;have HF:=Lib.hid dI;have H0:=Lib.hid ay;have HK:=Lib.hid ky;have HS:=Lib.hid wA;have HX:=Lib.hid hx;have HH:=Lib.hid (show ps.length<=100000 by omega);have fD:(k:Int)<=(c:Int):=Mcm;have aP:(0:Int)<=(k:Int):=Mcm;have jB:(k:Int)<(ps.length:Int):=Mcm;have cL:(ps.take k).length=k:=Mc6;have HT:=Lib.hid cL;clear hc hS wA hp dI ay ky hx cL
  go_upto_region 10 with(go_at_call 48
                         refine(zcJ _ _ eg (fun q=>zae q.name pn) _ k _ (ps.take k) _ HT.out.symm (by rw[HT.out];have:=HH.out;omega) (HS.out.keep (n:=wr.heap.size) Bw) (zla _ pn _ _ Mcp McR)).mono ?_
                         intro e wq hq;rcases Ret.bools hq with⟨zq,rfl,⟨hb,rfl⟩|⟨hb,rfl⟩⟩<;>clear hq)
  all_goals go_wp2_with (first
   |(go_at_call 80;refine(zdM _ _ _).mono ?_;intro e wq hq;rcases Ret.bools hq with⟨zq,rfl,⟨hb,rfl⟩|⟨hb,rfl⟩⟩<;>clear hq)
   |(go_at_call 83;refine(znC s pu pd _ (HF.out.small (Rat.le_trans Mco H0.out) (cast_le HK.out Mcm)) Mc2).mono ?_;rintro e w1 ⟨rfl,z1,rfl⟩;simp only[zaC]))
  all_goals first
   |(go_ret
     exact Ret.of (zaO (by rw[HX.out];simp[zcn,zgU,zee,ze4, *])) Bw)
   |(go_round
     case rel=>
      refine⟨k+1,by omega,by go_num,s+Rat.divInt pu pd,(by rw[HX.out,List.take_succ_eq_append_getElem aa,HP.out];simp[zcn,RPart.rat,zee,ze4, *]:_=_),HF.out.add (zen Mc2),sum_pos H0.out Mc2,sum_up HK.out Mc2,Bw,by simp[zaf];omega,by repeat(first|assumption|with_reducible refine zak ?_|with_reducible refine zbv ?_|with_reducible refine J_ne Mcm ?_),by repeat(first|assumption|with_reducible refine zak ?_|with_reducible refine zbv ?_|with_reducible refine J_ne Mcm ?_),?_⟩;(repeat(first|with_reducible refine zak ?_|with_reducible refine zbv ?_));exact zeo g2
     case measure=>simp[intOf];omega)
 ·exact Mb3):P:=h
theorem Mm(h:P:=by
 have a1:wr.cell? ⟨w.heap.size,5,none⟩=some (.bool fa):=Mcq;have a2:wr.cell? ⟨w.heap.size,7,none⟩=some (.bool false):=Mcq;have b0:wr.cell? ⟨w.heap.size+1,3,none⟩=some (.string frm):=Mcs;have b1:wr.cell? ⟨w.heap.size+1,4,none⟩=some (.slice B ps.length c):=Mcs;have c0:wr.cell? ⟨w.heap.size+2,0,none⟩=some (.int .i64 s.num):=Mep;have c1:wr.cell? ⟨w.heap.size+2,1,none⟩=some (.int .i64 s.den):=Mep;have d0:wr.frozen? ⟨w.heap.size+2,0,none⟩=false:=Mek;have d1:wr.frozen? ⟨w.heap.size+2,1,none⟩=false:=Mek;have e0:w.heap.size<wr.heap.size:=Mcm;have e1:w.heap.size+1<wr.heap.size:=Mcm;have e2:w.heap.size+2<wr.heap.size:=Mcm;have e3:w.heap.size+2≠wr.heap.size:=Mcm;by_cases aa:k<ps.length
 ·rw[List.drop_eq_getElem_cons aa]at hx;obtain⟨b,off,rfl,hb,hc⟩:=(hS.keep hB).at aa;have wA:=(hS.keep hB).take k;generalize hp:ps[k]=p at*;obtain⟨pn,pu,pd⟩:=p;have h0:wr.cell? ⟨b,off+k*3,none⟩=some (.string pn):=hc 0 _ rfl;have h1:wr.cell? ⟨b,off+k*3+1,none⟩=some (.int .i64 pu):=hc 1 _ rfl;have h2:wr.cell? ⟨b,off+k*3+2,none⟩=some (.int .i64 pd):=hc 2 _ rfl;have HP:=Lib.hid hp;have HF:=Lib.hid dI;have H0:=Lib.hid ay;have HK:=Lib.hid ky;have HS:=Lib.hid wA;have HX:=Lib.hid hx;have HH:=Lib.hid (show ps.length<=100000 by omega);have fD:(k:Int)<=(c:Int):=Mcm;have aP:(0:Int)<=(k:Int):=Mcm;have jB:(k:Int)<(ps.length:Int):=Mcm;have cL:(ps.take k).length=k:=Mc6;have HT:=Lib.hid cL;clear hc hS wA hp dI ay ky hx cL
  go_upto_region 10 with(go_at_call 48
                         refine(zcJ _ _ eg (fun q=>zae q.name pn) _ k _ (ps.take k) _ HT.out.symm (by rw[HT.out];have:=HH.out;omega) (HS.out.keep (n:=wr.heap.size) Bw) (zla _ pn _ _ Mcp McR)).mono ?_
                         intro e wq hq;rcases Ret.bools hq with⟨zq,rfl,⟨hb,rfl⟩|⟨hb,rfl⟩⟩<;>clear hq)
  all_goals go_wp2_with (first
   |(go_at_call 80;refine(zdM _ _ _).mono ?_;intro e wq hq;rcases Ret.bools hq with⟨zq,rfl,⟨hb,rfl⟩|⟨hb,rfl⟩⟩<;>clear hq)
   |(go_at_call 83;refine(znC s pu pd _ (HF.out.small (Rat.le_trans Mco H0.out) (cast_le HK.out Mcm)) Mc2).mono ?_;rintro e w1 ⟨rfl,z1,rfl⟩;simp only[zaC]))
  all_goals first
   |(go_ret
     exact Ret.of (zaO (by rw[HX.out];simp[zcn,zgU,zee,ze4, *])) Bw)
   |(go_round
     case rel=>
      refine⟨k+1,by omega,by go_num,s,(by rw[HX.out,List.take_succ_eq_append_getElem aa,HP.out];simp[zcn,RPart.rat,zee,ze4, *]:_=_),HF.out,H0.out,Rat.le_trans HK.out (natUp k),Bw,by simp[zaf];omega,by repeat(first|assumption|with_reducible refine zak ?_|with_reducible refine zbv ?_|with_reducible refine J_ne Mcm ?_),by repeat(first|assumption|with_reducible refine zak ?_|with_reducible refine zbv ?_|with_reducible refine J_ne Mcm ?_),?_⟩;repeat(first|assumption|with_reducible refine zak ?_|with_reducible refine zbv ?_|with_reducible refine J_ne Mcm ?_)
     case measure=>simp[intOf];omega)
 ·exact Mb3):P:=h
theorem Mn(h:P:=by
 refine OnM 9 true fun K hK=>?_
 refine zal (v:=.slice V4 s.children.length c4') (n:=s.children.length) (m:=1) rfl _ _ rfl zgv zbj zdA rfl (xs:=s.children) (ys:=[(d.frm,tn)]) o9 bp.out.symm rfl rfl (zmS (p:=(d.frm,tn)) n9) Mcu McF McJ ?_;intro v5 w5 g1 g2 g3;obtain⟨A5,c5',cH,_,_⟩:=g1.sl zbj;rw[List.length_append,<-bp.out]at cH;subst cH;have aq:Below WX.heap.size WX w5:=Below.grown e9 g2 Md8 (fun j hj=>(o9.ge j hj).1);have bU:=bv.out.trans (aq.mono fu);refine NxM hK fun hHeld=>?_
 clear hK K;refine OnM 10 true fun K hK=>?_
 go_simp
 refine NxM hK fun hHeld=>?_
 clear hK K;obtain⟨⟨xs0,xd0,xr0⟩,⟨s0,s1,s2,s3,s4,s5,s6⟩,⟨d0,d1,d2,d3,d4,d5,d6⟩,⟨r0,r1,r2,r3,r4,r5,r6⟩,rf,ls,ld,lr⟩:=ddF (aw.out w5 (bU));have sf:=frz xs0;refine OnM 11 true fun K hK=>?_
 go_simp
 refine NxM hK fun hHeld=>?_
 clear hK K;refine zaI Mcn ?_ _;clear hHeld;have G1:=Lib.hid g1;have vG:=Lib.hid aq;have bl:=Lib.hid bU;have X0:=Lib.hid xs0;have X2:=Lib.hid xr0;clear g1 g2 g3 aq bU h1 h2 h3 aD;clear xs0 xd0 xr0 s0 s1 s2 s3 s4 s5 s6 d0 d1 d2 d3 d4 d5 d6 r0 r1 r2 r3 r4 r5 r6 rf ls ld lr;clear sf;go_wp2_with fail
 go_meet
 refine⟨by first|rfl|trivial,A5,c5',?_,J_ne Mcm X2.out,(G1.out.kept (zar _ _ _ _) X0.out Mco).ro',zaL (ak.out.trans (bl.out.mono ay)) (Nat.le_refl _) _⟩;have:=Joins.block_setCell (i:=1) X0.out (.slice A5 (s.children.length+1) c5')
 simpa using this):P:=h
theorem Mo(h:P:=by
 refine OnM 6 true fun K hK=>?_
 refine zal (v:=.slice V4 rd.length c4') (n:=rd.length) (m:=1) rfl _ _ rfl zex zbn zew rfl (xs:=dvs) (ys:=[(⟨d,B,c⟩:DV)]) o9 bp.out.symm rfl rfl (sl_deed d B c n9) Mcu McF McJ ?_;intro v5 w5 g1 g2 g3;obtain⟨A5,c5',cH,_,_⟩:=g1.sl zbn;rw[List.length_append,<-bp.out]at cH;subst cH;have aq:Below WX.heap.size WX w5:=Below.grown e9 g2 Md8 (fun j hj=>(o9.ge j hj).1);have bU:=bv.out.trans (aq.mono fu);refine NxM hK fun hHeld=>?_
 clear hK K;refine OnM 7 true fun K hK=>?_
 go_simp
 refine NxM hK fun hHeld=>?_
 clear hK K;obtain⟨⟨xs0,xd0,xr0⟩,⟨s0,s1,s2,s3,s4,s5,s6⟩,⟨d0,d1,d2,d3,d4,d5,d6⟩,⟨r0,r1,r2,r3,r4,r5,r6⟩,rf,ls,ld,lr⟩:=ddF (aw.out w5 (bU));have sf:=frz xs0;refine OnM 8 true fun K hK=>?_
 go_simp
 refine NxM hK fun hHeld=>?_
 clear hK K;refine zaI Mcn ?_ _;clear hHeld;have G1:=Lib.hid g1;have vG:=Lib.hid aq;have bl:=Lib.hid bU;have X0:=Lib.hid xs0;have X2:=Lib.hid xr0;clear g1 g2 g3 aq bU h1 h2 h3 aD;clear xs0 xd0 xr0 s0 s1 s2 s3 s4 s5 s6 d0 d1 d2 d3 d4 d5 d6 r0 r1 r2 r3 r4 r5 r6 rf ls ld lr;clear sf;go_wp2_with fail
 go_meet
 refine⟨by first|rfl|trivial,A5,c5',?_,J_ne Mcm X2.out,(G1.out.kept (zar _ _ _ _) X0.out Mco).ro',zaL (ak.out.trans (bl.out.mono ay)) (Nat.le_refl _) _⟩;have:=Joins.block_setCell (i:=5) X0.out (.slice A5 (rd.length+1) c5')
 simpa using this):P:=h
theorem Mp(h:P:=by
 refine OnM 6 true fun K hK=>?_
 refine zal (v:=.slice V4 wd.length c4') (n:=wd.length) (m:=1) rfl _ _ rfl zex zbn zew rfl (xs:=dvs) (ys:=[(⟨d,B,c⟩:DV)]) o9 bp.out.symm rfl rfl (sl_deed d B c n9) Mcu McF McJ ?_;intro v5 w5 g1 g2 g3;obtain⟨A5,c5',cH,_,_⟩:=g1.sl zbn;rw[List.length_append,<-bp.out]at cH;subst cH;have aq:Below WX.heap.size WX w5:=Below.grown e9 g2 Md8 (fun j hj=>(o9.ge j hj).1);have bU:=bv.out.trans (aq.mono fu);refine NxM hK fun hHeld=>?_
 clear hK K;refine OnM 7 true fun K hK=>?_
 go_simp
 refine NxM hK fun hHeld=>?_
 clear hK K;obtain⟨⟨xs0,xd0,xr0⟩,⟨s0,s1,s2,s3,s4,s5,s6⟩,⟨d0,d1,d2,d3,d4,d5,d6⟩,⟨r0,r1,r2,r3,r4,r5,r6⟩,rf,ls,ld,lr⟩:=ddF (aw.out w5 (bU));have sf:=frz xs0;refine OnM 8 true fun K hK=>?_
 go_simp
 refine NxM hK fun hHeld=>?_
 clear hK K;refine zaI Mcn ?_ _;clear hHeld;have G1:=Lib.hid g1;have vG:=Lib.hid aq;have bl:=Lib.hid bU;have X0:=Lib.hid xs0;have X2:=Lib.hid xr0;clear g1 g2 g3 aq bU h1 h2 h3 aD;clear xs0 xd0 xr0 s0 s1 s2 s3 s4 s5 s6 d0 d1 d2 d3 d4 d5 d6 r0 r1 r2 r3 r4 r5 r6 rf ls ld lr;clear sf;go_wp2_with fail
 go_meet
 refine⟨by first|rfl|trivial,A5,c5',?_,J_ne Mcm X2.out,(G1.out.kept (zar _ _ _ _) X0.out Mco).ro',zaL (ak.out.trans (bl.out.mono ay)) (Nat.le_refl _) _⟩;have:=Joins.block_setCell (i:=4) X0.out (.slice A5 (wd.length+1) c5')
 simpa using this):P:=h
theorem Mq(h:P:=by
 refine OnM 9 true fun K hK=>?_
 refine zal (v:=.slice V4 s.marriages.length c4') (n:=s.marriages.length) (m:=1) rfl _ _ rfl zgv zbj zdA rfl (xs:=s.marriages) (ys:=[(d.frm,tn)]) o9 bp.out.symm rfl rfl (zmS (p:=(d.frm,tn)) n9) Mcu McF McJ ?_;intro v5 w5 g1 g2 g3;obtain⟨A5,c5',cH,_,_⟩:=g1.sl zbj;rw[List.length_append,<-bp.out]at cH;subst cH;have aq:Below WX.heap.size WX w5:=Below.grown e9 g2 Md8 (fun j hj=>(o9.ge j hj).1);have bU:=bv.out.trans (aq.mono fu);refine NxM hK fun hHeld=>?_
 clear hK K;refine OnM 10 true fun K hK=>?_
 go_simp
 refine NxM hK fun hHeld=>?_
 clear hK K;obtain⟨⟨xs0,xd0,xr0⟩,⟨s0,s1,s2,s3,s4,s5,s6⟩,⟨d0,d1,d2,d3,d4,d5,d6⟩,⟨r0,r1,r2,r3,r4,r5,r6⟩,rf,ls,ld,lr⟩:=ddF (aw.out w5 (bU));have sf:=frz xs0;refine OnM 11 true fun K hK=>?_
 go_simp
 refine NxM hK fun hHeld=>?_
 clear hK K;refine zaI Mcn ?_ _;clear hHeld;have G1:=Lib.hid g1;have vG:=Lib.hid aq;have bl:=Lib.hid bU;have X0:=Lib.hid xs0;have X2:=Lib.hid xr0;clear g1 g2 g3 aq bU h1 h2 h3 aD;clear xs0 xd0 xr0 s0 s1 s2 s3 s4 s5 s6 d0 d1 d2 d3 d4 d5 d6 r0 r1 r2 r3 r4 r5 r6 rf ls ld lr;clear sf;go_wp2_with fail
 go_meet
 refine⟨by first|rfl|trivial,A5,c5',?_,J_ne Mcm X2.out,(G1.out.kept (zar _ _ _ _) X0.out Mco).ro',zaL (ak.out.trans (bl.out.mono ay)) (Nat.le_refl _) _⟩;have:=Joins.block_setCell (i:=2) X0.out (.slice A5 (s.marriages.length+1) c5')
 simpa using this):P:=h
theorem Mr(h:P:=by
 go_wp2_with (first
               |(go_at_call 60;go_must(refine(zcx _ _ _ _).mono ?_);rintro e wq ⟨rfl,rfl⟩;(first|rw[i8]|rw[hc9]|rw[hy9]))
               |(go_at_call 58;go_must(refine(zdj _ _).mono ?_);rintro e wq ⟨rfl,rfl⟩;rw[jS])
               |(go_at_call 61;go_must(refine(zdU _ _ Mc2).mono ?_);rintro e wq ⟨rfl,rfl⟩;(first|rw[cY]|rw[gT]|rw[ul])))
 go_meet
 exact⟨zaO (by simp[zb1, *]),by first|exact True.intro|rfl⟩):P:=h
theorem Ms(h:P:=by
 go_wp2_with (first
               |(go_at_call 60;go_must(refine(zcx _ _ _ _).mono ?_);rintro e wq ⟨rfl,rfl⟩;(first|rw[i8]|rw[hc9]|rw[hy9]))
               |(go_at_call 58;go_must(refine(zdj _ _).mono ?_);rintro e wq ⟨rfl,rfl⟩;rw[jS])
               |(go_at_call 61;go_must(refine(zdU _ _ Mc2).mono ?_);rintro e wq ⟨rfl,rfl⟩;(first|rw[cY]|rw[gT]|rw[ul])))
 go_ret
 exact Ret.of (zbC HE.out.symm) ak.out):P:=h
theorem Mt(h:P:=by
 intro v6 w6 h1 h2 h3;obtain⟨A6,c6,du,_,_⟩:=h1.sl zaD;rw[List.length_append]at du;subst du;have xj:=o1.ge;have dM:∀k,k<wc.heap.size->w6.heap[k]?=wc.heap[k]?:=fun k hk=>(h2.block k (by have:=oK.size;simp at this⊢;omega) (fun e=>by have:=(xj k e.symm).1;simp at this;omega)).trans (oK.block k (by simpa using hk))
 have sX:zbz w6 wr.heap.size g.place g.cls frm g.fin (.slice A1 g.holders.length c1) (.slice D g.died.length dc):=(dM _ bs).trans eY.out;have kw:wc.heap.size<=w6.heap.size:=by have a:=oK.size;have b:=h2.size;simp at a b⊢;omega
 have y3:w6.cell? ⟨w.heap.size,3,none⟩=some (.string fr):=(World.cell?_of_block (w:=wc) (dM w.heap.size Mcm)).trans d3;have y5:w6.cell? ⟨T,5,none⟩=some (.slice D g.died.length dc):=(World.cell?_of_block (w:=wc) (dM T Mcm)).trans q5;have jG:=sX;unfold zbz at jG;obtain⟨-,-,-,-,-,u5⟩:=cF6 jG;have fu5:w6.frozen? ⟨wr.heap.size,5,none⟩=false:=by simp only[World.frozen?,jG];rfl
 have hx6:=zab sX;refine NxM hK (fun hHeld=>?_) (⟨y3,y5⟩);clear hK K;refine TkH 9 ?_;refine OnH 10 fun K hK=>?_
 go_simp
 refine NxM hK (fun hHeld=>?_) (⟨(World.cell?_setCell_far _ _ _ _ (by show wr.heap.size≠w.heap.size;omega)).trans y3,(World.cell?_setCell_far _ _ _ _ (by show wr.heap.size≠T;omega)).trans y5⟩);clear hK K;refine wpAnyH_done Mcn ?_ _;go_wp2_with fail
 go_meet
 have aG:Below wc.heap.size wc w6:=Below.grown (a:=wc) (B:=wc.heap.size) (B_drop oK) h2 (by have:=oK.size;simp at this⊢;omega) (fun j hj=>by have:=(xj j hj).1;simp at this;omega);have jt:za7 (.slice A1 g.holders.length c1)≠some wr.heap.size:=zkC kf.out eY.out Mco
 exact⟨A6,c6,tomb_set5 sX _,OwnS.base_le (h1.grown (zar _ _ _ _) (.inr fun e=>by have:=(h1.ge _ e).1;simp at this;omega)) Mcr,(kf.out.keep aG).grown (zar _ _ _ _) (.inr jt),zaL (aw.out.trans (aG.mono Mcm)) Mcp _⟩):P:=h
theorem Mu(h:P:=by
 (refine zaj Mcn Mcn ?_
  repeat(first|go_big_quiet_skip|(go_big_quiet_want;go_big_quiet_op;first|go_big_quiet_on|(apply Exists.intro;refine⟨fun _=>?_,?_⟩;(go_at_call 103;exact quietx (zhQ _));go_big_quiet_on)))
  refine wpQuiet_nil ?_
  rintro _ ⟨zq,rfl⟩)
 go_wp2_with fail
 go_ret
 exact Ret.of (zaO (by rw[HE.out];simp[fm5, *])) (zbm aL.out zq)):P:=h
theorem Mv(h:P:=by
 have oa:=Lib.hid (cd);obtain⟨W3,bm⟩:∃W3,W3=w2.setCell ⟨w.heap.size,4,none⟩ (.slice A2 ts.length c2):=⟨_,rfl⟩
 have b3:W3.heap[w.heap.size]?=some (.cells #[.int .i64 kd,.int .i64 dy,.string pl,.string fr,.slice A2 ts.length c2,.int .i64 cl,.int .i64 yr] 28):=by
  rw[bm];have:=Joins.block_setCell (i:=4) e1 (.slice A2 ts.length c2);simpa using this
 have r3:W3.heap[w.heap.size+1]?=some (.cells #[.int .i64 0,.int .i64 0,.string ⟨#[]⟩,.string ⟨#[]⟩,.slice none 0 0,.int .i64 0,.int .i64 0] 28):=by rw[bm];exact J_ne Mcm e2
 have s3:Ro W3 62 RPart.cells A2 ts:=by rw[bm];exact s2.kept (zar _ _ _ _) e1 Mco
 have eN:Below w.heap.size w W3:=by rw[bm];exact zaL (aB.out.trans (bF.mono aB.out.size)) Mcp _
 rw[<-bm];have S3:=Lib.hid s3;have aL:=Lib.hid eN;clear bm eN s3 s2 e1 e2 f4 k4 bF b0 r0 c4 l0 l1;obtain⟨g0,g1,g2,g3,g4,g5,g6⟩:=cF7 b3;obtain⟨t0,t1,t2,t3,t4,t5,t6⟩:=cF7 r3;have f0:∀j,W3.frozen? ⟨w.heap.size+1,j,none⟩=false:=fun j=>by simp[World.frozen?,r3]
 go_wp2_with fail
 refine bodyPost_ret (v:=.agg #[.int .i64 kd,.int .i64 dy,.string pl,.string fr,.slice A2 ts.length c2,.int .i64 cl,.int .i64 yr]) ?_ rfl ?_
 ·exact zl0 rfl _ _ (w.heap.size+1) _ _ _ _ _ _ _ rfl (zc5 r3)
 ·exact⟨A2,c2,rfl,cd,(((((((S3.out.kept (zar _ _ _ _) r3 Mco).kept (zar _ _ _ _) (Joins.block_setCell (i:=0) r3 _) Mco).kept (zar _ _ _ _) (Joins.block_setCell (i:=1) (Joins.block_setCell (i:=0) r3 _) _) Mco).kept (zar _ _ _ _) (Joins.block_setCell (i:=2) (Joins.block_setCell (i:=1) (Joins.block_setCell (i:=0) r3 _) _) _) Mco).kept (zar _ _ _ _) (Joins.block_setCell (i:=3) (Joins.block_setCell (i:=2) (Joins.block_setCell (i:=1) (Joins.block_setCell (i:=0) r3 _) _) _) _) Mco).kept (zar _ _ _ _) (Joins.block_setCell (i:=4) (Joins.block_setCell (i:=3) (Joins.block_setCell (i:=2) (Joins.block_setCell (i:=1) (Joins.block_setCell (i:=0) r3 _) _) _) _) _) Mco).kept (zar _ _ _ _) (Joins.block_setCell (i:=5) (Joins.block_setCell (i:=4) (Joins.block_setCell (i:=3) (Joins.block_setCell (i:=2) (Joins.block_setCell (i:=1) (Joins.block_setCell (i:=0) r3 _) _) _) _) _) _) Mco),zaL (zaL (zaL (zaL (zaL (zaL (zaL aL.out Mcp _) Mcp _) Mcp _) Mcp _) Mcp _) Mcp _) Mcp _⟩):P:=h
theorem Mw(h:P:=by
 refine bodyPost_ret (zbD rfl _ rfl rfl (zc5 xr5)) rfl ?_
 exact⟨_,_,_,_,_,_,_,rfl,rfl,zcA (ak.out.trans (bl.out.mono ay)) (show w.heap.size<=w.heap.size+2 by omega),fun h0=>(zcB xr5 rfl).st (aH.out h0)⟩):P:=h
theorem Mx(h:P:=by
 go_enter Tryz.func17,Tryz.ntmps17
 go_wp2_with fail
 go_loopw [5] (fun i wr=>∃j:Nat,j<=xs.length/\i=.int .i64 j/\∃z,wr=w.ext z) (fun i _=>xs.length-(intOf i).toNat)
 case atStart=>exact⟨0,Nat.zero_le _,rfl,zaV (Below.refl _ _)⟩
 case round=>
  obtain⟨j,hj,rfl,z,rfl⟩:=hrel;by_cases aa:j<xs.length
  ·obtain⟨b,off,rfl,hb,hc⟩:=hp.at aa;obtain⟨b',off',rfl,cC,aJ⟩:=hq.at aa;have br:(j:Int)<(xs.length:Int):=Mcm;have sB:(0:Int)<=(j:Int):=Mcm;generalize xs[j]=x at*;have x0:w.cell? ⟨b,off+j*3,none⟩=some (.string x.name):=hc 0 _ rfl;have y0:w.cell? ⟨b',off'+j*3,none⟩=some (.string x.name):=aJ 0 _ rfl;have x1:w.cell? ⟨b,off+j*3+1,none⟩=some (.int .i64 x.num):=hc 1 _ rfl;have y1:w.cell? ⟨b',off'+j*3+1,none⟩=some (.int .i64 x.num):=aJ 1 _ rfl;have x2:w.cell? ⟨b,off+j*3+2,none⟩=some (.int .i64 x.den):=hc 2 _ rfl;have y2:w.cell? ⟨b',off'+j*3+2,none⟩=some (.int .i64 x.den):=aJ 2 _ rfl;clear hc aJ;go_wp2_with fail
   (refine zaj Mcn Mcn ?_
    repeat(first|go_big_quiet_skip|(go_big_quiet_want;go_big_quiet_op;first|go_big_quiet_on|(apply Exists.intro;refine⟨fun _=>?_,?_⟩;(fail);go_big_quiet_on)))
    refine wpQuiet_nil ?_
    rintro _ ⟨zq,rfl⟩)
   go_wp2_with fail
   go_roundw
   case rel=>exact⟨j+1,by omega,by go_num,zaV Bw⟩
   case measure=>simp[intOf];omega
  ·have q8:¬((j:Int)<(xs.length:Int)):=Mcm;go_wp2_with fail
   go_ret
   exact Ret.of rfl Bw):P:=h
theorem My(h:P:=by
 refine bodyPost_ret (v:=zmG (zbS day) (zbf day) (day-zaE (zbS day) (zbf day)+1)) ?_ rfl ?_
 ·rw[HN.out,kK.out];have g2:=J_set3 (a:=.int .i64 y) (b:=.int .i64 m) (c:=.int .i64 (day-zaE y m+1)) (J_ne (b:=w.heap.size+1) (o:=2) (v:=.int .i64 (day-zaE y m+1)) Mcm g0);refine zln rfl _ _ w.heap.size _ _ _ rfl ?_ ?_ ?_;all_goals simp[World.cell?,g2]
 ·exact⟨HD.out,Ret.of rfl (by repeat(first|exact B_refl|exact Below.refl _ _|assumption|with_reducible refine zac ?_ _|with_reducible refine zbm ?_ _|with_reducible refine zaH ?_|with_reducible refine zd2 ?_ _|with_reducible refine zaL ?_ Mdp _))⟩):P:=h
theorem Mz(h:P:=by
 have rm:=Lib.hid wJ;have fx:=Lib.hid (qq.out.trans (((zaH me).trans (CO.mono me.size)).mono (by have:=qq.out.size;omega)));have cr:=Lib.hid (fun W (h:Below w5.heap.size w5 W)=>zdH ys YA yc W (by have:=ki.out;omega) (rm.out.keep h));clear wJ CO;go_upto_region 11 with fail
 cases hlg:zaF ys
 ·rw[hlg]at cr;go_wp2_with (go_at_call 146;go_must(refine(cr.out _ (Below.refl _ _)).mono ?_);rintro e wq ⟨rfl,rfl⟩)
  rcases BM.out with h|⟨h1,h2⟩
  ·obtain⟨g1,g2,g3⟩:=vm.out ys h;go_round
   case rel=>exact⟨k+1,ys,YA,yc,am.out,rfl,by go_num,g1,g2,g3,fun _=>AO.out,rm.out,fx.out⟩
   case measure=>have:=am.out;simp only[intOf];omega
  ·rw[hlg]at h2;cases h2
 ·rw[hlg]at cr;go_wp2_with (go_at_call 146;go_must(refine(cr.out _ (Below.refl _ _)).mono ?_);rintro e wq ⟨rfl,rfl⟩)
  go_ret
  have kZ:R=none:=by
   rcases BM.out with h|⟨h1,h2⟩
   ·have:=(vm.out ys h).2.1.out.small;rw[hlg]at this;cases this
   ·exact nj.out h1
  exact⟨YA,yc,ys,rfl,rm.out,ak.out.trans ((aB.out.trans (fx.out.mono gw)).mono lT),ki.out,.inr ⟨kZ,hlg⟩⟩):P:=h
theorem MC(h:P:=by
 go_wp2_with (first
               |(go_at_call 45;refine(zbi _ _ _ _).mono ?_;intro e wq hq;rcases Ret0.bools hq with⟨rfl,⟨hb,rfl⟩|⟨hb,rfl⟩⟩<;>clear hq)
               |(go_at_call 46;refine(zcI _ _).mono ?_;intro e wq hq;rcases Ret0.bools hq with⟨rfl,⟨hb,rfl⟩|⟨hb,rfl⟩⟩<;>clear hq)
               |(go_at_call 47;refine(zca _ _ Mc2).mono ?_;intro e wq hq;rcases Ret0.bools hq with⟨rfl,⟨hb,rfl⟩|⟨hb,rfl⟩⟩<;>clear hq)
               |(go_at_call 48;refine(zcJ _ _ eg (fun q:RPart=>!zaS q.name) _ _ _ ps _ rfl HL.out (HS.out.keep (n:=w.heap.size) Bw) (zgs ps _ HN.out)).mono ?_;intro e wq hq;rcases Ret.bools hq with⟨zq,rfl,⟨hb,rfl⟩|⟨hb,rfl⟩⟩<;>clear hq)
               |(go_at_call 50;refine(zd5 ⟨word,fp,ff,fc,fy,fa,fpt,fs⟩ _ _ _ _ _ _ ps _ _ _ _ rfl Mcm HC.out (HS.out.keep (n:=w.heap.size) Bw)).mono ?_;intro e wq hq;rcases Ret.bools hq with⟨zq,rfl,⟨hb,rfl⟩|⟨hb,rfl⟩⟩<;>clear hq))
 all_goals go_meet
 all_goals(refine⟨zaO (by first|exact hb.symm|simp[zb1,noB, *]),Bw,by first|omega|(simp[zaf];done)|(simp[zaf];omega),?_⟩;repeat(first|assumption|with_reducible refine zak ?_|with_reducible refine zbv ?_|with_reducible refine J_ne Mcm ?_))):P:=h
theorem MD(h:P:=by
 clear hc aJ;go_wp2_with fail
 (refine zaj Mcn Mcn ?_
  repeat(first|go_big_quiet_skip|(go_big_quiet_want;go_big_quiet_op;first|go_big_quiet_on|(apply Exists.intro;refine⟨fun _=>?_,?_⟩;(fail);go_big_quiet_on)))
  refine wpQuiet_nil ?_
  rintro _ ⟨zq,rfl⟩)
 go_wp2_with fail
 go_roundw
 case rel=>exact⟨j+1,by omega,by go_num,zaV Bw⟩
 case measure=>simp[intOf];omega):P:=h
theorem ME(h:P:=by
 go_wp2_with fail
 all_goals go_meet
 all_goals(refine⟨zaO (by first|(simp[noB, *];done)|(rw[Bool.eq_iff_iff];simp[noB];simp[*];done)|(cases fp<;>cases ff<;>simp_all[noB])),Bw,by first|omega|(simp[zaf];done)|(simp[zaf];omega),?_,?_⟩)
 all_goals(repeat(first|assumption|with_reducible refine zak ?_|with_reducible refine zbv ?_|with_reducible refine J_ne Mcm ?_))):P:=h
theorem MF(h:P:=by
 have vh:=Lib.hid iW;have jL:=Lib.hid bI;clear iW bI;refine hK.out _ _ ?_ (fun hHeld=>?_);focus((try dsimp only);refine⟨?_,?_,?_,?_,?_,?_⟩<;>assumption)
 clear hK K;try simp only[Act.put,List.setIfInBounds_toArray,List.set_cons_zero,List.set_cons_succ]
 refine wpAnyH_done Mcn ?_ _;go_wp2_with fail
 go_end0
 refine⟨rfl,⟨_,vh.out,(zg1 _ _ _ kL.out).1,fun k=>?_⟩,?_,?_⟩
 ·show _\/mget eqS k (mput eqS n _ mm)=some (zaC (zag (setP out n (zbh (zag out n+f))) k));rw[zfi,zlo HG.out,gn.out];cases hk:zae k n
  ·simp only[Bool.false_eq_true,if_false];show _\/_;rcases uV.out k with⟨a1,a2⟩|a
   ·refine .inl ⟨a1,?_⟩;show zag (setP out n (zbh (zag out n+f))) k=0;rw[zlo HG.out,hk];exact a2
   ·exact .inr a
  ·exact .inr rfl
 ·show MarkAt w6 C (fl||bigQ (zag out n+f));rw[gn.out];exact N1.out.grown jL.out tN
 ·exact(Two2.of_below Bw).trans ((Two2.grownC N2.out).trans (Two2.grownM jL.out))):P:=h
theorem MG(h:P:=by
 refine NxM hK (fun hHeld=>?_) (.inr (ax.out _ aR));clear hK K;refine OnM 5 true fun K hK=>?_
 refine zal (v:=.slice A6 xs.length c6) (n:=xs.length) (m:=1) rfl _ _ rfl zex zbn zew rfl (xs:=xs) (ys:=[⟨d,B,c⟩]) o7 rfl rfl rfl (zey zbn n7 Mew) MdU Mc3 (by have:=aR.size;simp at this⊢;omega) ?_;intro v8 w8 h1 h2 h3;rw[<-tI.out]at h1;obtain⟨A8,c8,rfl,Kr,s8⟩:=h1.ro;have Ki:Below W5.heap.size W5 w8:=Below.grown aR h2 (by have:=aR.size;simp at this⊢;omega) (fun j hj=>by have:=(o7.ge j hj).1;(try simp at this);omega);refine NxM hK fun hHeld=>?_
 clear hK K;refine OnM 6 true fun K hK=>?_
 go_simp
 refine NxM hK fun hHeld=>?_
 clear hK K;refine zaI Mcn ?_ _;clear hHeld;go_wp2_with fail
 go_meet
 exact⟨A8,c8,rfl,rfl,rfl,s8,Ki,Kr⟩):P:=h
theorem MH(h:P:=by
 intro W B hb;have f0:W.cell? ⟨B,0,none⟩=some (.int .i64 0):=by simp[World.cell?,hb]
 have f1:W.cell? ⟨B,1,none⟩=some (.int .i64 0):=by simp[World.cell?,hb]
 have fz:∀j,W.frozen? ⟨B,j,none⟩=false:=fun j=>by simp[World.frozen?,hb]
 go_simp
 with_reducible exact⟨zeo hb,zps _ _ _ _⟩):P:=h
theorem MI(h:P:=by
 (go_wp2_with fail
  go_ret
  exact Ret.of (zbC McE) Bw)):P:=h
theorem MJ(h:P:=by
 go_wp2_with fail
 go_round
 case rel=>have aq:=aL.out.trans (zbm (Below.refl W3.heap.size W3) zq |>.mono jq)
           have Ls:=bS.out.keep aq;have e1:(dx++[x])++gxs.drop (k+1)=dx++gxs.drop k:=by rw[AY.out,List.append_assoc];rfl
           refine⟨k+1,l,f,dx++[x],am.out,by go_num,rfl,rfl,by rw[List.length_append,iy];rfl,Lib.hid fun _=>by rw[e1];exact Ls,Lib.hid fun y hy=>?_,nU,Lib.hid fun dJ=>?_,HB.out.trans (aq.mono aE),Nat.le_trans ic aq.size⟩
           ·rcases List.mem_append.1 hy with hy|hy
            ·exact(fV.out y hy).keep aq
            ·rw[List.mem_singleton.1 hy];exact .inl bp.out
           ·obtain⟨h1,h2⟩:=kL.out dJ;exact⟨by rw[h1,EX.out,List.map_append];rfl,h2⟩
 case measure=>have:=am.out;simp only[intOf];omega):P:=h
theorem MK(h:P:=by
 go_round
 case rel=>exact⟨k+1,am.out,by go_num,by first|exact True.intro|rfl,HE.out⟩
 case measure=>have:=am.out;simp only[intOf];omega):P:=h
theorem ML(h:P:=by
 refine⟨0,Nat.zero_le _,rfl,0,HX,fits_zero,Rat.le_refl,Rat.le_refl,?_,?_,?_,?_,?_⟩
 ·exact Bw
 ·simp
 ·exact zak (zak (zas _ _ _ rfl))
 ·exact zak (zas _ _ _ Mcp)
 ·exact zas _ _ _ Mcp):P:=h
theorem MM(h:P:=by
 have h0:xs=[]:=by
  cases xs with
  |nil=>rfl
  |cons y ys=>obtain⟨b,off,h,_⟩:=hS Mcp;cases h
 subst h0;go_wp2_with fail
 go_ret
 exact⟨_,rfl,OwnS.nil,Below.refl _ _⟩):P:=h
theorem MN(h:P:=by
 have g4:wq.heap[P]?=some (zbu part):=(g3.others P Mcr Mcm Mcm).trans (zak IN.out);have g5:Two2 w wq C m:=Ei.out.trans (Two2.trans McB g3);have G1:=Lib.hid g1;have G2:=Lib.hid g2;have G4:=Lib.hid g4;have G5:=Lib.hid g5;clear g1 g2 g3 g4 g5;go_wp2_with fail
 go_round
 case rel=>exact⟨k+1,_,_,by omega,by go_num,ed.out.symm,G1.out,G2.out,G5.out,G4.out⟩
 case measure=>simp[intOf];omega):P:=h
theorem MO(h:P:=by
 unfold za9 at hd;simp only[Bool.and_eq_true,decide_eq_true_eq]at hd;refine⟨law.den.toNat,by omega,by omega,law.num,?_⟩;have hz:(law.den:Rat)≠0:=ratI Mcm;have e:((law.den.toNat:Nat):Rat)=(law.den:Rat):=by rw[<-Rat.intCast_natCast,Int.toNat_of_nonneg Mcm]
 rw[Rat.divInt_eq_div,e]
 grind):P:=h
theorem MP(h:P:=by
 have bw:Hid (R=4):=by show _=_;rw[HR.out];simp[zcr, *]
 clear HR HK dN;go_wp2_with (go_at_call 47;refine(zca _ _ Mc2).mono ?_;rintro e wq ⟨rfl,rfl⟩;rw[hq])
 go_ret
 rw[bw.out]
 exact Ret.of rfl Bw):P:=h
theorem MQ(h:P:=by
 have HE:Hid (R=ixI (zlO place day) gs (k+1)):=by show _=_;rw[av.out,if_neg (by unfold zlO zaT;simp[dt, *])]
 go_wp2_with fail
 go_round
 case rel=>exact⟨k+1,am.out,by go_num,HE.out,fA.out⟩
 case measure=>have:=am.out;simp only[intOf];omega):P:=h
theorem MR(h:P:=by
 (try simp only)
 (repeat' split)<;>intro h<;>first|rfl|exact absurd rfl h):P:=h
theorem MS(h:P:=by
 go_upto_region 6 with fail
 (refine zaj Mcn Mcn ?_
  repeat(first|go_big_quiet_skip|(go_big_quiet_want;go_big_quiet_op;first|go_big_quiet_on|(apply Exists.intro;refine⟨fun _=>?_,?_⟩;(fail);go_big_quiet_on)))
  refine wpQuiet_nil ?_
  rintro _ ⟨zq,rfl⟩)
 go_wp2_with fail
 go_round
 case rel=>exact⟨k+1,am.out,by go_num,HE,zbm HB.out zq⟩
 case measure=>have:=am.out;simp only[intOf];omega):P:=h
theorem MT(h:P:=by
 gi_wp2
 have g2:=Boxed.set (.string ⟨#[]⟩) T2.out;have HD:=Lib.hid hd;have bM:∀i,SpIx s x w .ret (pre++[(i,y1,y2)]) (wr.setCell ⟨w.heap.size+1+1,0,none⟩ (.string ⟨#[]⟩)):=fun i=>⟨⟨rfl,pre.map Prod.snd,(y1,y2),by simp,HP.out,HM.out,by rw[HO.out,HD.out];exact g2⟩,zaL (aO.trans (aW.out.mono Mcm)) Mcr _⟩
 first
  |exact⟨(KeepsOthers.setCell _ _ _).from _,bM _⟩
  |(trace_state;fail "ret")):P:=h
theorem MU(h:P:=by
 go_wp2_with fail
 go_meet
 exact⟨zaO (by simp[fm2, *]),by first|exact True.intro|rfl⟩):P:=h
theorem MV(h:P:=by
 go_wp2_with fail
 go_ret
 exact Ret.of (zaO HE.out.symm) HB.out):P:=h
theorem MW(h:P:=by
 go_roundg f'
 case measure=>omega
 case rel=>
  refine⟨f',y+1,Nat.le_refl _,by omega,by omega,by omega,HN,HC.out,by repeat(first|exact B_refl|exact Below.refl _ _|assumption|with_reducible refine zac ?_ _|with_reducible refine zbm ?_ _|with_reducible refine zaH ?_|with_reducible refine zd2 ?_ _|with_reducible refine zaL ?_ Mdp _),J_ne Mcm g0,?_⟩;have:=Joins.block_setCell (i:=0) g1 (.int .i64 (y+1))
  simpa using this):P:=h
theorem MX(h:P:=by
 clear bO;go_wp2_with (go_at_call 59;go_must(refine(tB.out _).mono ?_);rintro e wq ⟨rfl,z,rfl⟩)
 rw[HE.out];refine bodyPost_ret (v:=.tuple #[zaC o,.bool false]) ?_ rfl ?_
 ·exact zg2 rfl _ _ w.heap.size _ _ _ rfl rfl (by first|exact zbv (zeo g0)|exact zeo (zbv g0))
 ·exact Ret.of rfl (by first|exact zbm (zaL (zaL HB.out Mcp _) Mcp _) z|exact zaL (zaL (zbm HB.out z) Mcp _) Mcp _)):P:=h
theorem MY(h:P:=by
 go_wp2_with fail
 go_round
 case rel=>exact⟨k+1,es,by omega,by go_num,nk.out,by rw[aj,ng.out,Option.toList_none,List.append_nil];exact Im.out,aL.out,by have:=eI.out;omega⟩
 case measure=>simp[intOf];omega):P:=h
theorem MZ(h:P:=by
 refine znh rfl _ _ w.heap.size _ _ _ _ _ _ rfl ?_ ?_ ?_ ?_ ?_ ?_<;>simp[go_sem]):P:=h
theorem M0(h:P:=by
 (repeat(first|exact zas _ _ _ (by simp[zaf];done)|with_reducible refine zbv ?_|with_reducible refine zak ?_))):P:=h
theorem M3(h:P:=by
 rcases h with⟨rfl,_⟩|⟨g,o,c,cur,rfl,_,hg,_⟩
 ·simp[za7]
 ·intro h;simp only[za7,Option.some.injEq]at h;subst h;rw[hg]at hT;simp only[Option.some.injEq,Obj.cells.injEq]at hT
  exact ai hT.2.1.symm):P:=h
theorem M4(h:P:=by
 go_wp2_with (first
  |(go_at_call 45;refine(zbi _ _ _ _).mono ?_;rintro e wq ⟨rfl,rfl⟩;first|rw[v1]|rw[v2])
  |(go_at_call 115;refine(HG.out _).mono ?_;rintro e wq ⟨rfl,z,rfl⟩))
 go_ret
 exact Ret.of (zbC zh.out.symm) (HB.out.trans (Below.mono (B:=wc.heap.size) Bw hs))):P:=h
theorem M5(h:P:=by
 rw[zhP (f:=⟨_,_,_,_,_,_,_,_⟩) (.inl rfl)]
 cases noB fr<;>cases noB pl<;>cases hy:(yr==0)<;>cases hc:(cl==0)<;>simp_all):P:=h
theorem M6(h:P:=by
 go_wp2_with fail
 go_ret
 exact⟨by rw[HE.out];rfl,rfl⟩):P:=h
theorem M7(h:P:=by
 go_round
 case rel=>exact⟨0+1,by omega,by go_num,by first|exact True.intro|rfl,fun j s hj hs=>by
  rcases Nat.lt_succ_iff_lt_or_eq.1 hj with hj|rfl
  ·exact HK.out j s hj hs
  ·simp at hs;rw[<-hs];exact nj.out⟩
 case measure=>simp[intOf]):P:=h
theorem M8(h:P:=by
 go_round
 case rel=>exact⟨1+1,by omega,by go_num,by first|exact True.intro|rfl,fun j s hj hs=>by
  rcases Nat.lt_succ_iff_lt_or_eq.1 hj with hj|rfl
  ·exact HK.out j s hj hs
  ·simp at hs;rw[<-hs];exact nj.out⟩
 case measure=>simp[intOf]):P:=h
theorem M9(h:P:=by
 go_round
 case rel=>exact⟨2+1,by omega,by go_num,by first|exact True.intro|rfl,fun j s hj hs=>by
  rcases Nat.lt_succ_iff_lt_or_eq.1 hj with hj|rfl
  ·exact HK.out j s hj hs
  ·simp at hs;rw[<-hs];exact nj.out⟩
 case measure=>simp[intOf]):P:=h
theorem Maa(h:P:=by
 have hw:Region.wanted o (yielded ops a.tmps)=true:=by simp[Region.wanted,bP]
 rw[if_pos hw];unfold Oper.wp;simp[execOp,ho,hx,hi,hu,hrun,Result.andThen]
 exact h):P:=h
theorem Mab(h:P:=by
 go_wp2_with (go_at_call 31;refine(bX.out _ Bw).mono ?_;rintro e wq ⟨rfl,z,rfl⟩;simp only[zlp,Option.map_none])
 go_ret
 exact zbP HW.out Bw HG.out):P:=h
theorem Mac(h:P:=by
 go_wp2_with (go_at_call 171;go_must(refine(Io.out _ (zbm ak.out z)).mono ?_);rintro e wq ⟨v,rfl,o,b⟩;obtain⟨VA,vc,rfl,_,_⟩:=o.sl zaD;have I0:=Lib.hid ((zbm ak.out z).trans (b.mono Mcv));clear o b)
 go_ret
 exact Ret.of (zaO (by simp[hz])) I0.out):P:=h
theorem Mad(h:P:=by
 refine znY ((zja dX cn Mco).sl zbn) (by rw[List.map_append,zg.out];rfl) fun y hy=>?_
 rcases List.mem_append.1 hy with hy|hy
 ·exact⟨(tt.out y hy).1,(tt.out y hy).2.keep df⟩
 ·rw[List.mem_singleton.1 hy]
  exact⟨lz.out,HS.out _ df⟩):P:=h
theorem Mae(h:P:=by
 go_round
 case rel=>exact⟨k+1,am.out,by go_num,by rw[aH.out];exact H1.out,aL.out⟩
 case measure=>have:=am.out;simp only[intOf];omega):P:=h
theorem Maf(h:P:=by
 first
  |exact⟨(KeepsOthers.setCell _ _ _).from _,bM _⟩
  |(trace_state;fail "ret")):P:=h
theorem Mag(h:P:=by
 (go_wp2_with fail
  go_ret
  exact Ret.of (zbC Mc5) Bw)):P:=h
theorem Mah(h:P:=by
 clear hR;go_wp2_with fail
 go_ret
 exact Ret.of (zaO HE.out.symm) Bw):P:=h
theorem Mai(h:P:=by
 go_wp2_with fail
 go_ret
 exact zbP HW.out Bw jk.out):P:=h
theorem Maj(h:P:=by
 rename_i hc
 have h:(zbT laws s k last d).2=0:=h;rw[h]at hc
 exact absurd hc Mco):P:=h
theorem Mak(h:P:=by
 rw[zhP (f:=⟨_,_,_,_,_,_,_,_⟩) (.inl rfl)]
 cases noB fr<;>cases noB pl<;>cases hy:(yr==0)<;>cases hc:(cl==0)<;>cases ps<;>simp_all):P:=h
theorem Mal(h:P:=by
 go_wp2_with (at_builtin;refine zau (n:=xs.length) (m:=1) rfl _ _ rfl zdQ zan zcd rfl HO.out rfl rfl rfl HS.out McL Mcm aM ?_;intro v' w' h1 h2 h3)
 all_goals go_ret
 all_goals exact⟨_,rfl,h1,h2,h3⟩):P:=h
theorem Mam(h:P:=by
 rcases List.mem_append.1 hy with hy|hy
 ·exact⟨(rs7 y hy).1,(rs7 y hy).2.kept (zar _ _ _ _) o7 Mco⟩
 ·obtain rfl:=List.mem_singleton.1 hy
  exact⟨mi,ro7.kept (zar _ _ _ _) o7 Mco⟩):P:=h
theorem Man(h:P:=by
 refine fP k ok hk au ?_ dN;by_cases hjk:j=k
 ·subst hjk;exact ku
 ·rw[getD_set_ne true hjk]at dY;exact dY):P:=h
theorem Mao(h:P:=by
 go_quiet (fail)
 go_wp2_with fail
 go_meet
 exact⟨zaO (by simp[*]),zd2 (Below.refl _ _) _⟩):P:=h
theorem Map(h:P:=by
 rw[List.getElem?_set_ne hj]at e2;have ai:T'≠T:=fun e=>by
  subst e;exact hj ((List.getElem?_inj (List.getElem?_eq_some_iff.1 hi).1 hT.nd).1 (hi.trans e1.symm))
 exact(hT.all j T' g e1 e2).kept hg hx ai Mco Mco):P:=h
theorem Maq(h:P:=by
 go_wp2_with (go_at_call 60;go_must(refine(zcx _ _ _ _).mono ?_);rintro e wq ⟨rfl,rfl⟩)
 go_ret
 exact⟨rfl,rfl⟩):P:=h
theorem Mar(h:P:=by
 go_wp2_with fail
 go_ret
 exact Ret.of rfl Bw):P:=h
theorem Mas(h:P:=by
 have HE:=Lib.hid he;clear he;go_wp2_with fail
 go_round
 case rel=>exact⟨by first|exact True.intro|rfl,.inr (.inl ⟨by go_num,by rw[HE.out]⟩)⟩
 case measure=>simp only[intOf];decide):P:=h
theorem Mat(h:P:=by
 have:=zdW (t:=28) zbn (WX.drew.alloc (.cells #[.int .i64 d.kind,.int .i64 d.day,.string d.place,.string d.frm,.slice B d.to.length c,.int .i64 d.cls,.int .i64 d.years] 28)) WX.heap.size Mcp
 simpa using this):P:=h
theorem Mau(h:P:=by
 have HE:Hid (R=(k:Int)):=by show _=_;rw[av.out,if_pos (by unfold zlO zaT;simp[dt, *])]
 go_wp2_with fail
 go_ret
 exact Ret.of (zbC HE.out.symm) (ak.out.trans (fA.out.mono ak.out.size))):P:=h
theorem Mav(h:P:=by
 rw[hd]at tt;clear hx hd;go_wp2_with (go_at_call 111;go_must(refine(tt.out _ Mdh).mono ?_);rintro e wq ⟨rfl,z,rfl⟩)
 go_ret
 exact Ret.of (by rw[HE.out];rfl) (zbm ak.out z)):P:=h
theorem Maw(h:P:=by
 go_wp2_with fail
 go_quiet (fail)
 go_wp2_with fail
 go_ret
 exact Ret.of (zaO (by rw[HU.out];simp)) Bw):P:=h
theorem Max(h:P:=by
 rw[List.drop_eq_nil_of_le Mcm,zeW]at hf;have HF:=Lib.hid hf;clear hf hS;have jB:¬(k:Int)<(ls.length:Int):=Mcm;go_wp2_with fail
 go_ret
 exact Ret.of (zbC (by rw[HF.out])) Bw):P:=h
theorem May(h:P:=by
 go_wp2_with (go_at_call 47;refine(zca _ _ hs).mono ?_;intro e wq hq;rcases Ret0.bools hq with⟨rfl,⟨hb,rfl⟩|⟨hb,rfl⟩⟩<;>clear hq)
 all_goals go_ret
 all_goals exact Ret.of (zaO (by simp[*])) Bw):P:=h
theorem Maz(h:P:=by
 refine zaZ rfl _ _ _ _ _ rfl ?_ ?_
 ·simp[go_sem]
 ·simp[go_sem]):P:=h
theorem MaA(h:P:=by
 go_enter Tryz.func175,Tryz.ntmps175
 go_wp2_with (go_at_call 197;refine(zo6 _ _ h0 h1).mono ?_;rintro e wq ⟨rfl,rfl⟩;rw[hl])
 all_goals go_ret
 all_goals exact⟨by rw[HD.out,hl];rfl,rfl⟩):P:=h
theorem MaB(h:P:=by
 go_wp2_with fail
 refine bodyPost_ret (v:=zaC (zag (P++(qn,qr)::Q) nm)) ?_ rfl ?_
 ·rw[J6.out];exact Mcb
 ·exact Ret.of rfl Bw):P:=h
theorem MaC(h:P:=by
 go_ret
 exact Ret.of (zaO (by rw[bw.out];rfl)) (HB.out.trans (Below.mono (B:=wr.heap.size) Bw aE))):P:=h
theorem MaD(h:P:=by
 go_wp2_with fail
 go_ret
 rw[av.out]
 exact Ret.of rfl Bw):P:=h
theorem MaE(h:P:=by
 go_wp2_with (go_at_call 62;go_must(refine(qC.out _ Mdh).mono ?_);rintro e wq ⟨rfl,z,rfl⟩)
 go_ret
 exact Ret.of (zbC HE.out.symm) (zbm ak.out z)):P:=h
theorem MaF(h:P:=by
 go_wp2_with fail
 go_ret
 exact⟨rfl,rfl⟩):P:=h
theorem MaG(h:P:=by
 have e:xs.flatMap zaa=(xs.take i).flatMap zaa++(xs.drop i).flatMap zaa:=Mdd;rw[e,List.getElem?_append_left Mcm]
 exact hj):P:=h
theorem MaH(h:P:=by
 clear aj hs;go_wp2_with fail
 go_round
 case rel=>exact⟨k+1,am.out,by go_num,by rw[aH.out];exact HO.out,HB.out⟩
 case measure=>have:=am.out;simp only[intOf];omega):P:=h
theorem MaI(h:P:=by
 go_enter Tryz.func193,Tryz.ntmps193
 go_wp2_with (go_at_call 205;refine(zpb _ _ h0 h1).mono ?_;rintro e wq ⟨rfl,rfl⟩;rw[hl])
 all_goals go_ret
 all_goals exact⟨rfl,rfl⟩):P:=h
theorem MaJ(h:P:=by
 go_wp2_with fail
 go_round
 case rel=>exact⟨by first|exact True.intro|rfl,.inr (.inr ⟨by go_num,by rw[HE.out]⟩)⟩
 case measure=>simp only[intOf];decide):P:=h
theorem MaK(h:P:=by
 go_wp2_with (go_at_call 170;go_must(refine(fw.out _ Mdh).mono ?_);rintro e wq ⟨rfl,z,rfl⟩)
 go_ret
 exact Ret.of (zaO Mcp) (zbm ak.out z)):P:=h
theorem MaL(h:P:=by
 have au:¬(k:Int)<(l.length:Int):=Mcm;rw[List.take_of_length_le Mcm]at HO;clear ae hB;go_wp2_with fail
 go_ret
 exact⟨_,rfl,HO.out,HB.out⟩):P:=h
theorem MaM(h:P:=by
 rw[aX]at this
 simpa only[zlp,Option.map_some,iF]using this):P:=h
theorem MaN(h:P:=by
 (repeat(first|with_reducible exact zas _ _ _ Mcp|with_reducible exact zas _ _ _ Mdk|with_reducible refine zbv ?_|with_reducible refine zak ?_))):P:=h
theorem MaO(h:P:=by
 rw[bf];clear hN tA bf cP dX
 exact⟨rfl,aj,js,(KeepD.below aS).trans (KeepD.cells (zcc wr T _ _ _ _ _ _) mY.out Mco)⟩):P:=h
theorem MaP(h:P:=by
 refine Nat.le_trans (List.length_filter_le _ _) ?_;rw[List.length_take]
 omega):P:=h
theorem MaQ(h:P:=by
 rw[hc]at HC;go_wp2_with (go_at_call 74;go_must(refine(HC.out _).mono ?_);rintro e wq ⟨rfl,rfl⟩)
 go_ret
 exact⟨by rw[bw.out];rfl,rfl⟩):P:=h
theorem MaR(h:P:=by
 have tA:=Lib.hid fL;clear fL;go_wp2_with fail
 go_ret
 exact zbP HW.out aW.out (tA.out.trans Mcp)):P:=h
theorem MaS(h:P:=by
 obtain⟨h1,g',h2,h3⟩:=zoc n day l (k+1) j i h;refine⟨by omega,g',?_,h3⟩;rw[show i-k=(i-(k+1))+1 by omega,List.getElem?_cons_succ]
 exact h2):P:=h
theorem MaT(h:P:=by
 go_wp2_with (go_at_call 60;refine(zcx _ _ _ _).mono ?_;rintro e wq ⟨rfl,rfl⟩)
 all_goals go_ret
 all_goals exact Ret.of (zaO (by rw[hv])) Bw):P:=h
theorem MaU(h:P:=by
 have hx:decide ((10:Int)<(ls.length:Int))=true:=Mcr;go_wp2_with fail
 go_ret
 exact Ret.of (zbC (by rw[zaA,if_pos Mcr])) Bw):P:=h
theorem MaV(h:P:=by
 go_round
 case rel=>exact⟨k+1,am.out,by go_num,.inr ⟨uZ.out,dH.out⟩,aw.out⟩
 case measure=>have:=am.out;simp only[intOf];omega):P:=h
theorem MaW(h:P:=by
 go_ret2
 refine⟨out,true,fun _=>⟨by rw[HR.out,jK.out];rfl,?_⟩,by simp,Ret.of rfl Bw⟩;have h:=jK.out;simp[zb0,inR]at h
 omega):P:=h
theorem MaX(h:P:=by
 go_upto_region 6 with fail
 go_quiet (fail)
 go_wp2_with fail
 go_meet
 exact⟨by rw[lP.out],zd2 fx.out _⟩):P:=h
theorem MaY(h:P:=by
 go_wp2_with (go_at_call 95;refine(im.out _ Bw _).mono ?_;rintro e wq ⟨rfl,z,rfl⟩)
 go_ret
 exact zbP HW.out Bw (by rw[jk.out];simp)):P:=h
theorem MaZ(h:P:=by
 rintro e wq ⟨rfl,z,rfl⟩
 exact⟨rfl,hW.trans ((zap W z).mono hW.size)⟩):P:=h
theorem Ma0(h:P:=by
 go_ret
 exact Ret.of (zbC (by rw[HR.out];simp[zcr,p1,p2,isDay0,inR34, *])) (HB.out.trans (Below.mono (B:=wc.heap.size) Bw hs))):P:=h
theorem Ma1(h:P:=by
 go_ret
 exact⟨by rw[bw.out];rfl,rfl⟩):P:=h
theorem Ma2(h:P:=by
 clear hx;rw[zdD h,hp]
 go_simp):P:=h
theorem Ma3(h:P:=by
 rcases ae with⟨rfl,_⟩|⟨g',o,c',cur,rfl,_,fC,_⟩
 ·cases hk
 ·simp only[za7,Option.some.injEq]at hk;subst hk
  exact⟨cur,_,fC⟩):P:=h
theorem Ma4(h:P:=by
 go_wp2_with fail
 go_ret
 exact Ret.of (zaO HE.out.symm) ak.out):P:=h
theorem Ma5(h:P:=by
 first|omega|(simp[zaf];done)|(simp[zaf];omega)):P:=h
theorem Ma6(h:P:=by
 simp only[Value.slice.injEq]at e'
 omega):P:=h
theorem Ma7(h:P:=by
 have:=zdW (t:=122) zbj (WX.drew.alloc (.cells #[.string d.frm,.string tn] 122)) WX.heap.size Mcp
 simpa using this):P:=h
theorem Ma8(h:P:=by
 have:=aJ 0 (.string q.name) (by simp[hq,RPart.cells])
 simpa using this):P:=h
theorem Ma9(h:P:=by
 have:sh.num≠0:=fun e=>hz (Rat.num_eq_zero.1 e)
 simpa using this):P:=h
theorem Mba(h:P:=by
 have:(zai s n).length<=s.children.length:=by unfold zai;rw[List.length_map];exact List.length_filter_le _ _
 omega):P:=h
theorem Mbb(h:P:=by
 refine fun j hj hQ=>⟨hQ.1,fun e=>?_⟩
 rcases h3 j e with h|h
 ·exact hQ.2 h
 ·omega):P:=h
theorem Mbc(h:P:=by
 refine bz.mono ?_;rintro e wq ⟨rfl,hB⟩
 exact Ret.of rfl hB):P:=h
theorem Mbd(h:P:=by
 rename_i h
 have:q=0:=by simpa using h
 subst this;split
 ·rename_i hs;rw[za2.1 hs];grind
 ·rfl):P:=h
theorem Mbe(h:P:=by
 refine bz.mono ?_;rintro e wq ⟨rfl,rfl⟩
 exact⟨rfl,rfl⟩):P:=h
theorem Mbf(h:P:=by
 clear HR dl ij;go_enter Tryz.func34,Tryz.ntmps34
 go_wp2_with fail
 go_ret
 rw[HX.out]
 exact Ret.of rfl Bw):P:=h
theorem Mbg(h:P:=by
 split
 ·exact h0
 ·simp only
  repeat(first|split|exact h0)):P:=h
theorem Mbh(h:P:=by
 have h1:=b9 e he hb;have h0:=(mem_ready.1 hr).1;rw[Ak]at h1;rw[getD_both h0]at h1
 cases h1):P:=h
theorem Mbi(h:P:=by
 induction a with
 |nil=>rw[List.nil_append,sumQ,Rat.zero_add]
 |cons x a ih=>rw[List.cons_append,sumQ,sumQ,ih];grind):P:=h
theorem Mbj(h:P:=by
 go_wp2_with fail
 go_ret
 exact Ret.of (zaO Mcp) Bw):P:=h
theorem Mbk(h:P:=by
 go_wp2_with fail
 go_ret
 exact⟨rfl,HW.out.keep (n:=w.heap.size) Bw,Below.mono (B:=w.heap.size) Bw Mcm⟩):P:=h
theorem Mbl(h:P:=by
 repeat(first|exact zas _ _ _ Mdk|with_reducible refine zbv ?_|with_reducible refine zak ?_)):P:=h
theorem Mbm(h:P:=by
 rw[zi8,eqSp_refl,if_pos rfl]at this
 exact this):P:=h
theorem Mbn(h:P:=by
 rw[List.getElem?_set_self eU]at e2;simp only[Option.some.injEq]at e1 e2;subst e1 e2
 exact hN):P:=h
theorem Mbo(h:P:=by
 refine zbv ?_;have:=Joins.block_setCell (i:=2) GG.out (.int .i64 af)
 simpa using this):P:=h
theorem Mbp(h:P:=by
 simp only[results,h]
 simp[Sem.run_bind,Result.andThen]):P:=h
theorem Mbq(h:P:=by
 go_wp2_with fail
 go_meet
 rw[fS]at yx
 exact⟨by rw[yx];rfl,rfl⟩):P:=h
theorem Mbr(h:P:=by
 repeat(first|exact zas _ _ _ rfl|with_reducible refine zbv ?_|with_reducible refine zak ?_)):P:=h
theorem Mbs(h:P:=by simp[List.getD_eq_getElem?_getD,List.getElem?_eq_getElem (show ms.length-1-i<ms.length by omega)]):P:=h
theorem Mbt(h:P:=by
 go_wp2_with fail
 go_meet
 exact⟨zak (zas _ _ _ rfl),zas _ _ _ Mcp,Bw⟩):P:=h
theorem Mbu(h:P:=by
 obtain⟨b',off',he,_,aJ⟩:=hS.at (k:=k-1) Mcm;cases he
 exact aJ 0 _ rfl):P:=h
theorem Mbv(h:P:=by
 rcases List.mem_cons.1 h with rfl|h
 ·exact .inl rfl
 ·exact .inr (by simp[h])):P:=h
theorem Mbw(h:P:=by exact⟨fun o h=>by cases h;rfl,fun h=>by cases h⟩):P:=h
theorem Mbx(h:P:=by
 go_wp2_with fail
 go_meet
 exact⟨by rw[kA],by first|exact True.intro|rfl⟩):P:=h
theorem Mby(h:P:=by
 rename_i hl
 simp only[Bool.or_eq_true,Bool.and_eq_true,beq_iff_eq,bne_iff_ne]at hl
 omega):P:=h
theorem Mbz(h:P:=by
 go_wp2_with fail
 go_ret
 exact Ret.of rfl (HB.out.trans (Below.mono Bw HB.out.size))):P:=h
theorem MbA(h:P:=by
 rw[h']at hk;simp only[Option.some.injEq,Obj.cells.injEq]at hk
 exact ht hk.2.1.symm):P:=h
theorem MbB(h:P:=by
 go_ret2
 rw[HX.out];have cP:=ie.out;have aE:=cP.size
 exact Ret.of rfl Bw):P:=h
theorem MbC(h:P:=by
 rintro rfl;have:=HH.out;rw[show y=1800+day/366+10 by omega]at hc
 omega):P:=h
theorem MbD(h:P:=by
 subst cz
 exact hy.wpOp hi hS ⟨by rw[getD_set_ne false kr,dp hc hr];exact hS,H⟩):P:=h
theorem MbE(h:P:=by
 go_wp2_with fail
 go_ret
 refine⟨congrArg Ending.returned (zbC ?_),rfl⟩
 rw[HV.out]):P:=h
theorem MbF(h:P:=by
 go_ret2
 exact⟨out,false,by simp,fun _=>by rw[HR.out,jK.out];rfl,Ret.of rfl Bw⟩):P:=h
theorem MbG(h:P:=by
 refine zaZ rfl _ _ w.heap.size _ _ rfl ?_ ?_
 ·simp[go_sem]
 ·simp[go_sem]):P:=h
theorem MbH(h:P:=by
 rintro e wq ⟨rfl,z,rfl⟩
 exact⟨rfl,f9.trans ((zap W' z).mono f9.size)⟩):P:=h
theorem MbI(h:P:=by
 have:=Joins.block_setCell (i:=1) g1 (.int .i64 ((m:Int)+1))
 simpa using this):P:=h
theorem MbJ(h:P:=by
 have:=(List.getElem?_eq_some_iff.1 hk).1;simp at this
 omega):P:=h
theorem MbK(h:P:=by
 have:=Joins.block_setCell (i:=1) (Joins.block_setCell (i:=0) h a) b
 simpa using this):P:=h
theorem MbL(h:P:=by
 rcases List.mem_cons.1 h with rfl|h
 ·exact .inl rfl
 ·exact .inr h):P:=h
theorem MbM(h:P:=by
 subst cz
 exact hy.wpOp hi trivial ⟨by rw[getD_set_ne false kr];exact hS,H⟩):P:=h
theorem MbN(h:P:=by
 obtain⟨h1,h2⟩:=zon g l k x h
 exact⟨List.mem_cons_of_mem _ h1,h2⟩):P:=h
theorem MbO(h:P:=by
 rw[if_pos rfl]
 exact⟨fun o h=>by(cases h),fun _=>zf6 Mcp⟩):P:=h
theorem MbP(h:P:=by
 show _<=((Sort.mapBlock _ _ _).heap++os).size
 simp[Sort.mapBlock,Sort.ahead]):P:=h
theorem MbQ(h:P:=by
 unfold WldC at hC;rw[hC]at hx
 simp at hx):P:=h
theorem MbR(h:P:=by
 clear xs0 xd0 xr0 s0 s1 s2 s3 s4 s5 s6 d0 d1 d2 d3 d4 d5 d6 r0 r1 r2 r3 r4 r5 r6 rf ls ld lr;obtain⟨⟨xs0,xd0,xr0⟩,⟨s0,s1,s2,s3,s4,s5,s6⟩,⟨d0,d1,d2,d3,d4,d5,d6⟩,⟨r0,r1,r2,r3,r4,r5,r6⟩,rf,ls,ld,lr⟩:=ddF (aw.out _ (be))
 exact Mg):P:=h
theorem MbS(h:P:=by
 have d1:wq.cell? ⟨w.heap.size,1,none⟩=some (.int .i64 dy):=McQ;have d2:wq.cell? ⟨w.heap.size,2,none⟩=some (.string pl):=McQ;have d3:wq.cell? ⟨w.heap.size,3,none⟩=some (.string fr):=McQ;have d4:wq.cell? ⟨w.heap.size,4,none⟩=some (.slice B ts.length c):=McQ;have d5:wq.cell? ⟨w.heap.size,5,none⟩=some (.int .i64 cl):=McQ;have d6:wq.cell? ⟨w.heap.size,6,none⟩=some (.int .i64 yr):=McQ;clear hW hB hK h0 gA fN cB;refine NxM hK (fun hHeld=>?_) (⟨d0,d1,d2,d3,d4,d5,d6⟩);clear hK K;refine OnH 5 fun K hK=>?_
 go_simp
 refine NxM hK (fun hHeld=>?_) (⟨d0,d1,d2,d3,d4,d5,d6⟩);clear hK K;refine wpAnyH_done Mcn ?_ _;clear d0 d2 d3 d4 d5 d6 d1;go_upto_region 18 with fail
 exact Md):P:=h
theorem MbT(h:P:=by
 refine NxM hK fun hHeld=>?_
 clear hK K;refine OnM 14 true fun K hK=>?_
 refine zal (v:=.slice A5 (a+[x].length) c5) (n:=a+[x].length) (m:=xs.length-a) rfl _ _ rfl zbM zaD zbL rfl (xs:=xs.take a++[x]) (ys:=xs.drop a) g1 Mej rfl (lB.out) (pB.out w5 aq) McK McO (by have:=aq.size;omega) ?_;intro v6 w6 k1 k2 k3;have aG:Below wr.heap.size wr w6:=Below.grown aq k2 aq.size (fun j hj=>(g1.ge j hj).1);refine NxM hK fun hHeld=>?_
 clear hK K;refine OnM 15 true fun K hK=>?_
 go_simp
 refine NxM hK fun hHeld=>?_
 clear hK K;refine zaI Mcn ?_ _;clear hHeld;have K1:=Lib.hid k1;have cI:=Lib.hid aG;clear k1 k2 k3 aG aq g1 g2 g3;go_wp2_with fail
 go_round
 case rel=>exact⟨k+1,am.out,by go_num,by rw[aH.out];exact K1.out.base_le Mcm,HB.out.trans (cI.out.mono Mcm)⟩
 case measure=>have:=am.out;simp only[intOf];omega):P:=h
theorem MbU(h:P:=by
 refine NxM hK (fun hHeld=>?_) (.inr (bT.out _ aD));clear hK K;refine OnM 10 true fun K hK=>?_
 refine zal (v:=.slice V4 a c4) (n:=a) (m:=1) rfl _ _ rfl zbM zaD zbL rfl (xs:=xs.take a) (ys:=[x]) (h1) eL.out rfl rfl (zga n2) Mcw McM Mdw ?_;intro v5 w5 g1 g2 g3;obtain⟨A5,c5,cH,_,_⟩:=g1.sl zaD;rw[List.length_append,eL.out]at cH;subst cH;have aq:Below wr.heap.size wr w5:=Below.grown aD g2 (by have:=(aD).size;omega) (fun j hj=>((h1).ge j hj).1);refine NxM hK fun hHeld=>?_
 clear hK K;refine OnM 14 true fun K hK=>?_
 refine zal (v:=.slice A5 (a+[x].length) c5) (n:=a+[x].length) (m:=0) rfl _ _ rfl zbM zaD zbL rfl (xs:=xs.take a++[x]) (ys:=xs.drop a) g1 Mej rfl (by rw[<-lB.out];omega) (pB.out _ w5 aq) McK McO (by have:=aq.size;omega) ?_
 exact Mi):P:=h
theorem MbV(h:P:=by
 have HR:Hid (R=false):=by(show _=_;rw[hR];rfl)
 exact Mf):P:=h
theorem MbW(h:P:=by
 have HR:Hid (R=false):=by(show _=_;rw[hR];simp[zae, *])
 exact Mf):P:=h
theorem MbX(h:P:=by
 have y2:ot.toList.isEmpty=true:=z2;have w2:ot.toList=[]:=Meg;cases z3:noB pl
 ·exact Mcl
 ·have y3:pl.toList.isEmpty=true:=z3;have w3:pl.toList=[]:=Meh
  exact Mcj):P:=h
theorem MbY(h:P:=by
 go_wp2_with (go_at_call 63
              go_must(refine(dU.out _ (zap W0 zq)).mono ?_)
              rintro e w5 ⟨a0,a1,a2,a3,a4,a5,a6,rfl,aV,aq,aj⟩;obtain⟨⟨_,_,_,rfl⟩,⟨_,_,_,rfl⟩,⟨_,_,_,rfl⟩,⟨_,_,_,rfl⟩,⟨_,_,_,rfl⟩,⟨_,_,_,rfl⟩,⟨_,_,_,rfl⟩⟩:=zc0 aV;have aq:=(zap W0 zq).trans (aq.mono (zap W0 zq).size);have bl:=Lib.hid aq;have aH:=Lib.hid aj;obtain⟨_,_,xr5⟩:=aw.out w5 aq;obtain⟨t0,t1,t2,t3,t4,t5,t6⟩:=zaG xr5;have tf:=frz xr5
              clear aq aj aV)
 exact Mw):P:=h
theorem MbZ(h:P:=by
 refine NxM hK (fun hHeld=>?_) (ax.out _ FR3);clear hK K;refine OnM 27 false fun K hK=>?_
 refine zal (v:=.slice QA pz.length qc) (n:=pz.length) (m:=1) rfl _ _ rfl zbM zaD zbL rfl (xs:=pz) (ys:=[fr]) (ob3.keep (n:=w3.heap.size) Bw) rfl rfl rfl (zd4 (x2)) McL Mcm (by have:=HW.out.lt;(try simp);omega) ?_
 exact Ma):P:=h
theorem Mb0(h:P:=by
 have HR:Hid (R=true):=by(show _=_;rw[hR];simp[zae, *])
 exact Mf):P:=h
theorem Mb1(h:P:=by
 have y2:ot.toList.isEmpty=false:=z2;have w2:¬ot.toList=[]:=Meg
 exact Mh):P:=h
theorem Mb2(h:P:=by
 rcases List.mem_append.1 hy with hy|hy
 ·exact((uI.out y hy).keep eH.out).kept (zar _ _ _ _) mz
 ·rw[List.mem_singleton.1 hy]
  exact .inr ⟨(vp.out.keep eH.out).kept (zar _ _ _ _) mz Mco,(lK.out.ro').kept (zar _ _ _ _) mz Mco⟩):P:=h
theorem Mb3(h:P:=by
 rw[List.drop_eq_nil_of_le Mcm]at hx;have HX:=Lib.hid hx;clear hx dI ay ky;have jB:¬(k:Int)<(ps.length:Int):=Mcm;go_wp2_with fail
 all_goals go_ret
 all_goals exact Ret.of (zaO (by rw[HX.out];first|(simp[zcn,zgU, *];done)|(simp[zcn,zgU, *];omega))) Bw):P:=h
theorem Mb4(h:P:=by
 have w2:¬fr.toList=[]:=by simpa using(show fr.toList.isEmpty=false from z2)
 cases ye:zaS fr
 ·have gT:zcT fr=false:=by rw[<-zcM,ye]
  exact Mr
 ·have gT:zcT fr=true:=by rw[<-zcM,ye]
  exact Mr):P:=h
theorem Mb5(h:P:=by
 refine NxM hK (fun hHeld=>?_) (.inr (ax.out _ aD));clear hK K;have o9:=h1;have n9:=n2;have e9:=aD
 exact Mk):P:=h
theorem Mb6(h:P:=by
 refine NxM hK (fun hHeld=>?_) (.inr (ax.out _ aD));clear hK K;have o9:=h1;have n9:=n2;have e9:=aD
 exact Mn):P:=h
theorem Mb7(h:P:=by
 refine NxM hK (fun hHeld=>?_) (.inr (ax.out _ aD));clear hK K;have o9:=h1;have n9:=n2;have e9:=aD
 exact Mo):P:=h
theorem Mb8(h:P:=by
 refine NxM hK (fun hHeld=>?_) (.inr (ax.out _ aD));clear hK K;have o9:=h1;have n9:=n2;have e9:=aD
 exact Mp):P:=h
theorem Mb9(h:P:=by
 refine NxM hK (fun hHeld=>?_) (.inr (ax.out _ aD));clear hK K;have o9:=h1;have n9:=n2;have e9:=aD
 exact Mq):P:=h
theorem Mca(h:P:=by
 go_wp2_with fail
 go_loop [5,8] (fun a b=>b=.int .i64 0) (fun _ _=>0)
 case atStart=>rfl
 case round=>
  obtain rfl:=hrel
  exact MaF):P:=h
theorem Mcb(h:P:=by
 refine zaZ rfl _ _ w.heap.size _ _ rfl ?_ ?_<;>simp[go_sem]):P:=h
theorem Mcc(h:P:=by
 have y3:pl.toList.isEmpty=true:=z3;have w3:pl.toList=[]:=Meh
 exact Mh):P:=h
theorem Mcd(h:P:=by
 have:=zgH (wr.drew.alloc (.cells #[.string x] 9)) wr.heap.size Mcp
 simpa using this):P:=h
theorem Mce(h:P:=by
 go_wp2_with (go_at_call 192;refine(qD.out _).mono ?_;rintro e wq ⟨rfl,rfl⟩)
 exact My):P:=h
theorem Mcf(h:P:=by
 have w2:fr.toList=[]:=by simpa using(show fr.toList.isEmpty=true from z2)
 exact Mr):P:=h
theorem Mcg(h:P:=by
 obtain rfl:k=m:=by omega
 have br:¬(k:Int)<(k:Int):=Mcm
 exact MaF):P:=h
theorem Mch(h:P:=by
 refine NxM hK (fun hHeld=>?_) (.inr (bT.out _ aD));clear hK K;refine OnM 10 true fun K hK=>?_
 refine zal (v:=.slice V4 a c4) (n:=a) (m:=1) rfl _ _ rfl zbM zaD zbL rfl (xs:=xs.take a) (ys:=[x]) (h1) eL.out rfl rfl (zga n2) Mcw McM Mdw ?_;intro v5 w5 g1 g2 g3;obtain⟨A5,c5,cH,_,_⟩:=g1.sl zaD;rw[List.length_append,eL.out]at cH;subst cH;have aq:Below wr.heap.size wr w5:=Below.grown aD g2 (by have:=(aD).size;omega) (fun j hj=>((h1).ge j hj).1)
 exact MbT):P:=h
theorem Mci(h:P:=by
 rw[aT]at hr;rw[ziY aT]at eu;have HE:Hid (R=(s,6)):=Lib.hid hr;clear hr aT;go_upto_region 3 with(go_at_call 138;go_must(refine(eu.out _ (Below.refl _ _)).mono ?_);rintro e wq ⟨rfl,z,rfl⟩)
 have be:=zap W0 z
 exact MbR):P:=h
theorem Mcj(h:P:=by
 by_cases t1:tl=0
 ·skip
  by_cases u1:nu=0
  ·skip
   by_cases u2:de=0
   ·skip
    exact Mh
   ·skip
    exact Mh
  ·skip
   exact Mh
 ·skip
  exact Mh):P:=h
theorem Mck(h:P:=by
 have HE:Hid (R=(s,28)):=Mec;rw[bY]at ig;clear hr bY;go_upto_region 17 with(go_at_call 111;go_must(refine(ig.out).mono ?_);rintro e wq ⟨rfl,z,rfl⟩)
 have be:=zap W0 z
 exact MbR):P:=h
theorem Mcl(h:P:=by
 have y3:pl.toList.isEmpty=false:=z3;have w3:¬pl.toList=[]:=Meh
 exact Mh):P:=h
theorem Mcm(h:P:=by omega):P:=h
theorem Mcn(h:P:=by kernel_rfl):P:=h
theorem Mco(h:P:=by decide):P:=h
theorem Mcp(h:P:=by simp):P:=h
theorem Mcq(h:P:=by simp[World.cell?,g0]):P:=h
theorem Mcr(h:P:=by simp;omega):P:=h
theorem Mcs(h:P:=by simp[World.cell?,g1]):P:=h
theorem Mct(h:P:=by
 have:=(e1).size;first|omega|(simp at this⊢;done)|(simp at this⊢;omega)):P:=h
theorem Mcu(h:P:=by have:=tH.out;simp only[maxLen];omega):P:=h
theorem Mcv(h:P:=by simp[zaf];omega):P:=h
theorem Mcw(h:P:=by have:=eZ.out;have:=HA.out;simp only[maxLen];omega):P:=h
theorem Mcx(h:P:=by
 have:=(e0).size;first|omega|(simp at this⊢;done)|(simp at this⊢;omega)):P:=h
theorem Mcy(h:P:=by have:=(List.getElem?_eq_some_iff.1 hy).1;simp at this;omega):P:=h
theorem Mcz(h:P:=by simp[World.frozen?,g0]):P:=h
theorem McA(h:P:=by simp[World.frozen?,g1]):P:=h
theorem McB(h:P:=by
 repeat(first|exact Two2.refl2 _ _ _|assumption|with_reducible refine Two2.alloc ?_ _|with_reducible refine Two2.drew ?_|with_reducible refine Two2.ext ?_ _)):P:=h
theorem McC(h:P:=by
 first|omega|(simp;done)|(simp;omega)):P:=h
theorem McD(h:P:=by
 first|(simp;done)|(simp;omega)):P:=h
theorem McE(h:P:=by rw[<-HR.out];simp only[zdi,ng.out, *,Bool.not_true,Bool.not_false,Bool.or_self,Bool.or_true,Bool.true_or,Bool.false_or,Bool.or_false,if_true,if_false,Bool.false_eq_true,ite_true,ite_false,decide_false];done):P:=h
theorem McF(h:P:=by have:=tH.out;omega):P:=h
theorem McG(h:P:=by grind):P:=h
theorem McH(h:P:=by rw[IntKind.wrap_i64];rw[Int.tmod_eq_emod_of_nonneg h0];omega):P:=h
theorem McI(h:P:=by have:=(e1).size;omega):P:=h
theorem McJ(h:P:=by
 have:=e9.size;first|omega|(simp at this⊢;done)|(simp at this⊢;omega)):P:=h
theorem McK(h:P:=by
 first|(have:=eZ.out;have:=HA.out;simp only[maxLen,List.length_singleton];omega)|exact Nat.le_of_ble_eq_true rfl):P:=h
theorem McL(h:P:=by simp[maxLen];omega):P:=h
theorem McM(h:P:=by have:=eZ.out;have:=HA.out;omega):P:=h
theorem McN(h:P:=by rw[Int.tmod_eq_emod_of_nonneg h0];unfold wrap64;omega):P:=h
theorem McO(h:P:=by
 first|(have:=eZ.out;have:=HA.out;simp only[List.length_singleton];omega)|exact Nat.le_of_ble_eq_true rfl):P:=h
theorem McP(h:P:=by simpa using h1):P:=h
theorem McQ(h:P:=by simp only[World.cell?,h0];rfl):P:=h
theorem McR(h:P:=by simp[go_sem]):P:=h
theorem McS(h:P:=by simp only[maxLen];omega):P:=h
theorem McT(h:P:=by have:=ah 0 _ rfl;simpa using this):P:=h
theorem McU(h:P:=by have:=N2.out.size;simp[zaf]at this;omega):P:=h
theorem McV(h:P:=by have:=eZ.out;simp[maxLen];omega):P:=h
theorem McW(h:P:=by rw[ao];exact Bw):P:=h
theorem McX(h:P:=by simp[hp]):P:=h
theorem McY(h:P:=by rw[zbc n2 (by simp[zaf];omega) (by omega)];simp[go_sem]):P:=h
theorem McZ(h:P:=by rw[IntKind.wrap_i64];omega):P:=h
theorem Mc0(h:P:=by intro j hj;simp[za7]at hj;omega):P:=h
theorem Mc1(h:P:=by
 repeat(first|exact zas _ _ _ (by simp)|refine zak ?_)):P:=h
theorem Mc2(h:P:=by assumption):P:=h
theorem Mc3(h:P:=by have:=eZ.out;omega):P:=h
theorem Mc4(h:P:=by rw[zet,List.length_take];congr 1;omega):P:=h
theorem Mc5(h:P:=by
 rw[<-HR.out];first|(simp[zdi, *];done)|(simp[zdi, *];omega)):P:=h
theorem Mc6(h:P:=by rw[List.length_take];omega):P:=h
theorem Mc7(h:P:=by intro k hk;simp[Value.ownBlock]at hk;omega):P:=h
theorem Mc8(h:P:=by simpa using h):P:=h
theorem Mc9(h:P:=by unfold zbz at cq;simp only[World.cell?,cq];rfl):P:=h
theorem Mda(h:P:=by rw[aI];exact zak (zas _ _ _ rfl)):P:=h
theorem Mdb(h:P:=by rw[aI];exact zap _ _):P:=h
theorem Mdc(h:P:=by
 first|(simp[Act.eval,Act.put];done)|(simp[Act.eval,Act.put];rfl)):P:=h
theorem Mdd(h:P:=by rw[<-List.flatMap_append,List.take_append_drop]):P:=h
theorem Mde(h:P:=by rw[List.getD_eq_getElem?_getD,List.getElem?_eq_getElem aa];rfl):P:=h
theorem Mdf(h:P:=by simp[za7]):P:=h
theorem Mdg(h:P:=by simpa using h0):P:=h
theorem Mdh(h:P:=by have:=ak.out;exact Bw):P:=h
theorem Mdi(h:P:=by rw[ao];exact zas _ _ _ rfl):P:=h
theorem Mdj(h:P:=by rw[List.length_append];have:=rl.out;simp at this⊢;omega):P:=h
theorem Mdk(h:P:=by simp[zaf]):P:=h
theorem Mdl(h:P:=by simp[hq]):P:=h
theorem Mdm(h:P:=by simp only[World.cell?,G1.out,zbu];rfl):P:=h
theorem Mdn(h:P:=by rw[ao];exact zak (zas _ _ _ rfl)):P:=h
theorem Mdo(h:P:=by rw[hV];exact zac (Below.refl _ _) _):P:=h
theorem Mdp(h:P:=by dsimp only;omega):P:=h
theorem Mdq(h:P:=by have:=(e0).size;omega):P:=h
theorem Mdr(h:P:=by
 repeat(first|exact TQ.out|refine zbv ?_|refine J_drew ?_|refine zak ?_)):P:=h
theorem Mds(h:P:=by rw[ao];exact zak (zak (zas _ _ _ rfl))):P:=h
theorem Mdt(h:P:=by
 simp only[Nat.min_def];split<;>omega):P:=h
theorem Mdu(h:P:=by simp only[World.cell?,yL',zbu];rfl):P:=h
theorem Mdv(h:P:=by rw[hV];exact zas _ _ _ rfl):P:=h
theorem Mdw(h:P:=by
 have:=(aD).size;first|omega|(simp at this⊢;done)|(simp at this⊢;omega)):P:=h
theorem Mdx(h:P:=by simpa using hc):P:=h
theorem Mdy(h:P:=by simpa using hz):P:=h
theorem Mdz(h:P:=by rw[aI];exact Bw):P:=h
theorem MdA(h:P:=by have:=aB.out;exact Bw):P:=h
theorem MdB(h:P:=by rw[zbc n2 (by simp[zaf];omega) (by omega)];simp[go_sem,y1,y3]):P:=h
theorem MdC(h:P:=by have:=hc 0 _ rfl;simpa using this):P:=h
theorem MdD(h:P:=by rw[za2];exact hm):P:=h
theorem MdE(h:P:=by show Below _ _ _;rw[cE];exact zac aU _):P:=h
theorem MdF(h:P:=by show decide ((0:Int)<=upto)=true;simp;omega):P:=h
theorem MdG(h:P:=by simp[za7];omega):P:=h
theorem MdH(h:P:=by have:=aG.size;omega):P:=h
theorem MdI(h:P:=by
 first|rfl|simp[zaf]):P:=h
theorem MdJ(h:P:=by show _=_;rw[av.out];rfl):P:=h
theorem MdK(h:P:=by have:=ur 0 (.string pn) rfl;rw[Nat.zero_mul]at this;exact this):P:=h
theorem MdL(h:P:=by rw[nC];exact zaL (HB.out.trans (jY.out.mono aE)) Ao _):P:=h
theorem MdM(h:P:=by have:=(List.getElem?_eq_some_iff.1 hi).1;have:=hT.len;omega):P:=h
theorem MdN(h:P:=by simpa using e):P:=h
theorem MdO(h:P:=by show _=_;rw[cD.out,aQ];rfl):P:=h
theorem MdP(h:P:=by simp[zb1,hz,hq]):P:=h
theorem MdQ(h:P:=by have:=S2.out;omega):P:=h
theorem MdR(h:P:=by simp only;omega):P:=h
theorem MdS(h:P:=by simpa using hce):P:=h
theorem MdT(h:P:=by show _=_;rw[HR.out];simp[zcr,p1,p2,isDay0,inR34, *]):P:=h
theorem MdU(h:P:=by have:=eZ.out;simp only[maxLen];omega):P:=h
theorem MdV(h:P:=by rw[<-HM.out,List.length_map];exact hi):P:=h
theorem MdW(h:P:=by simpa[HM.out]using h1):P:=h
theorem MdX(h:P:=by simp at dW;omega):P:=h
theorem MdY(h:P:=by simp[Sort.mapBlock,Sort.ahead];omega):P:=h
theorem MdZ(h:P:=by rw[HF.out];simp[zhp, *]):P:=h
theorem Md0(h:P:=by simp[Act.eval,Act.put];rfl):P:=h
theorem Md1(h:P:=by simp only[World.cell?,eA.out];rfl):P:=h
theorem Md2(h:P:=by show _=_;rw[aj];simp[hs]):P:=h
theorem Md3(h:P:=by rw[bs];exact hi):P:=h
theorem Md4(h:P:=by have:=cd 0 _ rfl;simpa using this):P:=h
theorem Md5(h:P:=by simp only[World.cell?,G0.out];rfl):P:=h
theorem Md6(h:P:=by simp only[World.size_alloc];omega):P:=h
theorem Md7(h:P:=by show _=_;rw[hx];rfl):P:=h
theorem Md8(h:P:=by have:=e9.size;omega):P:=h
theorem Md9(h:P:=by have:=aW.out.size;omega):P:=h
theorem Mea(h:P:=by simpa using jb):P:=h
theorem Meb(h:P:=by rw[zan];omega):P:=h
theorem Mec(h:P:=by show _=_;rw[hr,bY];rfl):P:=h
theorem Med(h:P:=by rw[zet,List.length_drop]):P:=h
theorem Mee(h:P:=by simpa using h2):P:=h
theorem Mef(h:P:=by
 rw[zbE];exact hc):P:=h
theorem Meg(h:P:=by simpa using y2):P:=h
theorem Meh(h:P:=by simpa using y3):P:=h
theorem Mei(h:P:=by show _=_;rw[hR,List.drop_zero]):P:=h
theorem Mej(h:P:=by rw[List.length_append,eL.out]):P:=h
theorem Mek(h:P:=by simp[World.frozen?,g2]):P:=h
theorem Mel(h:P:=by rw[beq_eq_false_iff_ne];omega):P:=h
theorem Mem(h:P:=by simp only[World.cell?,t1];rfl):P:=h
theorem Men(h:P:=by rw[cE];exact zas _ _ _ rfl):P:=h
theorem Meo(h:P:=by simp[World.cell?,h1]):P:=h
theorem Mep(h:P:=by simp[World.cell?,g2]):P:=h
theorem Meq(h:P:=by rw[oy];exact zap _ _):P:=h
theorem Mer(h:P:=by simpa using gC):P:=h
theorem Mes(h:P:=by rw[h]at hr;cases hr):P:=h
theorem Met(h:P:=by have:=hf.dead;omega):P:=h
theorem Meu(h:P:=by simpa using hj):P:=h
theorem Mev(h:P:=by simpa using hb):P:=h
theorem Mew(h:P:=by simp[DV.cells]):P:=h
theorem Mex(h:P:=by simp[go_sem,e6,hh]):P:=h
theorem Mey(h:P:=by simpa using k):P:=h
