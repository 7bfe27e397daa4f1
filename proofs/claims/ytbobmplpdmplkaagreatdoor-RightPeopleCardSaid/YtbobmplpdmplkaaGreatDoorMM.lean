import Derived.WalkLawsBesides
import Derived.WalkSpells
import Derived.BigQuiet
import Derived.Lib.Hide
import Derived.Deep.CutBlock
namespace Go.Proofs.YtbobmplpdmplkaaGreatDoor
variable {P:Prop}
theorem Ma(h:P:=by
 intro v4 w4 g1 g2 g3;obtain⟨A7,c7,kA,_,_⟩:=g1.sl za9;rw[List.length_append]at kA;subst kA;have FR4:Fr2 w w4 (.slice KA ks.length kc) (.slice QA pz.length qc):=(FR3.below Bw).row g2 (fun j hj=> .inr (.inl hj));have dB:∀g,za5 (.slice A6 (ks.length+[q.name].length) c6)=some g->za5 (.slice QA pz.length qc)≠some g:=fun g e1 e2=>by
  rcases h3 g e1 with h|h
  ·exact fw.out g h e2
  ·have:=(dj.out.ge g e2).2;omega
 have oa4:OwnS w4 base 9 1 sC (.slice A6 (ks.length+[q.name].length) c6) (ks++[q.name]):=(h1.keep (n:=w3.heap.size) Bw).grown g2 (by
  cases hb:za5 (.slice A6 (ks.length+[q.name].length) c6)with
  |none=>exact .inl rfl
  |some g=>exact .inr fun e=>dB g hb e.symm)
 have s4:=g2.size;(try simp only[World.size_alloc,World.size_drew]at s4 g3)
 have b1:∀g,za5 (.slice A6 (ks.length+[q.name].length) c6)=some g->za5 (.slice KA ks.length kc)=some g\/w.heap.size<=g:=fun g e=>by
  rcases h3 g e with h|h
  ·exact .inl h
  ·right;omega
 have b2:∀g,za5 (.slice A7 (pz.length+[fr].length) c7)=some g->za5 (.slice QA pz.length qc)=some g\/w.heap.size<=g:=fun g e=>by
  rcases g3 g e with h|h
  ·exact .inl h
  ·right;omega
 have b12:∀g,za5 (.slice A6 (ks.length+[q.name].length) c6)=some g->za5 (.slice A7 (pz.length+[fr].length) c7)≠some g:=fun g e1 e2=>by
  rcases g3 g e2 with h|h
  ·exact dB g e1 h
  ·have:=(h1.ge g e1).2;omega
 refine NxM hK (fun hHeld=>?_) (aE.out _ FR4);clear hK K;refine OnM 28 true fun K hK=>?_
 obtain⟨w5,x5,st5,m5,j5,eZ,jN,pY,nI,nF,DJ⟩:=zgd zjl (FR4.mapS da.out dj.out gJ.out) fr;refine zhc rfl _ _ rfl _ _ _ rfl rfl w5 eZ ?_;refine NxM hK fun hHeld=>?_
 clear hK K;refine OnM 29 true fun K hK=>?_
 go_simp
 refine NxM hK fun hHeld=>?_
 clear hK K;refine OnM 30 true fun K hK=>?_
 obtain⟨w6,eC,iI,bC,GU⟩:=zdK (P:=Tryz.prog) jN nI 85 (.slice A6 (ks.length+[q.name].length) c6);refine zfR rfl _ _ _ rfl _ _ _ rfl rfl rfl w6 eC ?_;rw[pY]at iI;refine NxM hK fun hHeld=>?_
 clear hK K;refine OnM 31 true fun K hK=>?_
 have mw:cc≠pp:=by
  have:=HP.out.nd;simp only[List.nodup_cons,List.mem_cons,List.not_mem_nil,or_false,not_or]at this;exact this.2.1.1
 have xD:MapS w6 pp ekS (fun v:Value=>v) mp:=((FR4.mapS da.out dj.out bF.out).grown nF (by simpa using fun e=>mw e.symm)).grown bC (by simpa using fun e=>mw e.symm);obtain⟨w7,x7,st7,m7,j7,xV,kv,pZ,FU,nG,GW⟩:=zgd zjl xD q.name;refine zhc rfl _ _ rfl _ _ _ rfl rfl w7 xV ?_;refine NxM hK fun hHeld=>?_
 clear hK K;refine OnM 32 true fun K hK=>?_
 go_simp
 refine NxM hK fun hHeld=>?_
 clear hK K;refine OnM 33 true fun K hK=>?_
 obtain⟨w8,Gq,A8,tR,hz8⟩:=zdK (P:=Tryz.prog) kv FU 85 (.slice A7 (pz.length+[fr].length) c7);refine zfR rfl _ _ _ rfl _ _ _ rfl rfl rfl w8 Gq ?_;rw[pZ]at A8;refine NxM hK fun hHeld=>?_
 clear hK K;refine zaM Mcz ?_ _;have xz:=(iI.grown nG (by simpa using mw)).grown tR (by simpa using mw);have CX:∀k,k<w4.heap.size->k≠cc->k≠pp->w8.heap[k]?=w4.heap[k]?:=fun k hk e1 e2=>
  (((tR.block k Mcy (by simpa using e2)).trans (nG.block k Mcy (by simpa using e2))).trans (bC.block k Mcy (by simpa using e1))).trans (nF.block k hk (by simpa using e1))
 have wD:=zbl (FR4.mapS da.out dj.out gJ.out);have xR:=zbl (FR4.mapS da.out dj.out bF.out);have jl:∀(g:Nat) (cur:Array Value),w4.heap[g]?=some (.cells cur 9 (0,0))->w8.heap[g]?=w4.heap[g]?:=fun g cur hg=>by
  obtain⟨es1,x1,jO⟩:=wD;obtain⟨es2,x2,eE⟩:=xR;exact CX g (zab hg) (fun e=>by subst e;rw[jO]at hg;simp at hg) (fun e=>by subst e;rw[eE]at hg;simp at hg)
 have oa8:=oa4.same (W':=w8) (fun g cur _ hg=>jl g cur hg);have ob8:=g1.same (W':=w8) (fun g cur _ hg=>jl g cur hg);have zr:∀k,k<w.heap.size->k≠cc->k≠pp->za5 (.slice KA ks.length kc)≠some k->za5 (.slice QA pz.length qc)≠some k->w8.heap[k]?=w.heap[k]?:=fun k hk e1 e2 e3 e4=>
  (CX k (by have:=FR4.size;omega) e1 e2).trans (FR4.block k hk e3 e4)
 have tL:=wld_child ba HC.out HP.out HT.out gJ.out bF.out iY.out Iz.out fA.out pj.out (by rw[fg.out];exact da.out) kI.out (by rw[kP.out];exact dj.out) gH.out (by rw[fg.out];exact oa8) (by rw[kP.out];exact ob8) b1 b2 b12 xz A8 zr;have eT:=HP.out.ge;have ny:Below base w w8:=⟨tR.os.trans (nG.os.trans (bC.os.trans (nF.os.trans FR4.os))),tR.tape.trans (nG.tape.trans (bC.tape.trans (nF.tape.trans FR4.tape))),tR.output.trans (nG.output.trans (bC.output.trans (nF.output.trans FR4.output))),by have:=FR4.size;omega,fun k hk=>zr k (by have:=HW.out.lt;omega) Mcy Mcy (fun e=>by have:=(da.out.ge k e).1;omega) (fun e=>by have:=(dj.out.ge k e).1;omega)⟩
 have F5:KeepD w w8:=fun k cur f hk=>zr k (zab hk) (fun e=>by obtain⟨_,_,hx⟩:=zbl gJ.out;rw[e,hx]at hk;simp at hk) (fun e=>by obtain⟨_,_,hx⟩:=zbl bF.out;rw[e,hx]at hk;simp at hk)
  (fun e=>by obtain⟨_,hx⟩:=zdO da.out e;have:=Option.some.inj (hx.symm.trans hk);simp only[Obj.cells.injEq]at this;exact absurd this.2.1 McA)
  (fun e=>by obtain⟨_,hx⟩:=zdO dj.out e;have:=Option.some.inj (hx.symm.trans hk);simp only[Obj.cells.injEq]at this;exact absurd this.2.1 McA)
 have jT:=Lib.hid F5;have IP:=Lib.hid tL;have kE:=Lib.hid ny;clear F5 tL ny zr CX jl oa8 ob8 wD xR xz A8 tR Gq kv pZ FU nG xV xD iI bC eC jN pY nI nF eZ b1 b2 b12 oa4 dB FR4 g1 g2 g3 ob3 FR3 h1 h2 h3;go_wp2_with fail
 go_ret
 have hX:=iZ.out;simp only[Bool.false_eq_true,if_false]at hX;rw[if_neg (by simpa using H2.out)]at hX;rw[hX]
 exact⟨rfl,IP.out,kE.out,jT.out⟩):P:=h
theorem Mb(h:P:=by
 clear eA dj;go_upto_region 9 with fail
 have i1:=bY.out wr (Below.refl _ _);refine zaB 10 (fun bb w'=>bb=true\/w'.cell? ⟨b,off+k,none⟩=some (.string x)) Mcz (.inr (bY.out _ (zaK (Below.refl _ _)))) ?hrest
 case hrest=>
  intro hHeld;refine TkM 5 ?_;refine TkM 6 ?_;refine TkM 7 ?_;refine TkM 8 ?_;refine TkM 1 ?_;refine TkM 2 ?_;refine TkM 3 ?_;refine FrM 11 false ?_;refine FrM 12 false ?_;refine FrM 13 false ?_;refine TwM 0 9 (fun K hK=>?_) fun K hK=>?_
  ·go_simp
   have e0:Below wr.heap.size wr (wr.drew.alloc (.cells #[] 9)):=zad (zaK (Below.refl _ _)) _;refine NxM hK (fun hHeld=>?_) (.inr (bY.out _ e0));clear hK K;refine TwM 4 9 (fun K hK=>?_) fun K hK=>?_
   ·refine zak (v:=.slice (some ⟨wr.heap.size,0,none⟩) 0 0) (n:=0) (m:=a) rfl _ _ rfl zbB za9 zbA rfl (xs:=[]) (ys:=xs.take a) (zg9 wr.drew wr.heap.size (Nat.le_refl _)) rfl rfl (eK.out.symm) (qK.out _ e0) McI McX McJ ?_;intro v4 w4 h1 h2 h3;rw[List.nil_append]at h1;obtain⟨V4,c4,aX,_,_⟩:=h1.sl za9;rw[eK.out]at aX;subst aX;have aC:Below wr.heap.size wr w4:=Below.grown e0 h2 Mdv (fun j hj=>by simp[za5]at hj;omega);refine NxM hK (fun hHeld=>?_) (.inr (bY.out _ aC));clear hK K;refine OnM 9 false fun K hK=>?_
    go_simp
    have e1:Below wr.heap.size wr (w4.alloc (.cells #[.string x] 9)):=zad aC _;have n1:(w4.alloc (.cells #[.string x] 9)).heap[w4.heap.size]?=some (.cells #[.string x] 9):=zar _ _ _ rfl;have o1:OwnS (w4.alloc (.cells #[.string x] 9)) wr.heap.size 9 1 sC (.slice V4 a c4) (xs.take a):=h1.keep (n:=w4.heap.size) (zad (Below.refl _ _) _);refine NxM hK (fun hHeld=>?_) (.inr (bY.out _ e1));clear hK K;refine OnM 10 true fun K hK=>?_
    refine zak (v:=.slice V4 a c4) (n:=a) (m:=1) rfl _ _ rfl zbB za9 zbA rfl (xs:=xs.take a) (ys:=[x]) (o1) eK.out rfl rfl (zfQ n1) McI McX McF ?_;intro v5 w5 g1 g2 g3;obtain⟨A5,c5,dY,_,_⟩:=g1.sl za9;rw[List.length_append,eK.out]at dY;subst dY;have ao:Below wr.heap.size wr w5:=Below.grown e1 g2 McU (fun j hj=>((o1).ge j hj).1);exact Mb3
   ·go_simp
    have e1:Below wr.heap.size wr ((wr.drew.alloc (.cells #[] 9)).alloc (.cells #[.string x] 9)):=zad e0 _;have n1:((wr.drew.alloc (.cells #[] 9)).alloc (.cells #[.string x] 9)).heap[wr.heap.size+1]?=some (.cells #[.string x] 9):=zar _ _ _ McB;have m1:OwnS ((wr.drew.alloc (.cells #[] 9)).alloc (.cells #[.string x] 9)) wr.heap.size 9 1 sC (.slice (some ⟨wr.heap.size,0,none⟩) 0 0) []:=(zg9 wr.drew wr.heap.size (Nat.le_refl _)).keep (n:=(wr.drew.alloc (.cells #[] 9)).heap.size) (zad (Below.refl _ _) _);refine NxM hK (fun hHeld=>?_) (.inr (bY.out _ e1));clear hK K;refine OnM 4 false fun K hK=>?_
    refine zak (v:=.slice (some ⟨wr.heap.size,0,none⟩) 0 0) (n:=0) (m:=a) rfl _ _ rfl zbB za9 zbA rfl (xs:=[]) (ys:=xs.take a) (m1) rfl rfl (eK.out.symm) (qK.out _ e1) McI McX McF ?_;intro v4 w4 h1 h2 h3;rw[List.nil_append]at h1;obtain⟨V4,c4,aX,_,_⟩:=h1.sl za9;rw[eK.out]at aX;subst aX;have aC:Below wr.heap.size wr w4:=Below.grown e1 h2 McU (fun j hj=>by simp[za5]at hj;omega);have n2:w4.heap[wr.heap.size+1]?=some (.cells #[.string x] 9):=(h2.block _ McP Mdn).trans n1;exact Mct
  ·go_simp
   have e0:Below wr.heap.size wr (wr.drew.alloc (.cells #[.string x] 9)):=zad (zaK (Below.refl _ _)) _;have n0:(wr.drew.alloc (.cells #[.string x] 9)).heap[wr.heap.size]?=some (.cells #[.string x] 9):=zar _ _ _ rfl;refine NxM hK (fun hHeld=>?_) (.inr (bY.out _ e0));clear hK K;refine OnM 0 false fun K hK=>?_
   go_simp
   have e1:Below wr.heap.size wr ((wr.drew.alloc (.cells #[.string x] 9)).alloc (.cells #[] 9)):=zad e0 _;have n1:((wr.drew.alloc (.cells #[.string x] 9)).alloc (.cells #[] 9)).heap[wr.heap.size]?=some (.cells #[.string x] 9):=zal n0;refine NxM hK (fun hHeld=>?_) (.inr (bY.out _ e1));clear hK K;refine OnM 4 false fun K hK=>?_
   have m1:OwnS ((wr.drew.alloc (.cells #[.string x] 9)).alloc (.cells #[] 9)) wr.heap.size 9 1 sC (.slice (some ⟨wr.heap.size+1,0,none⟩) 0 0) []:=by
    exact Mcp
   refine zak (v:=.slice (some ⟨wr.heap.size+1,0,none⟩) 0 0) (n:=0) (m:=a) rfl _ _ rfl zbB za9 zbA rfl (xs:=[]) (ys:=xs.take a) (m1) rfl rfl (eK.out.symm) (qK.out _ e1) McI McX McF ?_;intro v4 w4 h1 h2 h3;rw[List.nil_append]at h1;obtain⟨V4,c4,aX,_,_⟩:=h1.sl za9;rw[eK.out]at aX;subst aX;have aC:Below wr.heap.size wr w4:=Below.grown e1 h2 McU (fun j hj=>by simp[za5]at hj;omega);have n2:w4.heap[wr.heap.size]?=some (.cells #[.string x] 9):=(h2.block _ McP Mdn).trans n1
   exact Mct):P:=h
theorem Mc(h:P:=by
 go_simp
 refine hK.out _ _ ?_ (fun hHeld=>?_);focus((try dsimp only);refine⟨?_,?_,?_,?_,?_⟩<;>first|assumption|(simp[go_sem,fD,fE,aV];done)|(simp[go_sem,a0,a1,a2,l5,l6,yp,yL];done)|(simp[go_sem,z0,z1,z2,z5,z6,zx,zy];done))
 clear hK K;try simp only[Act.put,List.setIfInBounds_toArray,List.set_cons_zero,List.set_cons_succ]
 refine OnH 10 fun K hK=>?_
 refine zak (v:=.slice A1 out.length c1) (n:=out.length) (m:=1) rfl _ _ rfl zdN zap zcb rfl (xs:=out) (ys:=[(pn,zbg (pq/lf))]) (YO.out.keep (n:=w5.heap.size) Bw) rfl rfl rfl (sl_part (zar _ _ _ rfl)) McS Mcy McD ?_;intro v6 w6 h1 h2 h3;obtain⟨A6,c6,dA,_,_⟩:=h1.sl zap;rw[List.length_append]at dA;subst dA;have zT:zby w6 W0.heap.size gpl gcl frm gfin (.slice A1 out.length c1) (.slice D gdi.length dc):=(h2.block _ McD (fun e=>zhB YO.out YT.out McA e.symm)).trans (zal YT.out);have z4:w6.cell? ⟨W0.heap.size,4,none⟩=some (.slice A1 out.length c1):=by unfold zby at zT;simp only[World.cell?,zT];rfl
 have f4:w6.frozen? ⟨W0.heap.size,4,none⟩=false:=by unfold zby at zT;simp only[World.frozen?,zT];rfl
 have zL:w6.heap[L]?=some (zbu lf):=(h2.block _ McD (fun e=>zhB YO.out YL.out McA e.symm)).trans (zal YL.out);have z5:w6.cell? ⟨L,0,none⟩=some (.int .i64 lf.num):=by simp only[World.cell?,zL,zbu];rfl
 have z6:w6.cell? ⟨L,1,none⟩=some (.int .i64 lf.den):=by simp only[World.cell?,zL,zbu];rfl
 have zP:w6.heap[wr.heap.size]?=some (.cells #[.string pn,.int .i64 pq.num,.int .i64 pq.den] 71):=(h2.block _ McD (fun e=>by have:=(dR.out.ge _ e.symm).2;omega)).trans (zal Y0.out);obtain⟨z0,z1,z2⟩:=cF3 zP;have zl:=zab zT;have zx:wr.heap.size≠W0.heap.size:=Mcy;have zy:L≠W0.heap.size:=Mcy;have ZT:=Lib.hid zT;have ZL:=Lib.hid zL;have H1:=Lib.hid h1;have H2:=Lib.hid h2;have H3:=Lib.hid h3;clear zT zL zP h1 h2 h3;refine hK.out _ _ ?_ (fun hHeld=>?_);focus((try dsimp only);refine⟨?_,?_,?_,?_,?_⟩<;>first|assumption|(simp[go_sem,fD,fE,aV];done)|(simp[go_sem,a0,a1,a2,l5,l6,yp,yL];done)|(simp[go_sem,z0,z1,z2,z5,z6,zx,zy];done))
 clear hK K;try simp only[Act.put,List.setIfInBounds_toArray,List.set_cons_zero,List.set_cons_succ]
 refine TkH 11 ?_;refine OnH 12 fun K hK=>?_
 go_simp
 refine hK.out _ _ ?_ (fun hHeld=>?_);focus((try dsimp only);refine⟨?_,?_,?_,?_,?_⟩<;>first|assumption|(simp[go_sem,fD,fE,aV];done)|(simp[go_sem,a0,a1,a2,l5,l6,yp,yL];done)|(simp[go_sem,z0,z1,z2,z5,z6,zx,zy];done))
 clear hK K;try simp only[Act.put,List.setIfInBounds_toArray,List.set_cons_zero,List.set_cons_succ]
 refine wpAnyH_done Mcz ?_ _;have L9:za5 (.slice A6 (out.length+[(pn,zbg (pq/lf))].length) c6)≠some W0.heap.size:=fun e=>by
  rcases H3.out _ e with h|h
  ·exact zhB YO.out YT.out McA h
  ·simp at h;omega
 have r1:MarkAt (w6.setCell ⟨W0.heap.size,4,none⟩ (.slice A6 (out.length+[(pn,zbg (pq/lf))].length) c6)) C (fl||bigQ (pq/lf)):=
  J_ne Mcy ((H2.out.block C (by have:=zab N1.out;simp;omega) (fun e=>by have:=(dR.out.ge _ e.symm).1;omega)).trans (zal N1.out))
 have r2:=zgr ZT.out (.slice A6 (out.length+[(pn,zbg (pq/lf))].length) c6);have r3:OwnS (w6.setCell ⟨W0.heap.size,4,none⟩ (.slice A6 (out.length+[(pn,zbg (pq/lf))].length) c6)) W0.heap.size 71 3 zaa (.slice A6 (out.length+[(pn,zbg (pq/lf))].length) c6) (out++[(pn,zbg (pq/lf))]):=H1.out.grown (zav _ _ _ _) (.inr L9);have r4:(w6.setCell ⟨W0.heap.size,4,none⟩ (.slice A6 (out.length+[(pn,zbg (pq/lf))].length) c6)).heap[L]?=some (zbu lf):=J_ne Mcy ZL.out;have r5:Below C W0 w5:=zaQ (W:=(wr.alloc (.cells #[.string pn,.int .i64 pq.num,.int .i64 pq.den] 71)).drew) (zaK (zad sY.out _ Mcy)) N2.out (Nat.le_refl _);have r6:Below C W0 w6:=Below.grown (zad r5 _ Mcy) H2.out (by have:=r5.size;simp;omega) (fun j hj=>by have:=(dR.out.ge _ hj).1;omega);have r7:Below C W0 (w6.setCell ⟨W0.heap.size,4,none⟩ (.slice A6 (out.length+[(pn,zbg (pq/lf))].length) c6)):=zaP r6 (by show C<=W0.heap.size;omega) _;have r8:L<w6.heap.size:=zab ZL.out;have R1:=Lib.hid r1;have R2:=Lib.hid r2;have R3:=Lib.hid r3;have R4:=Lib.hid r4;have R7:=Lib.hid r7;have pJ:=dC.out;rw[eH.out]at pJ;simp only[Bool.false_eq_true,if_false]at pJ;have AE:=Lib.hid pJ;clear r1 r2 r3 r4 r5 r6 r7 pJ a0 a1 a2 l5 l6 y2 z4 f4 z5 z6 z0 z1 z2;go_wp2_with fail
 go_round
 case rel=>exact⟨k+1,_,out++[(pn,zbg (pq/lf))],_,by omega,by go_num,AE.out.symm,R1.out,R2.out,R3.out,R4.out,R7.out,by simp;omega⟩
 case measure=>simp[intOf];omega):P:=h
theorem Md(h:P:=by
 have d1:wq.cell? ⟨w.heap.size,1,none⟩=some (.int .i64 dy):=by simp only[World.cell?,nh.out];rfl
 have kV:=nR.out;have Ct:=zab kV;have JZ:=zab nh.out;unfold WldC at kV;obtain⟨-,-,-,-,-,-,-,z7,z8⟩:=cF9 kV;have f7:wq.frozen? ⟨b,7,none⟩=false:=by simp only[World.frozen?,kV];rfl
 have f8:wq.frozen? ⟨b,8,none⟩=false:=by simp only[World.frozen?,kV];rfl
 have hwb:w.heap.size≠b:=fun e=>Nat.lt_irrefl _ (e▸dg)
 clear kV;have ny:Below base w wq:=Below.trans (Below.mono (B:=w.heap.size) Bw (Nat.le_of_lt (Nat.lt_of_le_of_lt ba dg))) nQ.out;have kE:=Lib.hid ny;clear ny;by_cases h0:er=0
 ·subst h0;have oY:=wrap_k xf;have Dy:=wrap_k2 xf;go_wp2_with fail
  go_region
  all_goals go_wp2_with fail
  all_goals go_ret
  all_goals exact taken_ok (wld_drew (wld_tick nv.out dy ((k:Int)+1))) (zaK (zaP (zaP kE.out ed _) ed _))
 ·go_wp2_with fail
  go_ret
  exact taken_no h0 nv.out kE.out):P:=h
theorem Me(h:P:=by
 have HE:=Lib.hid (HG.out rfl);have sf:=frz xs0;have gW:=HF.out.dead;clear HG dh;go_upto_region 24 with fail
 obtain⟨U1,rA⟩:∃U1,U1=WR.setCell ⟨w.heap.size,6,none⟩ (.slice V2 s.graves.length c2'):=⟨_,rfl⟩
 have u0:U1.heap[w.heap.size]?=some (.cells #[.slice LA laws.length c0,.slice CA s.children.length c1,.slice MA s.marriages.length c2,.slice DA s.dead.length c3,.slice WA wd.length c4,.slice RA rd.length c5,.slice V2 s.graves.length c2'] 44):=by
  rw[rA];have:=Joins.block_setCell (i:=6) xs0 (.slice V2 s.graves.length c2');simpa using this
 have u1:U1.heap[w.heap.size+1]?=some (.cells #[.slice none 0 0,.slice none 0 0,.slice none 0 0,.slice none 0 0,.slice none 0 0,.slice none 0 0,.slice none 0 0] 44):=by rw[rA];exact J_ne Mcy xr0
 have Cr:Below w.heap.size w U1:=by rw[rA];exact zaP (aj.out.trans (b8.out.mono aw)) (Nat.le_refl _) _
 have wZ:WR.grownBy U1 (some w.heap.size):=by rw[rA];exact zav _ _ _ _
 have Gr:s.graves≠[]->RowC U1 100 ga go 5 (dx.map GX.cells):=fun ai=>by
  have h:=vf.out ai;rw[CR,List.append_nil]at h;rw[rA];exact h.ne (zmn h xs0 McA)
 have IA:=Lib.hid Gr;have Aw:=Lib.hid (fun y hy=>((fV.out y hy).keptS wZ xs0:okR gxs U1 y));have Hg:=Lib.hid Cr;have IL:=Lib.hid u1;have IK:=Lib.hid u0;have JI:=Cr.size;rw[<-rA];clear rA Gr wZ sf;clear xs0 xr0 s0 s1 s2 s3 s4 s5 s6 r0 r1 r2 r3 r4 r5 r6 rf ls lr;obtain⟨s0,s1,s2,s3,s4,s5,s6⟩:=zaF u0;have ls:=zab u0;have lr:=zab u1;clear u0 u1;have gF:=Lib.hid (H.out U1 Cr).dead
 go_upto_region 25 with(first
  |(at_builtin
    go_loud(refine zat (v:=.slice (some ⟨U1.heap.size,0,none⟩) 0 0) (n:=0) (m:=s.dead.length) rfl _ _ rfl zbB za9 zbA rfl (xs:=[]) (ys:=s.dead) (zdS za9 U1 U1.heap.size (Nat.le_refl _)) rfl rfl rfl (gF.out.keep (zad (Below.refl _ _) _)) Mc6 Mcy McB ?_)
    intro v3 w3 h1 h2 h3;rw[List.nil_append]at h1;have ax:Below U1.heap.size U1 w3:=Below.grown (zad (Below.refl _ _) _) h2 McB Mdc;obtain⟨V3,vc3,rfl,_,_⟩:=h1.sl za9;have nj:=Lib.hid h1;have lz:=Lib.hid ax;have vA:=ax.size
    clear h1 h2 h3 ax)
  |(at_builtin
    go_loud(refine zat (v:=.slice V3 s.dead.length vc3) (n:=s.dead.length) (m:=1) rfl _ _ rfl zbB za9 zbA rfl (xs:=s.dead) (ys:=[n]) (nj.out.keep (n:=w3.heap.size) (zad (Below.refl _ _) _)) rfl rfl rfl (zcl (zar _ _ _ rfl)) Mc6 Mcy McD ?_)
    intro v6 w6 h1 h2 h3;have aP:Below U1.heap.size U1 w6:=Below.grown (zad lz.out _) h2 McD (fun j hj=>(nj.out.ge j hj).1);obtain⟨A6,vc6,dA,_,xm⟩:=h1.sl za9;have kA:v6=.slice A6 (s.dead.length+1) vc6:=by rw[dA,List.length_append];rfl
    clear dA;subst kA;have lM:=Lib.hid h1;have eF:=Lib.hid aP;have AN:=Lib.hid xm;have x6:=(aP.block w.heap.size ls).trans IK.out;have z6:=(aP.block (w.heap.size+1) lr).trans IL.out;have za:=Lib.hid x6;have IS:=Lib.hid z6;have sf6:=frz x6;obtain⟨_,_,_,p3,_,_,_⟩:=zaF x6;have ls6:=zab x6
    clear h1 h2 h3 aP xm x6 z6))
 obtain⟨U7,rB⟩:∃U7,U7=w6.setCell ⟨w.heap.size,3,none⟩ (.slice A6 (s.dead.length+1) vc6):=⟨_,rfl⟩
 have y7:U7.heap[w.heap.size]?=some (.cells #[.slice LA laws.length c0,.slice CA s.children.length c1,.slice MA s.marriages.length c2,.slice A6 (s.dead.length+1) vc6,.slice WA wd.length c4,.slice RA rd.length c5,.slice V2 s.graves.length c2'] 44):=by
  rw[rB];have:=Joins.block_setCell (i:=3) za.out (.slice A6 (s.dead.length+1) vc6);simpa using this
 have z7:U7.heap[w.heap.size+1]?=some (.cells #[.slice none 0 0,.slice none 0 0,.slice none 0 0,.slice none 0 0,.slice none 0 0,.slice none 0 0,.slice none 0 0] 44):=by rw[rB];exact J_ne Mcy IS.out
 have bQ:Below w.heap.size w U7:=by rw[rB];exact zaP (Hg.out.trans (eF.out.mono JI)) (Nat.le_refl _) _
 have se:w6.grownBy U7 (some w.heap.size):=by rw[rB];exact zav _ _ _ _
 have hS7:Sl U7 5 GX.cells V2 dx:=by
  by_cases ai:s.graves=[]
  ·have h0:dx.length=0:=by rw[im];rw[ai]at hk;simpa using hk
   rw[List.eq_nil_of_length_eq_zero h0];exact Sl.nil
  ·obtain⟨e,_⟩:=HV.out ai;have h:=(IA.out ai).keep eF.out;rw[e,rB];exact(h.ne (zmn h za.out McA)).sl rfl
 have xL:∀x∈dx,x.ok U7:=fun x hx=>by
  rcases((Aw.out x hx).keep eF.out).keptS se za.out with h|⟨h1,h2⟩
  ·exact(dG.out x h).keep bQ
  ·exact⟨h1.sl zap,h2.sl za9⟩
 have h':=H.out U7 bQ;have aB:Hid (StAt U7 laws R.1 (.slice LA laws.length c0) (.slice CA s.children.length c1) (.slice MA s.marriages.length c2) (.slice A6 (s.dead.length+1) vc6) (.slice WA wd.length c4) (.slice RA rd.length c5) (.slice V2 s.graves.length c2')):=by
  show StAt _ _ _ _ _ _ _ _ _ _;rw[HE.out];refine⟨wd,rd,LA,CA,MA,A6,WA,RA,V2,c0,c1,c2,vc6,c4,c5,c2',rfl,rfl,rfl,?_,rfl,rfl,?_,⟨h'.laws,h'.kids,h'.marr,?_,h'.wills,h'.ren,slw_gx hS7 rfl xL,AN.out⟩,⟨HK.out.wills,HK.out.shares,HK.out.ren,HK.out.tos⟩⟩
  ·show _=Value.slice A6 (s.dead++[n]).length vc6;rw[List.length_append];rfl
  ·show _=Value.slice V2 (dx.map (·.g)).length c2';rw[List.length_map,im,oJ]
  ·exact(lM.out.ro'.kept se za.out McA).sl za9
 rw[<-rB];have cj:=Lib.hid bQ;have ze:=Lib.hid z7;clear rB hS7 xL h' se bQ s0 s1 s2 s3 s4 s5 s6 ls lr p3 sf6 ls6;obtain⟨s0,s1,s2,s3,s4,s5,s6⟩:=zaF y7;obtain⟨r0,r1,r2,r3,r4,r5,r6⟩:=zaF z7;have rf:=frz z7;have ls:=zab y7;have lr:=zab z7;clear y7 z7;go_wp2_with fail
 refine bodyPost_ret (zbC rfl _ rfl rfl (zcy ze.out)) rfl ?_
 exact⟨_,_,_,_,_,_,_,true,rfl,rfl,zcA cj.out (show w.heap.size<=w.heap.size+1 by omega),.inl ⟨rfl,by rw[HE.out],(zc3 ze.out rfl).st aB.out⟩⟩):P:=h
theorem Mf(h:P:=by
 clear hR;go_wp2_with fail
 go_ret
 rw[HR.out]
 exact Ret.of (zaO (by first|rfl|(simp[*];done))) (HB.out.trans (Below.mono (B:=wc.heap.size) Bw HB.out.size))):P:=h
theorem Mg(h:P:=by
 go_wp2_with fail
 rw[HE.out];refine bodyPost_ret (zbC rfl _ rfl rfl (zcy xr0)) rfl ?_
 exact⟨_,_,_,_,_,_,_,rfl,rfl,zcA (aj.out.trans (bm.mono aw)) (show w.heap.size<=w.heap.size+2 by omega),fun e=>by cases e⟩):P:=h
theorem Mh(h:P:=by
 (go_wp2_with fail
  go_ret
  exact Ret.of (zb5 (by rw[HR.out];simp[zcs,p1,p2,isDay0,inR04,inR14,inR24,inR34,inR44, *])) (HB.out.trans (Below.mono (B:=wc.heap.size) Bw hs)))):P:=h
theorem Mi(h:P:=by
 intro v6 w6 k1 k2 k3;have aP:Below wr.heap.size wr w6:=Below.grown ao k2 ao.size (fun j hj=>(g1.ge j hj).1);refine NxM hK fun hHeld=>?_
 clear hK K;refine OnM 15 true fun K hK=>?_
 go_simp
 refine NxM hK fun hHeld=>?_
 clear hK K;refine zaM Mcz ?_ _;clear hHeld;have K1:=Lib.hid k1;have bj:=Lib.hid aP;clear k1 k2 k3 aP ao g1 g2 g3;go_wp2_with fail
 go_round
 case rel=>exact⟨k+1,ak.out,by go_num,by rw[aB.out];exact K1.out.base_le Mcy,HB.out.trans (bj.out.mono Mcy)⟩
 case measure=>have:=ak.out;simp only[intOf];omega):P:=h
theorem Mj(h:P:=by
 have ou:D0=none:=by
  cases eS:(f&&l)
  ·obtain⟨h1,h2⟩:=kN.out eS;rw[h1,yJ.out];refine Hr.out _ DW.out fun eD e'=>?_
   rw[h2]at e';rcases qz.out rfl with e|e
   ·rw[e]at e';cases e'
   ·cases l
    ·obtain rfl:hs=eD:=by simpa using e'
     exact e
    ·cases e'
  ·exact nU.out eS
 have HN:=Lib.hid ou;clear ou;obtain⟨OV,oc,rfl,_,xI⟩:=HO.out.ro;have jg:=cM.out.trans (fK.out.mono cM.out.size);have bi:=bX.out.keep jg;obtain⟨gcur,dJ,_⟩:=bi.row;have j3:wr.cell? ⟨ga,go+k*5+3,none⟩=some (.slice x.H x.g.holders.length x.hc):=bi.at dZ.out (j:=3) rfl;have jf:=bi.frz;have oI:=bi.lt;have qH:=Lib.hid bi;have lI:=Lib.hid dJ;have B7:=Lib.hid xI;have jR:=Lib.hid jg;clear xI jg bi dJ;go_upto_region 20 with fail
 obtain⟨V1,nB⟩:∃V1,V1=wr.setCell ⟨ga,go+k*5+3,none⟩ (.slice OV out.length oc):=⟨_,rfl⟩
 have gA:wr.grownBy V1 (some ga):=by rw[nB];exact zav _ _ _ _
 have fH:RowC V1 100 ga go 5 (((dx++gxs.drop k).map GX.cells).set k (x.cells.set 3 (.slice OV out.length oc))):=by rw[nB];exact qH.out.set dZ.out McA
 have rL:Below w1.heap.size w1 V1:=MdS;rw[<-nB];have Cf:WR.heap.size<=V1.heap.size:=Nat.le_trans jR.out.size gA.size;clear nB j3 jf oI;have Lm:=hxd5 fH dZ.out;have gJ:=Lib.hid fH;have ur:=Lib.hid rL;have Kb:=fH.lt;have uX:=Lib.hid (B7.out.kept gA lI.out McA);have uy:=Lib.hid (fun y hy=>(((fV.out y hy).keep jR.out).kept gA lI.out:okR gxs V1 y));have Bz:=Lib.hid (tu.out V1 (aj.out.trans ((aA.out.trans (rL.mono ie)).mono aw))).2;clear fH rL gA
 go_wp2_with (first
  |(at_builtin
    go_loud(refine zat (v:=.slice (some ⟨V1.heap.size,0,none⟩) 0 0) (n:=0) (m:=x.g.died.length) rfl _ _ rfl zbB za9 zbA rfl (xs:=[]) (ys:=x.g.died) (zdS za9 V1 V1.heap.size (Nat.le_refl _)) rfl rfl rfl (Bz.out.keep (zad (Below.refl _ _) _)) Mc6 Mcy McB ?_)
    intro v3 w3 h1 h2 h3;rw[List.nil_append]at h1;have ax:Below V1.heap.size V1 w3:=Below.grown (zad (Below.refl _ _) _) h2 McB Mdc;obtain⟨V3,vc3,rfl,_,_⟩:=h1.sl za9;have nj:=Lib.hid h1;have lz:=Lib.hid ax;have vA:=ax.size
    clear h1 h2 h3 ax)
  |(at_builtin
    go_loud(refine zat (v:=.slice V3 x.g.died.length vc3) (n:=x.g.died.length) (m:=1) rfl _ _ rfl zbB za9 zbA rfl (xs:=x.g.died) (ys:=[n]) (nj.out.keep (n:=w3.heap.size) (zad (Below.refl _ _) _)) rfl rfl rfl (zcl (zar _ _ _ rfl)) Mc6 Mcy McD ?_)
    intro v6 w6 h1 h2 h3;have aP:Below V1.heap.size V1 w6:=Below.grown (zad lz.out _) h2 McD (fun j hj=>(nj.out.ge j hj).1);obtain⟨A6,vc6,dA,_,_⟩:=h1.sl za9;rw[List.length_append]at dA;subst dA;have lM:=Lib.hid h1;have eF:=Lib.hid aP;have eC:=gJ.out.keep aP;have i4:w6.cell? ⟨ga,go+k*5+4,none⟩=some (.slice x.D x.g.died.length x.dc):=hxd5 eC dZ.out;have jf6:=eC.frz;have CO:=eC.lt;have Co:=aP.size
    clear h1 h2 h3 aP eC))
 go_round
 case rel=>
  have eC:=gJ.out.keep eF.out;rw[Av.out]at eC;obtain⟨gcur6,mC,_⟩:=eC.row;refine⟨k+1,true,true,dx++[(⟨{x.g with holders:=out,died:=x.g.died++[n]},OV,oc,A6,vc6⟩:GX)],ak.out,by go_num,rfl,rfl,by rw[List.length_append,im];rfl,Lib.hid fun _=>row_two im eC,Lib.hid fun y hy=>?_,Lib.hid fun _=>HN.out,Lib.hid McB,zaP (ur.out.trans (eF.out.mono ur.out.size)) zU _,by simp;omega⟩;exact Mcc
 case measure=>have:=ak.out;simp only[intOf];omega):P:=h
theorem Mk(h:P:=by
 refine OnM 6 true fun K hK=>?_
 refine zak (v:=.slice V4 s.graves.length c4') (n:=s.graves.length) (m:=1) rfl _ _ rfl zhi zcU zjT rfl (xs:=gxs) (ys:=[(⟨⟨d.place,d.cls,fin,out,[]⟩,VA,vc,none,0⟩:GX)]) o9 bo.out.symm rfl rfl (sl_grave (⟨⟨d.place,d.cls,fin,out,[]⟩,VA,vc,none,0⟩:GX) n9) McG McR McV ?_;intro v5 w5 g1 g2 g3;obtain⟨A5,c5',dY,_,_⟩:=g1.sl zcU;rw[List.length_append,<-bo.out]at dY;subst dY;have ao:Below WX.heap.size WX w5:=Below.grown e9 g2 Meb (fun j hj=>(o9.ge j hj).1);have ca:=bw.out.trans (ao.mono f9);refine NxM hK fun hHeld=>?_
 clear hK K;refine OnM 7 true fun K hK=>?_
 go_simp
 refine NxM hK fun hHeld=>?_
 clear hK K;obtain⟨⟨xs0,xd0,xr0⟩,⟨s0,s1,s2,s3,s4,s5,s6⟩,⟨d0,d1,d2,d3,d4,d5,d6⟩,⟨r0,r1,r2,r3,r4,r5,r6⟩,rf,ls,ld,lr⟩:=ddF (av.out w5 (ca));have sf:=frz xs0;refine OnM 8 true fun K hK=>?_
 go_simp
 refine NxM hK fun hHeld=>?_
 clear hK K;refine zaM Mcz ?_ _;clear hHeld;have G1:=Lib.hid g1;have vv:=Lib.hid ao;have aR:=Lib.hid ca;have X0:=Lib.hid xs0;have X2:=Lib.hid xr0;clear g1 g2 g3 ao ca h1 h2 h3 aC;clear xs0 xd0 xr0 s0 s1 s2 s3 s4 s5 s6 d0 d1 d2 d3 d4 d5 d6 r0 r1 r2 r3 r4 r5 r6 rf ls ld lr;clear sf;go_wp2_with fail
 go_meet
 refine⟨⟨by first|rfl|trivial,A5,c5',?_,J_ne Mcy X2.out,(G1.out.kept (zav _ _ _ _) X0.out McA).ro',zaP (aj.out.trans (aR.out.mono aw)) (Nat.le_refl _) _⟩,((HO.out.keep vv.out).kept (zav _ _ _ _) X0.out McA).ro'⟩;have:=Joins.block_setCell (i:=6) X0.out (.slice A5 (s.graves.length+1) c5')
 simpa using this):P:=h
theorem Ml(h:P:=by
 have a1:wr.cell? ⟨w.heap.size,5,none⟩=some (.bool fa):=McC;have a2:wr.cell? ⟨w.heap.size,7,none⟩=some (.bool true):=McC;have b0:wr.cell? ⟨w.heap.size+1,3,none⟩=some (.string frm):=McE;have b1:wr.cell? ⟨w.heap.size+1,4,none⟩=some (.slice B ps.length c):=McE;have c0:wr.cell? ⟨w.heap.size+2,0,none⟩=some (.int .i64 s.num):=Mew;have c1:wr.cell? ⟨w.heap.size+2,1,none⟩=some (.int .i64 s.den):=Mew;have d0:wr.frozen? ⟨w.heap.size+2,0,none⟩=false:=Mer;have d1:wr.frozen? ⟨w.heap.size+2,1,none⟩=false:=Mer;have e0:w.heap.size<wr.heap.size:=Mcy;have e1:w.heap.size+1<wr.heap.size:=Mcy;have e2:w.heap.size+2<wr.heap.size:=Mcy;have e3:w.heap.size+2≠wr.heap.size:=Mcy;by_cases ae:k<ps.length
 ·rw[List.drop_eq_getElem_cons ae]at hx;obtain⟨b,off,rfl,hb,hc⟩:=(hS.keep hB).at ae;have wa:=(hS.keep hB).take k;generalize hp:ps[k]=p at*;obtain⟨pn,pu,pd⟩:=p;have h0:wr.cell? ⟨b,off+k*3,none⟩=some (.string pn):=hc 0 _ rfl;have h1:wr.cell? ⟨b,off+k*3+1,none⟩=some (.int .i64 pu):=hc 1 _ rfl;have h2:wr.cell? ⟨b,off+k*3+2,none⟩=some (.int .i64 pd):=hc 2 _ rfl;have HP:=Lib.hid hp;have HF:=Lib.hid dI;have H0:=Lib.hid aw;have HK:=Lib.hid kw;have HS:=Lib.hid wa;have HX:=Lib.hid hx;have HH:=Lib.hid (show ps.length<=100000 by omega);have fq:(k:Int)<=(c:Int):=Mcy;have aQ:(0:Int)<=(k:Int):=Mcy;have js:(k:Int)<(ps.length:Int):=Mcy;have cn:(ps.take k).length=k:=Mdg;have HT:=Lib.hid cn;clear hc hS wa hp dI aw kw hx cn
  go_upto_region 10 with(go_at_call 74
                         refine(zcQ _ _ eg (fun q=>zae q.name pn) _ k _ (ps.take k) _ HT.out.symm (by rw[HT.out];have:=HH.out;omega) (HS.out.keep (n:=wr.heap.size) Bw) (zkX _ pn _ _ McB Mc3)).mono ?_
                         intro e wq hq;rcases Ret.bools hq with⟨zq,rfl,⟨hb,rfl⟩|⟨hb,rfl⟩⟩<;>clear hq)
  all_goals go_wp2_with (first
   |(go_at_call 118;refine(zdJ _ _ _).mono ?_;intro e wq hq;rcases Ret.bools hq with⟨zq,rfl,⟨hb,rfl⟩|⟨hb,rfl⟩⟩<;>clear hq)
   |(go_at_call 149;refine(zn7 s pu pd _ (HF.out.small (Rat.le_trans McA H0.out) (cast_le HK.out Mcy)) Mc8).mono ?_;rintro e w1 ⟨rfl,z1,rfl⟩;simp only[zaA]))
  all_goals first
   |(go_ret
     exact Ret.of (zaO (by rw[HX.out];simp[zco,zgP,zeb,ze2, *])) Bw)
   |(go_round
     case rel=>
      refine⟨k+1,by omega,by go_num,s+Rat.divInt pu pd,(by rw[HX.out,List.take_succ_eq_append_getElem ae,HP.out];simp[zco,RPart.rat,zeb,ze2, *]:_=_),HF.out.add (zej Mc8),sum_pos H0.out Mc8,sum_up HK.out Mc8,Bw,by simp[zaf];omega,by repeat(first|assumption|with_reducible refine zal ?_|with_reducible refine zbD ?_|with_reducible refine J_ne Mcy ?_),by repeat(first|assumption|with_reducible refine zal ?_|with_reducible refine zbD ?_|with_reducible refine J_ne Mcy ?_),?_⟩;(repeat(first|with_reducible refine zal ?_|with_reducible refine zbD ?_));exact zek g2
     case measure=>simp[intOf];omega)
 ·exact Mcd):P:=h
theorem Mm(h:P:=by
 have a1:wr.cell? ⟨w.heap.size,5,none⟩=some (.bool fa):=McC;have a2:wr.cell? ⟨w.heap.size,7,none⟩=some (.bool false):=McC;have b0:wr.cell? ⟨w.heap.size+1,3,none⟩=some (.string frm):=McE;have b1:wr.cell? ⟨w.heap.size+1,4,none⟩=some (.slice B ps.length c):=McE;have c0:wr.cell? ⟨w.heap.size+2,0,none⟩=some (.int .i64 s.num):=Mew;have c1:wr.cell? ⟨w.heap.size+2,1,none⟩=some (.int .i64 s.den):=Mew;have d0:wr.frozen? ⟨w.heap.size+2,0,none⟩=false:=Mer;have d1:wr.frozen? ⟨w.heap.size+2,1,none⟩=false:=Mer;have e0:w.heap.size<wr.heap.size:=Mcy;have e1:w.heap.size+1<wr.heap.size:=Mcy;have e2:w.heap.size+2<wr.heap.size:=Mcy;have e3:w.heap.size+2≠wr.heap.size:=Mcy;by_cases ae:k<ps.length
 ·rw[List.drop_eq_getElem_cons ae]at hx;obtain⟨b,off,rfl,hb,hc⟩:=(hS.keep hB).at ae;have wa:=(hS.keep hB).take k;generalize hp:ps[k]=p at*;obtain⟨pn,pu,pd⟩:=p;have h0:wr.cell? ⟨b,off+k*3,none⟩=some (.string pn):=hc 0 _ rfl;have h1:wr.cell? ⟨b,off+k*3+1,none⟩=some (.int .i64 pu):=hc 1 _ rfl;have h2:wr.cell? ⟨b,off+k*3+2,none⟩=some (.int .i64 pd):=hc 2 _ rfl;have HP:=Lib.hid hp;have HF:=Lib.hid dI;have H0:=Lib.hid aw;have HK:=Lib.hid kw;have HS:=Lib.hid wa;have HX:=Lib.hid hx;have HH:=Lib.hid (show ps.length<=100000 by omega);have fq:(k:Int)<=(c:Int):=Mcy;have aQ:(0:Int)<=(k:Int):=Mcy;have js:(k:Int)<(ps.length:Int):=Mcy;have cn:(ps.take k).length=k:=Mdg;have HT:=Lib.hid cn;clear hc hS wa hp dI aw kw hx cn
  go_upto_region 10 with(go_at_call 74
                         refine(zcQ _ _ eg (fun q=>zae q.name pn) _ k _ (ps.take k) _ HT.out.symm (by rw[HT.out];have:=HH.out;omega) (HS.out.keep (n:=wr.heap.size) Bw) (zkX _ pn _ _ McB Mc3)).mono ?_
                         intro e wq hq;rcases Ret.bools hq with⟨zq,rfl,⟨hb,rfl⟩|⟨hb,rfl⟩⟩<;>clear hq)
  all_goals go_wp2_with (first
   |(go_at_call 118;refine(zdJ _ _ _).mono ?_;intro e wq hq;rcases Ret.bools hq with⟨zq,rfl,⟨hb,rfl⟩|⟨hb,rfl⟩⟩<;>clear hq)
   |(go_at_call 149;refine(zn7 s pu pd _ (HF.out.small (Rat.le_trans McA H0.out) (cast_le HK.out Mcy)) Mc8).mono ?_;rintro e w1 ⟨rfl,z1,rfl⟩;simp only[zaA]))
  all_goals first
   |(go_ret
     exact Ret.of (zaO (by rw[HX.out];simp[zco,zgP,zeb,ze2, *])) Bw)
   |(go_round
     case rel=>
      refine⟨k+1,by omega,by go_num,s,(by rw[HX.out,List.take_succ_eq_append_getElem ae,HP.out];simp[zco,RPart.rat,zeb,ze2, *]:_=_),HF.out,H0.out,Rat.le_trans HK.out (natUp k),Bw,by simp[zaf];omega,by repeat(first|assumption|with_reducible refine zal ?_|with_reducible refine zbD ?_|with_reducible refine J_ne Mcy ?_),by repeat(first|assumption|with_reducible refine zal ?_|with_reducible refine zbD ?_|with_reducible refine J_ne Mcy ?_),?_⟩;repeat(first|assumption|with_reducible refine zal ?_|with_reducible refine zbD ?_|with_reducible refine J_ne Mcy ?_)
     case measure=>simp[intOf];omega)
 ·exact Mcd):P:=h
theorem Mn(h:P:=by
 refine OnM 9 true fun K hK=>?_
 refine zak (v:=.slice V4 s.children.length c4') (n:=s.children.length) (m:=1) rfl _ _ rfl zgs zbj zdB rfl (xs:=s.children) (ys:=[(d.frm,tn)]) o9 bo.out.symm rfl rfl (zmI (p:=(d.frm,tn)) n9) McG McR McV ?_;intro v5 w5 g1 g2 g3;obtain⟨A5,c5',dY,_,_⟩:=g1.sl zbj;rw[List.length_append,<-bo.out]at dY;subst dY;have ao:Below WX.heap.size WX w5:=Below.grown e9 g2 Meb (fun j hj=>(o9.ge j hj).1);have ca:=bw.out.trans (ao.mono f9);refine NxM hK fun hHeld=>?_
 clear hK K;refine OnM 10 true fun K hK=>?_
 go_simp
 refine NxM hK fun hHeld=>?_
 clear hK K;obtain⟨⟨xs0,xd0,xr0⟩,⟨s0,s1,s2,s3,s4,s5,s6⟩,⟨d0,d1,d2,d3,d4,d5,d6⟩,⟨r0,r1,r2,r3,r4,r5,r6⟩,rf,ls,ld,lr⟩:=ddF (av.out w5 (ca));have sf:=frz xs0;refine OnM 11 true fun K hK=>?_
 go_simp
 refine NxM hK fun hHeld=>?_
 clear hK K;refine zaM Mcz ?_ _;clear hHeld;have G1:=Lib.hid g1;have vv:=Lib.hid ao;have aR:=Lib.hid ca;have X0:=Lib.hid xs0;have X2:=Lib.hid xr0;clear g1 g2 g3 ao ca h1 h2 h3 aC;clear xs0 xd0 xr0 s0 s1 s2 s3 s4 s5 s6 d0 d1 d2 d3 d4 d5 d6 r0 r1 r2 r3 r4 r5 r6 rf ls ld lr;clear sf;go_wp2_with fail
 go_meet
 refine⟨by first|rfl|trivial,A5,c5',?_,J_ne Mcy X2.out,(G1.out.kept (zav _ _ _ _) X0.out McA).ro',zaP (aj.out.trans (aR.out.mono aw)) (Nat.le_refl _) _⟩;have:=Joins.block_setCell (i:=1) X0.out (.slice A5 (s.children.length+1) c5')
 simpa using this):P:=h
theorem Mo(h:P:=by
 refine OnM 6 true fun K hK=>?_
 refine zak (v:=.slice V4 rd.length c4') (n:=rd.length) (m:=1) rfl _ _ rfl zgw zcf zgv rfl (xs:=dvs) (ys:=[(⟨d,B,c⟩:DV)]) o9 bo.out.symm rfl rfl (sl_deed d B c n9) McG McR McV ?_;intro v5 w5 g1 g2 g3;obtain⟨A5,c5',dY,_,_⟩:=g1.sl zcf;rw[List.length_append,<-bo.out]at dY;subst dY;have ao:Below WX.heap.size WX w5:=Below.grown e9 g2 Meb (fun j hj=>(o9.ge j hj).1);have ca:=bw.out.trans (ao.mono f9);refine NxM hK fun hHeld=>?_
 clear hK K;refine OnM 7 true fun K hK=>?_
 go_simp
 refine NxM hK fun hHeld=>?_
 clear hK K;obtain⟨⟨xs0,xd0,xr0⟩,⟨s0,s1,s2,s3,s4,s5,s6⟩,⟨d0,d1,d2,d3,d4,d5,d6⟩,⟨r0,r1,r2,r3,r4,r5,r6⟩,rf,ls,ld,lr⟩:=ddF (av.out w5 (ca));have sf:=frz xs0;refine OnM 8 true fun K hK=>?_
 go_simp
 refine NxM hK fun hHeld=>?_
 clear hK K;refine zaM Mcz ?_ _;clear hHeld;have G1:=Lib.hid g1;have vv:=Lib.hid ao;have aR:=Lib.hid ca;have X0:=Lib.hid xs0;have X2:=Lib.hid xr0;clear g1 g2 g3 ao ca h1 h2 h3 aC;clear xs0 xd0 xr0 s0 s1 s2 s3 s4 s5 s6 d0 d1 d2 d3 d4 d5 d6 r0 r1 r2 r3 r4 r5 r6 rf ls ld lr;clear sf;go_wp2_with fail
 go_meet
 refine⟨by first|rfl|trivial,A5,c5',?_,J_ne Mcy X2.out,(G1.out.kept (zav _ _ _ _) X0.out McA).ro',zaP (aj.out.trans (aR.out.mono aw)) (Nat.le_refl _) _⟩;have:=Joins.block_setCell (i:=5) X0.out (.slice A5 (rd.length+1) c5')
 simpa using this):P:=h
theorem Mp(h:P:=by
 refine OnM 6 true fun K hK=>?_
 refine zak (v:=.slice V4 wd.length c4') (n:=wd.length) (m:=1) rfl _ _ rfl zgw zcf zgv rfl (xs:=dvs) (ys:=[(⟨d,B,c⟩:DV)]) o9 bo.out.symm rfl rfl (sl_deed d B c n9) McG McR McV ?_;intro v5 w5 g1 g2 g3;obtain⟨A5,c5',dY,_,_⟩:=g1.sl zcf;rw[List.length_append,<-bo.out]at dY;subst dY;have ao:Below WX.heap.size WX w5:=Below.grown e9 g2 Meb (fun j hj=>(o9.ge j hj).1);have ca:=bw.out.trans (ao.mono f9);refine NxM hK fun hHeld=>?_
 clear hK K;refine OnM 7 true fun K hK=>?_
 go_simp
 refine NxM hK fun hHeld=>?_
 clear hK K;obtain⟨⟨xs0,xd0,xr0⟩,⟨s0,s1,s2,s3,s4,s5,s6⟩,⟨d0,d1,d2,d3,d4,d5,d6⟩,⟨r0,r1,r2,r3,r4,r5,r6⟩,rf,ls,ld,lr⟩:=ddF (av.out w5 (ca));have sf:=frz xs0;refine OnM 8 true fun K hK=>?_
 go_simp
 refine NxM hK fun hHeld=>?_
 clear hK K;refine zaM Mcz ?_ _;clear hHeld;have G1:=Lib.hid g1;have vv:=Lib.hid ao;have aR:=Lib.hid ca;have X0:=Lib.hid xs0;have X2:=Lib.hid xr0;clear g1 g2 g3 ao ca h1 h2 h3 aC;clear xs0 xd0 xr0 s0 s1 s2 s3 s4 s5 s6 d0 d1 d2 d3 d4 d5 d6 r0 r1 r2 r3 r4 r5 r6 rf ls ld lr;clear sf;go_wp2_with fail
 go_meet
 refine⟨by first|rfl|trivial,A5,c5',?_,J_ne Mcy X2.out,(G1.out.kept (zav _ _ _ _) X0.out McA).ro',zaP (aj.out.trans (aR.out.mono aw)) (Nat.le_refl _) _⟩;have:=Joins.block_setCell (i:=4) X0.out (.slice A5 (wd.length+1) c5')
 simpa using this):P:=h
theorem Mq(h:P:=by
 refine OnM 9 true fun K hK=>?_
 refine zak (v:=.slice V4 s.marriages.length c4') (n:=s.marriages.length) (m:=1) rfl _ _ rfl zgs zbj zdB rfl (xs:=s.marriages) (ys:=[(d.frm,tn)]) o9 bo.out.symm rfl rfl (zmI (p:=(d.frm,tn)) n9) McG McR McV ?_;intro v5 w5 g1 g2 g3;obtain⟨A5,c5',dY,_,_⟩:=g1.sl zbj;rw[List.length_append,<-bo.out]at dY;subst dY;have ao:Below WX.heap.size WX w5:=Below.grown e9 g2 Meb (fun j hj=>(o9.ge j hj).1);have ca:=bw.out.trans (ao.mono f9);refine NxM hK fun hHeld=>?_
 clear hK K;refine OnM 10 true fun K hK=>?_
 go_simp
 refine NxM hK fun hHeld=>?_
 clear hK K;obtain⟨⟨xs0,xd0,xr0⟩,⟨s0,s1,s2,s3,s4,s5,s6⟩,⟨d0,d1,d2,d3,d4,d5,d6⟩,⟨r0,r1,r2,r3,r4,r5,r6⟩,rf,ls,ld,lr⟩:=ddF (av.out w5 (ca));have sf:=frz xs0;refine OnM 11 true fun K hK=>?_
 go_simp
 refine NxM hK fun hHeld=>?_
 clear hK K;refine zaM Mcz ?_ _;clear hHeld;have G1:=Lib.hid g1;have vv:=Lib.hid ao;have aR:=Lib.hid ca;have X0:=Lib.hid xs0;have X2:=Lib.hid xr0;clear g1 g2 g3 ao ca h1 h2 h3 aC;clear xs0 xd0 xr0 s0 s1 s2 s3 s4 s5 s6 d0 d1 d2 d3 d4 d5 d6 r0 r1 r2 r3 r4 r5 r6 rf ls ld lr;clear sf;go_wp2_with fail
 go_meet
 refine⟨by first|rfl|trivial,A5,c5',?_,J_ne Mcy X2.out,(G1.out.kept (zav _ _ _ _) X0.out McA).ro',zaP (aj.out.trans (aR.out.mono aw)) (Nat.le_refl _) _⟩;have:=Joins.block_setCell (i:=2) X0.out (.slice A5 (s.marriages.length+1) c5')
 simpa using this):P:=h
theorem Mr(h:P:=by
 go_wp2_with (first
               |(go_at_call 72;go_must(refine(zct _ _ _ _).mono ?_);rintro e wq ⟨rfl,rfl⟩;(first|rw[ir]|rw[hc9]|rw[hy9]))
               |(go_at_call 38;go_must(refine(zcN _ _).mono ?_);rintro e wq ⟨rfl,rfl⟩;rw[gW])
               |(go_at_call 37;go_must(refine(zcM _ _ Mc8).mono ?_);rintro e wq ⟨rfl,rfl⟩;(first|rw[cL]|rw[fu]|rw[mR])))
 go_meet
 exact⟨zaO (by simp[zbz, *]),by first|exact True.intro|rfl⟩):P:=h
theorem Ms(h:P:=by
 go_wp2_with (first
               |(go_at_call 72;go_must(refine(zct _ _ _ _).mono ?_);rintro e wq ⟨rfl,rfl⟩;(first|rw[ir]|rw[hc9]|rw[hy9]))
               |(go_at_call 38;go_must(refine(zcN _ _).mono ?_);rintro e wq ⟨rfl,rfl⟩;rw[gW])
               |(go_at_call 37;go_must(refine(zcM _ _ Mc8).mono ?_);rintro e wq ⟨rfl,rfl⟩;(first|rw[cL]|rw[fu]|rw[mR])))
 go_ret
 exact Ret.of (zb5 HE.out.symm) aj.out):P:=h
theorem Mt(h:P:=by
 intro v6 w6 h1 h2 h3;obtain⟨A6,c6,dA,_,_⟩:=h1.sl za9;rw[List.length_append]at dA;subst dA;have wV:=o1.ge;have dM:∀k,k<wc.heap.size->w6.heap[k]?=wc.heap[k]?:=fun k hk=>(h2.block k (by have:=oK.size;simp at this⊢;omega) (fun e=>by have:=(wV k e.symm).1;simp at this;omega)).trans (oK.block k (by simpa using hk))
 have sN:zby w6 wr.heap.size g.place g.cls frm g.fin (.slice A1 g.holders.length c1) (.slice D g.died.length dc):=(dM _ bM).trans fh.out;have ku:wc.heap.size<=w6.heap.size:=by have a:=oK.size;have b:=h2.size;simp at a b⊢;omega
 have y3:w6.cell? ⟨w.heap.size,3,none⟩=some (.string fr):=(World.cell?_of_block (w:=wc) (dM w.heap.size Mcy)).trans d3;have y5:w6.cell? ⟨T,5,none⟩=some (.slice D g.died.length dc):=(World.cell?_of_block (w:=wc) (dM T Mcy)).trans q5;have jx:=sN;unfold zby at jx;obtain⟨-,-,-,-,-,u5⟩:=cF6 jx;have fu5:w6.frozen? ⟨wr.heap.size,5,none⟩=false:=by simp only[World.frozen?,jx];rfl
 have hx6:=zab sN;refine NxM hK (fun hHeld=>?_) (⟨y3,y5⟩);clear hK K;refine TkH 9 ?_;refine OnH 10 fun K hK=>?_
 go_simp
 refine NxM hK (fun hHeld=>?_) (⟨(World.cell?_setCell_far _ _ _ _ (by show wr.heap.size≠w.heap.size;omega)).trans y3,(World.cell?_setCell_far _ _ _ _ (by show wr.heap.size≠T;omega)).trans y5⟩);clear hK K;refine wpAnyH_done Mcz ?_ _;go_wp2_with fail
 go_meet
 have aP:Below wc.heap.size wc w6:=Below.grown (a:=wc) (B:=wc.heap.size) (B_drop oK) h2 (by have:=oK.size;simp at this⊢;omega) (fun j hj=>by have:=(wV j hj).1;simp at this;omega);have jk:za5 (.slice A1 g.holders.length c1)≠some wr.heap.size:=zk9 jW.out fh.out McA
 exact⟨A6,c6,tomb_set5 sN _,OwnS.base_le (h1.grown (zav _ _ _ _) (.inr fun e=>by have:=(h1.ge _ e).1;simp at this;omega)) McD,(jW.out.keep aP).grown (zav _ _ _ _) (.inr jk),zaP (av.out.trans (aP.mono Mcy)) McB _⟩):P:=h
theorem Mu(h:P:=by
 (refine zaj Mcz Mcz ?_
  repeat(first|go_big_quiet_skip|(go_big_quiet_want;go_big_quiet_op;first|go_big_quiet_on|(apply Exists.intro;refine⟨fun _=>?_,?_⟩;(go_at_call 139;exact quietx (zhM _));go_big_quiet_on)))
  refine wpQuiet_nil ?_
  rintro _ ⟨zq,rfl⟩)
 go_wp2_with fail
 go_ret
 exact Ret.of (zaO (by rw[HE.out];simp[fm5, *])) (zbv aD.out zq)):P:=h
theorem Mv(h:P:=by
 refine bodyPost_ret (zbC rfl _ rfl rfl (zcy xr5)) rfl ?_
 exact⟨_,_,_,_,_,_,_,rfl,rfl,zcA (aj.out.trans (aR.out.mono aw)) (show w.heap.size<=w.heap.size+2 by omega),fun h0=>(zc3 xr5 rfl).st (aB.out h0)⟩):P:=h
theorem Mw(h:P:=by
 refine bodyPost_ret (v:=zmz (zbQ day) (zbe day) (day-zaC (zbQ day) (zbe day)+1)) ?_ rfl ?_
 ·rw[HN.out,kM.out];have g2:=J_set3 (a:=.int .i64 y) (b:=.int .i64 m) (c:=.int .i64 (day-zaC y m+1)) (J_ne (b:=w.heap.size+1) (o:=2) (v:=.int .i64 (day-zaC y m+1)) Mcy g0);refine zld rfl _ _ w.heap.size _ _ _ rfl ?_ ?_ ?_;all_goals simp[World.cell?,g2]
 ·exact⟨HD.out,Ret.of rfl (by repeat(first|exact B_refl|exact Below.refl _ _|assumption|with_reducible refine zad ?_ _|with_reducible refine zbv ?_ _|with_reducible refine zaK ?_|with_reducible refine zd3 ?_ _|with_reducible refine zaP ?_ Mdu _))⟩):P:=h
theorem Mx(h:P:=by
 have qT:=Lib.hid wt;have fx:=Lib.hid (lB.out.trans (((zaK mg).trans (Ch.mono mg.size)).mono (by have:=lB.out.size;omega)));have cS:=Lib.hid (fun W (h:Below w5.heap.size w5 W)=>zdE ys YA yc W (by have:=kS.out;omega) (qT.out.keep h));clear wt Ch;go_upto_region 11 with fail
 cases hlg:zaE ys
 ·rw[hlg]at cS;go_wp2_with (go_at_call 170;go_must(refine(cS.out _ (Below.refl _ _)).mono ?_);rintro e wq ⟨rfl,rfl⟩)
  rcases Bf.out with h|⟨h1,h2⟩
  ·obtain⟨g1,g2,g3⟩:=uT.out ys h;go_round
   case rel=>exact⟨k+1,ys,YA,yc,ak.out,rfl,by go_num,g1,g2,g3,fun _=>Ao.out,qT.out,fx.out⟩
   case measure=>have:=ak.out;simp only[intOf];omega
  ·rw[hlg]at h2;cases h2
 ·rw[hlg]at cS;go_wp2_with (go_at_call 170;go_must(refine(cS.out _ (Below.refl _ _)).mono ?_);rintro e wq ⟨rfl,rfl⟩)
  go_ret
  have lh:R=none:=by
   rcases Bf.out with h|⟨h1,h2⟩
   ·have:=(uT.out ys h).2.1.out.small;rw[hlg]at this;cases this
   ·exact ni.out h1
  exact⟨YA,yc,ys,rfl,qT.out,aj.out.trans ((aA.out.trans (fx.out.mono ie)).mono lV),kS.out,.inr ⟨lh,hlg⟩⟩):P:=h
theorem My(h:P:=by
 go_wp2_with (first
               |(go_at_call 87;refine(zbi _ _ _ _).mono ?_;intro e wq hq;rcases Ret0.bools hq with⟨rfl,⟨hb,rfl⟩|⟨hb,rfl⟩⟩<;>clear hq)
               |(go_at_call 62;refine(zcP _ _).mono ?_;intro e wq hq;rcases Ret0.bools hq with⟨rfl,⟨hb,rfl⟩|⟨hb,rfl⟩⟩<;>clear hq)
               |(go_at_call 61;refine(zbX _ _ Mc8).mono ?_;intro e wq hq;rcases Ret0.bools hq with⟨rfl,⟨hb,rfl⟩|⟨hb,rfl⟩⟩<;>clear hq)
               |(go_at_call 74;refine(zcQ _ _ eg (fun q:RPart=>!zaS q.name) _ _ _ ps _ rfl HL.out (HS.out.keep (n:=w.heap.size) Bw) (zge ps _ HN.out)).mono ?_;intro e wq hq;rcases Ret.bools hq with⟨zq,rfl,⟨hb,rfl⟩|⟨hb,rfl⟩⟩<;>clear hq)
               |(go_at_call 120;refine(zd5 ⟨word,fp,ff,fc,fy,fa,fpt,fs⟩ _ _ _ _ _ _ ps _ _ _ _ rfl Mcy HC.out (HS.out.keep (n:=w.heap.size) Bw)).mono ?_;intro e wq hq;rcases Ret.bools hq with⟨zq,rfl,⟨hb,rfl⟩|⟨hb,rfl⟩⟩<;>clear hq))
 all_goals go_meet
 all_goals(refine⟨zaO (by first|exact hb.symm|simp[zbz,noB, *]),Bw,by first|omega|(simp[zaf];done)|(simp[zaf];omega),?_⟩;repeat(first|assumption|with_reducible refine zal ?_|with_reducible refine zbD ?_|with_reducible refine J_ne Mcy ?_))):P:=h
theorem Mz(h:P:=by
 go_wp2_with fail
 all_goals go_meet
 all_goals(refine⟨zaO (by first|(simp[noB, *];done)|(rw[Bool.eq_iff_iff];simp[noB];simp[*];done)|(cases fp<;>cases ff<;>simp_all[noB])),Bw,by first|omega|(simp[zaf];done)|(simp[zaf];omega),?_,?_⟩)
 all_goals(repeat(first|assumption|with_reducible refine zal ?_|with_reducible refine zbD ?_|with_reducible refine J_ne Mcy ?_))):P:=h
theorem MC(h:P:=by
 have uR:=Lib.hid iI;have jD:=Lib.hid bC;clear iI bC;refine hK.out _ _ ?_ (fun hHeld=>?_);focus((try dsimp only);refine⟨?_,?_,?_,?_,?_,?_⟩<;>assumption)
 clear hK K;try simp only[Act.put,List.setIfInBounds_toArray,List.set_cons_zero,List.set_cons_succ]
 refine wpAnyH_done Mcz ?_ _;go_wp2_with fail
 go_end0
 refine⟨rfl,⟨_,uR.out,(zfc _ _ _ kN.out).1,fun k=>?_⟩,?_,?_⟩
 ·show _\/mget eqS k (mput eqS n _ mm)=some (zaA (zag (setP out n (zbg (zag out n+f))) k));rw[zep,zlf HG.out,g8.out];cases hk:zae k n
  ·simp only[Bool.false_eq_true,if_false];show _\/_;rcases uK.out k with⟨a1,a2⟩|a
   ·refine .inl ⟨a1,?_⟩;show zag (setP out n (zbg (zag out n+f))) k=0;rw[zlf HG.out,hk];exact a2
   ·exact .inr a
  ·exact .inr rfl
 ·show MarkAt w6 C (fl||bigQ (zag out n+f));rw[g8.out];exact N1.out.grown jD.out tB
 ·exact(Two2.of_below Bw).trans ((Two2.grownC N2.out).trans (Two2.grownM jD.out))):P:=h
theorem MD(h:P:=by
 intro W B hb;have f0:W.cell? ⟨B,0,none⟩=some (.int .i64 0):=by simp[World.cell?,hb]
 have f1:W.cell? ⟨B,1,none⟩=some (.int .i64 0):=by simp[World.cell?,hb]
 have fz:∀j,W.frozen? ⟨B,j,none⟩=false:=fun j=>by simp[World.frozen?,hb]
 go_simp
 with_reducible exact⟨zek hb,zps _ _ _ _⟩):P:=h
theorem ME(h:P:=by
 (go_wp2_with fail
  go_ret
  exact Ret.of (zb5 McQ) Bw)):P:=h
theorem MF(h:P:=by
 clear hc aN;go_wp2_with fail
 (refine zaj Mcz Mcz ?_
  repeat(first|go_big_quiet_skip|(go_big_quiet_want;go_big_quiet_op;first|go_big_quiet_on|(apply Exists.intro;refine⟨fun _=>?_,?_⟩;(fail);go_big_quiet_on)))
  refine wpQuiet_nil ?_
  rintro _ ⟨zq,rfl⟩)
 go_wp2_with fail
 go_roundw
 case rel=>exact⟨j+1,by omega,by go_num,zaY Bw⟩
 case measure=>simp[intOf];omega):P:=h
theorem MG(h:P:=by
 go_wp2_with fail
 go_round
 case rel=>have ao:=aD.out.trans (zbv (Below.refl W3.heap.size W3) zq |>.mono je)
           have L0:=bX.out.keep ao;have e1:(dx++[x])++gxs.drop (k+1)=dx++gxs.drop k:=by rw[Av.out,List.append_assoc];rfl
           refine⟨k+1,l,f,dx++[x],ak.out,by go_num,rfl,rfl,by rw[List.length_append,im];rfl,Lib.hid fun _=>by rw[e1];exact L0,Lib.hid fun y hy=>?_,nU,Lib.hid fun eS=>?_,HB.out.trans (ao.mono aG),Nat.le_trans iR ao.size⟩
           ·rcases List.mem_append.1 hy with hy|hy
            ·exact(fV.out y hy).keep ao
            ·rw[List.mem_singleton.1 hy];exact .inl bo.out
           ·obtain⟨h1,h2⟩:=kN.out eS;exact⟨by rw[h1,Ep.out,List.map_append];rfl,h2⟩
 case measure=>have:=ak.out;simp only[intOf];omega):P:=h
theorem MH(h:P:=by
 go_round
 case rel=>exact⟨k+1,ak.out,by go_num,by first|exact True.intro|rfl,HE.out⟩
 case measure=>have:=ak.out;simp only[intOf];omega):P:=h
theorem MI(h:P:=by
 refine⟨0,Nat.zero_le _,rfl,0,HX,fits_zero,Rat.le_refl,Rat.le_refl,?_,?_,?_,?_,?_⟩
 ·exact Bw
 ·simp
 ·exact zal (zal (zar _ _ _ rfl))
 ·exact zal (zar _ _ _ McB)
 ·exact zar _ _ _ McB):P:=h
theorem MJ(h:P:=by
 have g4:wq.heap[P]?=some (zbu part):=(g3.others P McD Mcy Mcy).trans (zal Ix.out);have g5:Two2 w wq C m:=DK.out.trans (Two2.trans McN g3);have G1:=Lib.hid g1;have G2:=Lib.hid g2;have G4:=Lib.hid g4;have G5:=Lib.hid g5;clear g1 g2 g3 g4 g5;go_wp2_with fail
 go_round
 case rel=>exact⟨k+1,_,_,by omega,by go_num,cN.out.symm,G1.out,G2.out,G5.out,G4.out⟩
 case measure=>simp[intOf];omega):P:=h
theorem MK(h:P:=by
 have ER:(E != 0)=true:=MdC;have HE:=Lib.hid h0;rw[if_neg h0];clear h0
 go_wp2_with (go_at_call 30
              go_must(refine(dQ.out _ Bw _ (zcl (zar _ _ _ McB))).mono ?_)
              rintro e wq ⟨h1,⟨_,rfl⟩|⟨hz,_⟩⟩;rotate_left 1
              ·exact absurd hz HE.out
              have aS:Below w.heap.size w wq:=Below.trans (zad (zad (Below.refl _ _) _) _ McB) (h1.mono McD);have aA:=Lib.hid aS
              clear h1 aS)
 go_ret2
 exact Ret.of rfl aA.out):P:=h
theorem ML(h:P:=by
 have ck:Hid (R=4):=by show _=_;rw[HR.out];simp[zcs, *]
 clear HR HK cX;go_wp2_with (go_at_call 61;refine(zbX _ _ Mc8).mono ?_;rintro e wq ⟨rfl,rfl⟩;rw[hq])
 go_ret
 rw[ck.out]
 exact Ret.of rfl Bw):P:=h
theorem MM(h:P:=by
 have HE:Hid (R=ixI (zlM place day) gs (k+1)):=by show _=_;rw[au.out,if_neg (by unfold zlM zaV;simp[cR, *])]
 go_wp2_with fail
 go_round
 case rel=>exact⟨k+1,ak.out,by go_num,HE.out,dF.out⟩
 case measure=>have:=ak.out;simp only[intOf];omega):P:=h
theorem MN(h:P:=by
 (try simp only)
 (repeat' split)<;>intro h<;>first|rfl|exact absurd rfl h):P:=h
theorem MO(h:P:=by
 go_upto_region 6 with fail
 (refine zaj Mcz Mcz ?_
  repeat(first|go_big_quiet_skip|(go_big_quiet_want;go_big_quiet_op;first|go_big_quiet_on|(apply Exists.intro;refine⟨fun _=>?_,?_⟩;(fail);go_big_quiet_on)))
  refine wpQuiet_nil ?_
  rintro _ ⟨zq,rfl⟩)
 go_wp2_with fail
 go_round
 case rel=>exact⟨k+1,ak.out,by go_num,HE,zbv HB.out zq⟩
 case measure=>have:=ak.out;simp only[intOf];omega):P:=h
theorem MP(h:P:=by
 gi_wp2
 have g2:=Boxed.set (.string ⟨#[]⟩) T2.out;have HD:=Lib.hid hd;have bJ:∀i,SpIx s x w .ret (pre++[(i,y1,y2)]) (wr.setCell ⟨w.heap.size+1+1,0,none⟩ (.string ⟨#[]⟩)):=fun i=>⟨⟨rfl,pre.map Prod.snd,(y1,y2),by simp,HP.out,HM.out,by rw[HO.out,HD.out];exact g2⟩,zaP (aK.trans (b8.out.mono Mcy)) McD _⟩
 first
  |exact⟨(KeepsOthers.setCell _ _ _).from _,bJ _⟩
  |(trace_state;fail "ret")):P:=h
theorem MQ(h:P:=by
 go_wp2_with fail
 go_meet
 exact⟨zaO (by simp[fm2, *]),by first|exact True.intro|rfl⟩):P:=h
theorem MR(h:P:=by
 go_wp2_with fail
 go_ret
 exact Ret.of (zaO HE.out.symm) HB.out):P:=h
theorem MS(h:P:=by
 clear bA;go_wp2_with (go_at_call 106;go_must(refine(nW.out _).mono ?_);rintro e wq ⟨rfl,z,rfl⟩)
 rw[HE.out];refine bodyPost_ret (v:=.tuple #[zaA o,.bool false]) ?_ rfl ?_
 ·exact zg0 rfl _ _ w.heap.size _ _ _ rfl rfl (by first|exact zbD (zek g0)|exact zek (zbD g0))
 ·exact Ret.of rfl (by first|exact zbv (zaP (zaP HB.out McB _) McB _) z|exact zaP (zaP (zbv HB.out z) McB _) McB _)):P:=h
theorem MT(h:P:=by
 go_roundg f'
 case measure=>omega
 case rel=>
  refine⟨f',y+1,Nat.le_refl _,by omega,by omega,by omega,HN,HC.out,by repeat(first|exact B_refl|exact Below.refl _ _|assumption|with_reducible refine zad ?_ _|with_reducible refine zbv ?_ _|with_reducible refine zaK ?_|with_reducible refine zd3 ?_ _|with_reducible refine zaP ?_ Mdu _),J_ne Mcy g0,?_⟩;have:=Joins.block_setCell (i:=0) g1 (.int .i64 (y+1))
  simpa using this):P:=h
theorem MU(h:P:=by
 go_wp2_with fail
 go_round
 case rel=>exact⟨k+1,es,by omega,by go_num,nj.out,by rw[aq,ng.out,Option.toList_none,List.append_nil];exact I2.out,aD.out,by have:=eG.out;omega⟩
 case measure=>simp[intOf];omega):P:=h
theorem MV(h:P:=by
 refine znb rfl _ _ w.heap.size _ _ _ _ _ _ rfl ?_ ?_ ?_ ?_ ?_ ?_<;>simp[go_sem]):P:=h
theorem MW(h:P:=by
 refine zbU rfl _ _ _ _ _ rfl ?_ ?_
 ·simp[go_sem,hC]
 ·simp[go_sem,hC]):P:=h
theorem MX(h:P:=by
 (repeat(first|exact zar _ _ _ (by simp[zaf];done)|with_reducible refine zbD ?_|with_reducible refine zal ?_))):P:=h
theorem MY(h:P:=by
 rcases h with⟨rfl,_⟩|⟨g,o,c,cur,rfl,_,hg,_⟩
 ·simp[za5]
 ·intro h;simp only[za5,Option.some.injEq]at h;subst h;rw[hg]at hT;simp only[Option.some.injEq,Obj.cells.injEq]at hT
  exact ai hT.2.1.symm):P:=h
theorem MZ(h:P:=by
 go_wp2_with (first
  |(go_at_call 87;refine(zbi _ _ _ _).mono ?_;rintro e wq ⟨rfl,rfl⟩;first|rw[v1]|rw[v2])
  |(go_at_call 112;refine(HG.out _).mono ?_;rintro e wq ⟨rfl,z,rfl⟩))
 go_ret
 exact Ret.of (zb5 kI.out.symm) (HB.out.trans (Below.mono (B:=wc.heap.size) Bw hs))):P:=h
theorem M0(h:P:=by
 rw[zhN (f:=⟨_,_,_,_,_,_,_,_⟩) (.inl rfl)]
 cases noB fr<;>cases noB pl<;>cases hy:(yr==0)<;>cases hc:(cl==0)<;>simp_all):P:=h
theorem M3(h:P:=by
 go_wp2_with fail
 go_ret
 exact⟨by rw[HE.out];rfl,rfl⟩):P:=h
theorem M4(h:P:=by
 unfold za8 at hd;simp only[Bool.and_eq_true,decide_eq_true_eq]at hd;refine⟨law.den.toNat,by omega,by omega,law.num,?_⟩;have hz:(law.den:Rat)≠0:=ratI Mcy;have e:((law.den.toNat:Nat):Rat)=(law.den:Rat):=by rw[<-Rat.intCast_natCast,Int.toNat_of_nonneg Mcy]
 rw[Rat.divInt_eq_div,e]
 grind):P:=h
theorem M5(h:P:=by
 go_round
 case rel=>exact⟨0+1,by omega,by go_num,by first|exact True.intro|rfl,fun j s hj hs=>by
  rcases Nat.lt_succ_iff_lt_or_eq.1 hj with hj|rfl
  ·exact HK.out j s hj hs
  ·simp at hs;rw[<-hs];exact ni.out⟩
 case measure=>simp[intOf]):P:=h
theorem M6(h:P:=by
 go_round
 case rel=>exact⟨1+1,by omega,by go_num,by first|exact True.intro|rfl,fun j s hj hs=>by
  rcases Nat.lt_succ_iff_lt_or_eq.1 hj with hj|rfl
  ·exact HK.out j s hj hs
  ·simp at hs;rw[<-hs];exact ni.out⟩
 case measure=>simp[intOf]):P:=h
theorem M7(h:P:=by
 go_round
 case rel=>exact⟨2+1,by omega,by go_num,by first|exact True.intro|rfl,fun j s hj hs=>by
  rcases Nat.lt_succ_iff_lt_or_eq.1 hj with hj|rfl
  ·exact HK.out j s hj hs
  ·simp at hs;rw[<-hs];exact ni.out⟩
 case measure=>simp[intOf]):P:=h
theorem M8(h:P:=by
 have hw:Region.wanted o (yielded ops a.tmps)=true:=by simp[Region.wanted,bN]
 rw[if_pos hw];unfold Oper.wp;simp[execOp,ho,hx,hi,hu,hrun,Result.andThen]
 exact h):P:=h
theorem M9(h:P:=by
 go_wp2_with (go_at_call 31;refine(bW.out _ Bw).mono ?_;rintro e wq ⟨rfl,z,rfl⟩;simp only[zln,Option.map_none])
 go_ret
 exact zbN HW.out Bw HG.out):P:=h
theorem Maa(h:P:=by
 go_wp2_with (go_at_call 190;go_must(refine(I4.out _ (zbv aj.out z)).mono ?_);rintro e wq ⟨v,rfl,o,b⟩;obtain⟨VA,vc,rfl,_,_⟩:=o.sl za9;have Hf:=Lib.hid ((zbv aj.out z).trans (b.mono McH));clear o b)
 go_ret
 exact Ret.of (zaO (by simp[hz])) Hf.out):P:=h
theorem Mab(h:P:=by
 refine slw_of ((zja dX cq McA).sl zcf) (by rw[List.map_append,yK.out];rfl) fun y hy=>?_
 rcases List.mem_append.1 hy with hy|hy
 ·exact⟨(td.out y hy).1,(td.out y hy).2.keep dm⟩
 ·rw[List.mem_singleton.1 hy]
  exact⟨lE.out,HS.out _ dm⟩):P:=h
theorem Mac(h:P:=by
 go_round
 case rel=>exact⟨k+1,ak.out,by go_num,by rw[aB.out];exact H1.out,aD.out⟩
 case measure=>have:=ak.out;simp only[intOf];omega):P:=h
theorem Mad(h:P:=by
 first
  |exact⟨(KeepsOthers.setCell _ _ _).from _,bJ _⟩
  |(trace_state;fail "ret")):P:=h
theorem Mae(h:P:=by
 (go_wp2_with fail
  go_ret
  exact Ret.of (zb5 Mdf) Bw)):P:=h
theorem Maf(h:P:=by
 refine zbU rfl _ _ _ _ _ rfl ?_ ?_
 ·simp[go_sem]
 ·simp[go_sem]):P:=h
theorem Mag(h:P:=by
 clear hR;go_wp2_with fail
 go_ret
 exact Ret.of (zaO HE.out.symm) Bw):P:=h
theorem Mah(h:P:=by
 go_wp2_with fail
 go_ret
 exact zbN HW.out Bw iZ.out):P:=h
theorem Mai(h:P:=by
 rw[zhN (f:=⟨_,_,_,_,_,_,_,_⟩) (.inl rfl)]
 cases noB fr<;>cases noB pl<;>cases hy:(yr==0)<;>cases hc:(cl==0)<;>cases ps<;>simp_all):P:=h
theorem Maj(h:P:=by
 go_wp2_with (at_builtin;refine zat (n:=xs.length) (m:=1) rfl _ _ rfl zdN zap zcb rfl HO.out rfl rfl rfl HS.out McS Mcy aL ?_;intro v' w' h1 h2 h3)
 all_goals go_ret
 all_goals exact⟨_,rfl,h1,h2,h3⟩):P:=h
theorem Mak(h:P:=by
 go_quiet (fail)
 go_wp2_with fail
 go_meet
 exact⟨zaO (by simp[*]),zd3 (Below.refl _ _) _⟩):P:=h
theorem Mal(h:P:=by
 rw[List.getElem?_set_ne hj]at e2;have ai:T'≠T:=fun e=>by
  subst e;exact hj ((List.getElem?_inj (List.getElem?_eq_some_iff.1 hi).1 hT.nd).1 (hi.trans e1.symm))
 exact(hT.all j T' g e1 e2).kept hg hx ai McA McA):P:=h
theorem Mam(h:P:=by
 go_wp2_with (go_at_call 72;go_must(refine(zct _ _ _ _).mono ?_);rintro e wq ⟨rfl,rfl⟩)
 go_ret
 exact⟨rfl,rfl⟩):P:=h
theorem Man(h:P:=by
 go_wp2_with fail
 go_ret
 exact Ret.of rfl Bw):P:=h
theorem Mao(h:P:=by
 have HE:=Lib.hid he;clear he;go_wp2_with fail
 go_round
 case rel=>exact⟨by first|exact True.intro|rfl,.inr (.inl ⟨by go_num,by rw[HE.out]⟩)⟩
 case measure=>simp only[intOf];decide):P:=h
theorem Map(h:P:=by
 have:=zdS (t:=76) zcf (WX.drew.alloc (.cells #[.int .i64 d.kind,.int .i64 d.day,.string d.place,.string d.frm,.slice B d.to.length c,.int .i64 d.cls,.int .i64 d.years] 76)) WX.heap.size McB
 simpa using this):P:=h
theorem Maq(h:P:=by
 have HE:Hid (R=(k:Int)):=by show _=_;rw[au.out,if_pos (by unfold zlM zaV;simp[cR, *])]
 go_wp2_with fail
 go_ret
 exact Ret.of (zb5 HE.out.symm) (aj.out.trans (dF.out.mono aj.out.size))):P:=h
theorem Mar(h:P:=by
 rw[hd]at td;clear hx hd;go_wp2_with (go_at_call 19;go_must(refine(td.out _ Mdo).mono ?_);rintro e wq ⟨rfl,z,rfl⟩)
 go_ret
 exact Ret.of (by rw[HE.out];rfl) (zbv aj.out z)):P:=h
theorem Mas(h:P:=by
 go_wp2_with fail
 go_quiet (fail)
 go_wp2_with fail
 go_ret
 exact Ret.of (zaO (by rw[HU.out];simp)) Bw):P:=h
theorem Mat(h:P:=by
 rw[List.drop_eq_nil_of_le Mcy,zeP]at hf;have HF:=Lib.hid hf;clear hf hS;have js:¬(k:Int)<(ls.length:Int):=Mcy;go_wp2_with fail
 go_ret
 exact Ret.of (zb5 (by rw[HF.out])) Bw):P:=h
theorem Mau(h:P:=by
 go_wp2_with (go_at_call 61;refine(zbX _ _ hs).mono ?_;intro e wq hq;rcases Ret0.bools hq with⟨rfl,⟨hb,rfl⟩|⟨hb,rfl⟩⟩<;>clear hq)
 all_goals go_ret
 all_goals exact Ret.of (zaO (by simp[*])) Bw):P:=h
theorem Mav(h:P:=by
 go_enter Tryz.func208,Tryz.ntmps208
 go_wp2_with (go_at_call 221;refine(zou _ _ h0 h1).mono ?_;rintro e wq ⟨rfl,rfl⟩;rw[hl])
 all_goals go_ret
 all_goals exact⟨by rw[HD.out,hl];rfl,rfl⟩):P:=h
theorem Maw(h:P:=by
 go_wp2_with fail
 refine bodyPost_ret (v:=zaA (zag (P++(qn,qr)::Q) nm)) ?_ rfl ?_
 ·rw[IM.out];exact Mcm
 ·exact Ret.of rfl Bw):P:=h
theorem Max(h:P:=by
 go_ret
 exact Ret.of (zaO (by rw[ck.out];rfl)) (HB.out.trans (Below.mono (B:=wr.heap.size) Bw aG))):P:=h
theorem May(h:P:=by
 go_wp2_with fail
 go_ret
 rw[au.out]
 exact Ret.of rfl Bw):P:=h
theorem Maz(h:P:=by
 show((Sort.mapBlock _ _ _).heap++os)[g]?=_;rw[Array.getElem?_append_left Md2];simp only[Sort.mapBlock,Sort.ahead];rw[Array.getElem?_modify,if_pos rfl,hg]
 rfl):P:=h
theorem MaA(h:P:=by
 show((Sort.mapBlock _ _ _).heap++os)[k]?=_;rw[Array.getElem?_append_left Md2];simp only[Sort.mapBlock,Sort.ahead]
 rw[Array.getElem?_modify,if_neg FX]):P:=h
theorem MaB(h:P:=by
 go_wp2_with (go_at_call 107;go_must(refine(qo.out _ Mdo).mono ?_);rintro e wq ⟨rfl,z,rfl⟩)
 go_ret
 exact Ret.of (zb5 HE.out.symm) (zbv aj.out z)):P:=h
theorem MaC(h:P:=by
 go_wp2_with fail
 go_ret
 exact⟨rfl,rfl⟩):P:=h
theorem MaD(h:P:=by
 have e:xs.flatMap zaa=(xs.take i).flatMap zaa++(xs.drop i).flatMap zaa:=Mdk;rw[e,List.getElem?_append_left Mcy]
 exact hj):P:=h
theorem MaE(h:P:=by
 clear aq hs;go_wp2_with fail
 go_round
 case rel=>exact⟨k+1,ak.out,by go_num,by rw[aB.out];exact HO.out,HB.out⟩
 case measure=>have:=ak.out;simp only[intOf];omega):P:=h
theorem MaF(h:P:=by
 go_enter Tryz.func203,Tryz.ntmps203
 go_wp2_with (go_at_call 219;refine(zph _ _ h0 h1).mono ?_;rintro e wq ⟨rfl,rfl⟩;rw[hl])
 all_goals go_ret
 all_goals exact⟨rfl,rfl⟩):P:=h
theorem MaG(h:P:=by
 have h0:xs=[]:=by
  cases xs with
  |nil=>rfl
  |cons y ys=>obtain⟨b,off,h,_⟩:=hS McB;cases h
 subst h0;go_wp2_with fail
 go_ret
 exact⟨_,rfl,OwnS.nil,Below.refl _ _⟩):P:=h
theorem MaH(h:P:=by
 rename_i hc
 have h:(zck laws s k last d).2=0:=h;rw[h]at hc
 exact absurd hc McA):P:=h
theorem MaI(h:P:=by
 go_wp2_with fail
 go_round
 case rel=>exact⟨by first|exact True.intro|rfl,.inr (.inr ⟨by go_num,by rw[HE.out]⟩)⟩
 case measure=>simp only[intOf];decide):P:=h
theorem MaJ(h:P:=by
 have:=(List.getElem?_eq_some_iff.1 hi).1;rw[List.length_eraseIdx_of_lt this]
 omega):P:=h
theorem MaK(h:P:=by
 go_wp2_with (go_at_call 189;go_must(refine(fw.out _ Mdo).mono ?_);rintro e wq ⟨rfl,z,rfl⟩)
 go_ret
 exact Ret.of (zaO McB) (zbv aj.out z)):P:=h
theorem MaL(h:P:=by
 have ar:¬(k:Int)<(l.length:Int):=Mcy;rw[List.take_of_length_le Mcy]at HO;clear aa hB;go_wp2_with fail
 go_ret
 exact⟨_,rfl,HO.out,HB.out⟩):P:=h
theorem MaM(h:P:=by
 rw[aU]at this
 simpa only[zln,Option.map_some,iw]using this):P:=h
theorem MaN(h:P:=by
 clear hx;go_wp2_with (go_at_call 38;go_must(refine(zcN _ _).mono ?_);rintro e wq ⟨rfl,rfl⟩;rw[hd])
 go_ret
 exact Ret.of (zb5 HE.out.symm) aD.out):P:=h
theorem MaO(h:P:=by
 (repeat(first|with_reducible exact zar _ _ _ McB|with_reducible exact zar _ _ _ MdE|with_reducible refine zbD ?_|with_reducible refine zal ?_))):P:=h
theorem MaP(h:P:=by
 rw[bf];clear hN tj bf cE dX
 exact⟨rfl,aq,jh,(KeepD.below bk).trans (KeepD.cells (zca wr T _ _ _ _ _ _) mZ.out McA)⟩):P:=h
theorem MaQ(h:P:=by
 refine Nat.le_trans (List.length_filter_le _ _) ?_;rw[List.length_take]
 omega):P:=h
theorem MaR(h:P:=by
 rw[hc]at HC;go_wp2_with (go_at_call 80;go_must(refine(HC.out _).mono ?_);rintro e wq ⟨rfl,rfl⟩)
 go_ret
 exact⟨by rw[ck.out];rfl,rfl⟩):P:=h
theorem MaS(h:P:=by
 have tj:=Lib.hid gH;clear gH;go_wp2_with fail
 go_ret
 exact zbN HW.out b8.out (tj.out.trans McB)):P:=h
theorem MaT(h:P:=by
 obtain⟨h1,g',h2,h3⟩:=znR n day l (k+1) j i h;refine⟨by omega,g',?_,h3⟩;rw[show i-k=(i-(k+1))+1 by omega,List.getElem?_cons_succ]
 exact h2):P:=h
theorem MaU(h:P:=by
 go_wp2_with (go_at_call 6;go_must(refine(qq.out _ Meq).mono ?_);rintro e wq ⟨rfl,z,rfl⟩)
 go_ret
 exact Ret.of rfl (zbv aA.out z)):P:=h
theorem MaV(h:P:=by
 go_wp2_with (go_at_call 72;refine(zct _ _ _ _).mono ?_;rintro e wq ⟨rfl,rfl⟩)
 all_goals go_ret
 all_goals exact Ret.of (zaO (by rw[hv])) Bw):P:=h
theorem MaW(h:P:=by
 have hx:decide ((10:Int)<(ls.length:Int))=true:=McD;go_wp2_with fail
 go_ret
 exact Ret.of (zb5 (by rw[zaD,if_pos McD])) Bw):P:=h
theorem MaX(h:P:=by
 go_round
 case rel=>exact⟨k+1,ak.out,by go_num,.inr ⟨uO.out,dH.out⟩,av.out⟩
 case measure=>have:=ak.out;simp only[intOf];omega):P:=h
theorem MaY(h:P:=by
 simp only[List.any_append,List.any_cons,List.any_nil,Bool.or_false]at ih
 omega):P:=h
theorem MaZ(h:P:=by
 go_ret2
 refine⟨out,true,fun _=>⟨by rw[HR.out,jB.out];rfl,?_⟩,by simp,Ret.of rfl Bw⟩;have h:=jB.out;simp[zbn,inR]at h
 omega):P:=h
theorem Ma0(h:P:=by
 go_upto_region 6 with fail
 go_quiet (fail)
 go_wp2_with fail
 go_meet
 exact⟨by rw[jX.out],zd3 fx.out _⟩):P:=h
theorem Ma1(h:P:=by
 go_wp2_with (go_at_call 43;refine(ib.out _ Bw _).mono ?_;rintro e wq ⟨rfl,z,rfl⟩)
 go_ret
 exact zbN HW.out Bw (by rw[iZ.out];simp)):P:=h
theorem Ma2(h:P:=by
 rintro e wq ⟨rfl,z,rfl⟩
 exact⟨rfl,hW.trans ((zaq W z).mono hW.size)⟩):P:=h
theorem Ma3(h:P:=by
 go_ret
 exact Ret.of (zb5 (by rw[HR.out];simp[zcs,p1,p2,isDay0,inR34, *])) (HB.out.trans (Below.mono (B:=wc.heap.size) Bw hs))):P:=h
theorem Ma4(h:P:=by
 go_ret
 exact⟨by rw[ck.out];rfl,rfl⟩):P:=h
theorem Ma5(h:P:=by
 clear hx;rw[zdC h,hp]
 go_simp):P:=h
theorem Ma6(h:P:=by
 rcases aa with⟨rfl,_⟩|⟨g',o,c',cur,rfl,_,fB,_⟩
 ·cases hk
 ·simp only[za5,Option.some.injEq]at hk;subst hk
  exact⟨cur,_,fB⟩):P:=h
theorem Ma7(h:P:=by
 go_wp2_with fail
 go_ret
 exact Ret.of (zaO HE.out.symm) aj.out):P:=h
theorem Ma8(h:P:=by
 first|omega|(simp[zaf];done)|(simp[zaf];omega)):P:=h
theorem Ma9(h:P:=by
 show _<=((Sort.mapBlock _ _ _).heap++os).size
 simp[Sort.mapBlock,Sort.ahead]):P:=h
theorem Mba(h:P:=by
 simp only[Value.slice.injEq]at e'
 omega):P:=h
theorem Mbb(h:P:=by
 have:=zdS (t:=107) zbj (WX.drew.alloc (.cells #[.string d.frm,.string tn] 107)) WX.heap.size McB
 simpa using this):P:=h
theorem Mbc(h:P:=by
 have:=aN 0 (.string q.name) (by simp[hq,RPart.cells])
 simpa using this):P:=h
theorem Mbd(h:P:=by
 refine cP k ok hk ar ?_ cX;by_cases hjk:j=k
 ·subst hjk;exact jr
 ·rw[getD_set_ne true hjk]at dE;exact dE):P:=h
theorem Mbe(h:P:=by
 have:sh.num≠0:=fun e=>hz (Rat.num_eq_zero.1 e)
 simpa using this):P:=h
theorem Mbf(h:P:=by
 go_wp2_with fail
 go_ret
 exact Ret.of (zaO Ej.out.symm) (lB.out.trans (Below.mono Bw lB.out.size))):P:=h
theorem Mbg(h:P:=by
 have:(zai s n).length<=s.children.length:=by unfold zai;rw[List.length_map];exact List.length_filter_le _ _
 omega):P:=h
theorem Mbh(h:P:=by
 refine fun j hj hQ=>⟨hQ.1,fun e=>?_⟩
 rcases h3 j e with h|h
 ·exact hQ.2 h
 ·omega):P:=h
theorem Mbi(h:P:=by
 refine aZ.mono ?_;rintro e wq ⟨rfl,hB⟩
 exact Ret.of rfl hB):P:=h
theorem Mbj(h:P:=by
 rename_i h
 have:q=0:=by simpa using h
 subst this;split
 ·rename_i hs;rw[zau.1 hs];grind
 ·rfl):P:=h
theorem Mbk(h:P:=by
 refine aZ.mono ?_;rintro e wq ⟨rfl,rfl⟩
 exact⟨rfl,rfl⟩):P:=h
theorem Mbl(h:P:=by
 clear HR cK fM;go_enter Tryz.func49,Tryz.ntmps49
 go_wp2_with fail
 go_ret
 rw[HX.out]
 exact Ret.of rfl Bw):P:=h
theorem Mbm(h:P:=by
 subst f9
 exact .inr ⟨g,o,0,cur,rfl,ji,HG.out,Nat.le_refl _,Nat.zero_le _,by omega,fun j u hj=>by simp at hj⟩):P:=h
theorem Mbn(h:P:=by
 split
 ·exact h0
 ·simp only
  repeat(first|split|exact h0)):P:=h
theorem Mbo(h:P:=by
 have h1:=b9 e he hb;have h0:=(mem_ready.1 hr).1;rw[zO]at h1;rw[getD_both h0]at h1
 cases h1):P:=h
theorem Mbp(h:P:=by
 induction a with
 |nil=>rw[List.nil_append,sumQ,Rat.zero_add]
 |cons x a ih=>rw[List.cons_append,sumQ,sumQ,ih];grind):P:=h
theorem Mbq(h:P:=by
 go_wp2_with fail
 go_ret
 exact Ret.of (zaO McB) Bw):P:=h
theorem Mbr(h:P:=by
 go_wp2_with fail
 go_ret
 exact⟨rfl,HW.out.keep (n:=w.heap.size) Bw,Below.mono (B:=w.heap.size) Bw Mcy⟩):P:=h
theorem Mbs(h:P:=by
 repeat(first|exact zar _ _ _ MdE|with_reducible refine zbD ?_|with_reducible refine zal ?_)):P:=h
theorem Mbt(h:P:=by
 rw[h2]at h1;simp only[Option.some.injEq]at h1;rw[h1]at h3;have:=(h3.ge g eT).2
 omega):P:=h
theorem Mbu(h:P:=by
 rw[ziG,eqSp_refl,if_pos rfl]at this
 exact this):P:=h
theorem Mbv(h:P:=by
 rw[List.getElem?_set_self eV]at e2;simp only[Option.some.injEq]at e1 e2;subst e1 e2
 exact hN):P:=h
theorem Mbw(h:P:=by
 refine zbD ?_;have:=Joins.block_setCell (i:=2) GG.out (.int .i64 af)
 simpa using this):P:=h
theorem Mbx(h:P:=by
 obtain⟨cur,mx⟩:=ziI bT hj
 exact⟨(bT.ge j hj).1,zdP hra' mx⟩):P:=h
theorem Mby(h:P:=by
 go_wp2_with fail
 go_meet
 rw[fS]at yb
 exact⟨by rw[yb];rfl,rfl⟩):P:=h
theorem Mbz(h:P:=by
 rcases List.mem_cons.1 h1 with rfl|h1
 ·exact .inl McB
 ·exact .inr (by simp[h1])):P:=h
theorem MbA(h:P:=by
 repeat(first|exact zar _ _ _ rfl|with_reducible refine zbD ?_|with_reducible refine zal ?_)):P:=h
theorem MbB(h:P:=by
 go_wp2_with fail
 all_goals go_meet
 all_goals exact⟨we.out ay,rfl⟩):P:=h
theorem MbC(h:P:=by simp[List.getD_eq_getElem?_getD,List.getElem?_eq_getElem (show ms.length-1-i<ms.length by omega)]):P:=h
theorem MbD(h:P:=by
 go_wp2_with fail
 go_meet
 exact⟨zal (zar _ _ _ rfl),zar _ _ _ McB,Bw⟩):P:=h
theorem MbE(h:P:=by
 obtain⟨b',off',he,_,aN⟩:=hS.at (k:=k-1) Mcy;cases he
 exact aN 0 _ rfl):P:=h
theorem MbF(h:P:=by exact⟨fun o h=>by cases h;rfl,fun h=>by cases h⟩):P:=h
theorem MbG(h:P:=by
 go_wp2_with fail
 go_meet
 exact⟨by rw[ky],by first|exact True.intro|rfl⟩):P:=h
theorem MbH(h:P:=by
 rw[List.length_map]
 exact List.length_filter_le _ _):P:=h
theorem MbI(h:P:=by
 rename_i hl
 simp only[Bool.or_eq_true,Bool.and_eq_true,beq_iff_eq,bne_iff_ne]at hl
 omega):P:=h
theorem MbJ(h:P:=by
 go_wp2_with fail
 go_ret
 exact Ret.of rfl (HB.out.trans (Below.mono Bw HB.out.size))):P:=h
theorem MbK(h:P:=by
 rw[hu]at this;rw[<-this];congr 1
 unfold Addr.add
 split<;>split<;>simp_all<;>omega):P:=h
theorem MbL(h:P:=by
 rw[h']at hk;simp only[Option.some.injEq,Obj.cells.injEq]at hk
 exact ht hk.2.1.symm):P:=h
theorem MbM(h:P:=by
 go_ret2
 rw[HX.out];have cE:=fK.out;have aG:=cE.size
 exact Ret.of rfl Bw):P:=h
theorem MbN(h:P:=by
 rintro rfl;have:=HH.out;rw[show y=1800+day/366+10 by omega]at hc
 omega):P:=h
theorem MbO(h:P:=by
 subst cB
 exact hy.wpOp hi hS ⟨by rw[getD_set_ne false kn,dt hc hr];exact hS,H⟩):P:=h
theorem MbP(h:P:=by
 go_wp2_with fail
 go_ret
 refine⟨congrArg Ending.returned (zb5 ?_),rfl⟩
 rw[HV.out]):P:=h
theorem MbQ(h:P:=by
 go_ret2
 exact⟨out,false,by simp,fun _=>by rw[HR.out,jB.out];rfl,Ret.of rfl Bw⟩):P:=h
theorem MbR(h:P:=by
 refine zbU rfl _ _ w.heap.size _ _ rfl ?_ ?_
 ·simp[go_sem]
 ·simp[go_sem]):P:=h
theorem MbS(h:P:=by
 rintro e wq ⟨rfl,z,rfl⟩
 exact⟨rfl,dD.trans ((zaq W' z).mono dD.size)⟩):P:=h
theorem MbT(h:P:=by
 have:=Joins.block_setCell (i:=1) g1 (.int .i64 ((m:Int)+1))
 simpa using this):P:=h
theorem MbU(h:P:=by
 have:=(List.getElem?_eq_some_iff.1 hk).1;simp at this
 omega):P:=h
theorem MbV(h:P:=by
 refine .inl ⟨hd,Ret.of rfl ?_⟩
 exact Bw):P:=h
theorem MbW(h:P:=by
 refine .inr ⟨hd,Ret.of rfl ?_⟩
 exact Bw):P:=h
theorem MbX(h:P:=by
 subst cB
 exact hy.wpOp hi trivial ⟨by rw[getD_set_ne false kn];exact hS,H⟩):P:=h
theorem MbY(h:P:=by
 obtain⟨h1,h2⟩:=zoi g l k x h
 exact⟨List.mem_cons_of_mem _ h1,h2⟩):P:=h
theorem MbZ(h:P:=by
 rw[if_pos rfl]
 exact⟨fun o h=>by(cases h),fun _=>zfz McB⟩):P:=h
theorem Mb0(h:P:=by
 unfold WldC at hC;rw[hC]at hx
 simp at hx):P:=h
theorem Mb1(h:P:=by
 clear xs0 xd0 xr0 s0 s1 s2 s3 s4 s5 s6 d0 d1 d2 d3 d4 d5 d6 r0 r1 r2 r3 r4 r5 r6 rf ls ld lr;obtain⟨⟨xs0,xd0,xr0⟩,⟨s0,s1,s2,s3,s4,s5,s6⟩,⟨d0,d1,d2,d3,d4,d5,d6⟩,⟨r0,r1,r2,r3,r4,r5,r6⟩,rf,ls,ld,lr⟩:=ddF (av.out _ (bm))
 exact Mg):P:=h
theorem Mb2(h:P:=by
 have d1:wq.cell? ⟨w.heap.size,1,none⟩=some (.int .i64 dy):=Mc2;have d2:wq.cell? ⟨w.heap.size,2,none⟩=some (.string pl):=Mc2;have d3:wq.cell? ⟨w.heap.size,3,none⟩=some (.string fr):=Mc2;have d4:wq.cell? ⟨w.heap.size,4,none⟩=some (.slice B ts.length c):=Mc2;have d5:wq.cell? ⟨w.heap.size,5,none⟩=some (.int .i64 cl):=Mc2;have d6:wq.cell? ⟨w.heap.size,6,none⟩=some (.int .i64 yr):=Mc2;clear hW hB hK h0 gu fP cD;refine NxM hK (fun hHeld=>?_) (⟨d0,d1,d2,d3,d4,d5,d6⟩);clear hK K;refine OnH 5 fun K hK=>?_
 go_simp
 refine NxM hK (fun hHeld=>?_) (⟨d0,d1,d2,d3,d4,d5,d6⟩);clear hK K;refine wpAnyH_done Mcz ?_ _;clear d0 d2 d3 d4 d5 d6 d1;go_upto_region 18 with fail
 exact Md):P:=h
theorem Mb3(h:P:=by
 refine NxM hK fun hHeld=>?_
 clear hK K;refine OnM 14 true fun K hK=>?_
 refine zak (v:=.slice A5 (a+[x].length) c5) (n:=a+[x].length) (m:=xs.length-a) rfl _ _ rfl zbB za9 zbA rfl (xs:=xs.take a++[x]) (ys:=xs.drop a) g1 Mep rfl (pa.out) (vj.out w5 ao) McW Mc1 (by have:=ao.size;omega) ?_;intro v6 w6 k1 k2 k3;have aP:Below wr.heap.size wr w6:=Below.grown ao k2 ao.size (fun j hj=>(g1.ge j hj).1);refine NxM hK fun hHeld=>?_
 clear hK K;refine OnM 15 true fun K hK=>?_
 go_simp
 refine NxM hK fun hHeld=>?_
 clear hK K;refine zaM Mcz ?_ _;clear hHeld;have K1:=Lib.hid k1;have bj:=Lib.hid aP;clear k1 k2 k3 aP ao g1 g2 g3;go_wp2_with fail
 go_round
 case rel=>exact⟨k+1,ak.out,by go_num,by rw[aB.out];exact K1.out.base_le Mcy,HB.out.trans (bj.out.mono Mcy)⟩
 case measure=>have:=ak.out;simp only[intOf];omega):P:=h
theorem Mb4(h:P:=by
 refine NxM hK (fun hHeld=>?_) (.inr (bY.out _ aC));clear hK K;refine OnM 10 true fun K hK=>?_
 refine zak (v:=.slice V4 a c4) (n:=a) (m:=1) rfl _ _ rfl zbB za9 zbA rfl (xs:=xs.take a) (ys:=[x]) (h1) eK.out rfl rfl (zfQ n2) McI McX MdB ?_;intro v5 w5 g1 g2 g3;obtain⟨A5,c5,dY,_,_⟩:=g1.sl za9;rw[List.length_append,eK.out]at dY;subst dY;have ao:Below wr.heap.size wr w5:=Below.grown aC g2 (by have:=(aC).size;omega) (fun j hj=>((h1).ge j hj).1);refine NxM hK fun hHeld=>?_
 clear hK K;refine OnM 14 true fun K hK=>?_
 refine zak (v:=.slice A5 (a+[x].length) c5) (n:=a+[x].length) (m:=0) rfl _ _ rfl zbB za9 zbA rfl (xs:=xs.take a++[x]) (ys:=xs.drop a) g1 Mep rfl (by rw[<-pa.out];omega) (vj.out _ w5 ao) McW Mc1 (by have:=ao.size;omega) ?_
 exact Mi):P:=h
theorem Mb5(h:P:=by
 have HR:Hid (R=false):=by(show _=_;rw[hR];rfl)
 exact Mf):P:=h
theorem Mb6(h:P:=by
 have HR:Hid (R=false):=by(show _=_;rw[hR];simp[zae, *])
 exact Mf):P:=h
theorem Mb7(h:P:=by
 have y2:ot.toList.isEmpty=true:=z2;have w2:ot.toList=[]:=Mel;cases z3:noB pl
 ·exact Mcx
 ·have y3:pl.toList.isEmpty=true:=z3;have w3:pl.toList=[]:=Mem
  exact Mcv):P:=h
theorem Mb8(h:P:=by
 go_wp2_with (go_at_call 108
              go_must(refine(kR.out _ (zaq W0 zq)).mono ?_)
              rintro e w5 ⟨a0,a1,a2,a3,a4,a5,a6,rfl,aV,ao,aq⟩;obtain⟨⟨_,_,_,rfl⟩,⟨_,_,_,rfl⟩,⟨_,_,_,rfl⟩,⟨_,_,_,rfl⟩,⟨_,_,_,rfl⟩,⟨_,_,_,rfl⟩,⟨_,_,_,rfl⟩⟩:=zc2 aV;have ao:=(zaq W0 zq).trans (ao.mono (zaq W0 zq).size);have aR:=Lib.hid ao;have aB:=Lib.hid aq;obtain⟨_,_,xr5⟩:=av.out w5 ao;obtain⟨t0,t1,t2,t3,t4,t5,t6⟩:=zaF xr5;have tf:=frz xr5
              clear ao aq aV)
 exact Mv):P:=h
theorem Mb9(h:P:=by
 refine NxM hK (fun hHeld=>?_) (aE.out _ FR3);clear hK K;refine OnM 27 false fun K hK=>?_
 refine zak (v:=.slice QA pz.length qc) (n:=pz.length) (m:=1) rfl _ _ rfl zbB za9 zbA rfl (xs:=pz) (ys:=[fr]) (ob3.keep (n:=w3.heap.size) Bw) rfl rfl rfl (zcl (x2)) McS Mcy (by have:=HW.out.lt;(try simp);omega) ?_
 exact Ma):P:=h
theorem Mca(h:P:=by
 have HR:Hid (R=true):=by(show _=_;rw[hR];simp[zae, *])
 exact Mf):P:=h
theorem Mcb(h:P:=by
 have y2:ot.toList.isEmpty=false:=z2;have w2:¬ot.toList=[]:=Mel
 exact Mh):P:=h
theorem Mcc(h:P:=by
 rcases List.mem_append.1 hy with hy|hy
 ·exact((uy.out y hy).keep eF.out).kept (zav _ _ _ _) mC
 ·rw[List.mem_singleton.1 hy]
  exact .inr ⟨(uX.out.keep eF.out).kept (zav _ _ _ _) mC McA,(lM.out.ro').kept (zav _ _ _ _) mC McA⟩):P:=h
theorem Mcd(h:P:=by
 rw[List.drop_eq_nil_of_le Mcy]at hx;have HX:=Lib.hid hx;clear hx dI aw kw;have js:¬(k:Int)<(ps.length:Int):=Mcy;go_wp2_with fail
 all_goals go_ret
 all_goals exact Ret.of (zaO (by rw[HX.out];first|(simp[zco,zgP, *];done)|(simp[zco,zgP, *];omega))) Bw):P:=h
theorem Mce(h:P:=by
 have w2:¬fr.toList=[]:=by simpa using(show fr.toList.isEmpty=false from z2)
 cases xP:zaS fr
 ·have fu:zcB fr=false:=by rw[<-zd0,xP]
  exact Mr
 ·have fu:zcB fr=true:=by rw[<-zd0,xP]
  exact Mr):P:=h
theorem Mcf(h:P:=by
 refine NxM hK (fun hHeld=>?_) (.inr (aE.out _ aC));clear hK K;have o9:=h1;have n9:=n2;have e9:=aC
 exact Mk):P:=h
theorem Mcg(h:P:=by
 refine NxM hK (fun hHeld=>?_) (.inr (aE.out _ aC));clear hK K;have o9:=h1;have n9:=n2;have e9:=aC
 exact Mn):P:=h
theorem Mch(h:P:=by
 refine NxM hK (fun hHeld=>?_) (.inr (aE.out _ aC));clear hK K;have o9:=h1;have n9:=n2;have e9:=aC
 exact Mo):P:=h
theorem Mci(h:P:=by
 refine NxM hK (fun hHeld=>?_) (.inr (aE.out _ aC));clear hK K;have o9:=h1;have n9:=n2;have e9:=aC
 exact Mp):P:=h
theorem Mcj(h:P:=by
 refine NxM hK (fun hHeld=>?_) (.inr (aE.out _ aC));clear hK K;have o9:=h1;have n9:=n2;have e9:=aC
 exact Mq):P:=h
theorem Mck(h:P:=by
 go_wp2_with fail
 go_loop [5,8] (fun a b=>b=.int .i64 0) (fun _ _=>0)
 case atStart=>rfl
 case round=>
  obtain rfl:=hrel
  exact MaC):P:=h
theorem Mcl(h:P:=by
 refine bodyPost_ret (v:=zaA 0) ?_ rfl ?_
 ·exact MW
 ·exact MbW):P:=h
theorem Mcm(h:P:=by
 refine zbU rfl _ _ w.heap.size _ _ rfl ?_ ?_<;>simp[go_sem]):P:=h
theorem Mcn(h:P:=by
 have y3:pl.toList.isEmpty=true:=z3;have w3:pl.toList=[]:=Mem
 exact Mh):P:=h
theorem Mco(h:P:=by
 have sE:¬((j:Int)<(xs.length:Int)):=Mcy
 exact Man):P:=h
theorem Mcp(h:P:=by
 have:=zg9 (wr.drew.alloc (.cells #[.string x] 9)) wr.heap.size McB
 simpa using this):P:=h
theorem Mcq(h:P:=by
 go_wp2_with (go_at_call 202;refine(qp.out _).mono ?_;rintro e wq ⟨rfl,rfl⟩)
 exact Mw):P:=h
theorem Mcr(h:P:=by
 have w2:fr.toList=[]:=by simpa using(show fr.toList.isEmpty=true from z2)
 exact Mr):P:=h
theorem Mcs(h:P:=by
 obtain rfl:k=m:=by omega
 have br:¬(k:Int)<(k:Int):=Mcy
 exact MaC):P:=h
theorem Mct(h:P:=by
 refine NxM hK (fun hHeld=>?_) (.inr (bY.out _ aC));clear hK K;refine OnM 10 true fun K hK=>?_
 refine zak (v:=.slice V4 a c4) (n:=a) (m:=1) rfl _ _ rfl zbB za9 zbA rfl (xs:=xs.take a) (ys:=[x]) (h1) eK.out rfl rfl (zfQ n2) McI McX MdB ?_;intro v5 w5 g1 g2 g3;obtain⟨A5,c5,dY,_,_⟩:=g1.sl za9;rw[List.length_append,eK.out]at dY;subst dY;have ao:Below wr.heap.size wr w5:=Below.grown aC g2 (by have:=(aC).size;omega) (fun j hj=>((h1).ge j hj).1)
 exact Mb3):P:=h
theorem Mcu(h:P:=by
 rw[aO]at hr;rw[ziZ aO]at ej;have HE:Hid (R=(s,6)):=Lib.hid hr;clear hr aO;go_upto_region 3 with(go_at_call 42;go_must(refine(ej.out _ (Below.refl _ _)).mono ?_);rintro e wq ⟨rfl,z,rfl⟩)
 have bm:=zaq W0 z
 exact Mb1):P:=h
theorem Mcv(h:P:=by
 by_cases t1:tl=0
 ·skip
  by_cases u1:nu=0
  ·skip
   by_cases u2:de=0
   ·skip
    exact Mh
   ·skip
    exact Mh
  ·skip
   exact Mh
 ·skip
  exact Mh):P:=h
theorem Mcw(h:P:=by
 have HE:Hid (R=(s,28)):=Mef;rw[cf]at fL;clear hr cf;go_upto_region 17 with(go_at_call 19;go_must(refine(fL.out).mono ?_);rintro e wq ⟨rfl,z,rfl⟩)
 have bm:=zaq W0 z
 exact Mb1):P:=h
theorem Mcx(h:P:=by
 have y3:pl.toList.isEmpty=false:=z3;have w3:¬pl.toList=[]:=Mem
 exact Mh):P:=h
theorem Mcy(h:P:=by omega):P:=h
theorem Mcz(h:P:=by kernel_rfl):P:=h
theorem McA(h:P:=by decide):P:=h
theorem McB(h:P:=by simp):P:=h
theorem McC(h:P:=by simp[World.cell?,g0]):P:=h
theorem McD(h:P:=by simp;omega):P:=h
theorem McE(h:P:=by simp[World.cell?,g1]):P:=h
theorem McF(h:P:=by
 have:=(e1).size;first|omega|(simp at this⊢;done)|(simp at this⊢;omega)):P:=h
theorem McG(h:P:=by have:=tt.out;simp only[maxLen];omega):P:=h
theorem McH(h:P:=by simp[zaf];omega):P:=h
theorem McI(h:P:=by have:=fN.out;have:=HA.out;simp only[maxLen];omega):P:=h
theorem McJ(h:P:=by
 have:=(e0).size;first|omega|(simp at this⊢;done)|(simp at this⊢;omega)):P:=h
theorem McK(h:P:=by have:=(List.getElem?_eq_some_iff.1 hy).1;simp at this;omega):P:=h
theorem McL(h:P:=by simp[World.frozen?,g0]):P:=h
theorem McM(h:P:=by simp[World.frozen?,g1]):P:=h
theorem McN(h:P:=by
 repeat(first|exact Two2.refl2 _ _ _|assumption|with_reducible refine Two2.alloc ?_ _|with_reducible refine Two2.drew ?_|with_reducible refine Two2.ext ?_ _)):P:=h
theorem McO(h:P:=by
 first|omega|(simp;done)|(simp;omega)):P:=h
theorem McP(h:P:=by
 first|(simp;done)|(simp;omega)):P:=h
theorem McQ(h:P:=by rw[<-HR.out];simp only[zdl,ng.out, *,Bool.not_true,Bool.not_false,Bool.or_self,Bool.or_true,Bool.true_or,Bool.false_or,Bool.or_false,if_true,if_false,Bool.false_eq_true,ite_true,ite_false,decide_false];done):P:=h
theorem McR(h:P:=by have:=tt.out;omega):P:=h
theorem McS(h:P:=by simp[maxLen];omega):P:=h
theorem McT(h:P:=by rw[IntKind.wrap_i64];rw[Int.tmod_eq_emod_of_nonneg h0];omega):P:=h
theorem McU(h:P:=by have:=(e1).size;omega):P:=h
theorem McV(h:P:=by
 have:=e9.size;first|omega|(simp at this⊢;done)|(simp at this⊢;omega)):P:=h
theorem McW(h:P:=by
 first|(have:=fN.out;have:=HA.out;simp only[maxLen,List.length_singleton];omega)|exact Nat.le_of_ble_eq_true rfl):P:=h
theorem McX(h:P:=by have:=fN.out;have:=HA.out;omega):P:=h
theorem McY(h:P:=by rw[Int.tmod_eq_emod_of_nonneg h0];unfold wrap64;omega):P:=h
theorem McZ(h:P:=by have:=ah 0 _ rfl;simpa using this):P:=h
theorem Mc0(h:P:=by grind):P:=h
theorem Mc1(h:P:=by
 first|(have:=fN.out;have:=HA.out;simp only[List.length_singleton];omega)|exact Nat.le_of_ble_eq_true rfl):P:=h
theorem Mc2(h:P:=by simp only[World.cell?,h0];rfl):P:=h
theorem Mc3(h:P:=by simp[go_sem]):P:=h
theorem Mc4(h:P:=by simpa using h1):P:=h
theorem Mc5(h:P:=by have:=N2.out.size;simp[zaf]at this;omega):P:=h
theorem Mc6(h:P:=by simp only[maxLen];omega):P:=h
theorem Mc7(h:P:=by have:=fN.out;simp[maxLen];omega):P:=h
theorem Mc8(h:P:=by assumption):P:=h
theorem Mc9(h:P:=by rw[zbb n2 (by simp[zaf];omega) (by omega)];simp[go_sem]):P:=h
theorem Mda(h:P:=by rw[IntKind.wrap_i64];omega):P:=h
theorem Mdb(h:P:=by rw[am];exact Bw):P:=h
theorem Mdc(h:P:=by intro j hj;simp[za5]at hj;omega):P:=h
theorem Mdd(h:P:=by
 repeat(first|exact zar _ _ _ (by simp)|refine zal ?_)):P:=h
theorem Mde(h:P:=by rw[zes,List.length_take];congr 1;omega):P:=h
theorem Mdf(h:P:=by
 rw[<-HR.out];first|(simp[zdl, *];done)|(simp[zdl, *];omega)):P:=h
theorem Mdg(h:P:=by rw[List.length_take];omega):P:=h
theorem Mdh(h:P:=by have:=fN.out;omega):P:=h
theorem Mdi(h:P:=by unfold zby at cr;simp only[World.cell?,cr];rfl):P:=h
theorem Mdj(h:P:=by
 first|(simp[Act.eval,Act.put];done)|(simp[Act.eval,Act.put];rfl)):P:=h
theorem Mdk(h:P:=by rw[<-List.flatMap_append,List.take_append_drop]):P:=h
theorem Mdl(h:P:=by simpa using h):P:=h
theorem Mdm(h:P:=by rw[List.getD_eq_getElem?_getD,List.getElem?_eq_getElem ae];rfl):P:=h
theorem Mdn(h:P:=by simp[za5]):P:=h
theorem Mdo(h:P:=by have:=aj.out;exact Bw):P:=h
theorem Mdp(h:P:=by rw[am];exact zar _ _ _ rfl):P:=h
theorem Mdq(h:P:=by rw[List.length_append];have:=qS.out;simp at this⊢;omega):P:=h
theorem Mdr(h:P:=by have:=hc 0 _ rfl;simpa using this):P:=h
theorem Mds(h:P:=by rw[aT];exact zaq _ _):P:=h
theorem Mdt(h:P:=by simp only[World.cell?,G1.out,zbu];rfl):P:=h
theorem Mdu(h:P:=by dsimp only;omega):P:=h
theorem Mdv(h:P:=by have:=(e0).size;omega):P:=h
theorem Mdw(h:P:=by simp[hp]):P:=h
theorem Mdx(h:P:=by
 repeat(first|exact TQ.out|refine zbD ?_|refine J_drew ?_|refine zal ?_)):P:=h
theorem Mdy(h:P:=by rw[am];exact zal (zal (zar _ _ _ rfl))):P:=h
theorem Mdz(h:P:=by
 simp only[Nat.min_def];split<;>omega):P:=h
theorem MdA(h:P:=by simp only[World.cell?,yL',zbu];rfl):P:=h
theorem MdB(h:P:=by
 have:=(aC).size;first|omega|(simp at this⊢;done)|(simp at this⊢;omega)):P:=h
theorem MdC(h:P:=by simpa using h0):P:=h
theorem MdD(h:P:=by simpa using hz):P:=h
theorem MdE(h:P:=by simp[zaf]):P:=h
theorem MdF(h:P:=by rw[zbb n2 (by simp[zaf];omega) (by omega)];simp[go_sem,y1,y3]):P:=h
theorem MdG(h:P:=by have:=(Rat.lt_iff 0 q).1 h0;simpa using this):P:=h
theorem MdH(h:P:=by rw[zau];exact hm):P:=h
theorem MdI(h:P:=by show Below _ _ _;rw[bP];exact zad aS _):P:=h
theorem MdJ(h:P:=by simpa using e):P:=h
theorem MdK(h:P:=by show decide ((0:Int)<=upto)=true;simp;omega):P:=h
theorem MdL(h:P:=by simp[za5];omega):P:=h
theorem MdM(h:P:=by have:=aP.size;omega):P:=h
theorem MdN(h:P:=by simp[hq]):P:=h
theorem MdO(h:P:=by
 first|rfl|simp[zaf]):P:=h
theorem MdP(h:P:=by show _=_;rw[au.out];rfl):P:=h
theorem MdQ(h:P:=by have:=ud 0 (.string pn) rfl;rw[Nat.zero_mul]at this;exact this):P:=h
theorem MdR(h:P:=by rw[bM];exact hi):P:=h
theorem MdS(h:P:=by rw[nB];exact zaP (HB.out.trans (jR.out.mono aG)) zU _):P:=h
theorem MdT(h:P:=by rw[am];exact zal (zar _ _ _ rfl)):P:=h
theorem MdU(h:P:=by have:=(List.getElem?_eq_some_iff.1 hi).1;have:=hT.len;omega):P:=h
theorem MdV(h:P:=by show _=_;rw[cH.out,aH];rfl):P:=h
theorem MdW(h:P:=by simp[zbz,hz,hq]):P:=h
theorem MdX(h:P:=by have:=S2.out;omega):P:=h
theorem MdY(h:P:=by simp only;omega):P:=h
theorem MdZ(h:P:=by show _=_;rw[HR.out];simp[zcs,p1,p2,isDay0,inR34, *]):P:=h
theorem Md0(h:P:=by rw[<-HM.out,List.length_map];exact hi):P:=h
theorem Md1(h:P:=by simp at dW;omega):P:=h
theorem Md2(h:P:=by simp[Sort.mapBlock,Sort.ahead];omega):P:=h
theorem Md3(h:P:=by rw[HF.out];simp[zhj, *]):P:=h
theorem Md4(h:P:=by simp[Act.eval,Act.put];rfl):P:=h
theorem Md5(h:P:=by simp only[World.cell?,ez.out];rfl):P:=h
theorem Md6(h:P:=by show _=_;rw[aq];simp[hs]):P:=h
theorem Md7(h:P:=by have:=cx 0 _ rfl;simpa using this):P:=h
theorem Md8(h:P:=by simp only[World.cell?,G0.out];rfl):P:=h
theorem Md9(h:P:=by simp only[World.size_alloc];omega):P:=h
theorem Mea(h:P:=by show _=_;rw[hx];rfl):P:=h
theorem Meb(h:P:=by have:=e9.size;omega):P:=h
theorem Mec(h:P:=by have:=b8.out.size;omega):P:=h
theorem Med(h:P:=by simpa using iS):P:=h
theorem Mee(h:P:=by rw[zap];omega):P:=h
theorem Mef(h:P:=by show _=_;rw[hr,cf];rfl):P:=h
theorem Meg(h:P:=by simpa using hj):P:=h
theorem Meh(h:P:=by simpa using hc):P:=h
theorem Mei(h:P:=by
 rw[zbE];exact hc):P:=h
theorem Mej(h:P:=by rw[zes,List.length_drop]):P:=h
theorem Mek(h:P:=by simpa using h2):P:=h
theorem Mel(h:P:=by simpa using y2):P:=h
theorem Mem(h:P:=by simpa using y3):P:=h
theorem Men(h:P:=by show _=_;rw[hR,List.drop_zero]):P:=h
theorem Meo(h:P:=by rw[<-zd0,hp3]):P:=h
theorem Mep(h:P:=by rw[List.length_append,eK.out]):P:=h
theorem Meq(h:P:=by have:=aA.out;exact Bw):P:=h
theorem Mer(h:P:=by simp[World.frozen?,g2]):P:=h
theorem Mes(h:P:=by rw[beq_eq_false_iff_ne];omega):P:=h
theorem Met(h:P:=by simp only[World.cell?,t1];rfl):P:=h
theorem Meu(h:P:=by rw[bP];exact zar _ _ _ rfl):P:=h
theorem Mev(h:P:=by simp[World.cell?,h1]):P:=h
theorem Mew(h:P:=by simp[World.cell?,g2]):P:=h
theorem Mex(h:P:=by rw[ox];exact zaq _ _):P:=h
theorem Mey(h:P:=by rw[h]at hr;cases hr):P:=h
theorem Mez(h:P:=by have:=hf.dead;omega):P:=h
theorem MeA(h:P:=by simp[go_sem,e6,hh]):P:=h
theorem MeB(h:P:=by simpa using hp):P:=h
theorem MeC(h:P:=by simpa using k):P:=h
