import Derived.WalkLawsBesides
import Derived.WalkSpells
import Derived.BigQuiet
import Derived.Lib.Hide
import Derived.Deep.CutBlock
namespace Go.Proofs.YtcfheecahnnhjaaGreatDoor
variable {P:Prop}
theorem Ma(h:P:=by
 intro v4 w4 g1 g2 g3;obtain⟨A7,c7,kD,_,_⟩:=g1.sl za9;rw[List.length_append]at kD;subst kD;have FR4:Fr2 w w4 (.slice KA ks.length kc) (.slice QA pz.length qc):=(FR3.below Bw).row g2 (fun j hj=> .inr (.inl hj));have dH:∀g,za5 (.slice A6 (ks.length+[q.name].length) c6)=some g->za5 (.slice QA pz.length qc)≠some g:=fun g e1 e2=>by
  rcases h3 g e1 with h|h
  ·exact fx.out g h e2
  ·have:=(dq.out.ge g e2).2;omega
 have oa4:OwnS w4 base 9 1 sC (.slice A6 (ks.length+[q.name].length) c6) (ks++[q.name]):=(h1.keep (n:=w3.heap.size) Bw).grown g2 (by
  cases hb:za5 (.slice A6 (ks.length+[q.name].length) c6)with
  |none=>exact .inl rfl
  |some g=>exact .inr fun e=>dH g hb e.symm)
 have s4:=g2.size;(try simp only[World.size_alloc,World.size_drew]at s4 g3)
 have b1:∀g,za5 (.slice A6 (ks.length+[q.name].length) c6)=some g->za5 (.slice KA ks.length kc)=some g\/w.heap.size<=g:=fun g e=>by
  rcases h3 g e with h|h
  ·exact .inl h
  ·right;omega
 have b2:∀g,za5 (.slice A7 (pz.length+[fr].length) c7)=some g->za5 (.slice QA pz.length qc)=some g\/w.heap.size<=g:=fun g e=>by
  rcases g3 g e with h|h
  ·exact .inl h
  ·right;omega
 have b12:∀g,za5 (.slice A6 (ks.length+[q.name].length) c6)=some g->za5 (.slice A7 (pz.length+[fr].length) c7)≠some g:=fun g e1 e2=>by
  rcases g3 g e2 with h|h
  ·exact dH g e1 h
  ·have:=(h1.ge g e1).2;omega
 refine NxM hK (fun hHeld=>?_) (aA.out _ FR4);clear hK K;refine OnM 28 true fun K hK=>?_
 obtain⟨w5,x5,st5,m5,j5,kw,jL,qe,nM,nJ,Ef⟩:=zgh zjt (FR4.mapS dg.out dq.out gV.out) fr;refine zhg rfl _ _ rfl _ _ _ rfl rfl w5 kw ?_;refine NxM hK fun hHeld=>?_
 clear hK K;refine OnM 29 true fun K hK=>?_
 go_simp
 refine NxM hK fun hHeld=>?_
 clear hK K;refine OnM 30 true fun K hK=>?_
 obtain⟨w6,eH,iN,bF,Hl⟩:=zdT (P:=Tryz.prog) jL nM 78 (.slice A6 (ks.length+[q.name].length) c6);refine zfV rfl _ _ _ rfl _ _ _ rfl rfl rfl w6 eH ?_;rw[qe]at iN;refine NxM hK fun hHeld=>?_
 clear hK K;refine OnM 31 true fun K hK=>?_
 have pL:cc≠pp:=by
  have:=HP.out.nd;simp only[List.nodup_cons,List.mem_cons,List.not_mem_nil,or_false,not_or]at this;exact this.2.1.1
 have yg:MapS w6 pp ekS (fun v:Value=>v) mp:=((FR4.mapS dg.out dq.out bI.out).grown nJ (by simpa using fun e=>pL e.symm)).grown bF (by simpa using fun e=>pL e.symm);obtain⟨w7,x7,st7,m7,j7,yF,kx,qf,Gm,nK,Hm⟩:=zgh zjt yg q.name;refine zhg rfl _ _ rfl _ _ _ rfl rfl w7 yF ?_;refine NxM hK fun hHeld=>?_
 clear hK K;refine OnM 32 true fun K hK=>?_
 go_simp
 refine NxM hK fun hHeld=>?_
 clear hK K;refine OnM 33 true fun K hK=>?_
 obtain⟨w8,GN,AE,ul,hz8⟩:=zdT (P:=Tryz.prog) kx Gm 78 (.slice A7 (pz.length+[fr].length) c7);refine zfV rfl _ _ _ rfl _ _ _ rfl rfl rfl w8 GN ?_;rw[qf]at AE;refine NxM hK fun hHeld=>?_
 clear hK K;refine zaG Mcv ?_ _;have ya:=(iN.grown nK (by simpa using pL)).grown ul (by simpa using pL);have Dy:∀k,k<w4.heap.size->k≠cc->k≠pp->w8.heap[k]?=w4.heap[k]?:=fun k hk e1 e2=>
  (((ul.block k Mcu (by simpa using e2)).trans (nK.block k Mcu (by simpa using e2))).trans (bF.block k Mcu (by simpa using e1))).trans (nJ.block k hk (by simpa using e1))
 have xh:=zbo (FR4.mapS dg.out dq.out gV.out);have yA:=zbo (FR4.mapS dg.out dq.out bI.out);have jk:∀(g:Nat) (cur:Array Value),w4.heap[g]?=some (.cells cur 9 (0,0))->w8.heap[g]?=w4.heap[g]?:=fun g cur hg=>by
  obtain⟨es1,x1,jM⟩:=xh;obtain⟨es2,x2,eJ⟩:=yA;exact Dy g (zab hg) (fun e=>by subst e;rw[jM]at hg;simp at hg) (fun e=>by subst e;rw[eJ]at hg;simp at hg)
 have oa8:=oa4.same (W':=w8) (fun g cur _ hg=>jk g cur hg);have ob8:=g1.same (W':=w8) (fun g cur _ hg=>jk g cur hg);have Af:∀k,k<w.heap.size->k≠cc->k≠pp->za5 (.slice KA ks.length kc)≠some k->za5 (.slice QA pz.length qc)≠some k->w8.heap[k]?=w.heap[k]?:=fun k hk e1 e2 e3 e4=>
  (Dy k (by have:=FR4.size;omega) e1 e2).trans (FR4.block k hk e3 e4)
 have ud:=wld_child ba HC.out HP.out HT.out gV.out bI.out iX.out IU.out BG.out py.out (by rw[fg.out];exact dg.out) kI.out (by rw[kQ.out];exact dq.out) gT.out (by rw[fg.out];exact oa8) (by rw[kQ.out];exact ob8) b1 b2 b12 ya AE Af;have eV:=HP.out.ge;have jG:Below base w w8:=⟨ul.os.trans (nK.os.trans (bF.os.trans (nJ.os.trans FR4.os))),ul.tape.trans (nK.tape.trans (bF.tape.trans (nJ.tape.trans FR4.tape))),ul.output.trans (nK.output.trans (bF.output.trans (nJ.output.trans FR4.output))),by have:=FR4.size;omega,fun k hk=>Af k (by have:=HW.out.lt;omega) Mcu Mcu (fun e=>by have:=(dg.out.ge k e).1;omega) (fun e=>by have:=(dq.out.ge k e).1;omega)⟩
 have Fs:KeepD w w8:=fun k cur f hk=>Af k (zab hk) (fun e=>by obtain⟨_,_,hx⟩:=zbo gV.out;rw[e,hx]at hk;simp at hk) (fun e=>by obtain⟨_,_,hx⟩:=zbo bI.out;rw[e,hx]at hk;simp at hk)
  (fun e=>by obtain⟨_,hx⟩:=zdX dg.out e;have:=Option.some.inj (hx.symm.trans hk);simp only[Obj.cells.injEq]at this;exact absurd this.2.1 Mcw)
  (fun e=>by obtain⟨_,hx⟩:=zdX dq.out e;have:=Option.some.inj (hx.symm.trans hk);simp only[Obj.cells.injEq]at this;exact absurd this.2.1 Mcw)
 have jT:=Lib.hid Fs;have Ja:=Lib.hid ud;have kG:=Lib.hid jG;clear Fs ud jG Af Dy jk oa8 ob8 xh yA ya AE ul GN kx qf Gm nK yF yg iN bF eH jL qe nM nJ kw b1 b2 b12 oa4 dH FR4 g1 g2 g3 ob3 FR3 h1 h2 h3;go_wp2_with fail
 go_ret
 have hX:=iZ.out;simp only[Bool.false_eq_true,if_false]at hX;rw[if_neg (by simpa using H2.out)]at hX;rw[hX]
 exact⟨rfl,Ja.out,kG.out,jT.out⟩):P:=h
theorem Mb(h:P:=by
 clear eD dq;go_upto_region 9 with fail
 have i1:=bZ.out wr (Below.refl _ _);refine za7 10 (fun bb w'=>bb=true\/w'.cell? ⟨b,off+k,none⟩=some (.string x)) Mcv (.inr (bZ.out _ (zaE (Below.refl _ _)))) ?hrest
 case hrest=>
  intro hHeld;refine TkM 5 ?_;refine TkM 6 ?_;refine TkM 7 ?_;refine TkM 8 ?_;refine TkM 1 ?_;refine TkM 2 ?_;refine TkM 3 ?_;refine FrM 11 false ?_;refine FrM 12 false ?_;refine FrM 13 false ?_;refine TwM 0 9 (fun K hK=>?_) fun K hK=>?_
  ·go_simp
   have e0:Below wr.heap.size wr (wr.drew.alloc (.cells #[] 9)):=zac (zaE (Below.refl _ _)) _;refine NxM hK (fun hHeld=>?_) (.inr (bZ.out _ e0));clear hK K;refine TwM 4 9 (fun K hK=>?_) fun K hK=>?_
   ·refine zak (v:=.slice (some ⟨wr.heap.size,0,none⟩) 0 0) (n:=0) (m:=a) rfl _ _ rfl zb9 za9 zb8 rfl (xs:=[]) (ys:=xs.take a) (zgD wr.drew wr.heap.size (Nat.le_refl _)) rfl rfl (eP.out.symm) (qX.out _ e0) McE McU McF ?_;intro v4 w4 h1 h2 h3;rw[List.nil_append]at h1;obtain⟨V4,c4,aZ,_,_⟩:=h1.sl za9;rw[eP.out]at aZ;subst aZ;have aB:Below wr.heap.size wr w4:=Below.grown e0 h2 Mdt (fun j hj=>by simp[za5]at hj;omega);refine NxM hK (fun hHeld=>?_) (.inr (bZ.out _ aB));clear hK K;refine OnM 9 false fun K hK=>?_
    go_simp
    have e1:Below wr.heap.size wr (w4.alloc (.cells #[.string x] 9)):=zac aB _;have n1:(w4.alloc (.cells #[.string x] 9)).heap[w4.heap.size]?=some (.cells #[.string x] 9):=zaq _ _ _ rfl;have o1:OwnS (w4.alloc (.cells #[.string x] 9)) wr.heap.size 9 1 sC (.slice V4 a c4) (xs.take a):=h1.keep (n:=w4.heap.size) (zac (Below.refl _ _) _);refine NxM hK (fun hHeld=>?_) (.inr (bZ.out _ e1));clear hK K;refine OnM 10 true fun K hK=>?_
    refine zak (v:=.slice V4 a c4) (n:=a) (m:=1) rfl _ _ rfl zb9 za9 zb8 rfl (xs:=xs.take a) (ys:=[x]) (o1) eP.out rfl rfl (zfT n1) McE McU McB ?_;intro v5 w5 g1 g2 g3;obtain⟨A5,c5,ed,_,_⟩:=g1.sl za9;rw[List.length_append,eP.out]at ed;subst ed;have aq:Below wr.heap.size wr w5:=Below.grown e1 g2 McR (fun j hj=>((o1).ge j hj).1);exact Mb0
   ·go_simp
    have e1:Below wr.heap.size wr ((wr.drew.alloc (.cells #[] 9)).alloc (.cells #[.string x] 9)):=zac e0 _;have n1:((wr.drew.alloc (.cells #[] 9)).alloc (.cells #[.string x] 9)).heap[wr.heap.size+1]?=some (.cells #[.string x] 9):=zaq _ _ _ Mcx;have m1:OwnS ((wr.drew.alloc (.cells #[] 9)).alloc (.cells #[.string x] 9)) wr.heap.size 9 1 sC (.slice (some ⟨wr.heap.size,0,none⟩) 0 0) []:=(zgD wr.drew wr.heap.size (Nat.le_refl _)).keep (n:=(wr.drew.alloc (.cells #[] 9)).heap.size) (zac (Below.refl _ _) _);refine NxM hK (fun hHeld=>?_) (.inr (bZ.out _ e1));clear hK K;refine OnM 4 false fun K hK=>?_
    refine zak (v:=.slice (some ⟨wr.heap.size,0,none⟩) 0 0) (n:=0) (m:=a) rfl _ _ rfl zb9 za9 zb8 rfl (xs:=[]) (ys:=xs.take a) (m1) rfl rfl (eP.out.symm) (qX.out _ e1) McE McU McB ?_;intro v4 w4 h1 h2 h3;rw[List.nil_append]at h1;obtain⟨V4,c4,aZ,_,_⟩:=h1.sl za9;rw[eP.out]at aZ;subst aZ;have aB:Below wr.heap.size wr w4:=Below.grown e1 h2 McR (fun j hj=>by simp[za5]at hj;omega);have n2:w4.heap[wr.heap.size+1]?=some (.cells #[.string x] 9):=(h2.block _ McM Mdj).trans n1;exact Mcp
  ·go_simp
   have e0:Below wr.heap.size wr (wr.drew.alloc (.cells #[.string x] 9)):=zac (zaE (Below.refl _ _)) _;have n0:(wr.drew.alloc (.cells #[.string x] 9)).heap[wr.heap.size]?=some (.cells #[.string x] 9):=zaq _ _ _ rfl;refine NxM hK (fun hHeld=>?_) (.inr (bZ.out _ e0));clear hK K;refine OnM 0 false fun K hK=>?_
   go_simp
   have e1:Below wr.heap.size wr ((wr.drew.alloc (.cells #[.string x] 9)).alloc (.cells #[] 9)):=zac e0 _;have n1:((wr.drew.alloc (.cells #[.string x] 9)).alloc (.cells #[] 9)).heap[wr.heap.size]?=some (.cells #[.string x] 9):=zal n0;refine NxM hK (fun hHeld=>?_) (.inr (bZ.out _ e1));clear hK K;refine OnM 4 false fun K hK=>?_
   have m1:OwnS ((wr.drew.alloc (.cells #[.string x] 9)).alloc (.cells #[] 9)) wr.heap.size 9 1 sC (.slice (some ⟨wr.heap.size+1,0,none⟩) 0 0) []:=by
    exact Mck
   refine zak (v:=.slice (some ⟨wr.heap.size+1,0,none⟩) 0 0) (n:=0) (m:=a) rfl _ _ rfl zb9 za9 zb8 rfl (xs:=[]) (ys:=xs.take a) (m1) rfl rfl (eP.out.symm) (qX.out _ e1) McE McU McB ?_;intro v4 w4 h1 h2 h3;rw[List.nil_append]at h1;obtain⟨V4,c4,aZ,_,_⟩:=h1.sl za9;rw[eP.out]at aZ;subst aZ;have aB:Below wr.heap.size wr w4:=Below.grown e1 h2 McR (fun j hj=>by simp[za5]at hj;omega);have n2:w4.heap[wr.heap.size]?=some (.cells #[.string x] 9):=(h2.block _ McM Mdj).trans n1
   exact Mcp):P:=h
theorem Mc(h:P:=by
 go_simp
 refine hK.out _ _ ?_ (fun hHeld=>?_);focus((try dsimp only);refine⟨?_,?_,?_,?_,?_⟩<;>first|assumption|(simp[go_sem,fF,fG,aQ];done)|(simp[go_sem,a0,a1,a2,l5,l6,yp,yL];done)|(simp[go_sem,z0,z1,z2,z5,z6,zx,zy];done))
 clear hK K;try simp only[Act.put,List.setIfInBounds_toArray,List.set_cons_zero,List.set_cons_succ]
 refine OnH 10 fun K hK=>?_
 refine zak (v:=.slice A1 out.length c1) (n:=out.length) (m:=1) rfl _ _ rfl zdV zam zcg rfl (xs:=out) (ys:=[(pn,zbj (pq/lf))]) (YO.out.keep (n:=w5.heap.size) Bw) rfl rfl rfl (sl_part (zaq _ _ _ rfl)) McP Mcu Mcz ?_;intro v6 w6 h1 h2 h3;obtain⟨A6,c6,dG,_,_⟩:=h1.sl zam;rw[List.length_append]at dG;subst dG;have zT:zbw w6 W0.heap.size gpl gcl frm gfin (.slice A1 out.length c1) (.slice D gdi.length dc):=(h2.block _ Mcz (fun e=>zhH YO.out YT.out Mcw e.symm)).trans (zal YT.out);have z4:w6.cell? ⟨W0.heap.size,4,none⟩=some (.slice A1 out.length c1):=by unfold zbw at zT;simp only[World.cell?,zT];rfl
 have f4:w6.frozen? ⟨W0.heap.size,4,none⟩=false:=by unfold zbw at zT;simp only[World.frozen?,zT];rfl
 have zL:w6.heap[L]?=some (zbv lf):=(h2.block _ Mcz (fun e=>zhH YO.out YL.out Mcw e.symm)).trans (zal YL.out);have z5:w6.cell? ⟨L,0,none⟩=some (.int .i64 lf.num):=by simp only[World.cell?,zL,zbv];rfl
 have z6:w6.cell? ⟨L,1,none⟩=some (.int .i64 lf.den):=by simp only[World.cell?,zL,zbv];rfl
 have zP:w6.heap[wr.heap.size]?=some (.cells #[.string pn,.int .i64 pq.num,.int .i64 pq.den] 64):=(h2.block _ Mcz (fun e=>by have:=(dV.out.ge _ e.symm).2;omega)).trans (zal Y0.out);obtain⟨z0,z1,z2⟩:=cF3 zP;have zl:=zab zT;have zx:wr.heap.size≠W0.heap.size:=Mcu;have zy:L≠W0.heap.size:=Mcu;have ZT:=Lib.hid zT;have ZL:=Lib.hid zL;have H1:=Lib.hid h1;have H2:=Lib.hid h2;have H3:=Lib.hid h3;clear zT zL zP h1 h2 h3;refine hK.out _ _ ?_ (fun hHeld=>?_);focus((try dsimp only);refine⟨?_,?_,?_,?_,?_⟩<;>first|assumption|(simp[go_sem,fF,fG,aQ];done)|(simp[go_sem,a0,a1,a2,l5,l6,yp,yL];done)|(simp[go_sem,z0,z1,z2,z5,z6,zx,zy];done))
 clear hK K;try simp only[Act.put,List.setIfInBounds_toArray,List.set_cons_zero,List.set_cons_succ]
 refine TkH 11 ?_;refine OnH 12 fun K hK=>?_
 go_simp
 refine hK.out _ _ ?_ (fun hHeld=>?_);focus((try dsimp only);refine⟨?_,?_,?_,?_,?_⟩<;>first|assumption|(simp[go_sem,fF,fG,aQ];done)|(simp[go_sem,a0,a1,a2,l5,l6,yp,yL];done)|(simp[go_sem,z0,z1,z2,z5,z6,zx,zy];done))
 clear hK K;try simp only[Act.put,List.setIfInBounds_toArray,List.set_cons_zero,List.set_cons_succ]
 refine wpAnyH_done Mcv ?_ _;have Lu:za5 (.slice A6 (out.length+[(pn,zbj (pq/lf))].length) c6)≠some W0.heap.size:=fun e=>by
  rcases H3.out _ e with h|h
  ·exact zhH YO.out YT.out Mcw h
  ·simp at h;omega
 have r1:MarkAt (w6.setCell ⟨W0.heap.size,4,none⟩ (.slice A6 (out.length+[(pn,zbj (pq/lf))].length) c6)) C (fl||bigQ (pq/lf)):=
  J_ne Mcu ((H2.out.block C (by have:=zab N1.out;simp;omega) (fun e=>by have:=(dV.out.ge _ e.symm).1;omega)).trans (zal N1.out))
 have r2:=zgn ZT.out (.slice A6 (out.length+[(pn,zbj (pq/lf))].length) c6);have r3:OwnS (w6.setCell ⟨W0.heap.size,4,none⟩ (.slice A6 (out.length+[(pn,zbj (pq/lf))].length) c6)) W0.heap.size 64 3 zaa (.slice A6 (out.length+[(pn,zbj (pq/lf))].length) c6) (out++[(pn,zbj (pq/lf))]):=H1.out.grown (zav _ _ _ _) (.inr Lu);have r4:(w6.setCell ⟨W0.heap.size,4,none⟩ (.slice A6 (out.length+[(pn,zbj (pq/lf))].length) c6)).heap[L]?=some (zbv lf):=J_ne Mcu ZL.out;have r5:Below C W0 w5:=zaU (W:=(wr.alloc (.cells #[.string pn,.int .i64 pq.num,.int .i64 pq.den] 64)).drew) (zaE (zac tw.out _ Mcu)) N2.out (Nat.le_refl _);have r6:Below C W0 w6:=Below.grown (zac r5 _ Mcu) H2.out (by have:=r5.size;simp;omega) (fun j hj=>by have:=(dV.out.ge _ hj).1;omega);have r7:Below C W0 (w6.setCell ⟨W0.heap.size,4,none⟩ (.slice A6 (out.length+[(pn,zbj (pq/lf))].length) c6)):=zaM r6 (by show C<=W0.heap.size;omega) _;have r8:L<w6.heap.size:=zab ZL.out;have R1:=Lib.hid r1;have R2:=Lib.hid r2;have R3:=Lib.hid r3;have R4:=Lib.hid r4;have R7:=Lib.hid r7;have pO:=dI.out;rw[eM.out]at pO;simp only[Bool.false_eq_true,if_false]at pO;have Bg:=Lib.hid pO;clear r1 r2 r3 r4 r5 r6 r7 pO a0 a1 a2 l5 l6 y2 z4 f4 z5 z6 z0 z1 z2;go_wp2_with fail
 go_round
 case rel=>exact⟨k+1,_,out++[(pn,zbj (pq/lf))],_,by omega,by go_num,Bg.out.symm,R1.out,R2.out,R3.out,R4.out,R7.out,by simp;omega⟩
 case measure=>simp[intOf];omega):P:=h
theorem Md(h:P:=by
 have d1:wq.cell? ⟨w.heap.size,1,none⟩=some (.int .i64 dy):=by simp only[World.cell?,nt.out];rfl
 have kX:=nS.out;have CW:=zab kX;have Kp:=zab nt.out;unfold WldC at kX;obtain⟨-,-,-,-,-,-,-,z7,z8⟩:=cF9 kX;have f7:wq.frozen? ⟨b,7,none⟩=false:=by simp only[World.frozen?,kX];rfl
 have f8:wq.frozen? ⟨b,8,none⟩=false:=by simp only[World.frozen?,kX];rfl
 have hwb:w.heap.size≠b:=fun e=>Nat.lt_irrefl _ (e▸dK)
 clear kX;have jG:Below base w wq:=Below.trans (Below.mono (B:=w.heap.size) Bw (Nat.le_of_lt (Nat.lt_of_le_of_lt ba dK))) nR.out;have kG:=Lib.hid jG;clear jG;by_cases h0:er=0
 ·subst h0;have p9:=wrap_k xK;have E6:=wrap_k2 xK;go_wp2_with fail
  go_region
  all_goals go_wp2_with fail
  all_goals go_ret
  all_goals exact taken_ok (wld_drew (wld_tick nA.out dy ((k:Int)+1))) (zaE (zaM (zaM kG.out ei _) ei _))
 ·go_wp2_with fail
  go_ret
  exact taken_no h0 nA.out kG.out):P:=h
theorem Me(h:P:=by
 have HE:=Lib.hid (HG.out rfl);have sf:=frz xs0;have ip:=HF.out.dead;clear HG dp;go_upto_region 24 with fail
 obtain⟨U1,rL⟩:∃U1,U1=WR.setCell ⟨w.heap.size,6,none⟩ (.slice V2 s.graves.length c2'):=⟨_,rfl⟩
 have u0:U1.heap[w.heap.size]?=some (.cells #[.slice LA laws.length c0,.slice CA s.children.length c1,.slice MA s.marriages.length c2,.slice DA s.dead.length c3,.slice WA wd.length c4,.slice RA rd.length c5,.slice V2 s.graves.length c2'] 44):=by
  rw[rL];have:=Joins.block_setCell (i:=6) xs0 (.slice V2 s.graves.length c2');simpa using this
 have u1:U1.heap[w.heap.size+1]?=some (.cells #[.slice none 0 0,.slice none 0 0,.slice none 0 0,.slice none 0 0,.slice none 0 0,.slice none 0 0,.slice none 0 0] 44):=by rw[rL];exact J_ne Mcu xr0
 have CU:Below w.heap.size w U1:=by rw[rL];exact zaM (aj.out.trans (b8.out.mono au)) (Nat.le_refl _) _
 have xC:WR.grownBy U1 (some w.heap.size):=by rw[rL];exact zav _ _ _ _
 have GR:s.graves≠[]->RowC U1 94 ga go 5 (dx.map GX.cells):=fun ai=>by
  have h:=vO.out ai;rw[Dr,List.append_nil]at h;rw[rL];exact h.ne (zmv h xs0 Mcw)
 have IV:=Lib.hid GR;have B7:=Lib.hid (fun y hy=>((gq.out y hy).keptS xC xs0:okR gxs U1 y));have Hx:=Lib.hid CU;have J6:=Lib.hid u1;have J5:=Lib.hid u0;have K5:=CU.size;rw[<-rL];clear rL GR xC sf;clear xs0 xr0 s0 s1 s2 s3 s4 s5 s6 r0 r1 r2 r3 r4 r5 r6 rf ls lr;obtain⟨s0,s1,s2,s3,s4,s5,s6⟩:=zaH u0;have ls:=zab u0;have lr:=zab u1;clear u0 u1;have lJ:=Lib.hid (H.out U1 CU).dead
 go_upto_region 25 with(first
  |(at_builtin
    go_loud(refine zat (v:=.slice (some ⟨U1.heap.size,0,none⟩) 0 0) (n:=0) (m:=s.dead.length) rfl _ _ rfl zb9 za9 zb8 rfl (xs:=[]) (ys:=s.dead) (zec za9 U1 U1.heap.size (Nat.le_refl _)) rfl rfl rfl (lJ.out.keep (zac (Below.refl _ _) _)) Mc3 Mcu Mcx ?_)
    intro v3 w3 h1 h2 h3;rw[List.nil_append]at h1;have ay:Below U1.heap.size U1 w3:=Below.grown (zac (Below.refl _ _) _) h2 Mcx Mc8;obtain⟨V3,vc3,rfl,_,_⟩:=h1.sl za9;have nw:=Lib.hid h1;have lA:=Lib.hid ay;have wa:=ay.size
    clear h1 h2 h3 ay)
  |(at_builtin
    go_loud(refine zat (v:=.slice V3 s.dead.length vc3) (n:=s.dead.length) (m:=1) rfl _ _ rfl zb9 za9 zb8 rfl (xs:=s.dead) (ys:=[n]) (nw.out.keep (n:=w3.heap.size) (zac (Below.refl _ _) _)) rfl rfl rfl (zcC (zaq _ _ _ rfl)) Mc3 Mcu Mcz ?_)
    intro v6 w6 h1 h2 h3;have aS:Below U1.heap.size U1 w6:=Below.grown (zac lA.out _) h2 Mcz (fun j hj=>(nw.out.ge j hj).1);obtain⟨A6,vc6,dG,_,xQ⟩:=h1.sl za9;have kD:v6=.slice A6 (s.dead.length+1) vc6:=by rw[dG,List.length_append];rfl
    clear dG;subst kD;have lQ:=Lib.hid h1;have eK:=Lib.hid aS;have Bl:=Lib.hid xQ;have x6:=(aS.block w.heap.size ls).trans J5.out;have z6:=(aS.block (w.heap.size+1) lr).trans J6.out;have zR:=Lib.hid x6;have Je:=Lib.hid z6;have sf6:=frz x6;obtain⟨_,_,_,p3,_,_,_⟩:=zaH x6;have ls6:=zab x6
    clear h1 h2 h3 aS xQ x6 z6))
 obtain⟨U7,rM⟩:∃U7,U7=w6.setCell ⟨w.heap.size,3,none⟩ (.slice A6 (s.dead.length+1) vc6):=⟨_,rfl⟩
 have y7:U7.heap[w.heap.size]?=some (.cells #[.slice LA laws.length c0,.slice CA s.children.length c1,.slice MA s.marriages.length c2,.slice A6 (s.dead.length+1) vc6,.slice WA wd.length c4,.slice RA rd.length c5,.slice V2 s.graves.length c2'] 44):=by
  rw[rM];have:=Joins.block_setCell (i:=3) zR.out (.slice A6 (s.dead.length+1) vc6);simpa using this
 have z7:U7.heap[w.heap.size+1]?=some (.cells #[.slice none 0 0,.slice none 0 0,.slice none 0 0,.slice none 0 0,.slice none 0 0,.slice none 0 0,.slice none 0 0] 44):=by rw[rM];exact J_ne Mcu Je.out
 have bU:Below w.heap.size w U7:=by rw[rM];exact zaM (Hx.out.trans (eK.out.mono K5)) (Nat.le_refl _) _
 have sz:w6.grownBy U7 (some w.heap.size):=by rw[rM];exact zav _ _ _ _
 have hS7:Sl U7 5 GX.cells V2 dx:=by
  by_cases ai:s.graves=[]
  ·have h0:dx.length=0:=by rw[ir];rw[ai]at hk;simpa using hk
   rw[List.eq_nil_of_length_eq_zero h0];exact Sl.nil
  ·obtain⟨e,_⟩:=HV.out ai;have h:=(IV.out ai).keep eK.out;rw[e,rM];exact(h.ne (zmv h zR.out Mcw)).sl rfl
 have yu:∀x∈dx,x.ok U7:=fun x hx=>by
  rcases((B7.out x hx).keep eK.out).keptS sz zR.out with h|⟨h1,h2⟩
  ·exact(dr.out x h).keep bU
  ·exact⟨h1.sl zam,h2.sl za9⟩
 have h':=H.out U7 bU;have aK:Hid (StAt U7 laws R.1 (.slice LA laws.length c0) (.slice CA s.children.length c1) (.slice MA s.marriages.length c2) (.slice A6 (s.dead.length+1) vc6) (.slice WA wd.length c4) (.slice RA rd.length c5) (.slice V2 s.graves.length c2')):=by
  show StAt _ _ _ _ _ _ _ _ _ _;rw[HE.out];refine⟨wd,rd,LA,CA,MA,A6,WA,RA,V2,c0,c1,c2,vc6,c4,c5,c2',rfl,rfl,rfl,?_,rfl,rfl,?_,⟨h'.laws,h'.kids,h'.marr,?_,h'.wills,h'.ren,slw_gx hS7 rfl yu,Bl.out⟩,⟨HK.out.wills,HK.out.shares,HK.out.ren,HK.out.tos⟩⟩
  ·show _=Value.slice A6 (s.dead++[n]).length vc6;rw[List.length_append];rfl
  ·show _=Value.slice V2 (dx.map (·.g)).length c2';rw[List.length_map,ir,oM]
  ·exact(lQ.out.ro'.kept sz zR.out Mcw).sl za9
 rw[<-rM];have bS:=Lib.hid bU;have zV:=Lib.hid z7;clear rM hS7 yu h' sz bU s0 s1 s2 s3 s4 s5 s6 ls lr p3 sf6 ls6;obtain⟨s0,s1,s2,s3,s4,s5,s6⟩:=zaH y7;obtain⟨r0,r1,r2,r3,r4,r5,r6⟩:=zaH z7;have rf:=frz z7;have ls:=zab y7;have lr:=zab z7;clear y7 z7;go_wp2_with fail
 refine bodyPost_ret (zbG rfl _ rfl rfl (zc2 zV.out)) rfl ?_
 exact⟨_,_,_,_,_,_,_,true,rfl,rfl,zcD bS.out (show w.heap.size<=w.heap.size+1 by omega),.inl ⟨rfl,by rw[HE.out],(zc6 zV.out rfl).st aK.out⟩⟩):P:=h
theorem Mf(h:P:=by
 clear hR;go_wp2_with fail
 go_ret
 rw[HR.out]
 exact Ret.of (zaP (by first|rfl|(simp[*];done))) (HB.out.trans (Below.mono (B:=wc.heap.size) Bw HB.out.size))):P:=h
theorem Mg(h:P:=by
 go_wp2_with fail
 rw[HE.out];refine bodyPost_ret (zbG rfl _ rfl rfl (zc2 xr0)) rfl ?_
 exact⟨_,_,_,_,_,_,_,rfl,rfl,zcD (aj.out.trans (bk.mono au)) (show w.heap.size<=w.heap.size+2 by omega),fun e=>by cases e⟩):P:=h
theorem Mh(h:P:=by
 (go_wp2_with fail
  go_ret
  exact Ret.of (zbB (by rw[HR.out];simp[zcx,p1,p2,isDay0,inR04,inR14,inR24,inR34,inR44, *])) (HB.out.trans (Below.mono (B:=wc.heap.size) Bw hs)))):P:=h
theorem Mi(h:P:=by
 intro v6 w6 k1 k2 k3;have aS:Below wr.heap.size wr w6:=Below.grown aq k2 aq.size (fun j hj=>(g1.ge j hj).1);refine NxM hK fun hHeld=>?_
 clear hK K;refine OnM 15 true fun K hK=>?_
 go_simp
 refine NxM hK fun hHeld=>?_
 clear hK K;refine zaG Mcv ?_ _;clear hHeld;have K1:=Lib.hid k1;have bW:=Lib.hid aS;clear k1 k2 k3 aS aq g1 g2 g3;go_wp2_with fail
 go_round
 case rel=>exact⟨k+1,am.out,by go_num,by rw[aK.out];exact K1.out.base_le Mcu,HB.out.trans (bW.out.mono Mcu)⟩
 case measure=>have:=am.out;simp only[intOf];omega):P:=h
theorem Mj(h:P:=by
 have ow:D0=none:=by
  cases dQ:(f&&l)
  ·obtain⟨h1,h2⟩:=kN.out dQ;rw[h1,zF.out];refine I8.out _ tI.out fun eI e'=>?_
   rw[h2]at e';rcases qK.out rfl with e|e
   ·rw[e]at e';cases e'
   ·cases l
    ·obtain rfl:hs=eI:=by simpa using e'
     exact e
    ·cases e'
  ·exact nV.out dQ
 have HN:=Lib.hid ow;clear ow;obtain⟨OV,oc,rfl,_,yo⟩:=HO.out.ro;have je:=cm.out.trans (eo.out.mono cm.out.size);have bj:=bY.out.keep je;obtain⟨gcur,dj,_⟩:=bj.row;have j3:wr.cell? ⟨ga,go+k*5+3,none⟩=some (.slice x.H x.g.holders.length x.hc):=bj.at ee.out (j:=3) rfl;have jf:=bj.frz;have oL:=bj.lt;have qS:=Lib.hid bj;have lL:=Lib.hid dj;have BC:=Lib.hid yo;have jQ:=Lib.hid je;clear yo je bj dj;go_upto_region 20 with fail
 obtain⟨V1,nE⟩:∃V1,V1=wr.setCell ⟨ga,go+k*5+3,none⟩ (.slice OV out.length oc):=⟨_,rfl⟩
 have gN:wr.grownBy V1 (some ga):=by rw[nE];exact zav _ _ _ _
 have fL:RowC V1 94 ga go 5 (((dx++gxs.drop k).map GX.cells).set k (x.cells.set 3 (.slice OV out.length oc))):=by rw[nE];exact qS.out.set ee.out Mcw
 have rY:Below w1.heap.size w1 V1:=MdM;rw[<-nE];have CH:WR.heap.size<=V1.heap.size:=Nat.le_trans jQ.out.size gN.size;clear nE j3 jf oL;have LJ:=hxd5 fL ee.out;have gV:=Lib.hid fL;have uP:=Lib.hid rY;have Kw:=fL.lt;have vG:=Lib.hid (BC.out.kept gN lL.out Mcw);have uV:=Lib.hid (fun y hy=>(((gq.out y hy).keep jQ.out).kept gN lL.out:okR gxs V1 y));have BZ:=Lib.hid (tQ.out V1 (aj.out.trans ((aC.out.trans (rY.mono ii)).mono au))).2;clear fL rY gN
 go_wp2_with (first
  |(at_builtin
    go_loud(refine zat (v:=.slice (some ⟨V1.heap.size,0,none⟩) 0 0) (n:=0) (m:=x.g.died.length) rfl _ _ rfl zb9 za9 zb8 rfl (xs:=[]) (ys:=x.g.died) (zec za9 V1 V1.heap.size (Nat.le_refl _)) rfl rfl rfl (BZ.out.keep (zac (Below.refl _ _) _)) Mc3 Mcu Mcx ?_)
    intro v3 w3 h1 h2 h3;rw[List.nil_append]at h1;have ay:Below V1.heap.size V1 w3:=Below.grown (zac (Below.refl _ _) _) h2 Mcx Mc8;obtain⟨V3,vc3,rfl,_,_⟩:=h1.sl za9;have nw:=Lib.hid h1;have lA:=Lib.hid ay;have wa:=ay.size
    clear h1 h2 h3 ay)
  |(at_builtin
    go_loud(refine zat (v:=.slice V3 x.g.died.length vc3) (n:=x.g.died.length) (m:=1) rfl _ _ rfl zb9 za9 zb8 rfl (xs:=x.g.died) (ys:=[n]) (nw.out.keep (n:=w3.heap.size) (zac (Below.refl _ _) _)) rfl rfl rfl (zcC (zaq _ _ _ rfl)) Mc3 Mcu Mcz ?_)
    intro v6 w6 h1 h2 h3;have aS:Below V1.heap.size V1 w6:=Below.grown (zac lA.out _) h2 Mcz (fun j hj=>(nw.out.ge j hj).1);obtain⟨A6,vc6,dG,_,_⟩:=h1.sl za9;rw[List.length_append]at dG;subst dG;have lQ:=Lib.hid h1;have eK:=Lib.hid aS;have eH:=gV.out.keep aS;have i4:w6.cell? ⟨ga,go+k*5+4,none⟩=some (.slice x.D x.g.died.length x.dc):=hxd5 eH ee.out;have jf6:=eH.frz;have Do:=eH.lt;have CS:=aS.size
    clear h1 h2 h3 aS eH))
 go_round
 case rel=>
  have eH:=gV.out.keep eK.out;rw[AZ.out]at eH;obtain⟨gcur6,mD,_⟩:=eH.row;refine⟨k+1,true,true,dx++[(⟨{x.g with holders:=out,died:=x.g.died++[n]},OV,oc,A6,vc6⟩:GX)],am.out,by go_num,rfl,rfl,by rw[List.length_append,ir];rfl,Lib.hid fun _=>row_two ir eH,Lib.hid fun y hy=>?_,Lib.hid fun _=>HN.out,Lib.hid Mcx,zaM (uP.out.trans (eK.out.mono uP.out.size)) Az _,by simp;omega⟩;exact Mb9
 case measure=>have:=am.out;simp only[intOf];omega):P:=h
theorem Mk(h:P:=by
 refine OnM 6 true fun K hK=>?_
 refine zak (v:=.slice V4 s.graves.length c4') (n:=s.graves.length) (m:=1) rfl _ _ rfl zhn zda zkd rfl (xs:=gxs) (ys:=[(⟨⟨d.place,d.cls,fin,out,[]⟩,VA,vc,none,0⟩:GX)]) o9 br.out.symm rfl rfl (sl_grave (⟨⟨d.place,d.cls,fin,out,[]⟩,VA,vc,none,0⟩:GX) n9) McC McO McS ?_;intro v5 w5 g1 g2 g3;obtain⟨A5,c5',ed,_,_⟩:=g1.sl zda;rw[List.length_append,<-br.out]at ed;subst ed;have aq:Below WX.heap.size WX w5:=Below.grown e9 g2 Md7 (fun j hj=>(o9.ge j hj).1);have cd:=bA.out.trans (aq.mono f9);refine NxM hK fun hHeld=>?_
 clear hK K;refine OnM 7 true fun K hK=>?_
 go_simp
 refine NxM hK fun hHeld=>?_
 clear hK K;obtain⟨⟨xs0,xd0,xr0⟩,⟨s0,s1,s2,s3,s4,s5,s6⟩,⟨d0,d1,d2,d3,d4,d5,d6⟩,⟨r0,r1,r2,r3,r4,r5,r6⟩,rf,ls,ld,lr⟩:=ddF (aw.out w5 (cd));have sf:=frz xs0;refine OnM 8 true fun K hK=>?_
 go_simp
 refine NxM hK fun hHeld=>?_
 clear hK K;refine zaG Mcv ?_ _;clear hHeld;have G1:=Lib.hid g1;have vX:=Lib.hid aq;have bo:=Lib.hid cd;have X0:=Lib.hid xs0;have X2:=Lib.hid xr0;clear g1 g2 g3 aq cd h1 h2 h3 aB;clear xs0 xd0 xr0 s0 s1 s2 s3 s4 s5 s6 d0 d1 d2 d3 d4 d5 d6 r0 r1 r2 r3 r4 r5 r6 rf ls ld lr;clear sf;go_wp2_with fail
 go_meet
 refine⟨⟨by first|rfl|trivial,A5,c5',?_,J_ne Mcu X2.out,(G1.out.kept (zav _ _ _ _) X0.out Mcw).ro',zaM (aj.out.trans (bo.out.mono au)) (Nat.le_refl _) _⟩,((HO.out.keep vX.out).kept (zav _ _ _ _) X0.out Mcw).ro'⟩;have:=Joins.block_setCell (i:=6) X0.out (.slice A5 (s.graves.length+1) c5')
 simpa using this):P:=h
theorem Ml(h:P:=by
 have a1:wr.cell? ⟨w.heap.size,5,none⟩=some (.bool fa):=Mcy;have a2:wr.cell? ⟨w.heap.size,7,none⟩=some (.bool true):=Mcy;have b0:wr.cell? ⟨w.heap.size+1,3,none⟩=some (.string frm):=McA;have b1:wr.cell? ⟨w.heap.size+1,4,none⟩=some (.slice B ps.length c):=McA;have c0:wr.cell? ⟨w.heap.size+2,0,none⟩=some (.int .i64 s.num):=Mes;have c1:wr.cell? ⟨w.heap.size+2,1,none⟩=some (.int .i64 s.den):=Mes;have d0:wr.frozen? ⟨w.heap.size+2,0,none⟩=false:=Men;have d1:wr.frozen? ⟨w.heap.size+2,1,none⟩=false:=Men;have e0:w.heap.size<wr.heap.size:=Mcu;have e1:w.heap.size+1<wr.heap.size:=Mcu;have e2:w.heap.size+2<wr.heap.size:=Mcu;have e3:w.heap.size+2≠wr.heap.size:=Mcu;by_cases ae:k<ps.length
 ·rw[List.drop_eq_getElem_cons ae]at hx;obtain⟨b,off,rfl,hb,hc⟩:=(hS.keep hB).at ae;have wM:=(hS.keep hB).take k;generalize hp:ps[k]=p at*;obtain⟨pn,pu,pd⟩:=p;have h0:wr.cell? ⟨b,off+k*3,none⟩=some (.string pn):=hc 0 _ rfl;have h1:wr.cell? ⟨b,off+k*3+1,none⟩=some (.int .i64 pu):=hc 1 _ rfl;have h2:wr.cell? ⟨b,off+k*3+2,none⟩=some (.int .i64 pd):=hc 2 _ rfl;have HP:=Lib.hid hp;have HF:=Lib.hid dP;have H0:=Lib.hid au;have HK:=Lib.hid ky;have HS:=Lib.hid wM;have HX:=Lib.hid hx;have HH:=Lib.hid (show ps.length<=100000 by omega);have fu:(k:Int)<=(c:Int):=Mcu;have aT:(0:Int)<=(k:Int):=Mcu;have jq:(k:Int)<(ps.length:Int):=Mcu;have cw:(ps.take k).length=k:=Mdd;have HT:=Lib.hid cw;clear hc hS wM hp dP au ky hx cw
  go_upto_region 10 with(go_at_call 62
                         refine(zcV _ _ eg (fun q=>zae q.name pn) _ k _ (ps.take k) _ HT.out.symm (by rw[HT.out];have:=HH.out;omega) (HS.out.keep (n:=wr.heap.size) Bw) (zld _ pn _ _ Mcx Mc0)).mono ?_
                         intro e wq hq;rcases Ret.bools hq with⟨zq,rfl,⟨hb,rfl⟩|⟨hb,rfl⟩⟩<;>clear hq)
  all_goals go_wp2_with (first
   |(go_at_call 106;refine(zdS _ _ _).mono ?_;intro e wq hq;rcases Ret.bools hq with⟨zq,rfl,⟨hb,rfl⟩|⟨hb,rfl⟩⟩<;>clear hq)
   |(go_at_call 138;refine(znB s pu pd _ (HF.out.small (Rat.le_trans Mcw H0.out) (cast_le HK.out Mcu)) Mc6).mono ?_;rintro e w1 ⟨rfl,z1,rfl⟩;simp only[zaA]))
  all_goals first
   |(go_ret
     exact Ret.of (zaP (by rw[HX.out];simp[zcr,zgS,zek,ze7, *])) Bw)
   |(go_round
     case rel=>
      refine⟨k+1,by omega,by go_num,s+Rat.divInt pu pd,(by rw[HX.out,List.take_succ_eq_append_getElem ae,HP.out];simp[zcr,RPart.rat,zek,ze7, *]:_=_),HF.out.add (zes Mc6),sum_pos H0.out Mc6,sum_up HK.out Mc6,Bw,by simp[zag];omega,by repeat(first|assumption|with_reducible refine zal ?_|with_reducible refine zb5 ?_|with_reducible refine J_ne Mcu ?_),by repeat(first|assumption|with_reducible refine zal ?_|with_reducible refine zb5 ?_|with_reducible refine J_ne Mcu ?_),?_⟩;(repeat(first|with_reducible refine zal ?_|with_reducible refine zb5 ?_));exact zdy g2
     case measure=>simp[intOf];omega)
 ·exact Mca):P:=h
theorem Mm(h:P:=by
 have a1:wr.cell? ⟨w.heap.size,5,none⟩=some (.bool fa):=Mcy;have a2:wr.cell? ⟨w.heap.size,7,none⟩=some (.bool false):=Mcy;have b0:wr.cell? ⟨w.heap.size+1,3,none⟩=some (.string frm):=McA;have b1:wr.cell? ⟨w.heap.size+1,4,none⟩=some (.slice B ps.length c):=McA;have c0:wr.cell? ⟨w.heap.size+2,0,none⟩=some (.int .i64 s.num):=Mes;have c1:wr.cell? ⟨w.heap.size+2,1,none⟩=some (.int .i64 s.den):=Mes;have d0:wr.frozen? ⟨w.heap.size+2,0,none⟩=false:=Men;have d1:wr.frozen? ⟨w.heap.size+2,1,none⟩=false:=Men;have e0:w.heap.size<wr.heap.size:=Mcu;have e1:w.heap.size+1<wr.heap.size:=Mcu;have e2:w.heap.size+2<wr.heap.size:=Mcu;have e3:w.heap.size+2≠wr.heap.size:=Mcu;by_cases ae:k<ps.length
 ·rw[List.drop_eq_getElem_cons ae]at hx;obtain⟨b,off,rfl,hb,hc⟩:=(hS.keep hB).at ae;have wM:=(hS.keep hB).take k;generalize hp:ps[k]=p at*;obtain⟨pn,pu,pd⟩:=p;have h0:wr.cell? ⟨b,off+k*3,none⟩=some (.string pn):=hc 0 _ rfl;have h1:wr.cell? ⟨b,off+k*3+1,none⟩=some (.int .i64 pu):=hc 1 _ rfl;have h2:wr.cell? ⟨b,off+k*3+2,none⟩=some (.int .i64 pd):=hc 2 _ rfl;have HP:=Lib.hid hp;have HF:=Lib.hid dP;have H0:=Lib.hid au;have HK:=Lib.hid ky;have HS:=Lib.hid wM;have HX:=Lib.hid hx;have HH:=Lib.hid (show ps.length<=100000 by omega);have fu:(k:Int)<=(c:Int):=Mcu;have aT:(0:Int)<=(k:Int):=Mcu;have jq:(k:Int)<(ps.length:Int):=Mcu;have cw:(ps.take k).length=k:=Mdd;have HT:=Lib.hid cw;clear hc hS wM hp dP au ky hx cw
  go_upto_region 10 with(go_at_call 62
                         refine(zcV _ _ eg (fun q=>zae q.name pn) _ k _ (ps.take k) _ HT.out.symm (by rw[HT.out];have:=HH.out;omega) (HS.out.keep (n:=wr.heap.size) Bw) (zld _ pn _ _ Mcx Mc0)).mono ?_
                         intro e wq hq;rcases Ret.bools hq with⟨zq,rfl,⟨hb,rfl⟩|⟨hb,rfl⟩⟩<;>clear hq)
  all_goals go_wp2_with (first
   |(go_at_call 106;refine(zdS _ _ _).mono ?_;intro e wq hq;rcases Ret.bools hq with⟨zq,rfl,⟨hb,rfl⟩|⟨hb,rfl⟩⟩<;>clear hq)
   |(go_at_call 138;refine(znB s pu pd _ (HF.out.small (Rat.le_trans Mcw H0.out) (cast_le HK.out Mcu)) Mc6).mono ?_;rintro e w1 ⟨rfl,z1,rfl⟩;simp only[zaA]))
  all_goals first
   |(go_ret
     exact Ret.of (zaP (by rw[HX.out];simp[zcr,zgS,zek,ze7, *])) Bw)
   |(go_round
     case rel=>
      refine⟨k+1,by omega,by go_num,s,(by rw[HX.out,List.take_succ_eq_append_getElem ae,HP.out];simp[zcr,RPart.rat,zek,ze7, *]:_=_),HF.out,H0.out,Rat.le_trans HK.out (natUp k),Bw,by simp[zag];omega,by repeat(first|assumption|with_reducible refine zal ?_|with_reducible refine zb5 ?_|with_reducible refine J_ne Mcu ?_),by repeat(first|assumption|with_reducible refine zal ?_|with_reducible refine zb5 ?_|with_reducible refine J_ne Mcu ?_),?_⟩;repeat(first|assumption|with_reducible refine zal ?_|with_reducible refine zb5 ?_|with_reducible refine J_ne Mcu ?_)
     case measure=>simp[intOf];omega)
 ·exact Mca):P:=h
theorem Mn(h:P:=by
 refine OnM 9 true fun K hK=>?_
 refine zak (v:=.slice V4 s.children.length c4') (n:=s.children.length) (m:=1) rfl _ _ rfl zgo zbm zdG rfl (xs:=s.children) (ys:=[(d.frm,tn)]) o9 br.out.symm rfl rfl (zmU (p:=(d.frm,tn)) n9) McC McO McS ?_;intro v5 w5 g1 g2 g3;obtain⟨A5,c5',ed,_,_⟩:=g1.sl zbm;rw[List.length_append,<-br.out]at ed;subst ed;have aq:Below WX.heap.size WX w5:=Below.grown e9 g2 Md7 (fun j hj=>(o9.ge j hj).1);have cd:=bA.out.trans (aq.mono f9);refine NxM hK fun hHeld=>?_
 clear hK K;refine OnM 10 true fun K hK=>?_
 go_simp
 refine NxM hK fun hHeld=>?_
 clear hK K;obtain⟨⟨xs0,xd0,xr0⟩,⟨s0,s1,s2,s3,s4,s5,s6⟩,⟨d0,d1,d2,d3,d4,d5,d6⟩,⟨r0,r1,r2,r3,r4,r5,r6⟩,rf,ls,ld,lr⟩:=ddF (aw.out w5 (cd));have sf:=frz xs0;refine OnM 11 true fun K hK=>?_
 go_simp
 refine NxM hK fun hHeld=>?_
 clear hK K;refine zaG Mcv ?_ _;clear hHeld;have G1:=Lib.hid g1;have vX:=Lib.hid aq;have bo:=Lib.hid cd;have X0:=Lib.hid xs0;have X2:=Lib.hid xr0;clear g1 g2 g3 aq cd h1 h2 h3 aB;clear xs0 xd0 xr0 s0 s1 s2 s3 s4 s5 s6 d0 d1 d2 d3 d4 d5 d6 r0 r1 r2 r3 r4 r5 r6 rf ls ld lr;clear sf;go_wp2_with fail
 go_meet
 refine⟨by first|rfl|trivial,A5,c5',?_,J_ne Mcu X2.out,(G1.out.kept (zav _ _ _ _) X0.out Mcw).ro',zaM (aj.out.trans (bo.out.mono au)) (Nat.le_refl _) _⟩;have:=Joins.block_setCell (i:=1) X0.out (.slice A5 (s.children.length+1) c5')
 simpa using this):P:=h
theorem Mo(h:P:=by
 refine OnM 6 true fun K hK=>?_
 refine zak (v:=.slice V4 rd.length c4') (n:=rd.length) (m:=1) rfl _ _ rfl zgw zck zgv rfl (xs:=dvs) (ys:=[(⟨d,B,c⟩:DV)]) o9 br.out.symm rfl rfl (sl_deed d B c n9) McC McO McS ?_;intro v5 w5 g1 g2 g3;obtain⟨A5,c5',ed,_,_⟩:=g1.sl zck;rw[List.length_append,<-br.out]at ed;subst ed;have aq:Below WX.heap.size WX w5:=Below.grown e9 g2 Md7 (fun j hj=>(o9.ge j hj).1);have cd:=bA.out.trans (aq.mono f9);refine NxM hK fun hHeld=>?_
 clear hK K;refine OnM 7 true fun K hK=>?_
 go_simp
 refine NxM hK fun hHeld=>?_
 clear hK K;obtain⟨⟨xs0,xd0,xr0⟩,⟨s0,s1,s2,s3,s4,s5,s6⟩,⟨d0,d1,d2,d3,d4,d5,d6⟩,⟨r0,r1,r2,r3,r4,r5,r6⟩,rf,ls,ld,lr⟩:=ddF (aw.out w5 (cd));have sf:=frz xs0;refine OnM 8 true fun K hK=>?_
 go_simp
 refine NxM hK fun hHeld=>?_
 clear hK K;refine zaG Mcv ?_ _;clear hHeld;have G1:=Lib.hid g1;have vX:=Lib.hid aq;have bo:=Lib.hid cd;have X0:=Lib.hid xs0;have X2:=Lib.hid xr0;clear g1 g2 g3 aq cd h1 h2 h3 aB;clear xs0 xd0 xr0 s0 s1 s2 s3 s4 s5 s6 d0 d1 d2 d3 d4 d5 d6 r0 r1 r2 r3 r4 r5 r6 rf ls ld lr;clear sf;go_wp2_with fail
 go_meet
 refine⟨by first|rfl|trivial,A5,c5',?_,J_ne Mcu X2.out,(G1.out.kept (zav _ _ _ _) X0.out Mcw).ro',zaM (aj.out.trans (bo.out.mono au)) (Nat.le_refl _) _⟩;have:=Joins.block_setCell (i:=5) X0.out (.slice A5 (rd.length+1) c5')
 simpa using this):P:=h
theorem Mp(h:P:=by
 refine OnM 6 true fun K hK=>?_
 refine zak (v:=.slice V4 wd.length c4') (n:=wd.length) (m:=1) rfl _ _ rfl zgw zck zgv rfl (xs:=dvs) (ys:=[(⟨d,B,c⟩:DV)]) o9 br.out.symm rfl rfl (sl_deed d B c n9) McC McO McS ?_;intro v5 w5 g1 g2 g3;obtain⟨A5,c5',ed,_,_⟩:=g1.sl zck;rw[List.length_append,<-br.out]at ed;subst ed;have aq:Below WX.heap.size WX w5:=Below.grown e9 g2 Md7 (fun j hj=>(o9.ge j hj).1);have cd:=bA.out.trans (aq.mono f9);refine NxM hK fun hHeld=>?_
 clear hK K;refine OnM 7 true fun K hK=>?_
 go_simp
 refine NxM hK fun hHeld=>?_
 clear hK K;obtain⟨⟨xs0,xd0,xr0⟩,⟨s0,s1,s2,s3,s4,s5,s6⟩,⟨d0,d1,d2,d3,d4,d5,d6⟩,⟨r0,r1,r2,r3,r4,r5,r6⟩,rf,ls,ld,lr⟩:=ddF (aw.out w5 (cd));have sf:=frz xs0;refine OnM 8 true fun K hK=>?_
 go_simp
 refine NxM hK fun hHeld=>?_
 clear hK K;refine zaG Mcv ?_ _;clear hHeld;have G1:=Lib.hid g1;have vX:=Lib.hid aq;have bo:=Lib.hid cd;have X0:=Lib.hid xs0;have X2:=Lib.hid xr0;clear g1 g2 g3 aq cd h1 h2 h3 aB;clear xs0 xd0 xr0 s0 s1 s2 s3 s4 s5 s6 d0 d1 d2 d3 d4 d5 d6 r0 r1 r2 r3 r4 r5 r6 rf ls ld lr;clear sf;go_wp2_with fail
 go_meet
 refine⟨by first|rfl|trivial,A5,c5',?_,J_ne Mcu X2.out,(G1.out.kept (zav _ _ _ _) X0.out Mcw).ro',zaM (aj.out.trans (bo.out.mono au)) (Nat.le_refl _) _⟩;have:=Joins.block_setCell (i:=4) X0.out (.slice A5 (wd.length+1) c5')
 simpa using this):P:=h
theorem Mq(h:P:=by
 refine OnM 9 true fun K hK=>?_
 refine zak (v:=.slice V4 s.marriages.length c4') (n:=s.marriages.length) (m:=1) rfl _ _ rfl zgo zbm zdG rfl (xs:=s.marriages) (ys:=[(d.frm,tn)]) o9 br.out.symm rfl rfl (zmU (p:=(d.frm,tn)) n9) McC McO McS ?_;intro v5 w5 g1 g2 g3;obtain⟨A5,c5',ed,_,_⟩:=g1.sl zbm;rw[List.length_append,<-br.out]at ed;subst ed;have aq:Below WX.heap.size WX w5:=Below.grown e9 g2 Md7 (fun j hj=>(o9.ge j hj).1);have cd:=bA.out.trans (aq.mono f9);refine NxM hK fun hHeld=>?_
 clear hK K;refine OnM 10 true fun K hK=>?_
 go_simp
 refine NxM hK fun hHeld=>?_
 clear hK K;obtain⟨⟨xs0,xd0,xr0⟩,⟨s0,s1,s2,s3,s4,s5,s6⟩,⟨d0,d1,d2,d3,d4,d5,d6⟩,⟨r0,r1,r2,r3,r4,r5,r6⟩,rf,ls,ld,lr⟩:=ddF (aw.out w5 (cd));have sf:=frz xs0;refine OnM 11 true fun K hK=>?_
 go_simp
 refine NxM hK fun hHeld=>?_
 clear hK K;refine zaG Mcv ?_ _;clear hHeld;have G1:=Lib.hid g1;have vX:=Lib.hid aq;have bo:=Lib.hid cd;have X0:=Lib.hid xs0;have X2:=Lib.hid xr0;clear g1 g2 g3 aq cd h1 h2 h3 aB;clear xs0 xd0 xr0 s0 s1 s2 s3 s4 s5 s6 d0 d1 d2 d3 d4 d5 d6 r0 r1 r2 r3 r4 r5 r6 rf ls ld lr;clear sf;go_wp2_with fail
 go_meet
 refine⟨by first|rfl|trivial,A5,c5',?_,J_ne Mcu X2.out,(G1.out.kept (zav _ _ _ _) X0.out Mcw).ro',zaM (aj.out.trans (bo.out.mono au)) (Nat.le_refl _) _⟩;have:=Joins.block_setCell (i:=2) X0.out (.slice A5 (s.marriages.length+1) c5')
 simpa using this):P:=h
theorem Mr(h:P:=by
 go_wp2_with (first
               |(go_at_call 61;go_must(refine(zc5 _ _ _ _).mono ?_);rintro e wq ⟨rfl,rfl⟩;(first|rw[iy]|rw[hc9]|rw[hy9]))
               |(go_at_call 31;go_must(refine(zcS _ _).mono ?_);rintro e wq ⟨rfl,rfl⟩;rw[ip])
               |(go_at_call 30;go_must(refine(zcR _ _ Mc6).mono ?_);rintro e wq ⟨rfl,rfl⟩;(first|rw[cM]|rw[fw]|rw[mT])))
 go_meet
 exact⟨zaP (by simp[zb1, *]),by first|exact True.intro|rfl⟩):P:=h
theorem Ms(h:P:=by
 go_wp2_with (first
               |(go_at_call 61;go_must(refine(zc5 _ _ _ _).mono ?_);rintro e wq ⟨rfl,rfl⟩;(first|rw[iy]|rw[hc9]|rw[hy9]))
               |(go_at_call 31;go_must(refine(zcS _ _).mono ?_);rintro e wq ⟨rfl,rfl⟩;rw[ip])
               |(go_at_call 30;go_must(refine(zcR _ _ Mc6).mono ?_);rintro e wq ⟨rfl,rfl⟩;(first|rw[cM]|rw[fw]|rw[mT])))
 go_ret
 exact Ret.of (zbB HE.out.symm) aj.out):P:=h
theorem Mt(h:P:=by
 intro v6 w6 h1 h2 h3;obtain⟨A6,c6,dG,_,_⟩:=h1.sl za9;rw[List.length_append]at dG;subst dG;have xz:=o1.ge;have dS:∀k,k<wc.heap.size->w6.heap[k]?=wc.heap[k]?:=fun k hk=>(h2.block k (by have:=oK.size;simp at this⊢;omega) (fun e=>by have:=(xz k e.symm).1;simp at this;omega)).trans (oK.block k (by simpa using hk))
 have ta:zbw w6 wr.heap.size g.place g.cls frm g.fin (.slice A1 g.holders.length c1) (.slice D g.died.length dc):=(dS _ bR).trans fj.out;have iD:wc.heap.size<=w6.heap.size:=by have a:=oK.size;have b:=h2.size;simp at a b⊢;omega
 have y3:w6.cell? ⟨w.heap.size,3,none⟩=some (.string fr):=(World.cell?_of_block (w:=wc) (dS w.heap.size Mcu)).trans d3;have y5:w6.cell? ⟨T,5,none⟩=some (.slice D g.died.length dc):=(World.cell?_of_block (w:=wc) (dS T Mcu)).trans q5;have jv:=ta;unfold zbw at jv;obtain⟨-,-,-,-,-,u5⟩:=cF6 jv;have fu5:w6.frozen? ⟨wr.heap.size,5,none⟩=false:=by simp only[World.frozen?,jv];rfl
 have hx6:=zab ta;refine NxM hK (fun hHeld=>?_) (⟨y3,y5⟩);clear hK K;refine TkH 9 ?_;refine OnH 10 fun K hK=>?_
 go_simp
 refine NxM hK (fun hHeld=>?_) (⟨(World.cell?_setCell_far _ _ _ _ (by show wr.heap.size≠w.heap.size;omega)).trans y3,(World.cell?_setCell_far _ _ _ _ (by show wr.heap.size≠T;omega)).trans y5⟩);clear hK K;refine wpAnyH_done Mcv ?_ _;go_wp2_with fail
 go_meet
 have aS:Below wc.heap.size wc w6:=Below.grown (a:=wc) (B:=wc.heap.size) (B_drop oK) h2 (by have:=oK.size;simp at this⊢;omega) (fun j hj=>by have:=(xz j hj).1;simp at this;omega);have ji:za5 (.slice A1 g.holders.length c1)≠some wr.heap.size:=zkF jW.out fj.out Mcw
 exact⟨A6,c6,tomb_set5 ta _,OwnS.base_le (h1.grown (zav _ _ _ _) (.inr fun e=>by have:=(h1.ge _ e).1;simp at this;omega)) Mcz,(jW.out.keep aS).grown (zav _ _ _ _) (.inr ji),zaM (aw.out.trans (aS.mono Mcu)) Mcx _⟩):P:=h
theorem Mu(h:P:=by
 (refine zaj Mcv Mcv ?_
  repeat(first|go_big_quiet_skip|(go_big_quiet_want;go_big_quiet_op;first|go_big_quiet_on|(apply Exists.intro;refine⟨fun _=>?_,?_⟩;(go_at_call 127;exact quietx (zhS _));go_big_quiet_on)))
  refine wpQuiet_nil ?_
  rintro _ ⟨zq,rfl⟩)
 go_wp2_with fail
 go_ret
 exact Ret.of (zaP (by rw[HE.out];simp[fm5, *])) (zbg aH.out zq)):P:=h
theorem Mv(h:P:=by
 refine bodyPost_ret (zbG rfl _ rfl rfl (zc2 xr5)) rfl ?_
 exact⟨_,_,_,_,_,_,_,rfl,rfl,zcD (aj.out.trans (bo.out.mono au)) (show w.heap.size<=w.heap.size+2 by omega),fun h0=>(zc6 xr5 rfl).st (aK.out h0)⟩):P:=h
theorem Mw(h:P:=by
 refine bodyPost_ret (v:=zmC (zbU day) (zbh day) (day-zaD (zbU day) (zbh day)+1)) ?_ rfl ?_
 ·rw[HN.out,kM.out];have g2:=J_set3 (a:=.int .i64 y) (b:=.int .i64 m) (c:=.int .i64 (day-zaD y m+1)) (J_ne (b:=w.heap.size+1) (o:=2) (v:=.int .i64 (day-zaD y m+1)) Mcu g0);refine zlr rfl _ _ w.heap.size _ _ _ rfl ?_ ?_ ?_;all_goals simp[World.cell?,g2]
 ·exact⟨HD.out,Ret.of rfl (by repeat(first|exact B_refl|exact Below.refl _ _|assumption|with_reducible refine zac ?_ _|with_reducible refine zbg ?_ _|with_reducible refine zaE ?_|with_reducible refine zd9 ?_ _|with_reducible refine zaM ?_ Mds _))⟩):P:=h
theorem Mx(h:P:=by
 have oo:=Lib.hid wX;have fA:=Lib.hid (lC.out.trans (((zaE mn).trans (CL.mono mn.size)).mono (by have:=lC.out.size;omega)));have cU:=Lib.hid (fun W (h:Below w5.heap.size w5 W)=>zdN ys YA yc W (by have:=kU.out;omega) (oo.out.keep h));clear wX CL;go_upto_region 11 with fail
 cases hlg:zaF ys
 ·rw[hlg]at cU;go_wp2_with (go_at_call 160;go_must(refine(cU.out _ (Below.refl _ _)).mono ?_);rintro e wq ⟨rfl,rfl⟩)
  rcases BK.out with h|⟨h1,h2⟩
  ·obtain⟨g1,g2,g3⟩:=vC.out ys h;go_round
   case rel=>exact⟨k+1,ys,YA,yc,am.out,rfl,by go_num,g1,g2,g3,fun _=>AU.out,oo.out,fA.out⟩
   case measure=>have:=am.out;simp only[intOf];omega
  ·rw[hlg]at h2;cases h2
 ·rw[hlg]at cU;go_wp2_with (go_at_call 160;go_must(refine(cU.out _ (Below.refl _ _)).mono ?_);rintro e wq ⟨rfl,rfl⟩)
  go_ret
  have lj:R=none:=by
   rcases BK.out with h|⟨h1,h2⟩
   ·have:=(vC.out ys h).2.1.out.small;rw[hlg]at this;cases this
   ·exact nv.out h1
  exact⟨YA,yc,ys,rfl,oo.out,aj.out.trans ((aC.out.trans (fA.out.mono ii)).mono m8),kU.out,.inr ⟨lj,hlg⟩⟩):P:=h
theorem My(h:P:=by
 go_wp2_with (first
               |(go_at_call 76;refine(zbk _ _ _ _).mono ?_;intro e wq hq;rcases Ret0.bools hq with⟨rfl,⟨hb,rfl⟩|⟨hb,rfl⟩⟩<;>clear hq)
               |(go_at_call 51;refine(zcU _ _).mono ?_;intro e wq hq;rcases Ret0.bools hq with⟨rfl,⟨hb,rfl⟩|⟨hb,rfl⟩⟩<;>clear hq)
               |(go_at_call 50;refine(zcb _ _ Mc6).mono ?_;intro e wq hq;rcases Ret0.bools hq with⟨rfl,⟨hb,rfl⟩|⟨hb,rfl⟩⟩<;>clear hq)
               |(go_at_call 62;refine(zcV _ _ eg (fun q:RPart=>!zaT q.name) _ _ _ ps _ rfl HL.out (HS.out.keep (n:=w.heap.size) Bw) (zgi ps _ HN.out)).mono ?_;intro e wq hq;rcases Ret.bools hq with⟨zq,rfl,⟨hb,rfl⟩|⟨hb,rfl⟩⟩<;>clear hq)
               |(go_at_call 108;refine(zdC ⟨word,fp,ff,fc,fy,fa,fpt,fs⟩ _ _ _ _ _ _ ps _ _ _ _ rfl Mcu HC.out (HS.out.keep (n:=w.heap.size) Bw)).mono ?_;intro e wq hq;rcases Ret.bools hq with⟨zq,rfl,⟨hb,rfl⟩|⟨hb,rfl⟩⟩<;>clear hq))
 all_goals go_meet
 all_goals(refine⟨zaP (by first|exact hb.symm|simp[zb1,noB, *]),Bw,by first|omega|(simp[zag];done)|(simp[zag];omega),?_⟩;repeat(first|assumption|with_reducible refine zal ?_|with_reducible refine zb5 ?_|with_reducible refine J_ne Mcu ?_))):P:=h
theorem Mz(h:P:=by
 go_wp2_with fail
 all_goals go_meet
 all_goals(refine⟨zaP (by first|(simp[noB, *];done)|(rw[Bool.eq_iff_iff];simp[noB];simp[*];done)|(cases fp<;>cases ff<;>simp_all[noB])),Bw,by first|omega|(simp[zag];done)|(simp[zag];omega),?_,?_⟩)
 all_goals(repeat(first|assumption|with_reducible refine zal ?_|with_reducible refine zb5 ?_|with_reducible refine J_ne Mcu ?_))):P:=h
theorem MC(h:P:=by
 obtain⟨f0,f1⟩:=zby me;have fz:=frz me;refine OnM 12 true fun K hK=>?_
 go_simp
 refine NxM hK fun hHeld=>?_
 clear hK K;refine OnM 13 true fun K hK=>?_
 go_simp
 refine NxM hK fun hHeld=>?_
 clear hK K;refine zaG Mcv ?_ _;clear hHeld;go_wp2_with fail
 go_meet
 refine⟨_,rfl,rfl,?_,?_⟩
 ·first|with_reducible exact zdy me|exact zaq _ _ _ Mdk|exact zb5 (zaq _ _ _ rfl)
 ·first|with_reducible exact zaM (zaM rq oC _) oC _|exact zac (zbg aX _) _|exact zbg (zac aX _) _):P:=h
theorem MD(h:P:=by
 have vA:=Lib.hid iN;have jD:=Lib.hid bF;clear iN bF;refine hK.out _ _ ?_ (fun hHeld=>?_);focus((try dsimp only);refine⟨?_,?_,?_,?_,?_,?_⟩<;>assumption)
 clear hK K;try simp only[Act.put,List.setIfInBounds_toArray,List.set_cons_zero,List.set_cons_succ]
 refine wpAnyH_done Mcv ?_ _;go_wp2_with fail
 go_end0
 refine⟨rfl,⟨_,vA.out,(zfm _ _ _ kN.out).1,fun k=>?_⟩,?_,?_⟩
 ·show _\/mget eqS k (mput eqS n _ mm)=some (zaA (zaf (setP out n (zbj (zaf out n+f))) k));rw[ze0,zl6 HG.out,gz.out];cases hk:zae k n
  ·simp only[Bool.false_eq_true,if_false];show _\/_;rcases vm.out k with⟨a1,a2⟩|a
   ·refine .inl ⟨a1,?_⟩;show zaf (setP out n (zbj (zaf out n+f))) k=0;rw[zl6 HG.out,hk];exact a2
   ·exact .inr a
  ·exact .inr rfl
 ·show MarkAt w6 C (fl||bigQ (zaf out n+f));rw[gz.out];exact N1.out.grown jD.out tV
 ·exact(Two2.of_below Bw).trans ((Two2.grownC N2.out).trans (Two2.grownM jD.out))):P:=h
theorem ME(h:P:=by
 intro W B hb;have f0:W.cell? ⟨B,0,none⟩=some (.int .i64 0):=by simp[World.cell?,hb]
 have f1:W.cell? ⟨B,1,none⟩=some (.int .i64 0):=by simp[World.cell?,hb]
 have fz:∀j,W.frozen? ⟨B,j,none⟩=false:=fun j=>by simp[World.frozen?,hb]
 go_simp
 with_reducible exact⟨zdy hb,zpx _ _ _ _⟩):P:=h
theorem MF(h:P:=by
 (go_wp2_with fail
  go_ret
  exact Ret.of (zbB McN) Bw)):P:=h
theorem MG(h:P:=by
 clear hc aM;go_wp2_with fail
 (refine zaj Mcv Mcv ?_
  repeat(first|go_big_quiet_skip|(go_big_quiet_want;go_big_quiet_op;first|go_big_quiet_on|(apply Exists.intro;refine⟨fun _=>?_,?_⟩;(fail);go_big_quiet_on)))
  refine wpQuiet_nil ?_
  rintro _ ⟨zq,rfl⟩)
 go_wp2_with fail
 go_roundw
 case rel=>exact⟨j+1,by omega,by go_num,zaZ Bw⟩
 case measure=>simp[intOf];omega):P:=h
theorem MH(h:P:=by
 go_wp2_with fail
 go_round
 case rel=>have aq:=aH.out.trans (zbg (Below.refl W3.heap.size W3) zq |>.mono jd)
           have Lj:=bY.out.keep aq;have e1:(dx++[x])++gxs.drop (k+1)=dx++gxs.drop k:=by rw[AZ.out,List.append_assoc];rfl
           refine⟨k+1,l,f,dx++[x],am.out,by go_num,rfl,rfl,by rw[List.length_append,ir];rfl,Lib.hid fun _=>by rw[e1];exact Lj,Lib.hid fun y hy=>?_,nV,Lib.hid fun dQ=>?_,HB.out.trans (aq.mono aI),Nat.le_trans jz aq.size⟩
           ·rcases List.mem_append.1 hy with hy|hy
            ·exact(gq.out y hy).keep aq
            ·rw[List.mem_singleton.1 hy];exact .inl br.out
           ·obtain⟨h1,h2⟩:=kN.out dQ;exact⟨by rw[h1,EV.out,List.map_append];rfl,h2⟩
 case measure=>have:=am.out;simp only[intOf];omega):P:=h
theorem MI(h:P:=by
 go_round
 case rel=>exact⟨k+1,am.out,by go_num,by first|exact True.intro|rfl,HE.out⟩
 case measure=>have:=am.out;simp only[intOf];omega):P:=h
theorem MJ(h:P:=by
 refine⟨0,Nat.zero_le _,rfl,0,HX,fits_zero,Rat.le_refl,Rat.le_refl,?_,?_,?_,?_,?_⟩
 ·exact Bw
 ·simp
 ·exact zal (zal (zaq _ _ _ rfl))
 ·exact zal (zaq _ _ _ Mcx)
 ·exact zaq _ _ _ Mcx):P:=h
theorem MK(h:P:=by
 have g4:wq.heap[P]?=some (zbv part):=(g3.others P Mcz Mcu Mcu).trans (zal IS.out);have g5:Two2 w wq C m:=Eg.out.trans (Two2.trans McK g3);have G1:=Lib.hid g1;have G2:=Lib.hid g2;have G4:=Lib.hid g4;have G5:=Lib.hid g5;clear g1 g2 g3 g4 g5;go_wp2_with fail
 go_round
 case rel=>exact⟨k+1,_,_,by omega,by go_num,bT.out.symm,G1.out,G2.out,G5.out,G4.out⟩
 case measure=>simp[intOf];omega):P:=h
theorem ML(h:P:=by
 have cn:Hid (R=4):=by show _=_;rw[HR.out];simp[zcx, *]
 clear HR HK dl;go_wp2_with (go_at_call 50;refine(zcb _ _ Mc6).mono ?_;rintro e wq ⟨rfl,rfl⟩;rw[hq])
 go_ret
 rw[cn.out]
 exact Ret.of rfl Bw):P:=h
theorem MM(h:P:=by
 have HE:Hid (R=ixI (zlV place day) gs (k+1)):=by show _=_;rw[av.out,if_neg (by unfold zlV zaR;simp[cT, *])]
 go_wp2_with fail
 go_round
 case rel=>exact⟨k+1,am.out,by go_num,HE.out,eu.out⟩
 case measure=>have:=am.out;simp only[intOf];omega):P:=h
theorem MN(h:P:=by
 (try simp only)
 (repeat' split)<;>intro h<;>first|rfl|exact absurd rfl h):P:=h
theorem MO(h:P:=by
 go_upto_region 6 with fail
 (refine zaj Mcv Mcv ?_
  repeat(first|go_big_quiet_skip|(go_big_quiet_want;go_big_quiet_op;first|go_big_quiet_on|(apply Exists.intro;refine⟨fun _=>?_,?_⟩;(fail);go_big_quiet_on)))
  refine wpQuiet_nil ?_
  rintro _ ⟨zq,rfl⟩)
 go_wp2_with fail
 go_round
 case rel=>exact⟨k+1,am.out,by go_num,HE,zbg HB.out zq⟩
 case measure=>have:=am.out;simp only[intOf];omega):P:=h
theorem MP(h:P:=by
 gi_wp2
 have g2:=Boxed.set (.string ⟨#[]⟩) T2.out;have HD:=Lib.hid hd;have bN:∀i,SpIx s x w .ret (pre++[(i,y1,y2)]) (wr.setCell ⟨w.heap.size+1+1,0,none⟩ (.string ⟨#[]⟩)):=fun i=>⟨⟨rfl,pre.map Prod.snd,(y1,y2),by simp,HP.out,HM.out,by rw[HO.out,HD.out];exact g2⟩,zaM (aE.trans (b8.out.mono Mcu)) Mcz _⟩
 first
  |exact⟨(KeepsOthers.setCell _ _ _).from _,bN _⟩
  |(trace_state;fail "ret")):P:=h
theorem MQ(h:P:=by
 go_wp2_with fail
 go_meet
 exact⟨zaP (by simp[fm2, *]),by first|exact True.intro|rfl⟩):P:=h
theorem MR(h:P:=by
 go_wp2_with fail
 go_ret
 exact Ret.of (zaP HE.out.symm) HB.out):P:=h
theorem MS(h:P:=by
 go_roundg f'
 case measure=>omega
 case rel=>
  refine⟨f',y+1,Nat.le_refl _,by omega,by omega,by omega,HN,HC.out,by repeat(first|exact B_refl|exact Below.refl _ _|assumption|with_reducible refine zac ?_ _|with_reducible refine zbg ?_ _|with_reducible refine zaE ?_|with_reducible refine zd9 ?_ _|with_reducible refine zaM ?_ Mds _),J_ne Mcu g0,?_⟩;have:=Joins.block_setCell (i:=0) g1 (.int .i64 (y+1))
  simpa using this):P:=h
theorem MT(h:P:=by
 clear bQ;go_wp2_with (go_at_call 95;go_must(refine(tJ.out _).mono ?_);rintro e wq ⟨rfl,z,rfl⟩)
 rw[HE.out];refine bodyPost_ret (v:=.tuple #[zaA o,.bool false]) ?_ rfl ?_
 ·exact zgC rfl _ _ w.heap.size _ _ _ rfl rfl (by first|exact zb5 (zdy g0)|exact zdy (zb5 g0))
 ·exact Ret.of rfl (by first|exact zbg (zaM (zaM HB.out Mcx _) Mcx _) z|exact zaM (zaM (zbg HB.out z) Mcx _) Mcx _)):P:=h
theorem MU(h:P:=by
 go_wp2_with fail
 go_round
 case rel=>exact⟨k+1,es,by omega,by go_num,nw.out,by rw[ao,nr.out,Option.toList_none,List.append_nil];exact Il.out,aH.out,by have:=eL.out;omega⟩
 case measure=>simp[intOf];omega):P:=h
theorem MV(h:P:=by
 refine znh rfl _ _ w.heap.size _ _ _ _ _ _ rfl ?_ ?_ ?_ ?_ ?_ ?_<;>simp[go_sem]):P:=h
theorem MW(h:P:=by
 (repeat(first|exact zaq _ _ _ (by simp[zag];done)|with_reducible refine zb5 ?_|with_reducible refine zal ?_))):P:=h
theorem MX(h:P:=by
 rcases h with⟨rfl,_⟩|⟨g,o,c,cur,rfl,_,hg,_⟩
 ·simp[za5]
 ·intro h;simp only[za5,Option.some.injEq]at h;subst h;rw[hg]at hT;simp only[Option.some.injEq,Obj.cells.injEq]at hT
  exact ai hT.2.1.symm):P:=h
theorem MY(h:P:=by
 go_wp2_with (first
  |(go_at_call 76;refine(zbk _ _ _ _).mono ?_;rintro e wq ⟨rfl,rfl⟩;first|rw[v1]|rw[v2])
  |(go_at_call 100;refine(HG.out _).mono ?_;rintro e wq ⟨rfl,z,rfl⟩))
 go_ret
 exact Ret.of (zbB kI.out.symm) (HB.out.trans (Below.mono (B:=wc.heap.size) Bw hs))):P:=h
theorem MZ(h:P:=by
 rw[zhT (f:=⟨_,_,_,_,_,_,_,_⟩) (.inl rfl)]
 cases noB fr<;>cases noB pl<;>cases hy:(yr==0)<;>cases hc:(cl==0)<;>simp_all):P:=h
theorem M0(h:P:=by
 go_wp2_with fail
 go_ret
 exact⟨by rw[HE.out];rfl,rfl⟩):P:=h
theorem M3(h:P:=by
 refine Nat.le_trans (List.length_filter_le _ _) ?_;rw[List.length_take]
 omega):P:=h
theorem M4(h:P:=by
 unfold za8 at hd;simp only[Bool.and_eq_true,decide_eq_true_eq]at hd;refine⟨law.den.toNat,by omega,by omega,law.num,?_⟩;have hz:(law.den:Rat)≠0:=ratI Mcu;have e:((law.den.toNat:Nat):Rat)=(law.den:Rat):=by rw[<-Rat.intCast_natCast,Int.toNat_of_nonneg Mcu]
 rw[Rat.divInt_eq_div,e]
 grind):P:=h
theorem M5(h:P:=by
 go_round
 case rel=>exact⟨0+1,by omega,by go_num,by first|exact True.intro|rfl,fun j s hj hs=>by
  rcases Nat.lt_succ_iff_lt_or_eq.1 hj with hj|rfl
  ·exact HK.out j s hj hs
  ·simp at hs;rw[<-hs];exact nv.out⟩
 case measure=>simp[intOf]):P:=h
theorem M6(h:P:=by
 go_round
 case rel=>exact⟨1+1,by omega,by go_num,by first|exact True.intro|rfl,fun j s hj hs=>by
  rcases Nat.lt_succ_iff_lt_or_eq.1 hj with hj|rfl
  ·exact HK.out j s hj hs
  ·simp at hs;rw[<-hs];exact nv.out⟩
 case measure=>simp[intOf]):P:=h
theorem M7(h:P:=by
 go_round
 case rel=>exact⟨2+1,by omega,by go_num,by first|exact True.intro|rfl,fun j s hj hs=>by
  rcases Nat.lt_succ_iff_lt_or_eq.1 hj with hj|rfl
  ·exact HK.out j s hj hs
  ·simp at hs;rw[<-hs];exact nv.out⟩
 case measure=>simp[intOf]):P:=h
theorem M8(h:P:=by
 go_wp2_with (go_at_call 5;go_must(refine(qA.out _ Mem).mono ?_);rintro e wq ⟨rfl,z,rfl⟩)
 go_ret
 exact Ret.of rfl (zbg aC.out z)):P:=h
theorem M9(h:P:=by
 have hw:Region.wanted o (yielded ops a.tmps)=true:=by simp[Region.wanted,bG]
 rw[if_pos hw];unfold Oper.wp;simp[execOp,ho,hx,hi,hu,hrun,Result.andThen]
 exact h):P:=h
theorem Maa(h:P:=by
 go_wp2_with (go_at_call 24;refine(bK.out _ Bw).mono ?_;rintro e wq ⟨rfl,z,rfl⟩;simp only[zlw,Option.map_none])
 go_ret
 exact zbR HW.out Bw HG.out):P:=h
theorem Mab(h:P:=by
 go_wp2_with (go_at_call 185;go_must(refine(In.out _ (zbg aj.out z)).mono ?_);rintro e wq ⟨v,rfl,o,b⟩;obtain⟨VA,vc,rfl,_,_⟩:=o.sl za9;have Hw:=Lib.hid ((zbg aj.out z).trans (b.mono McD));clear o b)
 go_ret
 exact Ret.of (zaP (by simp[hz])) Hw.out):P:=h
theorem Mac(h:P:=by
 refine slw_of ((zji dZ cy Mcw).sl zck) (by rw[List.map_append,zG.out];rfl) fun y hy=>?_
 rcases List.mem_append.1 hy with hy|hy
 ·exact⟨(tC.out y hy).1,(tC.out y hy).2.keep du⟩
 ·rw[List.mem_singleton.1 hy]
  exact⟨lF.out,HS.out _ du⟩):P:=h
theorem Mad(h:P:=by
 go_round
 case rel=>exact⟨k+1,am.out,by go_num,by rw[aK.out];exact H1.out,aH.out⟩
 case measure=>have:=am.out;simp only[intOf];omega):P:=h
theorem Mae(h:P:=by
 first
  |exact⟨(KeepsOthers.setCell _ _ _).from _,bN _⟩
  |(trace_state;fail "ret")):P:=h
theorem Maf(h:P:=by
 (go_wp2_with fail
  go_ret
  exact Ret.of (zbB Mdb) Bw)):P:=h
theorem Mag(h:P:=by
 clear hR;go_wp2_with fail
 go_ret
 exact Ret.of (zaP HE.out.symm) Bw):P:=h
theorem Mah(h:P:=by
 go_wp2_with fail
 go_ret
 exact zbR HW.out Bw iZ.out):P:=h
theorem Mai(h:P:=by
 rw[zhT (f:=⟨_,_,_,_,_,_,_,_⟩) (.inl rfl)]
 cases noB fr<;>cases noB pl<;>cases hy:(yr==0)<;>cases hc:(cl==0)<;>cases ps<;>simp_all):P:=h
theorem Maj(h:P:=by
 go_wp2_with (at_builtin;refine zat (n:=xs.length) (m:=1) rfl _ _ rfl zdV zam zcg rfl HO.out rfl rfl rfl HS.out McP Mcu aN ?_;intro v' w' h1 h2 h3)
 all_goals go_ret
 all_goals exact⟨_,rfl,h1,h2,h3⟩):P:=h
theorem Mak(h:P:=by
 refine dw k ok hk ar ?_ dl;by_cases hjk:j=k
 ·subst hjk;exact kr
 ·rw[getD_set_ne true hjk]at eb;exact eb):P:=h
theorem Mal(h:P:=by
 go_quiet (fail)
 go_wp2_with fail
 go_meet
 exact⟨zaP (by simp[*]),zd9 (Below.refl _ _) _⟩):P:=h
theorem Mam(h:P:=by
 rw[List.getElem?_set_ne hj]at e2;have ai:T'≠T:=fun e=>by
  subst e;exact hj ((List.getElem?_inj (List.getElem?_eq_some_iff.1 hi).1 hT.nd).1 (hi.trans e1.symm))
 exact(hT.all j T' g e1 e2).kept hg hx ai Mcw Mcw):P:=h
theorem Man(h:P:=by
 go_wp2_with (go_at_call 61;go_must(refine(zc5 _ _ _ _).mono ?_);rintro e wq ⟨rfl,rfl⟩)
 go_ret
 exact⟨rfl,rfl⟩):P:=h
theorem Mao(h:P:=by
 go_wp2_with fail
 go_ret
 exact Ret.of rfl Bw):P:=h
theorem Map(h:P:=by
 have HE:=Lib.hid he;clear he;go_wp2_with fail
 go_round
 case rel=>exact⟨by first|exact True.intro|rfl,.inr (.inl ⟨by go_num,by rw[HE.out]⟩)⟩
 case measure=>simp only[intOf];decide):P:=h
theorem Maq(h:P:=by
 have:=zec (t:=69) zck (WX.drew.alloc (.cells #[.int .i64 d.kind,.int .i64 d.day,.string d.place,.string d.frm,.slice B d.to.length c,.int .i64 d.cls,.int .i64 d.years] 69)) WX.heap.size Mcx
 simpa using this):P:=h
theorem Mar(h:P:=by
 have HE:Hid (R=(k:Int)):=by show _=_;rw[av.out,if_pos (by unfold zlV zaR;simp[cT, *])]
 go_wp2_with fail
 go_ret
 exact Ret.of (zbB HE.out.symm) (aj.out.trans (eu.out.mono aj.out.size))):P:=h
theorem Mas(h:P:=by
 rw[hd]at tC;clear hx hd;go_wp2_with (go_at_call 135;go_must(refine(tC.out _ Mdl).mono ?_);rintro e wq ⟨rfl,z,rfl⟩)
 go_ret
 exact Ret.of (by rw[HE.out];rfl) (zbg aj.out z)):P:=h
theorem Mat(h:P:=by
 go_wp2_with fail
 go_quiet (fail)
 go_wp2_with fail
 go_ret
 exact Ret.of (zaP (by rw[HU.out];simp)) Bw):P:=h
theorem Mau(h:P:=by
 go_roundw
 case rel=>exact⟨k+1,by omega,by go_num,by rw[bT.out,lU.out];simpa using HO.out.keep (n:=wr.heap.size) Bw,HB.out.trans ((Bw:Below wr.heap.size wr _).mono hsz)⟩
 case measure=>simp[intOf];omega):P:=h
theorem Mav(h:P:=by
 rw[List.drop_eq_nil_of_le Mcu,zeY]at hf;have HF:=Lib.hid hf;clear hf hS;have jq:¬(k:Int)<(ls.length:Int):=Mcu;go_wp2_with fail
 go_ret
 exact Ret.of (zbB (by rw[HF.out])) Bw):P:=h
theorem Maw(h:P:=by
 go_wp2_with (go_at_call 50;refine(zcb _ _ hs).mono ?_;intro e wq hq;rcases Ret0.bools hq with⟨rfl,⟨hb,rfl⟩|⟨hb,rfl⟩⟩<;>clear hq)
 all_goals go_ret
 all_goals exact Ret.of (zaP (by simp[*])) Bw):P:=h
theorem Max(h:P:=by
 go_enter Tryz.func204,Tryz.ntmps204
 go_wp2_with (go_at_call 217;refine(zo5 _ _ h0 h1).mono ?_;rintro e wq ⟨rfl,rfl⟩;rw[hl])
 all_goals go_ret
 all_goals exact⟨by rw[HD.out,hl];rfl,rfl⟩):P:=h
theorem May(h:P:=by
 go_wp2_with fail
 refine bodyPost_ret (v:=zaA (zaf (P++(qn,qr)::Q) nm)) ?_ rfl ?_
 ·rw[J7.out];exact Mch
 ·exact Ret.of rfl Bw):P:=h
theorem Maz(h:P:=by
 go_ret
 exact Ret.of (zaP (by rw[cn.out];rfl)) (HB.out.trans (Below.mono (B:=wr.heap.size) Bw aI))):P:=h
theorem MaA(h:P:=by
 go_wp2_with fail
 go_ret
 rw[av.out]
 exact Ret.of rfl Bw):P:=h
theorem MaB(h:P:=by
 show((Sort.mapBlock _ _ _).heap++os)[g]?=_;rw[Array.getElem?_append_left MdW];simp only[Sort.mapBlock,Sort.ahead];rw[Array.getElem?_modify,if_pos rfl,hg]
 rfl):P:=h
theorem MaC(h:P:=by
 show((Sort.mapBlock _ _ _).heap++os)[k]?=_;rw[Array.getElem?_append_left MdW];simp only[Sort.mapBlock,Sort.ahead]
 rw[Array.getElem?_modify,if_neg Gp]):P:=h
theorem MaD(h:P:=by
 go_wp2_with (go_at_call 96;go_must(refine(qy.out _ Mdl).mono ?_);rintro e wq ⟨rfl,z,rfl⟩)
 go_ret
 exact Ret.of (zbB HE.out.symm) (zbg aj.out z)):P:=h
theorem MaE(h:P:=by
 have e:xs.flatMap zaa=(xs.take i).flatMap zaa++(xs.drop i).flatMap zaa:=Mdh;rw[e,List.getElem?_append_left Mcu]
 exact hj):P:=h
theorem MaF(h:P:=by simpa only[zlw,Option.map_some,ia]using this):P:=h
theorem MaG(h:P:=by
 clear ao hs;go_wp2_with fail
 go_round
 case rel=>exact⟨k+1,am.out,by go_num,by rw[aK.out];exact HO.out,HB.out⟩
 case measure=>have:=am.out;simp only[intOf];omega):P:=h
theorem MaH(h:P:=by
 go_enter Tryz.func199,Tryz.ntmps199
 go_wp2_with (go_at_call 215;refine(zpl _ _ h0 h1).mono ?_;rintro e wq ⟨rfl,rfl⟩;rw[hl])
 all_goals go_ret
 all_goals exact⟨rfl,rfl⟩):P:=h
theorem MaI(h:P:=by
 have h0:xs=[]:=by
  cases xs with
  |nil=>rfl
  |cons y ys=>obtain⟨b,off,h,_⟩:=hS Mcx;cases h
 subst h0;go_wp2_with fail
 go_ret
 exact⟨_,rfl,OwnS.nil,Below.refl _ _⟩):P:=h
theorem MaJ(h:P:=by
 rename_i hc
 have h:(zci laws s k last d).2=0:=h;rw[h]at hc
 exact absurd hc Mcw):P:=h
theorem MaK(h:P:=by
 go_wp2_with fail
 go_round
 case rel=>exact⟨by first|exact True.intro|rfl,.inr (.inr ⟨by go_num,by rw[HE.out]⟩)⟩
 case measure=>simp only[intOf];decide):P:=h
theorem MaL(h:P:=by
 go_wp2_with (go_at_call 184;go_must(refine(fx.out _ Mdl).mono ?_);rintro e wq ⟨rfl,z,rfl⟩)
 go_ret
 exact Ret.of (zaP Mcx) (zbg aj.out z)):P:=h
theorem MaM(h:P:=by
 have ar:¬(k:Int)<(l.length:Int):=Mcu;rw[List.take_of_length_le Mcu]at HO;clear aa hB;go_wp2_with fail
 go_ret
 exact⟨_,rfl,HO.out,HB.out⟩):P:=h
theorem MaN(h:P:=by
 clear hx;go_wp2_with (go_at_call 31;go_must(refine(zcS _ _).mono ?_);rintro e wq ⟨rfl,rfl⟩;rw[hd])
 go_ret
 exact Ret.of (zbB HE.out.symm) aH.out):P:=h
theorem MaO(h:P:=by
 (repeat(first|with_reducible exact zaq _ _ _ Mcx|with_reducible exact zaq _ _ _ Mdk|with_reducible refine zb5 ?_|with_reducible refine zal ?_))):P:=h
theorem MaP(h:P:=by
 rw[aW];clear hN tH aW bD dZ
 exact⟨rfl,ao,jg,(KeepD.below bl).trans (KeepD.cells (zce wr T _ _ _ _ _ _) ni.out Mcw)⟩):P:=h
theorem MaQ(h:P:=by
 go_wp2_with fail
 go_loop [5,8] (fun a b=>b=.int .i64 0) (fun _ _=>0)
 case atStart=>rfl
 case round=>
  obtain rfl:=hrel;go_wp2_with fail
  go_ret
  exact⟨rfl,rfl⟩):P:=h
theorem MaR(h:P:=by
 rw[hc]at HC;go_wp2_with (go_at_call 69;go_must(refine(HC.out _).mono ?_);rintro e wq ⟨rfl,rfl⟩)
 go_ret
 exact⟨by rw[cn.out];rfl,rfl⟩):P:=h
theorem MaS(h:P:=by
 have tH:=Lib.hid gT;clear gT;go_wp2_with fail
 go_ret
 exact zbR HW.out b8.out (tH.out.trans Mcx)):P:=h
theorem MaT(h:P:=by
 obtain⟨h1,g',h2,h3⟩:=zod n day l (k+1) j i h;refine⟨by omega,g',?_,h3⟩;rw[show i-k=(i-(k+1))+1 by omega,List.getElem?_cons_succ]
 exact h2):P:=h
theorem MaU(h:P:=by
 go_wp2_with (go_at_call 61;refine(zc5 _ _ _ _).mono ?_;rintro e wq ⟨rfl,rfl⟩)
 all_goals go_ret
 all_goals exact Ret.of (zaP (by rw[hv])) Bw):P:=h
theorem MaV(h:P:=by
 have hx:decide ((10:Int)<(ls.length:Int))=true:=Mcz;go_wp2_with fail
 go_ret
 exact Ret.of (zbB (by rw[zaC,if_pos Mcz])) Bw):P:=h
theorem MaW(h:P:=by
 go_wp2_with fail
 go_ret
 exact⟨rfl,rfl⟩):P:=h
theorem MaX(h:P:=by
 go_round
 case rel=>exact⟨k+1,am.out,by go_num,.inr ⟨vt.out,dN.out⟩,aw.out⟩
 case measure=>have:=am.out;simp only[intOf];omega):P:=h
theorem MaY(h:P:=by
 simp only[List.any_append,List.any_cons,List.any_nil,Bool.or_false]at ih
 omega):P:=h
theorem MaZ(h:P:=by
 go_ret2
 refine⟨out,true,fun _=>⟨by rw[HR.out,jB.out];rfl,?_⟩,by simp,Ret.of rfl Bw⟩;have h:=jB.out;simp[zbl,inR]at h
 omega):P:=h
theorem Ma0(h:P:=by
 go_upto_region 6 with fail
 go_quiet (fail)
 go_wp2_with fail
 go_meet
 exact⟨by rw[jX.out],zd9 fA.out _⟩):P:=h
theorem Ma1(h:P:=by
 go_wp2_with (go_at_call 149;refine(iY.out _ Bw _).mono ?_;rintro e wq ⟨rfl,z,rfl⟩)
 go_ret
 exact zbR HW.out Bw (by rw[iZ.out];simp)):P:=h
theorem Ma2(h:P:=by
 rintro e wq ⟨rfl,z,rfl⟩
 exact⟨rfl,hW.trans ((zao W z).mono hW.size)⟩):P:=h
theorem Ma3(h:P:=by
 go_ret
 exact Ret.of (zbB (by rw[HR.out];simp[zcx,p1,p2,isDay0,inR34, *])) (HB.out.trans (Below.mono (B:=wc.heap.size) Bw hs))):P:=h
theorem Ma4(h:P:=by
 go_ret
 exact⟨by rw[cn.out];rfl,rfl⟩):P:=h
theorem Ma5(h:P:=by
 clear hx;rw[zdJ h,hp]
 go_simp):P:=h
theorem Ma6(h:P:=by
 rcases aa with⟨rfl,_⟩|⟨g',o,c',cur,rfl,_,fD,_⟩
 ·cases hk
 ·simp only[za5,Option.some.injEq]at hk;subst hk
  exact⟨cur,_,fD⟩):P:=h
theorem Ma7(h:P:=by
 go_wp2_with fail
 go_ret
 exact Ret.of (zaP HE.out.symm) aj.out):P:=h
theorem Ma8(h:P:=by
 first|omega|(simp[zag];done)|(simp[zag];omega)):P:=h
theorem Ma9(h:P:=by
 show _<=((Sort.mapBlock _ _ _).heap++os).size
 simp[Sort.mapBlock,Sort.ahead]):P:=h
theorem Mba(h:P:=by
 simp only[Value.slice.injEq]at e'
 omega):P:=h
theorem Mbb(h:P:=by
 have:=zec (t:=131) zbm (WX.drew.alloc (.cells #[.string d.frm,.string tn] 131)) WX.heap.size Mcx
 simpa using this):P:=h
theorem Mbc(h:P:=by
 have:=aM 0 (.string q.name) (by simp[hq,RPart.cells])
 simpa using this):P:=h
theorem Mbd(h:P:=by
 have:sh.num≠0:=fun e=>hz (Rat.num_eq_zero.1 e)
 simpa using this):P:=h
theorem Mbe(h:P:=by
 go_wp2_with fail
 go_ret
 exact Ret.of (zaP EQ.out.symm) (lC.out.trans (Below.mono Bw lC.out.size))):P:=h
theorem Mbf(h:P:=by
 have:(zai s n).length<=s.children.length:=by unfold zai;rw[List.length_map];exact List.length_filter_le _ _
 omega):P:=h
theorem Mbg(h:P:=by
 refine fun j hj hQ=>⟨hQ.1,fun e=>?_⟩
 rcases h3 j e with h|h
 ·exact hQ.2 h
 ·omega):P:=h
theorem Mbh(h:P:=by
 refine b9.mono ?_;rintro e wq ⟨rfl,hB⟩
 exact Ret.of rfl hB):P:=h
theorem Mbi(h:P:=by
 refine b9.mono ?_;rintro e wq ⟨rfl,rfl⟩
 exact⟨rfl,rfl⟩):P:=h
theorem Mbj(h:P:=by
 clear HR cL fO;go_enter Tryz.func38,Tryz.ntmps38
 go_wp2_with fail
 go_ret
 rw[HX.out]
 exact Ret.of rfl Bw):P:=h
theorem Mbk(h:P:=by
 subst f9
 exact .inr ⟨g,o,0,cur,rfl,jh,HG.out,Nat.le_refl _,Nat.zero_le _,by omega,fun j u hj=>by simp at hj⟩):P:=h
theorem Mbl(h:P:=by
 split
 ·exact h0
 ·simp only
  repeat(first|split|exact h0)):P:=h
theorem Mbm(h:P:=by
 have h1:=aU e he hb;have h0:=(mem_ready.1 hr).1;rw[Ax]at h1;rw[getD_both h0]at h1
 cases h1):P:=h
theorem Mbn(h:P:=by
 induction a with
 |nil=>rw[List.nil_append,sumQ,Rat.zero_add]
 |cons x a ih=>rw[List.cons_append,sumQ,sumQ,ih];grind):P:=h
theorem Mbo(h:P:=by
 go_wp2_with fail
 go_ret
 exact Ret.of (zaP Mcx) Bw):P:=h
theorem Mbp(h:P:=by
 go_wp2_with fail
 go_ret
 exact⟨rfl,HW.out.keep (n:=w.heap.size) Bw,Below.mono (B:=w.heap.size) Bw Mcu⟩):P:=h
theorem Mbq(h:P:=by
 repeat(first|exact zaq _ _ _ Mdk|with_reducible refine zb5 ?_|with_reducible refine zal ?_)):P:=h
theorem Mbr(h:P:=by exact zh3 (Nat.le_refl _) (fun g hg=>(HO.out.ge g hg).1) h2 (zac (HB.out.trans (eo.out.mono hsz)) _)):P:=h
theorem Mbs(h:P:=by
 rw[h2]at h1;simp only[Option.some.injEq]at h1;rw[h1]at h3;have:=(h3.ge g eV).2
 omega):P:=h
theorem Mbt(h:P:=by
 rw[ziO,eqSp_refl,if_pos rfl]at this
 exact this):P:=h
theorem Mbu(h:P:=by
 have:=(List.getElem?_eq_some_iff.1 hi).1;rw[List.length_eraseIdx_of_lt this]
 omega):P:=h
theorem Mbv(h:P:=by
 rw[List.getElem?_set_self eF]at e2;simp only[Option.some.injEq]at e1 e2;subst e1 e2
 exact hN):P:=h
theorem Mbw(h:P:=by
 refine zb5 ?_;have:=Joins.block_setCell (i:=2) GG.out (.int .i64 af)
 simpa using this):P:=h
theorem Mbx(h:P:=by
 go_wp2_with fail
 go_meet
 rw[fZ]at yS
 exact⟨by rw[yS];rfl,rfl⟩):P:=h
theorem Mby(h:P:=by
 rcases List.mem_cons.1 h1 with rfl|h1
 ·exact .inl Mcx
 ·exact .inr (by simp[h1])):P:=h
theorem Mbz(h:P:=by
 repeat(first|exact zaq _ _ _ rfl|with_reducible refine zb5 ?_|with_reducible refine zal ?_)):P:=h
theorem MbA(h:P:=by
 go_wp2_with fail
 all_goals go_meet
 all_goals exact⟨wO.out ax,rfl⟩):P:=h
theorem MbB(h:P:=by simp[List.getD_eq_getElem?_getD,List.getElem?_eq_getElem (show ms.length-1-i<ms.length by omega)]):P:=h
theorem MbC(h:P:=by
 go_wp2_with fail
 go_meet
 exact⟨zal (zaq _ _ _ rfl),zaq _ _ _ Mcx,Bw⟩):P:=h
theorem MbD(h:P:=by
 obtain⟨b',off',he,_,aM⟩:=hS.at (k:=k-1) Mcu;cases he
 exact aM 0 _ rfl):P:=h
theorem MbE(h:P:=by
 rw[Array.getD_eq_getD_getElem?]at hp hq;simp only[results,h];simp[Sem.run_bind,hp,hq]
 go_simp):P:=h
theorem MbF(h:P:=by exact⟨fun o h=>by cases h;rfl,fun h=>by cases h⟩):P:=h
theorem MbG(h:P:=by
 go_wp2_with fail
 go_meet
 exact⟨by rw[kB],by first|exact True.intro|rfl⟩):P:=h
theorem MbH(h:P:=by
 rw[List.length_map]
 exact List.length_filter_le _ _):P:=h
theorem MbI(h:P:=by
 rename_i hl
 simp only[Bool.or_eq_true,Bool.and_eq_true,beq_iff_eq,bne_iff_ne]at hl
 omega):P:=h
theorem MbJ(h:P:=by
 go_wp2_with fail
 go_ret
 exact Ret.of rfl (HB.out.trans (Below.mono Bw HB.out.size))):P:=h
theorem MbK(h:P:=by
 rw[hu]at this;rw[<-this];congr 1
 unfold Addr.add
 split<;>split<;>simp_all<;>omega):P:=h
theorem MbL(h:P:=by
 rw[h']at hk;simp only[Option.some.injEq,Obj.cells.injEq]at hk
 exact ht hk.2.1.symm):P:=h
theorem MbM(h:P:=by
 go_ret2
 rw[HX.out];have bD:=eo.out;have aI:=bD.size
 exact Ret.of rfl Bw):P:=h
theorem MbN(h:P:=by
 rintro rfl;have:=HH.out;rw[show y=1800+day/366+10 by omega]at hc
 omega):P:=h
theorem MbO(h:P:=by
 subst cr
 exact hy.wpOp hi hS ⟨by rw[getD_set_ne false kp,dD hc hr];exact hS,H⟩):P:=h
theorem MbP(h:P:=by
 go_wp2_with fail
 go_ret
 refine⟨congrArg Ending.returned (zbB ?_),rfl⟩
 rw[HV.out]):P:=h
theorem MbQ(h:P:=by
 go_ret2
 exact⟨out,false,by simp,fun _=>by rw[HR.out,jB.out];rfl,Ret.of rfl Bw⟩):P:=h
theorem MbR(h:P:=by
 rintro e wq ⟨rfl,z,rfl⟩
 exact⟨rfl,eC.trans ((zao W' z).mono eC.size)⟩):P:=h
theorem MbS(h:P:=by
 have:=Joins.block_setCell (i:=1) g1 (.int .i64 ((m:Int)+1))
 simpa using this):P:=h
theorem MbT(h:P:=by
 have:=(List.getElem?_eq_some_iff.1 hk).1;simp at this
 omega):P:=h
theorem MbU(h:P:=by
 subst cr
 exact hy.wpOp hi trivial ⟨by rw[getD_set_ne false kp];exact hS,H⟩):P:=h
theorem MbV(h:P:=by
 obtain⟨h1,h2⟩:=zon g l k x h
 exact⟨List.mem_cons_of_mem _ h1,h2⟩):P:=h
theorem MbW(h:P:=by
 rw[if_pos rfl]
 exact⟨fun o h=>by(cases h),fun _=>zf5 Mcx⟩):P:=h
theorem MbX(h:P:=by
 unfold WldC at hC;rw[hC]at hx
 simp at hx):P:=h
theorem MbY(h:P:=by
 clear xs0 xd0 xr0 s0 s1 s2 s3 s4 s5 s6 d0 d1 d2 d3 d4 d5 d6 r0 r1 r2 r3 r4 r5 r6 rf ls ld lr;obtain⟨⟨xs0,xd0,xr0⟩,⟨s0,s1,s2,s3,s4,s5,s6⟩,⟨d0,d1,d2,d3,d4,d5,d6⟩,⟨r0,r1,r2,r3,r4,r5,r6⟩,rf,ls,ld,lr⟩:=ddF (aw.out _ (bk))
 exact Mg):P:=h
theorem MbZ(h:P:=by
 have d1:wq.cell? ⟨w.heap.size,1,none⟩=some (.int .i64 dy):=McZ;have d2:wq.cell? ⟨w.heap.size,2,none⟩=some (.string pl):=McZ;have d3:wq.cell? ⟨w.heap.size,3,none⟩=some (.string fr):=McZ;have d4:wq.cell? ⟨w.heap.size,4,none⟩=some (.slice B ts.length c):=McZ;have d5:wq.cell? ⟨w.heap.size,5,none⟩=some (.int .i64 cl):=McZ;have d6:wq.cell? ⟨w.heap.size,6,none⟩=some (.int .i64 yr):=McZ;clear hW hB hK h0 gD fS cF;refine NxM hK (fun hHeld=>?_) (⟨d0,d1,d2,d3,d4,d5,d6⟩);clear hK K;refine OnH 5 fun K hK=>?_
 go_simp
 refine NxM hK (fun hHeld=>?_) (⟨d0,d1,d2,d3,d4,d5,d6⟩);clear hK K;refine wpAnyH_done Mcv ?_ _;clear d0 d2 d3 d4 d5 d6 d1;go_upto_region 18 with fail
 exact Md):P:=h
theorem Mb0(h:P:=by
 refine NxM hK fun hHeld=>?_
 clear hK K;refine OnM 14 true fun K hK=>?_
 refine zak (v:=.slice A5 (a+[x].length) c5) (n:=a+[x].length) (m:=xs.length-a) rfl _ _ rfl zb9 za9 zb8 rfl (xs:=xs.take a++[x]) (ys:=xs.drop a) g1 Mek rfl (ph.out) (vQ.out w5 aq) McT McY (by have:=aq.size;omega) ?_;intro v6 w6 k1 k2 k3;have aS:Below wr.heap.size wr w6:=Below.grown aq k2 aq.size (fun j hj=>(g1.ge j hj).1);refine NxM hK fun hHeld=>?_
 clear hK K;refine OnM 15 true fun K hK=>?_
 go_simp
 refine NxM hK fun hHeld=>?_
 clear hK K;refine zaG Mcv ?_ _;clear hHeld;have K1:=Lib.hid k1;have bW:=Lib.hid aS;clear k1 k2 k3 aS aq g1 g2 g3;go_wp2_with fail
 go_round
 case rel=>exact⟨k+1,am.out,by go_num,by rw[aK.out];exact K1.out.base_le Mcu,HB.out.trans (bW.out.mono Mcu)⟩
 case measure=>have:=am.out;simp only[intOf];omega):P:=h
theorem Mb1(h:P:=by
 refine NxM hK (fun hHeld=>?_) (.inr (bZ.out _ aB));clear hK K;refine OnM 10 true fun K hK=>?_
 refine zak (v:=.slice V4 a c4) (n:=a) (m:=1) rfl _ _ rfl zb9 za9 zb8 rfl (xs:=xs.take a) (ys:=[x]) (h1) eP.out rfl rfl (zfT n2) McE McU Mdz ?_;intro v5 w5 g1 g2 g3;obtain⟨A5,c5,ed,_,_⟩:=g1.sl za9;rw[List.length_append,eP.out]at ed;subst ed;have aq:Below wr.heap.size wr w5:=Below.grown aB g2 (by have:=(aB).size;omega) (fun j hj=>((h1).ge j hj).1);refine NxM hK fun hHeld=>?_
 clear hK K;refine OnM 14 true fun K hK=>?_
 refine zak (v:=.slice A5 (a+[x].length) c5) (n:=a+[x].length) (m:=0) rfl _ _ rfl zb9 za9 zb8 rfl (xs:=xs.take a++[x]) (ys:=xs.drop a) g1 Mek rfl (by rw[<-ph.out];omega) (vQ.out _ w5 aq) McT McY (by have:=aq.size;omega) ?_
 exact Mi):P:=h
theorem Mb2(h:P:=by
 have HR:Hid (R=false):=by(show _=_;rw[hR];rfl)
 exact Mf):P:=h
theorem Mb3(h:P:=by
 have HR:Hid (R=false):=by(show _=_;rw[hR];simp[zae, *])
 exact Mf):P:=h
theorem Mb4(h:P:=by
 have y2:ot.toList.isEmpty=true:=z2;have w2:ot.toList=[]:=Meh;cases z3:noB pl
 ·exact Mct
 ·have y3:pl.toList.isEmpty=true:=z3;have w3:pl.toList=[]:=Mei
  exact Mcr):P:=h
theorem Mb5(h:P:=by
 go_wp2_with (go_at_call 97
              go_must(refine(kT.out _ (zao W0 zq)).mono ?_)
              rintro e w5 ⟨a0,a1,a2,a3,a4,a5,a6,rfl,aQ,aq,ao⟩;obtain⟨⟨_,_,_,rfl⟩,⟨_,_,_,rfl⟩,⟨_,_,_,rfl⟩,⟨_,_,_,rfl⟩,⟨_,_,_,rfl⟩,⟨_,_,_,rfl⟩,⟨_,_,_,rfl⟩⟩:=zct aQ;have aq:=(zao W0 zq).trans (aq.mono (zao W0 zq).size);have bo:=Lib.hid aq;have aK:=Lib.hid ao;obtain⟨_,_,xr5⟩:=aw.out w5 aq;obtain⟨t0,t1,t2,t3,t4,t5,t6⟩:=zaH xr5;have tf:=frz xr5
              clear aq ao aQ)
 exact Mv):P:=h
theorem Mb6(h:P:=by
 refine NxM hK (fun hHeld=>?_) (aA.out _ FR3);clear hK K;refine OnM 27 false fun K hK=>?_
 refine zak (v:=.slice QA pz.length qc) (n:=pz.length) (m:=1) rfl _ _ rfl zb9 za9 zb8 rfl (xs:=pz) (ys:=[fr]) (ob3.keep (n:=w3.heap.size) Bw) rfl rfl rfl (zcC (x2)) McP Mcu (by have:=HW.out.lt;(try simp);omega) ?_
 exact Ma):P:=h
theorem Mb7(h:P:=by
 have HR:Hid (R=true):=by(show _=_;rw[hR];simp[zae, *])
 exact Mf):P:=h
theorem Mb8(h:P:=by
 have y2:ot.toList.isEmpty=false:=z2;have w2:¬ot.toList=[]:=Meh
 exact Mh):P:=h
theorem Mb9(h:P:=by
 rcases List.mem_append.1 hy with hy|hy
 ·exact((uV.out y hy).keep eK.out).kept (zav _ _ _ _) mD
 ·rw[List.mem_singleton.1 hy]
  exact .inr ⟨(vG.out.keep eK.out).kept (zav _ _ _ _) mD Mcw,(lQ.out.ro').kept (zav _ _ _ _) mD Mcw⟩):P:=h
theorem Mca(h:P:=by
 rw[List.drop_eq_nil_of_le Mcu]at hx;have HX:=Lib.hid hx;clear hx dP au ky;have jq:¬(k:Int)<(ps.length:Int):=Mcu;go_wp2_with fail
 all_goals go_ret
 all_goals exact Ret.of (zaP (by rw[HX.out];first|(simp[zcr,zgS, *];done)|(simp[zcr,zgS, *];omega))) Bw):P:=h
theorem Mcb(h:P:=by
 have w2:¬fr.toList=[]:=by simpa using(show fr.toList.isEmpty=false from z2)
 cases yy:zaT fr
 ·have fw:zcE fr=false:=by rw[<-zd3,yy]
  exact Mr
 ·have fw:zcE fr=true:=by rw[<-zd3,yy]
  exact Mr):P:=h
theorem Mcc(h:P:=by
 refine NxM hK (fun hHeld=>?_) (.inr (aA.out _ aB));clear hK K;have o9:=h1;have n9:=n2;have e9:=aB
 exact Mk):P:=h
theorem Mcd(h:P:=by
 refine NxM hK (fun hHeld=>?_) (.inr (aA.out _ aB));clear hK K;have o9:=h1;have n9:=n2;have e9:=aB
 exact Mn):P:=h
theorem Mce(h:P:=by
 refine NxM hK (fun hHeld=>?_) (.inr (aA.out _ aB));clear hK K;have o9:=h1;have n9:=n2;have e9:=aB
 exact Mo):P:=h
theorem Mcf(h:P:=by
 refine NxM hK (fun hHeld=>?_) (.inr (aA.out _ aB));clear hK K;have o9:=h1;have n9:=n2;have e9:=aB
 exact Mp):P:=h
theorem Mcg(h:P:=by
 refine NxM hK (fun hHeld=>?_) (.inr (aA.out _ aB));clear hK K;have o9:=h1;have n9:=n2;have e9:=aB
 exact Mq):P:=h
theorem Mch(h:P:=by
 refine zaS rfl _ _ w.heap.size _ _ rfl ?_ ?_<;>simp[go_sem]):P:=h
theorem Mci(h:P:=by
 have y3:pl.toList.isEmpty=true:=z3;have w3:pl.toList=[]:=Mei
 exact Mh):P:=h
theorem Mcj(h:P:=by
 have oR:¬((j:Int)<(xs.length:Int)):=Mcu
 exact Mao):P:=h
theorem Mck(h:P:=by
 have:=zgD (wr.drew.alloc (.cells #[.string x] 9)) wr.heap.size Mcx
 simpa using this):P:=h
theorem Mcl(h:P:=by
 go_wp2_with (go_at_call 198;refine(qz.out _).mono ?_;rintro e wq ⟨rfl,rfl⟩)
 exact Mw):P:=h
theorem Mcm(h:P:=by
 have:=bK.out W hB;rw[aO]at this
 exact MaF):P:=h
theorem Mcn(h:P:=by
 have w2:fr.toList=[]:=by simpa using(show fr.toList.isEmpty=true from z2)
 exact Mr):P:=h
theorem Mco(h:P:=by
 obtain rfl:k=m:=by omega
 have bu:¬(k:Int)<(k:Int):=Mcu
 exact MaW):P:=h
theorem Mcp(h:P:=by
 refine NxM hK (fun hHeld=>?_) (.inr (bZ.out _ aB));clear hK K;refine OnM 10 true fun K hK=>?_
 refine zak (v:=.slice V4 a c4) (n:=a) (m:=1) rfl _ _ rfl zb9 za9 zb8 rfl (xs:=xs.take a) (ys:=[x]) (h1) eP.out rfl rfl (zfT n2) McE McU Mdz ?_;intro v5 w5 g1 g2 g3;obtain⟨A5,c5,ed,_,_⟩:=g1.sl za9;rw[List.length_append,eP.out]at ed;subst ed;have aq:Below wr.heap.size wr w5:=Below.grown aB g2 (by have:=(aB).size;omega) (fun j hj=>((h1).ge j hj).1)
 exact Mb0):P:=h
theorem Mcq(h:P:=by
 rw[aG]at hr;rw[zgJ aG]at ew;have HE:Hid (R=(s,6)):=Lib.hid hr;clear hr aG;go_upto_region 3 with(go_at_call 35;go_must(refine(ew.out _ (Below.refl _ _)).mono ?_);rintro e wq ⟨rfl,z,rfl⟩)
 have bk:=zao W0 z
 exact MbY):P:=h
theorem Mcr(h:P:=by
 by_cases t1:tl=0
 ·skip
  by_cases u1:nu=0
  ·skip
   by_cases u2:de=0
   ·skip
    exact Mh
   ·skip
    exact Mh
  ·skip
   exact Mh
 ·skip
  exact Mh):P:=h
theorem Mcs(h:P:=by
 have HE:Hid (R=(s,28)):=Mec;rw[cg]at ic;clear hr cg;go_upto_region 17 with(go_at_call 135;go_must(refine(ic.out).mono ?_);rintro e wq ⟨rfl,z,rfl⟩)
 have bk:=zao W0 z
 exact MbY):P:=h
theorem Mct(h:P:=by
 have y3:pl.toList.isEmpty=false:=z3;have w3:¬pl.toList=[]:=Mei
 exact Mh):P:=h
theorem Mcu(h:P:=by omega):P:=h
theorem Mcv(h:P:=by kernel_rfl):P:=h
theorem Mcw(h:P:=by decide):P:=h
theorem Mcx(h:P:=by simp):P:=h
theorem Mcy(h:P:=by simp[World.cell?,g0]):P:=h
theorem Mcz(h:P:=by simp;omega):P:=h
theorem McA(h:P:=by simp[World.cell?,g1]):P:=h
theorem McB(h:P:=by
 have:=(e1).size;first|omega|(simp at this⊢;done)|(simp at this⊢;omega)):P:=h
theorem McC(h:P:=by have:=tP.out;simp only[maxLen];omega):P:=h
theorem McD(h:P:=by simp[zag];omega):P:=h
theorem McE(h:P:=by have:=fP.out;have:=HA.out;simp only[maxLen];omega):P:=h
theorem McF(h:P:=by
 have:=(e0).size;first|omega|(simp at this⊢;done)|(simp at this⊢;omega)):P:=h
theorem McG(h:P:=by
 first|omega|(simp only[World.size_alloc];omega)):P:=h
theorem McH(h:P:=by have:=(List.getElem?_eq_some_iff.1 hy).1;simp at this;omega):P:=h
theorem McI(h:P:=by simp[World.frozen?,g0]):P:=h
theorem McJ(h:P:=by simp[World.frozen?,g1]):P:=h
theorem McK(h:P:=by
 repeat(first|exact Two2.refl2 _ _ _|assumption|with_reducible refine Two2.alloc ?_ _|with_reducible refine Two2.drew ?_|with_reducible refine Two2.ext ?_ _)):P:=h
theorem McL(h:P:=by
 first|omega|(simp;done)|(simp;omega)):P:=h
theorem McM(h:P:=by
 first|(simp;done)|(simp;omega)):P:=h
theorem McN(h:P:=by rw[<-HR.out];simp only[zdq,nr.out, *,Bool.not_true,Bool.not_false,Bool.or_self,Bool.or_true,Bool.true_or,Bool.false_or,Bool.or_false,if_true,if_false,Bool.false_eq_true,ite_true,ite_false,decide_false];done):P:=h
theorem McO(h:P:=by have:=tP.out;omega):P:=h
theorem McP(h:P:=by simp[maxLen];omega):P:=h
theorem McQ(h:P:=by rw[IntKind.wrap_i64];rw[Int.tmod_eq_emod_of_nonneg h0];omega):P:=h
theorem McR(h:P:=by have:=(e1).size;omega):P:=h
theorem McS(h:P:=by
 have:=e9.size;first|omega|(simp at this⊢;done)|(simp at this⊢;omega)):P:=h
theorem McT(h:P:=by
 first|(have:=fP.out;have:=HA.out;simp only[maxLen,List.length_singleton];omega)|exact Nat.le_of_ble_eq_true rfl):P:=h
theorem McU(h:P:=by have:=fP.out;have:=HA.out;omega):P:=h
theorem McV(h:P:=by rw[Int.tmod_eq_emod_of_nonneg h0];unfold wrap64;omega):P:=h
theorem McW(h:P:=by have:=ah 0 _ rfl;simpa using this):P:=h
theorem McX(h:P:=by grind):P:=h
theorem McY(h:P:=by
 first|(have:=fP.out;have:=HA.out;simp only[List.length_singleton];omega)|exact Nat.le_of_ble_eq_true rfl):P:=h
theorem McZ(h:P:=by simp only[World.cell?,h0];rfl):P:=h
theorem Mc0(h:P:=by simp[go_sem]):P:=h
theorem Mc1(h:P:=by simpa using h1):P:=h
theorem Mc2(h:P:=by have:=N2.out.size;simp[zag]at this;omega):P:=h
theorem Mc3(h:P:=by simp only[maxLen];omega):P:=h
theorem Mc4(h:P:=by have:=fP.out;simp[maxLen];omega):P:=h
theorem Mc5(h:P:=by rw[ak];exact Bw):P:=h
theorem Mc6(h:P:=by assumption):P:=h
theorem Mc7(h:P:=by rw[zbd n2 (by simp[zag];omega) (by omega)];simp[go_sem]):P:=h
theorem Mc8(h:P:=by intro j hj;simp[za5]at hj;omega):P:=h
theorem Mc9(h:P:=by
 repeat(first|exact zaq _ _ _ (by simp)|refine zal ?_)):P:=h
theorem Mda(h:P:=by rw[zew,List.length_take];congr 1;omega):P:=h
theorem Mdb(h:P:=by
 rw[<-HR.out];first|(simp[zdq, *];done)|(simp[zdq, *];omega)):P:=h
theorem Mdc(h:P:=by rw[IntKind.wrap_i64];omega):P:=h
theorem Mdd(h:P:=by rw[List.length_take];omega):P:=h
theorem Mde(h:P:=by have:=fP.out;omega):P:=h
theorem Mdf(h:P:=by unfold zbw at cz;simp only[World.cell?,cz];rfl):P:=h
theorem Mdg(h:P:=by
 first|(simp[Act.eval,Act.put];done)|(simp[Act.eval,Act.put];rfl)):P:=h
theorem Mdh(h:P:=by rw[<-List.flatMap_append,List.take_append_drop]):P:=h
theorem Mdi(h:P:=by rw[List.getD_eq_getElem?_getD,List.getElem?_eq_getElem ae];rfl):P:=h
theorem Mdj(h:P:=by simp[za5]):P:=h
theorem Mdk(h:P:=by simp[zag]):P:=h
theorem Mdl(h:P:=by have:=aj.out;exact Bw):P:=h
theorem Mdm(h:P:=by rw[ak];exact zaq _ _ _ rfl):P:=h
theorem Mdn(h:P:=by rw[List.length_append];have:=rj.out;simp at this⊢;omega):P:=h
theorem Mdo(h:P:=by have:=hc 0 _ rfl;simpa using this):P:=h
theorem Mdp(h:P:=by rw[aV];exact zao _ _):P:=h
theorem Mdq(h:P:=by simp only[World.cell?,G1.out,zbv];rfl):P:=h
theorem Mdr(h:P:=by rw[ak];exact zal (zaq _ _ _ rfl)):P:=h
theorem Mds(h:P:=by dsimp only;omega):P:=h
theorem Mdt(h:P:=by have:=(e0).size;omega):P:=h
theorem Mdu(h:P:=by
 repeat(first|exact TQ.out|refine zb5 ?_|refine J_drew ?_|refine zal ?_)):P:=h
theorem Mdv(h:P:=by rw[ak];exact zal (zal (zaq _ _ _ rfl))):P:=h
theorem Mdw(h:P:=by
 simp only[Nat.min_def];split<;>omega):P:=h
theorem Mdx(h:P:=by simp only[World.cell?,yL',zbv];rfl):P:=h
theorem Mdy(h:P:=by simpa using h):P:=h
theorem Mdz(h:P:=by
 have:=(aB).size;first|omega|(simp at this⊢;done)|(simp at this⊢;omega)):P:=h
theorem MdA(h:P:=by simpa using h0):P:=h
theorem MdB(h:P:=by simpa using hz):P:=h
theorem MdC(h:P:=by rw[zbd n2 (by simp[zag];omega) (by omega)];simp[go_sem,y1,y3]):P:=h
theorem MdD(h:P:=by show Below _ _ _;rw[cI];exact zac aR _):P:=h
theorem MdE(h:P:=by show decide ((0:Int)<=upto)=true;simp;omega):P:=h
theorem MdF(h:P:=by simp[za5];omega):P:=h
theorem MdG(h:P:=by have:=aS.size;omega):P:=h
theorem MdH(h:P:=by simp[hq]):P:=h
theorem MdI(h:P:=by
 first|rfl|simp[zag]):P:=h
theorem MdJ(h:P:=by show _=_;rw[av.out];rfl):P:=h
theorem MdK(h:P:=by have:=t8 0 (.string pn) rfl;rw[Nat.zero_mul]at this;exact this):P:=h
theorem MdL(h:P:=by rw[bR];exact hi):P:=h
theorem MdM(h:P:=by rw[nE];exact zaM (HB.out.trans (jQ.out.mono aI)) Az _):P:=h
theorem MdN(h:P:=by have:=(List.getElem?_eq_some_iff.1 hi).1;have:=hT.len;omega):P:=h
theorem MdO(h:P:=by simpa using e):P:=h
theorem MdP(h:P:=by show _=_;rw[cH.out,aJ];rfl):P:=h
theorem MdQ(h:P:=by simp[zb1,hz,hq]):P:=h
theorem MdR(h:P:=by have:=S2.out;omega):P:=h
theorem MdS(h:P:=by simp only;omega):P:=h
theorem MdT(h:P:=by show _=_;rw[HR.out];simp[zcx,p1,p2,isDay0,inR34, *]):P:=h
theorem MdU(h:P:=by rw[<-HM.out,List.length_map];exact hi):P:=h
theorem MdV(h:P:=by simp at dY;omega):P:=h
theorem MdW(h:P:=by simp[Sort.mapBlock,Sort.ahead];omega):P:=h
theorem MdX(h:P:=by rw[HF.out];simp[zhp, *]):P:=h
theorem MdY(h:P:=by simpa using hc):P:=h
theorem MdZ(h:P:=by simp[Act.eval,Act.put];rfl):P:=h
theorem Md0(h:P:=by simp[hp]):P:=h
theorem Md1(h:P:=by simp only[World.cell?,dO.out];rfl):P:=h
theorem Md2(h:P:=by show _=_;rw[ao];simp[hs]):P:=h
theorem Md3(h:P:=by have:=cD 0 _ rfl;simpa using this):P:=h
theorem Md4(h:P:=by simp only[World.cell?,G0.out];rfl):P:=h
theorem Md5(h:P:=by simp only[World.size_alloc];omega):P:=h
theorem Md6(h:P:=by show _=_;rw[hx];rfl):P:=h
theorem Md7(h:P:=by have:=e9.size;omega):P:=h
theorem Md8(h:P:=by rw[<-hm,List.length_map]):P:=h
theorem Md9(h:P:=by have:=b8.out.size;omega):P:=h
theorem Mea(h:P:=by simpa using iT):P:=h
theorem Meb(h:P:=by rw[zam];omega):P:=h
theorem Mec(h:P:=by show _=_;rw[hr,cg];rfl):P:=h
theorem Med(h:P:=by simpa using hj):P:=h
theorem Mee(h:P:=by rw[zew,List.length_drop]):P:=h
theorem Mef(h:P:=by
 rw[zbH];exact hc):P:=h
theorem Meg(h:P:=by simpa using h2):P:=h
theorem Meh(h:P:=by simpa using y2):P:=h
theorem Mei(h:P:=by simpa using y3):P:=h
theorem Mej(h:P:=by show _=_;rw[hR,List.drop_zero]):P:=h
theorem Mek(h:P:=by rw[List.length_append,eP.out]):P:=h
theorem Mel(h:P:=by rw[<-zd3,hp3]):P:=h
theorem Mem(h:P:=by have:=aC.out;exact Bw):P:=h
theorem Men(h:P:=by simp[World.frozen?,g2]):P:=h
theorem Meo(h:P:=by rw[beq_eq_false_iff_ne];omega):P:=h
theorem Mep(h:P:=by simp only[World.cell?,t1];rfl):P:=h
theorem Meq(h:P:=by rw[cI];exact zaq _ _ _ rfl):P:=h
theorem Mer(h:P:=by simp[World.cell?,h1]):P:=h
theorem Mes(h:P:=by simp[World.cell?,g2]):P:=h
theorem Met(h:P:=by rw[oz];exact zao _ _):P:=h
theorem Meu(h:P:=by rw[h]at hr;cases hr):P:=h
theorem Mev(h:P:=by have:=hf.dead;omega):P:=h
theorem Mew(h:P:=by simp[go_sem,e6,hh]):P:=h
