/- Proofs that are used more than once. -/
import Derived.WalkLawsBesides
import Derived.WalkSpells
import Derived.BigQuiet
import Derived.Lib.Hide
import Derived.Deep.CutBlock
namespace Go.Proofs.YtmfbdfejhdkiaaaGreatDoor
variable {P:Prop}
theorem Ma(h:P:=by
 intro v4 w4 g1 g2 g3;obtain⟨A7,c7,kM,_,_⟩:=g1.sl zaH;rw[List.length_append]at kM;subst kM;have FR4:Fr2 w w4 (.slice KA ks.length kc) (.slice QA pz.length qc):=(FR3.below Bw).row g2 (fun j hj=> .inr (.inl hj));have dg:∀g,za6 (.slice A6 (ks.length+[q.name].length) c6)=some g->za6 (.slice QA pz.length qc)≠some g:=fun g e1 e2=>by
  rcases h3 g e1 with h|h
  ·exact fD.out g h e2
  ·have:=(dm.out.ge g e2).2;omega
 have oa4:OwnS w4 base 9 1 sC (.slice A6 (ks.length+[q.name].length) c6) (ks++[q.name]):=(h1.keep (n:=w3.heap.size) Bw).grown g2 (by
  cases hb:za6 (.slice A6 (ks.length+[q.name].length) c6)with
  |none=>exact .inl rfl
  |some g=>exact .inr fun e=>dg g hb e.symm)
 have s4:=g2.size;(try simp only[World.size_alloc,World.size_drew]at s4 g3)
 have b1:∀g,za6 (.slice A6 (ks.length+[q.name].length) c6)=some g->za6 (.slice KA ks.length kc)=some g\/w.heap.size<=g:=fun g e=>by
  rcases h3 g e with h|h
  ·exact .inl h
  ·right;omega
 have b2:∀g,za6 (.slice A7 (pz.length+[fr].length) c7)=some g->za6 (.slice QA pz.length qc)=some g\/w.heap.size<=g:=fun g e=>by
  rcases g3 g e with h|h
  ·exact .inl h
  ·right;omega
 have b12:∀g,za6 (.slice A6 (ks.length+[q.name].length) c6)=some g->za6 (.slice A7 (pz.length+[fr].length) c7)≠some g:=fun g e1 e2=>by
  rcases g3 g e2 with h|h
  ·exact dg g e1 h
  ·have:=(h1.ge g e1).2;omega
 refine NxM hK (fun hHeld=>?_) (aB.out _ FR4);clear hK K;refine OnM 28 true fun K hK=>?_
 obtain⟨w5,x5,st5,m5,j5,Ic,ke,qA,sY,ut,hz5⟩:=zgD zmB (FR4.mapS fR.out dm.out iN.out) fr;refine zjN rfl _ _ rfl _ _ _ rfl rfl w5 Ic ?_;refine NxM hK fun hHeld=>?_
 clear hK K;refine OnM 29 true fun K hK=>?_
 go_simp
 refine NxM hK fun hHeld=>?_
 clear hK K;refine OnM 30 true fun K hK=>?_
 obtain⟨w6,g8,j8,bO,hz6⟩:=zfn (P:=Tryz.prog) ke sY 80 (.slice A6 (ks.length+[q.name].length) c6);refine ziH rfl _ _ _ rfl _ _ _ rfl rfl rfl w6 g8 ?_;rw[qA]at j8;refine NxM hK fun hHeld=>?_
 clear hK K;refine OnM 31 true fun K hK=>?_
 have q8:cc≠pp:=by
  have:=HP.out.nd;simp only[List.nodup_cons,List.mem_cons,List.not_mem_nil,or_false,not_or]at this;exact this.2.1.1
 have yb:MapS w6 pp ekS (fun v:Value=>v) mp:=((FR4.mapS fR.out dm.out bA.out).grown ut (by simpa using fun e=>q8 e.symm)).grown bO (by simpa using fun e=>q8 e.symm);obtain⟨w7,x7,st7,m7,j7,Id,B9,qB,Hm,uu,hz7⟩:=zgD zmB yb q.name;refine zjN rfl _ _ rfl _ _ _ rfl rfl w7 Id ?_;refine NxM hK fun hHeld=>?_
 clear hK K;refine OnM 32 true fun K hK=>?_
 go_simp
 refine NxM hK fun hHeld=>?_
 clear hK K;refine OnM 33 true fun K hK=>?_
 obtain⟨w8,Ie,AM,uv,hz8⟩:=zfn (P:=Tryz.prog) B9 Hm 80 (.slice A7 (pz.length+[fr].length) c7);refine ziH rfl _ _ _ rfl _ _ _ rfl rfl rfl w8 Ie ?_;rw[qB]at AM;refine NxM hK fun hHeld=>?_
 clear hK K;refine zaV Mcs ?_ _;have xZ:=(j8.grown uu (by simpa using q8)).grown uv (by simpa using q8);have Ej:∀k,k<w4.heap.size->k≠cc->k≠pp->w8.heap[k]?=w4.heap[k]?:=fun k hk e1 e2=>
  (((uv.block k Mcq (by simpa using e2)).trans (uu.block k Mcq (by simpa using e2))).trans (bO.block k Mcq (by simpa using e1))).trans (ut.block k hk (by simpa using e1))
 have xh:=zb0 (FR4.mapS fR.out dm.out iN.out);have yG:=zb0 (FR4.mapS fR.out dm.out bA.out);have jr:∀(g:Nat) (cur:Array Value),w4.heap[g]?=some (.cells cur 9 (0,0))->w8.heap[g]?=w4.heap[g]?:=fun g cur hg=>by
  obtain⟨es1,x1,gn⟩:=xh;obtain⟨es2,x2,cW⟩:=yG;exact Ej g (zab hg) (fun e=>by subst e;rw[gn]at hg;simp at hg) (fun e=>by subst e;rw[cW]at hg;simp at hg)
 have oa8:=oa4.same (W':=w8) (fun g cur _ hg=>jr g cur hg);have ob8:=g1.same (W':=w8) (fun g cur _ hg=>jr g cur hg);have Ae:∀k,k<w.heap.size->k≠cc->k≠pp->za6 (.slice KA ks.length kc)≠some k->za6 (.slice QA pz.length qc)≠some k->w8.heap[k]?=w.heap[k]?:=fun k hk e1 e2 e3 e4=>
  (Ej k (by have:=FR4.size;omega) e1 e2).trans (FR4.block k hk e3 e4)
 have ul:=wld_child aN HC.out HP.out HT.out iN.out bA.out lW.out Jt.out Ju.out tV.out (by rw[ii.out];exact fR.out) IV.out (by rw[kY.out];exact dm.out) fQ.out (by rw[ii.out];exact oa8) (by rw[kY.out];exact ob8) b1 b2 b12 xZ AM Ae;have fA:=HP.out.ge;have rS:Below base w w8:=⟨uv.os.trans (uu.os.trans (bO.os.trans (ut.os.trans FR4.os))),uv.tape.trans (uu.tape.trans (bO.tape.trans (ut.tape.trans FR4.tape))),uv.output.trans (uu.output.trans (bO.output.trans (ut.output.trans FR4.output))),by have:=FR4.size;omega,fun k hk=>Ae k (by have:=HW.out.lt;omega) Mcq Mcq (fun e=>by have:=(fR.out.ge k e).1;omega) (fun e=>by have:=(dm.out.ge k e).1;omega)⟩
 have Gf:KeepD w w8:=fun k cur f hk=>Ae k (zab hk) (fun e=>by obtain⟨_,_,hx⟩:=zb0 iN.out;rw[e,hx]at hk;simp at hk) (fun e=>by obtain⟨_,_,hx⟩:=zb0 bA.out;rw[e,hx]at hk;simp at hk)
  (fun e=>by obtain⟨_,hx⟩:=zfu fR.out e;have:=Option.some.inj (hx.symm.trans hk);simp only[Obj.cells.injEq]at this;exact absurd this.2.1 Mcu)
  (fun e=>by obtain⟨_,hx⟩:=zfu dm.out e;have:=Option.some.inj (hx.symm.trans hk);simp only[Obj.cells.injEq]at this;exact absurd this.2.1 Mcu)
 have kT:=Lib.hid Gf;have JL:=Lib.hid ul;have kQ:=Lib.hid rS;clear Gf ul rS Ae Ej jr oa8 ob8 xh yG xZ AM uv Ie B9 qB Hm uu Id yb j8 bO g8 ke qA sY ut Ic b1 b2 b12 oa4 dg FR4 g1 g2 g3 ob3 FR3 h1 h2 h3;go_wp2_with fail
 go_ret
 have hX:=jk.out;simp only[Bool.false_eq_true,if_false]at hX;rw[if_neg (by simpa using H2.out)]at hX;rw[hX]
 exact⟨rfl,JL.out,kQ.out,kT.out⟩):P:=h
theorem Mb(h:P:=by
 clear eE dm;go_upto_region 9 with fail
 have i1:=bU.out wr (Below.refl _ _);refine zaJ 10 (fun bb w'=>bb=true\/w'.cell? ⟨b,off+k,none⟩=some (.string x)) Mcs (.inr (bU.out _ (zaF (Below.refl _ _)))) ?hrest
 case hrest=>
  intro hHeld;refine TkM 5 ?_;refine TkM 6 ?_;refine TkM 7 ?_;refine TkM 8 ?_;refine TkM 1 ?_;refine TkM 2 ?_;refine TkM 3 ?_;refine FrM 11 false ?_;refine FrM 12 false ?_;refine FrM 13 false ?_;refine TwM 0 9 (fun K hK=>?_) fun K hK=>?_
  ·go_simp
   have e0:Below wr.heap.size wr (wr.drew.alloc (.cells #[] 9)):=zad (zaF (Below.refl _ _)) _;refine NxM hK (fun hHeld=>?_) (.inr (bU.out _ e0));clear hK K;refine TwM 4 9 (fun K hK=>?_) fun K hK=>?_
   ·refine zak (v:=.slice (some ⟨wr.heap.size,0,none⟩) 0 0) (n:=0) (m:=a) rfl _ _ rfl zbJ zaH zbI rfl (xs:=[]) (ys:=xs.take a) (zgO wr.drew wr.heap.size (Nat.le_refl _)) rfl rfl (fI.out.symm) (rE.out _ e0) McB McQ McC ?_;intro v4 w4 h1 h2 h3;rw[List.nil_append]at h1;obtain⟨V4,c4,aT,_,_⟩:=h1.sl zaH;rw[fI.out]at aT;subst aT;have ay:Below wr.heap.size wr w4:=Below.grown e0 h2 Mdr (fun j hj=>by simp[za6]at hj;omega);refine NxM hK (fun hHeld=>?_) (.inr (bU.out _ ay));clear hK K;refine OnM 9 false fun K hK=>?_
    go_simp
    have e1:Below wr.heap.size wr (w4.alloc (.cells #[.string x] 9)):=zad ay _;have n1:(w4.alloc (.cells #[.string x] 9)).heap[w4.heap.size]?=some (.cells #[.string x] 9):=zat _ _ _ rfl;have o1:OwnS (w4.alloc (.cells #[.string x] 9)) wr.heap.size 9 1 sC (.slice V4 a c4) (xs.take a):=h1.keep (n:=w4.heap.size) (zad (Below.refl _ _) _);refine NxM hK (fun hHeld=>?_) (.inr (bU.out _ e1));clear hK K;refine OnM 10 true fun K hK=>?_
    refine zak (v:=.slice V4 a c4) (n:=a) (m:=1) rfl _ _ rfl zbJ zaH zbI rfl (xs:=xs.take a) (ys:=[x]) (o1) fI.out rfl rfl (zgg n1) McB McQ Mcx ?_;intro v5 w5 g1 g2 g3;obtain⟨A5,c5,eh,_,_⟩:=g1.sl zaH;rw[List.length_append,fI.out]at eh;subst eh;have aq:Below wr.heap.size wr w5:=Below.grown e1 g2 McM (fun j hj=>((o1).ge j hj).1);exact MbU
   ·go_simp
    have e1:Below wr.heap.size wr ((wr.drew.alloc (.cells #[] 9)).alloc (.cells #[.string x] 9)):=zad e0 _;have n1:((wr.drew.alloc (.cells #[] 9)).alloc (.cells #[.string x] 9)).heap[wr.heap.size+1]?=some (.cells #[.string x] 9):=zat _ _ _ Mcv;have m1:OwnS ((wr.drew.alloc (.cells #[] 9)).alloc (.cells #[.string x] 9)) wr.heap.size 9 1 sC (.slice (some ⟨wr.heap.size,0,none⟩) 0 0) []:=(zgO wr.drew wr.heap.size (Nat.le_refl _)).keep (n:=(wr.drew.alloc (.cells #[] 9)).heap.size) (zad (Below.refl _ _) _);refine NxM hK (fun hHeld=>?_) (.inr (bU.out _ e1));clear hK K;refine OnM 4 false fun K hK=>?_
    refine zak (v:=.slice (some ⟨wr.heap.size,0,none⟩) 0 0) (n:=0) (m:=a) rfl _ _ rfl zbJ zaH zbI rfl (xs:=[]) (ys:=xs.take a) (m1) rfl rfl (fI.out.symm) (rE.out _ e1) McB McQ Mcx ?_;intro v4 w4 h1 h2 h3;rw[List.nil_append]at h1;obtain⟨V4,c4,aT,_,_⟩:=h1.sl zaH;rw[fI.out]at aT;subst aT;have ay:Below wr.heap.size wr w4:=Below.grown e1 h2 McM (fun j hj=>by simp[za6]at hj;omega);have n2:w4.heap[wr.heap.size+1]?=some (.cells #[.string x] 9):=(h2.block _ McI Mde).trans n1;exact Mcn
  ·go_simp
   have e0:Below wr.heap.size wr (wr.drew.alloc (.cells #[.string x] 9)):=zad (zaF (Below.refl _ _)) _;have n0:(wr.drew.alloc (.cells #[.string x] 9)).heap[wr.heap.size]?=some (.cells #[.string x] 9):=zat _ _ _ rfl;refine NxM hK (fun hHeld=>?_) (.inr (bU.out _ e0));clear hK K;refine OnM 0 false fun K hK=>?_
   go_simp
   have e1:Below wr.heap.size wr ((wr.drew.alloc (.cells #[.string x] 9)).alloc (.cells #[] 9)):=zad e0 _;have n1:((wr.drew.alloc (.cells #[.string x] 9)).alloc (.cells #[] 9)).heap[wr.heap.size]?=some (.cells #[.string x] 9):=zal n0;refine NxM hK (fun hHeld=>?_) (.inr (bU.out _ e1));clear hK K;refine OnM 4 false fun K hK=>?_
   have m1:OwnS ((wr.drew.alloc (.cells #[.string x] 9)).alloc (.cells #[] 9)) wr.heap.size 9 1 sC (.slice (some ⟨wr.heap.size+1,0,none⟩) 0 0) []:=by
    exact Mch
   refine zak (v:=.slice (some ⟨wr.heap.size+1,0,none⟩) 0 0) (n:=0) (m:=a) rfl _ _ rfl zbJ zaH zbI rfl (xs:=[]) (ys:=xs.take a) (m1) rfl rfl (fI.out.symm) (rE.out _ e1) McB McQ Mcx ?_;intro v4 w4 h1 h2 h3;rw[List.nil_append]at h1;obtain⟨V4,c4,aT,_,_⟩:=h1.sl zaH;rw[fI.out]at aT;subst aT;have ay:Below wr.heap.size wr w4:=Below.grown e1 h2 McM (fun j hj=>by simp[za6]at hj;omega);have n2:w4.heap[wr.heap.size]?=some (.cells #[.string x] 9):=(h2.block _ McI Mde).trans n1
   exact Mcn):P:=h
theorem Mc(h:P:=by
 go_simp
 refine hK.out _ _ ?_ (fun hHeld=>?_);focus((try dsimp only);refine⟨?_,?_,?_,?_,?_⟩<;>first|assumption|(simp[go_sem,fJ,fK,be];done)|(simp[go_sem,a0,a1,a2,l5,l6,yp,yL];done)|(simp[go_sem,z0,z1,z2,z5,z6,zx,zy];done))
 clear hK K;try simp only[Act.put,List.setIfInBounds_toArray,List.set_cons_zero,List.set_cons_succ]
 refine OnH 10 fun K hK=>?_
 refine zak (v:=.slice A1 out.length c1) (n:=out.length) (m:=1) rfl _ _ rfl zdW zai zcb rfl (xs:=out) (ys:=[(pn,zbi (pq/lf))]) (YO.out.keep (n:=w5.heap.size) Bw) rfl rfl rfl (sl_part (zat _ _ _ rfl)) McK Mcq Mcw ?_;intro v6 w6 h1 h2 h3;obtain⟨A6,c6,ei,_,_⟩:=h1.sl zai;rw[List.length_append]at ei;subst ei;have zT:zb1 w6 W0.heap.size gpl gcl frm gfin (.slice A1 out.length c1) (.slice D gdi.length dc):=(h2.block _ Mcw (fun e=>zhM YO.out YT.out Mcu e.symm)).trans (zal YT.out);have z4:w6.cell? ⟨W0.heap.size,4,none⟩=some (.slice A1 out.length c1):=by unfold zb1 at zT;simp only[World.cell?,zT];rfl
 have f4:w6.frozen? ⟨W0.heap.size,4,none⟩=false:=by unfold zb1 at zT;simp only[World.frozen?,zT];rfl
 have zL:w6.heap[L]?=some (zbw lf):=(h2.block _ Mcw (fun e=>zhM YO.out YL.out Mcu e.symm)).trans (zal YL.out);have z5:w6.cell? ⟨L,0,none⟩=some (.int .i64 lf.num):=by simp only[World.cell?,zL,zbw];rfl
 have z6:w6.cell? ⟨L,1,none⟩=some (.int .i64 lf.den):=by simp only[World.cell?,zL,zbw];rfl
 have zP:w6.heap[wr.heap.size]?=some (.cells #[.string pn,.int .i64 pq.num,.int .i64 pq.den] 59):=(h2.block _ Mcw (fun e=>by have:=(dV.out.ge _ e.symm).2;omega)).trans (zal Y0.out);obtain⟨z0,z1,z2⟩:=cF3 zP;have zl:=zab zT;have zx:wr.heap.size≠W0.heap.size:=Mcq;have zy:L≠W0.heap.size:=Mcq;have ZT:=Lib.hid zT;have ZL:=Lib.hid zL;have H1:=Lib.hid h1;have H2:=Lib.hid h2;have H3:=Lib.hid h3;clear zT zL zP h1 h2 h3;refine hK.out _ _ ?_ (fun hHeld=>?_);focus((try dsimp only);refine⟨?_,?_,?_,?_,?_⟩<;>first|assumption|(simp[go_sem,fJ,fK,be];done)|(simp[go_sem,a0,a1,a2,l5,l6,yp,yL];done)|(simp[go_sem,z0,z1,z2,z5,z6,zx,zy];done))
 clear hK K;try simp only[Act.put,List.setIfInBounds_toArray,List.set_cons_zero,List.set_cons_succ]
 refine TkH 11 ?_;refine OnH 12 fun K hK=>?_
 go_simp
 refine hK.out _ _ ?_ (fun hHeld=>?_);focus((try dsimp only);refine⟨?_,?_,?_,?_,?_⟩<;>first|assumption|(simp[go_sem,fJ,fK,be];done)|(simp[go_sem,a0,a1,a2,l5,l6,yp,yL];done)|(simp[go_sem,z0,z1,z2,z5,z6,zx,zy];done))
 clear hK K;try simp only[Act.put,List.setIfInBounds_toArray,List.set_cons_zero,List.set_cons_succ]
 refine wpAnyH_done Mcs ?_ _;have Nq:za6 (.slice A6 (out.length+[(pn,zbi (pq/lf))].length) c6)≠some W0.heap.size:=fun e=>by
  rcases H3.out _ e with h|h
  ·exact zhM YO.out YT.out Mcu h
  ·simp at h;omega
 have r1:MarkAt (w6.setCell ⟨W0.heap.size,4,none⟩ (.slice A6 (out.length+[(pn,zbi (pq/lf))].length) c6)) C (fl||bigQ (pq/lf)):=
  J_ne Mcq ((H2.out.block C (by have:=zab N1.out;simp;omega) (fun e=>by have:=(dV.out.ge _ e.symm).1;omega)).trans (zal N1.out))
 have r2:=zg7 ZT.out (.slice A6 (out.length+[(pn,zbi (pq/lf))].length) c6);have r3:OwnS (w6.setCell ⟨W0.heap.size,4,none⟩ (.slice A6 (out.length+[(pn,zbi (pq/lf))].length) c6)) W0.heap.size 59 3 zaa (.slice A6 (out.length+[(pn,zbi (pq/lf))].length) c6) (out++[(pn,zbi (pq/lf))]):=H1.out.grown (za2 _ _ _ _) (.inr Nq);have r4:(w6.setCell ⟨W0.heap.size,4,none⟩ (.slice A6 (out.length+[(pn,zbi (pq/lf))].length) c6)).heap[L]?=some (zbw lf):=J_ne Mcq ZL.out;have r5:Below C W0 w5:=zbp (W:=(wr.alloc (.cells #[.string pn,.int .i64 pq.num,.int .i64 pq.den] 59)).drew) (zaF (zad tN.out _ Mcq)) N2.out (Nat.le_refl _);have r6:Below C W0 w6:=Below.grown (zad r5 _ Mcq) H2.out (by have:=r5.size;simp;omega) (fun j hj=>by have:=(dV.out.ge _ hj).1;omega);have r7:Below C W0 (w6.setCell ⟨W0.heap.size,4,none⟩ (.slice A6 (out.length+[(pn,zbi (pq/lf))].length) c6)):=zaN r6 (by show C<=W0.heap.size;omega) _;have r8:L<w6.heap.size:=zab ZL.out;have R1:=Lib.hid r1;have R2:=Lib.hid r2;have R3:=Lib.hid r3;have R4:=Lib.hid r4;have R7:=Lib.hid r7;have qe:=dl.out;rw[eM.out]at qe;simp only[Bool.false_eq_true,if_false]at qe;have BK:=Lib.hid qe;clear r1 r2 r3 r4 r5 r6 r7 qe a0 a1 a2 l5 l6 y2 z4 f4 z5 z6 z0 z1 z2;go_wp2_with fail
 go_round
 case rel=>exact⟨k+1,_,out++[(pn,zbi (pq/lf))],_,by omega,by go_num,BK.out.symm,R1.out,R2.out,R3.out,R4.out,R7.out,by simp;omega⟩
 case measure=>simp[intOf];omega):P:=h
theorem Md(h:P:=by
 have d1:wq.cell? ⟨w.heap.size,1,none⟩=some (.int .i64 dy):=by simp only[World.cell?,nD.out];rfl
 have oG:=ob.out;have DK:=zab oG;have Lc:=zab nD.out;unfold WldC at oG;obtain⟨-,-,-,-,-,-,-,z7,z8⟩:=cF9 oG;have f7:wq.frozen? ⟨b,7,none⟩=false:=by simp only[World.frozen?,oG];rfl
 have f8:wq.frozen? ⟨b,8,none⟩=false:=by simp only[World.frozen?,oG];rfl
 have hwb:w.heap.size≠b:=fun e=>Nat.lt_irrefl _ (e▸cJ)
 clear oG;have rS:Below base w wq:=Below.trans (Below.mono (B:=w.heap.size) Bw (Nat.le_of_lt (Nat.lt_of_le_of_lt aN cJ))) oa.out;have kQ:=Lib.hid rS;clear rS;by_cases h0:er=0
 ·subst h0;have jI:=wrap_k xH;have uK:=zmT xH;go_wp2_with fail
  go_region
  all_goals go_wp2_with fail
  all_goals go_ret
  all_goals exact taken_ok (wld_drew (wld_tick nK.out dy ((k:Int)+1))) (zaF (zaN (zaN kQ.out ew _) ew _))
 ·go_wp2_with fail
  go_ret
  exact taken_no h0 nK.out kQ.out):P:=h
theorem Me(h:P:=by
 have HE:=Lib.hid (HG.out rfl);have sf:=frz xs0;have iW:=HF.out.dead;clear HG dh;go_upto_region 24 with fail
 obtain⟨U1,si⟩:∃U1,U1=WR.setCell ⟨w.heap.size,6,none⟩ (.slice V2 s.graves.length c2'):=⟨_,rfl⟩
 have u0:U1.heap[w.heap.size]?=some (.cells #[.slice LA laws.length c0,.slice CA s.children.length c1,.slice MA s.marriages.length c2,.slice DA s.dead.length c3,.slice WA wd.length c4,.slice RA rd.length c5,.slice V2 s.graves.length c2'] 35):=by
  rw[si];have:=Joins.block_setCell (i:=6) xs0 (.slice V2 s.graves.length c2');simpa using this
 have u1:U1.heap[w.heap.size+1]?=some (.cells #[.slice none 0 0,.slice none 0 0,.slice none 0 0,.slice none 0 0,.slice none 0 0,.slice none 0 0,.slice none 0 0] 35):=by rw[si];exact J_ne Mcq xr0
 have DI:Below w.heap.size w U1:=by rw[si];exact zaN (aj.out.trans (aU.out.mono aw)) (Nat.le_refl _) _
 have xy:WR.grownBy U1 (some w.heap.size):=by rw[si];exact za2 _ _ _ _
 have If:s.graves≠[]->RowC U1 161 ga go 5 (dx.map GX.cells):=fun ag=>by
  have h:=Cg.out ag;rw[Eb,List.append_nil]at h;rw[si];exact h.ne (zmf h xs0 Mcu)
 have Jw:=Lib.hid If;have BA:=Lib.hid (fun y hy=>((gu.out y hy).keptS xy xs0:okR gxs U1 y));have ID:=Lib.hid DI;have JH:=Lib.hid u1;have JG:=Lib.hid u0;have KP:=DI.size;rw[<-si];clear si If xy sf;clear xs0 xr0 s0 s1 s2 s3 s4 s5 s6 r0 r1 r2 r3 r4 r5 r6 rf ls lr;obtain⟨s0,s1,s2,s3,s4,s5,s6⟩:=zaK u0;have ls:=zab u0;have lr:=zab u1;clear u0 u1;have qS:=Lib.hid (H.out U1 DI).dead
 go_upto_region 25 with(first
  |(at_builtin
    go_loud(refine zas (v:=.slice (some ⟨U1.heap.size,0,none⟩) 0 0) (n:=0) (m:=s.dead.length) rfl _ _ rfl zbJ zaH zbI rfl (xs:=[]) (ys:=s.dead) (zea zaH U1 U1.heap.size (Nat.le_refl _)) rfl rfl rfl (qS.out.keep (zad (Below.refl _ _) _)) Mc9 Mcq Mcv ?_)
    intro v3 w3 h1 h2 h3;rw[List.nil_append]at h1;have av:Below U1.heap.size U1 w3:=Below.grown (zad (Below.refl _ _) _) h2 Mcv Mdj;obtain⟨V3,vc3,rfl,_,_⟩:=h1.sl zaH;have nE:=Lib.hid h1;have lC:=Lib.hid av;have vZ:=av.size
    clear h1 h2 h3 av)
  |(at_builtin
    go_loud(refine zas (v:=.slice V3 s.dead.length vc3) (n:=s.dead.length) (m:=1) rfl _ _ rfl zbJ zaH zbI rfl (xs:=s.dead) (ys:=[n]) (nE.out.keep (n:=w3.heap.size) (zad (Below.refl _ _) _)) rfl rfl rfl (zdX (zat _ _ _ rfl)) Mc9 Mcq Mcw ?_)
    intro v6 w6 h1 h2 h3;have aV:Below U1.heap.size U1 w6:=Below.grown (zad lC.out _) h2 Mcw (fun j hj=>(nE.out.ge j hj).1);obtain⟨A6,vc6,ei,_,xM⟩:=h1.sl zaH;have kM:v6=.slice A6 (s.dead.length+1) vc6:=by rw[ei,List.length_append];rfl
    clear ei;subst kM;have fG:=Lib.hid h1;have eL:=Lib.hid aV;have BV:=Lib.hid xM;have x6:=(aV.block w.heap.size ls).trans JG.out;have z6:=(aV.block (w.heap.size+1) lr).trans JH.out;have zU:=Lib.hid x6;have JQ:=Lib.hid z6;have sf6:=frz x6;obtain⟨_,_,_,p3,_,_,_⟩:=zaK x6;have ls6:=zab x6
    clear h1 h2 h3 aV xM x6 z6))
 obtain⟨U7,sj⟩:∃U7,U7=w6.setCell ⟨w.heap.size,3,none⟩ (.slice A6 (s.dead.length+1) vc6):=⟨_,rfl⟩
 have y7:U7.heap[w.heap.size]?=some (.cells #[.slice LA laws.length c0,.slice CA s.children.length c1,.slice MA s.marriages.length c2,.slice A6 (s.dead.length+1) vc6,.slice WA wd.length c4,.slice RA rd.length c5,.slice V2 s.graves.length c2'] 35):=by
  rw[sj];have:=Joins.block_setCell (i:=3) zU.out (.slice A6 (s.dead.length+1) vc6);simpa using this
 have z7:U7.heap[w.heap.size+1]?=some (.cells #[.slice none 0 0,.slice none 0 0,.slice none 0 0,.slice none 0 0,.slice none 0 0,.slice none 0 0,.slice none 0 0] 35):=by rw[sj];exact J_ne Mcq JQ.out
 have bK:Below w.heap.size w U7:=by rw[sj];exact zaN (ID.out.trans (eL.out.mono KP)) (Nat.le_refl _) _
 have sQ:w6.grownBy U7 (some w.heap.size):=by rw[sj];exact za2 _ _ _ _
 have hS7:Sl U7 5 GX.cells V2 dx:=by
  by_cases ag:s.graves=[]
  ·have h0:dx.length=0:=by rw[iu];rw[ag]at hk;simpa using hk
   rw[List.eq_nil_of_length_eq_zero h0];exact Sl.nil
  ·obtain⟨e,_⟩:=HV.out ag;have h:=(Jw.out ag).keep eL.out;rw[e,sj];exact(h.ne (zmf h zU.out Mcu)).sl rfl
 have yz:∀x∈dx,x.ok U7:=fun x hx=>by
  rcases((BA.out x hx).keep eL.out).keptS sQ zU.out with h|⟨h1,h2⟩
  ·exact(cY.out x h).keep bK
  ·exact⟨h1.sl zai,h2.sl zaH⟩
 have h':=H.out U7 bK;have aA:Hid (StAt U7 laws R.1 (.slice LA laws.length c0) (.slice CA s.children.length c1) (.slice MA s.marriages.length c2) (.slice A6 (s.dead.length+1) vc6) (.slice WA wd.length c4) (.slice RA rd.length c5) (.slice V2 s.graves.length c2')):=by
  show StAt _ _ _ _ _ _ _ _ _ _;rw[HE.out];refine⟨wd,rd,LA,CA,MA,A6,WA,RA,V2,c0,c1,c2,vc6,c4,c5,c2',rfl,rfl,rfl,?_,rfl,rfl,?_,⟨h'.laws,h'.kids,h'.marr,?_,h'.wills,h'.ren,slw_gx hS7 rfl yz,BV.out⟩,⟨HK.out.wills,HK.out.shares,HK.out.ren,HK.out.tos⟩⟩
  ·show _=Value.slice A6 (s.dead++[n]).length vc6;rw[List.length_append];rfl
  ·show _=Value.slice V2 (dx.map (·.g)).length c2';rw[List.length_map,iu,kE]
  ·exact(fG.out.ro'.kept sQ zU.out Mcu).sl zaH
 rw[<-sj];have cr:=Lib.hid bK;have zV:=Lib.hid z7;clear sj hS7 yz h' sQ bK s0 s1 s2 s3 s4 s5 s6 ls lr p3 sf6 ls6;obtain⟨s0,s1,s2,s3,s4,s5,s6⟩:=zaK y7;obtain⟨r0,r1,r2,r3,r4,r5,r6⟩:=zaK z7;have rf:=frz z7;have ls:=zab y7;have lr:=zab z7;clear y7 z7;go_wp2_with fail
 refine bodyPost_ret (zb8 rfl _ rfl rfl (zc9 zV.out)) rfl ?_
 exact⟨_,_,_,_,_,_,_,true,rfl,rfl,zcH cr.out (show w.heap.size<=w.heap.size+1 by omega),.inl ⟨rfl,by rw[HE.out],(zcI zV.out rfl).st aA.out⟩⟩):P:=h
theorem Mf(h:P:=by
 go_wp2_with fail
 rw[HE.out];refine bodyPost_ret (zb8 rfl _ rfl rfl (zc9 xr0)) rfl ?_
 exact⟨_,_,_,_,_,_,_,rfl,rfl,zcH (aj.out.trans (aZ.mono aw)) (show w.heap.size<=w.heap.size+2 by omega),fun e=>by cases e⟩):P:=h
theorem Mg(h:P:=by
 intro v6 w6 k1 k2 k3;have aV:Below wr.heap.size wr w6:=Below.grown aq k2 aq.size (fun j hj=>(g1.ge j hj).1);refine NxM hK fun hHeld=>?_
 clear hK K;refine OnM 15 true fun K hK=>?_
 go_simp
 refine NxM hK fun hHeld=>?_
 clear hK K;refine zaV Mcs ?_ _;clear hHeld;have K1:=Lib.hid k1;have bR:=Lib.hid aV;clear k1 k2 k3 aV aq g1 g2 g3;go_wp2_with fail
 go_round
 case rel=>exact⟨k+1,ak.out,by go_num,by rw[aA.out];exact K1.out.base_le Mcq,HB.out.trans (bR.out.mono Mcq)⟩
 case measure=>have:=ak.out;simp only[intOf];omega):P:=h
theorem Mh(h:P:=by
 have oH:D0=none:=by
  cases f9:(f&&l)
  ·obtain⟨h1,h2⟩:=kW.out f9;rw[h1,zB.out];refine IO.out _ Fe.out fun eb e'=>?_
   rw[h2]at e';rcases BZ.out rfl with e|e
   ·rw[e]at e';cases e'
   ·cases l
    ·obtain rfl:hs=eb:=by simpa using e'
     exact e
    ·cases e'
  ·exact oh.out f9
 have HN:=Lib.hid oH;clear oH;obtain⟨OV,oc,rfl,_,yw⟩:=HO.out.ro;have jp:=eB.out.trans (lE.out.mono eB.out.size);have aX:=bB.out.keep jp;obtain⟨gcur,cL,_⟩:=aX.row;have j3:wr.cell? ⟨ga,go+k*5+3,none⟩=some (.slice x.H x.g.holders.length x.hc):=aX.at iI.out (j:=3) rfl;have jf:=aX.frz;have jw:=aX.lt;have ry:=Lib.hid aX;have lM:=Lib.hid cL;have C9:=Lib.hid yw;have kh:=Lib.hid jp;clear yw jp aX cL;go_upto_region 20 with fail
 obtain⟨V1,nN⟩:∃V1,V1=wr.setCell ⟨ga,go+k*5+3,none⟩ (.slice OV out.length oc):=⟨_,rfl⟩
 have gK:wr.grownBy V1 (some ga):=by rw[nN];exact za2 _ _ _ _
 have fk:RowC V1 161 ga go 5 (((dx++gxs.drop k).map GX.cells).set k (x.cells.set 3 (.slice OV out.length oc))):=by rw[nN];exact ry.out.set iI.out Mcu
 have sz:Below w1.heap.size w1 V1:=MdL;rw[<-nN];have Dr:WR.heap.size<=V1.heap.size:=Nat.le_trans kh.out.size gK.size;clear nN j3 jf jw;have ND:=hxd5 fk iI.out;have iN:=Lib.hid fk;have kR:=Lib.hid sz;have Ll:=fk.lt;have vJ:=Lib.hid (C9.out.kept gK lM.out Mcu);have uX:=Lib.hid (fun y hy=>(((gu.out y hy).keep kh.out).kept gK lM.out:okR gxs V1 y));have Cz:=Lib.hid (pR.out V1 (aj.out.trans ((aE.out.trans (sz.mono im)).mono aw))).2;clear fk sz gK
 go_wp2_with (first
  |(at_builtin
    go_loud(refine zas (v:=.slice (some ⟨V1.heap.size,0,none⟩) 0 0) (n:=0) (m:=x.g.died.length) rfl _ _ rfl zbJ zaH zbI rfl (xs:=[]) (ys:=x.g.died) (zea zaH V1 V1.heap.size (Nat.le_refl _)) rfl rfl rfl (Cz.out.keep (zad (Below.refl _ _) _)) Mc9 Mcq Mcv ?_)
    intro v3 w3 h1 h2 h3;rw[List.nil_append]at h1;have av:Below V1.heap.size V1 w3:=Below.grown (zad (Below.refl _ _) _) h2 Mcv Mdj;obtain⟨V3,vc3,rfl,_,_⟩:=h1.sl zaH;have nE:=Lib.hid h1;have lC:=Lib.hid av;have vZ:=av.size
    clear h1 h2 h3 av)
  |(at_builtin
    go_loud(refine zas (v:=.slice V3 x.g.died.length vc3) (n:=x.g.died.length) (m:=1) rfl _ _ rfl zbJ zaH zbI rfl (xs:=x.g.died) (ys:=[n]) (nE.out.keep (n:=w3.heap.size) (zad (Below.refl _ _) _)) rfl rfl rfl (zdX (zat _ _ _ rfl)) Mc9 Mcq Mcw ?_)
    intro v6 w6 h1 h2 h3;have aV:Below V1.heap.size V1 w6:=Below.grown (zad lC.out _) h2 Mcw (fun j hj=>(nE.out.ge j hj).1);obtain⟨A6,vc6,ei,_,_⟩:=h1.sl zaH;rw[List.length_append]at ei;subst ei;have fG:=Lib.hid h1;have eL:=Lib.hid aV;have g8:=iN.out.keep aV;have i4:w6.cell? ⟨ga,go+k*5+4,none⟩=some (.slice x.D x.g.died.length x.dc):=hxd5 g8 iI.out;have jf6:=g8.frz;have E8:=g8.lt;have DF:=aV.size
    clear h1 h2 h3 aV g8))
 go_round
 case rel=>
  have g8:=iN.out.keep eL.out;rw[Bz.out]at g8;obtain⟨gcur6,mL,_⟩:=g8.row;refine⟨k+1,true,true,dx++[(⟨{x.g with holders:=out,died:=x.g.died++[n]},OV,oc,A6,vc6⟩:GX)],ak.out,by go_num,rfl,rfl,by rw[List.length_append,iu];rfl,Lib.hid fun _=>row_two iu g8,Lib.hid fun y hy=>?_,Lib.hid fun _=>HN.out,Lib.hid Mcv,zaN (kR.out.trans (eL.out.mono kR.out.size)) AC _,by simp;omega⟩;exact Mb5
 case measure=>have:=ak.out;simp only[intOf];omega):P:=h
theorem Mi(h:P:=by
 first
  |(clear h;unfold zdD;go_simp;exact⟨rfl,stays _⟩)
  |(simp[Region.binds,vL,vIs]at h;unfold zdD;go_simp;exact⟨rfl,stays _⟩)):P:=h
theorem Mj(h:P:=by
 refine OnM 6 true fun K hK=>?_
 refine zak (v:=.slice V4 s.graves.length c4') (n:=s.graves.length) (m:=1) rfl _ _ rfl zhw zcX zjW rfl (xs:=gxs) (ys:=[(⟨⟨d.place,d.cls,fin,out,[]⟩,VA,vc,none,0⟩:GX)]) o9 bp.out.symm rfl rfl (sl_grave (⟨⟨d.place,d.cls,fin,out,[]⟩,VA,vc,none,0⟩:GX) n9) Mcy McJ McO ?_;intro v5 w5 g1 g2 g3;obtain⟨A5,c5',eh,_,_⟩:=g1.sl zcX;rw[List.length_append,<-bp.out]at eh;subst eh;have aq:Below WX.heap.size WX w5:=Below.grown e9 g2 Mea (fun j hj=>(o9.ge j hj).1);have bV:=bw.out.trans (aq.mono dG);refine NxM hK fun hHeld=>?_
 clear hK K;refine OnM 7 true fun K hK=>?_
 go_simp
 refine NxM hK fun hHeld=>?_
 clear hK K;obtain⟨⟨xs0,xd0,xr0⟩,⟨s0,s1,s2,s3,s4,s5,s6⟩,⟨d0,d1,d2,d3,d4,d5,d6⟩,⟨r0,r1,r2,r3,r4,r5,r6⟩,rf,ls,ld,lr⟩:=ddF (au.out w5 (bV));have sf:=frz xs0;refine OnM 8 true fun K hK=>?_
 go_simp
 refine NxM hK fun hHeld=>?_
 clear hK K;refine zaV Mcs ?_ _;clear hHeld;have G1:=Lib.hid g1;have vX:=Lib.hid aq;have bn:=Lib.hid bV;have X0:=Lib.hid xs0;have X2:=Lib.hid xr0;clear g1 g2 g3 aq bV h1 h2 h3 ay;clear xs0 xd0 xr0 s0 s1 s2 s3 s4 s5 s6 d0 d1 d2 d3 d4 d5 d6 r0 r1 r2 r3 r4 r5 r6 rf ls ld lr;clear sf;go_wp2_with fail
 go_meet
 refine⟨⟨by first|rfl|trivial,A5,c5',?_,J_ne Mcq X2.out,(G1.out.kept (za2 _ _ _ _) X0.out Mcu).ro',zaN (aj.out.trans (bn.out.mono aw)) (Nat.le_refl _) _⟩,((HO.out.keep vX.out).kept (za2 _ _ _ _) X0.out Mcu).ro'⟩;have:=Joins.block_setCell (i:=6) X0.out (.slice A5 (s.graves.length+1) c5')
 simpa using this):P:=h
theorem Mk(h:P:=by
 have a1:wr.cell? ⟨w.heap.size,5,none⟩=some (.bool fa):=Mcr;have a2:wr.cell? ⟨w.heap.size,7,none⟩=some (.bool true):=Mcr;have b0:wr.cell? ⟨w.heap.size+1,3,none⟩=some (.string frm):=Mct;have b1:wr.cell? ⟨w.heap.size+1,4,none⟩=some (.slice B ps.length c):=Mct;have c0:wr.cell? ⟨w.heap.size+2,0,none⟩=some (.int .i64 s.num):=Met;have c1:wr.cell? ⟨w.heap.size+2,1,none⟩=some (.int .i64 s.den):=Met;have d0:wr.frozen? ⟨w.heap.size+2,0,none⟩=false:=Meo;have d1:wr.frozen? ⟨w.heap.size+2,1,none⟩=false:=Meo;have e0:w.heap.size<wr.heap.size:=Mcq;have e1:w.heap.size+1<wr.heap.size:=Mcq;have e2:w.heap.size+2<wr.heap.size:=Mcq;have e3:w.heap.size+2≠wr.heap.size:=Mcq;by_cases aa:k<ps.length
 ·rw[List.drop_eq_getElem_cons aa]at hx;obtain⟨b,off,rfl,hb,hc⟩:=(hS.keep hB).at aa;have wP:=(hS.keep hB).take k;generalize hp:ps[k]=p at*;obtain⟨pn,pu,pd⟩:=p;have h0:wr.cell? ⟨b,off+k*3,none⟩=some (.string pn):=hc 0 _ rfl;have h1:wr.cell? ⟨b,off+k*3+1,none⟩=some (.int .i64 pu):=hc 1 _ rfl;have h2:wr.cell? ⟨b,off+k*3+2,none⟩=some (.int .i64 pd):=hc 2 _ rfl;have HP:=Lib.hid hp;have HF:=Lib.hid dN;have H0:=Lib.hid aw;have HK:=Lib.hid kK;have HS:=Lib.hid wP;have HX:=Lib.hid hx;have HH:=Lib.hid (show ps.length<=100000 by omega);have jY:(k:Int)<=(c:Int):=Mcq;have aR:(0:Int)<=(k:Int):=Mcq;have jz:(k:Int)<(ps.length:Int):=Mcq;have bT:(ps.take k).length=k:=Mdm;have HT:=Lib.hid bT;clear hc hS wP hp dN aw kK hx bT
  go_upto_region 10 with(go_at_call 47
                         refine(zcf _ _ eg (fun q=>zaf q.name pn) _ k _ (ps.take k) _ HT.out.symm (by rw[HT.out];have:=HH.out;omega) (HS.out.keep (n:=wr.heap.size) Bw) (zla _ pn _ _ Mcv Mc0)).mono ?_
                         intro e wq hq;rcases Ret.bools hq with⟨zq,rfl,⟨hb,rfl⟩|⟨hb,rfl⟩⟩<;>clear hq)
  all_goals go_wp2_with (first
   |(go_at_call 82;refine(zdS _ _ _).mono ?_;intro e wq hq;rcases Ret.bools hq with⟨zq,rfl,⟨hb,rfl⟩|⟨hb,rfl⟩⟩<;>clear hq)
   |(go_at_call 85;refine(zn9 s pu pd _ (HF.out.small (Rat.le_trans Mcu H0.out) (cast_le HK.out Mcq)) Mc3).mono ?_;rintro e w1 ⟨rfl,z1,rfl⟩;simp only[zaD]))
  all_goals first
   |(go_ret
     exact Ret.of (zaR (by rw[HX.out];simp[zcs,zhb,zei,ze3, *])) Bw)
   |(go_round
     case rel=>
      refine⟨k+1,by omega,by go_num,s+Rat.divInt pu pd,(by rw[HX.out,List.take_succ_eq_append_getElem aa,HP.out];simp[zcs,RPart.rat,zei,ze3, *]:_=_),HF.out.add (zeq Mc3),sum_pos H0.out Mc3,sum_up HK.out Mc3,Bw,by simp[zae];omega,by repeat(first|assumption|with_reducible refine zal ?_|with_reducible refine zby ?_|with_reducible refine J_ne Mcq ?_),by repeat(first|assumption|with_reducible refine zal ?_|with_reducible refine zby ?_|with_reducible refine J_ne Mcq ?_),?_⟩;(repeat(first|with_reducible refine zal ?_|with_reducible refine zby ?_));exact zeO g2
     case measure=>simp[intOf];omega)
 ·exact Mb6):P:=h
theorem Ml(h:P:=by
 have a1:wr.cell? ⟨w.heap.size,5,none⟩=some (.bool fa):=Mcr;have a2:wr.cell? ⟨w.heap.size,7,none⟩=some (.bool false):=Mcr;have b0:wr.cell? ⟨w.heap.size+1,3,none⟩=some (.string frm):=Mct;have b1:wr.cell? ⟨w.heap.size+1,4,none⟩=some (.slice B ps.length c):=Mct;have c0:wr.cell? ⟨w.heap.size+2,0,none⟩=some (.int .i64 s.num):=Met;have c1:wr.cell? ⟨w.heap.size+2,1,none⟩=some (.int .i64 s.den):=Met;have d0:wr.frozen? ⟨w.heap.size+2,0,none⟩=false:=Meo;have d1:wr.frozen? ⟨w.heap.size+2,1,none⟩=false:=Meo;have e0:w.heap.size<wr.heap.size:=Mcq;have e1:w.heap.size+1<wr.heap.size:=Mcq;have e2:w.heap.size+2<wr.heap.size:=Mcq;have e3:w.heap.size+2≠wr.heap.size:=Mcq;by_cases aa:k<ps.length
 ·rw[List.drop_eq_getElem_cons aa]at hx;obtain⟨b,off,rfl,hb,hc⟩:=(hS.keep hB).at aa;have wP:=(hS.keep hB).take k;generalize hp:ps[k]=p at*;obtain⟨pn,pu,pd⟩:=p;have h0:wr.cell? ⟨b,off+k*3,none⟩=some (.string pn):=hc 0 _ rfl;have h1:wr.cell? ⟨b,off+k*3+1,none⟩=some (.int .i64 pu):=hc 1 _ rfl;have h2:wr.cell? ⟨b,off+k*3+2,none⟩=some (.int .i64 pd):=hc 2 _ rfl;have HP:=Lib.hid hp;have HF:=Lib.hid dN;have H0:=Lib.hid aw;have HK:=Lib.hid kK;have HS:=Lib.hid wP;have HX:=Lib.hid hx;have HH:=Lib.hid (show ps.length<=100000 by omega);have jY:(k:Int)<=(c:Int):=Mcq;have aR:(0:Int)<=(k:Int):=Mcq;have jz:(k:Int)<(ps.length:Int):=Mcq;have bT:(ps.take k).length=k:=Mdm;have HT:=Lib.hid bT;clear hc hS wP hp dN aw kK hx bT
  go_upto_region 10 with(go_at_call 47
                         refine(zcf _ _ eg (fun q=>zaf q.name pn) _ k _ (ps.take k) _ HT.out.symm (by rw[HT.out];have:=HH.out;omega) (HS.out.keep (n:=wr.heap.size) Bw) (zla _ pn _ _ Mcv Mc0)).mono ?_
                         intro e wq hq;rcases Ret.bools hq with⟨zq,rfl,⟨hb,rfl⟩|⟨hb,rfl⟩⟩<;>clear hq)
  all_goals go_wp2_with (first
   |(go_at_call 82;refine(zdS _ _ _).mono ?_;intro e wq hq;rcases Ret.bools hq with⟨zq,rfl,⟨hb,rfl⟩|⟨hb,rfl⟩⟩<;>clear hq)
   |(go_at_call 85;refine(zn9 s pu pd _ (HF.out.small (Rat.le_trans Mcu H0.out) (cast_le HK.out Mcq)) Mc3).mono ?_;rintro e w1 ⟨rfl,z1,rfl⟩;simp only[zaD]))
  all_goals first
   |(go_ret
     exact Ret.of (zaR (by rw[HX.out];simp[zcs,zhb,zei,ze3, *])) Bw)
   |(go_round
     case rel=>
      refine⟨k+1,by omega,by go_num,s,(by rw[HX.out,List.take_succ_eq_append_getElem aa,HP.out];simp[zcs,RPart.rat,zei,ze3, *]:_=_),HF.out,H0.out,Rat.le_trans HK.out (natUp k),Bw,by simp[zae];omega,by repeat(first|assumption|with_reducible refine zal ?_|with_reducible refine zby ?_|with_reducible refine J_ne Mcq ?_),by repeat(first|assumption|with_reducible refine zal ?_|with_reducible refine zby ?_|with_reducible refine J_ne Mcq ?_),?_⟩;repeat(first|assumption|with_reducible refine zal ?_|with_reducible refine zby ?_|with_reducible refine J_ne Mcq ?_)
     case measure=>simp[intOf];omega)
 ·exact Mb6):P:=h
theorem Mm(h:P:=by
 refine OnM 9 true fun K hK=>?_
 refine zak (v:=.slice V4 s.children.length c4') (n:=s.children.length) (m:=1) rfl _ _ rfl zg8 zbn zdJ rfl (xs:=s.children) (ys:=[(d.frm,tn)]) o9 bp.out.symm rfl rfl (zmP (p:=(d.frm,tn)) n9) Mcy McJ McO ?_;intro v5 w5 g1 g2 g3;obtain⟨A5,c5',eh,_,_⟩:=g1.sl zbn;rw[List.length_append,<-bp.out]at eh;subst eh;have aq:Below WX.heap.size WX w5:=Below.grown e9 g2 Mea (fun j hj=>(o9.ge j hj).1);have bV:=bw.out.trans (aq.mono dG);refine NxM hK fun hHeld=>?_
 clear hK K;refine OnM 10 true fun K hK=>?_
 go_simp
 refine NxM hK fun hHeld=>?_
 clear hK K;obtain⟨⟨xs0,xd0,xr0⟩,⟨s0,s1,s2,s3,s4,s5,s6⟩,⟨d0,d1,d2,d3,d4,d5,d6⟩,⟨r0,r1,r2,r3,r4,r5,r6⟩,rf,ls,ld,lr⟩:=ddF (au.out w5 (bV));have sf:=frz xs0;refine OnM 11 true fun K hK=>?_
 go_simp
 refine NxM hK fun hHeld=>?_
 clear hK K;refine zaV Mcs ?_ _;clear hHeld;have G1:=Lib.hid g1;have vX:=Lib.hid aq;have bn:=Lib.hid bV;have X0:=Lib.hid xs0;have X2:=Lib.hid xr0;clear g1 g2 g3 aq bV h1 h2 h3 ay;clear xs0 xd0 xr0 s0 s1 s2 s3 s4 s5 s6 d0 d1 d2 d3 d4 d5 d6 r0 r1 r2 r3 r4 r5 r6 rf ls ld lr;clear sf;go_wp2_with fail
 go_meet
 refine⟨by first|rfl|trivial,A5,c5',?_,J_ne Mcq X2.out,(G1.out.kept (za2 _ _ _ _) X0.out Mcu).ro',zaN (aj.out.trans (bn.out.mono aw)) (Nat.le_refl _) _⟩;have:=Joins.block_setCell (i:=1) X0.out (.slice A5 (s.children.length+1) c5')
 simpa using this):P:=h
theorem Mn(h:P:=by
 refine OnM 6 true fun K hK=>?_
 refine zak (v:=.slice V4 rd.length c4') (n:=rd.length) (m:=1) rfl _ _ rfl zft zbA zfs rfl (xs:=dvs) (ys:=[(⟨d,B,c⟩:DV)]) o9 bp.out.symm rfl rfl (sl_deed d B c n9) Mcy McJ McO ?_;intro v5 w5 g1 g2 g3;obtain⟨A5,c5',eh,_,_⟩:=g1.sl zbA;rw[List.length_append,<-bp.out]at eh;subst eh;have aq:Below WX.heap.size WX w5:=Below.grown e9 g2 Mea (fun j hj=>(o9.ge j hj).1);have bV:=bw.out.trans (aq.mono dG);refine NxM hK fun hHeld=>?_
 clear hK K;refine OnM 7 true fun K hK=>?_
 go_simp
 refine NxM hK fun hHeld=>?_
 clear hK K;obtain⟨⟨xs0,xd0,xr0⟩,⟨s0,s1,s2,s3,s4,s5,s6⟩,⟨d0,d1,d2,d3,d4,d5,d6⟩,⟨r0,r1,r2,r3,r4,r5,r6⟩,rf,ls,ld,lr⟩:=ddF (au.out w5 (bV));have sf:=frz xs0;refine OnM 8 true fun K hK=>?_
 go_simp
 refine NxM hK fun hHeld=>?_
 clear hK K;refine zaV Mcs ?_ _;clear hHeld;have G1:=Lib.hid g1;have vX:=Lib.hid aq;have bn:=Lib.hid bV;have X0:=Lib.hid xs0;have X2:=Lib.hid xr0;clear g1 g2 g3 aq bV h1 h2 h3 ay;clear xs0 xd0 xr0 s0 s1 s2 s3 s4 s5 s6 d0 d1 d2 d3 d4 d5 d6 r0 r1 r2 r3 r4 r5 r6 rf ls ld lr;clear sf;go_wp2_with fail
 go_meet
 refine⟨by first|rfl|trivial,A5,c5',?_,J_ne Mcq X2.out,(G1.out.kept (za2 _ _ _ _) X0.out Mcu).ro',zaN (aj.out.trans (bn.out.mono aw)) (Nat.le_refl _) _⟩;have:=Joins.block_setCell (i:=5) X0.out (.slice A5 (rd.length+1) c5')
 simpa using this):P:=h
theorem Mo(h:P:=by
 refine OnM 6 true fun K hK=>?_
 refine zak (v:=.slice V4 wd.length c4') (n:=wd.length) (m:=1) rfl _ _ rfl zft zbA zfs rfl (xs:=dvs) (ys:=[(⟨d,B,c⟩:DV)]) o9 bp.out.symm rfl rfl (sl_deed d B c n9) Mcy McJ McO ?_;intro v5 w5 g1 g2 g3;obtain⟨A5,c5',eh,_,_⟩:=g1.sl zbA;rw[List.length_append,<-bp.out]at eh;subst eh;have aq:Below WX.heap.size WX w5:=Below.grown e9 g2 Mea (fun j hj=>(o9.ge j hj).1);have bV:=bw.out.trans (aq.mono dG);refine NxM hK fun hHeld=>?_
 clear hK K;refine OnM 7 true fun K hK=>?_
 go_simp
 refine NxM hK fun hHeld=>?_
 clear hK K;obtain⟨⟨xs0,xd0,xr0⟩,⟨s0,s1,s2,s3,s4,s5,s6⟩,⟨d0,d1,d2,d3,d4,d5,d6⟩,⟨r0,r1,r2,r3,r4,r5,r6⟩,rf,ls,ld,lr⟩:=ddF (au.out w5 (bV));have sf:=frz xs0;refine OnM 8 true fun K hK=>?_
 go_simp
 refine NxM hK fun hHeld=>?_
 clear hK K;refine zaV Mcs ?_ _;clear hHeld;have G1:=Lib.hid g1;have vX:=Lib.hid aq;have bn:=Lib.hid bV;have X0:=Lib.hid xs0;have X2:=Lib.hid xr0;clear g1 g2 g3 aq bV h1 h2 h3 ay;clear xs0 xd0 xr0 s0 s1 s2 s3 s4 s5 s6 d0 d1 d2 d3 d4 d5 d6 r0 r1 r2 r3 r4 r5 r6 rf ls ld lr;clear sf;go_wp2_with fail
 go_meet
 refine⟨by first|rfl|trivial,A5,c5',?_,J_ne Mcq X2.out,(G1.out.kept (za2 _ _ _ _) X0.out Mcu).ro',zaN (aj.out.trans (bn.out.mono aw)) (Nat.le_refl _) _⟩;have:=Joins.block_setCell (i:=4) X0.out (.slice A5 (wd.length+1) c5')
 simpa using this):P:=h
theorem Mp(h:P:=by
 refine OnM 9 true fun K hK=>?_
 refine zak (v:=.slice V4 s.marriages.length c4') (n:=s.marriages.length) (m:=1) rfl _ _ rfl zg8 zbn zdJ rfl (xs:=s.marriages) (ys:=[(d.frm,tn)]) o9 bp.out.symm rfl rfl (zmP (p:=(d.frm,tn)) n9) Mcy McJ McO ?_;intro v5 w5 g1 g2 g3;obtain⟨A5,c5',eh,_,_⟩:=g1.sl zbn;rw[List.length_append,<-bp.out]at eh;subst eh;have aq:Below WX.heap.size WX w5:=Below.grown e9 g2 Mea (fun j hj=>(o9.ge j hj).1);have bV:=bw.out.trans (aq.mono dG);refine NxM hK fun hHeld=>?_
 clear hK K;refine OnM 10 true fun K hK=>?_
 go_simp
 refine NxM hK fun hHeld=>?_
 clear hK K;obtain⟨⟨xs0,xd0,xr0⟩,⟨s0,s1,s2,s3,s4,s5,s6⟩,⟨d0,d1,d2,d3,d4,d5,d6⟩,⟨r0,r1,r2,r3,r4,r5,r6⟩,rf,ls,ld,lr⟩:=ddF (au.out w5 (bV));have sf:=frz xs0;refine OnM 11 true fun K hK=>?_
 go_simp
 refine NxM hK fun hHeld=>?_
 clear hK K;refine zaV Mcs ?_ _;clear hHeld;have G1:=Lib.hid g1;have vX:=Lib.hid aq;have bn:=Lib.hid bV;have X0:=Lib.hid xs0;have X2:=Lib.hid xr0;clear g1 g2 g3 aq bV h1 h2 h3 ay;clear xs0 xd0 xr0 s0 s1 s2 s3 s4 s5 s6 d0 d1 d2 d3 d4 d5 d6 r0 r1 r2 r3 r4 r5 r6 rf ls ld lr;clear sf;go_wp2_with fail
 go_meet
 refine⟨by first|rfl|trivial,A5,c5',?_,J_ne Mcq X2.out,(G1.out.kept (za2 _ _ _ _) X0.out Mcu).ro',zaN (aj.out.trans (bn.out.mono aw)) (Nat.le_refl _) _⟩;have:=Joins.block_setCell (i:=2) X0.out (.slice A5 (s.marriages.length+1) c5')
 simpa using this):P:=h
theorem Mq(h:P:=by
 go_wp2_with (first
               |(go_at_call 33;go_must(refine(zbY _ _ _ _).mono ?_);rintro e wq ⟨rfl,rfl⟩;(first|rw[g7]|rw[lh]|rw[hy9]))
               |(go_at_call 39;go_must(refine(zdq _ _).mono ?_);rintro e wq ⟨rfl,rfl⟩;rw[iW])
               |(go_at_call 8;go_must(refine(zdo _ _ Mc3).mono ?_);rintro e wq ⟨rfl,rfl⟩;(first|rw[cN]|rw[gV]|rw[uD])))
 go_meet
 exact⟨zaR (by simp[zcC, *]),by first|exact True.intro|rfl⟩):P:=h
theorem Mr(h:P:=by
 go_wp2_with fail
 all_goals go_meet
 all_goals(refine⟨zaR (by first|(simp[noB, *];done)|(rw[Bool.eq_iff_iff];simp[noB];simp[*];done)|(cases fp<;>cases ff<;>simp_all[noB])),Bw,by first|omega|(simp[zae];done)|(simp[zae];omega),?_,?_⟩)
 all_goals(repeat(first|assumption|with_reducible refine zal ?_|with_reducible refine zby ?_|with_reducible refine J_ne Mcq ?_))):P:=h
theorem Ms(h:P:=by
 go_wp2_with (first
               |(go_at_call 33;go_must(refine(zbY _ _ _ _).mono ?_);rintro e wq ⟨rfl,rfl⟩;(first|rw[g7]|rw[lh]|rw[hy9]))
               |(go_at_call 39;go_must(refine(zdq _ _).mono ?_);rintro e wq ⟨rfl,rfl⟩;rw[iW])
               |(go_at_call 8;go_must(refine(zdo _ _ Mc3).mono ?_);rintro e wq ⟨rfl,rfl⟩;(first|rw[cN]|rw[gV]|rw[uD])))
 go_ret
 exact Ret.of (zcd HE.out.symm) aj.out):P:=h
theorem Mt(h:P:=by
 intro v6 w6 h1 h2 h3;obtain⟨A6,c6,ei,_,_⟩:=h1.sl zaH;rw[List.length_append]at ei;subst ei;have xu:=o1.ge;have fN:∀k,k<wc.heap.size->w6.heap[k]?=wc.heap[k]?:=fun k hk=>(h2.block k (by have:=oK.size;simp at this⊢;omega) (fun e=>by have:=(xu k e.symm).1;simp at this;omega)).trans (oK.block k (by simpa using hk))
 have tE:zb1 w6 wr.heap.size g.place g.cls frm g.fin (.slice A1 g.holders.length c1) (.slice D g.died.length dc):=(fN _ bX).trans ft.out;have nW:wc.heap.size<=w6.heap.size:=by have a:=oK.size;have b:=h2.size;simp at a b⊢;omega
 have y3:w6.cell? ⟨w.heap.size,3,none⟩=some (.string fr):=(World.cell?_of_block (w:=wc) (fN w.heap.size Mcq)).trans d3;have y5:w6.cell? ⟨T,5,none⟩=some (.slice D g.died.length dc):=(World.cell?_of_block (w:=wc) (fN T Mcq)).trans q5;have jF:=tE;unfold zb1 at jF;obtain⟨-,-,-,-,-,u5⟩:=cF6 jF;have fu5:w6.frozen? ⟨wr.heap.size,5,none⟩=false:=by simp only[World.frozen?,jF];rfl
 have hx6:=zab tE;refine NxM hK (fun hHeld=>?_) (⟨y3,y5⟩);clear hK K;refine TkH 9 ?_;refine OnH 10 fun K hK=>?_
 go_simp
 refine NxM hK (fun hHeld=>?_) (⟨(World.cell?_setCell_far _ _ _ _ (by show wr.heap.size≠w.heap.size;omega)).trans y3,(World.cell?_setCell_far _ _ _ _ (by show wr.heap.size≠T;omega)).trans y5⟩);clear hK K;refine wpAnyH_done Mcs ?_ _;go_wp2_with fail
 go_meet
 have aV:Below wc.heap.size wc w6:=Below.grown (a:=wc) (B:=wc.heap.size) (B_drop oK) h2 (by have:=oK.size;simp at this⊢;omega) (fun j hj=>by have:=(xu j hj).1;simp at this;omega);have jq:za6 (.slice A1 g.holders.length c1)≠some wr.heap.size:=zkA kl.out ft.out Mcu
 exact⟨A6,c6,tomb_set5 tE _,OwnS.base_le (h1.grown (za2 _ _ _ _) (.inr fun e=>by have:=(h1.ge _ e).1;simp at this;omega)) Mcw,(kl.out.keep aV).grown (za2 _ _ _ _) (.inr jq),zaN (au.out.trans (aV.mono Mcq)) Mcv _⟩):P:=h
theorem Mu(h:P:=by
 (refine zam Mcs Mcs ?_
  repeat(first|go_big_quiet_skip|(go_big_quiet_want;go_big_quiet_op;first|go_big_quiet_on|(apply Exists.intro;refine⟨fun _=>?_,?_⟩;(go_at_call 72;exact quietx (zhS _));go_big_quiet_on)))
  refine wpQuiet_nil ?_
  rintro _ ⟨zq,rfl⟩)
 go_wp2_with fail
 go_ret
 exact Ret.of (zaR (by rw[HE.out];simp[fm5, *])) (zaZ aJ.out zq)):P:=h
theorem Mv(h:P:=by
 (go_wp2_with fail
  go_ret
  exact Ret.of (zcd Mcz) Bw)):P:=h
theorem Mw(h:P:=by
 refine bodyPost_ret (zb8 rfl _ rfl rfl (zc9 xr5)) rfl ?_
 exact⟨_,_,_,_,_,_,_,rfl,rfl,zcH (aj.out.trans (bn.out.mono aw)) (show w.heap.size<=w.heap.size+2 by omega),fun h0=>(zcI xr5 rfl).st (aA.out h0)⟩):P:=h
theorem Mx(h:P:=by
 refine bodyPost_ret (v:=zm4 (zbN day) (zbg day) (day-zaI (zbN day) (zbg day)+1)) ?_ rfl ?_
 ·rw[HN.out,kV.out];have g2:=J_set3 (a:=.int .i64 y) (b:=.int .i64 m) (c:=.int .i64 (day-zaI y m+1)) (J_ne (b:=w.heap.size+1) (o:=2) (v:=.int .i64 (day-zaI y m+1)) Mcq g0);refine zlh rfl _ _ w.heap.size _ _ _ rfl ?_ ?_ ?_;all_goals simp[World.cell?,g2]
 ·exact⟨HD.out,Ret.of rfl (by repeat(first|exact B_refl|exact Below.refl _ _|assumption|with_reducible refine zad ?_ _|with_reducible refine zaZ ?_ _|with_reducible refine zaF ?_|with_reducible refine zeh ?_ _|with_reducible refine zaN ?_ Mdq _))⟩):P:=h
theorem My(h:P:=by
 have rQ:=Lib.hid wZ;have fE:=Lib.hid (F4.out.trans (((zaF mx).trans (Dv.mono mx.size)).mono (by have:=F4.out.size;omega)));have ca:=Lib.hid (fun W (h:Below w5.heap.size w5 W)=>zdN ys YA yc W (by have:=kp.out;omega) (rQ.out.keep h));clear wZ Dv;go_upto_region 11 with fail
 cases hlg:zaG ys
 ·rw[hlg]at ca;go_wp2_with (go_at_call 124;go_must(refine(ca.out _ (Below.refl _ _)).mono ?_);rintro e wq ⟨rfl,rfl⟩)
  rcases Ch.out with h|⟨h1,h2⟩
  ·obtain⟨g1,g2,g3⟩:=vF.out ys h;go_round
   case rel=>exact⟨k+1,ys,YA,yc,ak.out,rfl,by go_num,g1,g2,g3,fun _=>Bn.out,rQ.out,fE.out⟩
   case measure=>have:=ak.out;simp only[intOf];omega
  ·rw[hlg]at h2;cases h2
 ·rw[hlg]at ca;go_wp2_with (go_at_call 124;go_must(refine(ca.out _ (Below.refl _ _)).mono ?_);rintro e wq ⟨rfl,rfl⟩)
  go_ret
  have lq:R=none:=by
   rcases Ch.out with h|⟨h1,h2⟩
   ·have:=(vF.out ys h).2.1.out.small;rw[hlg]at this;cases this
   ·exact Jj.out h1
  exact⟨YA,yc,ys,rfl,rQ.out,aj.out.trans ((aE.out.trans (fE.out.mono im)).mono m8),kp.out,.inr ⟨lq,hlg⟩⟩):P:=h
theorem Mz(h:P:=by
 go_wp2_with (first
               |(go_at_call 45;refine(zbq _ _ _ _).mono ?_;intro e wq hq;rcases Ret0.bools hq with⟨rfl,⟨hb,rfl⟩|⟨hb,rfl⟩⟩<;>clear hq)
               |(go_at_call 30;refine(zbQ _ _).mono ?_;intro e wq hq;rcases Ret0.bools hq with⟨rfl,⟨hb,rfl⟩|⟨hb,rfl⟩⟩<;>clear hq)
               |(go_at_call 46;refine(zdB _ _ Mc3).mono ?_;intro e wq hq;rcases Ret0.bools hq with⟨rfl,⟨hb,rfl⟩|⟨hb,rfl⟩⟩<;>clear hq)
               |(go_at_call 47;refine(zcf _ _ eg (fun q:RPart=>!zaE q.name) _ _ _ ps _ rfl HL.out (HS.out.keep (n:=w.heap.size) Bw) (zfI ps _ HN.out)).mono ?_;intro e wq hq;rcases Ret.bools hq with⟨zq,rfl,⟨hb,rfl⟩|⟨hb,rfl⟩⟩<;>clear hq)
               |(go_at_call 49;refine(zbT ⟨word,fp,ff,fc,fy,fa,fpt,fs⟩ _ _ _ _ _ _ ps _ _ _ _ rfl Mcq HC.out (HS.out.keep (n:=w.heap.size) Bw)).mono ?_;intro e wq hq;rcases Ret.bools hq with⟨zq,rfl,⟨hb,rfl⟩|⟨hb,rfl⟩⟩<;>clear hq))
 all_goals go_meet
 all_goals(refine⟨zaR Mdo,Bw,by first|omega|(simp[zae];done)|(simp[zae];omega),?_⟩;repeat(first|assumption|with_reducible refine zal ?_|with_reducible refine zby ?_|with_reducible refine J_ne Mcq ?_))):P:=h
theorem MC(h:P:=by
 go_wp2_with (first
               |(go_at_call 45;refine(zbq _ _ _ _).mono ?_;intro e wq hq;rcases Ret0.bools hq with⟨rfl,⟨hb,rfl⟩|⟨hb,rfl⟩⟩<;>clear hq)
               |(go_at_call 30;refine(zbQ _ _).mono ?_;intro e wq hq;rcases Ret0.bools hq with⟨rfl,⟨hb,rfl⟩|⟨hb,rfl⟩⟩<;>clear hq)
               |(go_at_call 46;refine(zdQ _ _ Mc3).mono ?_;intro e wq hq;rcases Ret0.bools hq with⟨rfl,⟨hb,rfl⟩|⟨hb,rfl⟩⟩<;>clear hq)
               |(go_at_call 47;refine(zcf _ _ eg (fun q:RPart=>!zaE q.name) _ _ _ ps _ rfl HL.out (HS.out.keep (n:=w.heap.size) Bw) (zgt ps _ HN.out)).mono ?_;intro e wq hq;rcases Ret.bools hq with⟨zq,rfl,⟨hb,rfl⟩|⟨hb,rfl⟩⟩<;>clear hq)
               |(go_at_call 49;refine(zbT ⟨word,fp,ff,fc,fy,fa,fpt,fs⟩ _ _ _ _ _ _ ps _ _ _ _ rfl Mcq HC.out (HS.out.keep (n:=w.heap.size) Bw)).mono ?_;intro e wq hq;rcases Ret.bools hq with⟨zq,rfl,⟨hb,rfl⟩|⟨hb,rfl⟩⟩<;>clear hq))
 all_goals go_meet
 all_goals(refine⟨zaR Mdo,Bw,by first|omega|(simp[zae];done)|(simp[zae];omega),?_⟩;repeat(first|assumption|with_reducible refine zal ?_|with_reducible refine zby ?_|with_reducible refine J_ne Mcq ?_))):P:=h
theorem MD(h:P:=by
 have vB:=Lib.hid j8;have jM:=Lib.hid bO;clear j8 bO;refine hK.out _ _ ?_ (fun hHeld=>?_);focus((try dsimp only);refine⟨?_,?_,?_,?_,?_,?_⟩<;>assumption)
 clear hK K;try simp only[Act.put,List.setIfInBounds_toArray,List.set_cons_zero,List.set_cons_succ]
 refine wpAnyH_done Mcs ?_ _;go_wp2_with fail
 go_end0
 refine⟨rfl,⟨_,vB.out,(zg5 _ _ _ kW.out).1,fun k=>?_⟩,?_,?_⟩
 ·show _\/mget eqS k (mput eqS n _ mm)=some (zaD (zag (setP out n (zbi (zag out n+f))) k));rw[zfi,zlj HG.out,eO.out];cases hk:zaf k n
  ·simp only[Bool.false_eq_true,if_false];show _\/_;rcases vp.out k with⟨a1,a2⟩|a
   ·refine .inl ⟨a1,?_⟩;show zag (setP out n (zbi (zag out n+f))) k=0;rw[zlj HG.out,hk];exact a2
   ·exact .inr a
  ·exact .inr rfl
 ·show MarkAt w6 C (fl||bigQ (zag out n+f));rw[eO.out];exact N1.out.grown jM.out uf
 ·exact(Two2.of_below Bw).trans ((Two2.grownC N2.out).trans (Two2.grownM jM.out))):P:=h
theorem ME(h:P:=by
 refine NxM hK (fun hHeld=>?_) (.inr (aB.out _ bK));clear hK K;refine OnM 5 true fun K hK=>?_
 refine zak (v:=.slice A6 xs.length c6) (n:=xs.length) (m:=1) rfl _ _ rfl zft zbA zfs rfl (xs:=xs) (ys:=[⟨d,B,c⟩]) o7 rfl rfl rfl (zgI zbA n7 (by simp[DV.cells])) MdT Mc4 (by have:=bK.size;simp at this⊢;omega) ?_;intro v8 w8 h1 h2 h3;rw[<-zW.out]at h1;obtain⟨A8,c8,rfl,L7,s8⟩:=h1.ro;have um:Below W5.heap.size W5 w8:=Below.grown bK h2 (by have:=bK.size;simp at this⊢;omega) (fun j hj=>by have:=(o7.ge j hj).1;(try simp at this);omega);refine NxM hK fun hHeld=>?_
 clear hK K;refine OnM 6 true fun K hK=>?_
 go_simp
 refine NxM hK fun hHeld=>?_
 clear hK K;refine zaV Mcs ?_ _;clear hHeld;go_wp2_with fail
 go_meet
 exact⟨A8,c8,rfl,rfl,rfl,s8,um,L7⟩):P:=h
theorem MF(h:P:=by
 intro W B hb;have f0:W.cell? ⟨B,0,none⟩=some (.int .i64 0):=by simp[World.cell?,hb]
 have f1:W.cell? ⟨B,1,none⟩=some (.int .i64 0):=by simp[World.cell?,hb]
 have fz:∀j,W.frozen? ⟨B,j,none⟩=false:=fun j=>by simp[World.frozen?,hb]
 go_simp
 with_reducible exact⟨zeO hb,zpk _ _ _ _⟩):P:=h
theorem MG(h:P:=by
 have ic:=ik.out;rw[if_neg df]at ic;have bK:Below W6.heap.size W6 ((W6.ext z2).alloc (.cells #[.int .i64 day,.slice none (([]:Parts)).length 0] 49)):=Bw;refine⟨k+1,txs++[⟨day,([]:Parts),none,0⟩],by have:=ak.out;omega,by go_num,h1,HsAt.row (fun x hx=>?_) (fG.out.keep bK) h2,?_,by have:=rF.out;show _<=_;rw[List.length_append];simp only[List.length_singleton];omega,?_⟩
 ·exact Mca
 ·exact Mcj
 ·exact Mck):P:=h
theorem MH(h:P:=by
 have ic:=ik.out;rw[if_neg df]at ic;have bK:Below W6.heap.size W6 ((W6.ext z2).alloc (.cells #[.int .i64 day,.slice H (g.holders).length aI] 49)):=Bw;refine⟨k+1,txs++[⟨day,g.holders,H,aI⟩],by have:=ak.out;omega,by go_num,h1,HsAt.row (fun x hx=>?_) (fG.out.keep bK) h2,?_,by have:=rF.out;show _<=_;rw[List.length_append];simp only[List.length_singleton];omega,?_⟩
 ·exact Mca
 ·exact Mcj
 ·exact Mck):P:=h
theorem MI(h:P:=by
 go_wp2_with fail
 go_round
 case rel=>have aq:=aJ.out.trans (zaZ (Below.refl W3.heap.size W3) zq |>.mono jn)
           have Nj:=bB.out.keep aq;have e1:(dx++[x])++gxs.drop (k+1)=dx++gxs.drop k:=by rw[Bz.out,List.append_assoc];rfl
           refine⟨k+1,l,f,dx++[x],ak.out,by go_num,rfl,rfl,by rw[List.length_append,iu];rfl,Lib.hid fun _=>by rw[e1];exact Nj,Lib.hid fun y hy=>?_,oh,Lib.hid fun f9=>?_,HB.out.trans (aq.mono aW),Nat.le_trans jJ aq.size⟩
           ·rcases List.mem_append.1 hy with hy|hy
            ·exact(gu.out y hy).keep aq
            ·rw[List.mem_singleton.1 hy];exact .inl bp.out
           ·obtain⟨h1,h2⟩:=kW.out f9;exact⟨by rw[h1,FD.out,List.map_append];rfl,h2⟩
 case measure=>have:=ak.out;simp only[intOf];omega):P:=h
theorem MJ(h:P:=by
 go_round
 case rel=>exact⟨k+1,ak.out,by go_num,by first|exact True.intro|rfl,HE.out⟩
 case measure=>have:=ak.out;simp only[intOf];omega):P:=h
theorem MK(h:P:=by
 refine⟨0,Nat.zero_le _,rfl,0,HX,fits_zero,Rat.le_refl,Rat.le_refl,?_,?_,?_,?_,?_⟩
 ·exact Bw
 ·simp
 ·exact zal (zal (zat _ _ _ rfl))
 ·exact zal (zat _ _ _ Mcv)
 ·exact zat _ _ _ Mcv):P:=h
theorem ML(h:P:=by
 have h0:xs=[]:=by
  cases xs with
  |nil=>rfl
  |cons y ys=>obtain⟨b,off,h,_⟩:=hS Mcv;cases h
 subst h0;go_wp2_with fail
 go_ret
 exact⟨_,rfl,OwnS.nil,Below.refl _ _⟩):P:=h
theorem MM(h:P:=by exact⟨k+1,txs,by have:=ak.out;omega,by go_num,fG.out.keep (zaq W6 z2),fun x hx=>⟨((rj.out x hx).1.keep (zaq W6 z2)),(rj.out x hx).2⟩,ic,by have:=rF.out;show _<=_;omega,au.out.trans ((zaq W6 z2).mono tw)⟩):P:=h
theorem MN(h:P:=by
 (go_wp2_with fail
  go_ret
  exact Ret.of (zcd McU) Bw)):P:=h
theorem MO(h:P:=by
 have g4:wq.heap[P]?=some (zbw part):=(g3.others P Mcw Mcq Mcq).trans (zal Js.out);have g5:Two2 w wq C m:=EZ.out.trans (Two2.trans McG g3);have G1:=Lib.hid g1;have G2:=Lib.hid g2;have G4:=Lib.hid g4;have G5:=Lib.hid g5;clear g1 g2 g3 g4 g5;go_wp2_with fail
 go_round
 case rel=>exact⟨k+1,_,_,by omega,by go_num,dI.out.symm,G1.out,G2.out,G5.out,G4.out⟩
 case measure=>simp[intOf];omega):P:=h
theorem MP(h:P:=by
 have HE:Hid (R=ixI (zl7 place day) gs (k+1)):=by show _=_;rw[ax.out,if_neg (by unfold zl7 zaO;simp[cU, *])]
 go_wp2_with fail
 go_round
 case rel=>exact⟨k+1,ak.out,by go_num,HE.out,dH.out⟩
 case measure=>have:=ak.out;simp only[intOf];omega):P:=h
theorem MQ(h:P:=by
 (try simp only)
 (repeat' split)<;>intro h<;>first|rfl|exact absurd rfl h):P:=h
theorem MR(h:P:=by
 go_upto_region 6 with fail
 (refine zam Mcs Mcs ?_
  repeat(first|go_big_quiet_skip|(go_big_quiet_want;go_big_quiet_op;first|go_big_quiet_on|(apply Exists.intro;refine⟨fun _=>?_,?_⟩;(fail);go_big_quiet_on)))
  refine wpQuiet_nil ?_
  rintro _ ⟨zq,rfl⟩)
 go_wp2_with fail
 go_round
 case rel=>exact⟨k+1,ak.out,by go_num,HE,zaZ HB.out zq⟩
 case measure=>have:=ak.out;simp only[intOf];omega):P:=h
theorem MS(h:P:=by
 (refine zam Mcs Mcs ?_
  repeat(first|go_big_quiet_skip|(go_big_quiet_want;go_big_quiet_op;first|go_big_quiet_on|(apply Exists.intro;refine⟨fun _=>?_,?_⟩;(first|(go_at_call 11;exact quietx (Fc.out _ Bw))|(go_at_call 12;exact quietx (fT.out _ Bw)));go_big_quiet_on)))
  refine wpQuiet_nil ?_
  rintro _ ⟨zq,rfl⟩)
 go_wp2_with fail
 go_meet
 exact⟨rfl,Bw⟩):P:=h
theorem MT(h:P:=by
 gi_wp2
 have g2:=Boxed.set (.string ⟨#[]⟩) T2.out;have HD:=Lib.hid hd;have bH:∀i,SpIx s x w .ret (pre++[(i,y1,y2)]) (wr.setCell ⟨w.heap.size+1+1,0,none⟩ (.string ⟨#[]⟩)):=fun i=>⟨⟨rfl,pre.map Prod.snd,(y1,y2),by simp,HP.out,HM.out,by rw[HO.out,HD.out];exact g2⟩,zaN (aS.trans (aU.out.mono Mcq)) Mcw _⟩
 first
  |exact⟨(KeepsOthers.setCell _ _ _).from _,bH _⟩
  |(trace_state;fail "ret")):P:=h
theorem MU(h:P:=by
 go_wp2_with fail
 go_meet
 exact⟨zaR (by simp[fm2, *]),by first|exact True.intro|rfl⟩):P:=h
theorem MV(h:P:=by
 go_wp2_with fail
 go_ret
 exact Ret.of (zaR HE.out.symm) HB.out):P:=h
theorem MW(h:P:=by
 go_roundg f'
 case measure=>omega
 case rel=>
  refine⟨f',y+1,Nat.le_refl _,by omega,by omega,by omega,HN,HC.out,by repeat(first|exact B_refl|exact Below.refl _ _|assumption|with_reducible refine zad ?_ _|with_reducible refine zaZ ?_ _|with_reducible refine zaF ?_|with_reducible refine zeh ?_ _|with_reducible refine zaN ?_ Mdq _),J_ne Mcq g0,?_⟩;have:=Joins.block_setCell (i:=0) g1 (.int .i64 (y+1))
  simpa using this):P:=h
theorem MX(h:P:=by
 clear bJ;go_wp2_with (go_at_call 40;go_must(refine(zH.out _).mono ?_);rintro e wq ⟨rfl,z,rfl⟩)
 rw[HE.out];refine bodyPost_ret (v:=.tuple #[zaD o,.bool false]) ?_ rfl ?_
 ·exact zgM rfl _ _ w.heap.size _ _ _ rfl rfl (by first|exact zby (zeO g0)|exact zeO (zby g0))
 ·exact Ret.of rfl (by first|exact zaZ (zaN (zaN HB.out Mcv _) Mcv _) z|exact zaN (zaN (zaZ HB.out z) Mcv _) Mcv _)):P:=h
theorem MY(h:P:=by
 go_wp2_with fail
 go_round
 case rel=>exact⟨k+1,es,by omega,by go_num,nE.out,by rw[ai,lJ.out,Option.toList_none,List.append_nil];exact J0.out,aJ.out,by have:=gw.out;omega⟩
 case measure=>simp[intOf];omega):P:=h
theorem MZ(h:P:=by
 refine zmV rfl _ _ w.heap.size _ _ _ _ _ _ rfl ?_ ?_ ?_ ?_ ?_ ?_<;>simp[go_sem]):P:=h
theorem M0(h:P:=by
 (repeat(first|exact zat _ _ _ (by simp[zae];done)|with_reducible refine zby ?_|with_reducible refine zal ?_))):P:=h
theorem M3(h:P:=by
 rcases h with⟨rfl,_⟩|⟨g,o,c,cur,rfl,_,hg,_⟩
 ·simp[za6]
 ·intro h;simp only[za6,Option.some.injEq]at h;subst h;rw[hg]at hT;simp only[Option.some.injEq,Obj.cells.injEq]at hT
  exact ag hT.2.1.symm):P:=h
theorem M4(h:P:=by
 simp only[List.drop_succ_cons,List.drop_zero];rw[e6,e7];have kR:=Lib.hid (show Below U.heap.size U (U.drew.ext z) from zaZ (zaF (Below.refl _ _)) z);have jj:=Lib.hid ht;clear h e6 e7 ht;generalize U.drew.ext z=U9 at*;go_wp2_with fail
 go_meet
 exact⟨A9,c9,rfl,rfl,jj.out,kR.out⟩):P:=h
theorem M5(h:P:=by
 rw[zhT (f:=⟨_,_,_,_,_,_,_,_⟩) (.inl rfl)]
 cases noB fr<;>cases noB pl<;>cases hy:(yr==0)<;>cases hc:(cl==0)<;>simp_all):P:=h
theorem M6(h:P:=by
 go_wp2_with fail
 go_ret
 exact⟨by rw[HE.out];rfl,rfl⟩):P:=h
theorem M7(h:P:=by
 clear h;unfold zdD;go_simp
 exact⟨rfl,stays _⟩):P:=h
theorem M8(h:P:=by
 clear h;unfold zdD;go_simp
 exact⟨h4,stays _⟩):P:=h
theorem M9(h:P:=by
 unfold zaA at hd;simp only[Bool.and_eq_true,decide_eq_true_eq]at hd;refine⟨law.den.toNat,by omega,by omega,law.num,?_⟩;have hz:(law.den:Rat)≠0:=ratI Mcq;have e:((law.den.toNat:Nat):Rat)=(law.den:Rat):=by rw[<-Rat.intCast_natCast,Int.toNat_of_nonneg Mcq]
 rw[Rat.divInt_eq_div,e]
 grind):P:=h
theorem Maa(h:P:=by
 go_wp2_with (go_at_call 5;go_must(refine(rb.out _ Men).mono ?_);rintro e wq ⟨rfl,z,rfl⟩)
 go_ret
 exact Ret.of rfl (zaZ aE.out z)):P:=h
theorem Mab(h:P:=by
 go_wp2_with (go_at_call 31;refine(cu.out _ Bw).mono ?_;rintro e wq ⟨rfl,z,rfl⟩;simp only[zkp,Option.map_none])
 go_ret
 exact zbK HW.out Bw HG.out):P:=h
theorem Mac(h:P:=by
 clear h;unfold zdD;go_simp
 exact⟨⟨A9,c9,rfl,ht⟩,stays _⟩):P:=h
theorem Mad(h:P:=by
 go_wp2_with (go_at_call 160;go_must(refine(J2.out _ (zaZ aj.out z)).mono ?_);rintro e wq ⟨v,rfl,o,b⟩;obtain⟨VA,vc,rfl,_,_⟩:=o.sl zaH;have IC:=Lib.hid ((zaZ aj.out z).trans (b.mono McA));clear o b)
 go_ret
 exact Ret.of (zaR (by simp[hz])) IC.out):P:=h
theorem Mae(h:P:=by
 refine slw_of ((zjb dZ cm Mcu).sl zbA) (by rw[List.map_append,zD.out];rfl) fun y hy=>?_
 rcases List.mem_append.1 hy with hy|hy
 ·exact⟨(og.out y hy).1,(og.out y hy).2.keep cy⟩
 ·rw[List.mem_singleton.1 hy]
  exact⟨lH.out,HS.out _ cy⟩):P:=h
theorem Maf(h:P:=by
 go_round
 case rel=>exact⟨k+1,ak.out,by go_num,by rw[aA.out];exact H1.out,aJ.out⟩
 case measure=>have:=ak.out;simp only[intOf];omega):P:=h
theorem Mag(h:P:=by
 first
  |exact⟨(KeepsOthers.setCell _ _ _).from _,bH _⟩
  |(trace_state;fail "ret")):P:=h
theorem Mah(h:P:=by
 intro f z h;have h5:f 5=.int .i64 d.day:=h ⟨5,.data⟩ Mcv rfl;clear h;unfold zdD;go_simp
 first|exact⟨rfl,stays _⟩|exact⟨congrArg (Value.int .i64) zd,stays _⟩):P:=h
theorem Mai(h:P:=by
 replace hk:inR kd 0 8=false:=by simpa using hk
 go_wp2_with (go_at_call 45;refine(zbq _ _ _ _).mono ?_;rintro e wq ⟨rfl,rfl⟩;rw[hk])
 all_goals go_ret
 all_goals exact Ret.of (zcd McU) Bw):P:=h
theorem Maj(h:P:=by
 clear hR;go_wp2_with fail
 go_ret
 exact Ret.of (zaR HE.out.symm) Bw):P:=h
theorem Mak(h:P:=by
 go_wp2_with fail
 all_goals go_meet
 all_goals(exact⟨by rw[HQ.out],Bw,by simp[HQ.out],by repeat(first|assumption|with_reducible refine zal ?_|with_reducible refine zby ?_|with_reducible refine J_ne Mcq ?_),zat _ _ _ HQ.out.symm⟩)):P:=h
theorem Mal(h:P:=by
 go_wp2_with fail
 go_ret
 exact zbK HW.out Bw jk.out):P:=h
theorem Mam(h:P:=by
 rw[zhT (f:=⟨_,_,_,_,_,_,_,_⟩) (.inl rfl)]
 cases noB fr<;>cases noB pl<;>cases hy:(yr==0)<;>cases hc:(cl==0)<;>cases ps<;>simp_all):P:=h
theorem Man(h:P:=by
 go_wp2_with (at_builtin;refine zas (n:=xs.length) (m:=1) rfl _ _ rfl zdW zai zcb rfl HO.out rfl rfl rfl HS.out McK Mcq aG ?_;intro v' w' h1 h2 h3)
 all_goals go_ret
 all_goals exact⟨_,rfl,h1,h2,h3⟩):P:=h
theorem Mao(h:P:=by
 simp only[zdn,and_true];intro o ho f z h;obtain rfl:=Option.some.inj ho;obtain⟨A9,c9,h5,ht⟩:=h ⟨8,.data⟩ Mcv rfl
 exact⟨.int .i64 0,rfl,fun W=>by go_simp⟩):P:=h
theorem Map(h:P:=by
 go_wp2_with fail
 go_meet
 exact⟨A9,c9,rfl,rfl,jj.out,kR.out⟩):P:=h
theorem Maq(h:P:=by
 refine dX k ok hk ar ?_ mU;by_cases jX:j=k
 ·subst jX;exact kD
 ·rw[getD_set_ne true jX]at dF;exact dF):P:=h
theorem Mar(h:P:=by
 go_quiet (fail)
 go_wp2_with fail
 go_meet
 exact⟨zaR (by simp[*]),zeh (Below.refl _ _) _⟩):P:=h
theorem Mas(h:P:=by
 by_cases hx:(zbt laws s k last x).2=0
 ·exact hx
 ·rw[zau,if_pos (by simpa using hx)]at h
  exact absurd h hx):P:=h
theorem Mat(h:P:=by
 rw[List.getElem?_set_ne hj]at e2;have ag:T'≠T:=fun e=>by
  subst e;exact hj ((List.getElem?_inj (List.getElem?_eq_some_iff.1 hi).1 hT.nd).1 (hi.trans e1.symm))
 exact(hT.all j T' g e1 e2).kept hg hx ag Mcu Mcu):P:=h
theorem Mau(h:P:=by
 go_wp2_with (go_at_call 33;go_must(refine(zbY _ _ _ _).mono ?_);rintro e wq ⟨rfl,rfl⟩)
 go_ret
 exact⟨rfl,rfl⟩):P:=h
theorem Mav(h:P:=by
 have HE:=Lib.hid he;clear he;go_wp2_with fail
 go_round
 case rel=>exact⟨by first|exact True.intro|rfl,.inr (.inl ⟨by go_num,by rw[HE.out]⟩)⟩
 case measure=>simp only[intOf];decide):P:=h
theorem Maw(h:P:=by
 have:=zea (t:=28) zbA (WX.drew.alloc (.cells #[.int .i64 d.kind,.int .i64 d.day,.string d.place,.string d.frm,.slice B d.to.length c,.int .i64 d.cls,.int .i64 d.years] 28)) WX.heap.size Mcv
 simpa using this):P:=h
theorem Max(h:P:=by
 have HE:Hid (R=(k:Int)):=by show _=_;rw[ax.out,if_pos (by unfold zl7 zaO;simp[cU, *])]
 go_wp2_with fail
 go_ret
 exact Ret.of (zcd HE.out.symm) (aj.out.trans (dH.out.mono aj.out.size))):P:=h
theorem May(h:P:=by
 rintro e wq ⟨rfl,z,rfl⟩
 exact⟨rfl,hW.trans ((zaq W z).mono hW.size)⟩):P:=h
theorem Maz(h:P:=by
 rw[hd]at og;clear hx hd;go_wp2_with (go_at_call 80;go_must(refine(og.out _ Mdf).mono ?_);rintro e wq ⟨rfl,z,rfl⟩)
 go_ret
 exact Ret.of (by rw[HE.out];rfl) (zaZ aj.out z)):P:=h
theorem MaA(h:P:=by
 go_wp2_with fail
 go_quiet (fail)
 go_wp2_with fail
 go_ret
 exact Ret.of (zaR (by rw[HU.out];simp)) Bw):P:=h
theorem MaB(h:P:=by
 rw[List.drop_eq_nil_of_le Mcq,zeX]at hf;have HF:=Lib.hid hf;clear hf hS;have jz:¬(k:Int)<(ls.length:Int):=Mcq;go_wp2_with fail
 go_ret
 exact Ret.of (zcd (by rw[HF.out])) Bw):P:=h
theorem MaC(h:P:=by
 go_wp2_with (go_at_call 46;refine(zdQ _ _ hs).mono ?_;intro e wq hq;rcases Ret0.bools hq with⟨rfl,⟨hb,rfl⟩|⟨hb,rfl⟩⟩<;>clear hq)
 all_goals go_ret
 all_goals exact Ret.of (zaR (by simp[*])) Bw):P:=h
theorem MaD(h:P:=by
 clear hE qM;go_wp2_with fail
 go_roundw
 case rel=>exact⟨k+1,by have:=ak.out;omega,by go_num,nJ.out⟩
 case measure=>have:=ak.out;simp only[intOf];omega):P:=h
theorem MaE(h:P:=by
 clear hs gW;go_wp2_with fail
 go_round
 case rel=>exact⟨q+1,by omega,by go_num,by rw[iJ.out];exact zN.out,BH.out,iL⟩
 case measure=>simp[intOf];omega):P:=h
theorem MaF(h:P:=by
 go_wp2_with fail
 refine bodyPost_ret (v:=zaD (zag (P++(qn,qr)::Q) nm)) ?_ rfl ?_
 ·rw[pQ.out];exact Mce
 ·exact Ret.of rfl Bw):P:=h
theorem MaG(h:P:=by
 have LD:o+j<cur.size:=Mcq;have e1:o+j-o=j:=Mcq;unfold putCells;rw[Array.getElem?_mapIdx,Array.getElem?_eq_getElem LD,Option.map_some,if_pos ⟨by omega,by omega⟩,e1,hx]
 exact hu):P:=h
theorem MaH(h:P:=by
 apply List.ext_getElem?;intro i;simp only[List.getElem?_map,Array.getElem?_toList,Array.getElem?_modify];by_cases eH:j=i
 ·subst eH;simp[eI,Array.getElem?_eq_getElem eI]
 ·simp[eH]):P:=h
theorem MaI(h:P:=by
 go_enter Tryz.func66,Tryz.ntmps66
 go_wp2_with (go_at_call 113;refine(zos _ _ h0 h1).mono ?_;rintro e wq ⟨rfl,rfl⟩;rw[hl])
 all_goals go_ret
 all_goals exact⟨by rw[HD.out,hl];rfl,rfl⟩):P:=h
theorem MaJ(h:P:=by
 show((Sort.mapBlock _ _ _).heap++os)[g]?=_;rw[Array.getElem?_append_left MdX];simp only[Sort.mapBlock,Sort.ahead];rw[Array.getElem?_modify,if_pos rfl,hg]
 rfl):P:=h
theorem MaK(h:P:=by
 show((Sort.mapBlock _ _ _).heap++os)[k]?=_;rw[Array.getElem?_append_left MdX];simp only[Sort.mapBlock,Sort.ahead]
 rw[Array.getElem?_modify,if_neg Ho]):P:=h
theorem MaL(h:P:=by
 go_wp2_with (go_at_call 41;go_must(refine(r9.out _ Mdf).mono ?_);rintro e wq ⟨rfl,z,rfl⟩)
 go_ret
 exact Ret.of (zcd HE.out.symm) (zaZ aj.out z)):P:=h
theorem MaM(h:P:=by
 have e:xs.flatMap zaa=(xs.take i).flatMap zaa++(xs.drop i).flatMap zaa:=Mdc;rw[e,List.getElem?_append_left Mcq]
 exact hj):P:=h
theorem MaN(h:P:=by
 clear ai hs;go_wp2_with fail
 go_round
 case rel=>exact⟨k+1,ak.out,by go_num,by rw[aA.out];exact HO.out,HB.out⟩
 case measure=>have:=ak.out;simp only[intOf];omega):P:=h
theorem MaO(h:P:=by
 go_enter Tryz.func175,Tryz.ntmps175
 go_wp2_with (go_at_call 189;refine(zpb _ _ h0 h1).mono ?_;rintro e wq ⟨rfl,rfl⟩;rw[hl])
 all_goals go_ret
 all_goals exact⟨rfl,rfl⟩):P:=h
theorem MaP(h:P:=by
 rename_i hc
 have h:(zbt laws s k last d).2=0:=h;rw[h]at hc
 exact absurd hc Mcu):P:=h
theorem MaQ(h:P:=by
 go_wp2_with fail
 go_round
 case rel=>exact⟨by first|exact True.intro|rfl,.inr (.inr ⟨by go_num,by rw[HE.out]⟩)⟩
 case measure=>simp only[intOf];decide):P:=h
theorem MaR(h:P:=by
 go_wp2_with (go_at_call 159;go_must(refine(fD.out _ Mdf).mono ?_);rintro e wq ⟨rfl,z,rfl⟩)
 go_ret
 exact Ret.of (zaR Mcv) (zaZ aj.out z)):P:=h
theorem MaS(h:P:=by
 have ar:¬(k:Int)<(l.length:Int):=Mcq;rw[List.take_of_length_le Mcq]at HO;clear ac hB;go_wp2_with fail
 go_ret
 exact⟨_,rfl,HO.out,HB.out⟩):P:=h
theorem MaT(h:P:=by
 (repeat(first|with_reducible exact zat _ _ _ Mcv|with_reducible exact zat _ _ _ Mdi|with_reducible refine zby ?_|with_reducible refine zal ?_))):P:=h
theorem MaU(h:P:=by
 rw[bl];clear hN tS bl eV dZ
 exact⟨rfl,ai,mz,(KeepD.below aY).trans (KeepD.cells (zca wr T _ _ _ _ _ _) nB.out Mcu)⟩):P:=h
theorem MaV(h:P:=by
 refine Nat.le_trans (List.length_filter_le _ _) ?_;rw[List.length_take]
 omega):P:=h
theorem MaW(h:P:=by
 have:=cu.out W hB;rw[bf]at this
 simpa only[zkp,Option.map_some,ia]using this):P:=h
theorem MaX(h:P:=by
 have tS:=Lib.hid fQ;clear fQ;go_wp2_with fail
 go_ret
 exact zbK HW.out aU.out (tS.out.trans Mcv)):P:=h
theorem MaY(h:P:=by
 obtain⟨h1,g',h2,h3⟩:=znT n day l (k+1) j i h;refine⟨by omega,g',?_,h3⟩;rw[show i-k=(i-(k+1))+1 by omega,List.getElem?_cons_succ]
 exact h2):P:=h
theorem MaZ(h:P:=by
 have hw:Region.wanted o (yielded ops a.tmps)=true:=by simp[Region.wanted,bL]
 rw[if_pos hw];unfold Oper.wp;simp[execOp,ho,hx,hi,hu,hrun,Result.andThen]
 exact h):P:=h
theorem Ma0(h:P:=by
 go_wp2_with (go_at_call 33;refine(zbY _ _ _ _).mono ?_;rintro e wq ⟨rfl,rfl⟩)
 all_goals go_ret
 all_goals exact Ret.of (zaR (by rw[hv])) Bw):P:=h
theorem Ma1(h:P:=by
 have hx:decide ((10:Int)<(ls.length:Int))=true:=Mcw;go_wp2_with fail
 go_ret
 exact Ret.of (zcd (by rw[za9,if_pos Mcw])) Bw):P:=h
theorem Ma2(h:P:=by
 go_ret2
 refine⟨out,true,fun _=>⟨by rw[HR.out,jL.out];rfl,?_⟩,by simp,Ret.of rfl Bw⟩;have h:=jL.out;simp[zbm,inR]at h
 omega):P:=h
theorem Ma3(h:P:=by
 go_upto_region 6 with fail
 go_quiet (fail)
 go_wp2_with fail
 go_meet
 exact⟨by rw[lV.out],zeh fE.out _⟩):P:=h
theorem Ma4(h:P:=by
 go_wp2_with (go_at_call 97;refine(fT.out _ Bw _).mono ?_;rintro e wq ⟨rfl,z,rfl⟩)
 go_ret
 exact zbK HW.out Bw (by rw[jk.out];simp)):P:=h
theorem Ma5(h:P:=by
 rcases ac with⟨rfl,_⟩|⟨g',o,c',cur,rfl,_,iv,_⟩
 ·cases hk
 ·simp only[za6,Option.some.injEq]at hk;subst hk
  exact⟨cur,_,iv⟩):P:=h
theorem Ma6(h:P:=by
 go_wp2_with fail
 go_ret
 exact Ret.of (zaR HE.out.symm) aj.out):P:=h
theorem Ma7(h:P:=by
 first|omega|(simp[zae];done)|(simp[zae];omega)):P:=h
theorem Ma8(h:P:=by
 show _<=((Sort.mapBlock _ _ _).heap++os).size
 simp[Sort.mapBlock,Sort.ahead]):P:=h
theorem Ma9(h:P:=by
 refine .inr ⟨m,by simp[hm],h1,fun x hx hp=>?_⟩;rcases List.mem_cons.1 hx with e|e
 ·rw[e]at hp⊢;omega
 ·exact h2 x e hp):P:=h
theorem Mba(h:P:=by
 simp only[Value.slice.injEq]at e'
 omega):P:=h
theorem Mbb(h:P:=by
 have:=zea (t:=140) zbn (WX.drew.alloc (.cells #[.string d.frm,.string tn] 140)) WX.heap.size Mcv
 simpa using this):P:=h
theorem Mbc(h:P:=by
 have:=aI 0 (.string q.name) (by simp[hq,RPart.cells])
 simpa using this):P:=h
theorem Mbd(h:P:=by
 have:sh.num≠0:=fun e=>hz (Rat.num_eq_zero.1 e)
 simpa using this):P:=h
theorem Mbe(h:P:=by
 have:(zaj s n).length<=s.children.length:=by unfold zaj;rw[List.length_map];exact List.length_filter_le _ _
 omega):P:=h
theorem Mbf(h:P:=by exact⟨_,rfl,⟨A9,c9,rfl,pE⟩,zaU hb⟩):P:=h
theorem Mbg(h:P:=by
 refine fun j hj hQ=>⟨hQ.1,fun e=>?_⟩
 rcases h3 j e with h|h
 ·exact hQ.2 h
 ·omega):P:=h
theorem Mbh(h:P:=by
 rw[e1,e3];intro e;simp only[Value.pointer.injEq,Option.some.injEq,Addr.mk.injEq,and_true]at e
 omega):P:=h
theorem Mbi(h:P:=by
 rename_i h
 have:q=0:=by simpa using h
 subst this;split
 ·rename_i hs;rw[za3.1 hs];grind
 ·rfl):P:=h
theorem Mbj(h:P:=by
 refine ba.mono ?_;rintro e wq ⟨rfl,rfl⟩
 exact⟨rfl,rfl⟩):P:=h
theorem Mbk(h:P:=by
 obtain rfl:k=m:=by omega
 have cA:¬(k:Int)<(k:Int):=Mcq;go_wp2_with fail
 go_ret
 exact⟨rfl,rfl⟩):P:=h
theorem Mbl(h:P:=by
 clear hx;rw[zdL h,hp]
 go_simp):P:=h
theorem Mbm(h:P:=by
 split
 ·exact h0
 ·simp only
  repeat(first|split|exact h0)):P:=h
theorem Mbn(h:P:=by
 have h1:=aH e he hb;have h0:=(mem_ready.1 hr).1;rw[Ax]at h1;rw[getD_both h0]at h1
 cases h1):P:=h
theorem Mbo(h:P:=by
 induction a with
 |nil=>rw[List.nil_append,sumQ,Rat.zero_add]
 |cons x a ih=>rw[List.cons_append,sumQ,sumQ,ih];grind):P:=h
theorem Mbp(h:P:=by
 go_wp2_with fail
 go_ret
 exact⟨rfl,HW.out.keep (n:=w.heap.size) Bw,Below.mono (B:=w.heap.size) Bw Mcq⟩):P:=h
theorem Mbq(h:P:=by
 repeat(first|exact zat _ _ _ Mdi|with_reducible refine zby ?_|with_reducible refine zal ?_)):P:=h
theorem Mbr(h:P:=by
 refine .inl fun x hx=>?_
 rcases List.mem_cons.1 hx with e|e
 ·rw[e];exact hd
 ·exact h x e):P:=h
theorem Mbs(h:P:=by
 rw[List.getElem?_set_self fg]at e2;simp only[Option.some.injEq]at e1 e2;subst e1 e2
 exact hN):P:=h
theorem Mbt(h:P:=by
 refine zby ?_;have:=Joins.block_setCell (i:=2) GG.out (.int .i64 af)
 simpa using this):P:=h
theorem Mbu(h:P:=by
 simp only[results,h]
 simp[Sem.run_bind,Result.andThen]):P:=h
theorem Mbv(h:P:=by
 go_wp2_with fail
 go_meet
 rw[df]at yQ
 exact⟨by rw[yQ];rfl,rfl⟩):P:=h
theorem Mbw(h:P:=by
 rw[eW]at h2;obtain⟨e',oX,mz⟩:=List.mem_map.1 h2;rw[<-mz]
 exact hb e' oX):P:=h
theorem Mbx(h:P:=by
 repeat(first|exact zat _ _ _ rfl|with_reducible refine zby ?_|with_reducible refine zal ?_)):P:=h
theorem Mby(h:P:=by simp[List.getD_eq_getElem?_getD,List.getElem?_eq_getElem (show ms.length-1-i<ms.length by omega)]):P:=h
theorem Mbz(h:P:=by
 obtain⟨b',off',he,_,aI⟩:=hS.at (k:=k-1) Mcq;cases he
 exact aI 0 _ rfl):P:=h
theorem MbA(h:P:=by exact⟨fun o h=>by cases h;rfl,fun h=>by cases h⟩):P:=h
theorem MbB(h:P:=by
 go_wp2_with fail
 go_meet
 exact⟨by rw[kL],by first|exact True.intro|rfl⟩):P:=h
theorem MbC(h:P:=by
 rw[List.length_map]
 exact List.length_filter_le _ _):P:=h
theorem MbD(h:P:=by
 rename_i hl
 simp only[Bool.or_eq_true,Bool.and_eq_true,beq_iff_eq,bne_iff_ne]at hl
 omega):P:=h
theorem MbE(h:P:=by
 rw[h']at hk;simp only[Option.some.injEq,Obj.cells.injEq]at hk
 exact ht hk.2.1.symm):P:=h
theorem MbF(h:P:=by
 rintro rfl;have:=HH.out;rw[show y=1800+day/366+10 by omega]at hc
 omega):P:=h
theorem MbG(h:P:=by
 subst bF
 exact hy.wpOp hi hS ⟨by rw[getD_set_ne false kC,du hc hr];exact hS,H⟩):P:=h
theorem MbH(h:P:=by
 go_wp2_with fail
 go_ret
 refine⟨congrArg Ending.returned (zcd ?_),rfl⟩
 rw[HV.out]):P:=h
theorem MbI(h:P:=by
 go_ret2
 exact⟨out,false,by simp,fun _=>by rw[HR.out,jL.out];rfl,Ret.of rfl Bw⟩):P:=h
theorem MbJ(h:P:=by
 have:=Joins.block_setCell (i:=1) g1 (.int .i64 ((m:Int)+1))
 simpa using this):P:=h
theorem MbK(h:P:=by
 go_wp2_with fail
 go_ret
 exact Ret.of rfl Bw):P:=h
theorem MbL(h:P:=by
 have:=(List.getElem?_eq_some_iff.1 hk).1;simp at this
 omega):P:=h
theorem MbM(h:P:=by
 have:=Joins.block_setCell (i:=1) (Joins.block_setCell (i:=0) h a) b
 simpa using this):P:=h
theorem MbN(h:P:=by
 subst bF
 exact hy.wpOp hi trivial ⟨by rw[getD_set_ne false kC];exact hS,H⟩):P:=h
theorem MbO(h:P:=by
 obtain⟨h1,h2⟩:=zoe g l k x h
 exact⟨List.mem_cons_of_mem _ h1,h2⟩):P:=h
theorem MbP(h:P:=by
 rw[if_pos rfl]
 exact⟨fun o h=>by(cases h),fun _=>zf9 Mcv⟩):P:=h
theorem MbQ(h:P:=by rw[List.getD_eq_getElem?_getD,Int.toNat_natCast,List.getElem?_eq_getElem aa];rfl):P:=h
theorem MbR(h:P:=by
 unfold WldC at hC;rw[hC]at hx
 simp at hx):P:=h
theorem MbS(h:P:=by
 clear xs0 xd0 xr0 s0 s1 s2 s3 s4 s5 s6 d0 d1 d2 d3 d4 d5 d6 r0 r1 r2 r3 r4 r5 r6 rf ls ld lr;obtain⟨⟨xs0,xd0,xr0⟩,⟨s0,s1,s2,s3,s4,s5,s6⟩,⟨d0,d1,d2,d3,d4,d5,d6⟩,⟨r0,r1,r2,r3,r4,r5,r6⟩,rf,ls,ld,lr⟩:=ddF (au.out _ (aZ))
 exact Mf):P:=h
theorem MbT(h:P:=by
 have d1:wq.cell? ⟨w.heap.size,1,none⟩=some (.int .i64 dy):=McT;have d2:wq.cell? ⟨w.heap.size,2,none⟩=some (.string pl):=McT;have d3:wq.cell? ⟨w.heap.size,3,none⟩=some (.string fr):=McT;have d4:wq.cell? ⟨w.heap.size,4,none⟩=some (.slice B ts.length c):=McT;have d5:wq.cell? ⟨w.heap.size,5,none⟩=some (.int .i64 cl):=McT;have d6:wq.cell? ⟨w.heap.size,6,none⟩=some (.int .i64 yr):=McT;clear hW hB hK h0 gF fV cB;refine NxM hK (fun hHeld=>?_) (⟨d0,d1,d2,d3,d4,d5,d6⟩);clear hK K;refine OnH 5 fun K hK=>?_
 go_simp
 refine NxM hK (fun hHeld=>?_) (⟨d0,d1,d2,d3,d4,d5,d6⟩);clear hK K;refine wpAnyH_done Mcs ?_ _;clear d0 d2 d3 d4 d5 d6 d1;go_upto_region 18 with fail
 exact Md):P:=h
theorem MbU(h:P:=by
 refine NxM hK fun hHeld=>?_
 clear hK K;refine OnM 14 true fun K hK=>?_
 refine zak (v:=.slice A5 (a+[x].length) c5) (n:=a+[x].length) (m:=xs.length-a) rfl _ _ rfl zbJ zaH zbI rfl (xs:=xs.take a++[x]) (ys:=xs.drop a) g1 Mem rfl (lI.out) (rA.out w5 aq) McP McS (by have:=aq.size;omega) ?_;intro v6 w6 k1 k2 k3;have aV:Below wr.heap.size wr w6:=Below.grown aq k2 aq.size (fun j hj=>(g1.ge j hj).1);refine NxM hK fun hHeld=>?_
 clear hK K;refine OnM 15 true fun K hK=>?_
 go_simp
 refine NxM hK fun hHeld=>?_
 clear hK K;refine zaV Mcs ?_ _;clear hHeld;have K1:=Lib.hid k1;have bR:=Lib.hid aV;clear k1 k2 k3 aV aq g1 g2 g3;go_wp2_with fail
 go_round
 case rel=>exact⟨k+1,ak.out,by go_num,by rw[aA.out];exact K1.out.base_le Mcq,HB.out.trans (bR.out.mono Mcq)⟩
 case measure=>have:=ak.out;simp only[intOf];omega):P:=h
theorem MbV(h:P:=by
 refine NxM hK (fun hHeld=>?_) (.inr (bU.out _ ay));clear hK K;refine OnM 10 true fun K hK=>?_
 refine zak (v:=.slice V4 a c4) (n:=a) (m:=1) rfl _ _ rfl zbJ zaH zbI rfl (xs:=xs.take a) (ys:=[x]) (h1) fI.out rfl rfl (zgg n2) McB McQ Mdy ?_;intro v5 w5 g1 g2 g3;obtain⟨A5,c5,eh,_,_⟩:=g1.sl zaH;rw[List.length_append,fI.out]at eh;subst eh;have aq:Below wr.heap.size wr w5:=Below.grown ay g2 (by have:=(ay).size;omega) (fun j hj=>((h1).ge j hj).1);refine NxM hK fun hHeld=>?_
 clear hK K;refine OnM 14 true fun K hK=>?_
 refine zak (v:=.slice A5 (a+[x].length) c5) (n:=a+[x].length) (m:=0) rfl _ _ rfl zbJ zaH zbI rfl (xs:=xs.take a++[x]) (ys:=xs.drop a) g1 Mem rfl (by rw[<-lI.out];omega) (rA.out _ w5 aq) McP McS (by have:=aq.size;omega) ?_
 exact Mg):P:=h
theorem MbW(h:P:=by
 intro f z h;obtain⟨⟨y0,y1,y2,y3,y4,y5⟩,y6⟩:=ji.out _ (zaZ (zaF (Below.refl _ _)) z)
 exact Mi):P:=h
theorem MbX(h:P:=by
 go_wp2_with (go_at_call 42
              go_must(refine(dK.out _ (zaq W0 zq)).mono ?_)
              rintro e w5 ⟨a0,a1,a2,a3,a4,a5,a6,rfl,be,aq,ai⟩;obtain⟨⟨_,_,_,rfl⟩,⟨_,_,_,rfl⟩,⟨_,_,_,rfl⟩,⟨_,_,_,rfl⟩,⟨_,_,_,rfl⟩,⟨_,_,_,rfl⟩,⟨_,_,_,rfl⟩⟩:=zcS be;have aq:=(zaq W0 zq).trans (aq.mono (zaq W0 zq).size);have bn:=Lib.hid aq;have aA:=Lib.hid ai;obtain⟨_,_,xr5⟩:=au.out w5 aq;obtain⟨t0,t1,t2,t3,t4,t5,t6⟩:=zaK xr5;have tf:=frz xr5
              clear aq ai be)
 exact Mw):P:=h
theorem MbY(h:P:=by
 intro f z h;obtain⟨y0,y1,y2,y3,y4,y5⟩:=vQ.out _ (zaZ (zaF (Below.refl _ _)) z)
 exact Mi):P:=h
theorem MbZ(h:P:=by
 intro f z h;obtain⟨y0,y1,y2,y3,y4,y5⟩:=ji.out _ (zaZ (zaF (Below.refl _ _)) z)
 exact Mi):P:=h
theorem Mb0(h:P:=by
 intro f z h;obtain⟨⟨y0,y1,y2,y3,y4,y5⟩,y6⟩:=vP.out _ (zaZ (zaF (Below.refl _ _)) z)
 exact Mi):P:=h
theorem Mb1(h:P:=by
 refine NxM hK (fun hHeld=>?_) (aB.out _ FR3);clear hK K;refine OnM 27 false fun K hK=>?_
 refine zak (v:=.slice QA pz.length qc) (n:=pz.length) (m:=1) rfl _ _ rfl zbJ zaH zbI rfl (xs:=pz) (ys:=[fr]) (ob3.keep (n:=w3.heap.size) Bw) rfl rfl rfl (zdX (x2)) McK Mcq (by have:=HW.out.lt;(try simp);omega) ?_
 exact Ma):P:=h
theorem Mb2(h:P:=by
 intro f z h;obtain⟨y0,y1,y2,y3,y4,y5⟩:=eO.out _ (zaZ (zaF (Below.refl _ _)) z)
 exact Mi):P:=h
theorem Mb3(h:P:=by
 go_wp2_with fail
 go_round
 case rel=>
  have df:=HR.out.1 rfl;have ic:=ik.out;rw[if_pos (by first|exact df.trans pJ.out.symm|exact jj.out.symm)]at ic;exact MM
 case measure=>have:=ak.out;simp only[intOf];omega):P:=h
theorem Mb4(h:P:=by
 go_wp2_with fail
 go_round
 case rel=>
  have df:=HR.out.1 rfl;have ic:=ik.out;rw[if_pos (by first|exact df.trans jj.out.symm|exact jj.out.symm)]at ic;exact MM
 case measure=>have:=ak.out;simp only[intOf];omega):P:=h
theorem Mb5(h:P:=by
 rcases List.mem_append.1 hy with hy|hy
 ·exact((uX.out y hy).keep eL.out).kept (za2 _ _ _ _) mL
 ·rw[List.mem_singleton.1 hy]
  exact .inr ⟨(vJ.out.keep eL.out).kept (za2 _ _ _ _) mL Mcu,(fG.out.ro').kept (za2 _ _ _ _) mL Mcu⟩):P:=h
theorem Mb6(h:P:=by
 rw[List.drop_eq_nil_of_le Mcq]at hx;have HX:=Lib.hid hx;clear hx dN aw kK;have jz:¬(k:Int)<(ps.length:Int):=Mcq;go_wp2_with fail
 all_goals go_ret
 all_goals exact Ret.of (zaR (by rw[HX.out];first|(simp[zcs,zhb, *];done)|(simp[zcs,zhb, *];omega))) Bw):P:=h
theorem Mb7(h:P:=by
 have w2:¬fr.toList=[]:=by simpa using(show fr.toList.isEmpty=false from z2)
 cases pA:zaE fr
 ·have gV:zcN fr=false:=by rw[<-zcw,pA]
  exact Mq
 ·have gV:zcN fr=true:=by rw[<-zcw,pA]
  exact Mq):P:=h
theorem Mb8(h:P:=by
 refine NxM hK (fun hHeld=>?_) (.inr (aB.out _ ay));clear hK K;have o9:=h1;have n9:=n2;have e9:=ay
 exact Mj):P:=h
theorem Mb9(h:P:=by
 refine NxM hK (fun hHeld=>?_) (.inr (aB.out _ ay));clear hK K;have o9:=h1;have n9:=n2;have e9:=ay
 exact Mm):P:=h
theorem Mca(h:P:=by
 rcases List.mem_append.1 hx with hx|hx
 ·exact⟨(rj.out x hx).1.keep bK,(rj.out x hx).2⟩
 ·rw[List.mem_singleton.1 hx]
  exact⟨iO.out.keep bK,tT.out⟩):P:=h
theorem Mcb(h:P:=by
 refine NxM hK (fun hHeld=>?_) (.inr (aB.out _ ay));clear hK K;have o9:=h1;have n9:=n2;have e9:=ay
 exact Mn):P:=h
theorem Mcc(h:P:=by
 refine NxM hK (fun hHeld=>?_) (.inr (aB.out _ ay));clear hK K;have o9:=h1;have n9:=n2;have e9:=ay
 exact Mo):P:=h
theorem Mcd(h:P:=by
 refine NxM hK (fun hHeld=>?_) (.inr (aB.out _ ay));clear hK K;have o9:=h1;have n9:=n2;have e9:=ay
 exact Mp):P:=h
theorem Mce(h:P:=by
 refine zaT rfl _ _ w.heap.size _ _ rfl ?_ ?_<;>simp[go_sem]):P:=h
theorem Mcf(h:P:=by
 intro f z h;obtain⟨A9,c9,h5,ht⟩:=h ⟨8,.data⟩ Mcv rfl
 exact Mac):P:=h
theorem Mcg(h:P:=by
 intro f z h;obtain⟨A9,c9,h5,ht⟩:=h ⟨8,.data⟩ Mcv rfl
 exact M7):P:=h
theorem Mch(h:P:=by
 have:=zgO (wr.drew.alloc (.cells #[.string x] 9)) wr.heap.size Mcv
 simpa using this):P:=h
theorem Mci(h:P:=by
 intro f z h;have h4:=h ⟨7,.data⟩ Mcv rfl
 exact M8):P:=h
theorem Mcj(h:P:=by
 show _=_;rw[ic,List.map_append,List.append_assoc];unfold befT;rw[List.getLast?_append]
 rfl):P:=h
theorem Mck(h:P:=by exact zd9 (Nat.le_refl _) (fun g hg=>(fG.out.ge g hg).1) h2 (au.out.trans (bK.mono tw))):P:=h
theorem Mcl(h:P:=by
 go_wp2_with (go_at_call 174;refine(ra.out _).mono ?_;rintro e wq ⟨rfl,rfl⟩)
 exact Mx):P:=h
theorem Mcm(h:P:=by
 have w2:fr.toList=[]:=by simpa using(show fr.toList.isEmpty=true from z2)
 exact Mq):P:=h
theorem Mcn(h:P:=by
 refine NxM hK (fun hHeld=>?_) (.inr (bU.out _ ay));clear hK K;refine OnM 10 true fun K hK=>?_
 refine zak (v:=.slice V4 a c4) (n:=a) (m:=1) rfl _ _ rfl zbJ zaH zbI rfl (xs:=xs.take a) (ys:=[x]) (h1) fI.out rfl rfl (zgg n2) McB McQ Mdy ?_;intro v5 w5 g1 g2 g3;obtain⟨A5,c5,eh,_,_⟩:=g1.sl zaH;rw[List.length_append,fI.out]at eh;subst eh;have aq:Below wr.heap.size wr w5:=Below.grown ay g2 (by have:=(ay).size;omega) (fun j hj=>((h1).ge j hj).1)
 exact MbU):P:=h
theorem Mco(h:P:=by
 rw[aK]at hr;rw[ziZ aK]at eC;have HE:Hid (R=(s,6)):=Lib.hid hr;clear hr aK;go_upto_region 3 with(go_at_call 116;go_must(refine(eC.out _ (Below.refl _ _)).mono ?_);rintro e wq ⟨rfl,z,rfl⟩)
 have aZ:=zaq W0 z
 exact MbS):P:=h
theorem Mcp(h:P:=by
 have HE:Hid (R=(s,28)):=Mee;rw[bS]at ie;clear hr bS;go_upto_region 17 with(go_at_call 80;go_must(refine(ie.out).mono ?_);rintro e wq ⟨rfl,z,rfl⟩)
 have aZ:=zaq W0 z
 exact MbS):P:=h
theorem Mcq(h:P:=by omega):P:=h
theorem Mcr(h:P:=by simp[World.cell?,g0]):P:=h
theorem Mcs(h:P:=by kernel_rfl):P:=h
theorem Mct(h:P:=by simp[World.cell?,g1]):P:=h
theorem Mcu(h:P:=by decide):P:=h
theorem Mcv(h:P:=by simp):P:=h
theorem Mcw(h:P:=by simp;omega):P:=h
theorem Mcx(h:P:=by
 have:=(e1).size;first|omega|(simp at this⊢;done)|(simp at this⊢;omega)):P:=h
theorem Mcy(h:P:=by have:=u9.out;simp only[maxLen];omega):P:=h
theorem Mcz(h:P:=by rw[<-HR.out];simp only[zc4,lJ.out, *,Bool.not_true,Bool.not_false,Bool.or_self,Bool.or_true,Bool.true_or,Bool.false_or,Bool.or_false,if_true,if_false,Bool.false_eq_true,ite_true,ite_false,decide_false];done):P:=h
theorem McA(h:P:=by simp[zae];omega):P:=h
theorem McB(h:P:=by have:=iS.out;have:=HA.out;simp only[maxLen];omega):P:=h
theorem McC(h:P:=by
 have:=(e0).size;first|omega|(simp at this⊢;done)|(simp at this⊢;omega)):P:=h
theorem McD(h:P:=by have:=(List.getElem?_eq_some_iff.1 hy).1;simp at this;omega):P:=h
theorem McE(h:P:=by simp[World.frozen?,g0]):P:=h
theorem McF(h:P:=by simp[World.frozen?,g1]):P:=h
theorem McG(h:P:=by
 repeat(first|exact Two2.refl2 _ _ _|assumption|with_reducible refine Two2.alloc ?_ _|with_reducible refine Two2.drew ?_|with_reducible refine Two2.ext ?_ _)):P:=h
theorem McH(h:P:=by
 first|omega|(simp;done)|(simp;omega)):P:=h
theorem McI(h:P:=by
 first|(simp;done)|(simp;omega)):P:=h
theorem McJ(h:P:=by have:=u9.out;omega):P:=h
theorem McK(h:P:=by simp[maxLen];omega):P:=h
theorem McL(h:P:=by rw[IntKind.wrap_i64];rw[Int.tmod_eq_emod_of_nonneg h0];omega):P:=h
theorem McM(h:P:=by have:=(e1).size;omega):P:=h
theorem McN(h:P:=by grind):P:=h
theorem McO(h:P:=by
 have:=e9.size;first|omega|(simp at this⊢;done)|(simp at this⊢;omega)):P:=h
theorem McP(h:P:=by
 first|(have:=iS.out;have:=HA.out;simp only[maxLen,List.length_singleton];omega)|exact Nat.le_of_ble_eq_true rfl):P:=h
theorem McQ(h:P:=by have:=iS.out;have:=HA.out;omega):P:=h
theorem McR(h:P:=by rw[Int.tmod_eq_emod_of_nonneg h0];unfold wrap64;omega):P:=h
theorem McS(h:P:=by
 first|(have:=iS.out;have:=HA.out;simp only[List.length_singleton];omega)|exact Nat.le_of_ble_eq_true rfl):P:=h
theorem McT(h:P:=by simp only[World.cell?,h0];rfl):P:=h
theorem McU(h:P:=by
 rw[<-HR.out];first|(simp[zc4, *];done)|(simp[zc4, *];omega)):P:=h
theorem McV(h:P:=by simp[mono_vIs,mono_wTen,zpz,zpy,zn0]):P:=h
theorem McW(h:P:=by have:=N2.out.size;simp[zae]at this;omega):P:=h
theorem McX(h:P:=by have:=iS.out;simp[maxLen];omega):P:=h
theorem McY(h:P:=by rw[zbd n2 (by simp[zae];omega) (by omega)];simp[go_sem]):P:=h
theorem McZ(h:P:=by simpa using h1):P:=h
theorem Mc0(h:P:=by simp[go_sem]):P:=h
theorem Mc1(h:P:=by rw[am];exact Bw):P:=h
theorem Mc2(h:P:=by
 repeat(first|exact zat _ _ _ (by simp)|refine zal ?_)):P:=h
theorem Mc3(h:P:=by assumption):P:=h
theorem Mc4(h:P:=by have:=iS.out;omega):P:=h
theorem Mc5(h:P:=by rw[zew,List.length_take];congr 1;omega):P:=h
theorem Mc6(h:P:=by intro k hk;simp[Value.ownBlock]at hk;omega):P:=h
theorem Mc7(h:P:=by have:=ah 0 _ rfl;simpa using this):P:=h
theorem Mc8(h:P:=by unfold zb1 at cq;simp only[World.cell?,cq];rfl):P:=h
theorem Mc9(h:P:=by simp only[maxLen];omega):P:=h
theorem Mda(h:P:=by
 first|(simp[Act.eval,Act.put];done)|(simp[Act.eval,Act.put];rfl)):P:=h
theorem Mdb(h:P:=by rw[IntKind.wrap_i64];omega):P:=h
theorem Mdc(h:P:=by rw[<-List.flatMap_append,List.take_append_drop]):P:=h
theorem Mdd(h:P:=by rw[List.getD_eq_getElem?_getD,List.getElem?_eq_getElem aa];rfl):P:=h
theorem Mde(h:P:=by simp[za6]):P:=h
theorem Mdf(h:P:=by have:=aj.out;exact Bw):P:=h
theorem Mdg(h:P:=by rw[am];exact zat _ _ _ rfl):P:=h
theorem Mdh(h:P:=by rw[List.length_append];have:=rP.out;simp at this⊢;omega):P:=h
theorem Mdi(h:P:=by simp[zae]):P:=h
theorem Mdj(h:P:=by intro j hj;simp[za6]at hj;omega):P:=h
theorem Mdk(h:P:=by rw[aP];exact zaq _ _):P:=h
theorem Mdl(h:P:=by simp[hx]):P:=h
theorem Mdm(h:P:=by rw[List.length_take];omega):P:=h
theorem Mdn(h:P:=by simpa using h):P:=h
theorem Mdo(h:P:=by
 first|exact hb.symm|simp[zcC,noB, *]):P:=h
theorem Mdp(h:P:=by simp only[World.cell?,G1.out,zbw];rfl):P:=h
theorem Mdq(h:P:=by dsimp only;omega):P:=h
theorem Mdr(h:P:=by have:=(e0).size;omega):P:=h
theorem Mds(h:P:=by simp[hp]):P:=h
theorem Mdt(h:P:=by simpa using hc):P:=h
theorem Mdu(h:P:=by
 repeat(first|exact TQ.out|refine zby ?_|refine J_drew ?_|refine zal ?_)):P:=h
theorem Mdv(h:P:=by rw[am];exact zal (zal (zat _ _ _ rfl))):P:=h
theorem Mdw(h:P:=by
 simp only[Nat.min_def];split<;>omega):P:=h
theorem Mdx(h:P:=by simp only[World.cell?,yL',zbw];rfl):P:=h
theorem Mdy(h:P:=by
 have:=(ay).size;first|omega|(simp at this⊢;done)|(simp at this⊢;omega)):P:=h
theorem Mdz(h:P:=by simpa using hz):P:=h
theorem MdA(h:P:=by rw[zbd n2 (by simp[zae];omega) (by omega)];simp[go_sem,y1,y3]):P:=h
theorem MdB(h:P:=by rw[za3];exact hm):P:=h
theorem MdC(h:P:=by show Below _ _ _;rw[cF];exact zad aO _):P:=h
theorem MdD(h:P:=by show decide ((0:Int)<=upto)=true;simp;omega):P:=h
theorem MdE(h:P:=by simp[hq]):P:=h
theorem MdF(h:P:=by
 first|rfl|simp[zae]):P:=h
theorem MdG(h:P:=by have:=uI 0 (.string pn) rfl;rw[Nat.zero_mul]at this;exact this):P:=h
theorem MdH(h:P:=by show _=_;rw[ax.out];rfl):P:=h
theorem MdI(h:P:=by simpa using hj):P:=h
theorem MdJ(h:P:=by simpa using h0):P:=h
theorem MdK(h:P:=by go_tidy;simp[zcM]at*;omega):P:=h
theorem MdL(h:P:=by rw[nN];exact zaN (HB.out.trans (kh.out.mono aW)) AC _):P:=h
theorem MdM(h:P:=by rw[am];exact zal (zat _ _ _ rfl)):P:=h
theorem MdN(h:P:=by have:=(List.getElem?_eq_some_iff.1 hi).1;have:=hT.len;omega):P:=h
theorem MdO(h:P:=by show _=_;rw[cD.out,aM];rfl):P:=h
theorem MdP(h:P:=by simpa using e):P:=h
theorem MdQ(h:P:=by have:=S2.out;omega):P:=h
theorem MdR(h:P:=by simp only;omega):P:=h
theorem MdS(h:P:=by simpa using hce):P:=h
theorem MdT(h:P:=by have:=iS.out;simp only[maxLen];omega):P:=h
theorem MdU(h:P:=by rw[<-HM.out,List.length_map];exact hi):P:=h
theorem MdV(h:P:=by simpa[HM.out]using h1):P:=h
theorem MdW(h:P:=by simp at dY;omega):P:=h
theorem MdX(h:P:=by simp[Sort.mapBlock,Sort.ahead];omega):P:=h
theorem MdY(h:P:=by rw[HF.out];simp[zhx, *]):P:=h
theorem MdZ(h:P:=by simp[Act.eval,Act.put];rfl):P:=h
theorem Md0(h:P:=by simpa using congrArg List.length hm):P:=h
theorem Md1(h:P:=by have:=aV.size;omega):P:=h
theorem Md2(h:P:=by simp only[World.cell?,dJ.out];rfl):P:=h
theorem Md3(h:P:=by show _=_;rw[ai];simp[hs]):P:=h
theorem Md4(h:P:=by have:=d8 0 _ rfl;simpa using this):P:=h
theorem Md5(h:P:=by rw[bX];exact hi):P:=h
theorem Md6(h:P:=by have:=hc 0 _ rfl;simpa using this):P:=h
theorem Md7(h:P:=by simp only[World.cell?,G0.out];rfl):P:=h
theorem Md8(h:P:=by have:=nF.out;omega):P:=h
theorem Md9(h:P:=by show _=_;rw[hx];rfl):P:=h
theorem Mea(h:P:=by have:=e9.size;omega):P:=h
theorem Meb(h:P:=by have:=aU.out.size;omega):P:=h
theorem Mec(h:P:=by show _<=_;omega):P:=h
theorem Med(h:P:=by rw[zai];omega):P:=h
theorem Mee(h:P:=by show _=_;rw[hr,bS];rfl):P:=h
theorem Mef(h:P:=by simp[bc]):P:=h
theorem Meg(h:P:=by
 rw[zb9];exact hc):P:=h
theorem Meh(h:P:=by rw[zew,List.length_drop]):P:=h
theorem Mei(h:P:=by simpa using h2):P:=h
theorem Mej(h:P:=by show _=_;rw[hR,List.drop_zero]):P:=h
theorem Mek(h:P:=by simpa using hi):P:=h
theorem Mel(h:P:=by simpa using hp):P:=h
theorem Mem(h:P:=by rw[List.length_append,fI.out]):P:=h
theorem Men(h:P:=by have:=aE.out;exact Bw):P:=h
theorem Meo(h:P:=by simp[World.frozen?,g2]):P:=h
theorem Mep(h:P:=by rw[beq_eq_false_iff_ne];omega):P:=h
theorem Meq(h:P:=by simp only[World.cell?,t1];rfl):P:=h
theorem Mer(h:P:=by rw[kv];exact zat _ _ _ rfl):P:=h
theorem Mes(h:P:=by rw[cF];exact zat _ _ _ rfl):P:=h
theorem Met(h:P:=by simp[World.cell?,g2]):P:=h
theorem Meu(h:P:=by rw[oM];exact zaq _ _):P:=h
theorem Mev(h:P:=by rw[h]at hr;cases hr):P:=h
theorem Mew(h:P:=by have:=hf.dead;omega):P:=h
theorem Mex(h:P:=by simpa using hu):P:=h
theorem Mey(h:P:=by simp[go_sem,e6,hh]):P:=h
theorem Mez(h:P:=by simpa using hl):P:=h
theorem MeA(h:P:=by have:=HN.out;omega):P:=h
theorem MeB(h:P:=by simpa using k):P:=h
