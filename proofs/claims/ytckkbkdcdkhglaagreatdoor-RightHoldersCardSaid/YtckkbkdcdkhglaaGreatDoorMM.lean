/- Proofs that are used more than once. -/
import Derived.WalkLawsBesides
import Derived.WalkSpells
import Derived.BigQuiet
import Derived.Lib.Hide
import Derived.Deep.CutBlock
namespace Go.Proofs.YtckkbkdcdkhglaaGreatDoor
variable {P:Prop}
theorem Ma (h:P:=by
 intro v4 w4 g1 g2 g3;obtain⟨A7,c7,kB,_,_⟩:=g1.sl zaB;rw[List.length_append]at kB;subst kB;have FR4:Fr2 w w4 (.slice KA ks.length kc) (.slice QA pz.length qc):=(FR3.below Bw).row g2 (fun j hj=> .inr (.inl hj));have dF: ∀g,za7 (.slice A6 (ks.length+[q.name].length) c6)=some g->za7 (.slice QA pz.length qc)≠some g:=fun g e1 e2=>by
  rcases h3 g e1 with h|h
  ·exact fH.out g h e2
  ·have:=(dl.out.ge g e2).2;omega
 have oa4:OwnS w4 base 9 1 sC (.slice A6 (ks.length+[q.name].length) c6) (ks++[q.name]):=(h1.keep (n:=w3.heap.size) Bw).grown g2 (by
  cases hb:za7 (.slice A6 (ks.length+[q.name].length) c6)with
  |none=>exact .inl rfl
  |some g=>exact .inr fun e=>dF g hb e.symm)
 have s4:=g2.size;(try simp only[World.size_alloc,World.size_drew]at s4 g3)
 have b1: ∀g,za7 (.slice A6 (ks.length+[q.name].length) c6)=some g->za7 (.slice KA ks.length kc)=some g\/w.heap.size<=g:=fun g e=>by
  rcases h3 g e with h|h
  ·exact .inl h
  ·right;omega
 have b2: ∀g,za7 (.slice A7 (pz.length+[fr].length) c7)=some g->za7 (.slice QA pz.length qc)=some g\/w.heap.size<=g:=fun g e=>by
  rcases g3 g e with h|h
  ·exact .inl h
  ·right;omega
 have b12: ∀g,za7 (.slice A6 (ks.length+[q.name].length) c6)=some g->za7 (.slice A7 (pz.length+[fr].length) c7)≠some g:=fun g e1 e2=>by
  rcases g3 g e2 with h|h
  ·exact dF g e1 h
  ·have:=(h1.ge g e1).2;omega
 refine NxM hK (fun hHeld=> ?_) (aL.out _ FR4);clear hK K;refine OnM 28 true fun K hK=> ?_
 obtain⟨w5,x5,st5,m5,j5,ck,jP,pT,nH,nE,DF⟩:=zgg zm8 (FR4.mapS fT.out dl.out jI.out) fr;refine zhf rfl _ _ rfl _ _ _ rfl rfl w5 ck ?_;refine NxM hK fun hHeld=> ?_
 clear hK K;refine OnM 29 true fun K hK=> ?_
 go_simp
 refine NxM hK fun hHeld=> ?_
 clear hK K;refine OnM 30 true fun K hK=> ?_
 obtain⟨w6,eP,iU,bH,Gv⟩:=zdK (P:=Tryz.prog) jP nH 83 (.slice A6 (ks.length+[q.name].length) c6);refine zfR rfl _ _ _ rfl _ _ _ rfl rfl rfl w6 eP ?_;rw[pT]at iU;refine NxM hK fun hHeld=> ?_
 clear hK K;refine OnM 31 true fun K hK=> ?_
 have pw:cc≠pp:=by
  have:=HP.out.nd;simp only[List.nodup_cons,List.mem_cons,List.not_mem_nil,or_false,not_or]at this;exact this.2.1.1
 have xC:MapS w6 pp ekS (fun v:Value=>v) mp:=((FR4.mapS fT.out dl.out bx.out).grown nE (by simpa using fun e=>pw e.symm)).grown bH (by simpa using fun e=>pw e.symm);obtain⟨w7,x7,st7,m7,j7,xU,kw,pU,FH,nF,Gw⟩:=zgg zm8 xC q.name;refine zhf rfl _ _ rfl _ _ _ rfl rfl w7 xU ?_;refine NxM hK fun hHeld=> ?_
 clear hK K;refine OnM 32 true fun K hK=> ?_
 go_simp
 refine NxM hK fun hHeld=> ?_
 clear hK K;refine OnM 33 true fun K hK=> ?_
 obtain⟨w8,Ga,zZ,tK,hz8⟩:=zdK (P:=Tryz.prog) kw FH 83 (.slice A7 (pz.length+[fr].length) c7);refine zfR rfl _ _ _ rfl _ _ _ rfl rfl rfl w8 Ga ?_;rw[pU]at zZ;refine NxM hK fun hHeld=> ?_
 clear hK K;refine zaQ Mcm ?_ _;have xy:=(iU.grown nF (by simpa using pw)).grown tK (by simpa using pw);have CV: ∀k,k<w4.heap.size->k≠cc->k≠pp->w8.heap[k]?=w4.heap[k]?:=fun k hk e1 e2=>
  (((tK.block k Mcl (by simpa using e2)).trans (nF.block k Mcl (by simpa using e2))).trans (bH.block k Mcl (by simpa using e1))).trans (nE.block k hk (by simpa using e1))
 have wC:=zbx (FR4.mapS fT.out dl.out jI.out);have xQ:=zbx (FR4.mapS fT.out dl.out bx.out);have jp: ∀(g:Nat) (cur:Array Value),w4.heap[g]?=some (.cells cur 9 (0,0))->w8.heap[g]?=w4.heap[g]?:=fun g cur hg=>by
  obtain⟨es1,x1,jQ⟩:=wC;obtain⟨es2,x2,eR⟩:=xQ;exact CV g (zab hg) (fun e=>by subst e;rw[jQ]at hg;simp at hg) (fun e=>by subst e;rw[eR]at hg;simp at hg)
 have oa8:=oa4.same (W':=w8) (fun g cur _ hg=>jp g cur hg);have ob8:=g1.same (W':=w8) (fun g cur _ hg=>jp g cur hg);have zr: ∀k,k<w.heap.size->k≠cc->k≠pp->za7 (.slice KA ks.length kc)≠some k->za7 (.slice QA pz.length qc)≠some k->w8.heap[k]?=w.heap[k]?:=fun k hk e1 e2 e3 e4=>
  (CV k (by have:=FR4.size;omega) e1 e2).trans (FR4.block k hk e3 e4)
 have tE:=wld_child ba HC.out HP.out HT.out jI.out bx.out lR.out Ig.out cH.out sZ.out (by rw[ii.out];exact fT.out) yN.out (by rw[kN.out];exact dl.out) gT.out (by rw[ii.out];exact oa8) (by rw[kN.out];exact ob8) b1 b2 b12 xy zZ zr;have fF:=HP.out.ge;have qR:Below base w w8:=⟨tK.os.trans (nF.os.trans (bH.os.trans (nE.os.trans FR4.os))),tK.tape.trans (nF.tape.trans (bH.tape.trans (nE.tape.trans FR4.tape))),tK.output.trans (nF.output.trans (bH.output.trans (nE.output.trans FR4.output))),by have:=FR4.size;omega,fun k hk=>zr k (by have:=HW.out.lt;omega) Mcl Mcl (fun e=>by have:=(fT.out.ge k e).1;omega) (fun e=>by have:=(dl.out.ge k e).1;omega)⟩
 have EU:KeepD w w8:=fun k cur f hk=>zr k (zab hk) (fun e=>by obtain⟨_,_,hx⟩:=zbx jI.out;rw[e,hx]at hk;simp at hk) (fun e=>by obtain⟨_,_,hx⟩:=zbx bx.out;rw[e,hx]at hk;simp at hk)
  (fun e=>by obtain⟨_,hx⟩:=zfj fT.out e;have:=Option.some.inj (hx.symm.trans hk);simp only[Obj.cells.injEq]at this;exact absurd this.2.1 Mcn)
  (fun e=>by obtain⟨_,hx⟩:=zfj dl.out e;have:=Option.some.inj (hx.symm.trans hk);simp only[Obj.cells.injEq]at this;exact absurd this.2.1 Mcn)
 have jV:=Lib.hid EU;have Iv:=Lib.hid tE;have kG:=Lib.hid qR;clear EU tE qR zr CV jp oa8 ob8 wC xQ xy zZ tK Ga kw pU FH nF xU xC iU bH eP jP pT nH nE ck b1 b2 b12 oa4 dF FR4 g1 g2 g3 ob3 FR3 h1 h2 h3;go_wp2_with fail
 go_ret
 have hX:=jg.out;simp only[Bool.false_eq_true,if_false]at hX;rw[if_neg (by simpa using H2.out)]at hX;rw[hX]
 exact⟨rfl,Iv.out,kG.out,jV.out⟩):P:=h
theorem Mb (h:P:=by
 clear eJ dl;go_upto_region 9 with fail
 have i1:=bY.out wr (Below.refl _ _);refine zaC 10 (fun bb w'=>bb=true\/w'.cell? ⟨b,off+k,none⟩=some (.string x)) Mcm (.inr (bY.out _ (zaM (Below.refl _ _)))) ?hrest
 case hrest=>
  intro hHeld;refine TkM 5 ?_;refine TkM 6 ?_;refine TkM 7 ?_;refine TkM 8 ?_;refine TkM 1 ?_;refine TkM 2 ?_;refine TkM 3 ?_;refine FrM 11 false ?_;refine FrM 12 false ?_;refine FrM 13 false ?_;refine TwM 0 9 (fun K hK=> ?_) fun K hK=> ?_
  ·go_simp
   have e0:Below wr.heap.size wr (wr.drew.alloc (.cells #[] 9)):=zac (zaM (Below.refl _ _)) _;refine NxM hK (fun hHeld=> ?_) (.inr (bY.out _ e0));clear hK K;refine TwM 4 9 (fun K hK=> ?_) fun K hK=> ?_
   ·refine zal (v:= .slice (some ⟨wr.heap.size,0,none⟩) 0 0) (n:=0) (m:=a) rfl _ _ rfl zbK zaB zbJ rfl (xs:=[]) (ys:=xs.take a) (zgD wr.drew wr.heap.size (Nat.le_refl _)) rfl rfl (eX.out.symm) (qF.out _ e0) Mcv McK Mcw ?_;intro v4 w4 h1 h2 h3;rw[List.nil_append]at h1;obtain⟨V4,c4,b8,_,_⟩:=h1.sl zaB;rw[eX.out]at b8;subst b8;have aD:Below wr.heap.size wr w4:=Below.grown e0 h2 Mdl (fun j hj=>by simp[za7]at hj;omega);refine NxM hK (fun hHeld=> ?_) (.inr (bY.out _ aD));clear hK K;refine OnM 9 false fun K hK=> ?_
    go_simp
    have e1:Below wr.heap.size wr (w4.alloc (.cells #[.string x] 9)):=zac aD _;have n1:(w4.alloc (.cells #[.string x] 9)).heap[w4.heap.size]?=some (.cells #[.string x] 9):=zar _ _ _ rfl;have o1:OwnS (w4.alloc (.cells #[.string x] 9)) wr.heap.size 9 1 sC (.slice V4 a c4) (xs.take a):=h1.keep (n:=w4.heap.size) (zac (Below.refl _ _) _);refine NxM hK (fun hHeld=> ?_) (.inr (bY.out _ e1));clear hK K;refine OnM 10 true fun K hK=> ?_
    refine zal (v:= .slice V4 a c4) (n:=a) (m:=1) rfl _ _ rfl zbK zaB zbJ rfl (xs:=xs.take a) (ys:=[x]) (o1) eX.out rfl rfl (zfT n1) Mcv McK Mcs ?_;intro v5 w5 g1 g2 g3;obtain⟨A5,c5,ei,_,_⟩:=g1.sl zaB;rw[List.length_append,eX.out]at ei;subst ei;have aj:Below wr.heap.size wr w5:=Below.grown e1 g2 McG (fun j hj=>((o1).ge j hj).1);exact MbQ
   ·go_simp
    have e1:Below wr.heap.size wr ((wr.drew.alloc (.cells #[] 9)).alloc (.cells #[.string x] 9)):=zac e0 _;have n1:((wr.drew.alloc (.cells #[] 9)).alloc (.cells #[.string x] 9)).heap[wr.heap.size+1]?=some (.cells #[.string x] 9):=zar _ _ _ Mco;have m1:OwnS ((wr.drew.alloc (.cells #[] 9)).alloc (.cells #[.string x] 9)) wr.heap.size 9 1 sC (.slice (some ⟨wr.heap.size,0,none⟩) 0 0) []:=(zgD wr.drew wr.heap.size (Nat.le_refl _)).keep (n:=(wr.drew.alloc (.cells #[] 9)).heap.size) (zac (Below.refl _ _) _);refine NxM hK (fun hHeld=> ?_) (.inr (bY.out _ e1));clear hK K;refine OnM 4 false fun K hK=> ?_
    refine zal (v:= .slice (some ⟨wr.heap.size,0,none⟩) 0 0) (n:=0) (m:=a) rfl _ _ rfl zbK zaB zbJ rfl (xs:=[]) (ys:=xs.take a) (m1) rfl rfl (eX.out.symm) (qF.out _ e1) Mcv McK Mcs ?_;intro v4 w4 h1 h2 h3;rw[List.nil_append]at h1;obtain⟨V4,c4,b8,_,_⟩:=h1.sl zaB;rw[eX.out]at b8;subst b8;have aD:Below wr.heap.size wr w4:=Below.grown e1 h2 McG (fun j hj=>by simp[za7]at hj;omega);have n2:w4.heap[wr.heap.size+1]?=some (.cells #[.string x] 9):=(h2.block _ McC Mdd).trans n1;exact Mcg
  ·go_simp
   have e0:Below wr.heap.size wr (wr.drew.alloc (.cells #[.string x] 9)):=zac (zaM (Below.refl _ _)) _;have n0:(wr.drew.alloc (.cells #[.string x] 9)).heap[wr.heap.size]?=some (.cells #[.string x] 9):=zar _ _ _ rfl;refine NxM hK (fun hHeld=> ?_) (.inr (bY.out _ e0));clear hK K;refine OnM 0 false fun K hK=> ?_
   go_simp
   have e1:Below wr.heap.size wr ((wr.drew.alloc (.cells #[.string x] 9)).alloc (.cells #[] 9)):=zac e0 _;have n1:((wr.drew.alloc (.cells #[.string x] 9)).alloc (.cells #[] 9)).heap[wr.heap.size]?=some (.cells #[.string x] 9):=zak n0;refine NxM hK (fun hHeld=> ?_) (.inr (bY.out _ e1));clear hK K;refine OnM 4 false fun K hK=> ?_
   have m1:OwnS ((wr.drew.alloc (.cells #[.string x] 9)).alloc (.cells #[] 9)) wr.heap.size 9 1 sC (.slice (some ⟨wr.heap.size+1,0,none⟩) 0 0) []:=by
    exact Mcc
   refine zal (v:= .slice (some ⟨wr.heap.size+1,0,none⟩) 0 0) (n:=0) (m:=a) rfl _ _ rfl zbK zaB zbJ rfl (xs:=[]) (ys:=xs.take a) (m1) rfl rfl (eX.out.symm) (qF.out _ e1) Mcv McK Mcs ?_;intro v4 w4 h1 h2 h3;rw[List.nil_append]at h1;obtain⟨V4,c4,b8,_,_⟩:=h1.sl zaB;rw[eX.out]at b8;subst b8;have aD:Below wr.heap.size wr w4:=Below.grown e1 h2 McG (fun j hj=>by simp[za7]at hj;omega);have n2:w4.heap[wr.heap.size]?=some (.cells #[.string x] 9):=(h2.block _ McC Mdd).trans n1
   exact Mcg):P:=h
theorem Mc (h:P:=by
 go_simp
 refine hK.out _ _ ?_ (fun hHeld=> ?_);focus((try dsimp only);refine⟨?_,?_,?_,?_,?_⟩<;>first|assumption|(simp[go_sem,fO,fP,aP];done)|(simp[go_sem,a0,a1,a2,l5,l6,yp,yL];done)|(simp[go_sem,z0,z1,z2,z5,z6,zx,zy];done))
 clear hK K;try simp only[Act.put,List.setIfInBounds_toArray,List.set_cons_zero,List.set_cons_succ]
 refine OnH 10 fun K hK=> ?_
 refine zal (v:= .slice A1 out.length c1) (n:=out.length) (m:=1) rfl _ _ rfl zdO zan zce rfl (xs:=out) (ys:=[(pn,zbi (pq/lf))]) (YO.out.keep (n:=w5.heap.size) Bw) rfl rfl rfl (sl_part (zar _ _ _ rfl)) McJ Mcl Mcq ?_;intro v6 w6 h1 h2 h3;obtain⟨A6,c6,dE,_,_⟩:=h1.sl zan;rw[List.length_append]at dE;subst dE;have zT:zbv w6 W0.heap.size gpl gcl frm gfin (.slice A1 out.length c1) (.slice D gdi.length dc):=(h2.block _ Mcq (fun e=>zhF YO.out YT.out Mcn e.symm)).trans (zak YT.out);have z4:w6.cell? ⟨W0.heap.size,4,none⟩=some (.slice A1 out.length c1):=by unfold zbv at zT;simp only[World.cell?,zT];rfl
 have f4:w6.frozen? ⟨W0.heap.size,4,none⟩=false:=by unfold zbv at zT;simp only[World.frozen?,zT];rfl
 have zL:w6.heap[L]?=some (zbt lf):=(h2.block _ Mcq (fun e=>zhF YO.out YL.out Mcn e.symm)).trans (zak YL.out);have z5:w6.cell? ⟨L,0,none⟩=some (.int .i64 lf.num):=by simp only[World.cell?,zL,zbt];rfl
 have z6:w6.cell? ⟨L,1,none⟩=some (.int .i64 lf.den):=by simp only[World.cell?,zL,zbt];rfl
 have zP:w6.heap[wr.heap.size]?=some (.cells #[.string pn, .int .i64 pq.num, .int .i64 pq.den] 63):=(h2.block _ Mcq (fun e=>by have:=(dV.out.ge _ e.symm).2;omega)).trans (zak Y0.out);obtain⟨z0,z1,z2⟩:=cF3 zP;have zl:=zab zT;have zx:wr.heap.size≠W0.heap.size:=Mcl;have zy:L≠W0.heap.size:=Mcl;have ZT:=Lib.hid zT;have ZL:=Lib.hid zL;have H1:=Lib.hid h1;have H2:=Lib.hid h2;have H3:=Lib.hid h3;clear zT zL zP h1 h2 h3;refine hK.out _ _ ?_ (fun hHeld=> ?_);focus((try dsimp only);refine⟨?_,?_,?_,?_,?_⟩<;>first|assumption|(simp[go_sem,fO,fP,aP];done)|(simp[go_sem,a0,a1,a2,l5,l6,yp,yL];done)|(simp[go_sem,z0,z1,z2,z5,z6,zx,zy];done))
 clear hK K;try simp only[Act.put,List.setIfInBounds_toArray,List.set_cons_zero,List.set_cons_succ]
 refine TkH 11 ?_;refine OnH 12 fun K hK=> ?_
 go_simp
 refine hK.out _ _ ?_ (fun hHeld=> ?_);focus((try dsimp only);refine⟨?_,?_,?_,?_,?_⟩<;>first|assumption|(simp[go_sem,fO,fP,aP];done)|(simp[go_sem,a0,a1,a2,l5,l6,yp,yL];done)|(simp[go_sem,z0,z1,z2,z5,z6,zx,zy];done))
 clear hK K;try simp only[Act.put,List.setIfInBounds_toArray,List.set_cons_zero,List.set_cons_succ]
 refine wpAnyH_done Mcm ?_ _;have KK:za7 (.slice A6 (out.length+[(pn,zbi (pq/lf))].length) c6)≠some W0.heap.size:=fun e=>by
  rcases H3.out _ e with h|h
  ·exact zhF YO.out YT.out Mcn h
  ·simp at h;omega
 have r1:MarkAt (w6.setCell ⟨W0.heap.size,4,none⟩ (.slice A6 (out.length+[(pn,zbi (pq/lf))].length) c6)) C (fl||bigQ (pq/lf)):=
  J_ne Mcl ((H2.out.block C (by have:=zab N1.out;simp;omega) (fun e=>by have:=(dV.out.ge _ e.symm).1;omega)).trans (zak N1.out))
 have r2:=zgn ZT.out (.slice A6 (out.length+[(pn,zbi (pq/lf))].length) c6);have r3:OwnS (w6.setCell ⟨W0.heap.size,4,none⟩ (.slice A6 (out.length+[(pn,zbi (pq/lf))].length) c6)) W0.heap.size 63 3 zaa (.slice A6 (out.length+[(pn,zbi (pq/lf))].length) c6) (out++[(pn,zbi (pq/lf))]):=H1.out.grown (zau _ _ _ _) (.inr KK);have r4:(w6.setCell ⟨W0.heap.size,4,none⟩ (.slice A6 (out.length+[(pn,zbi (pq/lf))].length) c6)).heap[L]?=some (zbt lf):=J_ne Mcl ZL.out;have r5:Below C W0 w5:=zaS (W:=(wr.alloc (.cells #[.string pn, .int .i64 pq.num, .int .i64 pq.den] 63)).drew) (zaM (zac sL.out _ Mcl)) N2.out (Nat.le_refl _);have r6:Below C W0 w6:=Below.grown (zac r5 _ Mcl) H2.out (by have:=r5.size;simp;omega) (fun j hj=>by have:=(dV.out.ge _ hj).1;omega);have r7:Below C W0 (w6.setCell ⟨W0.heap.size,4,none⟩ (.slice A6 (out.length+[(pn,zbi (pq/lf))].length) c6)):=zaO r6 (by show C<=W0.heap.size;omega) _;have r8:L<w6.heap.size:=zab ZL.out;have R1:=Lib.hid r1;have R2:=Lib.hid r2;have R3:=Lib.hid r3;have R4:=Lib.hid r4;have R7:=Lib.hid r7;have pC:=dG.out;rw[eU.out]at pC;simp only[Bool.false_eq_true,if_false]at pC;have AD:=Lib.hid pC;clear r1 r2 r3 r4 r5 r6 r7 pC a0 a1 a2 l5 l6 y2 z4 f4 z5 z6 z0 z1 z2;go_wp2_with fail
 go_round
 case rel=>exact⟨k+1,_,out++[(pn,zbi (pq/lf))],_,by omega,by go_num,AD.out.symm,R1.out,R2.out,R3.out,R4.out,R7.out,by simp;omega⟩
 case measure=>simp[intOf];omega):P:=h
theorem Md (h:P:=by
 have d1:wq.cell? ⟨w.heap.size,1,none⟩=some (.int .i64 dy):=by simp only[World.cell?,mZ.out];rfl
 have og:=nQ.out;have Ct:=zab og;have JD:=zab mZ.out;unfold WldC at og;obtain⟨-,-,-,-,-,-,-,z7,z8⟩:=cF9 og;have f7:wq.frozen? ⟨b,7,none⟩=false:=by simp only[World.frozen?,og];rfl
 have f8:wq.frozen? ⟨b,8,none⟩=false:=by simp only[World.frozen?,og];rfl
 have hwb:w.heap.size≠b:=fun e=>Nat.lt_irrefl _ (e▸dH)
 clear og;have qR:Below base w wq:=Below.trans (Below.mono (B:=w.heap.size) Bw (Nat.le_of_lt (Nat.lt_of_le_of_lt ba dH))) nO.out;have kG:=Lib.hid qR;clear qR;by_cases h0:er=0
 ·subst h0;have oS:=wrap_k xf;have Dv:=wrap_k2 xf;go_wp2_with fail
  go_region
  all_goals go_wp2_with fail
  all_goals go_ret
  all_goals exact taken_ok (wld_drew (wld_tick nr.out dy ((k:Int)+1))) (zaM (zaO (zaO kG.out ew _) ew _))
 ·go_wp2_with fail
  go_ret
  exact taken_no h0 nr.out kG.out):P:=h
theorem Me (h:P:=by
 have HE:=Lib.hid (HG.out rfl);have sf:=frz xs0;have fj:=HF.out.dead;clear HG dh;go_upto_region 24 with fail
 obtain⟨U1,rq⟩: ∃U1,U1=WR.setCell ⟨w.heap.size,6,none⟩ (.slice V2 s.graves.length c2'):=⟨_,rfl⟩
 have u0:U1.heap[w.heap.size]?=some (.cells #[.slice LA laws.length c0, .slice CA s.children.length c1, .slice MA s.marriages.length c2, .slice DA s.dead.length c3, .slice WA wd.length c4, .slice RA rd.length c5, .slice V2 s.graves.length c2'] 40):=by
  rw[rq];have:=Joins.block_setCell (i:=6) xs0 (.slice V2 s.graves.length c2');simpa using this
 have u1:U1.heap[w.heap.size+1]?=some (.cells #[.slice none 0 0, .slice none 0 0, .slice none 0 0, .slice none 0 0, .slice none 0 0, .slice none 0 0, .slice none 0 0] 40):=by rw[rq];exact J_ne Mcl xr0
 have Cr:Below w.heap.size w U1:=by rw[rq];exact zaO (ak.out.trans (aW.out.mono aw)) (Nat.le_refl _) _
 have wZ:WR.grownBy U1 (some w.heap.size):=by rw[rq];exact zau _ _ _ _
 have Gb:s.graves≠[]->RowC U1 46 ga go 5 (dx.map GX.cells):=fun ai=>by
  have h:=Bc.out ai;rw[CP,List.append_nil]at h;rw[rq];exact h.ne (zmo h xs0 Mcn)
 have Ih:=Lib.hid Gb;have Au:=Lib.hid (fun y hy=>((gn.out y hy).keptS wZ xs0:okR gxs U1 y));have GH:=Lib.hid Cr;have Ir:=Lib.hid u1;have Iq:=Lib.hid u0;have Jj:=Cr.size;rw[<-rq];clear rq Gb wZ sf;clear xs0 xr0 s0 s1 s2 s3 s4 s5 s6 r0 r1 r2 r3 r4 r5 r6 rf ls lr;obtain⟨s0,s1,s2,s3,s4,s5,s6⟩:=zaG u0;have ls:=zab u0;have lr:=zab u1;clear u0 u1;have lD:=Lib.hid (H.out U1 Cr).dead
 go_upto_region 25 with(first
  |(at_builtin
    go_loud(refine zav (v:= .slice (some ⟨U1.heap.size,0,none⟩) 0 0) (n:=0) (m:=s.dead.length) rfl _ _ rfl zbK zaB zbJ rfl (xs:=[]) (ys:=s.dead) (zdT zaB U1 U1.heap.size (Nat.le_refl _)) rfl rfl rfl (lD.out.keep (zac (Below.refl _ _) _)) McT Mcl Mco ?_)
    intro v3 w3 h1 h2 h3;rw[List.nil_append]at h1;have av:Below U1.heap.size U1 w3:=Below.grown (zac (Below.refl _ _) _) h2 Mco McZ;obtain⟨V3,vc3,rfl,_,_⟩:=h1.sl zaB;have nh:=Lib.hid h1;have ll:=Lib.hid av;have vv:=av.size
    clear h1 h2 h3 av)
  |(at_builtin
    go_loud(refine zav (v:= .slice V3 s.dead.length vc3) (n:=s.dead.length) (m:=1) rfl _ _ rfl zbK zaB zbJ rfl (xs:=s.dead) (ys:=[n]) (nh.out.keep (n:=w3.heap.size) (zac (Below.refl _ _) _)) rfl rfl rfl (zcx (zar _ _ _ rfl)) McT Mcl Mcq ?_)
    intro v6 w6 h1 h2 h3;have aE:Below U1.heap.size U1 w6:=Below.grown (zac ll.out _) h2 Mcq (fun j hj=>(nh.out.ge j hj).1);obtain⟨A6,vc6,dE,_,xl⟩:=h1.sl zaB;have kB:v6= .slice A6 (s.dead.length+1) vc6:=by rw[dE,List.length_append];rfl
    clear dE;subst kB;have lL:=Lib.hid h1;have eS:=Lib.hid aE;have AL:=Lib.hid xl;have x6:=(aE.block w.heap.size ls).trans Iq.out;have z6:=(aE.block (w.heap.size+1) lr).trans Ir.out;have za:=Lib.hid x6;have Iy:=Lib.hid z6;have sf6:=frz x6;obtain⟨_,_,_,p3,_,_,_⟩:=zaG x6;have ls6:=zab x6
    clear h1 h2 h3 aE xl x6 z6))
 obtain⟨U7,ru⟩: ∃U7,U7=w6.setCell ⟨w.heap.size,3,none⟩ (.slice A6 (s.dead.length+1) vc6):=⟨_,rfl⟩
 have y7:U7.heap[w.heap.size]?=some (.cells #[.slice LA laws.length c0, .slice CA s.children.length c1, .slice MA s.marriages.length c2, .slice A6 (s.dead.length+1) vc6, .slice WA wd.length c4, .slice RA rd.length c5, .slice V2 s.graves.length c2'] 40):=by
  rw[ru];have:=Joins.block_setCell (i:=3) za.out (.slice A6 (s.dead.length+1) vc6);simpa using this
 have z7:U7.heap[w.heap.size+1]?=some (.cells #[.slice none 0 0, .slice none 0 0, .slice none 0 0, .slice none 0 0, .slice none 0 0, .slice none 0 0, .slice none 0 0] 40):=by rw[ru];exact J_ne Mcl Iy.out
 have bG:Below w.heap.size w U7:=by rw[ru];exact zaO (GH.out.trans (eS.out.mono Jj)) (Nat.le_refl _) _
 have rY:w6.grownBy U7 (some w.heap.size):=by rw[ru];exact zau _ _ _ _
 have hS7:Sl U7 5 GX.cells V2 dx:=by
  by_cases ai:s.graves=[]
  ·have h0:dx.length=0:=by rw[iy];rw[ai]at hk;simpa using hk
   rw[List.eq_nil_of_length_eq_zero h0];exact Sl.nil
  ·obtain⟨e,_⟩:=HV.out ai;have h:=(Ih.out ai).keep eS.out;rw[e,ru];exact(h.ne (zmo h za.out Mcn)).sl rfl
 have xL: ∀x∈dx,x.ok U7:=fun x hx=>by
  rcases((Au.out x hx).keep eS.out).keptS rY za.out with h|⟨h1,h2⟩
  ·exact(dm.out x h).keep bG
  ·exact⟨h1.sl zan,h2.sl zaB⟩
 have h':=H.out U7 bG;have aB:Hid (StAt U7 laws R.1 (.slice LA laws.length c0) (.slice CA s.children.length c1) (.slice MA s.marriages.length c2) (.slice A6 (s.dead.length+1) vc6) (.slice WA wd.length c4) (.slice RA rd.length c5) (.slice V2 s.graves.length c2')):=by
  show StAt _ _ _ _ _ _ _ _ _ _;rw[HE.out];refine⟨wd,rd,LA,CA,MA,A6,WA,RA,V2,c0,c1,c2,vc6,c4,c5,c2',rfl,rfl,rfl,?_,rfl,rfl,?_,⟨h'.laws,h'.kids,h'.marr,?_,h'.wills,h'.ren,slw_gx hS7 rfl xL,AL.out⟩,⟨HK.out.wills,HK.out.shares,HK.out.ren,HK.out.tos⟩⟩
  ·show _=Value.slice A6 (s.dead++[n]).length vc6;rw[List.length_append];rfl
  ·show _=Value.slice V2 (dx.map (·.g)).length c2';rw[List.length_map,iy,oE]
  ·exact(lL.out.ro'.kept rY za.out Mcn).sl zaB
 rw[<-ru];have bR:=Lib.hid bG;have ze:=Lib.hid z7;clear ru hS7 xL h' rY bG s0 s1 s2 s3 s4 s5 s6 ls lr p3 sf6 ls6;obtain⟨s0,s1,s2,s3,s4,s5,s6⟩:=zaG y7;obtain⟨r0,r1,r2,r3,r4,r5,r6⟩:=zaG z7;have rf:=frz z7;have ls:=zab y7;have lr:=zab z7;clear y7 z7;go_wp2_with fail
 refine bodyPost_ret (zbA rfl _ rfl rfl (zc0 ze.out)) rfl ?_
 exact⟨_,_,_,_,_,_,_,true,rfl,rfl,zc9 bR.out (show w.heap.size<=w.heap.size+1 by omega), .inl ⟨rfl,by rw[HE.out],(zc4 ze.out rfl).st aB.out⟩⟩):P:=h
theorem Mf (h:P:=by
 clear hR;go_wp2_with fail
 go_ret
 rw[HR.out]
 exact Ret.of (zaP (by first|rfl|(simp[*];done))) (HB.out.trans (Below.mono (B:=wc.heap.size) Bw HB.out.size))):P:=h
theorem Mg (h:P:=by
 go_wp2_with fail
 rw[HE.out];refine bodyPost_ret (zbA rfl _ rfl rfl (zc0 xr0)) rfl ?_
 exact⟨_,_,_,_,_,_,_,rfl,rfl,zc9 (ak.out.trans (bs.mono aw)) (show w.heap.size<=w.heap.size+2 by omega),fun e=>by cases e⟩):P:=h
theorem Mh (h:P:=by
 (go_wp2_with fail
  go_ret
  exact Ret.of (zb5 (by rw[HR.out];simp[zct,p1,p2,isDay0,inR04,inR14,inR24,inR34,inR44, *])) (HB.out.trans (Below.mono (B:=wc.heap.size) Bw hs)))):P:=h
theorem Mi (h:P:=by
 intro v6 w6 k1 k2 k3;have aE:Below wr.heap.size wr w6:=Below.grown aj k2 aj.size (fun j hj=>(g1.ge j hj).1);refine NxM hK fun hHeld=> ?_
 clear hK K;refine OnM 15 true fun K hK=> ?_
 go_simp
 refine NxM hK fun hHeld=> ?_
 clear hK K;refine zaQ Mcm ?_ _;clear hHeld;have K1:=Lib.hid k1;have aC:=Lib.hid aE;clear k1 k2 k3 aE aj g1 g2 g3;go_wp2_with fail
 go_round
 case rel=>exact⟨k+1,aq.out,by go_num,by rw[aB.out];exact K1.out.base_le Mcl,HB.out.trans (aC.out.mono Mcl)⟩
 case measure=>have:=aq.out;simp only[intOf];omega):P:=h
theorem Mj (h:P:=by
 have oh:D0=none:=by
  cases fk:(f&&l)
  ·obtain⟨h1,h2⟩:=kL.out fk;rw[h1,yK.out];refine H8.out _ DS.out fun eQ e'=> ?_
   rw[h2]at e';rcases qu.out rfl with e|e
   ·rw[e]at e';cases e'
   ·cases l
    ·obtain rfl:hs=eQ:=by simpa using e'
     exact e
    ·cases e'
  ·exact nS.out fk
 have HN:=Lib.hid oh;clear oh;obtain⟨OV,oc,rfl,_,xI⟩:=HO.out.ro;have jm:=eE.out.trans (cO.out.mono eE.out.size);have bi:=bX.out.keep jm;obtain⟨gcur,cL,_⟩:=bi.row;have j3:wr.cell? ⟨ga,go+k*5+3,none⟩=some (.slice x.H x.g.holders.length x.hc):=bi.at dK.out (j:=3) rfl;have jf:=bi.frz;have oD:=bi.lt;have qB:=Lib.hid bi;have lG:=Lib.hid cL;have AZ:=Lib.hid xI;have jS:=Lib.hid jm;clear xI jm bi cL;go_upto_region 20 with fail
 obtain⟨V1,nA⟩: ∃V1,V1=wr.setCell ⟨ga,go+k*5+3,none⟩ (.slice OV out.length oc):=⟨_,rfl⟩
 have gJ:wr.grownBy V1 (some ga):=by rw[nA];exact zau _ _ _ _
 have fR:RowC V1 46 ga go 5 (((dx++gxs.drop k).map GX.cells).set k (x.cells.set 3 (.slice OV out.length oc))):=by rw[nA];exact qB.out.set dK.out Mcn
 have rG:Below w1.heap.size w1 V1:=MdE;rw[<-nA];have Ce:WR.heap.size<=V1.heap.size:=Nat.le_trans jS.out.size gJ.size;clear nA j3 jf oD;have KY:=hxd5 fR dK.out;have jI:=Lib.hid fR;have um:=Lib.hid rG;have JK:=fR.lt;have uU:=Lib.hid (AZ.out.kept gJ lG.out Mcn);have uu:=Lib.hid (fun y hy=>(((gn.out y hy).keep jS.out).kept gJ lG.out:okR gxs V1 y));have Bv:=Lib.hid (th.out V1 (ak.out.trans ((aG.out.trans (rG.mono im)).mono aw))).2;clear fR rG gJ
 go_wp2_with (first
  |(at_builtin
    go_loud(refine zav (v:= .slice (some ⟨V1.heap.size,0,none⟩) 0 0) (n:=0) (m:=x.g.died.length) rfl _ _ rfl zbK zaB zbJ rfl (xs:=[]) (ys:=x.g.died) (zdT zaB V1 V1.heap.size (Nat.le_refl _)) rfl rfl rfl (Bv.out.keep (zac (Below.refl _ _) _)) McT Mcl Mco ?_)
    intro v3 w3 h1 h2 h3;rw[List.nil_append]at h1;have av:Below V1.heap.size V1 w3:=Below.grown (zac (Below.refl _ _) _) h2 Mco McZ;obtain⟨V3,vc3,rfl,_,_⟩:=h1.sl zaB;have nh:=Lib.hid h1;have ll:=Lib.hid av;have vv:=av.size
    clear h1 h2 h3 av)
  |(at_builtin
    go_loud(refine zav (v:= .slice V3 x.g.died.length vc3) (n:=x.g.died.length) (m:=1) rfl _ _ rfl zbK zaB zbJ rfl (xs:=x.g.died) (ys:=[n]) (nh.out.keep (n:=w3.heap.size) (zac (Below.refl _ _) _)) rfl rfl rfl (zcx (zar _ _ _ rfl)) McT Mcl Mcq ?_)
    intro v6 w6 h1 h2 h3;have aE:Below V1.heap.size V1 w6:=Below.grown (zac ll.out _) h2 Mcq (fun j hj=>(nh.out.ge j hj).1);obtain⟨A6,vc6,dE,_,_⟩:=h1.sl zaB;rw[List.length_append]at dE;subst dE;have lL:=Lib.hid h1;have eS:=Lib.hid aE;have eP:=jI.out.keep aE;have i4:w6.cell? ⟨ga,go+k*5+4,none⟩=some (.slice x.D x.g.died.length x.dc):=hxd5 eP dK.out;have jf6:=eP.frz;have CM:=eP.lt;have Co:=aE.size
    clear h1 h2 h3 aE eP))
 go_round
 case rel=>
  have eP:=jI.out.keep eS.out;rw[At.out]at eP;obtain⟨gcur6,mD,_⟩:=eP.row;refine⟨k+1,true,true,dx++[(⟨{x.g with holders:=out,died:=x.g.died++[n]},OV,oc,A6,vc6⟩:GX)],aq.out,by go_num,rfl,rfl,by rw[List.length_append,iy];rfl,Lib.hid fun _=>row_two iy eP,Lib.hid fun y hy=> ?_,Lib.hid fun _=>HN.out,Lib.hid Mco,zaO (um.out.trans (eS.out.mono um.out.size)) zS _,by simp;omega⟩;exact Mb0
 case measure=>have:=aq.out;simp only[intOf];omega):P:=h
theorem Mk (h:P:=by
 refine OnM 6 true fun K hK=> ?_
 refine zal (v:= .slice V4 s.graves.length c4') (n:=s.graves.length) (m:=1) rfl _ _ rfl zhl zcS zkb rfl (xs:=gxs) (ys:=[(⟨⟨d.place,d.cls,fin,out,[]⟩,VA,vc,none,0⟩:GX)]) o9 bu.out.symm rfl rfl (sl_grave (⟨⟨d.place,d.cls,fin,out,[]⟩,VA,vc,none,0⟩:GX) n9) Mct McE McH ?_;intro v5 w5 g1 g2 g3;obtain⟨A5,c5',ei,_,_⟩:=g1.sl zcS;rw[List.length_append,<-bu.out]at ei;subst ei;have aj:Below WX.heap.size WX w5:=Below.grown e9 g2 Md1 (fun j hj=>(o9.ge j hj).1);have ca:=bA.out.trans (aj.mono dQ);refine NxM hK fun hHeld=> ?_
 clear hK K;refine OnM 7 true fun K hK=> ?_
 go_simp
 refine NxM hK fun hHeld=> ?_
 clear hK K;obtain⟨⟨xs0,xd0,xr0⟩,⟨s0,s1,s2,s3,s4,s5,s6⟩,⟨d0,d1,d2,d3,d4,d5,d6⟩,⟨r0,r1,r2,r3,r4,r5,r6⟩,rf,ls,ld,lr⟩:=ddF (ax.out w5 (ca));have sf:=frz xs0;refine OnM 8 true fun K hK=> ?_
 go_simp
 refine NxM hK fun hHeld=> ?_
 clear hK K;refine zaQ Mcm ?_ _;clear hHeld;have G1:=Lib.hid g1;have vp:=Lib.hid aj;have aH:=Lib.hid ca;have X0:=Lib.hid xs0;have X2:=Lib.hid xr0;clear g1 g2 g3 aj ca h1 h2 h3 aD;clear xs0 xd0 xr0 s0 s1 s2 s3 s4 s5 s6 d0 d1 d2 d3 d4 d5 d6 r0 r1 r2 r3 r4 r5 r6 rf ls ld lr;clear sf;go_wp2_with fail
 go_meet
 refine⟨⟨by first|rfl|trivial,A5,c5',?_,J_ne Mcl X2.out,(G1.out.kept (zau _ _ _ _) X0.out Mcn).ro',zaO (ak.out.trans (aH.out.mono aw)) (Nat.le_refl _) _⟩,((HO.out.keep vp.out).kept (zau _ _ _ _) X0.out Mcn).ro'⟩;have:=Joins.block_setCell (i:=6) X0.out (.slice A5 (s.graves.length+1) c5')
 simpa using this):P:=h
theorem Ml (h:P:=by
 have a1:wr.cell? ⟨w.heap.size,5,none⟩=some (.bool fa):=Mcp;have a2:wr.cell? ⟨w.heap.size,7,none⟩=some (.bool true):=Mcp;have b0:wr.cell? ⟨w.heap.size+1,3,none⟩=some (.string frm):=Mcr;have b1:wr.cell? ⟨w.heap.size+1,4,none⟩=some (.slice B ps.length c):=Mcr;have c0:wr.cell? ⟨w.heap.size+2,0,none⟩=some (.int .i64 s.num):=Mek;have c1:wr.cell? ⟨w.heap.size+2,1,none⟩=some (.int .i64 s.den):=Mek;have d0:wr.frozen? ⟨w.heap.size+2,0,none⟩=false:=Mee;have d1:wr.frozen? ⟨w.heap.size+2,1,none⟩=false:=Mee;have e0:w.heap.size<wr.heap.size:=Mcl;have e1:w.heap.size+1<wr.heap.size:=Mcl;have e2:w.heap.size+2<wr.heap.size:=Mcl;have e3:w.heap.size+2≠wr.heap.size:=Mcl;by_cases aa:k<ps.length
 ·rw[List.drop_eq_getElem_cons aa]at hx;obtain⟨b,off,rfl,hb,hc⟩:=(hS.keep hB).at aa;have vZ:=(hS.keep hB).take k;generalize hp:ps[k]=p at*;obtain⟨pn,pu,pd⟩:=p;have h0:wr.cell? ⟨b,off+k*3,none⟩=some (.string pn):=hc 0 _ rfl;have h1:wr.cell? ⟨b,off+k*3+1,none⟩=some (.int .i64 pu):=hc 1 _ rfl;have h2:wr.cell? ⟨b,off+k*3+2,none⟩=some (.int .i64 pd):=hc 2 _ rfl;have HP:=Lib.hid hp;have HF:=Lib.hid dL;have H0:=Lib.hid aw;have HK:=Lib.hid kx;have HS:=Lib.hid vZ;have HX:=Lib.hid hx;have HH:=Lib.hid (show ps.length<=100000 by omega);have fN:(k:Int)<=(c:Int):=Mcl;have aT:(0:Int)<=(k:Int):=Mcl;have jv:(k:Int)<(ps.length:Int):=Mcl;have cN:(ps.take k).length=k:=Mc6;have HT:=Lib.hid cN;clear hc hS vZ hp dL aw kx hx cN
  go_upto_region 10 with(go_at_call 83
                         refine(zcO _ _ eg (fun q=>zae q.name pn) _ k _ (ps.take k) _ HT.out.symm (by rw[HT.out];have:=HH.out;omega) (HS.out.keep (n:=wr.heap.size) Bw) (zlh _ pn _ _ Mco McN)).mono ?_
                         intro e wq hq;rcases Ret.bools hq with⟨zq,rfl,⟨hb,rfl⟩|⟨hb,rfl⟩⟩<;>clear hq)
  all_goals go_wp2_with (first
   |(go_at_call 120;refine(zdM _ _ _).mono ?_;intro e wq hq;rcases Ret.bools hq with⟨zq,rfl,⟨hb,rfl⟩|⟨hb,rfl⟩⟩<;>clear hq)
   |(go_at_call 142;refine(zn6 s pu pd _ (HF.out.small (Rat.le_trans Mcn H0.out) (cast_le HK.out Mcl)) McV).mono ?_;rintro e w1 ⟨rfl,z1,rfl⟩;simp only[za9]))
  all_goals first
   |(go_ret
     exact Ret.of (zaP (by rw[HX.out];simp[zcp,zgV,zed,ze4, *])) Bw)
   |(go_round
     case rel=>
      refine⟨k+1,by omega,by go_num,s+Rat.divInt pu pd,(by rw[HX.out,List.take_succ_eq_append_getElem aa,HP.out];simp[zcp,RPart.rat,zed,ze4, *]:_=_),HF.out.add (zem McV),sum_pos H0.out McV,sum_up HK.out McV,Bw,by simp[zag];omega,by repeat(first|assumption|with_reducible refine zak ?_|with_reducible refine zb9 ?_|with_reducible refine J_ne Mcl ?_),by repeat(first|assumption|with_reducible refine zak ?_|with_reducible refine zb9 ?_|with_reducible refine J_ne Mcl ?_),?_⟩;(repeat(first|with_reducible refine zak ?_|with_reducible refine zb9 ?_));exact zen g2
     case measure=>simp[intOf];omega)
 ·exact Mb1):P:=h
theorem Mm (h:P:=by
 have a1:wr.cell? ⟨w.heap.size,5,none⟩=some (.bool fa):=Mcp;have a2:wr.cell? ⟨w.heap.size,7,none⟩=some (.bool false):=Mcp;have b0:wr.cell? ⟨w.heap.size+1,3,none⟩=some (.string frm):=Mcr;have b1:wr.cell? ⟨w.heap.size+1,4,none⟩=some (.slice B ps.length c):=Mcr;have c0:wr.cell? ⟨w.heap.size+2,0,none⟩=some (.int .i64 s.num):=Mek;have c1:wr.cell? ⟨w.heap.size+2,1,none⟩=some (.int .i64 s.den):=Mek;have d0:wr.frozen? ⟨w.heap.size+2,0,none⟩=false:=Mee;have d1:wr.frozen? ⟨w.heap.size+2,1,none⟩=false:=Mee;have e0:w.heap.size<wr.heap.size:=Mcl;have e1:w.heap.size+1<wr.heap.size:=Mcl;have e2:w.heap.size+2<wr.heap.size:=Mcl;have e3:w.heap.size+2≠wr.heap.size:=Mcl;by_cases aa:k<ps.length
 ·rw[List.drop_eq_getElem_cons aa]at hx;obtain⟨b,off,rfl,hb,hc⟩:=(hS.keep hB).at aa;have vZ:=(hS.keep hB).take k;generalize hp:ps[k]=p at*;obtain⟨pn,pu,pd⟩:=p;have h0:wr.cell? ⟨b,off+k*3,none⟩=some (.string pn):=hc 0 _ rfl;have h1:wr.cell? ⟨b,off+k*3+1,none⟩=some (.int .i64 pu):=hc 1 _ rfl;have h2:wr.cell? ⟨b,off+k*3+2,none⟩=some (.int .i64 pd):=hc 2 _ rfl;have HP:=Lib.hid hp;have HF:=Lib.hid dL;have H0:=Lib.hid aw;have HK:=Lib.hid kx;have HS:=Lib.hid vZ;have HX:=Lib.hid hx;have HH:=Lib.hid (show ps.length<=100000 by omega);have fN:(k:Int)<=(c:Int):=Mcl;have aT:(0:Int)<=(k:Int):=Mcl;have jv:(k:Int)<(ps.length:Int):=Mcl;have cN:(ps.take k).length=k:=Mc6;have HT:=Lib.hid cN;clear hc hS vZ hp dL aw kx hx cN
  go_upto_region 10 with(go_at_call 83
                         refine(zcO _ _ eg (fun q=>zae q.name pn) _ k _ (ps.take k) _ HT.out.symm (by rw[HT.out];have:=HH.out;omega) (HS.out.keep (n:=wr.heap.size) Bw) (zlh _ pn _ _ Mco McN)).mono ?_
                         intro e wq hq;rcases Ret.bools hq with⟨zq,rfl,⟨hb,rfl⟩|⟨hb,rfl⟩⟩<;>clear hq)
  all_goals go_wp2_with (first
   |(go_at_call 120;refine(zdM _ _ _).mono ?_;intro e wq hq;rcases Ret.bools hq with⟨zq,rfl,⟨hb,rfl⟩|⟨hb,rfl⟩⟩<;>clear hq)
   |(go_at_call 142;refine(zn6 s pu pd _ (HF.out.small (Rat.le_trans Mcn H0.out) (cast_le HK.out Mcl)) McV).mono ?_;rintro e w1 ⟨rfl,z1,rfl⟩;simp only[za9]))
  all_goals first
   |(go_ret
     exact Ret.of (zaP (by rw[HX.out];simp[zcp,zgV,zed,ze4, *])) Bw)
   |(go_round
     case rel=>
      refine⟨k+1,by omega,by go_num,s,(by rw[HX.out,List.take_succ_eq_append_getElem aa,HP.out];simp[zcp,RPart.rat,zed,ze4, *]:_=_),HF.out,H0.out,Rat.le_trans HK.out (natUp k),Bw,by simp[zag];omega,by repeat(first|assumption|with_reducible refine zak ?_|with_reducible refine zb9 ?_|with_reducible refine J_ne Mcl ?_),by repeat(first|assumption|with_reducible refine zak ?_|with_reducible refine zb9 ?_|with_reducible refine J_ne Mcl ?_),?_⟩;repeat(first|assumption|with_reducible refine zak ?_|with_reducible refine zb9 ?_|with_reducible refine J_ne Mcl ?_)
     case measure=>simp[intOf];omega)
 ·exact Mb1):P:=h
theorem Mn (h:P:=by
 refine OnM 9 true fun K hK=> ?_
 refine zal (v:= .slice V4 s.children.length c4') (n:=s.children.length) (m:=1) rfl _ _ rfl zgo zbk zdB rfl (xs:=s.children) (ys:=[(d.frm,tn)]) o9 bu.out.symm rfl rfl (zmQ (p:=(d.frm,tn)) n9) Mct McE McH ?_;intro v5 w5 g1 g2 g3;obtain⟨A5,c5',ei,_,_⟩:=g1.sl zbk;rw[List.length_append,<-bu.out]at ei;subst ei;have aj:Below WX.heap.size WX w5:=Below.grown e9 g2 Md1 (fun j hj=>(o9.ge j hj).1);have ca:=bA.out.trans (aj.mono dQ);refine NxM hK fun hHeld=> ?_
 clear hK K;refine OnM 10 true fun K hK=> ?_
 go_simp
 refine NxM hK fun hHeld=> ?_
 clear hK K;obtain⟨⟨xs0,xd0,xr0⟩,⟨s0,s1,s2,s3,s4,s5,s6⟩,⟨d0,d1,d2,d3,d4,d5,d6⟩,⟨r0,r1,r2,r3,r4,r5,r6⟩,rf,ls,ld,lr⟩:=ddF (ax.out w5 (ca));have sf:=frz xs0;refine OnM 11 true fun K hK=> ?_
 go_simp
 refine NxM hK fun hHeld=> ?_
 clear hK K;refine zaQ Mcm ?_ _;clear hHeld;have G1:=Lib.hid g1;have vp:=Lib.hid aj;have aH:=Lib.hid ca;have X0:=Lib.hid xs0;have X2:=Lib.hid xr0;clear g1 g2 g3 aj ca h1 h2 h3 aD;clear xs0 xd0 xr0 s0 s1 s2 s3 s4 s5 s6 d0 d1 d2 d3 d4 d5 d6 r0 r1 r2 r3 r4 r5 r6 rf ls ld lr;clear sf;go_wp2_with fail
 go_meet
 refine⟨by first|rfl|trivial,A5,c5',?_,J_ne Mcl X2.out,(G1.out.kept (zau _ _ _ _) X0.out Mcn).ro',zaO (ak.out.trans (aH.out.mono aw)) (Nat.le_refl _) _⟩;have:=Joins.block_setCell (i:=1) X0.out (.slice A5 (s.children.length+1) c5')
 simpa using this):P:=h
theorem Mo (h:P:=by
 refine OnM 6 true fun K hK=> ?_
 refine zal (v:= .slice V4 rd.length c4') (n:=rd.length) (m:=1) rfl _ _ rfl zgw zcj zgv rfl (xs:=dvs) (ys:=[(⟨d,B,c⟩:DV)]) o9 bu.out.symm rfl rfl (sl_deed d B c n9) Mct McE McH ?_;intro v5 w5 g1 g2 g3;obtain⟨A5,c5',ei,_,_⟩:=g1.sl zcj;rw[List.length_append,<-bu.out]at ei;subst ei;have aj:Below WX.heap.size WX w5:=Below.grown e9 g2 Md1 (fun j hj=>(o9.ge j hj).1);have ca:=bA.out.trans (aj.mono dQ);refine NxM hK fun hHeld=> ?_
 clear hK K;refine OnM 7 true fun K hK=> ?_
 go_simp
 refine NxM hK fun hHeld=> ?_
 clear hK K;obtain⟨⟨xs0,xd0,xr0⟩,⟨s0,s1,s2,s3,s4,s5,s6⟩,⟨d0,d1,d2,d3,d4,d5,d6⟩,⟨r0,r1,r2,r3,r4,r5,r6⟩,rf,ls,ld,lr⟩:=ddF (ax.out w5 (ca));have sf:=frz xs0;refine OnM 8 true fun K hK=> ?_
 go_simp
 refine NxM hK fun hHeld=> ?_
 clear hK K;refine zaQ Mcm ?_ _;clear hHeld;have G1:=Lib.hid g1;have vp:=Lib.hid aj;have aH:=Lib.hid ca;have X0:=Lib.hid xs0;have X2:=Lib.hid xr0;clear g1 g2 g3 aj ca h1 h2 h3 aD;clear xs0 xd0 xr0 s0 s1 s2 s3 s4 s5 s6 d0 d1 d2 d3 d4 d5 d6 r0 r1 r2 r3 r4 r5 r6 rf ls ld lr;clear sf;go_wp2_with fail
 go_meet
 refine⟨by first|rfl|trivial,A5,c5',?_,J_ne Mcl X2.out,(G1.out.kept (zau _ _ _ _) X0.out Mcn).ro',zaO (ak.out.trans (aH.out.mono aw)) (Nat.le_refl _) _⟩;have:=Joins.block_setCell (i:=5) X0.out (.slice A5 (rd.length+1) c5')
 simpa using this):P:=h
theorem Mp (h:P:=by
 refine OnM 6 true fun K hK=> ?_
 refine zal (v:= .slice V4 wd.length c4') (n:=wd.length) (m:=1) rfl _ _ rfl zgw zcj zgv rfl (xs:=dvs) (ys:=[(⟨d,B,c⟩:DV)]) o9 bu.out.symm rfl rfl (sl_deed d B c n9) Mct McE McH ?_;intro v5 w5 g1 g2 g3;obtain⟨A5,c5',ei,_,_⟩:=g1.sl zcj;rw[List.length_append,<-bu.out]at ei;subst ei;have aj:Below WX.heap.size WX w5:=Below.grown e9 g2 Md1 (fun j hj=>(o9.ge j hj).1);have ca:=bA.out.trans (aj.mono dQ);refine NxM hK fun hHeld=> ?_
 clear hK K;refine OnM 7 true fun K hK=> ?_
 go_simp
 refine NxM hK fun hHeld=> ?_
 clear hK K;obtain⟨⟨xs0,xd0,xr0⟩,⟨s0,s1,s2,s3,s4,s5,s6⟩,⟨d0,d1,d2,d3,d4,d5,d6⟩,⟨r0,r1,r2,r3,r4,r5,r6⟩,rf,ls,ld,lr⟩:=ddF (ax.out w5 (ca));have sf:=frz xs0;refine OnM 8 true fun K hK=> ?_
 go_simp
 refine NxM hK fun hHeld=> ?_
 clear hK K;refine zaQ Mcm ?_ _;clear hHeld;have G1:=Lib.hid g1;have vp:=Lib.hid aj;have aH:=Lib.hid ca;have X0:=Lib.hid xs0;have X2:=Lib.hid xr0;clear g1 g2 g3 aj ca h1 h2 h3 aD;clear xs0 xd0 xr0 s0 s1 s2 s3 s4 s5 s6 d0 d1 d2 d3 d4 d5 d6 r0 r1 r2 r3 r4 r5 r6 rf ls ld lr;clear sf;go_wp2_with fail
 go_meet
 refine⟨by first|rfl|trivial,A5,c5',?_,J_ne Mcl X2.out,(G1.out.kept (zau _ _ _ _) X0.out Mcn).ro',zaO (ak.out.trans (aH.out.mono aw)) (Nat.le_refl _) _⟩;have:=Joins.block_setCell (i:=4) X0.out (.slice A5 (wd.length+1) c5')
 simpa using this):P:=h
theorem Mq (h:P:=by
 refine OnM 9 true fun K hK=> ?_
 refine zal (v:= .slice V4 s.marriages.length c4') (n:=s.marriages.length) (m:=1) rfl _ _ rfl zgo zbk zdB rfl (xs:=s.marriages) (ys:=[(d.frm,tn)]) o9 bu.out.symm rfl rfl (zmQ (p:=(d.frm,tn)) n9) Mct McE McH ?_;intro v5 w5 g1 g2 g3;obtain⟨A5,c5',ei,_,_⟩:=g1.sl zbk;rw[List.length_append,<-bu.out]at ei;subst ei;have aj:Below WX.heap.size WX w5:=Below.grown e9 g2 Md1 (fun j hj=>(o9.ge j hj).1);have ca:=bA.out.trans (aj.mono dQ);refine NxM hK fun hHeld=> ?_
 clear hK K;refine OnM 10 true fun K hK=> ?_
 go_simp
 refine NxM hK fun hHeld=> ?_
 clear hK K;obtain⟨⟨xs0,xd0,xr0⟩,⟨s0,s1,s2,s3,s4,s5,s6⟩,⟨d0,d1,d2,d3,d4,d5,d6⟩,⟨r0,r1,r2,r3,r4,r5,r6⟩,rf,ls,ld,lr⟩:=ddF (ax.out w5 (ca));have sf:=frz xs0;refine OnM 11 true fun K hK=> ?_
 go_simp
 refine NxM hK fun hHeld=> ?_
 clear hK K;refine zaQ Mcm ?_ _;clear hHeld;have G1:=Lib.hid g1;have vp:=Lib.hid aj;have aH:=Lib.hid ca;have X0:=Lib.hid xs0;have X2:=Lib.hid xr0;clear g1 g2 g3 aj ca h1 h2 h3 aD;clear xs0 xd0 xr0 s0 s1 s2 s3 s4 s5 s6 d0 d1 d2 d3 d4 d5 d6 r0 r1 r2 r3 r4 r5 r6 rf ls ld lr;clear sf;go_wp2_with fail
 go_meet
 refine⟨by first|rfl|trivial,A5,c5',?_,J_ne Mcl X2.out,(G1.out.kept (zau _ _ _ _) X0.out Mcn).ro',zaO (ak.out.trans (aH.out.mono aw)) (Nat.le_refl _) _⟩;have:=Joins.block_setCell (i:=2) X0.out (.slice A5 (s.marriages.length+1) c5')
 simpa using this):P:=h
theorem Mr (h:P:=by
 go_wp2_with (first
               |(go_at_call 67;go_must(refine(zc3 _ _ _ _).mono ?_);rintro e wq ⟨rfl,rfl⟩;(first|rw[iD]|rw[mw]|rw[hy9]))
               |(go_at_call 31;go_must(refine(zcL _ _).mono ?_);rintro e wq ⟨rfl,rfl⟩;rw[fj])
               |(go_at_call 30;go_must(refine(zcK _ _ McV).mono ?_);rintro e wq ⟨rfl,rfl⟩;(first|rw[df]|rw[gR]|rw[nJ])))
 go_meet
 exact⟨zaP (by simp[zby, *]),by first|exact True.intro|rfl⟩):P:=h
theorem Ms (h:P:=by
 go_wp2_with (first
               |(go_at_call 67;go_must(refine(zc3 _ _ _ _).mono ?_);rintro e wq ⟨rfl,rfl⟩;(first|rw[iD]|rw[mw]|rw[hy9]))
               |(go_at_call 31;go_must(refine(zcL _ _).mono ?_);rintro e wq ⟨rfl,rfl⟩;rw[fj])
               |(go_at_call 30;go_must(refine(zcK _ _ McV).mono ?_);rintro e wq ⟨rfl,rfl⟩;(first|rw[df]|rw[gR]|rw[nJ])))
 go_ret
 exact Ret.of (zb5 HE.out.symm) ak.out):P:=h
theorem Mt (h:P:=by
 intro v6 w6 h1 h2 h3;obtain⟨A6,c6,dE,_,_⟩:=h1.sl zaB;rw[List.length_append]at dE;subst dE;have wV:=o1.ge;have dN: ∀k,k<wc.heap.size->w6.heap[k]?=wc.heap[k]?:=fun k hk=>(h2.block k (by have:=oK.size;simp at this⊢;omega) (fun e=>by have:=(wV k e.symm).1;simp at this;omega)).trans (oK.block k (by simpa using hk))
 have sE:zbv w6 wr.heap.size g.place g.cls frm g.fin (.slice A1 g.holders.length c1) (.slice D g.died.length dc):=(dN _ bK).trans fC.out;have kv:wc.heap.size<=w6.heap.size:=by have a:=oK.size;have b:=h2.size;simp at a b⊢;omega
 have y3:w6.cell? ⟨w.heap.size,3,none⟩=some (.string fr):=(World.cell?_of_block (w:=wc) (dN w.heap.size Mcl)).trans d3;have y5:w6.cell? ⟨T,5,none⟩=some (.slice D g.died.length dc):=(World.cell?_of_block (w:=wc) (dN T Mcl)).trans q5;have jB:=sE;unfold zbv at jB;obtain⟨-,-,-,-,-,u5⟩:=cF6 jB;have fu5:w6.frozen? ⟨wr.heap.size,5,none⟩=false:=by simp only[World.frozen?,jB];rfl
 have hx6:=zab sE;refine NxM hK (fun hHeld=> ?_) (⟨y3,y5⟩);clear hK K;refine TkH 9 ?_;refine OnH 10 fun K hK=> ?_
 go_simp
 refine NxM hK (fun hHeld=> ?_) (⟨(World.cell?_setCell_far _ _ _ _ (by show wr.heap.size≠w.heap.size;omega)).trans y3,(World.cell?_setCell_far _ _ _ _ (by show wr.heap.size≠T;omega)).trans y5⟩);clear hK K;refine wpAnyH_done Mcm ?_ _;go_wp2_with fail
 go_meet
 have aE:Below wc.heap.size wc w6:=Below.grown (a:=wc) (B:=wc.heap.size) (B_drop oK) h2 (by have:=oK.size;simp at this⊢;omega) (fun j hj=>by have:=(wV j hj).1;simp at this;omega);have jo:za7 (.slice A1 g.holders.length c1)≠some wr.heap.size:=zkI jX.out fC.out Mcn
 exact⟨A6,c6,tomb_set5 sE _,OwnS.base_le (h1.grown (zau _ _ _ _) (.inr fun e=>by have:=(h1.ge _ e).1;simp at this;omega)) Mcq,(jX.out.keep aE).grown (zau _ _ _ _) (.inr jo),zaO (ax.out.trans (aE.mono Mcl)) Mco _⟩):P:=h
theorem Mu (h:P:=by
 (refine zaj Mcm Mcm ?_
  repeat(first|go_big_quiet_skip|(go_big_quiet_want;go_big_quiet_op;first|go_big_quiet_on|(apply Exists.intro;refine⟨fun _=> ?_,?_⟩;(go_at_call 36;exact quietx (zhS _));go_big_quiet_on)))
  refine wpQuiet_nil ?_
  rintro _ ⟨zq,rfl⟩)
 go_wp2_with fail
 go_ret
 exact Ret.of (zaP (by rw[HE.out];simp[fm5, *])) (zbc aJ.out zq)):P:=h
theorem Mv (h:P:=by
 refine bodyPost_ret (zbA rfl _ rfl rfl (zc0 xr5)) rfl ?_
 exact⟨_,_,_,_,_,_,_,rfl,rfl,zc9 (ak.out.trans (aH.out.mono aw)) (show w.heap.size<=w.heap.size+2 by omega),fun h0=>(zc4 xr5 rfl).st (aB.out h0)⟩):P:=h
theorem Mw (h:P:=by
 go_enter Tryz.func14,Tryz.ntmps14
 go_wp2_with fail
 go_loopw [5] (fun i wr=> ∃j:Nat,j<=xs.length/\i= .int .i64 j/\ ∃z,wr=w.ext z) (fun i _=>xs.length-(intOf i).toNat)
 case atStart=>exact⟨0,Nat.zero_le _,rfl,zbb (Below.refl _ _)⟩
 case round=>
  obtain⟨j,hj,rfl,z,rfl⟩:=hrel;by_cases aa:j<xs.length
  ·obtain⟨b,off,rfl,hb,hc⟩:=hp.at aa;obtain⟨b',off',rfl,cK,aU⟩:=hq.at aa;have bD:(j:Int)<(xs.length:Int):=Mcl;have tQ:(0:Int)<=(j:Int):=Mcl;generalize xs[j]=x at*;have x0:w.cell? ⟨b,off+j*3,none⟩=some (.string x.name):=hc 0 _ rfl;have y0:w.cell? ⟨b',off'+j*3,none⟩=some (.string x.name):=aU 0 _ rfl;have x1:w.cell? ⟨b,off+j*3+1,none⟩=some (.int .i64 x.num):=hc 1 _ rfl;have y1:w.cell? ⟨b',off'+j*3+1,none⟩=some (.int .i64 x.num):=aU 1 _ rfl;have x2:w.cell? ⟨b,off+j*3+2,none⟩=some (.int .i64 x.den):=hc 2 _ rfl;have y2:w.cell? ⟨b',off'+j*3+2,none⟩=some (.int .i64 x.den):=aU 2 _ rfl;exact MbW
  ·have pL: ¬((j:Int)<(xs.length:Int)):=Mcl;go_wp2_with fail
   go_ret
   exact Ret.of rfl Bw):P:=h
theorem Mx (h:P:=by
 refine bodyPost_ret (v:=zmB (zbR day) (zbg day) (day-zaD (zbR day) (zbg day)+1)) ?_ rfl ?_
 ·rw[HN.out,kK.out];have g2:=J_set3 (a:= .int .i64 y) (b:= .int .i64 m) (c:= .int .i64 (day-zaD y m+1)) (J_ne (b:=w.heap.size+1) (o:=2) (v:= .int .i64 (day-zaD y m+1)) Mcl g0);refine zlq rfl _ _ w.heap.size _ _ _ rfl ?_ ?_ ?_;all_goals simp[World.cell?,g2]
 ·exact⟨HD.out,Ret.of rfl (by repeat(first|exact B_refl|exact Below.refl _ _|assumption|with_reducible refine zac ?_ _|with_reducible refine zbc ?_ _|with_reducible refine zaM ?_|with_reducible refine zd4 ?_ _|with_reducible refine zaO ?_ Mdk _))⟩):P:=h
theorem My (h:P:=by
 have qO:=Lib.hid wk;have fI:=Lib.hid (q9.out.trans (((zaM mj).trans (Ch.mono mj.size)).mono (by have:=q9.out.size;omega)));have dj:=Lib.hid (fun W (h:Below w5.heap.size w5 W)=>zdG ys YA yc W (by have:=nt.out;omega) (qO.out.keep h));clear wk Ch;go_upto_region 11 with fail
 cases hlg:zaE ys
 ·rw[hlg]at dj;go_wp2_with (go_at_call 44;go_must(refine(dj.out _ (Below.refl _ _)).mono ?_);rintro e wq ⟨rfl,rfl⟩)
  rcases Be.out with h|⟨h1,h2⟩
  ·obtain⟨g1,g2,g3⟩:=uQ.out ys h;go_round
   case rel=>exact⟨k+1,ys,YA,yc,aq.out,rfl,by go_num,g1,g2,g3,fun _=>An.out,qO.out,fI.out⟩
   case measure=>have:=aq.out;simp only[intOf];omega
  ·rw[hlg]at h2;cases h2
 ·rw[hlg]at dj;go_wp2_with (go_at_call 44;go_must(refine(dj.out _ (Below.refl _ _)).mono ?_);rintro e wq ⟨rfl,rfl⟩)
  go_ret
  have l7:R=none:=by
   rcases Be.out with h|⟨h1,h2⟩
   ·have:=(uQ.out ys h).2.1.out.small;rw[hlg]at this;cases this
   ·exact ng.out h1
  exact⟨YA,yc,ys,rfl,qO.out,ak.out.trans ((aG.out.trans (fI.out.mono im)).mono lY),nt.out, .inr ⟨l7,hlg⟩⟩):P:=h
theorem Mz (h:P:=by
 go_wp2_with (first
               |(go_at_call 97;refine(zbj _ _ _ _).mono ?_;intro e wq hq;rcases Ret0.bools hq with⟨rfl,⟨hb,rfl⟩|⟨hb,rfl⟩⟩<;>clear hq)
               |(go_at_call 59;refine(zcN _ _).mono ?_;intro e wq hq;rcases Ret0.bools hq with⟨rfl,⟨hb,rfl⟩|⟨hb,rfl⟩⟩<;>clear hq)
               |(go_at_call 58;refine(zca _ _ McV).mono ?_;intro e wq hq;rcases Ret0.bools hq with⟨rfl,⟨hb,rfl⟩|⟨hb,rfl⟩⟩<;>clear hq)
               |(go_at_call 83;refine(zcO _ _ eg (fun q:RPart=>!zaR q.name) _ _ _ ps _ rfl HL.out (HS.out.keep (n:=w.heap.size) Bw) (zgl ps _ HN.out)).mono ?_;intro e wq hq;rcases Ret.bools hq with⟨zq,rfl,⟨hb,rfl⟩|⟨hb,rfl⟩⟩<;>clear hq)
               |(go_at_call 122;refine(zd8 ⟨word,fp,ff,fc,fy,fa,fpt,fs⟩ _ _ _ _ _ _ ps _ _ _ _ rfl Mcl HC.out (HS.out.keep (n:=w.heap.size) Bw)).mono ?_;intro e wq hq;rcases Ret.bools hq with⟨zq,rfl,⟨hb,rfl⟩|⟨hb,rfl⟩⟩<;>clear hq))
 all_goals go_meet
 all_goals(refine⟨zaP (by first|exact hb.symm|simp[zby,noB, *]),Bw,by first|omega|(simp[zag];done)|(simp[zag];omega),?_⟩;repeat(first|assumption|with_reducible refine zak ?_|with_reducible refine zb9 ?_|with_reducible refine J_ne Mcl ?_))):P:=h
theorem MC (h:P:=by
 go_wp2_with fail
 all_goals go_meet
 all_goals(refine⟨zaP (by first|(simp[noB, *];done)|(rw[Bool.eq_iff_iff];simp[noB];simp[*];done)|(cases fp<;>cases ff<;>simp_all[noB])),Bw,by first|omega|(simp[zag];done)|(simp[zag];omega),?_,?_⟩)
 all_goals(repeat(first|assumption|with_reducible refine zak ?_|with_reducible refine zb9 ?_|with_reducible refine J_ne Mcl ?_))):P:=h
theorem MD (h:P:=by
 have uN:=Lib.hid iU;have jG:=Lib.hid bH;clear iU bH;refine hK.out _ _ ?_ (fun hHeld=> ?_);focus((try dsimp only);refine⟨?_,?_,?_,?_,?_,?_⟩<;>assumption)
 clear hK K;try simp only[Act.put,List.setIfInBounds_toArray,List.set_cons_zero,List.set_cons_succ]
 refine wpAnyH_done Mcm ?_ _;go_wp2_with fail
 go_end0
 refine⟨rfl,⟨_,uN.out,(zgy _ _ _ kL.out).1,fun k=> ?_⟩,?_,?_⟩
 ·show _\/mget eqS k (mput eqS n _ mm)=some (za9 (zaf (setP out n (zbi (zaf out n+f))) k));rw[zfi,zl3 HG.out,gz.out];cases hk:zae k n
  ·simp only[Bool.false_eq_true,if_false];show _\/_;rcases uG.out k with⟨a1,a2⟩|a
   ·refine .inl ⟨a1,?_⟩;show zaf (setP out n (zbi (zaf out n+f))) k=0;rw[zl3 HG.out,hk];exact a2
   ·exact .inr a
  ·exact .inr rfl
 ·show MarkAt w6 C (fl||bigQ (zaf out n+f));rw[gz.out];exact N1.out.grown jG.out tq
 ·exact(Two2.of_below Bw).trans ((Two2.grownC N2.out).trans (Two2.grownM jG.out))):P:=h
theorem ME (h:P:=by
 intro W B hb;have f0:W.cell? ⟨B,0,none⟩=some (.int .i64 0):=by simp[World.cell?,hb]
 have f1:W.cell? ⟨B,1,none⟩=some (.int .i64 0):=by simp[World.cell?,hb]
 have fz: ∀j,W.frozen? ⟨B,j,none⟩=false:=fun j=>by simp[World.frozen?,hb]
 go_simp
 with_reducible exact⟨zen hb,zpg _ _ _ _⟩):P:=h
theorem MF (h:P:=by
 (go_wp2_with fail
  go_ret
  exact Ret.of (zb5 McD) Bw)):P:=h
theorem MG (h:P:=by
 go_wp2_with fail
 go_round
 case rel=>have aj:=aJ.out.trans (zbc (Below.refl W3.heap.size W3) zq |>.mono jl)
           have KB:=bX.out.keep aj;have e1:(dx++[x])++gxs.drop (k+1)=dx++gxs.drop k:=by rw[At.out,List.append_assoc];rfl
           refine⟨k+1,l,f,dx++[x],aq.out,by go_num,rfl,rfl,by rw[List.length_append,iy];rfl,Lib.hid fun _=>by rw[e1];exact KB,Lib.hid fun y hy=> ?_,nS,Lib.hid fun fk=> ?_,HB.out.trans (aj.mono aK),Nat.le_trans jE aj.size⟩
           ·rcases List.mem_append.1 hy with hy|hy
            ·exact(gn.out y hy).keep aj
            ·rw[List.mem_singleton.1 hy];exact .inl bu.out
           ·obtain⟨h1,h2⟩:=kL.out fk;exact⟨by rw[h1,Ef.out,List.map_append];rfl,h2⟩
 case measure=>have:=aq.out;simp only[intOf];omega):P:=h
theorem MH (h:P:=by
 go_round
 case rel=>exact⟨k+1,aq.out,by go_num,by first|exact True.intro|rfl,HE.out⟩
 case measure=>have:=aq.out;simp only[intOf];omega):P:=h
theorem MI (h:P:=by
 refine⟨0,Nat.zero_le _,rfl,0,HX,fits_zero,Rat.le_refl,Rat.le_refl,?_,?_,?_,?_,?_⟩
 ·exact Bw
 ·simp
 ·exact zak (zak (zar _ _ _ rfl))
 ·exact zak (zar _ _ _ Mco)
 ·exact zar _ _ _ Mco):P:=h
theorem MJ (h:P:=by
 have g4:wq.heap[P]?=some (zbt part):=(g3.others P Mcq Mcl Mcl).trans (zak Ie.out);have g5:Two2 w wq C m:=DG.out.trans (Two2.trans McA g3);have G1:=Lib.hid g1;have G2:=Lib.hid g2;have G4:=Lib.hid g4;have G5:=Lib.hid g5;clear g1 g2 g3 g4 g5;go_wp2_with fail
 go_round
 case rel=>exact⟨k+1,_,_,by omega,by go_num,eu.out.symm,G1.out,G2.out,G5.out,G4.out⟩
 case measure=>simp[intOf];omega):P:=h
theorem MK (h:P:=by
 have HX:Hid (R=(0,12)):=by show _=_;rw[HR.out,aO,if_neg (by simp[h0])]
 have gU:=Lib.hid aO;clear HR aO h0
 go_wp2_with (go_at_call 28
              go_must(refine(bE.out _ Bw).mono ?_)
              rintro e wq ⟨h1,⟨ai,_⟩|⟨_,_,rfl⟩|⟨_,base,b,la,co,B,T,i,g,hi,_⟩⟩
              ·exact absurd HE.out ai
              rotate_left 1
              ·rw[gU.out]at hi;cases hi
              go_must(have bf:Below w.heap.size w wq:=Below.trans Bw (h1.mono Mco))
              have cO:=Lib.hid bf
              clear h1 bf)
 go_ret2
 rw[HX.out]
 exact Ret.of rfl cO.out):P:=h
theorem ML (h:P:=by
 have HX:Hid (R=(0,E)):=by show _=_;rw[HR.out,if_pos Mdm]
 have HE:=Lib.hid h0;have heb:(E != 0)=true:=Mdm;clear HR h0
 go_wp2_with (go_at_call 28
              go_must(refine(bE.out _ Bw).mono ?_)
              rintro e wq ⟨h1,⟨_,rfl⟩|⟨h0,_⟩|⟨h0,_⟩⟩;rotate_left 1
              ·exact absurd h0 HE.out
              ·exact absurd h0 HE.out
              go_must(have bf:Below w.heap.size w wq:=Below.trans Bw (h1.mono Mco))
              have cO:=Lib.hid bf
              clear h1 bf)
 go_ret2
 rw[HX.out]
 exact Ret.of rfl cO.out):P:=h
theorem MM (h:P:=by
 have cm:Hid (R=4):=by show _=_;rw[HR.out];simp[zct, *]
 clear HR HK dB;go_wp2_with (go_at_call 58;refine(zca _ _ McV).mono ?_;rintro e wq ⟨rfl,rfl⟩;rw[hq])
 go_ret
 rw[cm.out]
 exact Ret.of rfl Bw):P:=h
theorem MN (h:P:=by
 have HE:Hid (R=ixI (zlQ place day) gs (k+1)):=by show _=_;rw[au.out,if_neg (by unfold zlQ zaU;simp[dD, *])]
 go_wp2_with fail
 go_round
 case rel=>exact⟨k+1,aq.out,by go_num,HE.out,dR.out⟩
 case measure=>have:=aq.out;simp only[intOf];omega):P:=h
theorem MO (h:P:=by
 (try simp only)
 (repeat' split)<;>intro h<;>first|rfl|exact absurd rfl h):P:=h
theorem MP (h:P:=by
 go_upto_region 6 with fail
 (refine zaj Mcm Mcm ?_
  repeat(first|go_big_quiet_skip|(go_big_quiet_want;go_big_quiet_op;first|go_big_quiet_on|(apply Exists.intro;refine⟨fun _=> ?_,?_⟩;(fail);go_big_quiet_on)))
  refine wpQuiet_nil ?_
  rintro _ ⟨zq,rfl⟩)
 go_wp2_with fail
 go_round
 case rel=>exact⟨k+1,aq.out,by go_num,HE,zbc HB.out zq⟩
 case measure=>have:=aq.out;simp only[intOf];omega):P:=h
theorem MQ (h:P:=by
 subst he;have bel:Below W.heap.size W W':=by rw[hz];exact zam W z
 exact⟨_,rfl,_,_,_,[],_,[],oo,trodAll_mk1 (shut_bool Tryz.underlying4 _),(trodAll_cons_mk (Below.trod zkp Mcm (of_decide_eq_true Mcm) k0 bel lt0) (trodAll_cons_mk (Below.trod zkp Mcm (of_decide_eq_true Mcm) k1 bel lt1) (trodAll_cons_mk (Below.trod zkp Mcm (of_decide_eq_true Mcm) k2 bel lt2) trodAll_mk0))),rfl,bel.frame _,fun h=>by cases h⟩):P:=h
theorem MR (h:P:=by
 gi_wp2
 have g2:=Boxed.set (.string ⟨#[]⟩) T2.out;have HD:=Lib.hid hd;have bN: ∀i,SpIx s x w .ret (pre++[(i,y1,y2)]) (wr.setCell ⟨w.heap.size+1+1,0,none⟩ (.string ⟨#[]⟩)):=fun i=>⟨⟨rfl,pre.map Prod.snd,(y1,y2),by simp,HP.out,HM.out,by rw[HO.out,HD.out];exact g2⟩,zaO (aI.trans (aW.out.mono Mcl)) Mcq _⟩
 first
  |exact⟨(KeepsOthers.setCell _ _ _).from _,bN _⟩
  |(trace_state;fail "ret")):P:=h
theorem MS (h:P:=by
 have C1:=Lib.hid (((show Below W2.heap.size W2 w6 from aC.out).block _ l0).trans C1.out);have HB:=Lib.hid (HB.out.trans ((show Below W2.heap.size W2 w6 from aC.out).mono HB.out.size));clear r0 r1 l0;obtain⟨r0,r1⟩:=zba C1.out;have l0:=zab C1.out;clear aH aC cH cQ;go_wp2_with (go_at_call 11;go_must(refine(fA.out _ Mc4 _ (zcx (zar _ _ _ rfl))).mono ?_);rintro e wq ⟨rfl,z,rfl⟩)
 go_ret
 exact Ret.of rfl (zbc (zac HB.out _) z)):P:=h
theorem MT (h:P:=by
 go_wp2_with fail
 go_meet
 exact⟨zaP (by simp[fm2, *]),by first|exact True.intro|rfl⟩):P:=h
theorem MU (h:P:=by
 go_wp2_with fail
 go_ret
 exact Ret.of (zaP HE.out.symm) HB.out):P:=h
theorem MV (h:P:=by
 clear bn;go_wp2_with (go_at_call 102;go_must(refine(sY.out _).mono ?_);rintro e wq ⟨rfl,z,rfl⟩)
 rw[HE.out];refine bodyPost_ret (v:= .tuple #[za9 o, .bool false]) ?_ rfl ?_
 ·exact zgC rfl _ _ w.heap.size _ _ _ rfl rfl (by first|exact zb9 (zen g0)|exact zen (zb9 g0))
 ·exact Ret.of rfl (by first|exact zbc (zaO (zaO HB.out Mco _) Mco _) z|exact zaO (zaO (zbc HB.out z) Mco _) Mco _)):P:=h
theorem MW (h:P:=by
 go_roundg f'
 case measure=>omega
 case rel=>
  refine⟨f',y+1,Nat.le_refl _,by omega,by omega,by omega,HN,HC.out,by repeat(first|exact B_refl|exact Below.refl _ _|assumption|with_reducible refine zac ?_ _|with_reducible refine zbc ?_ _|with_reducible refine zaM ?_|with_reducible refine zd4 ?_ _|with_reducible refine zaO ?_ Mdk _),J_ne Mcl g0,?_⟩;have:=Joins.block_setCell (i:=0) g1 (.int .i64 (y+1))
  simpa using this):P:=h
theorem MX (h:P:=by
 go_wp2_with fail
 go_round
 case rel=>exact⟨k+1,es,by omega,by go_num,nh.out,by rw[am,mY.out,Option.toList_none,List.append_nil];exact Hl.out,aJ.out,by have:=eT.out;omega⟩
 case measure=>simp[intOf];omega):P:=h
theorem MY (h:P:=by
 refine znj rfl _ _ w.heap.size _ _ _ _ _ _ rfl ?_ ?_ ?_ ?_ ?_ ?_<;>simp[go_sem]):P:=h
theorem MZ (h:P:=by
 go_wp2_with (go_at_call 6;go_must(refine(kH.out _ MdL).mono ?_);rintro e wq ⟨rfl,z,rfl⟩)
 go_ret
 exact Ret.of rfl (zbc aG.out z)):P:=h
theorem M0 (h:P:=by
 refine zbV rfl _ _ _ _ _ rfl ?_ ?_
 ·simp[go_sem,hC]
 ·simp[go_sem,hC]):P:=h
theorem M3 (h:P:=by
 (repeat(first|exact zar _ _ _ (by simp[zag];done)|with_reducible refine zb9 ?_|with_reducible refine zak ?_))):P:=h
theorem M4 (h:P:=by
 rcases h with⟨rfl,_⟩|⟨g,o,c,cur,rfl,_,hg,_⟩
 ·simp[za7]
 ·intro h;simp only[za7,Option.some.injEq]at h;subst h;rw[hg]at hT;simp only[Option.some.injEq,Obj.cells.injEq]at hT
  exact ai hT.2.1.symm):P:=h
theorem M5 (h:P:=by
 unfold joinedFacts;repeat' with_reducible refine rjf_and ?_ ?_
 all_goals first
  |with_reducible exact rjf1
  |with_reducible exact rjf2
  |with_reducible exact rjf3
  |with_reducible exact rjf4
  |with_reducible exact rjf5
  |with_reducible exact rjf6
  |with_reducible exact rjf7
  |with_reducible exact rjf8
  |with_reducible exact rjf9
  |with_reducible exact rjf10
  |with_reducible exact rjf11
  |kernel_rfl):P:=h
theorem M7 (h:P:=by
 rw[MakeChecks.laidMetH_plain _ _ _ Mcm]at h;have h':laidMet Tryz.prog [("math/bits.deBruijn32tab",Rows.laid_math_bits_deBruijn32tab),("math/bits.deBruijn64tab",Rows.laid_math_bits_deBruijn64tab),("mortsafe/rule.lengths",Rows.laid_mortsafe_rule_lengths),("mortsafe/right.forms",Rows.laid_mortsafe_right_forms)] W:=h
 exact⟨zoU h'.tail.tail.tail,lens_laid h'.tail.tail,tz_laid h'.tail⟩):P:=h
theorem M8 (h:P:=by
 go_wp2_with (first
  |(go_at_call 97;refine(zbj _ _ _ _).mono ?_;rintro e wq ⟨rfl,rfl⟩;first|rw[v1]|rw[v2])
  |(go_at_call 107;refine(HG.out _).mono ?_;rintro e wq ⟨rfl,z,rfl⟩))
 go_ret
 exact Ret.of (zb5 yN.out.symm) (HB.out.trans (Below.mono (B:=wc.heap.size) Bw hs))):P:=h
theorem M9 (h:P:=by
 rw[zhR (f:=⟨_,_,_,_,_,_,_,_⟩) (.inl rfl)]
 cases noB fr<;>cases noB pl<;>cases hy:(yr==0)<;>cases hc:(cl==0)<;>simp_all):P:=h
theorem Maa (h:P:=by
 go_wp2_with fail
 go_ret
 exact⟨by rw[HE.out];rfl,rfl⟩):P:=h
theorem Mab (h:P:=by
 unfold za6 at hd;simp only[Bool.and_eq_true,decide_eq_true_eq]at hd;refine⟨law.den.toNat,by omega,by omega,law.num,?_⟩;have hz:(law.den:Rat)≠0:=ratI Mcl;have e:((law.den.toNat:Nat):Rat)=(law.den:Rat):=by rw[<-Rat.intCast_natCast,Int.toNat_of_nonneg Mcl]
 rw[Rat.divInt_eq_div,e]
 grind):P:=h
theorem Mac (h:P:=by
 go_round
 case rel=>exact⟨0+1,by omega,by go_num,by first|exact True.intro|rfl,fun j s hj hs=>by
  rcases Nat.lt_succ_iff_lt_or_eq.1 hj with hj|rfl
  ·exact HK.out j s hj hs
  ·simp at hs;rw[<-hs];exact ng.out⟩
 case measure=>simp[intOf]):P:=h
theorem Mad (h:P:=by
 go_round
 case rel=>exact⟨1+1,by omega,by go_num,by first|exact True.intro|rfl,fun j s hj hs=>by
  rcases Nat.lt_succ_iff_lt_or_eq.1 hj with hj|rfl
  ·exact HK.out j s hj hs
  ·simp at hs;rw[<-hs];exact ng.out⟩
 case measure=>simp[intOf]):P:=h
theorem Mae (h:P:=by
 go_round
 case rel=>exact⟨2+1,by omega,by go_num,by first|exact True.intro|rfl,fun j s hj hs=>by
  rcases Nat.lt_succ_iff_lt_or_eq.1 hj with hj|rfl
  ·exact HK.out j s hj hs
  ·simp at hs;rw[<-hs];exact ng.out⟩
 case measure=>simp[intOf]):P:=h
theorem Maf (h:P:=by
 have hw:Region.wanted o (yielded ops a.tmps)=true:=by simp[Region.wanted,bT]
 rw[if_pos hw];unfold Oper.wp;simp[execOp,ho,hx,hi,hu,hrun,Result.andThen]
 exact h):P:=h
theorem Mag (h:P:=by
 go_wp2_with (go_at_call 26;refine(bE.out _ Bw).mono ?_;rintro e wq ⟨rfl,z,rfl⟩;simp only[zlu,Option.map_none])
 go_ret
 exact zbN HW.out Bw HG.out):P:=h
theorem Mah (h:P:=by
 go_wp2_with (go_at_call 41;go_must(refine(Hn.out _ (zbc ak.out z)).mono ?_);rintro e wq ⟨v,rfl,o,b⟩;obtain⟨VA,vc,rfl,_,_⟩:=o.sl zaB;have GF:=Lib.hid ((zbc ak.out z).trans (b.mono Mcu));clear o b)
 go_ret
 exact Ret.of (zaP (by simp[hz])) GF.out):P:=h
theorem Mai (h:P:=by
 refine slw_of ((zjd ee cv Mcn).sl zcj) (by rw[List.map_append,yM.out];rfl) fun y hy=> ?_
 rcases List.mem_append.1 hy with hy|hy
 ·exact⟨(sP.out y hy).1,(sP.out y hy).2.keep dq⟩
 ·rw[List.mem_singleton.1 hy]
  exact⟨lA.out,HS.out _ dq⟩):P:=h
theorem Maj (h:P:=by
 go_round
 case rel=>exact⟨k+1,aq.out,by go_num,by rw[aB.out];exact H1.out,aJ.out⟩
 case measure=>have:=aq.out;simp only[intOf];omega):P:=h
theorem Mak (h:P:=by
 first
  |exact⟨(KeepsOthers.setCell _ _ _).from _,bN _⟩
  |(trace_state;fail "ret")):P:=h
theorem Mal (h:P:=by
 (go_wp2_with fail
  go_ret
  exact Ret.of (zb5 Mc5) Bw)):P:=h
theorem Mam (h:P:=by
 refine zbV rfl _ _ _ _ _ rfl ?_ ?_
 ·simp[go_sem]
 ·simp[go_sem]):P:=h
theorem Man (h:P:=by
 clear hR;go_wp2_with fail
 go_ret
 exact Ret.of (zaP HE.out.symm) Bw):P:=h
theorem Mao (h:P:=by
 go_wp2_with fail
 go_ret
 exact zbN HW.out Bw jg.out):P:=h
theorem Map (h:P:=by
 rw[zhR (f:=⟨_,_,_,_,_,_,_,_⟩) (.inl rfl)]
 cases noB fr<;>cases noB pl<;>cases hy:(yr==0)<;>cases hc:(cl==0)<;>cases ps<;>simp_all):P:=h
theorem Maq (h:P:=by
 go_wp2_with (at_builtin;refine zav (n:=xs.length) (m:=1) rfl _ _ rfl zdO zan zce rfl HO.out rfl rfl rfl HS.out McJ Mcl aQ ?_;intro v' w' h1 h2 h3)
 all_goals go_ret
 all_goals exact⟨_,rfl,h1,h2,h3⟩):P:=h
theorem Mar (h:P:=by
 go_quiet (fail)
 go_wp2_with fail
 go_meet
 exact⟨zaP (by simp[*]),zd4 (Below.refl _ _) _⟩):P:=h
theorem Mas (h:P:=by
 rw[List.getElem?_set_ne hj]at e2;have ai:T'≠T:=fun e=>by
  subst e;exact hj ((List.getElem?_inj (List.getElem?_eq_some_iff.1 hi).1 hT.nd).1 (hi.trans e1.symm))
 exact(hT.all j T' g e1 e2).kept hg hx ai Mcn Mcn):P:=h
theorem Mat (h:P:=by
 go_wp2_with (go_at_call 67;go_must(refine(zc3 _ _ _ _).mono ?_);rintro e wq ⟨rfl,rfl⟩)
 go_ret
 exact⟨rfl,rfl⟩):P:=h
theorem Mau (h:P:=by
 go_wp2_with fail
 go_ret
 exact Ret.of rfl Bw):P:=h
theorem Mav (h:P:=by
 have HE:=Lib.hid he;clear he;go_wp2_with fail
 go_round
 case rel=>exact⟨by first|exact True.intro|rfl, .inr (.inl ⟨by go_num,by rw[HE.out]⟩)⟩
 case measure=>simp only[intOf];decide):P:=h
theorem Maw (h:P:=by
 have:=zdT (t:=68) zcj (WX.drew.alloc (.cells #[.int .i64 d.kind, .int .i64 d.day, .string d.place, .string d.frm, .slice B d.to.length c, .int .i64 d.cls, .int .i64 d.years] 68)) WX.heap.size Mco
 simpa using this):P:=h
theorem Max (h:P:=by
 have HE:Hid (R=(k:Int)):=by show _=_;rw[au.out,if_pos (by unfold zlQ zaU;simp[dD, *])]
 go_wp2_with fail
 go_ret
 exact Ret.of (zb5 HE.out.symm) (ak.out.trans (dR.out.mono ak.out.size))):P:=h
theorem May (h:P:=by
 rw[hd]at sP;clear hx hd;go_wp2_with (go_at_call 17;go_must(refine(sP.out _ Mde).mono ?_);rintro e wq ⟨rfl,z,rfl⟩)
 go_ret
 exact Ret.of (by rw[HE.out];rfl) (zbc ak.out z)):P:=h
theorem Maz (h:P:=by
 go_wp2_with fail
 go_quiet (fail)
 go_wp2_with fail
 go_ret
 exact Ret.of (zaP (by rw[HU.out];simp)) Bw):P:=h
theorem MaA (h:P:=by
 rw[List.drop_eq_nil_of_le Mcl,zeS]at hf;have HF:=Lib.hid hf;clear hf hS;have jv: ¬(k:Int)<(ls.length:Int):=Mcl;go_wp2_with fail
 go_ret
 exact Ret.of (zb5 (by rw[HF.out])) Bw):P:=h
theorem MaB (h:P:=by
 go_wp2_with (go_at_call 58;refine(zca _ _ hs).mono ?_;intro e wq hq;rcases Ret0.bools hq with⟨rfl,⟨hb,rfl⟩|⟨hb,rfl⟩⟩<;>clear hq)
 all_goals go_ret
 all_goals exact Ret.of (zaP (by simp[*])) Bw):P:=h
theorem MaC (h:P:=by
 go_enter Tryz.func200,Tryz.ntmps200
 go_wp2_with (go_at_call 205;refine(zow _ _ h0 h1).mono ?_;rintro e wq ⟨rfl,rfl⟩;rw[hl])
 all_goals go_ret
 all_goals exact⟨by rw[HD.out,hl];rfl,rfl⟩):P:=h
theorem MaD (h:P:=by
 go_wp2_with fail
 refine bodyPost_ret (v:=za9 (zaf (P++(qn,qr)::Q) nm)) ?_ rfl ?_
 ·rw[Is.out];exact Mca
 ·exact Ret.of rfl Bw):P:=h
theorem MaE (h:P:=by
 go_ret
 exact Ret.of (zaP (by rw[cm.out];rfl)) (HB.out.trans (Below.mono (B:=wr.heap.size) Bw aK))):P:=h
theorem MaF (h:P:=by
 go_wp2_with fail
 go_ret
 rw[au.out]
 exact Ret.of rfl Bw):P:=h
theorem MaG (h:P:=by
 go_wp2_with (go_at_call 103;go_must(refine(qj.out _ Mde).mono ?_);rintro e wq ⟨rfl,z,rfl⟩)
 go_ret
 exact Ret.of (zb5 HE.out.symm) (zbc ak.out z)):P:=h
theorem MaH (h:P:=by
 go_wp2_with fail
 go_ret
 exact⟨rfl,rfl⟩):P:=h
theorem MaI (h:P:=by
 have e:xs.flatMap zaa=(xs.take i).flatMap zaa++(xs.drop i).flatMap zaa:=Mdb;rw[e,List.getElem?_append_left Mcl]
 exact hj):P:=h
theorem MaJ (h:P:=by
 clear am hs;go_wp2_with fail
 go_round
 case rel=>exact⟨k+1,aq.out,by go_num,by rw[aB.out];exact HO.out,HB.out⟩
 case measure=>have:=aq.out;simp only[intOf];omega):P:=h
theorem MaK (h:P:=by
 go_enter Tryz.func196,Tryz.ntmps196
 go_wp2_with (go_at_call 203;refine(zoV _ _ h0 h1).mono ?_;rintro e wq ⟨rfl,rfl⟩;rw[hl])
 all_goals go_ret
 all_goals exact⟨rfl,rfl⟩):P:=h
theorem MaL (h:P:=by
 have h0:xs=[]:=by
  cases xs with
  |nil=>rfl
  |cons y ys=>obtain⟨b,off,h,_⟩:=hS Mco;cases h
 subst h0;go_wp2_with fail
 go_ret
 exact⟨_,rfl,OwnS.nil,Below.refl _ _⟩):P:=h
theorem MaM (h:P:=by
 go_wp2_with fail
 go_round
 case rel=>exact⟨by first|exact True.intro|rfl, .inr (.inr ⟨by go_num,by rw[HE.out]⟩)⟩
 case measure=>simp only[intOf];decide):P:=h
theorem MaN (h:P:=by
 go_wp2_with (go_at_call 37;go_must(refine(fH.out _ Mde).mono ?_);rintro e wq ⟨rfl,z,rfl⟩)
 go_ret
 exact Ret.of (zaP Mco) (zbc ak.out z)):P:=h
theorem MaO (h:P:=by
 have ar: ¬(k:Int)<(l.length:Int):=Mcl;rw[List.take_of_length_le Mcl]at HO;clear ae hB;go_wp2_with fail
 go_ret
 exact⟨_,rfl,HO.out,HB.out⟩):P:=h
theorem MaP (h:P:=by
 rw[aO]at this
 simpa only[zlu,Option.map_some,iG]using this):P:=h
theorem MaQ (h:P:=by
 clear hx;go_wp2_with (go_at_call 31;go_must(refine(zcL _ _).mono ?_);rintro e wq ⟨rfl,rfl⟩;rw[hd])
 go_ret
 exact Ret.of (zb5 HE.out.symm) aJ.out):P:=h
theorem MaR (h:P:=by
 (repeat(first|with_reducible exact zar _ _ _ Mco|with_reducible exact zar _ _ _ Mdh|with_reducible refine zb9 ?_|with_reducible refine zak ?_))):P:=h
theorem MaS (h:P:=by
 rw[b9];clear hN sU b9 bf ee
 exact⟨rfl,am,jn,(KeepD.below bj).trans (KeepD.cells (zcc wr T _ _ _ _ _ _) mX.out Mcn)⟩):P:=h
theorem MaT (h:P:=by
 refine Nat.le_trans (List.length_filter_le _ _) ?_;rw[List.length_take]
 omega):P:=h
theorem MaU (h:P:=by
 rw[hc]at HC;go_wp2_with (go_at_call 90;go_must(refine(HC.out _).mono ?_);rintro e wq ⟨rfl,rfl⟩)
 go_ret
 exact⟨by rw[cm.out];rfl,rfl⟩):P:=h
theorem MaV (h:P:=by
 have sU:=Lib.hid gT;clear gT;go_wp2_with fail
 go_ret
 exact zbN HW.out aW.out (sU.out.trans Mco)):P:=h
theorem MaW (h:P:=by
 obtain⟨h1,g',h2,h3⟩:=znT n day l (k+1) j i h;refine⟨by omega,g',?_,h3⟩;rw[show i-k=(i-(k+1))+1 by omega,List.getElem?_cons_succ]
 exact h2):P:=h
theorem MaX (h:P:=by
 go_wp2_with (go_at_call 67;refine(zc3 _ _ _ _).mono ?_;rintro e wq ⟨rfl,rfl⟩)
 all_goals go_ret
 all_goals exact Ret.of (zaP (by rw[hv])) Bw):P:=h
theorem MaY (h:P:=by
 have hx:decide ((10:Int)<(ls.length:Int))=true:=Mcq;go_wp2_with fail
 go_ret
 exact Ret.of (zb5 (by rw[zaA,if_pos Mcq])) Bw):P:=h
theorem MaZ (h:P:=by
 go_round
 case rel=>exact⟨k+1,aq.out,by go_num, .inr ⟨uK.out,eH.out⟩,ax.out⟩
 case measure=>have:=aq.out;simp only[intOf];omega):P:=h
theorem Ma0 (h:P:=by
 go_ret2
 refine⟨out,true,fun _=>⟨by rw[HR.out,jF.out];rfl,?_⟩,by simp,Ret.of rfl Bw⟩;have h:=jF.out;simp[zbm,inR]at h
 omega):P:=h
theorem Ma1 (h:P:=by
 go_upto_region 6 with fail
 go_quiet (fail)
 go_wp2_with fail
 go_meet
 exact⟨by rw[lQ.out],zd4 fI.out _⟩):P:=h
theorem Ma2 (h:P:=by
 go_wp2_with (go_at_call 72;refine(fK.out _ Bw _).mono ?_;rintro e wq ⟨rfl,z,rfl⟩)
 go_ret
 exact zbN HW.out Bw (by rw[jg.out];simp)):P:=h
theorem Ma3 (h:P:=by
 rintro e wq ⟨rfl,z,rfl⟩
 exact⟨rfl,hW.trans ((zam W z).mono hW.size)⟩):P:=h
theorem Ma4 (h:P:=by
 go_ret
 exact Ret.of (zb5 (by rw[HR.out];simp[zct,p1,p2,isDay0,inR34, *])) (HB.out.trans (Below.mono (B:=wc.heap.size) Bw hs))):P:=h
theorem Ma5 (h:P:=by
 go_ret
 exact⟨by rw[cm.out];rfl,rfl⟩):P:=h
theorem Ma6 (h:P:=by
 clear hx;rw[zdE h,hp]
 go_simp):P:=h
theorem Ma7 (h:P:=by
 rcases ae with⟨rfl,_⟩|⟨g',o,c',cur,rfl,_,eA,_⟩
 ·cases hk
 ·simp only[za7,Option.some.injEq]at hk;subst hk
  exact⟨cur,_,eA⟩):P:=h
theorem Ma8 (h:P:=by
 go_wp2_with fail
 go_ret
 exact Ret.of (zaP HE.out.symm) ak.out):P:=h
theorem Ma9 (h:P:=by
 first|omega|(simp[zag];done)|(simp[zag];omega)):P:=h
theorem Mba (h:P:=by
 simp only[Value.slice.injEq]at e'
 omega):P:=h
theorem Mbb (h:P:=by
 have:=zdT (t:=136) zbk (WX.drew.alloc (.cells #[.string d.frm, .string tn] 136)) WX.heap.size Mco
 simpa using this):P:=h
theorem Mbc (h:P:=by
 have:=aU 0 (.string q.name) (by simp[hq,RPart.cells])
 simpa using this):P:=h
theorem Mbd (h:P:=by
 have:sh.num≠0:=fun e=>hz (Rat.num_eq_zero.1 e)
 simpa using this):P:=h
theorem Mbe (h:P:=by
 have:(zai s n).length<=s.children.length:=by unfold zai;rw[List.length_map];exact List.length_filter_le _ _
 omega):P:=h
theorem Mbf (h:P:=by
 refine fun j hj hQ=>⟨hQ.1,fun e=> ?_⟩
 rcases h3 j e with h|h
 ·exact hQ.2 h
 ·omega):P:=h
theorem Mbg (h:P:=by
 refine bC.mono ?_;rintro e wq ⟨rfl,hB⟩
 exact Ret.of rfl hB):P:=h
theorem Mbh (h:P:=by
 refine bC.mono ?_;rintro e wq ⟨rfl,rfl⟩
 exact⟨rfl,rfl⟩):P:=h
theorem Mbi (h:P:=by
 clear HR dw ij;go_enter Tryz.func46,Tryz.ntmps46
 go_wp2_with fail
 go_ret
 rw[HX.out]
 exact Ret.of rfl Bw):P:=h
theorem Mbj (h:P:=by
 split
 ·exact h0
 ·simp only
  repeat(first|split|exact h0)):P:=h
theorem Mbk (h:P:=by
 induction a with
 |nil=>rw[List.nil_append,sumQ,Rat.zero_add]
 |cons x a ih=>rw[List.cons_append,sumQ,sumQ,ih];grind):P:=h
theorem Mbl (h:P:=by
 go_wp2_with fail
 go_ret
 exact Ret.of (zaP Mco) Bw):P:=h
theorem Mbm (h:P:=by
 go_wp2_with fail
 go_ret
 exact⟨rfl,HW.out.keep (n:=w.heap.size) Bw,Below.mono (B:=w.heap.size) Bw Mcl⟩):P:=h
theorem Mbn (h:P:=by
 repeat(first|exact zar _ _ _ Mdh|with_reducible refine zb9 ?_|with_reducible refine zak ?_)):P:=h
theorem Mbo (h:P:=by
 rw[zip,eqSp_refl,if_pos rfl]at this
 exact this):P:=h
theorem Mbp (h:P:=by
 rw[List.getElem?_set_self eb]at e2;simp only[Option.some.injEq]at e1 e2;subst e1 e2
 exact hN):P:=h
theorem Mbq (h:P:=by
 refine zb9 ?_;have:=Joins.block_setCell (i:=2) GG.out (.int .i64 af)
 simpa using this):P:=h
theorem Mbr (h:P:=by
 go_wp2_with fail
 go_meet
 rw[fZ]at y9
 exact⟨by rw[y9];rfl,rfl⟩):P:=h
theorem Mbs (h:P:=by
 repeat(first|exact zar _ _ _ rfl|with_reducible refine zb9 ?_|with_reducible refine zak ?_)):P:=h
theorem Mbt (h:P:=by simp[List.getD_eq_getElem?_getD,List.getElem?_eq_getElem (show ms.length-1-i<ms.length by omega)]):P:=h
theorem Mbu (h:P:=by
 go_wp2_with fail
 go_meet
 exact⟨zak (zar _ _ _ rfl),zar _ _ _ Mco,Bw⟩):P:=h
theorem Mbv (h:P:=by
 obtain⟨b',off',he,_,aU⟩:=hS.at (k:=k-1) Mcl;cases he
 exact aU 0 _ rfl):P:=h
theorem Mbw (h:P:=by exact⟨fun o h=>by cases h;rfl,fun h=>by cases h⟩):P:=h
theorem Mbx (h:P:=by
 go_wp2_with fail
 go_meet
 exact⟨by rw[kA],by first|exact True.intro|rfl⟩):P:=h
theorem Mby (h:P:=by
 go_wp2_with fail
 go_ret
 exact Ret.of rfl (HB.out.trans (Below.mono Bw HB.out.size))):P:=h
theorem Mbz (h:P:=by
 rw[h']at hk;simp only[Option.some.injEq,Obj.cells.injEq]at hk
 exact ht hk.2.1.symm):P:=h
theorem MbA (h:P:=by
 go_ret2
 rw[HX.out];have bf:=cO.out;have aK:=bf.size
 exact Ret.of rfl Bw):P:=h
theorem MbB (h:P:=by
 rintro rfl;have:=HH.out;rw[show y=1800+day/366+10 by omega]at hc
 omega):P:=h
theorem MbC (h:P:=by
 go_wp2_with fail
 go_ret
 refine⟨congrArg Ending.returned (zb5 ?_),rfl⟩
 rw[HV.out]):P:=h
theorem MbD (h:P:=by
 go_ret2
 exact⟨out,false,by simp,fun _=>by rw[HR.out,jF.out];rfl,Ret.of rfl Bw⟩):P:=h
theorem MbE (h:P:=by
 refine zbV rfl _ _ w.heap.size _ _ rfl ?_ ?_
 ·simp[go_sem]
 ·simp[go_sem]):P:=h
theorem MbF (h:P:=by
 rintro e wq ⟨rfl,z,rfl⟩
 exact⟨rfl,fD.trans ((zam W' z).mono fD.size)⟩):P:=h
theorem MbG (h:P:=by
 have:=Joins.block_setCell (i:=1) g1 (.int .i64 ((m:Int)+1))
 simpa using this):P:=h
theorem MbH (h:P:=by
 have:=(List.getElem?_eq_some_iff.1 hk).1;simp at this
 omega):P:=h
theorem MbI (h:P:=by
 refine .inl ⟨hd,Ret.of rfl ?_⟩
 exact Bw):P:=h
theorem MbJ (h:P:=by
 refine .inr ⟨hd,Ret.of rfl ?_⟩
 exact Bw):P:=h
theorem MbK (h:P:=by
 obtain⟨h1,h2⟩:=zoe g l k x h
 exact⟨List.mem_cons_of_mem _ h1,h2⟩):P:=h
theorem MbL (h:P:=by
 rw[if_pos rfl]
 exact⟨fun o h=>by(cases h),fun _=>zf3 Mco⟩):P:=h
theorem MbM (h:P:=by
 show _<=((Sort.mapBlock _ _ _).heap++os).size
 simp[Sort.mapBlock,Sort.ahead]):P:=h
theorem MbN (h:P:=by
 unfold WldC at hC;rw[hC]at hx
 simp at hx):P:=h
theorem MbO (h:P:=by
 clear xs0 xd0 xr0 s0 s1 s2 s3 s4 s5 s6 d0 d1 d2 d3 d4 d5 d6 r0 r1 r2 r3 r4 r5 r6 rf ls ld lr;obtain⟨⟨xs0,xd0,xr0⟩,⟨s0,s1,s2,s3,s4,s5,s6⟩,⟨d0,d1,d2,d3,d4,d5,d6⟩,⟨r0,r1,r2,r3,r4,r5,r6⟩,rf,ls,ld,lr⟩:=ddF (ax.out _ (bs))
 exact Mg):P:=h
theorem MbP (h:P:=by
 have d1:wq.cell? ⟨w.heap.size,1,none⟩=some (.int .i64 dy):=McQ;have d2:wq.cell? ⟨w.heap.size,2,none⟩=some (.string pl):=McQ;have d3:wq.cell? ⟨w.heap.size,3,none⟩=some (.string fr):=McQ;have d4:wq.cell? ⟨w.heap.size,4,none⟩=some (.slice B ts.length c):=McQ;have d5:wq.cell? ⟨w.heap.size,5,none⟩=some (.int .i64 cl):=McQ;have d6:wq.cell? ⟨w.heap.size,6,none⟩=some (.int .i64 yr):=McQ;clear hW hB hK h0 gC fV cF;refine NxM hK (fun hHeld=> ?_) (⟨d0,d1,d2,d3,d4,d5,d6⟩);clear hK K;refine OnH 5 fun K hK=> ?_
 go_simp
 refine NxM hK (fun hHeld=> ?_) (⟨d0,d1,d2,d3,d4,d5,d6⟩);clear hK K;refine wpAnyH_done Mcm ?_ _;clear d0 d2 d3 d4 d5 d6 d1;go_upto_region 18 with fail
 exact Md):P:=h
theorem MbQ (h:P:=by
 refine NxM hK fun hHeld=> ?_
 clear hK K;refine OnM 14 true fun K hK=> ?_
 refine zal (v:= .slice A5 (a+[x].length) c5) (n:=a+[x].length) (m:=xs.length-a) rfl _ _ rfl zbK zaB zbJ rfl (xs:=xs.take a++[x]) (ys:=xs.drop a) g1 Mec rfl (oX.out) (vg.out w5 aj) McI McP (by have:=aj.size;omega) ?_;intro v6 w6 k1 k2 k3;have aE:Below wr.heap.size wr w6:=Below.grown aj k2 aj.size (fun j hj=>(g1.ge j hj).1);refine NxM hK fun hHeld=> ?_
 clear hK K;refine OnM 15 true fun K hK=> ?_
 go_simp
 refine NxM hK fun hHeld=> ?_
 clear hK K;refine zaQ Mcm ?_ _;clear hHeld;have K1:=Lib.hid k1;have aC:=Lib.hid aE;clear k1 k2 k3 aE aj g1 g2 g3;go_wp2_with fail
 go_round
 case rel=>exact⟨k+1,aq.out,by go_num,by rw[aB.out];exact K1.out.base_le Mcl,HB.out.trans (aC.out.mono Mcl)⟩
 case measure=>have:=aq.out;simp only[intOf];omega):P:=h
theorem MbR (h:P:=by
 refine NxM hK (fun hHeld=> ?_) (.inr (bY.out _ aD));clear hK K;refine OnM 10 true fun K hK=> ?_
 refine zal (v:= .slice V4 a c4) (n:=a) (m:=1) rfl _ _ rfl zbK zaB zbJ rfl (xs:=xs.take a) (ys:=[x]) (h1) eX.out rfl rfl (zfT n2) Mcv McK Mdr ?_;intro v5 w5 g1 g2 g3;obtain⟨A5,c5,ei,_,_⟩:=g1.sl zaB;rw[List.length_append,eX.out]at ei;subst ei;have aj:Below wr.heap.size wr w5:=Below.grown aD g2 (by have:=(aD).size;omega) (fun j hj=>((h1).ge j hj).1);refine NxM hK fun hHeld=> ?_
 clear hK K;refine OnM 14 true fun K hK=> ?_
 refine zal (v:= .slice A5 (a+[x].length) c5) (n:=a+[x].length) (m:=0) rfl _ _ rfl zbK zaB zbJ rfl (xs:=xs.take a++[x]) (ys:=xs.drop a) g1 Mec rfl (by rw[<-oX.out];omega) (vg.out _ w5 aj) McI McP (by have:=aj.size;omega) ?_
 exact Mi):P:=h
theorem MbS (h:P:=by
 have HR:Hid (R=false):=by(show _=_;rw[hR];rfl)
 exact Mf):P:=h
theorem MbT (h:P:=by
 have HR:Hid (R=false):=by(show _=_;rw[hR];simp[zae, *])
 exact Mf):P:=h
theorem MbU (h:P:=by
 have y2:ot.toList.isEmpty=true:=z2;have w2:ot.toList=[]:=Md9;cases z3:noB pl
 ·exact Mck
 ·have y3:pl.toList.isEmpty=true:=z3;have w3:pl.toList=[]:=Mea
  exact Mci):P:=h
theorem MbV (h:P:=by
 go_wp2_with (go_at_call 104
              go_must(refine(kQ.out _ (zam W0 zq)).mono ?_)
              rintro e w5 ⟨a0,a1,a2,a3,a4,a5,a6,rfl,aP,aj,am⟩;obtain⟨⟨_,_,_,rfl⟩,⟨_,_,_,rfl⟩,⟨_,_,_,rfl⟩,⟨_,_,_,rfl⟩,⟨_,_,_,rfl⟩,⟨_,_,_,rfl⟩,⟨_,_,_,rfl⟩⟩:=zcd aP;have aj:=(zam W0 zq).trans (aj.mono (zam W0 zq).size);have aH:=Lib.hid aj;have aB:=Lib.hid am;obtain⟨_,_,xr5⟩:=ax.out w5 aj;obtain⟨t0,t1,t2,t3,t4,t5,t6⟩:=zaG xr5;have tf:=frz xr5
              clear aj am aP)
 exact Mv):P:=h
theorem MbW (h:P:=by
 clear hc aU;go_wp2_with fail
 (refine zaj Mcm Mcm ?_
  repeat(first|go_big_quiet_skip|(go_big_quiet_want;go_big_quiet_op;first|go_big_quiet_on|(apply Exists.intro;refine⟨fun _=> ?_,?_⟩;(fail);go_big_quiet_on)))
  refine wpQuiet_nil ?_
  rintro _ ⟨zq,rfl⟩)
 go_wp2_with fail
 go_roundw
 case rel=>exact⟨j+1,by omega,by go_num,zbb Bw⟩
 case measure=>simp[intOf];omega):P:=h
theorem MbX (h:P:=by
 refine NxM hK (fun hHeld=> ?_) (aL.out _ FR3);clear hK K;refine OnM 27 false fun K hK=> ?_
 refine zal (v:= .slice QA pz.length qc) (n:=pz.length) (m:=1) rfl _ _ rfl zbK zaB zbJ rfl (xs:=pz) (ys:=[fr]) (ob3.keep (n:=w3.heap.size) Bw) rfl rfl rfl (zcx (x2)) McJ Mcl (by have:=HW.out.lt;(try simp);omega) ?_
 exact Ma):P:=h
theorem MbY (h:P:=by
 have HR:Hid (R=true):=by(show _=_;rw[hR];simp[zae, *])
 exact Mf):P:=h
theorem MbZ (h:P:=by
 have y2:ot.toList.isEmpty=false:=z2;have w2: ¬ot.toList=[]:=Md9
 exact Mh):P:=h
theorem Mb0 (h:P:=by
 rcases List.mem_append.1 hy with hy|hy
 ·exact((uu.out y hy).keep eS.out).kept (zau _ _ _ _) mD
 ·rw[List.mem_singleton.1 hy]
  exact .inr ⟨(uU.out.keep eS.out).kept (zau _ _ _ _) mD Mcn,(lL.out.ro').kept (zau _ _ _ _) mD Mcn⟩):P:=h
theorem Mb1 (h:P:=by
 rw[List.drop_eq_nil_of_le Mcl]at hx;have HX:=Lib.hid hx;clear hx dL aw kx;have jv: ¬(k:Int)<(ps.length:Int):=Mcl;go_wp2_with fail
 all_goals go_ret
 all_goals exact Ret.of (zaP (by rw[HX.out];first|(simp[zcp,zgV, *];done)|(simp[zcp,zgV, *];omega))) Bw):P:=h
theorem Mb2 (h:P:=by
 have w2: ¬fr.toList=[]:=by simpa using(show fr.toList.isEmpty=false from z2)
 cases xO:zaR fr
 ·have gR:zcA fr=false:=by rw[<-zdt,xO]
  exact Mr
 ·have gR:zcA fr=true:=by rw[<-zdt,xO]
  exact Mr):P:=h
theorem Mb3 (h:P:=by
 refine NxM hK (fun hHeld=> ?_) (.inr (aL.out _ aD));clear hK K;have o9:=h1;have n9:=n2;have e9:=aD
 exact Mk):P:=h
theorem Mb4 (h:P:=by
 refine NxM hK (fun hHeld=> ?_) (.inr (aL.out _ aD));clear hK K;have o9:=h1;have n9:=n2;have e9:=aD
 exact Mn):P:=h
theorem Mb5 (h:P:=by
 refine NxM hK (fun hHeld=> ?_) (.inr (aL.out _ aD));clear hK K;have o9:=h1;have n9:=n2;have e9:=aD
 exact Mo):P:=h
theorem Mb6 (h:P:=by
 refine NxM hK (fun hHeld=> ?_) (.inr (aL.out _ aD));clear hK K;have o9:=h1;have n9:=n2;have e9:=aD
 exact Mp):P:=h
theorem Mb7 (h:P:=by
 refine NxM hK (fun hHeld=> ?_) (.inr (aL.out _ aD));clear hK K;have o9:=h1;have n9:=n2;have e9:=aD
 exact Mq):P:=h
theorem Mb8 (h:P:=by
 go_wp2_with fail
 go_loop [5,8] (fun a b=>b= .int .i64 0) (fun _ _=>0)
 case atStart=>rfl
 case round=>
  obtain rfl:=hrel
  exact MaH):P:=h
theorem Mb9 (h:P:=by
 refine bodyPost_ret (v:=za9 0) ?_ rfl ?_
 ·exact M0
 ·exact MbJ):P:=h
theorem Mca (h:P:=by
 refine zbV rfl _ _ w.heap.size _ _ rfl ?_ ?_<;>simp[go_sem]):P:=h
theorem Mcb (h:P:=by
 have y3:pl.toList.isEmpty=true:=z3;have w3:pl.toList=[]:=Mea
 exact Mh):P:=h
theorem Mcc (h:P:=by
 have:=zgD (wr.drew.alloc (.cells #[.string x] 9)) wr.heap.size Mco
 simpa using this):P:=h
theorem Mcd (h:P:=by
 go_wp2_with (go_at_call 195;refine(qk.out _).mono ?_;rintro e wq ⟨rfl,rfl⟩)
 exact Mx):P:=h
theorem Mce (h:P:=by
 have w2:fr.toList=[]:=by simpa using(show fr.toList.isEmpty=true from z2)
 exact Mr):P:=h
theorem Mcf (h:P:=by
 obtain rfl:k=m:=by omega
 have bD: ¬(k:Int)<(k:Int):=Mcl
 exact MaH):P:=h
theorem Mcg (h:P:=by
 refine NxM hK (fun hHeld=> ?_) (.inr (bY.out _ aD));clear hK K;refine OnM 10 true fun K hK=> ?_
 refine zal (v:= .slice V4 a c4) (n:=a) (m:=1) rfl _ _ rfl zbK zaB zbJ rfl (xs:=xs.take a) (ys:=[x]) (h1) eX.out rfl rfl (zfT n2) Mcv McK Mdr ?_;intro v5 w5 g1 g2 g3;obtain⟨A5,c5,ei,_,_⟩:=g1.sl zaB;rw[List.length_append,eX.out]at ei;subst ei;have aj:Below wr.heap.size wr w5:=Below.grown aD g2 (by have:=(aD).size;omega) (fun j hj=>((h1).ge j hj).1)
 exact MbQ):P:=h
theorem Mch (h:P:=by
 rw[aA]at hr;rw[zfs aA]at cP;have HE:Hid (R=(s,6)):=Lib.hid hr;clear hr aA;go_upto_region 3 with(go_at_call 13;go_must(refine(cP.out _ (Below.refl _ _)).mono ?_);rintro e wq ⟨rfl,z,rfl⟩)
 have bs:=zam W0 z
 exact MbO):P:=h
theorem Mci (h:P:=by
 by_cases t1:tl=0
 ·skip
  by_cases u1:nu=0
  ·skip
   by_cases u2:de=0
   ·skip
    exact Mh
   ·skip
    exact Mh
  ·skip
   exact Mh
 ·skip
  exact Mh):P:=h
theorem Mcj (h:P:=by
 have HE:Hid (R=(s,28)):=Md5;rw[cd]at ig;clear hr cd;go_upto_region 17 with(go_at_call 17;go_must(refine(ig.out).mono ?_);rintro e wq ⟨rfl,z,rfl⟩)
 have bs:=zam W0 z
 exact MbO):P:=h
theorem Mck (h:P:=by
 have y3:pl.toList.isEmpty=false:=z3;have w3: ¬pl.toList=[]:=Mea
 exact Mh):P:=h
theorem Mcl (h:P:=by omega):P:=h
theorem Mcm (h:P:=by kernel_rfl):P:=h
theorem Mcn (h:P:=by decide):P:=h
theorem Mco (h:P:=by simp):P:=h
theorem Mcp (h:P:=by simp[World.cell?,g0]):P:=h
theorem Mcq (h:P:=by simp;omega):P:=h
theorem Mcr (h:P:=by simp[World.cell?,g1]):P:=h
theorem Mcs (h:P:=by
 have:=(e1).size;first|omega|(simp at this⊢;done)|(simp at this⊢;omega)):P:=h
theorem Mct (h:P:=by have:=tg.out;simp only[maxLen];omega):P:=h
theorem Mcu (h:P:=by simp[zag];omega):P:=h
theorem Mcv (h:P:=by have:=fU.out;have:=HA.out;simp only[maxLen];omega):P:=h
theorem Mcw (h:P:=by
 have:=(e0).size;first|omega|(simp at this⊢;done)|(simp at this⊢;omega)):P:=h
theorem Mcx (h:P:=by have:=(List.getElem?_eq_some_iff.1 hy).1;simp at this;omega):P:=h
theorem Mcy (h:P:=by simp[World.frozen?,g0]):P:=h
theorem Mcz (h:P:=by simp[World.frozen?,g1]):P:=h
theorem McA (h:P:=by
 repeat(first|exact Two2.refl2 _ _ _|assumption|with_reducible refine Two2.alloc ?_ _|with_reducible refine Two2.drew ?_|with_reducible refine Two2.ext ?_ _)):P:=h
theorem McB (h:P:=by
 first|omega|(simp;done)|(simp;omega)):P:=h
theorem McC (h:P:=by
 first|(simp;done)|(simp;omega)):P:=h
theorem McD (h:P:=by rw[<-HR.out];simp only[zdl,mY.out, *,Bool.not_true,Bool.not_false,Bool.or_self,Bool.or_true,Bool.true_or,Bool.false_or,Bool.or_false,if_true,if_false,Bool.false_eq_true,ite_true,ite_false,decide_false];done):P:=h
theorem McE (h:P:=by have:=tg.out;omega):P:=h
theorem McF (h:P:=by rw[IntKind.wrap_i64];rw[Int.tmod_eq_emod_of_nonneg h0];omega):P:=h
theorem McG (h:P:=by have:=(e1).size;omega):P:=h
theorem McH (h:P:=by
 have:=e9.size;first|omega|(simp at this⊢;done)|(simp at this⊢;omega)):P:=h
theorem McI (h:P:=by
 first|(have:=fU.out;have:=HA.out;simp only[maxLen,List.length_singleton];omega)|exact Nat.le_of_ble_eq_true rfl):P:=h
theorem McJ (h:P:=by simp[maxLen];omega):P:=h
theorem McK (h:P:=by have:=fU.out;have:=HA.out;omega):P:=h
theorem McL (h:P:=by rw[Int.tmod_eq_emod_of_nonneg h0];unfold wrap64;omega):P:=h
theorem McM (h:P:=by have:=ah 0 _ rfl;simpa using this):P:=h
theorem McN (h:P:=by simp[go_sem]):P:=h
theorem McO (h:P:=by grind):P:=h
theorem McP (h:P:=by
 first|(have:=fU.out;have:=HA.out;simp only[List.length_singleton];omega)|exact Nat.le_of_ble_eq_true rfl):P:=h
theorem McQ (h:P:=by simp only[World.cell?,h0];rfl):P:=h
theorem McR (h:P:=by simpa using h1):P:=h
theorem McS (h:P:=by have:=N2.out.size;simp[zag]at this;omega):P:=h
theorem McT (h:P:=by simp only[maxLen];omega):P:=h
theorem McU (h:P:=by have:=fU.out;simp[maxLen];omega):P:=h
theorem McV (h:P:=by assumption):P:=h
theorem McW (h:P:=by rw[zbd n2 (by simp[zag];omega) (by omega)];simp[go_sem]):P:=h
theorem McX (h:P:=by rw[IntKind.wrap_i64];omega):P:=h
theorem McY (h:P:=by rw[ao];exact Bw):P:=h
theorem McZ (h:P:=by intro j hj;simp[za7]at hj;omega):P:=h
theorem Mc0 (h:P:=by
 repeat(first|exact zar _ _ _ (by simp)|refine zak ?_)):P:=h
theorem Mc1 (h:P:=by
 unfold Func.isWrapper;first|(rw[if_pos (by decide+kernel)];kernel_rfl)|(rw[if_neg (by decide+kernel)];exact⟨rfl,rfl⟩)):P:=h
theorem Mc2 (h:P:=by rw[gU.out]at hi;cases hi;rw[sV.out]at eA;exact(Option.some.inj eA).symm):P:=h
theorem Mc3 (h:P:=by rw[zes,List.length_take];congr 1;omega):P:=h
theorem Mc4 (h:P:=by have:=HB.out;exact Bw):P:=h
theorem Mc5 (h:P:=by
 rw[<-HR.out];first|(simp[zdl, *];done)|(simp[zdl, *];omega)):P:=h
theorem Mc6 (h:P:=by rw[List.length_take];omega):P:=h
theorem Mc7 (h:P:=by rw[MakeChecks.laidMetH_plain _ _ _ (by kernel_rfl)];exact laidMet_laidAll _ (by kernel_rfl) (by kernel_rfl)):P:=h
theorem Mc8 (h:P:=by have:=fU.out;omega):P:=h
theorem Mc9 (h:P:=by unfold zbv at cw;simp only[World.cell?,cw];rfl):P:=h
theorem Mda (h:P:=by
 first|(simp[Act.eval,Act.put];done)|(simp[Act.eval,Act.put];rfl)):P:=h
theorem Mdb (h:P:=by rw[<-List.flatMap_append,List.take_append_drop]):P:=h
theorem Mdc (h:P:=by rw[List.getD_eq_getElem?_getD,List.getElem?_eq_getElem aa];rfl):P:=h
theorem Mdd (h:P:=by simp[za7]):P:=h
theorem Mde (h:P:=by have:=ak.out;exact Bw):P:=h
theorem Mdf (h:P:=by rw[ao];exact zar _ _ _ rfl):P:=h
theorem Mdg (h:P:=by rw[List.length_append];have:=qN.out;simp at this⊢;omega):P:=h
theorem Mdh (h:P:=by simp[zag]):P:=h
theorem Mdi (h:P:=by rw[aV];exact zam _ _):P:=h
theorem Mdj (h:P:=by simp only[World.cell?,G1.out,zbt];rfl):P:=h
theorem Mdk (h:P:=by dsimp only;omega):P:=h
theorem Mdl (h:P:=by have:=(e0).size;omega):P:=h
theorem Mdm (h:P:=by simpa using h0):P:=h
theorem Mdn (h:P:=by
 repeat(first|exact TQ.out|refine zb9 ?_|refine J_drew ?_|refine zak ?_)):P:=h
theorem Mdo (h:P:=by rw[ao];exact zak (zak (zar _ _ _ rfl))):P:=h
theorem Mdp (h:P:=by
 simp only[Nat.min_def];split<;>omega):P:=h
theorem Mdq (h:P:=by simp only[World.cell?,yL',zbt];rfl):P:=h
theorem Mdr (h:P:=by
 have:=(aD).size;first|omega|(simp at this⊢;done)|(simp at this⊢;omega)):P:=h
theorem Mds (h:P:=by simpa using hz):P:=h
theorem Mdt (h:P:=by rw[zbd n2 (by simp[zag];omega) (by omega)];simp[go_sem,y1,y3]):P:=h
theorem Mdu (h:P:=by have:=hc 0 _ rfl;simpa using this):P:=h
theorem Mdv (h:P:=by have:=(Rat.lt_iff 0 q).1 h0;simpa using this):P:=h
theorem Mdw (h:P:=by show Below _ _ _;rw[bM];exact zac aZ _):P:=h
theorem Mdx (h:P:=by simpa using h):P:=h
theorem Mdy (h:P:=by simp[za7];omega):P:=h
theorem Mdz (h:P:=by have:=aE.size;omega):P:=h
theorem MdA (h:P:=by simp[hq]):P:=h
theorem MdB (h:P:=by
 first|rfl|simp[zag]):P:=h
theorem MdC (h:P:=by show _=_;rw[au.out];rfl):P:=h
theorem MdD (h:P:=by have:=ub 0 (.string pn) rfl;rw[Nat.zero_mul]at this;exact this):P:=h
theorem MdE (h:P:=by rw[nA];exact zaO (HB.out.trans (jS.out.mono aK)) zS _):P:=h
theorem MdF (h:P:=by rw[ao];exact zak (zar _ _ _ rfl)):P:=h
theorem MdG (h:P:=by have:=(List.getElem?_eq_some_iff.1 hi).1;have:=hT.len;omega):P:=h
theorem MdH (h:P:=by simpa using e):P:=h
theorem MdI (h:P:=by show _=_;rw[cG.out,aN];rfl):P:=h
theorem MdJ (h:P:=by simp[zby,hz,hq]):P:=h
theorem MdK (h:P:=by have:=S2.out;omega):P:=h
theorem MdL (h:P:=by have:=aG.out;exact Bw):P:=h
theorem MdM (h:P:=by simp only;omega):P:=h
theorem MdN (h:P:=by show _=_;rw[HR.out];simp[zct,p1,p2,isDay0,inR34, *]):P:=h
theorem MdO (h:P:=by rw[<-HM.out,List.length_map];exact hi):P:=h
theorem MdP (h:P:=by simp at ed;omega):P:=h
theorem MdQ (h:P:=by simp[Sort.mapBlock,Sort.ahead];omega):P:=h
theorem MdR (h:P:=by rw[HF.out];simp[zhm, *]):P:=h
theorem MdS (h:P:=by simp[Act.eval,Act.put];rfl):P:=h
theorem MdT (h:P:=by simp[hp]):P:=h
theorem MdU (h:P:=by simp only[World.cell?,eI.out];rfl):P:=h
theorem MdV (h:P:=by show _=_;rw[am];simp[hs]):P:=h
theorem MdW (h:P:=by rw[bK];exact hi):P:=h
theorem MdX (h:P:=by have:=cA 0 _ rfl;simpa using this):P:=h
theorem MdY (h:P:=by simp only[World.cell?,G0.out];rfl):P:=h
theorem MdZ (h:P:=by simp only[World.size_alloc];omega):P:=h
theorem Md0 (h:P:=by show _=_;rw[hx];rfl):P:=h
theorem Md1 (h:P:=by have:=e9.size;omega):P:=h
theorem Md2 (h:P:=by have:=aW.out.size;omega):P:=h
theorem Md3 (h:P:=by simpa using j8):P:=h
theorem Md4 (h:P:=by rw[zan];omega):P:=h
theorem Md5 (h:P:=by show _=_;rw[hr,cd];rfl):P:=h
theorem Md6 (h:P:=by rw[zes,List.length_drop]):P:=h
theorem Md7 (h:P:=by
 rw[zbB];exact hc):P:=h
theorem Md8 (h:P:=by simpa using h2):P:=h
theorem Md9 (h:P:=by simpa using y2):P:=h
theorem Mea (h:P:=by simpa using y3):P:=h
theorem Meb (h:P:=by show _=_;rw[hR,List.drop_zero]):P:=h
theorem Mec (h:P:=by rw[List.length_append,eX.out]):P:=h
theorem Med (h:P:=by rw[<-zdt,hp3]):P:=h
theorem Mee (h:P:=by simp[World.frozen?,g2]):P:=h
theorem Mef (h:P:=by rw[beq_eq_false_iff_ne];omega):P:=h
theorem Meg (h:P:=by simp only[World.cell?,t1];rfl):P:=h
theorem Meh (h:P:=by rw[bM];exact zar _ _ _ rfl):P:=h
theorem Mei (h:P:=by decide+kernel):P:=h
theorem Mej (h:P:=by simp[World.cell?,h1]):P:=h
theorem Mek (h:P:=by simp[World.cell?,g2]):P:=h
theorem Mel (h:P:=by rw[ou];exact zam _ _):P:=h
theorem Mem (h:P:=by have:=hf.dead;omega):P:=h
theorem Men (h:P:=by simpa using hj):P:=h
theorem Meo (h:P:=by simpa using hc):P:=h
theorem Mep (h:P:=by simp[go_sem,e6,hh]):P:=h
end Go.Proofs.YtckkbkdcdkhglaaGreatDoor
