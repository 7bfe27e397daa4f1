import Derived.WalkLawsBesides
import Derived.WalkSpells
import Derived.BigQuiet
import Derived.Lib.Hide
import Derived.Deep.CutBlock
set_option linter.all false
namespace Go.Proofs.YtogklihlgindkaaGreatDoor
variable {P:Prop}
def Ma(h:P:=by
 intro v4 w4 g1 g2 g3;obtain⟨A7,c7,kU,_,_⟩:=g1.sl zaB;rw[List.length_append]at kU;subst kU;have FR4:Fr2 w w4 (.slice KA ks.length kc) (.slice QA pz.length qc):=(FR3.below Bw).row g2 (λj hj=> .inr (.inl hj));have dg:∀g,za4 (.slice A6 (ks.length+[q.name].length) c6)=some g->za4 (.slice QA pz.length qc)≠some g:=λg e1 e2=>by
  rcases h3 g e1 with h|h
  ·exact fP.out g h e2
  ·have:=(cT.out.ge g e2).2;omega
 have oa4:OwnS w4 base 9 1 sC (.slice A6 (ks.length+[q.name].length) c6) (ks++[q.name]):=(h1.keep (n:=w3.heap.size) Bw).grown g2 (by
  cases hb:za4 (.slice A6 (ks.length+[q.name].length) c6)with
  |none=>exact .inl rfl
  |some g=>exact .inr λe=>dg g hb e.symm)
 have s4:=g2.size;(try simp only[World.size_alloc,World.size_drew]at s4 g3)
 have b1:∀g,za4 (.slice A6 (ks.length+[q.name].length) c6)=some g->za4 (.slice KA ks.length kc)=some g\/w.heap.size<=g:=λg e=>by
  rcases h3 g e with h|h
  ·exact .inl h
  ·right;omega
 have b2:∀g,za4 (.slice A7 (pz.length+[fr].length) c7)=some g->za4 (.slice QA pz.length qc)=some g\/w.heap.size<=g:=λg e=>by
  rcases g3 g e with h|h
  ·exact .inl h
  ·right;omega
 have b12:∀g,za4 (.slice A6 (ks.length+[q.name].length) c6)=some g->za4 (.slice A7 (pz.length+[fr].length) c7)≠some g:=λg e1 e2=>by
  rcases g3 g e2 with h|h
  ·exact dg g e1 h
  ·have:=(h1.ge g e1).2;omega
 refine NxM hK (λhHeld=>?_) (aJ.out _ FR4);clear hK K;refine OnM 28 true λK hK=>?_
 obtain⟨w5,x5,st5,m5,j5,nE,jm,qz,om,ob,F2⟩:=zgz zmZ (FR4.mapS gy.out cT.out ke.out) fr;refine zhl rfl _ _ rfl _ _ _ rfl rfl w5 nE ?_;refine NxM hK λhHeld=>?_
 clear hK K;refine OnM 29 true λK hK=>?_
 go_simp
 refine NxM hK λhHeld=>?_
 clear hK K;refine OnM 30 true λK hK=>?_
 obtain⟨w6,eU,jh,bF,Bg⟩:=zdT (P:=Tryz.prog) jm om 67 (.slice A6 (ks.length+[q.name].length) c6);refine zfX rfl _ _ _ rfl _ _ _ rfl rfl rfl w6 eU ?_;rw[qz]at jh;refine NxM hK λhHeld=>?_
 clear hK K;refine OnM 31 true λK hK=>?_
 have qf:cc≠pp:=by
  have:=HP.out.nd;simp only[List.nodup_cons,List.mem_cons,List.not_mem_nil,or_false,not_or]at this;exact this.2.1.1
 have yu:MapS w6 pp ekS (λv:Value=>v) mp:=((FR4.mapS gy.out cT.out bK.out).grown ob (by simpa using λe=>qf e.symm)).grown bF (by simpa using λe=>qf e.symm);obtain⟨w7,x7,st7,m7,j7,yU,jn,qA,Hr,od,Iv⟩:=zgz zmZ yu q.name;refine zhl rfl _ _ rfl _ _ _ rfl rfl w7 yU ?_;refine NxM hK λhHeld=>?_
 clear hK K;refine OnM 32 true λK hK=>?_
 go_simp
 refine NxM hK λhHeld=>?_
 clear hK K;refine OnM 33 true λK hK=>?_
 obtain⟨w8,Ic,AY,uB,hz8⟩:=zdT (P:=Tryz.prog) jn Hr 67 (.slice A7 (pz.length+[fr].length) c7);refine zfX rfl _ _ _ rfl _ _ _ rfl rfl rfl w8 Ic ?_;rw[qA]at AY;refine NxM hK λhHeld=>?_
 clear hK K;refine zaO McT ?_ _;have ym:=(jh.grown od (by simpa using qf)).grown uB (by simpa using qf);have Eg:∀k,k<w4.heap.size->k≠cc->k≠pp->w8.heap[k]?=w4.heap[k]?:=λk hk e1 e2=>
  (((uB.block k McS (by simpa using e2)).trans (od.block k McS (by simpa using e2))).trans (bF.block k McS (by simpa using e1))).trans (ob.block k hk (by simpa using e1))
 have xm:=zbz (FR4.mapS gy.out cT.out ke.out);have yQ:=zbz (FR4.mapS gy.out cT.out bK.out);have jF:∀(g:Nat) (cur:Array Value),w4.heap[g]?=some (.cells cur 9 (0,0))->w8.heap[g]?=w4.heap[g]?:=λg cur hg=>by
  obtain⟨es1,x1,gD⟩:=xm;obtain⟨es2,x2,cP⟩:=yQ;exact Eg g (zab hg) (λe=>by subst e;rw[gD]at hg;simp at hg) (λe=>by subst e;rw[cP]at hg;simp at hg)
 have oa8:=oa4.same (W':=w8) (λg cur _ hg=>jF g cur hg);have ob8:=g1.same (W':=w8) (λg cur _ hg=>jF g cur hg);have Au:∀k,k<w.heap.size->k≠cc->k≠pp->za4 (.slice KA ks.length kc)≠some k->za4 (.slice QA pz.length qc)≠some k->w8.heap[k]?=w.heap[k]?:=λk hk e1 e2 e3 e4=>
  (Eg k (by have:=FR4.size;omega) e1 e2).trans (FR4.block k hk e3 e4)
 have qd:=wld_child ba HC.out HP.out HT.out ke.out bK.out mE.out Jw.out tY.out tZ.out (by rw[iA.out];exact gy.out) zU.out (by rw[lq.out];exact cT.out) ik.out (by rw[iA.out];exact oa8) (by rw[lq.out];exact ob8) b1 b2 b12 ym AY Au;have fL:=HP.out.ge;have ja:Below base w w8:=⟨uB.os.trans (od.os.trans (bF.os.trans (ob.os.trans FR4.os))),uB.tape.trans (od.tape.trans (bF.tape.trans (ob.tape.trans FR4.tape))),uB.output.trans (od.output.trans (bF.output.trans (ob.output.trans FR4.output))),by have:=FR4.size;omega,λk hk=>Au k (by have:=HW.out.lt;omega) McS McS (λe=>by have:=(gy.out.ge k e).1;omega) (λe=>by have:=(cT.out.ge k e).1;omega)⟩
 have Gk:KeepD w w8:=λk cur f hk=>Au k (zab hk) (λe=>by obtain⟨_,_,hx⟩:=zbz ke.out;rw[e,hx]at hk;simp at hk) (λe=>by obtain⟨_,_,hx⟩:=zbz bK.out;rw[e,hx]at hk;simp at hk)
  (λe=>by obtain⟨_,hx⟩:=zfn gy.out e;have:=Option.some.inj (hx.symm.trans hk);simp only[Obj.cells.injEq]at this;exact absurd this.2.1 McU)
  (λe=>by obtain⟨_,hx⟩:=zfn cT.out e;have:=Option.some.inj (hx.symm.trans hk);simp only[Obj.cells.injEq]at this;exact absurd this.2.1 McU)
 have ky:=Lib.hid Gk;have JL:=Lib.hid qd;have kY:=Lib.hid ja;clear Gk qd ja Au Eg jF oa8 ob8 xm yQ ym AY uB Ic jn qA Hr od yU yu jh bF eU jm qz om ob nE b1 b2 b12 oa4 dg FR4 g1 g2 g3 ob3 FR3 h1 h2 h3;go_wp2_with fail
 go_ret
 have hX:=jy.out;simp only[Bool.false_eq_true,if_false]at hX;rw[if_neg (by simpa using H2.out)]at hX;rw[hX]
 exact⟨rfl,JL.out,kY.out,ky.out⟩):P:=h
def Mb(h:P:=by
 clear eO cT;go_upto_region 9 with fail
 have i1:=bZ.out wr (Below.refl _ _);refine za9 10 (λbb w'=>bb=true\/w'.cell? ⟨b,off+k,none⟩=some (.string x)) McT (.inr (bZ.out _ (zaF (Below.refl _ _)))) ?hrest
 case hrest=>
  intro hHeld;refine TkM 5 ?_;refine TkM 6 ?_;refine TkM 7 ?_;refine TkM 8 ?_;refine TkM 1 ?_;refine TkM 2 ?_;refine TkM 3 ?_;refine FrM 11 false ?_;refine FrM 12 false ?_;refine FrM 13 false ?_;refine TwM 0 9 (λK hK=>?_) λK hK=>?_
  ·go_simp
   have e0:Below wr.heap.size wr (wr.drew.alloc (.cells #[] 9)):=zad (zaF (Below.refl _ _)) _;refine NxM hK (λhHeld=>?_) (.inr (bZ.out _ e0));clear hK K;refine TwM 4 9 (λK hK=>?_) λK hK=>?_
   ·refine zap (v:=.slice (some ⟨wr.heap.size,0,none⟩) 0 0) (n:=0) (m:=a) rfl _ _ rfl zbL zaB zbK rfl (xs:=[]) (ys:=xs.take a) (zgG wr.drew wr.heap.size (Nat.le_refl _)) rfl rfl (fe.out.symm) (rE.out _ e0) Mc3 Mdi Mc4 ?_;intro v4 w4 h1 h2 h3;rw[List.nil_append]at h1;obtain⟨V4,c4,be,_,_⟩:=h1.sl zaB;rw[fe.out]at be;subst be;have aB:Below wr.heap.size wr w4:=Below.grown e0 h2 MdP (λj hj=>by simp[za4]at hj;omega);refine NxM hK (λhHeld=>?_) (.inr (bZ.out _ aB));clear hK K;refine OnM 9 false λK hK=>?_
    go_simp
    have e1:Below wr.heap.size wr (w4.alloc (.cells #[.string x] 9)):=zad aB _;have n1:(w4.alloc (.cells #[.string x] 9)).heap[w4.heap.size]?=some (.cells #[.string x] 9):=zas _ _ _ rfl;have o1:OwnS (w4.alloc (.cells #[.string x] 9)) wr.heap.size 9 1 sC (.slice V4 a c4) (xs.take a):=h1.keep (n:=w4.heap.size) (zad (Below.refl _ _) _);refine NxM hK (λhHeld=>?_) (.inr (bZ.out _ e1));clear hK K;refine OnM 10 true λK hK=>?_
    refine zap (v:=.slice V4 a c4) (n:=a) (m:=1) rfl _ _ rfl zbL zaB zbK rfl (xs:=xs.take a) (ys:=[x]) (o1) fe.out rfl rfl (zfW n1) Mc3 Mdi McZ ?_;intro v5 w5 g1 g2 g3;obtain⟨A5,c5,eu,_,_⟩:=g1.sl zaB;rw[List.length_append,fe.out]at eu;subst eu;have ar:Below wr.heap.size wr w5:=Below.grown e1 g2 Mde (λj hj=>((o1).ge j hj).1);exact Mcf
   ·go_simp
    have e1:Below wr.heap.size wr ((wr.drew.alloc (.cells #[] 9)).alloc (.cells #[.string x] 9)):=zad e0 _;have n1:((wr.drew.alloc (.cells #[] 9)).alloc (.cells #[.string x] 9)).heap[wr.heap.size+1]?=some (.cells #[.string x] 9):=zas _ _ _ McV;have m1:OwnS ((wr.drew.alloc (.cells #[] 9)).alloc (.cells #[.string x] 9)) wr.heap.size 9 1 sC (.slice (some ⟨wr.heap.size,0,none⟩) 0 0) []:=(zgG wr.drew wr.heap.size (Nat.le_refl _)).keep (n:=(wr.drew.alloc (.cells #[] 9)).heap.size) (zad (Below.refl _ _) _);refine NxM hK (λhHeld=>?_) (.inr (bZ.out _ e1));clear hK K;refine OnM 4 false λK hK=>?_
    refine zap (v:=.slice (some ⟨wr.heap.size,0,none⟩) 0 0) (n:=0) (m:=a) rfl _ _ rfl zbL zaB zbK rfl (xs:=[]) (ys:=xs.take a) (m1) rfl rfl (fe.out.symm) (rE.out _ e1) Mc3 Mdi McZ ?_;intro v4 w4 h1 h2 h3;rw[List.nil_append]at h1;obtain⟨V4,c4,be,_,_⟩:=h1.sl zaB;rw[fe.out]at be;subst be;have aB:Below wr.heap.size wr w4:=Below.grown e1 h2 Mde (λj hj=>by simp[za4]at hj;omega);have n2:w4.heap[wr.heap.size+1]?=some (.cells #[.string x] 9):=(h2.block _ Mda MdI).trans n1;exact McN
  ·go_simp
   have e0:Below wr.heap.size wr (wr.drew.alloc (.cells #[.string x] 9)):=zad (zaF (Below.refl _ _)) _;have n0:(wr.drew.alloc (.cells #[.string x] 9)).heap[wr.heap.size]?=some (.cells #[.string x] 9):=zas _ _ _ rfl;refine NxM hK (λhHeld=>?_) (.inr (bZ.out _ e0));clear hK K;refine OnM 0 false λK hK=>?_
   go_simp
   have e1:Below wr.heap.size wr ((wr.drew.alloc (.cells #[.string x] 9)).alloc (.cells #[] 9)):=zad e0 _;have n1:((wr.drew.alloc (.cells #[.string x] 9)).alloc (.cells #[] 9)).heap[wr.heap.size]?=some (.cells #[.string x] 9):=zal n0;refine NxM hK (λhHeld=>?_) (.inr (bZ.out _ e1));clear hK K;refine OnM 4 false λK hK=>?_
   have m1:OwnS ((wr.drew.alloc (.cells #[.string x] 9)).alloc (.cells #[] 9)) wr.heap.size 9 1 sC (.slice (some ⟨wr.heap.size+1,0,none⟩) 0 0) []:=by
    exact McG
   refine zap (v:=.slice (some ⟨wr.heap.size+1,0,none⟩) 0 0) (n:=0) (m:=a) rfl _ _ rfl zbL zaB zbK rfl (xs:=[]) (ys:=xs.take a) (m1) rfl rfl (fe.out.symm) (rE.out _ e1) Mc3 Mdi McZ ?_;intro v4 w4 h1 h2 h3;rw[List.nil_append]at h1;obtain⟨V4,c4,be,_,_⟩:=h1.sl zaB;rw[fe.out]at be;subst be;have aB:Below wr.heap.size wr w4:=Below.grown e1 h2 Mde (λj hj=>by simp[za4]at hj;omega);have n2:w4.heap[wr.heap.size]?=some (.cells #[.string x] 9):=(h2.block _ Mda MdI).trans n1
   exact McN):P:=h
def Mc(h:P:=by
 go_simp
 refine hK.out _ _ ?_ (λhHeld=>?_);focus((try dsimp only);refine⟨?_,?_,?_,?_,?_⟩<;>first|assumption|(simp[go_sem,g7,g8,aZ];done)|(simp[go_sem,a0,a1,a2,l5,l6,yp,yL];done)|(simp[go_sem,z0,z1,z2,z5,z6,zx,zy];done))
 clear hK K;try simp only[Act.put,List.setIfInBounds_toArray,List.set_cons_zero,List.set_cons_succ]
 refine OnH 10 λK hK=>?_
 refine zap (v:=.slice A1 out.length c1) (n:=out.length) (m:=1) rfl _ _ rfl zdR zak zcc rfl (xs:=out) (ys:=[(pn,zbi (pq/lf))]) (YO.out.keep (n:=w5.heap.size) Bw) rfl rfl rfl (sl_part (zas _ _ _ rfl)) Mc8 McS McX ?_;intro v6 w6 h1 h2 h3;obtain⟨A6,c6,dK,_,_⟩:=h1.sl zak;rw[List.length_append]at dK;subst dK;have zT:zbt w6 W0.heap.size gpl gcl frm gfin (.slice A1 out.length c1) (.slice D gdi.length dc):=(h2.block _ McX (λe=>zhO YO.out YT.out McU e.symm)).trans (zal YT.out);have z4:w6.cell? ⟨W0.heap.size,4,none⟩=some (.slice A1 out.length c1):=by unfold zbt at zT;simp only[World.cell?,zT];rfl
 have f4:w6.frozen? ⟨W0.heap.size,4,none⟩=false:=by unfold zbt at zT;simp only[World.frozen?,zT];rfl
 have zL:w6.heap[L]?=some (zbs lf):=(h2.block _ McX (λe=>zhO YO.out YL.out McU e.symm)).trans (zal YL.out);have z5:w6.cell? ⟨L,0,none⟩=some (.int .i64 lf.num):=by simp only[World.cell?,zL,zbs];rfl
 have z6:w6.cell? ⟨L,1,none⟩=some (.int .i64 lf.den):=by simp only[World.cell?,zL,zbs];rfl
 have zP:w6.heap[wr.heap.size]?=some (.cells #[.string pn,.int .i64 pq.num,.int .i64 pq.den] 55):=(h2.block _ McX (λe=>by have:=(dV.out.ge _ e.symm).2;omega)).trans (zal Y0.out);obtain⟨z0,z1,z2⟩:=cF3 zP;have zl:=zab zT;have zx:wr.heap.size≠W0.heap.size:=McS;have zy:L≠W0.heap.size:=McS;have ZT:=Lib.hid zT;have ZL:=Lib.hid zL;have H1:=Lib.hid h1;have H2:=Lib.hid h2;have H3:=Lib.hid h3;clear zT zL zP h1 h2 h3;refine hK.out _ _ ?_ (λhHeld=>?_);focus((try dsimp only);refine⟨?_,?_,?_,?_,?_⟩<;>first|assumption|(simp[go_sem,g7,g8,aZ];done)|(simp[go_sem,a0,a1,a2,l5,l6,yp,yL];done)|(simp[go_sem,z0,z1,z2,z5,z6,zx,zy];done))
 clear hK K;try simp only[Act.put,List.setIfInBounds_toArray,List.set_cons_zero,List.set_cons_succ]
 refine TkH 11 ?_;refine OnH 12 λK hK=>?_
 go_simp
 refine hK.out _ _ ?_ (λhHeld=>?_);focus((try dsimp only);refine⟨?_,?_,?_,?_,?_⟩<;>first|assumption|(simp[go_sem,g7,g8,aZ];done)|(simp[go_sem,a0,a1,a2,l5,l6,yp,yL];done)|(simp[go_sem,z0,z1,z2,z5,z6,zx,zy];done))
 clear hK K;try simp only[Act.put,List.setIfInBounds_toArray,List.set_cons_zero,List.set_cons_succ]
 refine wpAnyH_done McT ?_ _;have Na:za4 (.slice A6 (out.length+[(pn,zbi (pq/lf))].length) c6)≠some W0.heap.size:=λe=>by
  rcases H3.out _ e with h|h
  ·exact zhO YO.out YT.out McU h
  ·simp at h;omega
 have r1:MarkAt (w6.setCell ⟨W0.heap.size,4,none⟩ (.slice A6 (out.length+[(pn,zbi (pq/lf))].length) c6)) C (fl||bigQ (pq/lf)):=
  J_ne McS ((H2.out.block C (by have:=zab N1.out;simp;omega) (λe=>by have:=(dV.out.ge _ e.symm).1;omega)).trans (zal N1.out))
 have r2:=zgq ZT.out (.slice A6 (out.length+[(pn,zbi (pq/lf))].length) c6);have r3:OwnS (w6.setCell ⟨W0.heap.size,4,none⟩ (.slice A6 (out.length+[(pn,zbi (pq/lf))].length) c6)) W0.heap.size 55 3 zaa (.slice A6 (out.length+[(pn,zbi (pq/lf))].length) c6) (out++[(pn,zbi (pq/lf))]):=H1.out.grown (za1 _ _ _ _) (.inr Na);have r4:(w6.setCell ⟨W0.heap.size,4,none⟩ (.slice A6 (out.length+[(pn,zbi (pq/lf))].length) c6)).heap[L]?=some (zbs lf):=J_ne McS ZL.out;have r5:Below C W0 w5:=zaV (W:=(wr.alloc (.cells #[.string pn,.int .i64 pq.num,.int .i64 pq.den] 55)).drew) (zaF (zad tL.out _ McS)) N2.out (Nat.le_refl _);have r6:Below C W0 w6:=Below.grown (zad r5 _ McS) H2.out (by have:=r5.size;simp;omega) (λj hj=>by have:=(dV.out.ge _ hj).1;omega);have r7:Below C W0 (w6.setCell ⟨W0.heap.size,4,none⟩ (.slice A6 (out.length+[(pn,zbi (pq/lf))].length) c6)):=zaS r6 (by show C<=W0.heap.size;omega) _;have r8:L<w6.heap.size:=zab ZL.out;have R1:=Lib.hid r1;have R2:=Lib.hid r2;have R3:=Lib.hid r3;have R4:=Lib.hid r4;have R7:=Lib.hid r7;have qj:=dq.out;rw[eY.out]at qj;simp only[Bool.false_eq_true,if_false]at qj;have BL:=Lib.hid qj;clear r1 r2 r3 r4 r5 r6 r7 qj a0 a1 a2 l5 l6 y2 z4 f4 z5 z6 z0 z1 z2;go_wp2_with fail
 go_round
 case rel=>exact⟨k+1,_,out++[(pn,zbi (pq/lf))],_,by omega,by go_num,BL.out.symm,R1.out,R2.out,R3.out,R4.out,R7.out,by simp;omega⟩
 case measure=>simp[intOf];omega):P:=h
def Md(h:P:=by
 have d1:wq.cell? ⟨w.heap.size,1,none⟩=some (.int .i64 dy):=by simp only[World.cell?,nO.out];rfl
 have oR:=oz.out;have DE:=zab oR;have KX:=zab nO.out;unfold WldC at oR;obtain⟨-,-,-,-,-,-,-,z7,z8⟩:=cF9 oR;have f7:wq.frozen? ⟨b,7,none⟩=false:=by simp only[World.frozen?,oR];rfl
 have f8:wq.frozen? ⟨b,8,none⟩=false:=by simp only[World.frozen?,oR];rfl
 have hwb:w.heap.size≠b:=λe=>Nat.lt_irrefl _ (e▸cI)
 clear oR;have ja:Below base w wq:=Below.trans (Below.mono (B:=w.heap.size) Bw (Nat.le_of_lt (Nat.lt_of_le_of_lt ba cI))) oy.out;have kY:=Lib.hid ja;clear ja;by_cases h0:er=0
 ·subst h0;have kV:=wrap_k xS;have EU:=wrap_k2 xS;go_wp2_with fail
  go_region
  all_goals go_wp2_with fail
  all_goals go_ret
  all_goals exact taken_ok (wld_drew (wld_tick nU.out dy ((k:Int)+1))) (zaF (zaS (zaS kY.out eC _) eC _))
 ·go_wp2_with fail
  go_ret
  exact taken_no h0 nU.out kY.out):P:=h
def Me(h:P:=by
 have HE:=Lib.hid (HG.out rfl);have sf:=frz xs0;have ki:=HF.out.dead;clear HG dp;go_upto_region 24 with fail
 obtain⟨U1,si⟩:∃U1,U1=WR.setCell ⟨w.heap.size,6,none⟩ (.slice V2 s.graves.length c2'):=⟨_,rfl⟩
 have u0:U1.heap[w.heap.size]?=some (.cells #[.slice LA laws.length c0,.slice CA s.children.length c1,.slice MA s.marriages.length c2,.slice DA s.dead.length c3,.slice WA wd.length c4,.slice RA rd.length c5,.slice V2 s.graves.length c2'] 86):=by
  rw[si];have:=Joins.block_setCell (i:=6) xs0 (.slice V2 s.graves.length c2');simpa using this
 have u1:U1.heap[w.heap.size+1]?=some (.cells #[.slice none 0 0,.slice none 0 0,.slice none 0 0,.slice none 0 0,.slice none 0 0,.slice none 0 0,.slice none 0 0] 86):=by rw[si];exact J_ne McS xr0
 have Dz:Below w.heap.size w U1:=by rw[si];exact zaS (ak.out.trans (bk.out.mono ay)) (Nat.le_refl _) _
 have xK:WR.grownBy U1 (some w.heap.size):=by rw[si];exact za1 _ _ _ _
 have Id:s.graves≠[]->RowC U1 91 ga go 5 (dx.map GX.cells):=λai=>by
  have h:=Ce.out ai;rw[Ea,List.append_nil]at h;rw[si];exact h.ne (zm3 h xs0 McU)
 have Jy:=Lib.hid Id;have BD:=Lib.hid (λy hy=>((gI.out y hy).keptS xK xs0:okR gxs U1 y));have IE:=Lib.hid Dz;have JI:=Lib.hid u1;have JH:=Lib.hid u0;have KE:=Dz.size;rw[<-si];clear si Id xK sf;clear xs0 xr0 s0 s1 s2 s3 s4 s5 s6 r0 r1 r2 r3 r4 r5 r6 rf ls lr;obtain⟨s0,s1,s2,s3,s4,s5,s6⟩:=zaG u0;have ls:=zab u0;have lr:=zab u1;clear u0 u1;have mn:=Lib.hid (H.out U1 Dz).dead
 go_upto_region 25 with(first
  |(at_builtin
    go_loud(refine zar (v:=.slice (some ⟨U1.heap.size,0,none⟩) 0 0) (n:=0) (m:=s.dead.length) rfl _ _ rfl zbL zaB zbK rfl (xs:=[]) (ys:=s.dead) (zdX zaB U1 U1.heap.size (Nat.le_refl _)) rfl rfl rfl (mn.out.keep (zad (Below.refl _ _) _)) Mdf McS McV ?_)
    intro v3 w3 h1 h2 h3;rw[List.nil_append]at h1;have ax:Below U1.heap.size U1 w3:=Below.grown (zad (Below.refl _ _) _) h2 McV Mdx;obtain⟨V3,vc3,rfl,_,_⟩:=h1.sl zaB;have nQ:=Lib.hid h1;have m8:=Lib.hid ax;have wn:=ax.size
    clear h1 h2 h3 ax)
  |(at_builtin
    go_loud(refine zar (v:=.slice V3 s.dead.length vc3) (n:=s.dead.length) (m:=1) rfl _ _ rfl zbL zaB zbK rfl (xs:=s.dead) (ys:=[n]) (nQ.out.keep (n:=w3.heap.size) (zad (Below.refl _ _) _)) rfl rfl rfl (zcU (zas _ _ _ rfl)) Mdf McS McX ?_)
    intro v6 w6 h1 h2 h3;have aS:Below U1.heap.size U1 w6:=Below.grown (zad m8.out _) h2 McX (λj hj=>(nQ.out.ge j hj).1);obtain⟨A6,vc6,dK,_,xZ⟩:=h1.sl zaB;have kU:v6=.slice A6 (s.dead.length+1) vc6:=by rw[dK,List.length_append];rfl
    clear dK;subst kU;have eA:=Lib.hid h1;have eV:=Lib.hid aS;have BS:=Lib.hid xZ;have x6:=(aS.block w.heap.size ls).trans JH.out;have z6:=(aS.block (w.heap.size+1) lr).trans JI.out;have Af:=Lib.hid x6;have JO:=Lib.hid z6;have sf6:=frz x6;obtain⟨_,_,_,p3,_,_,_⟩:=zaG x6;have ls6:=zab x6
    clear h1 h2 h3 aS xZ x6 z6))
 obtain⟨U7,sj⟩:∃U7,U7=w6.setCell ⟨w.heap.size,3,none⟩ (.slice A6 (s.dead.length+1) vc6):=⟨_,rfl⟩
 have y7:U7.heap[w.heap.size]?=some (.cells #[.slice LA laws.length c0,.slice CA s.children.length c1,.slice MA s.marriages.length c2,.slice A6 (s.dead.length+1) vc6,.slice WA wd.length c4,.slice RA rd.length c5,.slice V2 s.graves.length c2'] 86):=by
  rw[sj];have:=Joins.block_setCell (i:=3) Af.out (.slice A6 (s.dead.length+1) vc6);simpa using this
 have z7:U7.heap[w.heap.size+1]?=some (.cells #[.slice none 0 0,.slice none 0 0,.slice none 0 0,.slice none 0 0,.slice none 0 0,.slice none 0 0,.slice none 0 0] 86):=by rw[sj];exact J_ne McS JO.out
 have bj:Below w.heap.size w U7:=by rw[sj];exact zaS (IE.out.trans (eV.out.mono KE)) (Nat.le_refl _) _
 have sP:w6.grownBy U7 (some w.heap.size):=by rw[sj];exact za1 _ _ _ _
 have hS7:Sl U7 5 GX.cells V2 dx:=by
  by_cases ai:s.graves=[]
  ·have h0:dx.length=0:=by rw[iM];rw[ai]at hk;simpa using hk
   rw[List.eq_nil_of_length_eq_zero h0];exact Sl.nil
  ·obtain⟨e,_⟩:=HV.out ai;have h:=(Jy.out ai).keep eV.out;rw[e,sj];exact(h.ne (zm3 h Af.out McU)).sl rfl
 have yH:∀x∈dx,x.ok U7:=λx hx=>by
  rcases((BD.out x hx).keep eV.out).keptS sP Af.out with h|⟨h1,h2⟩
  ·exact(dt.out x h).keep bj
  ·exact⟨h1.sl zak,h2.sl zaB⟩
 have h':=H.out U7 bj;have aK:Hid (StAt U7 laws R.1 (.slice LA laws.length c0) (.slice CA s.children.length c1) (.slice MA s.marriages.length c2) (.slice A6 (s.dead.length+1) vc6) (.slice WA wd.length c4) (.slice RA rd.length c5) (.slice V2 s.graves.length c2')):=by
  show StAt _ _ _ _ _ _ _ _ _ _;rw[HE.out];refine⟨wd,rd,LA,CA,MA,A6,WA,RA,V2,c0,c1,c2,vc6,c4,c5,c2',rfl,rfl,rfl,?_,rfl,rfl,?_,⟨h'.laws,h'.kids,h'.marr,?_,h'.wills,h'.ren,slw_gx hS7 rfl yH,BS.out⟩,⟨HK.out.wills,HK.out.shares,HK.out.ren,HK.out.tos⟩⟩
  ·show _=Value.slice A6 (s.dead++[n]).length vc6;rw[List.length_append];rfl
  ·show _=Value.slice V2 (dx.map (·.g)).length c2';rw[List.length_map,iM,ph]
  ·exact(eA.out.ro'.kept sP Af.out McU).sl zaB
 rw[<-sj];have bT:=Lib.hid bj;have Ai:=Lib.hid z7;clear sj hS7 yH h' sP bj s0 s1 s2 s3 s4 s5 s6 ls lr p3 sf6 ls6;obtain⟨s0,s1,s2,s3,s4,s5,s6⟩:=zaG y7;obtain⟨r0,r1,r2,r3,r4,r5,r6⟩:=zaG z7;have rf:=frz z7;have ls:=zab y7;have lr:=zab z7;clear y7 z7;go_wp2_with fail
 refine bodyPost_ret (zbB rfl _ rfl rfl (zc0 Ai.out)) rfl ?_
 exact⟨_,_,_,_,_,_,_,true,rfl,rfl,zcC bT.out (show w.heap.size<=w.heap.size+1 by omega),.inl ⟨rfl,by rw[HE.out],(zc5 Ai.out rfl).st aK.out⟩⟩):P:=h
def Mf(h:P:=by
 clear hR;go_wp2_with fail
 go_ret
 rw[HR.out]
 exact Ret.of (zaT (by first|rfl|(simp[*];done))) (HB.out.trans (Below.mono (B:=wc.heap.size) Bw HB.out.size))):P:=h
def Mg(h:P:=by
 go_wp2_with fail
 rw[HE.out];refine bodyPost_ret (zbB rfl _ rfl rfl (zc0 xr0)) rfl ?_
 exact⟨_,_,_,_,_,_,_,rfl,rfl,zcC (ak.out.trans (bl.mono ay)) (show w.heap.size<=w.heap.size+2 by omega),λe=>by cases e⟩):P:=h
def Mh(h:P:=by
 (go_wp2_with fail
  go_ret
  exact Ret.of (zb7 (by rw[HR.out];simp[zcu,p1,p2,isDay0,inR04,inR14,inR24,inR34,inR44, *])) (HB.out.trans (Below.mono (B:=wc.heap.size) Bw hs)))):P:=h
def Mi(h:P:=by
 intro v6 w6 k1 k2 k3;have aS:Below wr.heap.size wr w6:=Below.grown ar k2 ar.size (λj hj=>(g1.ge j hj).1);refine NxM hK λhHeld=>?_
 clear hK K;refine OnM 15 true λK hK=>?_
 go_simp
 refine NxM hK λhHeld=>?_
 clear hK K;refine zaO McT ?_ _;clear hHeld;have K1:=Lib.hid k1;have bs:=Lib.hid aS;clear k1 k2 k3 aS ar g1 g2 g3;go_wp2_with fail
 go_round
 case rel=>exact⟨k+1,aj.out,by go_num,by rw[aK.out];exact K1.out.base_le McS,HB.out.trans (bs.out.mono McS)⟩
 case measure=>have:=aj.out;simp only[intOf];omega):P:=h
def Mj(h:P:=by
 have oS:D0=none:=by
  cases dZ:(f&&l)
  ·obtain⟨h1,h2⟩:=li.out dZ;rw[h1,qP.out];refine vf.out _ Fe.out λdQ e'=>?_
   rw[h2]at e';rcases oG.out rfl with e|e
   ·rw[e]at e';cases e'
   ·cases l
    ·obtain rfl:hs=dQ:=by simpa using e'
     exact e
    ·cases e'
  ·exact oC.out dZ
 have HN:=Lib.hid oS;clear oS;obtain⟨OV,oc,rfl,_,yE⟩:=HO.out.ro;have jE:=dL.out.trans (gw.out.mono dL.out.size);have b8:=bJ.out.keep jE;obtain⟨gcur,dB,_⟩:=b8.row;have j3:wr.cell? ⟨ga,go+k*5+3,none⟩=some (.slice x.H x.g.holders.length x.hc):=b8.at ew.out (j:=3) rfl;have jf:=b8.frz;have jI:=b8.lt;have rz:=Lib.hid b8;have mw:=Lib.hid dB;have C6:=Lib.hid yE;have ku:=Lib.hid jE;clear yE jE b8 dB;go_upto_region 20 with fail
 obtain⟨V1,nZ⟩:∃V1,V1=wr.setCell ⟨ga,go+k*5+3,none⟩ (.slice OV out.length oc):=⟨_,rfl⟩
 have ib:wr.grownBy V1 (some ga):=by rw[nZ];exact za1 _ _ _ _
 have gq:RowC V1 91 ga go 5 (((dx++gxs.drop k).map GX.cells).set k (x.cells.set 3 (.slice OV out.length oc))):=by rw[nZ];exact rz.out.set ew.out McU
 have sz:Below w1.heap.size w1 V1:=Mec;rw[<-nZ];have Dj:WR.heap.size<=V1.heap.size:=Nat.le_trans ku.out.size ib.size;clear nZ j3 jf jI;have Nn:=hxd5 gq ew.out;have ke:=Lib.hid gq;have uV:=Lib.hid sz;have L4:=gq.lt;have vO:=Lib.hid (C6.out.kept ib mw.out McU);have vh:=Lib.hid (λy hy=>(((gI.out y hy).keep ku.out).kept ib mw.out:okR gxs V1 y));have Cu:=Lib.hid (uc.out V1 (ak.out.trans ((aL.out.trans (sz.mono iE)).mono ay))).2;clear gq sz ib
 go_wp2_with (first
  |(at_builtin
    go_loud(refine zar (v:=.slice (some ⟨V1.heap.size,0,none⟩) 0 0) (n:=0) (m:=x.g.died.length) rfl _ _ rfl zbL zaB zbK rfl (xs:=[]) (ys:=x.g.died) (zdX zaB V1 V1.heap.size (Nat.le_refl _)) rfl rfl rfl (Cu.out.keep (zad (Below.refl _ _) _)) Mdf McS McV ?_)
    intro v3 w3 h1 h2 h3;rw[List.nil_append]at h1;have ax:Below V1.heap.size V1 w3:=Below.grown (zad (Below.refl _ _) _) h2 McV Mdx;obtain⟨V3,vc3,rfl,_,_⟩:=h1.sl zaB;have nQ:=Lib.hid h1;have m8:=Lib.hid ax;have wn:=ax.size
    clear h1 h2 h3 ax)
  |(at_builtin
    go_loud(refine zar (v:=.slice V3 x.g.died.length vc3) (n:=x.g.died.length) (m:=1) rfl _ _ rfl zbL zaB zbK rfl (xs:=x.g.died) (ys:=[n]) (nQ.out.keep (n:=w3.heap.size) (zad (Below.refl _ _) _)) rfl rfl rfl (zcU (zas _ _ _ rfl)) Mdf McS McX ?_)
    intro v6 w6 h1 h2 h3;have aS:Below V1.heap.size V1 w6:=Below.grown (zad m8.out _) h2 McX (λj hj=>(nQ.out.ge j hj).1);obtain⟨A6,vc6,dK,_,_⟩:=h1.sl zaB;rw[List.length_append]at dK;subst dK;have eA:=Lib.hid h1;have eV:=Lib.hid aS;have eU:=ke.out.keep aS;have i4:w6.cell? ⟨ga,go+k*5+4,none⟩=some (.slice x.D x.g.died.length x.dc):=hxd5 eU ew.out;have jf6:=eU.frz;have E7:=eU.lt;have Dw:=aS.size
    clear h1 h2 h3 aS eU))
 go_round
 case rel=>
  have eU:=ke.out.keep eV.out;rw[BC.out]at eU;obtain⟨gcur6,mZ,_⟩:=eU.row;refine⟨k+1,true,true,dx++[(⟨{x.g with holders:=out,died:=x.g.died++[n]},OV,oc,A6,vc6⟩:GX)],aj.out,by go_num,rfl,rfl,by rw[List.length_append,iM];rfl,Lib.hid λ_=>row_two iM eU,Lib.hid λy hy=>?_,Lib.hid λ_=>HN.out,Lib.hid McV,zaS (uV.out.trans (eV.out.mono uV.out.size)) AS _,by simp;omega⟩;exact Mct
 case measure=>have:=aj.out;simp only[intOf];omega):P:=h
def Mk(h:P:=by
 refine OnM 6 true λK hK=>?_
 refine zap (v:=.slice V4 s.graves.length c4') (n:=s.graves.length) (m:=1) rfl _ _ rfl zhu zcX zkk rfl (xs:=gxs) (ys:=[(⟨⟨d.place,d.cls,fin,out,[]⟩,VA,vc,none,0⟩:GX)]) o9 bw.out.symm rfl rfl (sl_grave (⟨⟨d.place,d.cls,fin,out,[]⟩,VA,vc,none,0⟩:GX) n9) Mc0 Mdc Mdg ?_;intro v5 w5 g1 g2 g3;obtain⟨A5,c5',eu,_,_⟩:=g1.sl zcX;rw[List.length_append,<-bw.out]at eu;subst eu;have ar:Below WX.heap.size WX w5:=Below.grown e9 g2 Mey (λj hj=>(o9.ge j hj).1);have ca:=bD.out.trans (ar.mono eH);refine NxM hK λhHeld=>?_
 clear hK K;refine OnM 7 true λK hK=>?_
 go_simp
 refine NxM hK λhHeld=>?_
 clear hK K;obtain⟨⟨xs0,xd0,xr0⟩,⟨s0,s1,s2,s3,s4,s5,s6⟩,⟨d0,d1,d2,d3,d4,d5,d6⟩,⟨r0,r1,r2,r3,r4,r5,r6⟩,rf,ls,ld,lr⟩:=ddF (av.out w5 (ca));have sf:=frz xs0;refine OnM 8 true λK hK=>?_
 go_simp
 refine NxM hK λhHeld=>?_
 clear hK K;refine zaO McT ?_ _;clear hHeld;have G1:=Lib.hid g1;have wh:=Lib.hid ar;have bf:=Lib.hid ca;have X0:=Lib.hid xs0;have X2:=Lib.hid xr0;clear g1 g2 g3 ar ca h1 h2 h3 aB;clear xs0 xd0 xr0 s0 s1 s2 s3 s4 s5 s6 d0 d1 d2 d3 d4 d5 d6 r0 r1 r2 r3 r4 r5 r6 rf ls ld lr;clear sf;go_wp2_with fail
 go_meet
 refine⟨⟨by first|rfl|trivial,A5,c5',?_,J_ne McS X2.out,(G1.out.kept (za1 _ _ _ _) X0.out McU).ro',zaS (ak.out.trans (bf.out.mono ay)) (Nat.le_refl _) _⟩,((HO.out.keep wh.out).kept (za1 _ _ _ _) X0.out McU).ro'⟩;have:=Joins.block_setCell (i:=6) X0.out (.slice A5 (s.graves.length+1) c5')
 simpa using this):P:=h
def Ml(h:P:=by
 have a1:wr.cell? ⟨w.heap.size,5,none⟩=some (.bool fa):=McW;have a2:wr.cell? ⟨w.heap.size,7,none⟩=some (.bool true):=McW;have b0:wr.cell? ⟨w.heap.size+1,3,none⟩=some (.string frm):=McY;have b1:wr.cell? ⟨w.heap.size+1,4,none⟩=some (.slice B ps.length c):=McY;have c0:wr.cell? ⟨w.heap.size+2,0,none⟩=some (.int .i64 s.num):=MeU;have c1:wr.cell? ⟨w.heap.size+2,1,none⟩=some (.int .i64 s.den):=MeU;have d0:wr.frozen? ⟨w.heap.size+2,0,none⟩=false:=MeP;have d1:wr.frozen? ⟨w.heap.size+2,1,none⟩=false:=MeP;have e0:w.heap.size<wr.heap.size:=McS;have e1:w.heap.size+1<wr.heap.size:=McS;have e2:w.heap.size+2<wr.heap.size:=McS;have e3:w.heap.size+2≠wr.heap.size:=McS;by_cases ae:k<ps.length
 ·rw[List.drop_eq_getElem_cons ae]at hx;obtain⟨b,off,rfl,hb,hc⟩:=(hS.keep hB).at ae;have wT:=(hS.keep hB).take k;generalize hp:ps[k]=p at*;obtain⟨pn,pu,pd⟩:=p;have h0:wr.cell? ⟨b,off+k*3,none⟩=some (.string pn):=hc 0 _ rfl;have h1:wr.cell? ⟨b,off+k*3+1,none⟩=some (.int .i64 pu):=hc 1 _ rfl;have h2:wr.cell? ⟨b,off+k*3+2,none⟩=some (.int .i64 pd):=hc 2 _ rfl;have HP:=Lib.hid hp;have HF:=Lib.hid cE;have H0:=Lib.hid ay;have HK:=Lib.hid kR;have HS:=Lib.hid wT;have HX:=Lib.hid hx;have HH:=Lib.hid (show ps.length<=100000 by omega);have fZ:(k:Int)<=(c:Int):=McS;have aR:(0:Int)<=(k:Int):=McS;have jL:(k:Int)<(ps.length:Int):=McS;have cF:(ps.take k).length=k:=MdC;have HT:=Lib.hid cF;clear hc hS wT hp cE ay kR hx cF
  go_upto_region 10 with(go_at_call 60
                         refine(zcS _ _ eg (λq=>zae q.name pn) _ k _ (ps.take k) _ HT.out.symm (by rw[HT.out];have:=HH.out;omega) (HS.out.keep (n:=wr.heap.size) Bw) (zlq _ pn _ _ McV Mdo)).mono ?_
                         intro e wq hq;rcases Ret.bools hq with⟨zq,rfl,⟨hb,rfl⟩|⟨hb,rfl⟩⟩<;>clear hq)
  all_goals go_wp2_with (first
   |(go_at_call 74;refine(zdO _ _ _).mono ?_;intro e wq hq;rcases Ret.bools hq with⟨zq,rfl,⟨hb,rfl⟩|⟨hb,rfl⟩⟩<;>clear hq)
   |(go_at_call 106;refine(zoc s pu pd _ (HF.out.small (Rat.le_trans McU H0.out) (cast_le HK.out McS)) Mds).mono ?_;rintro e w1 ⟨rfl,z1,rfl⟩;simp only[zaA]))
  all_goals first
   |(go_ret
     exact Ret.of (zaT (by rw[HX.out];simp[zcp,zgW,zeh,ze5, *])) Bw)
   |(go_round
     case rel=>
      refine⟨k+1,by omega,by go_num,s+Rat.divInt pu pd,(by rw[HX.out,List.take_succ_eq_append_getElem ae,HP.out];simp[zcp,RPart.rat,zeh,ze5, *]:_=_),HF.out.add (zeq Mds),sum_pos H0.out Mds,sum_up HK.out Mds,Bw,by simp[zaf];omega,by repeat(first|assumption|with_reducible refine zal ?_|with_reducible refine zbF ?_|with_reducible refine J_ne McS ?_),by repeat(first|assumption|with_reducible refine zal ?_|with_reducible refine zbF ?_|with_reducible refine J_ne McS ?_),?_⟩;(repeat(first|with_reducible refine zal ?_|with_reducible refine zbF ?_));exact zer g2
     case measure=>simp[intOf];omega)
 ·exact Mcu):P:=h
def Mm(h:P:=by
 have a1:wr.cell? ⟨w.heap.size,5,none⟩=some (.bool fa):=McW;have a2:wr.cell? ⟨w.heap.size,7,none⟩=some (.bool false):=McW;have b0:wr.cell? ⟨w.heap.size+1,3,none⟩=some (.string frm):=McY;have b1:wr.cell? ⟨w.heap.size+1,4,none⟩=some (.slice B ps.length c):=McY;have c0:wr.cell? ⟨w.heap.size+2,0,none⟩=some (.int .i64 s.num):=MeU;have c1:wr.cell? ⟨w.heap.size+2,1,none⟩=some (.int .i64 s.den):=MeU;have d0:wr.frozen? ⟨w.heap.size+2,0,none⟩=false:=MeP;have d1:wr.frozen? ⟨w.heap.size+2,1,none⟩=false:=MeP;have e0:w.heap.size<wr.heap.size:=McS;have e1:w.heap.size+1<wr.heap.size:=McS;have e2:w.heap.size+2<wr.heap.size:=McS;have e3:w.heap.size+2≠wr.heap.size:=McS;by_cases ae:k<ps.length
 ·rw[List.drop_eq_getElem_cons ae]at hx;obtain⟨b,off,rfl,hb,hc⟩:=(hS.keep hB).at ae;have wT:=(hS.keep hB).take k;generalize hp:ps[k]=p at*;obtain⟨pn,pu,pd⟩:=p;have h0:wr.cell? ⟨b,off+k*3,none⟩=some (.string pn):=hc 0 _ rfl;have h1:wr.cell? ⟨b,off+k*3+1,none⟩=some (.int .i64 pu):=hc 1 _ rfl;have h2:wr.cell? ⟨b,off+k*3+2,none⟩=some (.int .i64 pd):=hc 2 _ rfl;have HP:=Lib.hid hp;have HF:=Lib.hid cE;have H0:=Lib.hid ay;have HK:=Lib.hid kR;have HS:=Lib.hid wT;have HX:=Lib.hid hx;have HH:=Lib.hid (show ps.length<=100000 by omega);have fZ:(k:Int)<=(c:Int):=McS;have aR:(0:Int)<=(k:Int):=McS;have jL:(k:Int)<(ps.length:Int):=McS;have cF:(ps.take k).length=k:=MdC;have HT:=Lib.hid cF;clear hc hS wT hp cE ay kR hx cF
  go_upto_region 10 with(go_at_call 60
                         refine(zcS _ _ eg (λq=>zae q.name pn) _ k _ (ps.take k) _ HT.out.symm (by rw[HT.out];have:=HH.out;omega) (HS.out.keep (n:=wr.heap.size) Bw) (zlq _ pn _ _ McV Mdo)).mono ?_
                         intro e wq hq;rcases Ret.bools hq with⟨zq,rfl,⟨hb,rfl⟩|⟨hb,rfl⟩⟩<;>clear hq)
  all_goals go_wp2_with (first
   |(go_at_call 74;refine(zdO _ _ _).mono ?_;intro e wq hq;rcases Ret.bools hq with⟨zq,rfl,⟨hb,rfl⟩|⟨hb,rfl⟩⟩<;>clear hq)
   |(go_at_call 106;refine(zoc s pu pd _ (HF.out.small (Rat.le_trans McU H0.out) (cast_le HK.out McS)) Mds).mono ?_;rintro e w1 ⟨rfl,z1,rfl⟩;simp only[zaA]))
  all_goals first
   |(go_ret
     exact Ret.of (zaT (by rw[HX.out];simp[zcp,zgW,zeh,ze5, *])) Bw)
   |(go_round
     case rel=>
      refine⟨k+1,by omega,by go_num,s,(by rw[HX.out,List.take_succ_eq_append_getElem ae,HP.out];simp[zcp,RPart.rat,zeh,ze5, *]:_=_),HF.out,H0.out,Rat.le_trans HK.out (natUp k),Bw,by simp[zaf];omega,by repeat(first|assumption|with_reducible refine zal ?_|with_reducible refine zbF ?_|with_reducible refine J_ne McS ?_),by repeat(first|assumption|with_reducible refine zal ?_|with_reducible refine zbF ?_|with_reducible refine J_ne McS ?_),?_⟩;repeat(first|assumption|with_reducible refine zal ?_|with_reducible refine zbF ?_|with_reducible refine J_ne McS ?_)
     case measure=>simp[intOf];omega)
 ·exact Mcu):P:=h
def Mn(h:P:=by
 refine OnM 9 true λK hK=>?_
 refine zap (v:=.slice V4 s.children.length c4') (n:=s.children.length) (m:=1) rfl _ _ rfl zgr zbk zdD rfl (xs:=s.children) (ys:=[(d.frm,tn)]) o9 bw.out.symm rfl rfl (zno (p:=(d.frm,tn)) n9) Mc0 Mdc Mdg ?_;intro v5 w5 g1 g2 g3;obtain⟨A5,c5',eu,_,_⟩:=g1.sl zbk;rw[List.length_append,<-bw.out]at eu;subst eu;have ar:Below WX.heap.size WX w5:=Below.grown e9 g2 Mey (λj hj=>(o9.ge j hj).1);have ca:=bD.out.trans (ar.mono eH);refine NxM hK λhHeld=>?_
 clear hK K;refine OnM 10 true λK hK=>?_
 go_simp
 refine NxM hK λhHeld=>?_
 clear hK K;obtain⟨⟨xs0,xd0,xr0⟩,⟨s0,s1,s2,s3,s4,s5,s6⟩,⟨d0,d1,d2,d3,d4,d5,d6⟩,⟨r0,r1,r2,r3,r4,r5,r6⟩,rf,ls,ld,lr⟩:=ddF (av.out w5 (ca));have sf:=frz xs0;refine OnM 11 true λK hK=>?_
 go_simp
 refine NxM hK λhHeld=>?_
 clear hK K;refine zaO McT ?_ _;clear hHeld;have G1:=Lib.hid g1;have wh:=Lib.hid ar;have bf:=Lib.hid ca;have X0:=Lib.hid xs0;have X2:=Lib.hid xr0;clear g1 g2 g3 ar ca h1 h2 h3 aB;clear xs0 xd0 xr0 s0 s1 s2 s3 s4 s5 s6 d0 d1 d2 d3 d4 d5 d6 r0 r1 r2 r3 r4 r5 r6 rf ls ld lr;clear sf;go_wp2_with fail
 go_meet
 refine⟨by first|rfl|trivial,A5,c5',?_,J_ne McS X2.out,(G1.out.kept (za1 _ _ _ _) X0.out McU).ro',zaS (ak.out.trans (bf.out.mono ay)) (Nat.le_refl _) _⟩;have:=Joins.block_setCell (i:=1) X0.out (.slice A5 (s.children.length+1) c5')
 simpa using this):P:=h
def Mo(h:P:=by
 refine OnM 6 true λK hK=>?_
 refine zap (v:=.slice V4 rd.length c4') (n:=rd.length) (m:=1) rfl _ _ rfl zg6 zch zg5 rfl (xs:=dvs) (ys:=[(⟨d,B,c⟩:DV)]) o9 bw.out.symm rfl rfl (sl_deed d B c n9) Mc0 Mdc Mdg ?_;intro v5 w5 g1 g2 g3;obtain⟨A5,c5',eu,_,_⟩:=g1.sl zch;rw[List.length_append,<-bw.out]at eu;subst eu;have ar:Below WX.heap.size WX w5:=Below.grown e9 g2 Mey (λj hj=>(o9.ge j hj).1);have ca:=bD.out.trans (ar.mono eH);refine NxM hK λhHeld=>?_
 clear hK K;refine OnM 7 true λK hK=>?_
 go_simp
 refine NxM hK λhHeld=>?_
 clear hK K;obtain⟨⟨xs0,xd0,xr0⟩,⟨s0,s1,s2,s3,s4,s5,s6⟩,⟨d0,d1,d2,d3,d4,d5,d6⟩,⟨r0,r1,r2,r3,r4,r5,r6⟩,rf,ls,ld,lr⟩:=ddF (av.out w5 (ca));have sf:=frz xs0;refine OnM 8 true λK hK=>?_
 go_simp
 refine NxM hK λhHeld=>?_
 clear hK K;refine zaO McT ?_ _;clear hHeld;have G1:=Lib.hid g1;have wh:=Lib.hid ar;have bf:=Lib.hid ca;have X0:=Lib.hid xs0;have X2:=Lib.hid xr0;clear g1 g2 g3 ar ca h1 h2 h3 aB;clear xs0 xd0 xr0 s0 s1 s2 s3 s4 s5 s6 d0 d1 d2 d3 d4 d5 d6 r0 r1 r2 r3 r4 r5 r6 rf ls ld lr;clear sf;go_wp2_with fail
 go_meet
 refine⟨by first|rfl|trivial,A5,c5',?_,J_ne McS X2.out,(G1.out.kept (za1 _ _ _ _) X0.out McU).ro',zaS (ak.out.trans (bf.out.mono ay)) (Nat.le_refl _) _⟩;have:=Joins.block_setCell (i:=5) X0.out (.slice A5 (rd.length+1) c5')
 simpa using this):P:=h
def Mp(h:P:=by
 refine OnM 6 true λK hK=>?_
 refine zap (v:=.slice V4 wd.length c4') (n:=wd.length) (m:=1) rfl _ _ rfl zg6 zch zg5 rfl (xs:=dvs) (ys:=[(⟨d,B,c⟩:DV)]) o9 bw.out.symm rfl rfl (sl_deed d B c n9) Mc0 Mdc Mdg ?_;intro v5 w5 g1 g2 g3;obtain⟨A5,c5',eu,_,_⟩:=g1.sl zch;rw[List.length_append,<-bw.out]at eu;subst eu;have ar:Below WX.heap.size WX w5:=Below.grown e9 g2 Mey (λj hj=>(o9.ge j hj).1);have ca:=bD.out.trans (ar.mono eH);refine NxM hK λhHeld=>?_
 clear hK K;refine OnM 7 true λK hK=>?_
 go_simp
 refine NxM hK λhHeld=>?_
 clear hK K;obtain⟨⟨xs0,xd0,xr0⟩,⟨s0,s1,s2,s3,s4,s5,s6⟩,⟨d0,d1,d2,d3,d4,d5,d6⟩,⟨r0,r1,r2,r3,r4,r5,r6⟩,rf,ls,ld,lr⟩:=ddF (av.out w5 (ca));have sf:=frz xs0;refine OnM 8 true λK hK=>?_
 go_simp
 refine NxM hK λhHeld=>?_
 clear hK K;refine zaO McT ?_ _;clear hHeld;have G1:=Lib.hid g1;have wh:=Lib.hid ar;have bf:=Lib.hid ca;have X0:=Lib.hid xs0;have X2:=Lib.hid xr0;clear g1 g2 g3 ar ca h1 h2 h3 aB;clear xs0 xd0 xr0 s0 s1 s2 s3 s4 s5 s6 d0 d1 d2 d3 d4 d5 d6 r0 r1 r2 r3 r4 r5 r6 rf ls ld lr;clear sf;go_wp2_with fail
 go_meet
 refine⟨by first|rfl|trivial,A5,c5',?_,J_ne McS X2.out,(G1.out.kept (za1 _ _ _ _) X0.out McU).ro',zaS (ak.out.trans (bf.out.mono ay)) (Nat.le_refl _) _⟩;have:=Joins.block_setCell (i:=4) X0.out (.slice A5 (wd.length+1) c5')
 simpa using this):P:=h
def Mq(h:P:=by
 refine OnM 9 true λK hK=>?_
 refine zap (v:=.slice V4 s.marriages.length c4') (n:=s.marriages.length) (m:=1) rfl _ _ rfl zgr zbk zdD rfl (xs:=s.marriages) (ys:=[(d.frm,tn)]) o9 bw.out.symm rfl rfl (zno (p:=(d.frm,tn)) n9) Mc0 Mdc Mdg ?_;intro v5 w5 g1 g2 g3;obtain⟨A5,c5',eu,_,_⟩:=g1.sl zbk;rw[List.length_append,<-bw.out]at eu;subst eu;have ar:Below WX.heap.size WX w5:=Below.grown e9 g2 Mey (λj hj=>(o9.ge j hj).1);have ca:=bD.out.trans (ar.mono eH);refine NxM hK λhHeld=>?_
 clear hK K;refine OnM 10 true λK hK=>?_
 go_simp
 refine NxM hK λhHeld=>?_
 clear hK K;obtain⟨⟨xs0,xd0,xr0⟩,⟨s0,s1,s2,s3,s4,s5,s6⟩,⟨d0,d1,d2,d3,d4,d5,d6⟩,⟨r0,r1,r2,r3,r4,r5,r6⟩,rf,ls,ld,lr⟩:=ddF (av.out w5 (ca));have sf:=frz xs0;refine OnM 11 true λK hK=>?_
 go_simp
 refine NxM hK λhHeld=>?_
 clear hK K;refine zaO McT ?_ _;clear hHeld;have G1:=Lib.hid g1;have wh:=Lib.hid ar;have bf:=Lib.hid ca;have X0:=Lib.hid xs0;have X2:=Lib.hid xr0;clear g1 g2 g3 ar ca h1 h2 h3 aB;clear xs0 xd0 xr0 s0 s1 s2 s3 s4 s5 s6 d0 d1 d2 d3 d4 d5 d6 r0 r1 r2 r3 r4 r5 r6 rf ls ld lr;clear sf;go_wp2_with fail
 go_meet
 refine⟨by first|rfl|trivial,A5,c5',?_,J_ne McS X2.out,(G1.out.kept (za1 _ _ _ _) X0.out McU).ro',zaS (ak.out.trans (bf.out.mono ay)) (Nat.le_refl _) _⟩;have:=Joins.block_setCell (i:=2) X0.out (.slice A5 (s.marriages.length+1) c5')
 simpa using this):P:=h
def Mr(h:P:=by
 go_wp2_with (first
               |(go_at_call 58;go_must(refine(zc3 _ _ _ _).mono ?_);rintro e wq ⟨rfl,rfl⟩;(first|rw[iR]|rw[lG]|rw[hy9]))
               |(go_at_call 28;go_must(refine(zcP _ _).mono ?_);rintro e wq ⟨rfl,rfl⟩;rw[ki])
               |(go_at_call 27;go_must(refine(zcO _ _ Mds).mono ?_);rintro e wq ⟨rfl,rfl⟩;(first|rw[cJ]|rw[eT]|rw[lS])))
 go_meet
 exact⟨zaT (by simp[zb0, *]),by first|exact True.intro|rfl⟩):P:=h
def Ms(h:P:=by
 go_wp2_with (first
               |(go_at_call 58;go_must(refine(zc3 _ _ _ _).mono ?_);rintro e wq ⟨rfl,rfl⟩;(first|rw[iR]|rw[lG]|rw[hy9]))
               |(go_at_call 28;go_must(refine(zcP _ _).mono ?_);rintro e wq ⟨rfl,rfl⟩;rw[ki])
               |(go_at_call 27;go_must(refine(zcO _ _ Mds).mono ?_);rintro e wq ⟨rfl,rfl⟩;(first|rw[cJ]|rw[eT]|rw[lS])))
 go_ret
 exact Ret.of (zb7 HE.out.symm) ak.out):P:=h
def Mt(h:P:=by
 intro v6 w6 h1 h2 h3;obtain⟨A6,c6,dK,_,_⟩:=h1.sl zaB;rw[List.length_append]at dK;subst dK;have xG:=o1.ge;have dP:∀k,k<wc.heap.size->w6.heap[k]?=wc.heap[k]?:=λk hk=>(h2.block k (by have:=oK.size;simp at this⊢;omega) (λe=>by have:=(xG k e.symm).1;simp at this;omega)).trans (oK.block k (by simpa using hk))
 have tC:zbt w6 wr.heap.size g.place g.cls frm g.fin (.slice A1 g.holders.length c1) (.slice D g.died.length dc):=(dP _ bx).trans fH.out;have ii:wc.heap.size<=w6.heap.size:=by have a:=oK.size;have b:=h2.size;simp at a b⊢;omega
 have y3:w6.cell? ⟨w.heap.size,3,none⟩=some (.string fr):=(World.cell?_of_block (w:=wc) (dP w.heap.size McS)).trans d3;have y5:w6.cell? ⟨T,5,none⟩=some (.slice D g.died.length dc):=(World.cell?_of_block (w:=wc) (dP T McS)).trans q5;have jS:=tC;unfold zbt at jS;obtain⟨-,-,-,-,-,u5⟩:=cF6 jS;have fu5:w6.frozen? ⟨wr.heap.size,5,none⟩=false:=by simp only[World.frozen?,jS];rfl
 have hx6:=zab tC;refine NxM hK (λhHeld=>?_) (⟨y3,y5⟩);clear hK K;refine TkH 9 ?_;refine OnH 10 λK hK=>?_
 go_simp
 refine NxM hK (λhHeld=>?_) (⟨(World.cell?_setCell_far _ _ _ _ (by show wr.heap.size≠w.heap.size;omega)).trans y3,(World.cell?_setCell_far _ _ _ _ (by show wr.heap.size≠T;omega)).trans y5⟩);clear hK K;refine wpAnyH_done McT ?_ _;go_wp2_with fail
 go_meet
 have aS:Below wc.heap.size wc w6:=Below.grown (a:=wc) (B:=wc.heap.size) (B_drop oK) h2 (by have:=oK.size;simp at this⊢;omega) (λj hj=>by have:=(xG j hj).1;simp at this;omega);have fW:za4 (.slice A1 g.holders.length c1)≠some wr.heap.size:=zkT kB.out fH.out McU
 exact⟨A6,c6,tomb_set5 tC _,OwnS.base_le (h1.grown (za1 _ _ _ _) (.inr λe=>by have:=(h1.ge _ e).1;simp at this;omega)) McX,(kB.out.keep aS).grown (za1 _ _ _ _) (.inr fW),zaS (av.out.trans (aS.mono McS)) McV _⟩):P:=h
def Mu(h:P:=by
 (refine zag McT McT ?_
  repeat(first|go_big_quiet_skip|(go_big_quiet_want;go_big_quiet_op;first|go_big_quiet_on|(apply Exists.intro;refine⟨λ_=>?_,?_⟩;(go_at_call 129;exact quietx (zhY _));go_big_quiet_on)))
  refine wpQuiet_nil ?_
  rintro _ ⟨zq,rfl⟩)
 go_wp2_with fail
 go_ret
 exact Ret.of (zaT (by rw[HE.out];simp[fm5, *])) (zb2 aG.out zq)):P:=h
def Mv(h:P:=by
 go_simp
 refine NxM hK λhHeld=>?_
 clear hK K;refine zaO McT ?_ _;clear hHeld;go_wp2_with fail
 go_meet
 refine⟨_,.slice E0 m0 q0,.slice E1 m1 q1,.slice E2 m2 q2,.slice E3 m3 q3,.slice E4 m4 q4,.slice E5 m5 q5,.slice E6 m6 q6,rfl,?_,?_,?_⟩;rotate_left 1
 ·first|with_reducible exact(zc5 jz rfl).st nK|exact nK.keep (zad (Below.refl _ _) _)
 ·first|with_reducible exact zcC cq (Nat.le_refl _)|exact zad cq _
 ·first|with_reducible exact zc0 jz|exact zas _ _ _ rfl):P:=h
def Mw(h:P:=by
 refine bodyPost_ret (zbB rfl _ rfl rfl (zc0 xr5)) rfl ?_
 exact⟨_,_,_,_,_,_,_,rfl,rfl,zcC (ak.out.trans (bf.out.mono ay)) (show w.heap.size<=w.heap.size+2 by omega),λh0=>(zc5 xr5 rfl).st (aK.out h0)⟩):P:=h
def Mx(h:P:=by
 go_enter Tryz.func10,Tryz.ntmps10
 go_wp2_with fail
 go_loopw [5] (λi wr=>∃j:Nat,j<=xs.length/\i=.int .i64 j/\∃z,wr=w.ext z) (λi _=>xs.length-(intOf i).toNat)
 case atStart=>exact⟨0,Nat.zero_le _,rfl,zaP (Below.refl _ _)⟩
 case round=>
  obtain⟨j,hj,rfl,z,rfl⟩:=hrel;by_cases ae:j<xs.length
  ·obtain⟨b,off,rfl,hb,hc⟩:=hp.at ae;obtain⟨b',off',rfl,cA,aE⟩:=hq.at ae;have bu:(j:Int)<(xs.length:Int):=McS;have oh:(0:Int)<=(j:Int):=McS;generalize xs[j]=x at*;have x0:w.cell? ⟨b,off+j*3,none⟩=some (.string x.name):=hc 0 _ rfl;have y0:w.cell? ⟨b',off'+j*3,none⟩=some (.string x.name):=aE 0 _ rfl;have x1:w.cell? ⟨b,off+j*3+1,none⟩=some (.int .i64 x.num):=hc 1 _ rfl;have y1:w.cell? ⟨b',off'+j*3+1,none⟩=some (.int .i64 x.num):=aE 1 _ rfl;have x2:w.cell? ⟨b,off+j*3+2,none⟩=some (.int .i64 x.den):=hc 2 _ rfl;have y2:w.cell? ⟨b',off'+j*3+2,none⟩=some (.int .i64 x.den):=aE 2 _ rfl;exact Mcl
  ·have kP:¬((j:Int)<(xs.length:Int)):=McS;go_wp2_with fail
   go_ret
   exact Ret.of rfl Bw):P:=h
def My(h:P:=by
 refine bodyPost_ret (v:=znb (zbQ day) (zbg day) (day-zaD (zbQ day) (zbg day)+1)) ?_ rfl ?_
 ·rw[HN.out,lh.out];have g2:=J_set3 (a:=.int .i64 y) (b:=.int .i64 m) (c:=.int .i64 (day-zaD y m+1)) (J_ne (b:=w.heap.size+1) (o:=2) (v:=.int .i64 (day-zaD y m+1)) McS g0);refine zl4 rfl _ _ w.heap.size _ _ _ rfl ?_ ?_ ?_;all_goals simp[World.cell?,g2]
 ·exact⟨HD.out,Ret.of rfl (by repeat(first|exact B_refl|exact Below.refl _ _|assumption|with_reducible refine zad ?_ _|with_reducible refine zb2 ?_ _|with_reducible refine zaF ?_|with_reducible refine zcD ?_ _|with_reducible refine zaS ?_ MdO _))⟩):P:=h
def Mz(h:P:=by
 have rM:=Lib.hid xb;have fQ:=Lib.hid (qK.out.trans (((zaF mQ).trans (Dn.mono mQ.size)).mono (by have:=qK.out.size;omega)));have dr:=Lib.hid (λW (h:Below w5.heap.size w5 W)=>zdJ ys YA yc W (by have:=kH.out;omega) (rM.out.keep h));clear xb Dn;go_upto_region 11 with fail
 cases hlg:zaE ys
 ·rw[hlg]at dr;go_wp2_with (go_at_call 165;go_must(refine(dr.out _ (Below.refl _ _)).mono ?_);rintro e wq ⟨rfl,rfl⟩)
  rcases Cf.out with h|⟨h1,h2⟩
  ·obtain⟨g1,g2,g3⟩:=vK.out ys h;go_round
   case rel=>exact⟨k+1,ys,YA,yc,aj.out,rfl,by go_num,g1,g2,g3,λ_=>Br.out,rM.out,fQ.out⟩
   case measure=>have:=aj.out;simp only[intOf];omega
  ·rw[hlg]at h2;cases h2
 ·rw[hlg]at dr;go_wp2_with (go_at_call 165;go_must(refine(dr.out _ (Below.refl _ _)).mono ?_);rintro e wq ⟨rfl,rfl⟩)
  go_ret
  have lT:R=none:=by
   rcases Cf.out with h|⟨h1,h2⟩
   ·have:=(vK.out ys h).2.1.out.small;rw[hlg]at this;cases this
   ·exact nP.out h1
  exact⟨YA,yc,ys,rfl,rM.out,ak.out.trans ((aL.out.trans (fQ.out.mono iE)).mono mI),kH.out,.inr ⟨lT,hlg⟩⟩):P:=h
def MC(h:P:=by
 go_wp2_with (first
               |(go_at_call 51;refine(zbj _ _ _ _).mono ?_;intro e wq hq;rcases Ret0.bools hq with⟨rfl,⟨hb,rfl⟩|⟨hb,rfl⟩⟩<;>clear hq)
               |(go_at_call 22;refine(zc7 _ _).mono ?_;intro e wq hq;rcases Ret0.bools hq with⟨rfl,⟨hb,rfl⟩|⟨hb,rfl⟩⟩<;>clear hq)
               |(go_at_call 44;refine(zbZ _ _ Mds).mono ?_;intro e wq hq;rcases Ret0.bools hq with⟨rfl,⟨hb,rfl⟩|⟨hb,rfl⟩⟩<;>clear hq)
               |(go_at_call 60;refine(zcS _ _ eg (λq:RPart=>!zaU q.name) _ _ _ ps _ rfl HL.out (HS.out.keep (n:=w.heap.size) Bw) (zgo ps _ HN.out)).mono ?_;intro e wq hq;rcases Ret.bools hq with⟨zq,rfl,⟨hb,rfl⟩|⟨hb,rfl⟩⟩<;>clear hq)
               |(go_at_call 76;refine(zd8 ⟨word,fp,ff,fc,fy,fa,fpt,fs⟩ _ _ _ _ _ _ ps _ _ _ _ rfl McS HC.out (HS.out.keep (n:=w.heap.size) Bw)).mono ?_;intro e wq hq;rcases Ret.bools hq with⟨zq,rfl,⟨hb,rfl⟩|⟨hb,rfl⟩⟩<;>clear hq))
 all_goals go_meet
 all_goals(refine⟨zaT (by first|exact hb.symm|simp[zb0,noB, *]),Bw,by first|omega|(simp[zaf];done)|(simp[zaf];omega),?_⟩;repeat(first|assumption|with_reducible refine zal ?_|with_reducible refine zbF ?_|with_reducible refine J_ne McS ?_))):P:=h
def MD(h:P:=by
 go_wp2_with fail
 all_goals go_meet
 all_goals(refine⟨zaT (by first|(simp[noB, *];done)|(rw[Bool.eq_iff_iff];simp[noB];simp[*];done)|(cases fp<;>cases ff<;>simp_all[noB])),Bw,by first|omega|(simp[zaf];done)|(simp[zaf];omega),?_,?_⟩)
 all_goals(repeat(first|assumption|with_reducible refine zal ?_|with_reducible refine zbF ?_|with_reducible refine J_ne McS ?_))):P:=h
def ME(h:P:=by
 have vG:=Lib.hid jh;have jY:=Lib.hid bF;clear jh bF;refine hK.out _ _ ?_ (λhHeld=>?_);focus((try dsimp only);refine⟨?_,?_,?_,?_,?_,?_⟩<;>assumption)
 clear hK K;try simp only[Act.put,List.setIfInBounds_toArray,List.set_cons_zero,List.set_cons_succ]
 refine wpAnyH_done McT ?_ _;go_wp2_with fail
 go_end0
 refine⟨rfl,⟨_,vG.out,(zgx _ _ _ li.out).1,λk=>?_⟩,?_,?_⟩
 ·show _\/mget eqS k (mput eqS n _ mm)=some (zaA (zah (setP out n (zbi (zah out n+f))) k));rw[zfl,zlF HG.out,gT.out];cases hk:zae k n
  ·simp only[Bool.false_eq_true,if_false];show _\/_;rcases vv.out k with⟨a1,a2⟩|a
   ·refine .inl ⟨a1,?_⟩;show zah (setP out n (zbi (zah out n+f))) k=0;rw[zlF HG.out,hk];exact a2
   ·exact .inr a
  ·exact .inr rfl
 ·show MarkAt w6 C (fl||bigQ (zah out n+f));rw[gT.out];exact N1.out.grown jY.out uh
 ·exact(Two2.of_below Bw).trans ((Two2.grownC N2.out).trans (Two2.grownM jY.out))):P:=h
def MF(h:P:=by
 have bj:Below W6.heap.size W6 ((W6.ext zq).alloc (.cells #[.int .i64 day,.slice NA nw.length na] 38)):=Bw;have B9:=rp.out.keep bj;refine⟨k+1,txs++[⟨day,nw,NA,na⟩],NA,na,by have:=aj.out;omega,by go_num,by rw[zjv],h1,h4,λx hx=>?_,?_,?_,by have:=lB.out;show _<=_;rw[List.length_append];simp only[List.length_singleton];omega,?_⟩
 ·rcases List.mem_append.1 hx with hx|hx
  ·exact⟨zgf ((kZ.out x hx).1.keep bj) B9 h2,(kZ.out x hx).2⟩
  ·rw[List.mem_singleton.1 hx];exact⟨zgf (tX.out.keep bj) B9 h2,lj.out⟩
 ·show Sl _ 3 zaa NA (befT (txs++[⟨day,nw,NA,na⟩]));rw[zjv];exact zgf (tX.out.keep bj) B9 h2
 ·show _=_;rw[bY,List.map_append,List.append_assoc,zjv];rfl
 ·exact Mcw):P:=h
def MG(h:P:=by
 intro W B hb;have f0:W.cell? ⟨B,0,none⟩=some (.int .i64 0):=by simp[World.cell?,hb]
 have f1:W.cell? ⟨B,1,none⟩=some (.int .i64 0):=by simp[World.cell?,hb]
 have fz:∀j,W.frozen? ⟨B,j,none⟩=false:=λj=>by simp[World.frozen?,hb]
 go_simp
 with_reducible exact⟨zer hb,zpK _ _ _ _⟩):P:=h
def MH(h:P:=by
 have bY:=cU.out;rw[if_neg dl]at bY;have bj:Below W6.heap.size W6 ((W6.ext z2).alloc (.cells #[.int .i64 day,.slice none (([]:Parts)).length 0] 38)):=Bw;refine⟨k+1,txs++[⟨day,([]:Parts),none,0⟩],by have:=aj.out;omega,by go_num,h1,HsAt.row (λx hx=>?_) (eA.out.keep bj) h2,?_,by have:=lB.out;show _<=_;rw[List.length_append];simp only[List.length_singleton];omega,?_⟩
 ·exact Mcz
 ·exact McH
 ·exact Mcw):P:=h
def MI(h:P:=by
 have bY:=cU.out;rw[if_neg dl]at bY;have bj:Below W6.heap.size W6 ((W6.ext z2).alloc (.cells #[.int .i64 day,.slice H (g.holders).length aE] 38)):=Bw;refine⟨k+1,txs++[⟨day,g.holders,H,aE⟩],by have:=aj.out;omega,by go_num,h1,HsAt.row (λx hx=>?_) (eA.out.keep bj) h2,?_,by have:=lB.out;show _<=_;rw[List.length_append];simp only[List.length_singleton];omega,?_⟩
 ·exact Mcz
 ·exact McH
 ·exact Mcw):P:=h
def MJ(h:P:=by
 (go_wp2_with fail
  go_ret
  exact Ret.of (zb7 Mdb) Bw)):P:=h
def MK(h:P:=by
 go_wp2_with fail
 go_round
 case rel=>have ar:=aG.out.trans (zb2 (Below.refl W3.heap.size W3) zq |>.mono jD)
           have LY:=bJ.out.keep ar;have e1:(dx++[x])++gxs.drop (k+1)=dx++gxs.drop k:=by rw[BC.out,List.append_assoc];rfl
           refine⟨k+1,l,f,dx++[x],aj.out,by go_num,rfl,rfl,by rw[List.length_append,iM];rfl,Lib.hid λ_=>by rw[e1];exact LY,Lib.hid λy hy=>?_,oC,Lib.hid λdZ=>?_,HB.out.trans (ar.mono aM),Nat.le_trans jV ar.size⟩
           ·rcases List.mem_append.1 hy with hy|hy
            ·exact(gI.out y hy).keep ar
            ·rw[List.mem_singleton.1 hy];exact .inl bw.out
           ·obtain⟨h1,h2⟩:=li.out dZ;exact⟨by rw[h1,Fz.out,List.map_append];rfl,h2⟩
 case measure=>have:=aj.out;simp only[intOf];omega):P:=h
def ML(h:P:=by
 go_round
 case rel=>exact⟨k+1,aj.out,by go_num,by first|exact True.intro|rfl,HE.out⟩
 case measure=>have:=aj.out;simp only[intOf];omega):P:=h
def MM(h:P:=by
 refine⟨es.modify j λe=> {e with key:=ek k},c,by simp[Array.getElem?_setIfInBounds,ae],?_,?_,by rw[dX];exact hn,?_⟩
 ·apply List.ext_getElem?;intro i;have iw:=congrArg (λl=>l[i]?) hm;simp only[List.getElem?_map,Array.getElem?_toList]at iw;simp only[List.getElem?_map,Array.getElem?_toList,Array.getElem?_modify,List.getElem?_set];by_cases ed:j=i
  ·subst ed;simp[ee,hj,Array.getElem?_eq_getElem ee,iZ]
  ·simp[ed,iw]
 ·intro e he;have h2:e.born∈(es.modify j λe=> {e with key:=ek k}).toList.map (·.born):=List.mem_map.2 ⟨e,he,rfl⟩;exact McJ
 ·simp[Array.getElem?_modify,Array.getElem?_eq_getElem ee]):P:=h
def MN(h:P:=by
 refine⟨0,Nat.zero_le _,rfl,0,HX,fits_zero,Rat.le_refl,Rat.le_refl,?_,?_,?_,?_,?_⟩
 ·exact Bw
 ·simp
 ·exact zal (zal (zas _ _ _ rfl))
 ·exact zal (zas _ _ _ McV)
 ·exact zas _ _ _ McV):P:=h
def MO(h:P:=by exact⟨k+1,txs,by have:=aj.out;omega,by go_num,eA.out.keep (zan W6 z2),λx hx=>⟨((kZ.out x hx).1.keep (zan W6 z2)),(kZ.out x hx).2⟩,bY,by have:=lB.out;show _<=_;omega,av.out.trans ((zan W6 z2).mono nH)⟩):P:=h
def MP(h:P:=by
 have g4:wq.heap[P]?=some (zbs part):=(g3.others P McX McS McS).trans (zal Jt.out);have g5:Two2 w wq C m:=F3.out.trans (Two2.trans Mc7 g3);have G1:=Lib.hid g1;have G2:=Lib.hid g2;have G4:=Lib.hid g4;have G5:=Lib.hid g5;clear g1 g2 g3 g4 g5;go_wp2_with fail
 go_round
 case rel=>exact⟨k+1,_,_,by omega,by go_num,cM.out.symm,G1.out,G2.out,G5.out,G4.out⟩
 case measure=>simp[intOf];omega):P:=h
def MQ(h:P:=by
 (refine zag McT McT ?_
  repeat(first|go_big_quiet_skip|(go_big_quiet_want;go_big_quiet_op;first|go_big_quiet_on|(apply Exists.intro;refine⟨λ_=>?_,?_⟩;(fail);go_big_quiet_on)))
  refine wpQuiet_nil ?_
  rintro _ ⟨zq,rfl⟩)
 go_wp2_with fail
 go_ret
 refine⟨false,rfl,Iff.intro (λh=>by cases h) (λh=>?_),zaP Bw⟩;exfalso
 have h1:=aw.out;rw[h,kG.out]at h1;simp only[Option.some.injEq,Prod.mk.injEq]at h1
 exact tP.out (by rw[h1.2])):P:=h
def MR(h:P:=by
 (refine zag McT McT ?_
  repeat(first|go_big_quiet_skip|(go_big_quiet_want;go_big_quiet_op;first|go_big_quiet_on|(apply Exists.intro;refine⟨λ_=>?_,?_⟩;(fail);go_big_quiet_on)))
  refine wpQuiet_nil ?_
  rintro _ ⟨zq,rfl⟩)
 go_wp2_with fail
 go_ret
 refine⟨false,rfl,Iff.intro (λh=>by cases h) (λh=>?_),zaP Bw⟩;exfalso
 have h1:=aw.out;rw[h,kG.out]at h1;simp only[Option.some.injEq,Prod.mk.injEq]at h1
 exact kx.out (by rw[h1.2])):P:=h
def MS(h:P:=by
 (refine zag McT McT ?_
  repeat(first|go_big_quiet_skip|(go_big_quiet_want;go_big_quiet_op;first|go_big_quiet_on|(apply Exists.intro;refine⟨λ_=>?_,?_⟩;(fail);go_big_quiet_on)))
  refine wpQuiet_nil ?_
  rintro _ ⟨zq,rfl⟩)
 go_wp2_with fail
 go_ret
 refine⟨false,rfl,Iff.intro (λh=>by cases h) (λh=>?_),zaP Bw⟩;exfalso
 have h1:=aw.out;rw[h,kG.out]at h1;simp only[Option.some.injEq,Prod.mk.injEq]at h1
 exact pQ.out h1.1.symm):P:=h
def MT(h:P:=by
 have cn:Hid (R=4):=by show _=_;rw[HR.out];simp[zcu, *]
 clear HR HK cZ;go_wp2_with (go_at_call 44;refine(zbZ _ _ Mds).mono ?_;rintro e wq ⟨rfl,rfl⟩;rw[hq])
 go_ret
 rw[cn.out]
 exact Ret.of rfl Bw):P:=h
def MU(h:P:=by
 have HE:Hid (R=ixI (zlO place day) gs (k+1)):=by show _=_;rw[aw.out,if_neg (by unfold zlO zaM;simp[dJ, *])]
 go_wp2_with fail
 go_round
 case rel=>exact⟨k+1,aj.out,by go_num,HE.out,dN.out⟩
 case measure=>have:=aj.out;simp only[intOf];omega):P:=h
def MV(h:P:=by
 (try simp only)
 (repeat' split)<;>intro h<;>first|rfl|exact absurd rfl h):P:=h
def MW(h:P:=by
 go_upto_region 6 with fail
 (refine zag McT McT ?_
  repeat(first|go_big_quiet_skip|(go_big_quiet_want;go_big_quiet_op;first|go_big_quiet_on|(apply Exists.intro;refine⟨λ_=>?_,?_⟩;(fail);go_big_quiet_on)))
  refine wpQuiet_nil ?_
  rintro _ ⟨zq,rfl⟩)
 go_wp2_with fail
 go_round
 case rel=>exact⟨k+1,aj.out,by go_num,HE,zb2 HB.out zq⟩
 case measure=>have:=aj.out;simp only[intOf];omega):P:=h
def MX(h:P:=by
 gi_wp2
 have g2:=Boxed.set (.string ⟨#[]⟩) T2.out;have HD:=Lib.hid hd;have bP:∀i,SpIx s x w .ret (pre++[(i,y1,y2)]) (wr.setCell ⟨w.heap.size+1+1,0,none⟩ (.string ⟨#[]⟩)):=λi=>⟨⟨rfl,pre.map Prod.snd,(y1,y2),by simp,HP.out,HM.out,by rw[HO.out,HD.out];exact g2⟩,zaS (aO.trans (bk.out.mono McS)) McX _⟩
 first
  |exact⟨(KeepsOthers.setCell _ _ _).from _,bP _⟩
  |(trace_state;fail "ret")):P:=h
def MY(h:P:=by
 go_wp2_with fail
 go_meet
 exact⟨zaT (by simp[fm2, *]),by first|exact True.intro|rfl⟩):P:=h
def MZ(h:P:=by
 go_wp2_with fail
 go_ret
 exact Ret.of (zaT HE.out.symm) HB.out):P:=h
def M0(h:P:=by
 go_roundg f'
 case measure=>omega
 case rel=>
  refine⟨f',y+1,Nat.le_refl _,by omega,by omega,by omega,HN,HC.out,by repeat(first|exact B_refl|exact Below.refl _ _|assumption|with_reducible refine zad ?_ _|with_reducible refine zb2 ?_ _|with_reducible refine zaF ?_|with_reducible refine zcD ?_ _|with_reducible refine zaS ?_ MdO _),J_ne McS g0,?_⟩;have:=Joins.block_setCell (i:=0) g1 (.int .i64 (y+1))
  simpa using this):P:=h
def M3(h:P:=by
 clear bS;go_wp2_with (go_at_call 94;go_must(refine(tV.out _).mono ?_);rintro e wq ⟨rfl,z,rfl⟩)
 rw[HE.out];refine bodyPost_ret (v:=.tuple #[zaA o,.bool false]) ?_ rfl ?_
 ·exact zgF rfl _ _ w.heap.size _ _ _ rfl rfl (by first|exact zbF (zer g0)|exact zer (zbF g0))
 ·exact Ret.of rfl (by first|exact zb2 (zaS (zaS HB.out McV _) McV _) z|exact zaS (zaS (zb2 HB.out z) McV _) McV _)):P:=h
def M4(h:P:=by
 go_wp2_with fail
 go_round
 case rel=>exact⟨k+1,es,by omega,by go_num,nQ.out,by rw[aq,nN.out,Option.toList_none,List.append_nil];exact IZ.out,aG.out,by have:=eX.out;omega⟩
 case measure=>simp[intOf];omega):P:=h
def M5(h:P:=by
 refine zn3 rfl _ _ w.heap.size _ _ _ _ _ _ rfl ?_ ?_ ?_ ?_ ?_ ?_<;>simp[go_sem]):P:=h
def M6(h:P:=by
 (refine zag McT McT ?_
  repeat(first|go_big_quiet_skip|(go_big_quiet_want;go_big_quiet_op;first|go_big_quiet_on|(apply Exists.intro;refine⟨λ_=>?_,?_⟩;(fail);go_big_quiet_on)))
  refine wpQuiet_nil ?_
  rintro _ ⟨zq,rfl⟩)
 go_wp2_with fail
 go_roundw
 case rel=>exact⟨j+1,by omega,by go_num,by show _=_;rw[kE.out,FH.out,HT.out],zaP Bw⟩
 case measure=>simp[intOf];omega):P:=h
def M7(h:P:=by
 (repeat(first|exact zas _ _ _ (by simp[zaf];done)|with_reducible refine zbF ?_|with_reducible refine zal ?_))):P:=h
def M8(h:P:=by
 rcases h with⟨rfl,_⟩|⟨g,o,c,cur,rfl,_,hg,_⟩
 ·simp[za4]
 ·intro h;simp only[za4,Option.some.injEq]at h;subst h;rw[hg]at hT;simp only[Option.some.injEq,Obj.cells.injEq]at hT
  exact ai hT.2.1.symm):P:=h
def M9(h:P:=by
 apply List.ext_getElem?;intro i;simp only[List.getElem?_map,Array.getElem?_toList,Array.getElem?_modify];by_cases ed:j=i
 ·subst ed;simp[ee,Array.getElem?_eq_getElem ee]
 ·simp[ed]):P:=h
def Maa(h:P:=by
 go_wp2_with (first
  |(go_at_call 51;refine(zbj _ _ _ _).mono ?_;rintro e wq ⟨rfl,rfl⟩;first|rw[v1]|rw[v2])
  |(go_at_call 99;refine(HG.out _).mono ?_;rintro e wq ⟨rfl,z,rfl⟩))
 go_ret
 exact Ret.of (zb7 zU.out.symm) (HB.out.trans (Below.mono (B:=wc.heap.size) Bw hs))):P:=h
def Mab(h:P:=by
 rw[zhX (f:=⟨_,_,_,_,_,_,_,_⟩) (.inl rfl)]
 cases noB fr<;>cases noB pl<;>cases hy:(yr==0)<;>cases hc:(cl==0)<;>simp_all):P:=h
def Mac(h:P:=by
 go_wp2_with fail
 go_ret
 exact⟨by rw[HE.out];rfl,rfl⟩):P:=h
def Mad(h:P:=by
 unfold za8 at hd;simp only[Bool.and_eq_true,decide_eq_true_eq]at hd;refine⟨law.den.toNat,by omega,by omega,law.num,?_⟩;have hz:(law.den:Rat)≠0:=ratI McS;have e:((law.den.toNat:Nat):Rat)=(law.den:Rat):=by rw[<-Rat.intCast_natCast,Int.toNat_of_nonneg McS]
 rw[Rat.divInt_eq_div,e]
 grind):P:=h
def Mae(h:P:=by
 go_round
 case rel=>exact⟨0+1,by omega,by go_num,by first|exact True.intro|rfl,λj s hj hs=>by
  rcases Nat.lt_succ_iff_lt_or_eq.1 hj with hj|rfl
  ·exact HK.out j s hj hs
  ·simp at hs;rw[<-hs];exact nP.out⟩
 case measure=>simp[intOf]):P:=h
def Maf(h:P:=by
 go_round
 case rel=>exact⟨1+1,by omega,by go_num,by first|exact True.intro|rfl,λj s hj hs=>by
  rcases Nat.lt_succ_iff_lt_or_eq.1 hj with hj|rfl
  ·exact HK.out j s hj hs
  ·simp at hs;rw[<-hs];exact nP.out⟩
 case measure=>simp[intOf]):P:=h
def Mag(h:P:=by
 go_round
 case rel=>exact⟨2+1,by omega,by go_num,by first|exact True.intro|rfl,λj s hj hs=>by
  rcases Nat.lt_succ_iff_lt_or_eq.1 hj with hj|rfl
  ·exact HK.out j s hj hs
  ·simp at hs;rw[<-hs];exact nP.out⟩
 case measure=>simp[intOf]):P:=h
def Mah(h:P:=by
 have kP:¬((j:Int)<(xs.length:Int)):=McS;have gC:=HT.out;rw[List.take_of_length_le McS,List.take_of_length_le MeE]at gC;have dW:=Lib.hid gC;clear gC;go_wp2_with fail
 go_ret
 exact⟨true,rfl,Iff.intro (λ_=>dW.out) (λ_=>rfl),zaP Bw⟩):P:=h
def Mai(h:P:=by
 have hw:Region.wanted o (yielded ops a.tmps)=true:=by simp[Region.wanted,bB]
 rw[if_pos hw];unfold Oper.wp;simp[execOp,ho,hx,hi,hu,hrun,Result.andThen]
 exact h):P:=h
def Maj(h:P:=by
 go_wp2_with (go_at_call 23;refine(bI.out _ Bw).mono ?_;rintro e wq ⟨rfl,z,rfl⟩;simp only[zl7,Option.map_none])
 go_ret
 exact zbN HW.out Bw HG.out):P:=h
def Mak(h:P:=by
 have bW:Below W6.heap.size W6 (W6.ext zq):=Bw
 refine⟨k+1,txs,A,c,by have:=aj.out;omega,by go_num,rfl,eA.out.keep bW,rp.out.keep bW,λx hx=>⟨(kZ.out x hx).1.keep bW,(kZ.out x hx).2⟩,mf.out.keep bW,bY,by have:=lB.out;show _<=_;omega,av.out.trans (bW.mono nH)⟩):P:=h
def Mal(h:P:=by
 go_wp2_with (go_at_call 189;go_must(refine(J1.out _ (zb2 ak.out z)).mono ?_);rintro e wq ⟨v,rfl,o,b⟩;obtain⟨VA,vc,rfl,_,_⟩:=o.sl zaB;have ID:=Lib.hid ((zb2 ak.out z).trans (b.mono Mc1));clear o b)
 go_ret
 exact Ret.of (zaT (by simp[hz])) ID.out):P:=h
def Mam(h:P:=by
 go_wp2_with fail
 go_quiet (fail)
 go_wp2_with fail
 go_roundw
 case rel=>exact⟨k+1,ys,by omega,by go_num,kH.out,HP,kC,HO.out.keep (n:=wr.heap.size) (zcD (Below.refl _ _) _),zcD HB.out _⟩
 case measure=>simp[intOf];omega):P:=h
def Man(h:P:=by
 refine slw_of ((zjm ej cx McU).sl zch) (by rw[List.map_append,zR.out];rfl) λy hy=>?_
 rcases List.mem_append.1 hy with hy|hy
 ·exact⟨(oB.out y hy).1,(oB.out y hy).2.keep cC⟩
 ·rw[List.mem_singleton.1 hy]
  exact⟨mh.out,HS.out _ cC⟩):P:=h
def Mao(h:P:=by
 go_round
 case rel=>exact⟨k+1,aj.out,by go_num,by rw[aK.out];exact H1.out,aG.out⟩
 case measure=>have:=aj.out;simp only[intOf];omega):P:=h
def Map(h:P:=by
 first
  |exact⟨(KeepsOthers.setCell _ _ _).from _,bP _⟩
  |(trace_state;fail "ret")):P:=h
def Maq(h:P:=by
 (go_wp2_with fail
  go_ret
  exact Ret.of (zb7 MdB) Bw)):P:=h
def Mar(h:P:=by
 clear hR;go_wp2_with fail
 go_ret
 exact Ret.of (zaT HE.out.symm) Bw):P:=h
def Mas(h:P:=by
 go_wp2_with fail
 go_ret
 exact zbN HW.out Bw jy.out):P:=h
def Mat(h:P:=by
 rw[zhX (f:=⟨_,_,_,_,_,_,_,_⟩) (.inl rfl)]
 cases noB fr<;>cases noB pl<;>cases hy:(yr==0)<;>cases hc:(cl==0)<;>cases ps<;>simp_all):P:=h
def Mau(h:P:=by
 rw[Array.toList_push,List.map_append,List.nodup_append];refine⟨hn,by simp,?_⟩;intro x hx y hy;obtain⟨e,he,rfl⟩:=List.mem_map.1 hx;simp only[List.map_cons,List.map_nil,List.mem_singleton]at hy;have:=hb e he
 omega):P:=h
def Mav(h:P:=by
 go_wp2_with (at_builtin;refine zar (n:=xs.length) (m:=1) rfl _ _ rfl zdR zak zcc rfl HO.out rfl rfl rfl HS.out Mc8 McS aC ?_;intro v' w' h1 h2 h3)
 all_goals go_ret
 all_goals exact⟨_,rfl,h1,h2,h3⟩):P:=h
def Maw(h:P:=by
 go_quiet (fail)
 go_wp2_with fail
 go_meet
 exact⟨zaT (by simp[*]),zcD (Below.refl _ _) _⟩):P:=h
def Max(h:P:=by
 rw[List.getElem?_set_ne hj]at e2;have ai:T'≠T:=λe=>by
  subst e;exact hj ((List.getElem?_inj (List.getElem?_eq_some_iff.1 hi).1 hT.nd).1 (hi.trans e1.symm))
 exact(hT.all j T' g e1 e2).kept hg hx ai McU McU):P:=h
def May(h:P:=by
 go_wp2_with (go_at_call 58;go_must(refine(zc3 _ _ _ _).mono ?_);rintro e wq ⟨rfl,rfl⟩)
 go_ret
 exact⟨rfl,rfl⟩):P:=h
def Maz(h:P:=by
 go_wp2_with fail
 go_ret
 exact Ret.of rfl Bw):P:=h
def MaA(h:P:=by
 have HE:=Lib.hid he;clear he;go_wp2_with fail
 go_round
 case rel=>exact⟨by first|exact True.intro|rfl,.inr (.inl ⟨by go_num,by rw[HE.out]⟩)⟩
 case measure=>simp only[intOf];decide):P:=h
def MaB(h:P:=by
 have:=zdX (t:=60) zch (WX.drew.alloc (.cells #[.int .i64 d.kind,.int .i64 d.day,.string d.place,.string d.frm,.slice B d.to.length c,.int .i64 d.cls,.int .i64 d.years] 60)) WX.heap.size McV
 simpa using this):P:=h
def MaC(h:P:=by
 have HE:Hid (R=(k:Int)):=by show _=_;rw[aw.out,if_pos (by unfold zlO zaM;simp[dJ, *])]
 go_wp2_with fail
 go_ret
 exact Ret.of (zb7 HE.out.symm) (ak.out.trans (dN.out.mono ak.out.size))):P:=h
def MaD(h:P:=by
 rw[hd]at oB;clear hx hd;go_wp2_with (go_at_call 137;go_must(refine(oB.out _ MdJ).mono ?_);rintro e wq ⟨rfl,z,rfl⟩)
 go_ret
 exact Ret.of (by rw[HE.out];rfl) (zb2 ak.out z)):P:=h
def MaE(h:P:=by
 go_wp2_with fail
 go_quiet (fail)
 go_wp2_with fail
 go_ret
 exact Ret.of (zaT (by rw[HU.out];simp)) Bw):P:=h
def MaF(h:P:=by
 rw[List.drop_eq_nil_of_le McS,zeV]at hf;have HF:=Lib.hid hf;clear hf hS;have jL:¬(k:Int)<(ls.length:Int):=McS;go_wp2_with fail
 go_ret
 exact Ret.of (zb7 (by rw[HF.out])) Bw):P:=h
def MaG(h:P:=by
 rw[hr]at hrun;injection hrun with e1 e2
 subst e1 e2;intro g hg;injection hg with hg
 subst hg
 exact⟨_,_,_,new_at w _,happ _ _ (λj u hj=>km j u (by simpa only[List.getElem?_toArray]using hj))⟩):P:=h
def MaH(h:P:=by
 go_wp2_with (go_at_call 44;refine(zbZ _ _ hs).mono ?_;intro e wq hq;rcases Ret0.bools hq with⟨rfl,⟨hb,rfl⟩|⟨hb,rfl⟩⟩<;>clear hq)
 all_goals go_ret
 all_goals exact Ret.of (zaT (by simp[*])) Bw):P:=h
def MaI(h:P:=by
 refine zaZ rfl _ _ _ _ _ rfl ?_ ?_
 ·simp[go_sem]
 ·simp[go_sem]):P:=h
def MaJ(h:P:=by
 go_enter Tryz.func193,Tryz.ntmps193
 go_wp2_with (go_at_call 213;refine(zoZ _ _ h0 h1).mono ?_;rintro e wq ⟨rfl,rfl⟩;rw[hl])
 all_goals go_ret
 all_goals exact⟨by rw[HD.out,hl];rfl,rfl⟩):P:=h
def MaK(h:P:=by
 clear hs ij;go_wp2_with fail
 go_round
 case rel=>exact⟨q+1,by omega,by go_num,by rw[kx.out];exact Aa.out,pS.out,fF⟩
 case measure=>simp[intOf];omega):P:=h
def MaL(h:P:=by
 go_wp2_with fail
 refine bodyPost_ret (v:=zaA (zah (P++(qn,qr)::Q) nm)) ?_ rfl ?_
 ·rw[JJ.out];exact McE
 ·exact Ret.of rfl Bw):P:=h
def MaM(h:P:=by
 have Lk:o+j<cur.size:=McS;have e1:o+j-o=j:=McS;unfold putCells;rw[Array.getElem?_mapIdx,Array.getElem?_eq_getElem Lk,Option.map_some,if_pos ⟨by omega,by omega⟩,e1,hx]
 exact hu):P:=h
def MaN(h:P:=by
 go_ret
 exact Ret.of (zaT (by rw[cn.out];rfl)) (HB.out.trans (Below.mono (B:=wr.heap.size) Bw aM))):P:=h
def MaO(h:P:=by
 go_wp2_with fail
 go_ret
 rw[aw.out]
 exact Ret.of rfl Bw):P:=h
def MaP(h:P:=by
 show((Sort.mapBlock _ _ _).heap++os)[g]?=_;rw[Array.getElem?_append_left Mem];simp only[Sort.mapBlock,Sort.ahead];rw[Array.getElem?_modify,if_pos rfl,hg]
 rfl):P:=h
def MaQ(h:P:=by
 show((Sort.mapBlock _ _ _).heap++os)[k]?=_;rw[Array.getElem?_append_left Mem];simp only[Sort.mapBlock,Sort.ahead]
 rw[Array.getElem?_modify,if_neg Ht]):P:=h
def MaR(h:P:=by
 go_wp2_with (go_at_call 95;go_must(refine(qX.out _ MdJ).mono ?_);rintro e wq ⟨rfl,z,rfl⟩)
 go_ret
 exact Ret.of (zb7 HE.out.symm) (zb2 ak.out z)):P:=h
def MaS(h:P:=by
 go_wp2_with fail
 go_ret
 exact⟨rfl,rfl⟩):P:=h
def MaT(h:P:=by
 have e:xs.flatMap zaa=(xs.take i).flatMap zaa++(xs.drop i).flatMap zaa:=MdF;rw[e,List.getElem?_append_left McS]
 exact hj):P:=h
def MaU(h:P:=by simpa only[zl7,Option.map_some,iy]using this):P:=h
def MaV(h:P:=by
 unfold Oper.wp execOp;simp only[ho,resolve,invoke,builtin,Sem.run_bind,Sem.run_pure,Result.andThen_ok,List.map_toArray,List.map_cons,List.map_nil,hs,hx,hrun]
 exact hK _ _ (h v' w' h2 h3 h4 h5)):P:=h
def MaW(h:P:=by
 clear aq hs;go_wp2_with fail
 go_round
 case rel=>exact⟨k+1,aj.out,by go_num,by rw[aK.out];exact HO.out,HB.out⟩
 case measure=>have:=aj.out;simp only[intOf];omega):P:=h
def MaX(h:P:=by
 go_enter Tryz.func209,Tryz.ntmps209
 go_wp2_with (go_at_call 219;refine(zpA _ _ h0 h1).mono ?_;rintro e wq ⟨rfl,rfl⟩;rw[hl])
 all_goals go_ret
 all_goals exact⟨rfl,rfl⟩):P:=h
def MaY(h:P:=by
 have h0:xs=[]:=by
  cases xs with
  |nil=>rfl
  |cons y ys=>obtain⟨b,off,h,_⟩:=hS McV;cases h
 subst h0;go_wp2_with fail
 go_ret
 exact⟨_,rfl,OwnS.nil,Below.refl _ _⟩):P:=h
def MaZ(h:P:=by
 rename_i hc
 have h:(zcn laws s k last d).2=0:=h;rw[h]at hc
 exact absurd hc McU):P:=h
def Ma0(h:P:=by
 go_wp2_with fail
 go_round
 case rel=>exact⟨by first|exact True.intro|rfl,.inr (.inr ⟨by go_num,by rw[HE.out]⟩)⟩
 case measure=>simp only[intOf];decide):P:=h
def Ma1(h:P:=by
 go_wp2_with (go_at_call 188;go_must(refine(fP.out _ MdJ).mono ?_);rintro e wq ⟨rfl,z,rfl⟩)
 go_ret
 exact Ret.of (zaT McV) (zb2 ak.out z)):P:=h
def Ma2(h:P:=by
 have au:¬(k:Int)<(l.length:Int):=McS;rw[List.take_of_length_le McS]at HO;clear aa hB;go_wp2_with fail
 go_ret
 exact⟨_,rfl,HO.out,HB.out⟩):P:=h
def Ma3(h:P:=by
 intro e he;rw[Array.toList_push]at he;rcases List.mem_append.1 he with he|he
 ·have:=hb e he;omega
 ·rw[List.mem_singleton.1 he];exact Nat.lt_succ_self c):P:=h
def Ma4(h:P:=by
 clear hx;go_wp2_with (go_at_call 28;go_must(refine(zcP _ _).mono ?_);rintro e wq ⟨rfl,rfl⟩;rw[hd])
 go_ret
 exact Ret.of (zb7 HE.out.symm) aG.out):P:=h
def Ma5(h:P:=by
 simp[Instr.mapEntry,run_underlying T.ht,zbY hh,T.hck,h1,hl,Instr.keyThatStays,Array.getElem?_eq_getElem ee,pi,T.hsame _ _ he,zhj hh,Result.andThen]
 rfl):P:=h
def Ma6(h:P:=by
 have cI:=hg.block b hb ai;refine⟨b,off,hA,Nat.lt_of_lt_of_le hb hg.size,λk x hk j u hj=>?_⟩;have:=hc k x hk j u hj;simp only[World.cell?,cI]at this⊢
 exact this):P:=h
def Ma7(h:P:=by
 (repeat(first|with_reducible exact zas _ _ _ McV|with_reducible exact zas _ _ _ Mdu|with_reducible refine zbF ?_|with_reducible refine zal ?_))):P:=h
def Ma8(h:P:=by
 rw[bh];clear hN tU bh bW ej
 exact⟨rfl,aq,iJ,(KeepD.below bn).trans (KeepD.cells (zcb wr T _ _ _ _ _ _) gH.out McU)⟩):P:=h
def Ma9(h:P:=by
 refine Nat.le_trans (List.length_filter_le _ _) ?_;rw[List.length_take]
 omega):P:=h
def Mba(h:P:=by
 rw[hc]at HC;go_wp2_with (go_at_call 67;go_must(refine(HC.out _).mono ?_);rintro e wq ⟨rfl,rfl⟩)
 go_ret
 exact⟨by rw[cn.out];rfl,rfl⟩):P:=h
def Mbb(h:P:=by
 have tU:=Lib.hid ik;clear ik;go_wp2_with fail
 go_ret
 exact zbN HW.out bk.out (tU.out.trans McV)):P:=h
def Mbc(h:P:=by
 obtain⟨h1,g',h2,h3⟩:=zo4 n day l (k+1) j i h;refine⟨by omega,g',?_,h3⟩;rw[show i-k=(i-(k+1))+1 by omega,List.getElem?_cons_succ]
 exact h2):P:=h
def Mbd(h:P:=by
 go_wp2_with (go_at_call 5;go_must(refine(qZ.out _ MeO).mono ?_);rintro e wq ⟨rfl,z,rfl⟩)
 go_ret
 exact Ret.of rfl (zb2 aL.out z)):P:=h
def Mbe(h:P:=by
 go_wp2_with (go_at_call 58;refine(zc3 _ _ _ _).mono ?_;rintro e wq ⟨rfl,rfl⟩)
 all_goals go_ret
 all_goals exact Ret.of (zaT (by rw[hv])) Bw):P:=h
def Mbf(h:P:=by
 have hx:decide ((10:Int)<(ls.length:Int))=true:=McX;go_wp2_with fail
 go_ret
 exact Ret.of (zb7 (by rw[zaC,if_pos McX])) Bw):P:=h
def Mbg(h:P:=by
 go_round
 case rel=>exact⟨k+1,aj.out,by go_num,.inr ⟨vC.out,cR.out⟩,av.out⟩
 case measure=>have:=aj.out;simp only[intOf];omega):P:=h
def Mbh(h:P:=by
 go_ret2
 refine⟨out,true,λ_=>⟨by rw[HR.out,jX.out];rfl,?_⟩,by simp,Ret.of rfl Bw⟩;have h:=jX.out;simp[zba,inR]at h
 omega):P:=h
def Mbi(h:P:=by
 go_upto_region 6 with fail
 go_quiet (fail)
 go_wp2_with fail
 go_meet
 exact⟨by rw[jZ.out],zcD fQ.out _⟩):P:=h
def Mbj(h:P:=by
 go_wp2_with (go_at_call 118;refine(jw.out _ Bw _).mono ?_;rintro e wq ⟨rfl,z,rfl⟩)
 go_ret
 exact zbN HW.out Bw (by rw[jy.out];simp)):P:=h
def Mbk(h:P:=by
 rintro e wq ⟨rfl,z,rfl⟩
 exact⟨rfl,hW.trans ((zan W z).mono hW.size)⟩):P:=h
def Mbl(h:P:=by
 go_ret
 exact Ret.of (zb7 (by rw[HR.out];simp[zcu,p1,p2,isDay0,inR34, *])) (HB.out.trans (Below.mono (B:=wc.heap.size) Bw hs))):P:=h
def Mbm(h:P:=by
 go_ret
 exact⟨by rw[cn.out];rfl,rfl⟩):P:=h
def Mbn(h:P:=by
 go_wp2_with fail
 go_ret
 exact⟨false,rfl,Iff.intro (λh=>by cases h) (λh=>absurd (congrArg List.length h) HN.out),zaP (Below.refl _ _)⟩):P:=h
def Mbo(h:P:=by
 clear hx;rw[zdF h,hp]
 go_simp):P:=h
def Mbp(h:P:=by
 rcases aa with⟨rfl,_⟩|⟨g',o,c',cur,rfl,_,cr,_⟩
 ·cases hk
 ·simp only[za4,Option.some.injEq]at hk;subst hk
  exact⟨cur,_,cr⟩):P:=h
def Mbq(h:P:=by
 go_wp2_with fail
 go_ret
 exact Ret.of (zaT HE.out.symm) ak.out):P:=h
def Mbr(h:P:=by
 first|omega|(simp[zaf];done)|(simp[zaf];omega)):P:=h
def Mbs(h:P:=by
 show _<=((Sort.mapBlock _ _ _).heap++os).size
 simp[Sort.mapBlock,Sort.ahead]):P:=h
def Mbt(h:P:=by
 simp only[Value.slice.injEq]at e'
 omega):P:=h
def Mbu(h:P:=by
 have:=zdX (t:=126) zbk (WX.drew.alloc (.cells #[.string d.frm,.string tn] 126)) WX.heap.size McV
 simpa using this):P:=h
def Mbv(h:P:=by
 have:=aE 0 (.string q.name) (by simp[hq,RPart.cells])
 simpa using this):P:=h
def Mbw(h:P:=by
 rw[List.length_map]
 exact List.length_filter_le _ _):P:=h
def Mbx(h:P:=by
 have:sh.num≠0:=λe=>hz (Rat.num_eq_zero.1 e)
 simpa using this):P:=h
def Mby(h:P:=by
 have:(zaj s n).length<=s.children.length:=by unfold zaj;rw[List.length_map];exact List.length_filter_le _ _
 omega):P:=h
def Mbz(h:P:=by
 refine λj hj hQ=>⟨hQ.1,λe=>?_⟩
 rcases h3 j e with h|h
 ·exact hQ.2 h
 ·omega):P:=h
def MbA(h:P:=by
 refine aT.mono ?_;rintro e wq ⟨rfl,hB⟩
 exact Ret.of rfl hB):P:=h
def MbB(h:P:=by
 rename_i h
 have:q=0:=by simpa using h
 subst this;split
 ·rename_i hs;rw[za2.1 hs];grind
 ·rfl):P:=h
def MbC(h:P:=by
 refine aT.mono ?_;rintro e wq ⟨rfl,rfl⟩
 exact⟨rfl,rfl⟩):P:=h
def MbD(h:P:=by
 clear HR dE iB;go_enter Tryz.func32,Tryz.ntmps32
 go_wp2_with fail
 go_ret
 rw[HX.out]
 exact Ret.of rfl Bw):P:=h
def MbE(h:P:=by
 split
 ·exact h0
 ·simp only
  repeat(first|split|exact h0)):P:=h
def MbF(h:P:=by
 induction a with
 |nil=>rw[List.nil_append,sumQ,Rat.zero_add]
 |cons x a ih=>rw[List.cons_append,sumQ,sumQ,ih];grind):P:=h
def MbG(h:P:=by
 go_wp2_with fail
 go_ret
 exact Ret.of (zaT McV) Bw):P:=h
def MbH(h:P:=by
 go_wp2_with fail
 go_ret
 exact⟨rfl,HW.out.keep (n:=w.heap.size) Bw,Below.mono (B:=w.heap.size) Bw McS⟩):P:=h
def MbI(h:P:=by
 repeat(first|exact zas _ _ _ Mdu|with_reducible refine zbF ?_|with_reducible refine zal ?_)):P:=h
def MbJ(h:P:=by
 obtain⟨cs,t,fr,h1,h2⟩:=h g hg
 exact⟨cs,t,fr,(hB.block g (Nat.lt_of_lt_of_le (zab h1) hn)).trans h1,h2⟩):P:=h
def MbK(h:P:=by
 simp[Instr.mapEntry,run_underlying T.ht,zbY hh,T.hck,h1,hl,T.hz,zhj hh,Result.andThen]
 rfl):P:=h
def MbL(h:P:=by
 rw[ziX,eqSp_refl,if_pos rfl]at this
 exact this):P:=h
def MbM(h:P:=by
 rw[List.getElem?_set_self eR]at e2;simp only[Option.some.injEq]at e1 e2;subst e1 e2
 exact hN):P:=h
def MbN(h:P:=by
 refine zbF ?_;have:=Joins.block_setCell (i:=2) GG.out (.int .i64 af)
 simpa using this):P:=h
def MbO(h:P:=by
 go_wp2_with fail
 go_meet
 rw[dl]at ze
 exact⟨by rw[ze];rfl,rfl⟩):P:=h
def MbP(h:P:=by
 repeat(first|exact zas _ _ _ rfl|with_reducible refine zbF ?_|with_reducible refine zal ?_)):P:=h
def MbQ(h:P:=by simp[List.getD_eq_getElem?_getD,List.getElem?_eq_getElem (show ms.length-1-i<ms.length by omega)]):P:=h
def MbR(h:P:=by
 go_wp2_with fail
 go_meet
 exact⟨zal (zas _ _ _ rfl),zas _ _ _ McV,Bw⟩):P:=h
def MbS(h:P:=by
 have ag:es.size=m.length:=MdV;rw[<-ag]
 simp):P:=h
def MbT(h:P:=by
 obtain⟨b',off',he,_,aE⟩:=hS.at (k:=k-1) McS;cases he
 exact aE 0 _ rfl):P:=h
def MbU(h:P:=by exact⟨λo h=>by cases h;rfl,λh=>by cases h⟩):P:=h
def MbV(h:P:=by
 go_wp2_with fail
 go_meet
 exact⟨by rw[kT],by first|exact True.intro|rfl⟩):P:=h
def MbW(h:P:=by
 rename_i hl
 simp only[Bool.or_eq_true,Bool.and_eq_true,beq_iff_eq,bne_iff_ne]at hl
 omega):P:=h
def MbX(h:P:=by
 go_wp2_with fail
 go_ret
 exact Ret.of rfl (HB.out.trans (Below.mono Bw HB.out.size))):P:=h
def MbY(h:P:=by
 have:=congrArg (λl=>l[j]?) hm;simp[List.getElem?_map,hq,ee]at this
 exact this.1):P:=h
def MbZ(h:P:=by
 rw[hu]at this;rw[<-this];congr 1
 unfold Addr.add
 split<;>split<;>simp_all<;>omega):P:=h
def Mb0(h:P:=by
 rw[h']at hk;simp only[Option.some.injEq,Obj.cells.injEq]at hk
 exact ht hk.2.1.symm):P:=h
def Mb1(h:P:=by
 go_ret2
 rw[HX.out];have bW:=gw.out;have aM:=bW.size
 exact Ret.of rfl Bw):P:=h
def Mb2(h:P:=by
 rintro rfl;have:=HH.out;rw[show y=1800+day/366+10 by omega]at hc
 omega):P:=h
def Mb3(h:P:=by
 go_wp2_with fail
 go_ret
 refine⟨congrArg Ending.returned (zb7 ?_),rfl⟩
 rw[HV.out]):P:=h
def Mb4(h:P:=by
 go_ret2
 exact⟨out,false,by simp,λ_=>by rw[HR.out,jX.out];rfl,Ret.of rfl Bw⟩):P:=h
def Mb5(h:P:=by
 refine zaZ rfl _ _ w.heap.size _ _ rfl ?_ ?_
 ·simp[go_sem]
 ·simp[go_sem]):P:=h
def Mb6(h:P:=by
 rintro e wq ⟨rfl,z,rfl⟩
 exact⟨rfl,fJ.trans ((zan W' z).mono fJ.size)⟩):P:=h
def Mb7(h:P:=by
 have:=Joins.block_setCell (i:=1) g1 (.int .i64 ((m:Int)+1))
 simpa using this):P:=h
def Mb8(h:P:=by
 have:=(List.getElem?_eq_some_iff.1 hk).1;simp at this
 omega):P:=h
def Mb9(h:P:=by
 obtain⟨h1,h2⟩:=zoA g l k x h
 exact⟨List.mem_cons_of_mem _ h1,h2⟩):P:=h
def Mca(h:P:=by
 rw[if_pos rfl]
 exact⟨λo h=>by(cases h),λ_=>zf8 McV⟩):P:=h
def Mcb(h:P:=by
 induction ys with
 |nil=>rfl
 |cons y ys ih=>rw[List.flatMap_cons,ih];rfl):P:=h
def Mcc(h:P:=by
 unfold WldC at hC;rw[hC]at hx
 simp at hx):P:=h
def Mcd(h:P:=by
 clear xs0 xd0 xr0 s0 s1 s2 s3 s4 s5 s6 d0 d1 d2 d3 d4 d5 d6 r0 r1 r2 r3 r4 r5 r6 rf ls ld lr;obtain⟨⟨xs0,xd0,xr0⟩,⟨s0,s1,s2,s3,s4,s5,s6⟩,⟨d0,d1,d2,d3,d4,d5,d6⟩,⟨r0,r1,r2,r3,r4,r5,r6⟩,rf,ls,ld,lr⟩:=ddF (av.out _ (bl))
 exact Mg):P:=h
def Mce(h:P:=by
 have d1:wq.cell? ⟨w.heap.size,1,none⟩=some (.int .i64 dy):=Mdn;have d2:wq.cell? ⟨w.heap.size,2,none⟩=some (.string pl):=Mdn;have d3:wq.cell? ⟨w.heap.size,3,none⟩=some (.string fr):=Mdn;have d4:wq.cell? ⟨w.heap.size,4,none⟩=some (.slice B ts.length c):=Mdn;have d5:wq.cell? ⟨w.heap.size,5,none⟩=some (.int .i64 cl):=Mdn;have d6:wq.cell? ⟨w.heap.size,6,none⟩=some (.int .i64 yr):=Mdn;clear hW hB hK h0 gX gz cH;refine NxM hK (λhHeld=>?_) (⟨d0,d1,d2,d3,d4,d5,d6⟩);clear hK K;refine OnH 5 λK hK=>?_
 go_simp
 refine NxM hK (λhHeld=>?_) (⟨d0,d1,d2,d3,d4,d5,d6⟩);clear hK K;refine wpAnyH_done McT ?_ _;clear d0 d2 d3 d4 d5 d6 d1;go_upto_region 18 with fail
 exact Md):P:=h
def Mcf(h:P:=by
 refine NxM hK λhHeld=>?_
 clear hK K;refine OnM 14 true λK hK=>?_
 refine zap (v:=.slice A5 (a+[x].length) c5) (n:=a+[x].length) (m:=xs.length-a) rfl _ _ rfl zbL zaB zbK rfl (xs:=xs.take a++[x]) (ys:=xs.drop a) g1 MeM rfl (pP.out) (rB.out w5 ar) Mdh Mdm (by have:=ar.size;omega) ?_;intro v6 w6 k1 k2 k3;have aS:Below wr.heap.size wr w6:=Below.grown ar k2 ar.size (λj hj=>(g1.ge j hj).1);refine NxM hK λhHeld=>?_
 clear hK K;refine OnM 15 true λK hK=>?_
 go_simp
 refine NxM hK λhHeld=>?_
 clear hK K;refine zaO McT ?_ _;clear hHeld;have K1:=Lib.hid k1;have bs:=Lib.hid aS;clear k1 k2 k3 aS ar g1 g2 g3;go_wp2_with fail
 go_round
 case rel=>exact⟨k+1,aj.out,by go_num,by rw[aK.out];exact K1.out.base_le McS,HB.out.trans (bs.out.mono McS)⟩
 case measure=>have:=aj.out;simp only[intOf];omega):P:=h
def Mcg(h:P:=by
 refine NxM hK (λhHeld=>?_) (.inr (bZ.out _ aB));clear hK K;refine OnM 10 true λK hK=>?_
 refine zap (v:=.slice V4 a c4) (n:=a) (m:=1) rfl _ _ rfl zbL zaB zbK rfl (xs:=xs.take a) (ys:=[x]) (h1) fe.out rfl rfl (zfW n2) Mc3 Mdi MdW ?_;intro v5 w5 g1 g2 g3;obtain⟨A5,c5,eu,_,_⟩:=g1.sl zaB;rw[List.length_append,fe.out]at eu;subst eu;have ar:Below wr.heap.size wr w5:=Below.grown aB g2 (by have:=(aB).size;omega) (λj hj=>((h1).ge j hj).1);refine NxM hK λhHeld=>?_
 clear hK K;refine OnM 14 true λK hK=>?_
 refine zap (v:=.slice A5 (a+[x].length) c5) (n:=a+[x].length) (m:=0) rfl _ _ rfl zbL zaB zbK rfl (xs:=xs.take a++[x]) (ys:=xs.drop a) g1 MeM rfl (by rw[<-pP.out];omega) (rB.out _ w5 ar) Mdh Mdm (by have:=ar.size;omega) ?_
 exact Mi):P:=h
def Mch(h:P:=by
 have HR:Hid (R=false):=by(show _=_;rw[hR];rfl)
 exact Mf):P:=h
def Mci(h:P:=by
 have HR:Hid (R=false):=by(show _=_;rw[hR];simp[zae, *])
 exact Mf):P:=h
def Mcj(h:P:=by
 have y2:ot.toList.isEmpty=true:=z2;have w2:ot.toList=[]:=MeJ;cases z3:noB pl
 ·exact McR
 ·have y3:pl.toList.isEmpty=true:=z3;have w3:pl.toList=[]:=MeK
  exact McP):P:=h
def Mck(h:P:=by
 go_wp2_with (go_at_call 96
              go_must(refine(jx.out _ (zan W0 zq)).mono ?_)
              rintro e w5 ⟨a0,a1,a2,a3,a4,a5,a6,rfl,aZ,ar,aq⟩;obtain⟨⟨_,_,_,rfl⟩,⟨_,_,_,rfl⟩,⟨_,_,_,rfl⟩,⟨_,_,_,rfl⟩,⟨_,_,_,rfl⟩,⟨_,_,_,rfl⟩,⟨_,_,_,rfl⟩⟩:=zcm aZ;have ar:=(zan W0 zq).trans (ar.mono (zan W0 zq).size);have bf:=Lib.hid ar;have aK:=Lib.hid aq;obtain⟨_,_,xr5⟩:=av.out w5 ar;obtain⟨t0,t1,t2,t3,t4,t5,t6⟩:=zaG xr5;have tf:=frz xr5
              clear ar aq aZ)
 exact Mw):P:=h
def Mcl(h:P:=by
 clear hc aE;go_wp2_with fail
 (refine zag McT McT ?_
  repeat(first|go_big_quiet_skip|(go_big_quiet_want;go_big_quiet_op;first|go_big_quiet_on|(apply Exists.intro;refine⟨λ_=>?_,?_⟩;(fail);go_big_quiet_on)))
  refine wpQuiet_nil ?_
  rintro _ ⟨zq,rfl⟩)
 go_wp2_with fail
 go_roundw
 case rel=>exact⟨j+1,by omega,by go_num,zaP Bw⟩
 case measure=>simp[intOf];omega):P:=h
def Mcm(h:P:=by
 obtain⟨f0,f1,f2,f3,f4,f5,f6⟩:=zaG jz;have fz:=frz jz;refine OnM 11 true λK hK=>?_
 go_simp
 refine NxM hK λhHeld=>?_
 clear hK K;refine OnM 12 true λK hK=>?_
 go_simp
 refine NxM hK λhHeld=>?_
 clear hK K;refine OnM 13 true λK hK=>?_
 exact Mv):P:=h
def Mcn(h:P:=by
 refine NxM hK (λhHeld=>?_) (aJ.out _ FR3);clear hK K;refine OnM 27 false λK hK=>?_
 refine zap (v:=.slice QA pz.length qc) (n:=pz.length) (m:=1) rfl _ _ rfl zbL zaB zbK rfl (xs:=pz) (ys:=[fr]) (ob3.keep (n:=w3.heap.size) Bw) rfl rfl rfl (zcU (x2)) Mc8 McS (by have:=HW.out.lt;(try simp);omega) ?_
 exact Ma):P:=h
def Mco(h:P:=by
 obtain⟨f0,f1,f2,f3,f4,f5,f6⟩:=zaG jz;have fz:=frz jz;refine OnM 13 true λK hK=>?_
 go_simp
 refine NxM hK λhHeld=>?_
 clear hK K;refine OnM 14 true λK hK=>?_
 go_simp
 refine NxM hK λhHeld=>?_
 clear hK K;refine OnM 15 true λK hK=>?_
 exact Mv):P:=h
def Mcp(h:P:=by
 have HR:Hid (R=true):=by(show _=_;rw[hR];simp[zae, *])
 exact Mf):P:=h
def Mcq(h:P:=by
 go_wp2_with fail
 go_round
 case rel=>
  have dl:=HR.out.1 rfl;have bY:=cU.out;rw[if_pos (by first|exact dl.trans qL.out.symm|exact pX.out.symm)]at bY;exact MO
 case measure=>have:=aj.out;simp only[intOf];omega):P:=h
def Mcr(h:P:=by
 go_wp2_with fail
 go_round
 case rel=>
  have dl:=HR.out.1 rfl;have bY:=cU.out;rw[if_pos (by first|exact dl.trans pX.out.symm|exact pX.out.symm)]at bY;exact MO
 case measure=>have:=aj.out;simp only[intOf];omega):P:=h
def Mcs(h:P:=by
 have y2:ot.toList.isEmpty=false:=z2;have w2:¬ot.toList=[]:=MeJ
 exact Mh):P:=h
def Mct(h:P:=by
 rcases List.mem_append.1 hy with hy|hy
 ·exact((vh.out y hy).keep eV.out).kept (za1 _ _ _ _) mZ
 ·rw[List.mem_singleton.1 hy]
  exact .inr ⟨(vO.out.keep eV.out).kept (za1 _ _ _ _) mZ McU,(eA.out.ro').kept (za1 _ _ _ _) mZ McU⟩):P:=h
def Mcu(h:P:=by
 rw[List.drop_eq_nil_of_le McS]at hx;have HX:=Lib.hid hx;clear hx cE ay kR;have jL:¬(k:Int)<(ps.length:Int):=McS;go_wp2_with fail
 all_goals go_ret
 all_goals exact Ret.of (zaT (by rw[HX.out];first|(simp[zcp,zgW, *];done)|(simp[zcp,zgW, *];omega))) Bw):P:=h
def Mcv(h:P:=by
 have w2:¬fr.toList=[]:=by simpa using(show fr.toList.isEmpty=false from z2)
 cases yM:zaU fr
 ·have eT:zcE fr=false:=by rw[<-zdv,yM]
  exact Mr
 ·have eT:zcE fr=true:=by rw[<-zdv,yM]
  exact Mr):P:=h
def Mcw(h:P:=by exact zc4 (Nat.le_refl _) (λg hg=>(eA.out.ge g hg).1) h2 (av.out.trans (bj.mono nH))):P:=h
def Mcx(h:P:=by
 refine NxM hK (λhHeld=>?_) (.inr (aJ.out _ aB));clear hK K;have o9:=h1;have n9:=n2;have e9:=aB
 exact Mk):P:=h
def Mcy(h:P:=by
 refine NxM hK (λhHeld=>?_) (.inr (aJ.out _ aB));clear hK K;have o9:=h1;have n9:=n2;have e9:=aB
 exact Mn):P:=h
def Mcz(h:P:=by
 rcases List.mem_append.1 hx with hx|hx
 ·exact⟨(kZ.out x hx).1.keep bj,(kZ.out x hx).2⟩
 ·rw[List.mem_singleton.1 hx]
  exact⟨kf.out.keep bj,lj.out⟩):P:=h
def McA(h:P:=by
 refine NxM hK (λhHeld=>?_) (.inr (aJ.out _ aB));clear hK K;have o9:=h1;have n9:=n2;have e9:=aB
 exact Mo):P:=h
def McB(h:P:=by
 refine NxM hK (λhHeld=>?_) (.inr (aJ.out _ aB));clear hK K;have o9:=h1;have n9:=n2;have e9:=aB
 exact Mp):P:=h
def McC(h:P:=by
 refine NxM hK (λhHeld=>?_) (.inr (aJ.out _ aB));clear hK K;have o9:=h1;have n9:=n2;have e9:=aB
 exact Mq):P:=h
def McD(h:P:=by
 go_wp2_with fail
 go_loop [5,8] (λa b=>b=.int .i64 0) (λ_ _=>0)
 case atStart=>rfl
 case round=>
  obtain rfl:=hrel
  exact MaS):P:=h
def McE(h:P:=by
 refine zaZ rfl _ _ w.heap.size _ _ rfl ?_ ?_<;>simp[go_sem]):P:=h
def McF(h:P:=by
 have y3:pl.toList.isEmpty=true:=z3;have w3:pl.toList=[]:=MeK
 exact Mh):P:=h
def McG(h:P:=by
 have:=zgG (wr.drew.alloc (.cells #[.string x] 9)) wr.heap.size McV
 simpa using this):P:=h
def McH(h:P:=by
 show _=_;rw[bY,List.map_append,List.append_assoc];unfold befT;rw[List.getLast?_append]
 rfl):P:=h
def McI(h:P:=by
 go_wp2_with (go_at_call 208;refine(qY.out _).mono ?_;rintro e wq ⟨rfl,rfl⟩)
 exact My):P:=h
def McJ(h:P:=by
 rw[dX]at h2;obtain⟨e',oY,iJ⟩:=List.mem_map.1 h2;rw[<-iJ]
 exact hb e' oY):P:=h
def McK(h:P:=by
 have:=bI.out W hB;rw[aP]at this
 exact MaU):P:=h
def McL(h:P:=by
 have w2:fr.toList=[]:=by simpa using(show fr.toList.isEmpty=true from z2)
 exact Mr):P:=h
def McM(h:P:=by
 obtain rfl:k=m:=by omega
 have bu:¬(k:Int)<(k:Int):=McS
 exact MaS):P:=h
def McN(h:P:=by
 refine NxM hK (λhHeld=>?_) (.inr (bZ.out _ aB));clear hK K;refine OnM 10 true λK hK=>?_
 refine zap (v:=.slice V4 a c4) (n:=a) (m:=1) rfl _ _ rfl zbL zaB zbK rfl (xs:=xs.take a) (ys:=[x]) (h1) fe.out rfl rfl (zfW n2) Mc3 Mdi MdW ?_;intro v5 w5 g1 g2 g3;obtain⟨A5,c5,eu,_,_⟩:=g1.sl zaB;rw[List.length_append,fe.out]at eu;subst eu;have ar:Below wr.heap.size wr w5:=Below.grown aB g2 (by have:=(aB).size;omega) (λj hj=>((h1).ge j hj).1)
 exact Mcf):P:=h
def McO(h:P:=by
 rw[aH]at hr;rw[zgN aH]at eJ;have HE:Hid (R=(s,6)):=Lib.hid hr;clear hr aH;go_upto_region 3 with(go_at_call 59;go_must(refine(eJ.out _ (Below.refl _ _)).mono ?_);rintro e wq ⟨rfl,z,rfl⟩)
 have bl:=zan W0 z
 exact Mcd):P:=h
def McP(h:P:=by
 by_cases t1:tl=0
 ·skip
  by_cases u1:nu=0
  ·skip
   by_cases u2:de=0
   ·skip
    exact Mh
   ·skip
    exact Mh
  ·skip
   exact Mh
 ·skip
  exact Mh):P:=h
def McQ(h:P:=by
 have HE:Hid (R=(s,28)):=MeF;rw[cg]at fR;clear hr cg;go_upto_region 17 with(go_at_call 137;go_must(refine(fR.out).mono ?_);rintro e wq ⟨rfl,z,rfl⟩)
 have bl:=zan W0 z
 exact Mcd):P:=h
def McR(h:P:=by
 have y3:pl.toList.isEmpty=false:=z3;have w3:¬pl.toList=[]:=MeK
 exact Mh):P:=h
def McS(h:P:=by omega):P:=h
def McT(h:P:=by kernel_rfl):P:=h
def McU(h:P:=by decide):P:=h
def McV(h:P:=by simp):P:=h
def McW(h:P:=by simp[World.cell?,g0]):P:=h
def McX(h:P:=by simp;omega):P:=h
def McY(h:P:=by simp[World.cell?,g1]):P:=h
def McZ(h:P:=by
 have:=(e1).size;first|omega|(simp at this⊢;done)|(simp at this⊢;omega)):P:=h
def Mc0(h:P:=by have:=ub.out;simp only[maxLen];omega):P:=h
def Mc1(h:P:=by simp[zaf];omega):P:=h
def Mc2(h:P:=by have:=(List.getElem?_eq_some_iff.1 hy).1;simp at this;omega):P:=h
def Mc3(h:P:=by have:=dw.out;have:=HA.out;simp only[maxLen];omega):P:=h
def Mc4(h:P:=by
 have:=(e0).size;first|omega|(simp at this⊢;done)|(simp at this⊢;omega)):P:=h
def Mc5(h:P:=by simp[World.frozen?,g0]):P:=h
def Mc6(h:P:=by simp[World.frozen?,g1]):P:=h
def Mc7(h:P:=by
 repeat(first|exact Two2.refl2 _ _ _|assumption|with_reducible refine Two2.alloc ?_ _|with_reducible refine Two2.drew ?_|with_reducible refine Two2.ext ?_ _)):P:=h
def Mc8(h:P:=by simp[maxLen];omega):P:=h
def Mc9(h:P:=by
 first|omega|(simp;done)|(simp;omega)):P:=h
def Mda(h:P:=by
 first|(simp;done)|(simp;omega)):P:=h
def Mdb(h:P:=by rw[<-HR.out];simp only[zdp,nN.out, *,Bool.not_true,Bool.not_false,Bool.or_self,Bool.or_true,Bool.true_or,Bool.false_or,Bool.or_false,if_true,if_false,Bool.false_eq_true,ite_true,ite_false,decide_false];done):P:=h
def Mdc(h:P:=by have:=ub.out;omega):P:=h
def Mdd(h:P:=by rw[IntKind.wrap_i64];rw[Int.tmod_eq_emod_of_nonneg h0];omega):P:=h
def Mde(h:P:=by have:=(e1).size;omega):P:=h
def Mdf(h:P:=by simp only[maxLen];omega):P:=h
def Mdg(h:P:=by
 have:=e9.size;first|omega|(simp at this⊢;done)|(simp at this⊢;omega)):P:=h
def Mdh(h:P:=by
 first|(have:=dw.out;have:=HA.out;simp only[maxLen,List.length_singleton];omega)|exact Nat.le_of_ble_eq_true rfl):P:=h
def Mdi(h:P:=by have:=dw.out;have:=HA.out;omega):P:=h
def Mdj(h:P:=by rw[Int.tmod_eq_emod_of_nonneg h0];unfold wrap64;omega):P:=h
def Mdk(h:P:=by have:=ah 0 _ rfl;simpa using this):P:=h
def Mdl(h:P:=by grind):P:=h
def Mdm(h:P:=by
 first|(have:=dw.out;have:=HA.out;simp only[List.length_singleton];omega)|exact Nat.le_of_ble_eq_true rfl):P:=h
def Mdn(h:P:=by simp only[World.cell?,h0];rfl):P:=h
def Mdo(h:P:=by simp[go_sem]):P:=h
def Mdp(h:P:=by simpa using h1):P:=h
def Mdq(h:P:=by have:=N2.out.size;simp[zaf]at this;omega):P:=h
def Mdr(h:P:=by have:=dw.out;simp[maxLen];omega):P:=h
def Mds(h:P:=by assumption):P:=h
def Mdt(h:P:=by rw[zbd n2 (by simp[zaf];omega) (by omega)];simp[go_sem]):P:=h
def Mdu(h:P:=by simp[zaf]):P:=h
def Mdv(h:P:=by rw[IntKind.wrap_i64];omega):P:=h
def Mdw(h:P:=by have:=dw.out;omega):P:=h
def Mdx(h:P:=by intro j hj;simp[za4]at hj;omega):P:=h
def Mdy(h:P:=by
 repeat(first|exact zas _ _ _ (by simp)|refine zal ?_)):P:=h
def Mdz(h:P:=by rw[am];exact Bw):P:=h
def MdA(h:P:=by rw[zew,List.length_take];congr 1;omega):P:=h
def MdB(h:P:=by
 rw[<-HR.out];first|(simp[zdp, *];done)|(simp[zdp, *];omega)):P:=h
def MdC(h:P:=by rw[List.length_take];omega):P:=h
def MdD(h:P:=by unfold zbt at cy;simp only[World.cell?,cy];rfl):P:=h
def MdE(h:P:=by
 first|(simp[Act.eval,Act.put];done)|(simp[Act.eval,Act.put];rfl)):P:=h
def MdF(h:P:=by rw[<-List.flatMap_append,List.take_append_drop]):P:=h
def MdG(h:P:=by simpa using h):P:=h
def MdH(h:P:=by rw[List.getD_eq_getElem?_getD,List.getElem?_eq_getElem ae];rfl):P:=h
def MdI(h:P:=by simp[za4]):P:=h
def MdJ(h:P:=by have:=ak.out;exact Bw):P:=h
def MdK(h:P:=by rw[am];exact zas _ _ _ rfl):P:=h
def MdL(h:P:=by rw[List.length_append];have:=rL.out;simp at this⊢;omega):P:=h
def MdM(h:P:=by rw[aX];exact zan _ _):P:=h
def MdN(h:P:=by simp only[World.cell?,G1.out,zbs];rfl):P:=h
def MdO(h:P:=by dsimp only;omega):P:=h
def MdP(h:P:=by have:=(e0).size;omega):P:=h
def MdQ(h:P:=by simp[hp]):P:=h
def MdR(h:P:=by
 repeat(first|exact TQ.out|refine zbF ?_|refine J_drew ?_|refine zal ?_)):P:=h
def MdS(h:P:=by rw[am];exact zal (zal (zas _ _ _ rfl))):P:=h
def MdT(h:P:=by
 simp only[Nat.min_def];split<;>omega):P:=h
def MdU(h:P:=by simp only[World.cell?,yL',zbs];rfl):P:=h
def MdV(h:P:=by simpa using congrArg List.length hm):P:=h
def MdW(h:P:=by
 have:=(aB).size;first|omega|(simp at this⊢;done)|(simp at this⊢;omega)):P:=h
def MdX(h:P:=by simpa using h0):P:=h
def MdY(h:P:=by simpa using hc):P:=h
def MdZ(h:P:=by simpa using hz):P:=h
def Md0(h:P:=by rw[zbd n2 (by simp[zaf];omega) (by omega)];simp[go_sem,y1,y3]):P:=h
def Md1(h:P:=by have:=hc 0 _ rfl;simpa using this):P:=h
def Md2(h:P:=by rw[za2];exact hm):P:=h
def Md3(h:P:=by show Below _ _ _;rw[cN];exact zad aW _):P:=h
def Md4(h:P:=by show decide ((0:Int)<=upto)=true;simp;omega):P:=h
def Md5(h:P:=by simp[za4];omega):P:=h
def Md6(h:P:=by have:=aS.size;omega):P:=h
def Md7(h:P:=by simp[hq]):P:=h
def Md8(h:P:=by
 first|rfl|simp[zaf]):P:=h
def Md9(h:P:=by have:=tB 0 (.string pn) rfl;rw[Nat.zero_mul]at this;exact this):P:=h
def Mea(h:P:=by show _=_;rw[aw.out];rfl):P:=h
def Meb(h:P:=by simpa using hj):P:=h
def Mec(h:P:=by rw[nZ];exact zaS (HB.out.trans (ku.out.mono aM)) AS _):P:=h
def Med(h:P:=by have:=(List.getElem?_eq_some_iff.1 hi).1;have:=hT.len;omega):P:=h
def Mee(h:P:=by simpa using e):P:=h
def Mef(h:P:=by show _=_;rw[cL.out,aQ];rfl):P:=h
def Meg(h:P:=by simp[zb0,hz,hq]):P:=h
def Meh(h:P:=by have:=S2.out;omega):P:=h
def Mei(h:P:=by simp only;omega):P:=h
def Mej(h:P:=by show _=_;rw[HR.out];simp[zcu,p1,p2,isDay0,inR34, *]):P:=h
def Mek(h:P:=by rw[<-HM.out,List.length_map];exact hi):P:=h
def Mel(h:P:=by simp at eh;omega):P:=h
def Mem(h:P:=by simp[Sort.mapBlock,Sort.ahead];omega):P:=h
def Men(h:P:=by rw[HF.out];simp[zhx, *]):P:=h
def Meo(h:P:=by simp[Act.eval,Act.put];rfl):P:=h
def Mep(h:P:=by simp only[World.cell?,eN.out];rfl):P:=h
def Meq(h:P:=by show _=_;rw[aq];simp[hs]):P:=h
def Mer(h:P:=by have:=cD 0 _ rfl;simpa using this):P:=h
def Mes(h:P:=by rw[bx];exact hi):P:=h
def Met(h:P:=by simp only[World.cell?,G0.out];rfl):P:=h
def Meu(h:P:=by have:=cG.out;omega):P:=h
def Mev(h:P:=by have:=oL.out;omega):P:=h
def Mew(h:P:=by simp only[World.size_alloc];omega):P:=h
def Mex(h:P:=by show _=_;rw[hx];rfl):P:=h
def Mey(h:P:=by have:=e9.size;omega):P:=h
def Mez(h:P:=by rw[<-hm,List.length_map]):P:=h
def MeA(h:P:=by have:=bk.out.size;omega):P:=h
def MeB(h:P:=by simpa using jo):P:=h
def MeC(h:P:=by simp[hx]):P:=h
def MeD(h:P:=by rw[zak];omega):P:=h
def MeE(h:P:=by have:=HN.out;omega):P:=h
def MeF(h:P:=by show _=_;rw[hr,cg];rfl):P:=h
def MeG(h:P:=by rw[zew,List.length_drop]):P:=h
def MeH(h:P:=by
 rw[zbC];exact hc):P:=h
def MeI(h:P:=by simpa using h2):P:=h
def MeJ(h:P:=by simpa using y2):P:=h
def MeK(h:P:=by simpa using y3):P:=h
def MeL(h:P:=by show _=_;rw[hR,List.drop_zero]):P:=h
def MeM(h:P:=by rw[List.length_append,fe.out]):P:=h
def MeN(h:P:=by rw[<-zdv,hp3]):P:=h
def MeO(h:P:=by have:=aL.out;exact Bw):P:=h
def MeP(h:P:=by simp[World.frozen?,g2]):P:=h
def MeQ(h:P:=by rw[beq_eq_false_iff_ne];omega):P:=h
def MeR(h:P:=by simp only[World.cell?,t1];rfl):P:=h
def MeS(h:P:=by rw[cN];exact zas _ _ _ rfl):P:=h
def MeT(h:P:=by simp[World.cell?,h1]):P:=h
def MeU(h:P:=by simp[World.cell?,g2]):P:=h
def MeV(h:P:=by rw[oU];exact zan _ _):P:=h
def MeW(h:P:=by have:=hf.dead;omega):P:=h
def MeX(h:P:=by simp[go_sem,e6,hh]):P:=h
def MeY(h:P:=by simpa using k):P:=h
