import Derived.WalkLawsBesides
import Derived.WalkSpells
import Derived.BigQuiet
import Derived.Lib.Hide
import Derived.Deep.CutBlock
namespace Go.Proofs.YthhgkjfgpkbliaaGreatDoor
variable {P:Prop}
theorem Ma(h:P:=by
 intro v4 w4 g1 g2 g3;obtain⟨A7,c7,kT,_,_⟩:=g1.sl zbG;rw[List.length_append]at kT;subst kT;have FR4:Fr2 w w4 (.slice KA ks.length kc) (.slice QA pz.length qc):=(FR3.below Bw).row g2 (fun j hj=> .inr (.inl hj));have bL:∀g,za1 (.slice A6 (ks.length+[q.name].length) c6)=some g->za1 (.slice QA pz.length qc)≠some g:=fun g e1 e2=>by
  rcases h3 g e1 with h|h
  ·exact fX.out g h e2
  ·have:=(cK.out.ge g e2).2;omega
 have oa4:OwnS w4 base 9 1 sC (.slice A6 (ks.length+[q.name].length) c6) (ks++[q.name]):=(h1.keep (n:=w3.heap.size) Bw).grown g2 (by
  cases hb:za1 (.slice A6 (ks.length+[q.name].length) c6)with
  |none=>exact .inl rfl
  |some g=>exact .inr fun e=>bL g hb e.symm)
 have s4:=g2.size;(try simp only[World.size_alloc,World.size_drew]at s4 g3)
 have b1:∀g,za1 (.slice A6 (ks.length+[q.name].length) c6)=some g->za1 (.slice KA ks.length kc)=some g\/w.heap.size<=g:=fun g e=>by
  rcases h3 g e with h|h
  ·exact .inl h
  ·right;omega
 have b2:∀g,za1 (.slice A7 (pz.length+[fr].length) c7)=some g->za1 (.slice QA pz.length qc)=some g\/w.heap.size<=g:=fun g e=>by
  rcases g3 g e with h|h
  ·exact .inl h
  ·right;omega
 have b12:∀g,za1 (.slice A6 (ks.length+[q.name].length) c6)=some g->za1 (.slice A7 (pz.length+[fr].length) c7)≠some g:=fun g e1 e2=>by
  rcases g3 g e2 with h|h
  ·exact bL g e1 h
  ·have:=(h1.ge g e1).2;omega
 refine NxM hK (fun hHeld=>?_) (cC.out _ FR4);clear hK K;refine OnM 28 true fun K hK=>?_
 obtain⟨w5,x5,st5,m5,j5,jQ,dU,kQ,qA,iY,wB⟩:=zfy zk9 (FR4.mapS dN.out cK.out oX.out) fr;refine zfO rfl _ _ rfl _ _ _ rfl rfl w5 jQ ?_;refine NxM hK fun hHeld=>?_
 clear hK K;refine OnM 29 true fun K hK=>?_
 go_simp
 refine NxM hK fun hHeld=>?_
 clear hK K;refine OnM 30 true fun K hK=>?_
 obtain⟨w6,nW,eW,aP,zr⟩:=zdk (P:=Tryz.prog) dU qA 104 (.slice A6 (ks.length+[q.name].length) c6);refine zeO rfl _ _ _ rfl _ _ _ rfl rfl rfl w6 nW ?_;rw[kQ]at eW;refine NxM hK fun hHeld=>?_
 clear hK K;refine OnM 31 true fun K hK=>?_
 have kv:cc≠pp:=by
  have:=HP.out.nd;simp only[List.nodup_cons,List.mem_cons,List.not_mem_nil,or_false,not_or]at this;exact this.2.1.1
 have qN:MapS w6 pp ekS (fun v:Value=>v) mp:=((FR4.mapS dN.out cK.out lC.out).grown iY (by simpa using fun e=>kv e.symm)).grown aP (by simpa using fun e=>kv e.symm);obtain⟨w7,x7,st7,m7,j7,rg,dW,kR,yD,iZ,zt⟩:=zfy zk9 qN q.name;refine zfO rfl _ _ rfl _ _ _ rfl rfl w7 rg ?_;refine NxM hK fun hHeld=>?_
 clear hK K;refine OnM 32 true fun K hK=>?_
 go_simp
 refine NxM hK fun hHeld=>?_
 clear hK K;refine OnM 33 true fun K hK=>?_
 obtain⟨w8,zb,td,nP,hz8⟩:=zdk (P:=Tryz.prog) dW yD 104 (.slice A7 (pz.length+[fr].length) c7);refine zeO rfl _ _ _ rfl _ _ _ rfl rfl rfl w8 zb ?_;rw[kR]at td;refine NxM hK fun hHeld=>?_
 clear hK K;refine zcF MbE ?_ _;have qL:=(eW.grown iZ (by simpa using kv)).grown nP (by simpa using kv);have vK:∀k,k<w4.heap.size->k≠cc->k≠pp->w8.heap[k]?=w4.heap[k]?:=fun k hk e1 e2=>
  (((nP.block k MbC (by simpa using e2)).trans (iZ.block k MbC (by simpa using e2))).trans (aP.block k MbC (by simpa using e1))).trans (iY.block k hk (by simpa using e1))
 have pZ:=zbd (FR4.mapS dN.out cK.out oX.out);have r9:=zbd (FR4.mapS dN.out cK.out lC.out);have fu:∀(g:Nat) (cur:Array Value),w4.heap[g]?=some (.cells cur 9 (0,0))->w8.heap[g]?=w4.heap[g]?:=fun g cur hg=>by
  obtain⟨es1,x1,je⟩:=pZ;obtain⟨es2,x2,cz⟩:=r9;exact vK g (zad hg) (fun e=>by subst e;rw[je]at hg;simp at hg) (fun e=>by subst e;rw[cz]at hg;simp at hg)
 have oa8:=oa4.same (W':=w8) (fun g cur _ hg=>fu g cur hg);have ob8:=g1.same (W':=w8) (fun g cur _ hg=>fu g cur hg);have sz:∀k,k<w.heap.size->k≠cc->k≠pp->za1 (.slice KA ks.length kc)≠some k->za1 (.slice QA pz.length qc)≠some k->w8.heap[k]?=w.heap[k]?:=fun k hk e1 e2 e3 e4=>
  (vK k (by have:=FR4.size;omega) e1 e2).trans (FR4.block k hk e3 e4)
 have yd:=wld_child ax HC.out HP.out HT.out oX.out lC.out At.out Au.out Av.out Aw.out (by rw[ka.out];exact dN.out) ll.out (by rw[s7.out];exact cK.out) dM.out (by rw[ka.out];exact oa8) (by rw[s7.out];exact ob8) b1 b2 b12 qL td sz;have bI:=HP.out.ge;have pj:Below base w w8:=⟨nP.os.trans (iZ.os.trans (aP.os.trans (iY.os.trans FR4.os))),nP.tape.trans (iZ.tape.trans (aP.tape.trans (iY.tape.trans FR4.tape))),nP.output.trans (iZ.output.trans (aP.output.trans (iY.output.trans FR4.output))),by have:=FR4.size;omega,fun k hk=>sz k (by have:=HW.out.lt;omega) MbC MbC (fun e=>by have:=(dN.out.ge k e).1;omega) (fun e=>by have:=(cK.out.ge k e).1;omega)⟩
 have xK:KeepD w w8:=fun k cur f hk=>sz k (zad hk) (fun e=>by obtain⟨_,_,hx⟩:=zbd oX.out;rw[e,hx]at hk;simp at hk) (fun e=>by obtain⟨_,_,hx⟩:=zbd lC.out;rw[e,hx]at hk;simp at hk)
  (fun e=>by obtain⟨_,hx⟩:=zeq dN.out e;have:=Option.some.inj (hx.symm.trans hk);simp only[Obj.cells.injEq]at this;exact absurd this.2.1 MbD)
  (fun e=>by obtain⟨_,hx⟩:=zeq cK.out e;have:=Option.some.inj (hx.symm.trans hk);simp only[Obj.cells.injEq]at this;exact absurd this.2.1 MbD)
 have jZ:=Lib.hid xK;have AM:=Lib.hid yd;have jW:=Lib.hid pj;clear xK yd pj sz vK fu oa8 ob8 pZ r9 qL td nP zb dW kR yD iZ rg qN eW aP nW dU kQ qA iY jQ b1 b2 b12 oa4 bL FR4 g1 g2 g3 ob3 FR3 h1 h2 h3;go_wp2_with fail
 go_ret
 have hX:=fk.out;simp only[Bool.false_eq_true,if_false]at hX;rw[if_neg (by simpa using H2.out)]at hX;rw[hX]
 exact⟨rfl,AM.out,jW.out,jZ.out⟩):P:=h
theorem Mb(h:P:=by
 go_simp
 refine hK.out _ _ ?_ (fun hHeld=>?_);focus((try dsimp only);refine⟨?_,?_,?_,?_,?_⟩<;>first|assumption|(simp[go_sem,cV,cW,dr];done)|(simp[go_sem,a0,a1,a2,l5,l6,yp,yL];done)|(simp[go_sem,z0,z1,z2,z5,z6,zx,zy];done))
 clear hK K;try simp only[Act.put,List.setIfInBounds_toArray,List.set_cons_zero,List.set_cons_succ]
 refine OnH 10 fun K hK=>?_
 refine zaV (v:=.slice A1 out.length c1) (n:=out.length) (m:=1) rfl _ _ rfl zgZ za0 zdn rfl (xs:=out) (ys:=[(pn,zaQ (pq/lf))]) (YO.out.keep (n:=w5.heap.size) Bw) rfl rfl rfl (sl_part (za3 _ _ _ rfl)) MbO MbC MbH ?_;intro v6 w6 h1 h2 h3;obtain⟨A6,c6,dt,_,_⟩:=h1.sl za0;rw[List.length_append]at dt;subst dt;have zT:zbe w6 W0.heap.size gpl gcl frm gfin (.slice A1 out.length c1) (.slice D gdi.length dc):=(h2.block _ MbH (fun e=>zgw YO.out YT.out MbD e.symm)).trans (zal YT.out);have z4:w6.cell? ⟨W0.heap.size,4,none⟩=some (.slice A1 out.length c1):=by unfold zbe at zT;simp only[World.cell?,zT];rfl
 have f4:w6.frozen? ⟨W0.heap.size,4,none⟩=false:=by unfold zbe at zT;simp only[World.frozen?,zT];rfl
 have zL:w6.heap[L]?=some (zba lf):=(h2.block _ MbH (fun e=>zgw YO.out YL.out MbD e.symm)).trans (zal YL.out);have z5:w6.cell? ⟨L,0,none⟩=some (.int .i64 lf.num):=by simp only[World.cell?,zL,zba];rfl
 have z6:w6.cell? ⟨L,1,none⟩=some (.int .i64 lf.den):=by simp only[World.cell?,zL,zba];rfl
 have zP:w6.heap[wr.heap.size]?=some (.cells #[.string pn,.int .i64 pq.num,.int .i64 pq.den] 59):=(h2.block _ MbH (fun e=>by have:=(bV.out.ge _ e.symm).2;omega)).trans (zal Y0.out);obtain⟨z0,z1,z2⟩:=cF3 zP;have zl:=zad zT;have zx:wr.heap.size≠W0.heap.size:=MbC;have zy:L≠W0.heap.size:=MbC;have ZT:=Lib.hid zT;have ZL:=Lib.hid zL;have H1:=Lib.hid h1;have H2:=Lib.hid h2;have H3:=Lib.hid h3;clear zT zL zP h1 h2 h3;refine hK.out _ _ ?_ (fun hHeld=>?_);focus((try dsimp only);refine⟨?_,?_,?_,?_,?_⟩<;>first|assumption|(simp[go_sem,cV,cW,dr];done)|(simp[go_sem,a0,a1,a2,l5,l6,yp,yL];done)|(simp[go_sem,z0,z1,z2,z5,z6,zx,zy];done))
 clear hK K;try simp only[Act.put,List.setIfInBounds_toArray,List.set_cons_zero,List.set_cons_succ]
 refine TkH 11 ?_;refine OnH 12 fun K hK=>?_
 go_simp
 refine hK.out _ _ ?_ (fun hHeld=>?_);focus((try dsimp only);refine⟨?_,?_,?_,?_,?_⟩<;>first|assumption|(simp[go_sem,cV,cW,dr];done)|(simp[go_sem,a0,a1,a2,l5,l6,yp,yL];done)|(simp[go_sem,z0,z1,z2,z5,z6,zx,zy];done))
 clear hK K;try simp only[Act.put,List.setIfInBounds_toArray,List.set_cons_zero,List.set_cons_succ]
 refine wpAnyH_done MbE ?_ _;have Db:za1 (.slice A6 (out.length+[(pn,zaQ (pq/lf))].length) c6)≠some W0.heap.size:=fun e=>by
  rcases H3.out _ e with h|h
  ·exact zgw YO.out YT.out MbD h
  ·simp at h;omega
 have r1:MarkAt (w6.setCell ⟨W0.heap.size,4,none⟩ (.slice A6 (out.length+[(pn,zaQ (pq/lf))].length) c6)) C (fl||bigQ (pq/lf)):=
  J_ne MbC ((H2.out.block C (by have:=zad N1.out;simp;omega) (fun e=>by have:=(bV.out.ge _ e.symm).1;omega)).trans (zal N1.out))
 have r2:=zfk ZT.out (.slice A6 (out.length+[(pn,zaQ (pq/lf))].length) c6);have r3:OwnS (w6.setCell ⟨W0.heap.size,4,none⟩ (.slice A6 (out.length+[(pn,zaQ (pq/lf))].length) c6)) W0.heap.size 59 3 zaa (.slice A6 (out.length+[(pn,zaQ (pq/lf))].length) c6) (out++[(pn,zaQ (pq/lf))]):=H1.out.grown (zay _ _ _ _) (.inr Db);have r4:(w6.setCell ⟨W0.heap.size,4,none⟩ (.slice A6 (out.length+[(pn,zaQ (pq/lf))].length) c6)).heap[L]?=some (zba lf):=J_ne MbC ZL.out;have r5:Below C W0 w5:=zaF (W:=(wr.alloc (.cells #[.string pn,.int .i64 pq.num,.int .i64 pq.den] 59)).drew) (zaI (zau nh.out _ MbC)) N2.out (Nat.le_refl _);have r6:Below C W0 w6:=Below.grown (zau r5 _ MbC) H2.out (by have:=r5.size;simp;omega) (fun j hj=>by have:=(bV.out.ge _ hj).1;omega);have r7:Below C W0 (w6.setCell ⟨W0.heap.size,4,none⟩ (.slice A6 (out.length+[(pn,zaQ (pq/lf))].length) c6)):=zaU r6 (by show C<=W0.heap.size;omega) _;have r8:L<w6.heap.size:=zad ZL.out;have R1:=Lib.hid r1;have R2:=Lib.hid r2;have R3:=Lib.hid r3;have R4:=Lib.hid r4;have R7:=Lib.hid r7;have kA:=bU.out;rw[lF.out]at kA;simp only[Bool.false_eq_true,if_false]at kA;have zO:=Lib.hid kA;clear r1 r2 r3 r4 r5 r6 r7 kA a0 a1 a2 l5 l6 y2 z4 f4 z5 z6 z0 z1 z2;go_wp2_with fail
 go_round
 case rel=>exact⟨k+1,_,out++[(pn,zaQ (pq/lf))],_,by omega,by go_num,zO.out.symm,R1.out,R2.out,R3.out,R4.out,R7.out,by simp;omega⟩
 case measure=>simp[intOf];omega):P:=h
theorem Mc(h:P:=by
 have d1:wq.cell? ⟨w.heap.size,1,none⟩=some (.int .i64 dy):=by simp only[World.cell?,iN.out];rfl
 have ju:=jk.out;have vh:=zad ju;have C3:=zad iN.out;unfold WldC at ju;obtain⟨-,-,-,-,-,-,-,z7,z8⟩:=cF9 ju;have f7:wq.frozen? ⟨b,7,none⟩=false:=by simp only[World.frozen?,ju];rfl
 have f8:wq.frozen? ⟨b,8,none⟩=false:=by simp only[World.frozen?,ju];rfl
 have hwb:w.heap.size≠b:=fun e=>Nat.lt_irrefl _ (e▸bu)
 clear ju;have pj:Below base w wq:=Below.trans (Below.mono (B:=w.heap.size) Bw (Nat.le_of_lt (Nat.lt_of_le_of_lt ax bu))) jh.out;have jW:=Lib.hid pj;clear pj;by_cases h0:er=0
 ·subst h0;have fW:=wrap_k qz;have nZ:=zlb qz;go_wp2_with fail
  go_region
  all_goals go_wp2_with fail
  all_goals go_ret
  all_goals exact taken_ok (wld_drew (wld_tick iQ.out dy ((k:Int)+1))) (zaI (zaU (zaU jW.out cg _) cg _))
 ·go_wp2_with fail
  go_ret
  exact taken_no h0 iQ.out jW.out):P:=h
theorem Md(h:P:=by
 first
  |(clear h;unfold zca;go_simp;exact⟨rfl,stays _⟩)
  |(simp[Region.binds,vL,vIs]at h;unfold zca;go_simp;exact⟨rfl,stays _⟩)):P:=h
theorem Me(h:P:=by
 clear hR;go_wp2_with fail
 go_ret
 rw[HR.out]
 exact Ret.of (zaW (by first|rfl|(simp[*];done))) (HB.out.trans (Below.mono (B:=wc.heap.size) Bw HB.out.size))):P:=h
theorem Mf(h:P:=by
 (go_wp2_with fail
  go_ret
  exact Ret.of (zbU (by rw[HR.out];simp[zbX,p1,p2,isDay0,inR04,inR14,inR24,inR34,inR44, *])) (HB.out.trans (Below.mono (B:=wc.heap.size) Bw hs)))):P:=h
theorem Mg(h:P:=by
 have a1:wr.cell? ⟨w.heap.size,5,none⟩=some (.bool fa):=MbG;have a2:wr.cell? ⟨w.heap.size,7,none⟩=some (.bool true):=MbG;have b0:wr.cell? ⟨w.heap.size+1,3,none⟩=some (.string frm):=MbI;have b1:wr.cell? ⟨w.heap.size+1,4,none⟩=some (.slice B ps.length c):=MbI;have c0:wr.cell? ⟨w.heap.size+2,0,none⟩=some (.int .i64 s.num):=McO;have c1:wr.cell? ⟨w.heap.size+2,1,none⟩=some (.int .i64 s.den):=McO;have d0:wr.frozen? ⟨w.heap.size+2,0,none⟩=false:=McK;have d1:wr.frozen? ⟨w.heap.size+2,1,none⟩=false:=McK;have e0:w.heap.size<wr.heap.size:=MbC;have e1:w.heap.size+1<wr.heap.size:=MbC;have e2:w.heap.size+2<wr.heap.size:=MbC;have e3:w.heap.size+2≠wr.heap.size:=MbC;by_cases aa:k<ps.length
 ·rw[List.drop_eq_getElem_cons aa]at hx;obtain⟨b,off,rfl,hb,hc⟩:=(hS.keep hB).at aa;have pP:=(hS.keep hB).take k;generalize hp:ps[k]=p at*;obtain⟨pn,pu,pd⟩:=p;have h0:wr.cell? ⟨b,off+k*3,none⟩=some (.string pn):=hc 0 _ rfl;have h1:wr.cell? ⟨b,off+k*3+1,none⟩=some (.int .i64 pu):=hc 1 _ rfl;have h2:wr.cell? ⟨b,off+k*3+2,none⟩=some (.int .i64 pd):=hc 2 _ rfl;have HP:=Lib.hid hp;have HF:=Lib.hid bP;have H0:=Lib.hid eF;have HK:=Lib.hid kS;have HS:=Lib.hid pP;have HX:=Lib.hid hx;have HH:=Lib.hid (show ps.length<=100000 by omega);have eV:(k:Int)<=(c:Int):=MbC;have bf:(0:Int)<=(k:Int):=MbC;have ix:(k:Int)<(ps.length:Int):=MbC;have bG:(ps.take k).length=k:=Mcj;have HT:=Lib.hid bG;clear hc hS pP hp bP eF kS hx bG
  go_upto_region 10 with(go_at_call 93
                         refine(zcv _ _ eg (fun q=>zag q.name pn) _ k _ (ps.take k) _ HT.out.symm (by rw[HT.out];have:=HH.out;omega) (HS.out.keep (n:=wr.heap.size) Bw) (zjj _ pn _ _ MbF MbQ)).mono ?_
                         intro e wq hq;rcases Ret.bools hq with⟨zq,rfl,⟨hb,rfl⟩|⟨hb,rfl⟩⟩<;>clear hq)
  all_goals go_wp2_with (first
   |(go_at_call 141;refine(zdd _ _ _).mono ?_;intro e wq hq;rcases Ret.bools hq with⟨zq,rfl,⟨hb,rfl⟩|⟨hb,rfl⟩⟩<;>clear hq)
   |(go_at_call 122;refine(zlv s pu pd _ (HF.out.small (Rat.le_trans MbD H0.out) (cast_le HK.out MbC)) MbT).mono ?_;rintro e w1 ⟨rfl,z1,rfl⟩;simp only[za9]))
  all_goals first
   |(go_ret
     exact Ret.of (zaW (by rw[HX.out];simp[zbT,zfC,zdu,zdH, *])) Bw)
   |(go_round
     case rel=>
      refine⟨k+1,by omega,by go_num,s+Rat.divInt pu pd,(by rw[HX.out,List.take_succ_eq_append_getElem aa,HP.out];simp[zbT,RPart.rat,zdu,zdH, *]:_=_),HF.out.add (zd4 MbT),sum_pos H0.out MbT,sum_up HK.out MbT,Bw,by simp[zae];omega,by repeat(first|assumption|with_reducible refine zal ?_|with_reducible refine zbZ ?_|with_reducible refine J_ne MbC ?_),by repeat(first|assumption|with_reducible refine zal ?_|with_reducible refine zbZ ?_|with_reducible refine J_ne MbC ?_),?_⟩;(repeat(first|with_reducible refine zal ?_|with_reducible refine zbZ ?_));exact zga g2
     case measure=>simp[intOf];omega)
 ·exact Mbq):P:=h
theorem Mh(h:P:=by
 have a1:wr.cell? ⟨w.heap.size,5,none⟩=some (.bool fa):=MbG;have a2:wr.cell? ⟨w.heap.size,7,none⟩=some (.bool false):=MbG;have b0:wr.cell? ⟨w.heap.size+1,3,none⟩=some (.string frm):=MbI;have b1:wr.cell? ⟨w.heap.size+1,4,none⟩=some (.slice B ps.length c):=MbI;have c0:wr.cell? ⟨w.heap.size+2,0,none⟩=some (.int .i64 s.num):=McO;have c1:wr.cell? ⟨w.heap.size+2,1,none⟩=some (.int .i64 s.den):=McO;have d0:wr.frozen? ⟨w.heap.size+2,0,none⟩=false:=McK;have d1:wr.frozen? ⟨w.heap.size+2,1,none⟩=false:=McK;have e0:w.heap.size<wr.heap.size:=MbC;have e1:w.heap.size+1<wr.heap.size:=MbC;have e2:w.heap.size+2<wr.heap.size:=MbC;have e3:w.heap.size+2≠wr.heap.size:=MbC;by_cases aa:k<ps.length
 ·rw[List.drop_eq_getElem_cons aa]at hx;obtain⟨b,off,rfl,hb,hc⟩:=(hS.keep hB).at aa;have pP:=(hS.keep hB).take k;generalize hp:ps[k]=p at*;obtain⟨pn,pu,pd⟩:=p;have h0:wr.cell? ⟨b,off+k*3,none⟩=some (.string pn):=hc 0 _ rfl;have h1:wr.cell? ⟨b,off+k*3+1,none⟩=some (.int .i64 pu):=hc 1 _ rfl;have h2:wr.cell? ⟨b,off+k*3+2,none⟩=some (.int .i64 pd):=hc 2 _ rfl;have HP:=Lib.hid hp;have HF:=Lib.hid bP;have H0:=Lib.hid eF;have HK:=Lib.hid kS;have HS:=Lib.hid pP;have HX:=Lib.hid hx;have HH:=Lib.hid (show ps.length<=100000 by omega);have eV:(k:Int)<=(c:Int):=MbC;have bf:(0:Int)<=(k:Int):=MbC;have ix:(k:Int)<(ps.length:Int):=MbC;have bG:(ps.take k).length=k:=Mcj;have HT:=Lib.hid bG;clear hc hS pP hp bP eF kS hx bG
  go_upto_region 10 with(go_at_call 93
                         refine(zcv _ _ eg (fun q=>zag q.name pn) _ k _ (ps.take k) _ HT.out.symm (by rw[HT.out];have:=HH.out;omega) (HS.out.keep (n:=wr.heap.size) Bw) (zjj _ pn _ _ MbF MbQ)).mono ?_
                         intro e wq hq;rcases Ret.bools hq with⟨zq,rfl,⟨hb,rfl⟩|⟨hb,rfl⟩⟩<;>clear hq)
  all_goals go_wp2_with (first
   |(go_at_call 141;refine(zdd _ _ _).mono ?_;intro e wq hq;rcases Ret.bools hq with⟨zq,rfl,⟨hb,rfl⟩|⟨hb,rfl⟩⟩<;>clear hq)
   |(go_at_call 122;refine(zlv s pu pd _ (HF.out.small (Rat.le_trans MbD H0.out) (cast_le HK.out MbC)) MbT).mono ?_;rintro e w1 ⟨rfl,z1,rfl⟩;simp only[za9]))
  all_goals first
   |(go_ret
     exact Ret.of (zaW (by rw[HX.out];simp[zbT,zfC,zdu,zdH, *])) Bw)
   |(go_round
     case rel=>
      refine⟨k+1,by omega,by go_num,s,(by rw[HX.out,List.take_succ_eq_append_getElem aa,HP.out];simp[zbT,RPart.rat,zdu,zdH, *]:_=_),HF.out,H0.out,Rat.le_trans HK.out (natUp k),Bw,by simp[zae];omega,by repeat(first|assumption|with_reducible refine zal ?_|with_reducible refine zbZ ?_|with_reducible refine J_ne MbC ?_),by repeat(first|assumption|with_reducible refine zal ?_|with_reducible refine zbZ ?_|with_reducible refine J_ne MbC ?_),?_⟩;repeat(first|assumption|with_reducible refine zal ?_|with_reducible refine zbZ ?_|with_reducible refine J_ne MbC ?_)
     case measure=>simp[intOf];omega)
 ·exact Mbq):P:=h
theorem Mi(h:P:=by
 intro v6 w6 h1 h2 h3;obtain⟨A6,c6,dt,_,_⟩:=h1.sl zbG;rw[List.length_append]at dt;subst dt;have qm:=o1.ge;have cX:∀k,k<wc.heap.size->w6.heap[k]?=wc.heap[k]?:=fun k hk=>(h2.block k (by have:=oK.size;simp at this⊢;omega) (fun e=>by have:=(qm k e.symm).1;simp at this;omega)).trans (oK.block k (by simpa using hk))
 have mV:zbe w6 wr.heap.size g.place g.cls frm g.fin (.slice A1 g.holders.length c1) (.slice D g.died.length dc):=(cX _ bv).trans ei.out;have dV:wc.heap.size<=w6.heap.size:=by have a:=oK.size;have b:=h2.size;simp at a b⊢;omega
 have y3:w6.cell? ⟨w.heap.size,3,none⟩=some (.string fr):=(World.cell?_of_block (w:=wc) (cX w.heap.size MbC)).trans d3;have y5:w6.cell? ⟨T,5,none⟩=some (.slice D g.died.length dc):=(World.cell?_of_block (w:=wc) (cX T MbC)).trans q5;have fJ:=mV;unfold zbe at fJ;obtain⟨-,-,-,-,-,u5⟩:=cF6 fJ;have fu5:w6.frozen? ⟨wr.heap.size,5,none⟩=false:=by simp only[World.frozen?,fJ];rfl
 have hx6:=zad mV;refine NxM hK (fun hHeld=>?_) (⟨y3,y5⟩);clear hK K;refine TkH 9 ?_;refine OnH 10 fun K hK=>?_
 go_simp
 refine NxM hK (fun hHeld=>?_) (⟨(World.cell?_setCell_far _ _ _ _ (by show wr.heap.size≠w.heap.size;omega)).trans y3,(World.cell?_setCell_far _ _ _ _ (by show wr.heap.size≠T;omega)).trans y5⟩);clear hK K;refine wpAnyH_done MbE ?_ _;go_wp2_with fail
 go_meet
 have aY:Below wc.heap.size wc w6:=Below.grown (a:=wc) (B:=wc.heap.size) (B_drop oK) h2 (by have:=oK.size;simp at this⊢;omega) (fun j hj=>by have:=(qm j hj).1;simp at this;omega);have ft:za1 (.slice A1 g.holders.length c1)≠some wr.heap.size:=ziT g8.out ei.out MbD
 exact⟨A6,c6,tomb_set5 mV _,OwnS.base_le (h1.grown (zay _ _ _ _) (.inr fun e=>by have:=(h1.ge _ e).1;simp at this;omega)) MbH,(g8.out.keep aY).grown (zay _ _ _ _) (.inr ft),zaU (d9.out.trans (aY.mono MbC)) MbF _⟩):P:=h
theorem Mj(h:P:=by
 have jq:=Lib.hid (bY);obtain⟨W3,kr⟩:∃W3,W3=w2.setCell ⟨w.heap.size,4,none⟩ (.slice A2 ts.length c2):=⟨_,rfl⟩
 have b3:W3.heap[w.heap.size]?=some (.cells #[.int .i64 kd,.int .i64 dy,.string pl,.string fr,.slice A2 ts.length c2,.int .i64 cl,.int .i64 yr] 28):=by
  rw[kr];have:=Joins.block_setCell (i:=4) e1 (.slice A2 ts.length c2);simpa using this
 have r3:W3.heap[w.heap.size+1]?=some (.cells #[.int .i64 0,.int .i64 0,.string ⟨#[]⟩,.string ⟨#[]⟩,.slice none 0 0,.int .i64 0,.int .i64 0] 28):=by rw[kr];exact J_ne MbC e2
 have s3:Ro W3 59 RPart.cells A2 ts:=by rw[kr];exact s2.kept (zay _ _ _ _) e1 MbD
 have fR:Below w.heap.size w W3:=by rw[kr];exact zaU (bl.out.trans (cw.mono bl.out.size)) MbF _
 rw[<-kr];have S3:=Lib.hid s3;have bw:=Lib.hid fR;clear kr fR s3 s2 e1 e2 f4 k4 cw b0 r0 c4 l0 l1;obtain⟨g0,g1,g2,g3,g4,g5,g6⟩:=cF7 b3;obtain⟨t0,t1,t2,t3,t4,t5,t6⟩:=cF7 r3;have f0:∀j,W3.frozen? ⟨w.heap.size+1,j,none⟩=false:=fun j=>by simp[World.frozen?,r3]
 go_wp2_with fail
 refine bodyPost_ret (v:=.agg #[.int .i64 kd,.int .i64 dy,.string pl,.string fr,.slice A2 ts.length c2,.int .i64 cl,.int .i64 yr]) ?_ rfl ?_
 ·exact zjA rfl _ _ (w.heap.size+1) _ _ _ _ _ _ _ rfl (J_set7 r3)
 ·exact⟨A2,c2,rfl,bY,(((((((S3.out.kept (zay _ _ _ _) r3 MbD).kept (zay _ _ _ _) (Joins.block_setCell (i:=0) r3 _) MbD).kept (zay _ _ _ _) (Joins.block_setCell (i:=1) (Joins.block_setCell (i:=0) r3 _) _) MbD).kept (zay _ _ _ _) (Joins.block_setCell (i:=2) (Joins.block_setCell (i:=1) (Joins.block_setCell (i:=0) r3 _) _) _) MbD).kept (zay _ _ _ _) (Joins.block_setCell (i:=3) (Joins.block_setCell (i:=2) (Joins.block_setCell (i:=1) (Joins.block_setCell (i:=0) r3 _) _) _) _) MbD).kept (zay _ _ _ _) (Joins.block_setCell (i:=4) (Joins.block_setCell (i:=3) (Joins.block_setCell (i:=2) (Joins.block_setCell (i:=1) (Joins.block_setCell (i:=0) r3 _) _) _) _) _) MbD).kept (zay _ _ _ _) (Joins.block_setCell (i:=5) (Joins.block_setCell (i:=4) (Joins.block_setCell (i:=3) (Joins.block_setCell (i:=2) (Joins.block_setCell (i:=1) (Joins.block_setCell (i:=0) r3 _) _) _) _) _) _) MbD),zaU (zaU (zaU (zaU (zaU (zaU (zaU bw.out MbF _) MbF _) MbF _) MbF _) MbF _) MbF _) MbF _⟩):P:=h
theorem Mk(h:P:=by
 go_wp2_with (first
               |(go_at_call 91;refine(zaS _ _ _ _).mono ?_;intro e wq hq;rcases Ret0.bools hq with⟨rfl,⟨hb,rfl⟩|⟨hb,rfl⟩⟩<;>clear hq)
               |(go_at_call 47;refine(zcu _ _).mono ?_;intro e wq hq;rcases Ret0.bools hq with⟨rfl,⟨hb,rfl⟩|⟨hb,rfl⟩⟩<;>clear hq)
               |(go_at_call 92;refine(zbC _ _ MbT).mono ?_;intro e wq hq;rcases Ret0.bools hq with⟨rfl,⟨hb,rfl⟩|⟨hb,rfl⟩⟩<;>clear hq)
               |(go_at_call 93;refine(zcv _ _ eg (fun q:RPart=>!zaR q.name) _ _ _ ps _ rfl HL.out (HS.out.keep (n:=w.heap.size) Bw) (zfi ps _ HN.out)).mono ?_;intro e wq hq;rcases Ret.bools hq with⟨zq,rfl,⟨hb,rfl⟩|⟨hb,rfl⟩⟩<;>clear hq)
               |(go_at_call 95;refine(zcT ⟨word,fp,ff,fc,fy,fa,fpt,fs⟩ _ _ _ _ _ _ ps _ _ _ _ rfl MbC HC.out (HS.out.keep (n:=w.heap.size) Bw)).mono ?_;intro e wq hq;rcases Ret.bools hq with⟨zq,rfl,⟨hb,rfl⟩|⟨hb,rfl⟩⟩<;>clear hq))
 all_goals go_meet
 all_goals(refine⟨zaW (by first|exact hb.symm|simp[zbw,noB, *]),Bw,by first|omega|(simp[zae];done)|(simp[zae];omega),?_⟩;repeat(first|assumption|with_reducible refine zal ?_|with_reducible refine zbZ ?_|with_reducible refine J_ne MbC ?_))):P:=h
theorem Ml(h:P:=by
 unfold zca;go_simp
 exact⟨⟨_,rfl,by first|exact hsz|(simp[zae];done)|(simp[zae]at hsz⊢;omega),za3 _ _ _ Mb8⟩,zaM (zau (Below.refl _ _) _)⟩):P:=h
theorem Mm(h:P:=by
 go_wp2_with fail
 all_goals go_meet
 all_goals(refine⟨zaW (by first|(simp[noB, *];done)|(rw[Bool.eq_iff_iff];simp[noB];simp[*];done)|(cases fp<;>cases ff<;>simp_all[noB])),Bw,by first|omega|(simp[zae];done)|(simp[zae];omega),?_,?_⟩)
 all_goals(repeat(first|assumption|with_reducible refine zal ?_|with_reducible refine zbZ ?_|with_reducible refine J_ne MbC ?_))):P:=h
theorem Mn(h:P:=by
 have oQ:=Lib.hid eW;have fO:=Lib.hid aP;clear eW aP;refine hK.out _ _ ?_ (fun hHeld=>?_);focus((try dsimp only);refine⟨?_,?_,?_,?_,?_,?_⟩<;>assumption)
 clear hK K;try simp only[Act.put,List.setIfInBounds_toArray,List.set_cons_zero,List.set_cons_succ]
 refine wpAnyH_done MbE ?_ _;go_wp2_with fail
 go_end0
 refine⟨rfl,⟨_,oQ.out,(zft _ _ _ oR.out).1,fun k=>?_⟩,?_,?_⟩
 ·show _\/mget eqS k (mput eqS n _ mm)=some (za9 (zab (setP out n (zaQ (zab out n+f))) k));rw[zek,zjx HG.out,dB.out];cases hk:zag k n
  ·simp only[Bool.false_eq_true,if_false];show _\/_;rcases oH.out k with⟨a1,a2⟩|a
   ·refine .inl ⟨a1,?_⟩;show zab (setP out n (zaQ (zab out n+f))) k=0;rw[zjx HG.out,hk];exact a2
   ·exact .inr a
  ·exact .inr rfl
 ·show MarkAt w6 C (fl||bigQ (zab out n+f));rw[dB.out];exact N1.out.grown fO.out nD
 ·exact(Two2.of_below Bw).trans ((Two2.grownC N2.out).trans (Two2.grownM fO.out))):P:=h
theorem Mo(h:P:=by
 refine NxM hK (fun hHeld=>?_) (.inr (cC.out _ aW));clear hK K;refine OnM 5 true fun K hK=>?_
 refine zaV (v:=.slice A6 xs.length c6) (n:=xs.length) (m:=1) rfl _ _ rfl zlG zcN zlF rfl (xs:=xs) (ys:=[⟨d,B,c⟩]) o7 rfl rfl rfl (zhw zcN n7 (by simp[DV.cells])) (by have:=nz.out;simp only[maxLen];omega) (by have:=nz.out;omega) (by have:=aW.size;simp at this⊢;omega) ?_;intro v8 w8 h1 h2 h3;rw[<-uu.out]at h1;obtain⟨A8,c8,rfl,BV,s8⟩:=h1.ro;have jz:Below W5.heap.size W5 w8:=Below.grown aW h2 (by have:=aW.size;simp at this⊢;omega) (fun j hj=>by have:=(o7.ge j hj).1;(try simp at this);omega);refine NxM hK fun hHeld=>?_
 clear hK K;refine OnM 6 true fun K hK=>?_
 go_simp
 refine NxM hK fun hHeld=>?_
 clear hK K;refine zcF MbE ?_ _;clear hHeld;go_wp2_with fail
 go_meet
 exact⟨A8,c8,rfl,rfl,rfl,s8,jz,BV⟩):P:=h
theorem Mp(h:P:=by
 (go_wp2_with fail
  go_ret
  exact Ret.of (zbU MbN) Bw)):P:=h
theorem Mq(h:P:=by
 refine⟨es.modify j fun e=> {e with key:=ek k},c,by simp[Array.getElem?_setIfInBounds,aa],?_,?_,by rw[bX];exact hn,?_⟩
 ·apply List.ext_getElem?;intro i;have gP:=congrArg (fun l=>l[i]?) hm;simp only[List.getElem?_map,Array.getElem?_toList]at gP;simp only[List.getElem?_map,Array.getElem?_toList,Array.getElem?_modify,List.getElem?_set];by_cases cL:j=i
  ·subst cL;simp[bZ,hj,Array.getElem?_eq_getElem bZ,eK]
  ·simp[cL,gP]
 ·intro e he;have h2:e.born∈(es.modify j fun e=> {e with key:=ek k}).toList.map (·.born):=List.mem_map.2 ⟨e,he,rfl⟩;exact Mbz
 ·simp[Array.getElem?_modify,Array.getElem?_eq_getElem bZ]):P:=h
theorem Mr(h:P:=by
 refine⟨0,Nat.zero_le _,rfl,0,HX,fits_zero,Rat.le_refl,Rat.le_refl,?_,?_,?_,?_,?_⟩
 ·exact Bw
 ·simp
 ·exact zal (zal (za3 _ _ _ rfl))
 ·exact zal (za3 _ _ _ MbF)
 ·exact za3 _ _ _ MbF):P:=h
theorem Ms(h:P:=by
 have h0:xs=[]:=by
  cases xs with
  |nil=>rfl
  |cons y ys=>obtain⟨b,off,h,_⟩:=hS MbF;cases h
 subst h0;go_wp2_with fail
 go_ret
 exact⟨_,rfl,OwnS.nil,Below.refl _ _⟩):P:=h
theorem Mt(h:P:=by
 have g4:wq.heap[P]?=some (zba part):=(g3.others P MbH MbC MbC).trans (zal Ar.out);have g5:Two2 w wq C m:=wD.out.trans (Two2.trans MbL g3);have G1:=Lib.hid g1;have G2:=Lib.hid g2;have G4:=Lib.hid g4;have G5:=Lib.hid g5;clear g1 g2 g3 g4 g5;go_wp2_with fail
 go_round
 case rel=>exact⟨k+1,_,_,by omega,by go_num,ef.out.symm,G1.out,G2.out,G5.out,G4.out⟩
 case measure=>simp[intOf];omega):P:=h
theorem Mu(h:P:=by
 go_upto_region 19 with fail
 (refine zaA MbE MbE ?_
  repeat(first|go_big_quiet_skip|(go_big_quiet_want;go_big_quiet_op;first|go_big_quiet_on|(apply Exists.intro;refine⟨fun _=>?_,?_⟩;(fail);go_big_quiet_on)))
  refine wpQuiet_nil ?_
  rintro _ ⟨zq,rfl⟩)
 go_wp2_with fail
 go_roundw
 case rel=>exact⟨j+1,by have:=aq.out;omega,by go_num,by have:=d9.out;exact Bw⟩
 case measure=>have:=aq.out;simp only[intOf];omega):P:=h
theorem Mv(h:P:=by
 obtain⟨f0,f1⟩:=zdX cM;have fz:=frz cM;obtain⟨u0,u1⟩:=zdX t1;have uz:=frz t1;have T2:=Lib.hid t2;clear t1 t2 cM eR;go_wp2_with fail
 go_meet
 exact⟨k1,k2,rfl,rfl,T2.out.1,T2.out.2,aM.out⟩):P:=h
theorem Mw(h:P:=by
 refine⟨fun o ho a W=>?_,fun o ho a W=>?_,trivial⟩
 ·exact Mby
 ·exact Mby):P:=h
theorem Mx(h:P:=by
 have aX:Hid (R=4):=by show _=_;rw[HR.out];simp[zbX, *]
 clear HR HK bN;go_wp2_with (go_at_call 92;refine(zbC _ _ MbT).mono ?_;rintro e wq ⟨rfl,rfl⟩;rw[hq])
 go_ret
 rw[aX.out]
 exact Ret.of rfl Bw):P:=h
theorem My(h:P:=by
 (try simp only)
 (repeat' split)<;>intro h<;>first|rfl|exact absurd rfl h):P:=h
theorem Mz(h:P:=by
 gi_wp2
 have g2:=Boxed.set (.string ⟨#[]⟩) T2.out;have HD:=Lib.hid hd;have cU:∀i,SpIx s x w .ret (pre++[(i,y1,y2)]) (wr.setCell ⟨w.heap.size+1+1,0,none⟩ (.string ⟨#[]⟩)):=fun i=>⟨⟨rfl,pre.map Prod.snd,(y1,y2),by simp,HP.out,HM.out,by rw[HO.out,HD.out];exact g2⟩,zaU (iR.trans (aM.out.mono MbC)) MbH _⟩
 first
  |exact⟨(KeepsOthers.setCell _ _ _).from _,cU _⟩
  |(trace_state;fail "ret")):P:=h
theorem MB(h:P:=by
 go_wp2_with fail
 go_round
 case rel=>exact⟨k+1,es,by omega,by go_num,Aj.out,by rw[am,lj.out,Option.toList_none,List.append_nil];exact zR.out,bw.out,by have:=dL.out;omega⟩
 case measure=>simp[intOf];omega):P:=h
theorem MC(h:P:=by
 go_wp2_with (go_at_call 8;go_must(refine(oB.out _ (by have:=bl.out;exact Bw)).mono ?_);rintro e wq ⟨rfl,z,rfl⟩)
 go_ret
 exact Ret.of rfl (zbH bl.out z)):P:=h
theorem MD(h:P:=by
 refine zbA rfl _ _ _ _ _ rfl ?_ ?_
 ·simp[go_sem,hC]
 ·simp[go_sem,hC]):P:=h
theorem ME(h:P:=by
 (repeat(first|exact za3 _ _ _ (by simp[zae];done)|with_reducible refine zbZ ?_|with_reducible refine zal ?_))):P:=h
theorem MF(h:P:=by
 clear hc ar;go_wp2_with fail
 (refine zaA MbE MbE ?_
  repeat(first|go_big_quiet_skip|(go_big_quiet_want;go_big_quiet_op;first|go_big_quiet_on|(apply Exists.intro;refine⟨fun _=>?_,?_⟩;(fail);go_big_quiet_on)))
  refine wpQuiet_nil ?_
  rintro _ ⟨zq,rfl⟩)
 go_wp2_with fail
 go_roundw
 case rel=>exact⟨j+1,by omega,by go_num,zaM Bw⟩
 case measure=>simp[intOf];omega):P:=h
theorem MG(h:P:=by
 rcases h with⟨rfl,_⟩|⟨g,o,c,cur,rfl,_,hg,_⟩
 ·simp[za1]
 ·intro h;simp only[za1,Option.some.injEq]at h;subst h;rw[hg]at hT;simp only[Option.some.injEq,Obj.cells.injEq]at hT
  exact ag hT.2.1.symm):P:=h
theorem MH(h:P:=by
 apply List.ext_getElem?;intro i;simp only[List.getElem?_map,Array.getElem?_toList,Array.getElem?_modify];by_cases cL:j=i
 ·subst cL;simp[bZ,Array.getElem?_eq_getElem bZ]
 ·simp[cL]):P:=h
theorem MI(h:P:=by
 go_wp2_with (first
  |(go_at_call 91;refine(zaS _ _ _ _).mono ?_;rintro e wq ⟨rfl,rfl⟩;first|rw[v1]|rw[v2])
  |(go_at_call 198;refine(HG.out _).mono ?_;rintro e wq ⟨rfl,z,rfl⟩))
 go_ret
 exact Ret.of (zbU ll.out.symm) (HB.out.trans (Below.mono (B:=wc.heap.size) Bw hs))):P:=h
theorem MJ(h:P:=by
 rw[zg9 (f:=⟨_,_,_,_,_,_,_,_⟩) (.inl rfl)]
 cases noB fr<;>cases noB pl<;>cases hy:(yr==0)<;>cases hc:(cl==0)<;>simp_all):P:=h
theorem MK(h:P:=by
 intro f z h;have h0:f 0=.agg #[.slice LA n nc,.slice DA m mc]:=h ⟨0,.data⟩ MbF rfl;clear h;unfold zca;go_simp
 refine(fh.out _ (b9.out.trans ((zbH (zaI (Below.refl _ _)) z).mono bk))).mono ?_;rintro e wq ⟨A1,n1,B1,n2,rfl,jQ,bx⟩
 exact⟨_,rfl,⟨A1,n1,B1,n2,rfl,jQ⟩,zaM bx⟩):P:=h
theorem ML(h:P:=by
 clear h;unfold zca;go_simp
 exact⟨rfl,stays _⟩):P:=h
theorem MM(h:P:=by
 go_round
 case rel=>exact⟨0+1,by omega,by go_num,by first|exact True.intro|rfl,fun j s hj hs=>by
  rcases Nat.lt_succ_iff_lt_or_eq.1 hj with hj|rfl
  ·exact HK.out j s hj hs
  ·simp at hs;rw[<-hs];exact kg.out⟩
 case measure=>simp[intOf]):P:=h
theorem MN(h:P:=by
 go_round
 case rel=>exact⟨1+1,by omega,by go_num,by first|exact True.intro|rfl,fun j s hj hs=>by
  rcases Nat.lt_succ_iff_lt_or_eq.1 hj with hj|rfl
  ·exact HK.out j s hj hs
  ·simp at hs;rw[<-hs];exact kg.out⟩
 case measure=>simp[intOf]):P:=h
theorem MO(h:P:=by
 go_round
 case rel=>exact⟨2+1,by omega,by go_num,by first|exact True.intro|rfl,fun j s hj hs=>by
  rcases Nat.lt_succ_iff_lt_or_eq.1 hj with hj|rfl
  ·exact HK.out j s hj hs
  ·simp at hs;rw[<-hs];exact kg.out⟩
 case measure=>simp[intOf]):P:=h
theorem MP(h:P:=by
 have hw:Region.wanted o (yielded ops a.tmps)=true:=by simp[Region.wanted,aQ]
 rw[if_pos hw];unfold Oper.wp;simp[execOp,ho,hx,hi,hu,ai,Result.andThen]
 exact h):P:=h
theorem MQ(h:P:=by
 go_wp2_with (go_at_call 48;refine(ba.out _ Bw).mono ?_;rintro e wq ⟨rfl,z,rfl⟩;simp only[zjz,Option.map_none])
 go_ret
 exact zb0 HW.out Bw HG.out):P:=h
theorem MR(h:P:=by
 rintro e wq ⟨A1,n1,B1,n2,rfl,jQ,bx⟩
 exact⟨_,rfl,⟨A1,n1,B1,n2,rfl,jQ⟩,zaM bx⟩):P:=h
theorem MS(h:P:=by
 first
  |exact⟨(KeepsOthers.setCell _ _ _).from _,cU _⟩
  |(trace_state;fail "ret")):P:=h
theorem MT(h:P:=by
 rintro e wq ⟨rfl,zz,rfl⟩
 exact⟨_,rfl,rfl,_,rfl⟩):P:=h
theorem MU(h:P:=by
 (go_wp2_with fail
  go_ret
  exact Ret.of (zbU Mb0) Bw)):P:=h
theorem MV(h:P:=by
 clear hR;go_wp2_with fail
 go_ret
 exact Ret.of (zaW HE.out.symm) Bw):P:=h
theorem MW(h:P:=by
 go_wp2_with fail
 go_ret
 exact zb0 HW.out Bw fk.out):P:=h
theorem MX(h:P:=by
 rw[zg9 (f:=⟨_,_,_,_,_,_,_,_⟩) (.inl rfl)]
 cases noB fr<;>cases noB pl<;>cases hy:(yr==0)<;>cases hc:(cl==0)<;>cases ps<;>simp_all):P:=h
theorem MY(h:P:=by
 have HN:=Lib.hid hn;have zM:=Lib.hid ky;have tL:=Lib.hid bI;obtain⟨f0,f1⟩:=zdX ky;have fz:=frz ky;clear hn ky bI;go_wp2_with fail
 go_meet
 exact HN.out.cut gC.out zM.out tL.out):P:=h
theorem MZ(h:P:=by
 rw[Array.toList_push,List.map_append,List.nodup_append];refine⟨hn,by simp,?_⟩;intro x hx y hy;obtain⟨e,he,rfl⟩:=List.mem_map.1 hx;simp only[List.map_cons,List.map_nil,List.mem_singleton]at hy;have:=hb e he
 omega):P:=h
theorem M0(h:P:=by
 go_wp2_with (at_builtin;refine zaG (n:=xs.length) (m:=1) rfl _ _ rfl zgZ za0 zdn rfl HO.out rfl rfl rfl HS.out MbO MbC ak ?_;intro v' w' h1 h2 h3)
 all_goals go_ret
 all_goals exact⟨_,rfl,h1,h2,h3⟩):P:=h
theorem M4(h:P:=by
 rcases List.mem_append.1 hy with hy|hy
 ·exact⟨(rs7 y hy).1,(rs7 y hy).2.kept (zay _ _ _ _) o7 MbD⟩
 ·obtain rfl:=List.mem_singleton.1 hy
  exact⟨nL,ro7.kept (zay _ _ _ _) o7 MbD⟩):P:=h
theorem M5(h:P:=by
 rw[List.getElem?_set_ne hj]at e2;have ag:T'≠T:=fun e=>by
  subst e;exact hj ((List.getElem?_inj (List.getElem?_eq_some_iff.1 hi).1 hT.nd).1 (hi.trans e1.symm))
 exact(hT.all j T' g e1 e2).kept hg hx ag MbD MbD):P:=h
theorem M6(h:P:=by
 go_wp2_with fail
 go_quiet (fail)
 go_wp2_with fail
 go_ret
 exact Ret.of (zaW (by rw[HU.out];simp)) Bw):P:=h
theorem M7(h:P:=by
 go_wp2_with (go_at_call 92;refine(zbC _ _ hs).mono ?_;intro e wq hq;rcases Ret0.bools hq with⟨rfl,⟨hb,rfl⟩|⟨hb,rfl⟩⟩<;>clear hq)
 all_goals go_ret
 all_goals exact Ret.of (zaW (by simp[*])) Bw):P:=h
theorem M8(h:P:=by
 go_enter Tryz.func126,Tryz.ntmps126
 go_wp2_with (go_at_call 189;refine(zms _ _ h0 h1).mono ?_;rintro e wq ⟨rfl,rfl⟩;rw[hl])
 all_goals go_ret
 all_goals exact⟨by rw[HD.out,hl];rfl,rfl⟩):P:=h
theorem M9(h:P:=by
 go_wp2_with fail
 refine bodyPost_ret (v:=za9 (zab (P++(qn,qr)::Q) nm)) ?_ rfl ?_
 ·rw[AJ.out];exact Mbv
 ·exact Ret.of rfl Bw):P:=h
theorem Maa(h:P:=by
 go_ret
 exact Ret.of (zaW (by rw[aX.out];rfl)) (HB.out.trans (Below.mono (B:=wr.heap.size) Bw aS))):P:=h
theorem Mab(h:P:=by
 go_wp2_with fail
 go_ret
 rw[aK.out]
 exact Ret.of rfl Bw):P:=h
theorem Mac(h:P:=by
 go_wp2_with fail
 go_ret
 exact Ret.of rfl Bw):P:=h
theorem Mad(h:P:=by
 have e:xs.flatMap zaa=(xs.take i).flatMap zaa++(xs.drop i).flatMap zaa:=Mb4;rw[e,List.getElem?_append_left MbC]
 exact hj):P:=h
theorem Mae(h:P:=by
 rename_i hc
 have h:(zb4 laws s k last d).2=0:=h;rw[h]at hc
 exact absurd hc MbD):P:=h
theorem Maf(h:P:=by
 intro e he;rw[Array.toList_push]at he;rcases List.mem_append.1 he with he|he
 ·have:=hb e he;omega
 ·rw[List.mem_singleton.1 he];exact Nat.lt_succ_self c):P:=h
theorem Mag(h:P:=by
 rw[ap]at this
 simpa only[zjz,Option.map_some,eE]using this):P:=h
theorem Mah(h:P:=by
 go_wp2_with fail
 go_round
 case rel=>exact⟨k+1,aq.out,by go_num,by first|exact True.intro|rfl,HE.out⟩
 case measure=>have:=aq.out;simp only[intOf];omega):P:=h
theorem Mai(h:P:=by
 simp[Instr.mapEntry,run_underlying T.ht,zbB hh,T.hck,h1,hl,Instr.keyThatStays,Array.getElem?_eq_getElem bZ,jI,T.hsame _ _ he,zfM hh,Result.andThen]
 rfl):P:=h
theorem Maj(h:P:=by
 (repeat(first|with_reducible exact za3 _ _ _ MbF|with_reducible exact za3 _ _ _ Mb8|with_reducible refine zbZ ?_|with_reducible refine zal ?_))):P:=h
theorem Mak(h:P:=by
 rw[be];clear hN np be cj gB
 exact⟨rfl,am,dG,(KeepD.below au).trans (KeepD.cells (zbD wr T _ _ _ _ _ _) iL.out MbD)⟩):P:=h
theorem Mal(h:P:=by
 go_wp2_with fail
 go_loop [5,8] (fun a b=>b=.int .i64 0) (fun _ _=>0)
 case atStart=>rfl
 case round=>
  obtain rfl:=hrel;go_wp2_with fail
  go_ret
  exact⟨rfl,rfl⟩):P:=h
theorem Mam(h:P:=by
 rw[hc]at HC;go_wp2_with (go_at_call 120;go_must(refine(HC.out _).mono ?_);rintro e wq ⟨rfl,rfl⟩)
 go_ret
 exact⟨by rw[aX.out];rfl,rfl⟩):P:=h
theorem Man(h:P:=by
 have np:=Lib.hid dM;clear dM;go_wp2_with fail
 go_ret
 exact zb0 HW.out aM.out (np.out.trans MbF)):P:=h
theorem Mao(h:P:=by
 obtain⟨h1,g',h2,h3⟩:=zlK n day l (k+1) j i h;refine⟨by omega,g',?_,h3⟩;rw[show i-k=(i-(k+1))+1 by omega,List.getElem?_cons_succ]
 exact h2):P:=h
theorem Map(h:P:=by
 go_wp2_with fail
 go_ret
 exact⟨rfl,rfl⟩):P:=h
theorem Maq(h:P:=by
 go_round
 case rel=>exact⟨k+1,aq.out,by go_num,.inr ⟨oO.out,eO.out⟩,d9.out⟩
 case measure=>have:=aq.out;simp only[intOf];omega):P:=h
theorem Mar(h:P:=by
 go_wp2_with (go_at_call 153;refine(lH.out _ Bw _).mono ?_;rintro e wq ⟨rfl,z,rfl⟩)
 go_ret
 exact zb0 HW.out Bw (by rw[fk.out];simp)):P:=h
theorem Mas(h:P:=by
 rintro e wq ⟨rfl,z,rfl⟩
 exact⟨rfl,hW.trans ((za5 W z).mono hW.size)⟩):P:=h
theorem Mat(h:P:=by
 go_ret
 exact Ret.of (zbU (by rw[HR.out];simp[zbX,p1,p2,isDay0,inR34, *])) (HB.out.trans (Below.mono (B:=wc.heap.size) Bw hs))):P:=h
theorem Mau(h:P:=by
 go_ret
 exact⟨by rw[aX.out];rfl,rfl⟩):P:=h
theorem Mav(h:P:=by
 rcases ae with⟨rfl,_⟩|⟨g',o,c',cur,rfl,_,cx,_⟩
 ·cases hk
 ·simp only[za1,Option.some.injEq]at hk;subst hk
  exact⟨cur,_,cx⟩):P:=h
theorem Maw(h:P:=by
 first|omega|(simp[zae];done)|(simp[zae];omega)):P:=h
theorem Max(h:P:=by
 refine zbA rfl _ _ _ _ _ rfl ?_ ?_
 ·simp[go_sem]
 ·simp[go_sem]):P:=h
theorem May(h:P:=by
 simp only[Value.slice.injEq]at e'
 omega):P:=h
theorem Maz(h:P:=by
 have:=ar 0 (.string q.name) (by simp[hq,RPart.cells])
 simpa using this):P:=h
theorem MaA(h:P:=by
 rintro e wq hx;obtain⟨hb,P,p,q,R,r,s,rfl,hn⟩:=next_res hx
 exact⟨_,rfl,⟨P,p,q,R,r,s,rfl,hn⟩,zaM hb⟩):P:=h
theorem MaB(h:P:=by
 refine dm k ok hk ao ?_ bN;by_cases jF:j=k
 ·subst jF;exact jG
 ·rw[getD_set_ne true jF]at rF;exact rF):P:=h
theorem MaC(h:P:=by
 clear h;unfold zca;go_simp
 exact⟨h6,stays _⟩):P:=h
theorem MaD(h:P:=by
 by_cases hx:(zb4 laws s k last x).2=0
 ·exact hx
 ·rw[zax,if_pos (by simpa using hx)]at h
  exact absurd h hx):P:=h
theorem MaE(h:P:=by
 have:(zaf s n).length<=s.children.length:=by unfold zaf;rw[List.length_map];exact List.length_filter_le _ _
 omega):P:=h
theorem MaF(h:P:=by
 refine fun j hj hQ=>⟨hQ.1,fun e=>?_⟩
 rcases h3 j e with h|h
 ·exact hQ.2 h
 ·omega):P:=h
theorem MaG(h:P:=by
 refine aH.mono ?_;rintro e wq ⟨rfl,hB⟩
 exact Ret.of rfl hB):P:=h
theorem MaH(h:P:=by
 rw[e1,e3];intro e;simp only[Value.pointer.injEq,Option.some.injEq,Addr.mk.injEq,and_true]at e
 omega):P:=h
theorem MaI(h:P:=by
 refine aH.mono ?_;rintro e wq ⟨rfl,rfl⟩
 exact⟨rfl,rfl⟩):P:=h
theorem MaJ(h:P:=by
 clear HR bK dZ;go_enter Tryz.func63,Tryz.ntmps63
 go_wp2_with fail
 go_ret
 rw[HX.out]
 exact Ret.of rfl Bw):P:=h
theorem MaK(h:P:=by
 clear hx;rw[zd3 h,hp]
 go_simp):P:=h
theorem MaL(h:P:=by
 have h1:=aE e he hb;have h0:=(mem_ready.1 hr).1;rw[yq]at h1;rw[getD_both h0]at h1
 cases h1):P:=h
theorem MaM(h:P:=by
 induction a with
 |nil=>rw[List.nil_append,sumQ,Rat.zero_add]
 |cons x a ih=>rw[List.cons_append,sumQ,sumQ,ih];grind):P:=h
theorem MaN(h:P:=by
 go_wp2_with fail
 go_ret
 exact Ret.of (zaW MbF) Bw):P:=h
theorem MaO(h:P:=by
 go_wp2_with fail
 go_ret
 exact⟨rfl,HW.out.keep (n:=w.heap.size) Bw,Below.mono (B:=w.heap.size) Bw MbC⟩):P:=h
theorem MaP(h:P:=by
 repeat(first|exact za3 _ _ _ Mb8|with_reducible refine zbZ ?_|with_reducible refine zal ?_)):P:=h
theorem MaQ(h:P:=by
 simp[Instr.mapEntry,run_underlying T.ht,zbB hh,T.hck,h1,hl,T.hz,zfM hh,Result.andThen]
 rfl):P:=h
theorem MaR(h:P:=by
 rw[zh2,eqSp_refl,if_pos rfl]at this
 exact this):P:=h
theorem MaS(h:P:=by
 clear h;unfold zca;go_simp
 exact⟨⟨P,p,q,R,r,s,rfl,hn⟩,stays _⟩):P:=h
theorem MaT(h:P:=by
 rw[List.getElem?_set_self fT]at e2;simp only[Option.some.injEq]at e1 e2;subst e1 e2
 exact hN):P:=h
theorem MaU(h:P:=by
 go_wp2_with fail
 go_meet
 rw[dp]at ru
 exact⟨by rw[ru];rfl,rfl⟩):P:=h
theorem MaV(h:P:=by
 repeat(first|exact za3 _ _ _ rfl|with_reducible refine zbZ ?_|with_reducible refine zal ?_)):P:=h
theorem MaW(h:P:=by simp[List.getD_eq_getElem?_getD,List.getElem?_eq_getElem (show ms.length-1-i<ms.length by omega)]):P:=h
theorem MaX(h:P:=by
 go_wp2_with fail
 go_meet
 exact⟨zal (za3 _ _ _ rfl),za3 _ _ _ MbF,Bw⟩):P:=h
theorem MaY(h:P:=by
 have af:es.size=m.length:=Mce;rw[<-af]
 simp):P:=h
theorem MaZ(h:P:=by exact⟨fun o h=>by cases h;rfl,fun h=>by cases h⟩):P:=h
theorem Ma0(h:P:=by
 rename_i hl
 simp only[Bool.or_eq_true,Bool.and_eq_true,beq_iff_eq,bne_iff_ne]at hl
 omega):P:=h
theorem Ma1(h:P:=by
 go_wp2_with fail
 go_ret
 exact Ret.of rfl (HB.out.trans (Below.mono Bw HB.out.size))):P:=h
theorem Ma2(h:P:=by
 have:=congrArg (fun l=>l[j]?) hm;simp[List.getElem?_map,hq,bZ]at this
 exact this.1):P:=h
theorem Ma3(h:P:=by
 rw[h']at hk;simp only[Option.some.injEq,Obj.cells.injEq]at hk
 exact ht hk.2.1.symm):P:=h
theorem Ma4(h:P:=by
 go_ret2
 rw[HX.out];have cj:=gU.out;have aS:=cj.size
 exact Ret.of rfl Bw):P:=h
theorem Ma5(h:P:=by
 subst bh
 exact hy.wpOp hi hS ⟨by rw[getD_set_ne false gx,gA hc hr];exact hS,H⟩):P:=h
theorem Ma6(h:P:=by
 rintro e wq ⟨rfl,z,rfl⟩
 exact⟨rfl,eP.trans ((za5 W' z).mono eP.size)⟩):P:=h
theorem Ma7(h:P:=by
 have:=Joins.block_setCell (i:=1) (Joins.block_setCell (i:=0) h a) b
 simpa using this):P:=h
theorem Ma8(h:P:=by
 refine .inl ⟨hd,Ret.of rfl ?_⟩
 exact Bw):P:=h
theorem Ma9(h:P:=by
 refine .inr ⟨hd,Ret.of rfl ?_⟩
 exact Bw):P:=h
theorem Mba(h:P:=by
 subst bh
 exact hy.wpOp hi trivial ⟨by rw[getD_set_ne false gx];exact hS,H⟩):P:=h
theorem Mbb(h:P:=by
 rw[if_pos rfl]
 exact⟨fun o h=>by(cases h),fun _=>ze0 MbF⟩):P:=h
theorem Mbc(h:P:=by
 show _<=((Sort.mapBlock _ _ _).heap++os).size
 simp[Sort.mapBlock,Sort.ahead]):P:=h
theorem Mbd(h:P:=by
 unfold WldC at hC;rw[hC]at hx
 simp at hx):P:=h
theorem Mbe(h:P:=by
 have d1:wq.cell? ⟨w.heap.size,1,none⟩=some (.int .i64 dy):=MbP;have d2:wq.cell? ⟨w.heap.size,2,none⟩=some (.string pl):=MbP;have d3:wq.cell? ⟨w.heap.size,3,none⟩=some (.string fr):=MbP;have d4:wq.cell? ⟨w.heap.size,4,none⟩=some (.slice B ts.length c):=MbP;have d5:wq.cell? ⟨w.heap.size,5,none⟩=some (.int .i64 cl):=MbP;have d6:wq.cell? ⟨w.heap.size,6,none⟩=some (.int .i64 yr):=MbP;clear hW hB hK h0 dF dh bm;refine NxM hK (fun hHeld=>?_) (⟨d0,d1,d2,d3,d4,d5,d6⟩);clear hK K;refine OnH 5 fun K hK=>?_
 go_simp
 refine NxM hK (fun hHeld=>?_) (⟨d0,d1,d2,d3,d4,d5,d6⟩);clear hK K;refine wpAnyH_done MbE ?_ _;clear d0 d2 d3 d4 d5 d6 d1;go_upto_region 18 with fail
 exact Mc):P:=h
theorem Mbf(h:P:=by
 intro f z h;obtain⟨y0,y1,y2,y3,y4,y5,y6,y7⟩:=g9.out _ (zbH (zaI (Below.refl _ _)) z)
 exact Md):P:=h
theorem Mbg(h:P:=by
 intro f z h;obtain⟨y0,y1,y2,y3,y4,y5,y6,y7⟩:=lG.out _ (zbH (zaI (Below.refl _ _)) z)
 exact Md):P:=h
theorem Mbh(h:P:=by
 intro f z h;obtain⟨⟨i0,i1,i2⟩,j0,j1,j2⟩:=wU.out _ (zbH (zaI (Below.refl _ _)) z)
 exact Md):P:=h
theorem Mbi(h:P:=by
 intro f z h;obtain⟨y0,y1,y2,y3,y4,y5,y6,y7⟩:=cC.out _ (zbH (zaI (Below.refl _ _)) z)
 exact Md):P:=h
theorem Mbj(h:P:=by
 have HR:Hid (R=false):=by(show _=_;rw[hR];rfl)
 exact Me):P:=h
theorem Mbk(h:P:=by
 have HR:Hid (R=false):=by(show _=_;rw[hR];simp[zag, *])
 exact Me):P:=h
theorem Mbl(h:P:=by
 have y2:ot.toList.isEmpty=true:=z2;have w2:ot.toList=[]:=McI;cases z3:noB pl
 ·exact MbB
 ·have y3:pl.toList.isEmpty=true:=z3;have w3:pl.toList=[]:=McJ
  exact MbA):P:=h
theorem Mbm(h:P:=by
 intro f z h;obtain⟨y0,y1,y2,y3,y4,y5,y6,y7⟩:=ee.out _ (zbH (zaI (Below.refl _ _)) z)
 exact Md):P:=h
theorem Mbn(h:P:=by
 refine NxM hK (fun hHeld=>?_) (cC.out _ FR3);clear hK K;refine OnM 27 false fun K hK=>?_
 refine zaV (v:=.slice QA pz.length qc) (n:=pz.length) (m:=1) rfl _ _ rfl zeE zbG zeD rfl (xs:=pz) (ys:=[fr]) (ob3.keep (n:=w3.heap.size) Bw) rfl rfl rfl (zdB (x2)) MbO MbC (by have:=HW.out.lt;(try simp);omega) ?_
 exact Ma):P:=h
theorem Mbo(h:P:=by
 have HR:Hid (R=true):=by(show _=_;rw[hR];simp[zag, *])
 exact Me):P:=h
theorem Mbp(h:P:=by
 have y2:ot.toList.isEmpty=false:=z2;have w2:¬ot.toList=[]:=McI
 exact Mf):P:=h
theorem Mbq(h:P:=by
 rw[List.drop_eq_nil_of_le MbC]at hx;have HX:=Lib.hid hx;clear hx bP eF kS;have ix:¬(k:Int)<(ps.length:Int):=MbC;go_wp2_with fail
 all_goals go_ret
 all_goals exact Ret.of (zaW (by rw[HX.out];first|(simp[zbT,zfC, *];done)|(simp[zbT,zfC, *];omega))) Bw):P:=h
theorem Mbr(h:P:=by
 intro f z h;clear h;have hsz:=(zbH (zaI (Below.refl wr.heap.size wr)) z).size
 exact Ml):P:=h
theorem Mbs(h:P:=by
 intro f z h;clear h;have hsz:=(zbH (zaI (Below.refl W6.heap.size W6)) z).size
 exact Ml):P:=h
theorem Mbt(h:P:=by
 refine bodyPost_ret (v:=za9 0) ?_ rfl ?_
 ·exact MD
 ·exact Ma9):P:=h
theorem Mbu(h:P:=by
 intro f z h;clear h;have hsz:=(zbH (zaI (Below.refl w5.heap.size w5)) z).size
 exact Ml):P:=h
theorem Mbv(h:P:=by
 refine zbA rfl _ _ w.heap.size _ _ rfl ?_ ?_<;>simp[go_sem]):P:=h
theorem Mbw(h:P:=by
 intro f z h;have h7:f 7=.tuple #[.slice none 0 0,.int .i64 E]:=h ⟨7,.data⟩ MbF rfl
 exact ML):P:=h
theorem Mbx(h:P:=by
 have y3:pl.toList.isEmpty=true:=z3;have w3:pl.toList=[]:=McJ
 exact Mf):P:=h
theorem Mby(h:P:=by
 obtain rfl:=Option.some.inj ho
 exact⟨.cells #[.int .i64 0,.int .i64 0] 54,by kernel_rfl⟩):P:=h
theorem Mbz(h:P:=by
 rw[bX]at h2;obtain⟨e',vp,dG⟩:=List.mem_map.1 h2;rw[<-dG]
 exact hb e' vp):P:=h
theorem MbA(h:P:=by
 by_cases t1:tl=0
 ·skip
  by_cases u1:nu=0
  ·skip
   by_cases u2:de=0
   ·skip
    exact Mf
   ·skip
    exact Mf
  ·skip
   exact Mf
 ·skip
  exact Mf):P:=h
theorem MbB(h:P:=by
 have y3:pl.toList.isEmpty=false:=z3;have w3:¬pl.toList=[]:=McJ
 exact Mf):P:=h
theorem MbC(h:P:=by omega):P:=h
theorem MbD(h:P:=by decide):P:=h
theorem MbE(h:P:=by kernel_rfl):P:=h
theorem MbF(h:P:=by simp):P:=h
theorem MbG(h:P:=by simp[World.cell?,g0]):P:=h
theorem MbH(h:P:=by simp;omega):P:=h
theorem MbI(h:P:=by simp[World.cell?,g1]):P:=h
theorem MbJ(h:P:=by simp[mono_vIs,mono_vNew,zmS,zmT,zlo,zmU,mono_vNx1,mono_vTo,zmV]):P:=h
theorem MbK(h:P:=by have:=(List.getElem?_eq_some_iff.1 hy).1;simp at this;omega):P:=h
theorem MbL(h:P:=by
 repeat(first|exact Two2.refl2 _ _ _|assumption|with_reducible refine Two2.alloc ?_ _|with_reducible refine Two2.drew ?_|with_reducible refine Two2.ext ?_ _)):P:=h
theorem MbM(h:P:=by simp[zae];omega):P:=h
theorem MbN(h:P:=by rw[<-HR.out];simp only[zcE,lj.out, *,Bool.not_true,Bool.not_false,Bool.or_self,Bool.or_true,Bool.true_or,Bool.false_or,Bool.or_false,if_true,if_false,Bool.false_eq_true,ite_true,ite_false,decide_false];done):P:=h
theorem MbO(h:P:=by simp[maxLen];omega):P:=h
theorem MbP(h:P:=by simp only[World.cell?,h0];rfl):P:=h
theorem MbQ(h:P:=by simp[go_sem]):P:=h
theorem MbR(h:P:=by have:=N2.out.size;simp[zae]at this;omega):P:=h
theorem MbS(h:P:=by rw[zaN n2 (by simp[zae];omega) (by omega)];simp[go_sem]):P:=h
theorem MbT(h:P:=by assumption):P:=h
theorem MbU(h:P:=by rw[IntKind.wrap_i64];omega):P:=h
theorem MbV(h:P:=by grind):P:=h
theorem MbW(h:P:=by
 repeat(first|exact za3 _ _ _ (by simp)|refine zal ?_)):P:=h
theorem MbX(h:P:=by simp[World.frozen?,g0]):P:=h
theorem MbY(h:P:=by simp[World.frozen?,g1]):P:=h
theorem MbZ(h:P:=by rw[zd7,List.length_take];congr 1;omega):P:=h
theorem Mb0(h:P:=by
 rw[<-HR.out];first|(simp[zcE, *];done)|(simp[zcE, *];omega)):P:=h
theorem Mb1(h:P:=by intro k hk;simp[Value.ownBlock]at hk;omega):P:=h
theorem Mb2(h:P:=by unfold zbe at bi;simp only[World.cell?,bi];rfl):P:=h
theorem Mb3(h:P:=by
 first|(simp[Act.eval,Act.put];done)|(simp[Act.eval,Act.put];rfl)):P:=h
theorem Mb4(h:P:=by rw[<-List.flatMap_append,List.take_append_drop]):P:=h
theorem Mb5(h:P:=by rw[List.getD_eq_getElem?_getD,List.getElem?_eq_getElem aa];rfl):P:=h
theorem Mb6(h:P:=by rw[IntKind.wrap_i64];rw[Int.tmod_eq_emod_of_nonneg h0];omega):P:=h
theorem Mb7(h:P:=by simpa using h1):P:=h
theorem Mb8(h:P:=by simp[zae]):P:=h
theorem Mb9(h:P:=by rw[Int.tmod_eq_emod_of_nonneg h0];unfold wrap64;omega):P:=h
theorem Mca(h:P:=by simp only[World.cell?,G1.out,zba];rfl):P:=h
theorem Mcb(h:P:=by
 repeat(first|exact TQ.out|refine zbZ ?_|refine J_drew ?_|refine zal ?_)):P:=h
theorem Mcc(h:P:=by
 simp only[Nat.min_def];split<;>omega):P:=h
theorem Mcd(h:P:=by simp only[World.cell?,yL',zba];rfl):P:=h
theorem Mce(h:P:=by simpa using congrArg List.length hm):P:=h
theorem Mcf(h:P:=by simpa using h0):P:=h
theorem Mcg(h:P:=by rw[bv];exact hi):P:=h
theorem Mch(h:P:=by rw[zaN n2 (by simp[zae];omega) (by omega)];simp[go_sem,y1,y3]):P:=h
theorem Mci(h:P:=by have:=hc 0 _ rfl;simpa using this):P:=h
theorem Mcj(h:P:=by rw[List.length_take];omega):P:=h
theorem Mck(h:P:=by show decide ((0:Int)<=upto)=true;simp;omega):P:=h
theorem Mcl(h:P:=by rw[aV];exact zal (za3 _ _ _ rfl)):P:=h
theorem Mcm(h:P:=by have:=(List.getElem?_eq_some_iff.1 hi).1;have:=hT.len;omega):P:=h
theorem Mcn(h:P:=by simpa using e):P:=h
theorem Mco(h:P:=by simp[zbw,hz,hq]):P:=h
theorem Mcp(h:P:=by have:=S2.out;omega):P:=h
theorem Mcq(h:P:=by simp only;omega):P:=h
theorem Mcr(h:P:=by show _=_;rw[HR.out];simp[zbX,p1,p2,isDay0,inR34, *]):P:=h
theorem Mcs(h:P:=by simpa[HM.out]using h1):P:=h
theorem Mct(h:P:=by simp at eA;omega):P:=h
theorem Mcu(h:P:=by simp[Sort.mapBlock,Sort.ahead];omega):P:=h
theorem Mcv(h:P:=by simpa using hc):P:=h
theorem Mcw(h:P:=by simp[Act.eval,Act.put];rfl):P:=h
theorem Mcx(h:P:=by simp[hq]):P:=h
theorem Mcy(h:P:=by simp only[World.cell?,cv.out];rfl):P:=h
theorem Mcz(h:P:=by rw[aV];exact Bw):P:=h
theorem McA(h:P:=by have:=ah 0 _ rfl;simpa using this):P:=h
theorem McB(h:P:=by simpa using h):P:=h
theorem McC(h:P:=by simp only[World.cell?,G0.out];rfl):P:=h
theorem McD(h:P:=by simp only[World.size_alloc];omega):P:=h
theorem McE(h:P:=by simpa using fL):P:=h
theorem McF(h:P:=by rw[za0];omega):P:=h
theorem McG(h:P:=by simp[hx]):P:=h
theorem McH(h:P:=by rw[zd7,List.length_drop]):P:=h
theorem McI(h:P:=by simpa using y2):P:=h
theorem McJ(h:P:=by simpa using y3):P:=h
theorem McK(h:P:=by simp[World.frozen?,g2]):P:=h
theorem McL(h:P:=by rw[beq_eq_false_iff_ne];omega):P:=h
theorem McM(h:P:=by simp only[World.cell?,t1];rfl):P:=h
theorem McN(h:P:=by simp[World.cell?,h1]):P:=h
theorem McO(h:P:=by simp[World.cell?,g2]):P:=h
theorem McP(h:P:=by simpa using hce):P:=h
theorem McQ(h:P:=by rw[h]at hr;cases hr):P:=h
theorem McR(h:P:=by simpa using hj):P:=h
theorem McS(h:P:=by simp[go_sem,e6,hh]):P:=h
theorem McT(h:P:=by simp[aG]):P:=h
