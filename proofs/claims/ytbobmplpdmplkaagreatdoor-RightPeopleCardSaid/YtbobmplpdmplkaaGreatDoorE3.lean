import Derived.Test.YtbobmplpdmplkaaGreatDoorE2
set_option linter.all false
set_option maxRecDepth 100000
set_option maxHeartbeats 4000000
namespace Go.Proofs.YtbobmplpdmplkaaGreatDoor
open Go.RowKit Go.Shelf
attribute [local go_sem] World.cell?_alloc_mark zaf za4 zam za7 zaw zax zay zaz za0 za1 za2
attribute [local go_sem] zan zac
theorem will_any(base b:Nat)(s:St)(la co:Int)(d:Deed)(B:Option Addr)(c:Nat)(w:World)(hW:WldAt base w b s la co)(hd:OkD d)(hk:d.kind=4)(hS:Sl w 3 RPart.cells B d.to):
 Calls Tryz.prog 126 #[.pointer (some ⟨b,0,none⟩),d.v B c] w (zbH base b (zgK s d) la co w):=by
 obtain⟨bA,_,_,_⟩:=zdW (hd.parts (.inr (.inr hk))).2;have bu:=hd.len;have Fo:=rat_cells (fun p hp=>(bA p hp).2.2) hS;clear hd bA;have am:=hW;obtain⟨Bk,dd,cc,pp,wl,rr,mv,tv,ps,ba,hC,hP,hT⟩:=hW;have dg:=zab hC;obtain⟨kd,dy,pl,fr,ts,cl,yr⟩:=d;simp only at*;subst hk;have iZ:Hid (zgK s ⟨4,dy,pl,fr,ts,cl,yr⟩=if zaJ s fr then(s,28)else({s with wills:=s.wills++[(fr,zao ts)]},0)):=rfl;generalize zgK s ⟨4,dy,pl,fr,ts,cl,yr⟩=X at*;have ag:(zao ts).length=ts.length:=by unfold zao;rw[List.length_map]
 obtain⟨yY,HC,HP,HT,HW⟩:=yH5 Fo hC hP hT am;unfold WldC at hC;obtain⟨c0,-,-,-,c4⟩:=cF5 hC;have dK:∀W:World,Below w.heap.size w W->(Instr.lookup 84 (.map (some dd)) (.string fr) false).run Tryz.prog W=.ok (.bool (zaJ s fr)) W:=fun W hB=>zdc (HP.o.keep hB) _
 have fM:=zHi dK;generalize zaJ s fr=dx at*;have dP:=zHi ag;clear dK hC hP hT am Fo hS ag;unfold Deed.v;simp only;have dV:=fM.o (w.alloc (.cells #[.int .i64 4,.int .i64 dy,.string pl,.string fr,.slice B ts.length c,.int .i64 cl,.int .i64 yr] 76)) Bw;go_enter Tryz.func126,Tryz.ntmps126
 cases dx
 ·go_upto_region 5 with fail
  refine wp_region_held_drew (S:=(fun w'=>w'.cell? ⟨b,4,none⟩=some (.map (some wl))/\w'.cell? ⟨w.heap.size,4,none⟩=some (.slice B ts.length c))) Mcz ?hS ?hrest
  case hS=>((try dsimp only);refine⟨?_,?_⟩<;>(simp[go_sem,c4,dg];done))
  case hrest=>
   intro hHeld;refine TkH 0 ?_;refine TkH 1 ?_;refine TkH 2 ?_;refine TkH 3 ?_;refine TkH 4 ?_;refine TkH 5 ?_;refine TkH 6 ?_;refine OnH 7 fun K hK=>?_
   go_simp
   refine(ze9 (zao ts) B ts.length c _ dP.o.symm (by rw[dP.o];omega) (yY.o.keep (n:=w.heap.size) Bw)).mono ?_;rintro e w5 ⟨v,rfl,n1,n2⟩;have jH:Below w.heap.size w w5:=(Bw:Below w.heap.size w _).trans (n2.mono McB);have p4:w5.cell? ⟨b,4,none⟩=some (.map (some wl)):=(zah jH dg).trans c4;have q4:w5.cell? ⟨w.heap.size,4,none⟩=some (.slice B ts.length c):=(zah n2 McB).trans Mc3;have jN:=n2.size;simp only[World.size_drew,World.size_alloc]at jN;obtain⟨VA,vc,rfl,kB,dX⟩:=n1.ro;obtain⟨m,k7,k8⟩:=(HP.o.keep jH).wills;obtain⟨es,ec,hx⟩:=zbl k7;have eT:=HP.o.ge;have cG:=k7.at.lt;have Lj:wl<w.heap.size:=by
    obtain⟨m0,k70,_⟩:=HP.o.wills;exact k70.at.lt
   have bk:b≠wl:=fun e=>by
    subst e;have h1:=HC.o.keep jH;unfold WldC at h1;rw[h1]at hx;simp at hx
   obtain⟨qF,K7,K8,HX,aR⟩:=yH5 dX k7 k8 hx jH;clear n1 n2 dX k7 k8 hx jH;refine hK.out _ _ ?_ (fun hHeld=>?_);focus((try dsimp only);refine⟨?_,?_⟩<;>assumption)
   clear hK K;try simp only[Act.put,List.setIfInBounds_toArray,List.set_cons_zero,List.set_cons_succ]
   refine OnH 8 fun K hK=>?_
   obtain⟨w6,hrun,iI,bC,ku⟩:=zbY mapSP K7.o fr (.slice VA (zao ts).length vc);refine zdd rfl _ _ _ rfl _ _ _ rfl rfl rfl w6 hrun ?_;have p6:w6.cell? ⟨b,4,none⟩=some (.map (some wl)):=(zbb bC Mcy bk).trans p4;have q6:w6.cell? ⟨w.heap.size,4,none⟩=some (.slice B ts.length c):=(zbb bC Mcy Mcy).trans q4;obtain⟨uR,jD⟩:=yH2 iI bC;clear iI bC hrun;refine hK.out _ _ ?_ (fun hHeld=>?_);focus((try dsimp only);refine⟨?_,?_⟩<;>assumption)
   clear hK K;try simp only[Act.put,List.setIfInBounds_toArray,List.set_cons_zero,List.set_cons_succ]
   refine wpAnyH_done Mcz ?_ _;go_wp2_with fail
   go_ret
   have hX:=iZ.o;simp only[Bool.false_eq_true,if_false]at hX;rw[hX];refine⟨rfl,zmG ba (HC.o.keep aR.o) (HT.o.keep aR.o) jD.o HX.o rfl (ppl_will (HP.o.keep aR.o) jD.o uR.o fun n=>?_),zaQ (aR.o.mono Mcy) jD.o eT.2.2.2.1 Mcy,(KeepD.below aR.o).trans (KeepD.map jD.o HX.o)⟩;rw[zfJ];unfold WillIs;rw[zep];have L1:zae n fr=zae fr n:=by rw[Bool.eq_iff_iff,zau,zau];exact⟨Eq.symm,Eq.symm⟩
   rw[L1];cases hn:zae fr n
   ·exact(K8.o n).keptM jD.o HX.o
   ·exact .inr ⟨VA,vc,rfl,qF.o.keptM jD.o HX.o⟩
 ·exact Mah
theorem zlA(base b:Nat)(s:St)(la co:Int)(d:Deed)(B:Option Addr)(c:Nat)(w:World)(hW:WldAt base w b s la co)(hd:OkD d)(hk:d.kind=5)(ay:d.to.length<=c)(hS:Sl w 3 RPart.cells B d.to):
 Calls Tryz.prog 126 #[.pointer (some ⟨b,0,none⟩),d.v B c] w (zbH base b (zb7 s d) la co w):=by
 obtain⟨aM,_⟩:=hd.one (.inl hk);obtain⟨q,hq⟩:∃q,d.to=[q]:=List.length_eq_one_iff.1 aM;have fI:zbf d=q.name:=by unfold zbf;rw[hq];rfl
 obtain⟨b',off,rfl,cJ,aN⟩:=hS.at (show 0<d.to.length by rw[hq];exact Nat.zero_lt_one);have i0:w.cell? ⟨b',off,none⟩=some (.string q.name):=by
  exact Mbc
 have pF:1<=c:=by rw[hq]at ay;exact ay
 clear hd aM aN hS ay;have am:=hW;obtain⟨Bk,dd,cc,pp,wl,rr,mv,tv,ps,ba,hC,hP,hT⟩:=hW;have dg:=zab hC;obtain⟨kd,dy,pl,fr,ts,cl,yr⟩:=d;simp only at*;subst hq hk;have iZ:Hid (zb7 s ⟨5,dy,pl,fr,[q],cl,yr⟩=if zaJ s fr||zaJ s q.name then(s,28)else if s.renounce.any (fun r=>zae r.1 fr&&zae r.2 q.name)then(s,5)else({s with renounce:=s.renounce++[(fr,q.name)]},0)):=by
  show _=_;unfold zb7;rw[fI]
 generalize zb7 s ⟨5,dy,pl,fr,[q],cl,yr⟩=X at*;obtain⟨HC,HP,HT,HW⟩:=yH4 hC hP hT am;unfold WldC at hC;obtain⟨c0,-,-,-,-,c5⟩:=cF6 hC;have dK:∀W:World,Below w.heap.size w W->∀n,(Instr.lookup 84 (.map (some dd)) (.string n) false).run Tryz.prog W=.ok (.bool (zaJ s n)) W:=fun W hB n=>zdc (HP.o.keep hB) _
 have cK:∀W:World,Below w.heap.size w W->(Instr.lookup 87 (.map (some rr)) (.agg #[.string fr,.string q.name]) false).run Tryz.prog W=.ok (.bool (s.renounce.any fun r=>zae r.1 fr&&zae r.2 q.name)) W:=fun W hB=>znJ (HP.o.keep hB) _ _
 have tY:=ziD (eq:=eqP) (k:=(fr,q.name)) (l:=s.renounce);rw[zm6]at tY;obtain⟨fM,fX,Ik⟩:=yH3 dK cK tY;clear dK cK tY hC hP hT am fI;unfold Deed.v;simp only;obtain⟨W1,aT⟩:∃W1,W1=w.alloc (.cells #[.int .i64 5,.int .i64 dy,.string pl,.string fr,.slice (some ⟨b',off,none⟩) 1 c,.int .i64 cl,.int .i64 yr] 76):=⟨_,rfl⟩
 have cu:Below w.heap.size w W1:=by rw[aT];exact Bw
 have k1:=fM.o W1 cu fr;have k2:=fM.o W1 cu q.name;have k3:=fX.o W1 cu;have xY:=(HP.o.keep cu).ren;have aA:=zHi cu;rw[aT]at k1 k2 k3;obtain⟨uZ,tq⟩:=yH2 xY aT;clear xY cu aT;generalize zaJ s fr=d1 at*;generalize zaJ s q.name=d2 at*;generalize(s.renounce.any fun r=>zae r.1 fr&&zae r.2 q.name)=rx at*;have ao:(0:Int)<(1:Int):=McA;go_enter Tryz.func126,Tryz.ntmps126
 cases d1
 ·cases d2
  ·cases rx
   ·obtain⟨es,ec,hx⟩:=zbl uZ.o;have HX:=zHi hx;clear hx;go_wp2_with (at_mapUpdate;obtain⟨w6,hrun,iI,bC,ku⟩:=zbY mapPB uZ.o (fr,q.name) true;rw[tq.o]at hrun;go_loud(refine zc4 rfl _ _ _ rfl _ _ _ rfl rfl rfl w6 hrun ?_))
    go_ret
    have hX:=iZ.o;simp only[Bool.or_self,Bool.false_eq_true,if_false]at hX;rw[hX];have eT:=HP.o.ge;have sy:MapS w6 rr ekP evB ((s.renounce++[(fr,q.name)]).map fun x=>(x,true)):=by
     rw[zkx (Ik.o (by first|rfl|trivial))]at iI;simpa using iI
    have aG:=HW.o.lt;exact⟨rfl,zmG ba (HC.o.keep aA.o) (HT.o.keep aA.o) bC HX.o rfl (ppl_ren (HP.o.keep aA.o) bC sy),zaQ (aA.o.mono Mcy) bC eT.2.2.2.2 Mcy,(KeepD.below aA.o).trans (KeepD.map bC HX.o)⟩
   ·exact Mah
  ·exact Mah
 ·exact Mah
theorem zmI{w:World}{b:Nat}{p:ByteArray×ByteArray}{t:TypeId}{fr:Nat×Nat}(h:w.heap[b]?=some (.cells #[.string p.1,.string p.2] t fr)):Sl w 2 zaT (some ⟨b,0,none⟩) [p]:=fun _=>⟨b,0,rfl,zab h,fun k y hy j u hu=>by
 have hk:k=0:=McK;subst hk;simp only[List.getElem?_cons_zero,Option.some.injEq]at hy;subst hy;match j,hu with
 |0,hu=>simp[zaT]at hu;simp[World.cell?,h,<-hu]
 |1,hu=>simp[zaT]at hu;simp[World.cell?,h,<-hu]
 |j+2,hu=>simp[zaT]at hu⟩
theorem marry_any(base b:Nat)(s:St)(la co:Int)(d:Deed)(B:Option Addr)(c:Nat)(w:World)(hW:WldAt base w b s la co)(hd:OkD d)(hk:d.kind=7)(ay:d.to.length<=c)(hS:Sl w 3 RPart.cells B d.to)(ft:s.marriages.length<=1000):
 Calls Tryz.prog 126 #[.pointer (some ⟨b,0,none⟩),d.v B c] w (zbH base b (zdq s d) la co w):=by
 obtain⟨aM,_⟩:=hd.one (.inr (.inr hk));obtain⟨q,hq⟩:∃q,d.to=[q]:=List.length_eq_one_iff.1 aM;have fI:zbf d=q.name:=by unfold zbf;rw[hq];rfl
 obtain⟨b',off,rfl,cJ,aN⟩:=hS.at (show 0<d.to.length by rw[hq];exact Nat.zero_lt_one);have i0:w.cell? ⟨b',off,none⟩=some (.string q.name):=by
  exact Mbc
 have pF:1<=c:=by rw[hq]at ay;exact ay
 clear hd aM aN hS ay;have am:=hW;obtain⟨Bk,dd,cc,pp,wl,rr,mv,tv,ps,ba,hC,hP,hT⟩:=hW;have dg:=zab hC;obtain⟨kd,dy,pl,fr,ts,cl,yr⟩:=d;simp only at*;subst hq hk;have iZ:Hid (zdq s ⟨7,dy,pl,fr,[q],cl,yr⟩=if zaJ s fr||zaJ s q.name then(s,28)else if !noB (zaG s fr)||!noB (zaG s q.name)then(s,13)else({s with marriages:=s.marriages++[(fr,q.name)]},0)):=by
  show _=_;unfold zdq;rw[fI]
 generalize zdq s ⟨7,dy,pl,fr,[q],cl,yr⟩=X at*;obtain⟨MA,mc,rfl,_,_⟩:=hP.marr.sl zbj;have xA:=hP.marr.ge;obtain⟨HC,HP,HT,HW⟩:=yH4 hC hP hT am;unfold WldC at hC;obtain⟨c0,-,-,c3⟩:=cF4 hC;have f3:w.frozen? ⟨b,3,none⟩=false:=by simp only[World.frozen?,hC];rfl
 have dK:∀W:World,Below w.heap.size w W->∀n,(Instr.lookup 84 (.map (some dd)) (.string n) false).run Tryz.prog W=.ok (.bool (zaJ s n)) W:=fun W hB n=>zdc (HP.o.keep hB) _
 have fQ:=dK (w.alloc (.cells #[.int .i64 7,.int .i64 dy,.string pl,.string fr,.slice (some ⟨b',off,none⟩) 1 c,.int .i64 cl,.int .i64 yr] 76)) Bw fr;have pN:=dK (w.alloc (.cells #[.int .i64 7,.int .i64 dy,.string pl,.string fr,.slice (some ⟨b',off,none⟩) 1 c,.int .i64 cl,.int .i64 yr] 76)) Bw q.name;obtain⟨ib,Ii⟩:=yH2 (fun W (hB:Below w.heap.size w W) n=>zgZ base b s n W (am.peo.keep hB) Mcy) xA;clear dK hC hP hT am fI xA;unfold Deed.v;simp only;generalize zaJ s fr=d1 at*;generalize zaJ s q.name=d2 at*;have ao:(0:Int)<(1:Int):=McA;go_enter Tryz.func126,Tryz.ntmps126
 cases d1
 ·cases d2
  ·cases cC:noB (zaG s fr)
   ·have e1:(zaG s fr).toList.isEmpty=false:=cC;rw[cC]at iZ;exact Ma1
   ·cases dW:noB (zaG s q.name)
    ·have e1:(zaG s fr).toList.isEmpty=true:=cC;have e2:(zaG s q.name).toList.isEmpty=false:=dW;rw[cC,dW]at iZ;exact Ma1
    ·have e1:(zaG s fr).toList.isEmpty=true:=cC;have e2:(zaG s q.name).toList.isEmpty=true:=dW;rw[cC,dW]at iZ
     go_wp2_with (first
      |(go_at_call 43;refine(ib.o _ Bw _).mono ?_;rintro e wq ⟨rfl,z,rfl⟩)
      |(at_builtin
        go_loud(refine zat (v:=.slice MA s.marriages.length mc) (n:=s.marriages.length) (m:=1) rfl _ _ rfl zgs zbj zdB rfl (HP.o.marr.keep (n:=w.heap.size) Bw) rfl rfl rfl (zmI (p:=(fr,q.name)) (zar _ _ _ MdE)) McS Mcy (by have:=HW.o.lt;simp[zaf];omega) ?_)
        intro v3 w3 h1 h2 h3;obtain⟨A6,c6,dA,_,_⟩:=h1.sl zbj;rw[List.length_append]at dA;subst dA;obtain⟨hA,zi⟩:=wld_marry ba (HC.o.keep (n:=w.heap.size) Bw) (HP.o.keep (n:=w.heap.size) Bw) (HT.o.keep (n:=w.heap.size) Bw) h1 h2;have zj:=zi;unfold WldC at zj;obtain⟨-,-,-,c33⟩:=cF4 zj;have f33:w3.frozen? ⟨b,3,none⟩=false:=by simp only[World.frozen?,zj];rfl
        have ax:=zab zi;obtain⟨H2,HA⟩:=yH2 h2 hA;have bS:=((KeepD.below (w:=w) Bw).trans (KeepD.own (HP.o.marr.keep (n:=w.heap.size) Bw) h2 McA)).trans (KeepD.cells (zav w3 b 3 (.slice A6 (s.marriages.length+[(fr,q.name)].length) c6)) zi McA);have jT:=zHi bS
        clear h1 h2 h3 hA zi zj bS))
     go_ret
     have hX:=iZ.o;simp only[Bool.or_self,Bool.not_true,Bool.false_eq_true,if_false]at hX;rw[hX];have aG:=HW.o.lt;exact⟨rfl,HA.o,zaP (Below.grown (a:=w) (B:=base) Bw H2.o McH (fun j hj=>(Ii.o j hj).1)) (by show base<=b;omega) _,jT.o⟩
  ·exact Mah
 ·exact Mah
