import Derived.Test.YtogklihlgindkaaGreatDoorO7
import Derived.Test.YtogklihlgindkaaGreatDoorJQ
set_option linter.all false
set_option maxRecDepth 100000
set_option maxHeartbeats 4000000
namespace Go.Proofs.YtogklihlgindkaaGreatDoor
open Go.RowKit Go.Shelf
attribute [local go_sem] World.cell?_alloc_mark zaf za3 zam za6 zat zau zav zaw zax zay zaz
attribute [local go_sem] zao zac
def will_any(base b:Nat)(s:St)(la co:Int)(d:Deed)(B:Option Addr)(c:Nat)(w:World)(hW:WldAt base w b s la co)(hd:OkD d)(hk:d.kind=4)(hS:Sl w 3 RPart.cells B d.to):
 Calls Tryz.prog 82 #[.pointer (some ⟨b,0,none⟩),d.v B c] w (zbG base b (zgU s d) la co w):=by
 obtain⟨bS,_,_,_⟩:=zea (hd.parts (.inr (.inr hk))).2;have bA:=hd.len;have GH:=rat_cells (λp hp=>(bS p hp).2.2) hS;clear hd bS;have am:=hW;obtain⟨Bk,dd,cc,pp,wl,rr,mv,tv,ps,ba,hC,hP,hT⟩:=hW;have cI:=zab hC;obtain⟨kd,dy,pl,fr,ts,cl,yr⟩:=d;simp only at*;subst hk;have jy:Hid (zgU s ⟨4,dy,pl,fr,ts,cl,yr⟩=if zaN s fr then(s,28)else({s with wills:=s.wills++[(fr,zaq ts)]},0)):=rfl;generalize zgU s ⟨4,dy,pl,fr,ts,cl,yr⟩=X at*;have ag:(zaq ts).length=ts.length:=by unfold zaq;rw[List.length_map]
 obtain⟨Jz,HC,HP,HT,HW⟩:=yH5 GH hC hP hT am;unfold WldC at hC;obtain⟨c0,-,-,-,c4⟩:=cF5 hC;have dO:∀W:World,Qa w W->(Instr.lookup 66 (.map (some dd)) (.string fr) false).run Tryz.prog W=.ok (.bool (zaN s fr)) W:=λW hB=>zd0 (HP.o.keep hB) _
 have iB:=zHi dO;generalize zaN s fr=dx at*;have cG:=zHi ag;clear dO hC hP hT am GH hS ag;unfold Deed.v;simp only;have fN:=iB.o (w.alloc (.cells #[.int .i64 4,.int .i64 dy,.string pl,.string fr,.slice B ts.length c,.int .i64 cl,.int .i64 yr] 60)) Bw;go_enter Tryz.func82,Tryz.ntmps82
 cases dx
 ·go_upto_region 5 with fail
  refine wp_region_held_drew (S:=(λw'=>w'.cell? ⟨b,4,none⟩=some (.map (some wl))/\w'.cell? ⟨w.heap.size,4,none⟩=some (.slice B ts.length c))) McT ?hS ?hrest
  case hS=>((try dsimp only);refine⟨?_,?_⟩<;>(simp[go_sem,c4,cI];done))
  case hrest=>
   intro hHeld;refine TkH 0 ?_;refine TkH 1 ?_;refine TkH 2 ?_;refine TkH 3 ?_;refine TkH 4 ?_;refine TkH 5 ?_;refine TkH 6 ?_;refine OnH 7 λK hK=>?_
   go_simp
   refine(zeD (zaq ts) B ts.length c _ cG.o.symm (by rw[cG.o];omega) (Jz.o.keep (n:=w.heap.size) Bw)).mono ?_;rintro e w5 ⟨v,rfl,n1,n2⟩;have nW:Qa w w5:=(Bw:Qa w _).trans (n2.mono McV);have p4:w5.cell? ⟨b,4,none⟩=some (.map (some wl)):=(zai nW cI).trans c4;have q4:w5.cell? ⟨w.heap.size,4,none⟩=some (.slice B ts.length c):=(zai n2 McV).trans Mdo;have jm:=n2.size;simp only[World.size_drew,World.size_alloc]at jm;obtain⟨VA,vc,rfl,gu,ej⟩:=n1.ro;obtain⟨m,k7,k8⟩:=(HP.o.keep nW).wills;obtain⟨es,ec,hx⟩:=zbz k7;have fL:=HP.o.ge;have cK:=k7.at.lt;have Nk:wl<w.heap.size:=by
    obtain⟨m0,k70,_⟩:=HP.o.wills;exact k70.at.lt
   have bn:b≠wl:=λe=>by
    subst e;have h1:=HC.o.keep nW;unfold WldC at h1;rw[h1]at hx;simp at hx
   obtain⟨kf,K7,K8,HX,bf⟩:=yH5 ej k7 k8 hx nW;clear n1 n2 ej k7 k8 hx nW;refine hK.out _ _ ?_ (λhHeld=>?_);focus((try dsimp only);refine⟨?_,?_⟩<;>assumption)
   clear hK K;try simp only[Act.put,List.setIfInBounds_toArray,List.set_cons_zero,List.set_cons_succ]
   refine OnH 8 λK hK=>?_
   obtain⟨w6,hrun,jh,bF,ii⟩:=zcv mapSP K7.o fr (.slice VA (zaq ts).length vc);refine zde rfl _ _ _ rfl _ _ _ rfl rfl rfl w6 hrun ?_;have p6:w6.cell? ⟨b,4,none⟩=some (.map (some wl)):=(zbd bF McS bn).trans p4;have q6:w6.cell? ⟨w.heap.size,4,none⟩=some (.slice B ts.length c):=(zbd bF McS McS).trans q4;obtain⟨vG,jY⟩:=yH2 jh bF;clear jh bF hrun;refine hK.out _ _ ?_ (λhHeld=>?_);focus((try dsimp only);refine⟨?_,?_⟩<;>assumption)
   clear hK K;try simp only[Act.put,List.setIfInBounds_toArray,List.set_cons_zero,List.set_cons_succ]
   refine wpAnyH_done McT ?_ _;go_wp2_with fail
   go_ret
   have hX:=jy.o;simp only[Bool.false_eq_true,if_false]at hX;rw[hX];refine⟨rfl,znl ba (HC.o.keep bf.o) (HT.o.keep bf.o) jY.o HX.o rfl (ppl_will (HP.o.keep bf.o) jY.o vG.o λn=>?_),zaV (bf.o.mono McS) jY.o fL.2.2.2.1 McS,(KeepD.below bf.o).trans (KeepD.map jY.o HX.o)⟩;rw[zfR];unfold WillIs;rw[zfl];have LZ:zae n fr=zae fr n:=by rw[Bool.eq_iff_iff,za2,za2];exact⟨Eq.symm,Eq.symm⟩
   rw[LZ];cases hn:zae fr n
   ·exact(K8.o n).keptM jY.o HX.o
   ·exact .inr ⟨VA,vc,rfl,kf.o.keptM jY.o HX.o⟩
 ·exact Mas
def zlP(base b:Nat)(s:St)(la co:Int)(d:Deed)(B:Option Addr)(c:Nat)(w:World)(hW:WldAt base w b s la co)(hd:OkD d)(hk:d.kind=5)(aA:d.to.length<=c)(hS:Sl w 3 RPart.cells B d.to):
 Calls Tryz.prog 82 #[.pointer (some ⟨b,0,none⟩),d.v B c] w (zbG base b (zb9 s d) la co w):=by
 obtain⟨aU,_⟩:=hd.one (.inl hk);obtain⟨q,hq⟩:∃q,d.to=[q]:=List.length_eq_one_iff.1 aU;have dU:zbh d=q.name:=by unfold zbh;rw[hq];rfl
 obtain⟨b',off,rfl,cA,aE⟩:=hS.at (show 0<d.to.length by rw[hq];exact Nat.zero_lt_one);have i0:w.cell? ⟨b',off,none⟩=some (.string q.name):=by
  exact Mbv
 have qe:1<=c:=by rw[hq]at aA;exact aA
 clear hd aU aE hS aA;have am:=hW;obtain⟨Bk,dd,cc,pp,wl,rr,mv,tv,ps,ba,hC,hP,hT⟩:=hW;have cI:=zab hC;obtain⟨kd,dy,pl,fr,ts,cl,yr⟩:=d;simp only at*;subst hq hk;have jy:Hid (zb9 s ⟨5,dy,pl,fr,[q],cl,yr⟩=if zaN s fr||zaN s q.name then(s,28)else if s.renounce.any (λr=>zae r.1 fr&&zae r.2 q.name)then(s,5)else({s with renounce:=s.renounce++[(fr,q.name)]},0)):=by
  show _=_;unfold zb9;rw[dU]
 generalize zb9 s ⟨5,dy,pl,fr,[q],cl,yr⟩=X at*;obtain⟨HC,HP,HT,HW⟩:=yH4 hC hP hT am;unfold WldC at hC;obtain⟨c0,-,-,-,-,c5⟩:=cF6 hC;have dO:∀W:World,Qa w W->∀n,(Instr.lookup 66 (.map (some dd)) (.string n) false).run Tryz.prog W=.ok (.bool (zaN s n)) W:=λW hB n=>zd0 (HP.o.keep hB) _
 have dE:∀W:World,Qa w W->(Instr.lookup 70 (.map (some rr)) (.agg #[.string fr,.string q.name]) false).run Tryz.prog W=.ok (.bool (s.renounce.any λr=>zae r.1 fr&&zae r.2 q.name)) W:=λW hB=>zoo (HP.o.keep hB) _ _
 have uF:=ziP (eq:=eqP) (k:=(fr,q.name)) (l:=s.renounce);rw[zna]at uF;obtain⟨iB,fS,Jh⟩:=yH3 dO dE uF;clear dO dE uF hC hP hT am dU;unfold Deed.v;simp only;obtain⟨W1,aX⟩:=Qd (w.alloc (.cells #[.int .i64 5,.int .i64 dy,.string pl,.string fr,.slice (some ⟨b',off,none⟩) 1 c,.int .i64 cl,.int .i64 yr] 60))
 have cV:Qa w W1:=by rw[aX];exact Bw
 have k1:=iB.o W1 cV fr;have k2:=iB.o W1 cV q.name;have k3:=fS.o W1 cV;have yW:=(HP.o.keep cV).ren;have aL:=zHi cV;rw[aX]at k1 k2 k3;obtain⟨vT,ua⟩:=yH2 yW aX;clear yW cV aX;generalize zaN s fr=d1 at*;generalize zaN s q.name=d2 at*;generalize(s.renounce.any λr=>zae r.1 fr&&zae r.2 q.name)=rx at*;have ar:(0:Int)<(1:Int):=McU;go_enter Tryz.func82,Tryz.ntmps82
 cases d1
 ·cases d2
  ·cases rx
   ·obtain⟨es,ec,hx⟩:=zbz vT.o;have HX:=zHi hx;clear hx;go_wp2_with (at_mapUpdate;obtain⟨w6,hrun,jh,bF,ii⟩:=zcv mapPB vT.o (fr,q.name) true;rw[ua.o]at hrun;go_loud(refine zdl rfl _ _ _ rfl _ _ _ rfl rfl rfl w6 hrun ?_))
    go_ret
    have hX:=jy.o;simp only[Bool.or_self,Bool.false_eq_true,if_false]at hX;rw[hX];have fL:=HP.o.ge;have ta:MapS w6 rr ekP evB ((s.renounce++[(fr,q.name)]).map λx=>(x,true)):=by
     rw[zkD (Jh.o (by first|rfl|trivial))]at jh;simpa using jh
    have aM:=HW.o.lt;exact⟨rfl,znl ba (HC.o.keep aL.o) (HT.o.keep aL.o) bF HX.o rfl (ppl_ren (HP.o.keep aL.o) bF ta),zaV (aL.o.mono McS) bF fL.2.2.2.2 McS,(KeepD.below aL.o).trans (KeepD.map bF HX.o)⟩
   ·exact Mas
  ·exact Mas
 ·exact Mas
variable{w:World}{b:Nat}
def zno{p:ByteArray×ByteArray}{t:TypeId}{fr:Nat×Nat}(h:w.heap[b]?=some (.cells #[.string p.1,.string p.2] t fr)):Sl w 2 zaW (some ⟨b,0,none⟩) [p]:=λ_=>⟨b,0,rfl,zab h,λk y hy j u hu=>by
 have hk:k=0:=Mc2;subst hk;simp only[List.getElem?_cons_zero,Option.some.injEq]at hy;subst hy;match j,hu with
 |0,hu=>simp[zaW]at hu;simp[World.cell?,h,<-hu]
 |1,hu=>simp[zaW]at hu;simp[World.cell?,h,<-hu]
 |j+2,hu=>simp[zaW]at hu⟩
def marry_any(base b:Nat)(s:St)(la co:Int)(d:Deed)(B:Option Addr)(c:Nat)(w:World)(hW:WldAt base w b s la co)(hd:OkD d)(hk:d.kind=7)(aA:d.to.length<=c)(hS:Sl w 3 RPart.cells B d.to)(gn:s.marriages.length<=1000):
 Calls Tryz.prog 82 #[.pointer (some ⟨b,0,none⟩),d.v B c] w (zbG base b (zdt s d) la co w):=by
 obtain⟨aU,_⟩:=hd.one (.inr (.inr hk));obtain⟨q,hq⟩:∃q,d.to=[q]:=List.length_eq_one_iff.1 aU;have dU:zbh d=q.name:=by unfold zbh;rw[hq];rfl
 obtain⟨b',off,rfl,cA,aE⟩:=hS.at (show 0<d.to.length by rw[hq];exact Nat.zero_lt_one);have i0:w.cell? ⟨b',off,none⟩=some (.string q.name):=by
  exact Mbv
 have qe:1<=c:=by rw[hq]at aA;exact aA
 clear hd aU aE hS aA;have am:=hW;obtain⟨Bk,dd,cc,pp,wl,rr,mv,tv,ps,ba,hC,hP,hT⟩:=hW;have cI:=zab hC;obtain⟨kd,dy,pl,fr,ts,cl,yr⟩:=d;simp only at*;subst hq hk;have jy:Hid (zdt s ⟨7,dy,pl,fr,[q],cl,yr⟩=if zaN s fr||zaN s q.name then(s,28)else if !noB (zaK s fr)||!noB (zaK s q.name)then(s,13)else({s with marriages:=s.marriages++[(fr,q.name)]},0)):=by
  show _=_;unfold zdt;rw[dU]
 generalize zdt s ⟨7,dy,pl,fr,[q],cl,yr⟩=X at*;obtain⟨MA,mc,rfl,_,_⟩:=hP.marr.sl zbk;have yo:=hP.marr.ge;obtain⟨HC,HP,HT,HW⟩:=yH4 hC hP hT am;unfold WldC at hC;obtain⟨c0,-,-,c3⟩:=cF4 hC;have f3:w.frozen? ⟨b,3,none⟩=false:=by simp only[World.frozen?,hC];rfl
 have dO:∀W:World,Qa w W->∀n,(Instr.lookup 66 (.map (some dd)) (.string n) false).run Tryz.prog W=.ok (.bool (zaN s n)) W:=λW hB n=>zd0 (HP.o.keep hB) _
 have fY:=dO (w.alloc (.cells #[.int .i64 7,.int .i64 dy,.string pl,.string fr,.slice (some ⟨b',off,none⟩) 1 c,.int .i64 cl,.int .i64 yr] 60)) Bw fr;have ol:=dO (w.alloc (.cells #[.int .i64 7,.int .i64 dy,.string pl,.string fr,.slice (some ⟨b',off,none⟩) 1 c,.int .i64 cl,.int .i64 yr] 60)) Bw q.name;obtain⟨jw,Jf⟩:=yH2 (λW (hB:Qa w W) n=>zjT base b s n W (am.peo.keep hB) McS) yo;clear dO hC hP hT am dU yo;unfold Deed.v;simp only;generalize zaN s fr=d1 at*;generalize zaN s q.name=d2 at*;have ar:(0:Int)<(1:Int):=McU;go_enter Tryz.func82,Tryz.ntmps82
 cases d1
 ·cases d2
  ·cases cu:noB (zaK s fr)
   ·have e1:(zaK s fr).toList.isEmpty=false:=cu;rw[cu]at jy;exact Mbj
   ·cases eh:noB (zaK s q.name)
    ·have e1:(zaK s fr).toList.isEmpty=true:=cu;have e2:(zaK s q.name).toList.isEmpty=false:=eh;rw[cu,eh]at jy;exact Mbj
    ·have e1:(zaK s fr).toList.isEmpty=true:=cu;have e2:(zaK s q.name).toList.isEmpty=true:=eh;rw[cu,eh]at jy
     go_wp2_with (first
      |(go_at_call 118;refine(jw.o _ Bw _).mono ?_;rintro e wq ⟨rfl,z,rfl⟩)
      |(at_builtin
        go_loud(refine zar (v:=.slice MA s.marriages.length mc) (n:=s.marriages.length) (m:=1) rfl _ _ rfl zgr zbk zdD rfl (HP.o.marr.keep (n:=w.heap.size) Bw) rfl rfl rfl (zno (p:=(fr,q.name)) (zas _ _ _ Mdu)) Mc8 McS (by have:=HW.o.lt;simp[zaf];omega) ?_)
        intro v3 w3 h1 h2 h3;obtain⟨A6,c6,dK,_,_⟩:=h1.sl zbk;rw[List.length_append]at dK;subst dK;obtain⟨hA,An⟩:=wld_marry ba (HC.o.keep (n:=w.heap.size) Bw) (HP.o.keep (n:=w.heap.size) Bw) (HT.o.keep (n:=w.heap.size) Bw) h1 h2;have Ao:=An;unfold WldC at Ao;obtain⟨-,-,-,c33⟩:=cF4 Ao;have f33:w3.frozen? ⟨b,3,none⟩=false:=by simp only[World.frozen?,Ao];rfl
        have ax:=zab An;obtain⟨H2,HA⟩:=yH2 h2 hA;have ck:=((KeepD.below (w:=w) Bw).trans (KeepD.own (HP.o.marr.keep (n:=w.heap.size) Bw) h2 McU)).trans (KeepD.cells (za1 w3 b 3 (.slice A6 (s.marriages.length+[(fr,q.name)].length) c6)) An McU);have ky:=zHi ck
        clear h1 h2 h3 hA An Ao ck))
     go_ret
     have hX:=jy.o;simp only[Bool.or_self,Bool.not_true,Bool.false_eq_true,if_false]at hX;rw[hX];have aM:=HW.o.lt;exact⟨rfl,HA.o,zaS (Below.grown (a:=w) (B:=base) Bw H2.o Mc1 (λj hj=>(Jf.o j hj).1)) (by show base<=b;omega) _,ky.o⟩
  ·exact Mas
 ·exact Mas
variable{m:List (ByteArray×Value)}{g:Nat}
def zdg:g∈zaY m↔ ∃e∈m,za4 e.2=some g:=by
 unfold zaY;rw[List.mem_filterMap]
def zc1(e:ByteArray×Value)(m:List (ByteArray×Value)):zaY (e::m)=(za4 e.2).toList++zaY m:=by
 unfold zaY;rw[List.filterMap_cons];cases h:za4 e.2<;>simp
def zc2(m l:List (ByteArray×Value)):zaY (m++l)=zaY m++zaY l:=by
 unfold zaY;exact List.filterMap_append
def zkH{k:ByteArray}{v:Value}:∀ {m:List (ByteArray×Value)},(zaY m).Nodup->(∀g,za4 v=some g->(∃v0,mget eqS k m=some v0/\za4 v0=some g)\/g∉zaY m)->
 (zaY (mput eqS k v m)).Nodup/\∀g∈zaY (mput eqS k v m),g∈zaY m\/za4 v=some g
 | [],_,_=>by
   rw[mput,zc1];have e:zaY []=[]:=rfl;rw[e];cases h:za4 v<;>simp
 |x::m,hn,hv=>by
  rw[zc1,List.nodup_append]at hn;obtain⟨n1,n2,n3⟩:=hn;rw[mput];cases hk:eqS k x.1
  ·rw[if_neg McV];have jT:∀g,za4 v=some g->(∃v0,mget eqS k m=some v0/\za4 v0=some g)\/g∉zaY m:=λg hg=>by
    rcases hv g hg with⟨v0,h1,h2⟩|h
    ·rw[mget,hk]at h1;exact .inl ⟨v0,by simpa using h1,h2⟩
    ·exact .inr λh'=>h (by rw[zc1];exact List.mem_append_right _ h')
   obtain⟨i1,i2⟩:=zkH n2 jT;rw[zc1,List.nodup_append];refine⟨⟨n1,i1,λa ha b hb e=>?_⟩,λg hg=>?_⟩
   ·subst e;rcases i2 _ hb with h|h
    ·exact n3 a ha a h rfl
    ·rcases hv a h with⟨v0,h1,h2⟩|h'
     ·rw[mget,hk]at h1;have pY:mget eqS k m=some v0:=Mdp;exact n3 a ha a (zdg.2 ⟨_,zdd pY,h2⟩) rfl
     ·exact h' (by rw[zc1];exact List.mem_append_left _ ha)
   ·rw[List.mem_append]at hg;rcases hg with hg|hg
    ·exact .inl (by rw[zc1];exact List.mem_append_left _ hg)
    ·rcases i2 g hg with h|h
     ·exact .inl (by rw[zc1];exact List.mem_append_right _ h)
     ·exact .inr h
  ·rw[if_pos rfl,zc1,List.nodup_append];have hx:mget eqS k (x::m)=some x.2:=by rw[mget,hk];rfl
   refine⟨⟨by cases h:za4 v<;>simp,n2,λa ha b hb e=>?_⟩,λg hg=>?_⟩
   ·subst e;have lE:za4 v=some a:=by
     cases h:za4 v with
     |none=>simp[h]at ha
     |some y=>simp[h]at ha;rw[ha]
    rcases hv a lE with⟨v0,h1,h2⟩|h'
    ·rw[hx]at h1;simp only[Option.some.injEq]at h1;subst h1;exact n3 a (by rw[h2];simp) a hb rfl
    ·exact h' (by rw[zc1];exact List.mem_append_right _ hb)
   ·rw[List.mem_append]at hg;rcases hg with hg|hg
    ·cases h:za4 v with
     |none=>simp[h]at hg
     |some y=>simp[h]at hg;exact .inr (by rw[hg])
    ·exact .inl (by rw[zc1];exact List.mem_append_right _ hg)
def zhk{k n:ByteArray}{v v0:Value}{g:Nat}(ai:zae n k=false):∀ {m:List (ByteArray×Value)},(zaY m).Nodup->mget eqS n m=some v->mget eqS k m=some v0->za4 v=some g->za4 v0≠some g
 | [],_,h,_,_=>by cases h
 |x::m,hn,h1,h2,h3=>λh4=>by
  rw[zc1,List.nodup_append]at hn;obtain⟨n1,n2,n3⟩:=hn;rw[mget]at h1 h2;cases ha:eqS n x.1
  ·rw[ha]at h1;simp only[Bool.false_eq_true,if_false]at h1;cases hb:eqS k x.1
   ·rw[hb]at h2;simp only[Bool.false_eq_true,if_false]at h2;exact zhk ai n2 h1 h2 h3 h4
   ·rw[hb]at h2;simp only[if_true,Option.some.injEq]at h2;subst h2;exact n3 g (by rw[h4];simp) g (zdg.2 ⟨_,zdd h1,h3⟩) rfl
  ·rw[ha]at h1;simp only[if_true,Option.some.injEq]at h1;subst h1;cases hb:eqS k x.1
   ·rw[hb]at h2;simp only[Bool.false_eq_true,if_false]at h2;exact n3 g (by rw[h3];simp) g (zdg.2 ⟨_,zdd h2,h4⟩) rfl
   ·have e1:n=x.1:=za2.1 ha;have e2:k=x.1:=za2.1 hb;rw[e1,e2,zbV]at ai;cases ai
def kids_push(s:St)(f t n:ByteArray):zaj {s with children:=s.children++[(f,t)]} n=zaj s n++if zae f n then[t]else[]:=by
 unfold zaj;simp only[List.filter_append,List.map_append,List.filter_cons,List.filter_nil];cases zae f n<;>simp
def pars_push(s:St)(f t n:ByteArray):zbP {s with children:=s.children++[(f,t)]} n=zbP s n++if zae t n then[f]else[]:=by
 unfold zbP;simp only[List.filter_append,List.map_append,List.filter_cons,List.filter_nil];cases zae t n<;>simp
variable{W:World}{base:Nat}{xs:List ByteArray}
def row_own{n:ByteArray}(h:RowIs W base m n xs):∃A c,(mget eqS n m).getD (.slice none 0 0)=.slice A xs.length c/\OwnS W base 9 1 sC (.slice A xs.length c) xs/\(∀g,za4 (.slice A xs.length c)=some g->mget eqS n m=some (.slice A xs.length c)):=by
 rcases h with⟨h1,rfl⟩|⟨v,h1,h2⟩
 ·exact⟨none,0,by rw[h1];rfl,OwnS.nil,λg hg=>by cases hg⟩
 ·obtain⟨A,c,rfl,_,_⟩:=h2.sl zaB;exact⟨A,c,by rw[h1];rfl,h2,λ_ _=>h1⟩
def zhZ(a b:ByteArray):zae a b=zae b a:=by rw[Bool.eq_iff_iff,za2,za2];exact⟨Eq.symm,Eq.symm⟩
variable{v:Value}
def OwnS.same{α:Type}{W':World}{e:TypeId}{size:Nat}{f:α->List Value}{xs:List α}(h:OwnS W base e size f v xs)(hk:∀g cur,za4 v=some g->W.heap[g]?=some (.cells cur e (0,0))->W'.heap[g]?=W.heap[g]?):OwnS W' base e size f v xs:=by
 rcases h with h|⟨g,o,cap,cur,rfl,hb,hh,rest⟩
 ·exact .inl h
 ·exact .inr ⟨g,o,cap,cur,rfl,hb,(hk g cur rfl hh).trans hh,rest⟩
def zfn(h:OwnS W base 9 1 sC v xs)(hg:za4 v=some g):∃cur,W.heap[g]?=some (.cells cur 9 (0,0)):=by
 rcases h with⟨rfl,_⟩|⟨k,o,c,cur,rfl,_,hk,_⟩
 ·cases hg
 ·simp only[za4,Option.some.injEq]at hg;subst hg;exact⟨cur,hk⟩
def wld_child{w9:World}{B ps:List Nat}{d c p wl r:Nat}{mv tv va vb v1 v2:Value}{s:St}{la co:Int}{mc mp:List (ByteArray×Value)}{fr tn:ByteArray}(hb:base<=b)(hC:WldC W b d c p wl r mv tv la co)(hP:PplAt base W B d c p wl r mv s)(hT:TombsAt base W B tv ps s.graves)
 (k1:MapS W c ekS (λv:Value=>v) mc)(k2:MapS W p ekS (λv:Value=>v) mp)(k3:∀n,RowIs W base mc n (zaj s n))(k4:∀n,RowIs W base mp n (zbP s n))(k5:B=zaY (mc++mp))(k6:B.Nodup/\(mc.map (·.1)).Nodup/\(mp.map (·.1)).Nodup)
 (ha:OwnS W base 9 1 sC va (zaj s fr))(lE:∀g,za4 va=some g->mget eqS fr mc=some va)(hv:OwnS W base 9 1 sC vb (zbP s tn))(jT:∀g,za4 vb=some g->mget eqS tn mp=some vb)
 (o1:OwnS w9 base 9 1 sC v1 (zaj s fr++[tn]))(o2:OwnS w9 base 9 1 sC v2 (zbP s tn++[fr]))(b1:∀g,za4 v1=some g->za4 va=some g\/W.heap.size<=g)(b2:∀g,za4 v2=some g->za4 vb=some g\/W.heap.size<=g)(b12:∀g,za4 v1=some g->za4 v2≠some g)
 (m1:MapS w9 c ekS (λv:Value=>v) (mput eqS fr v1 mc))(m2:MapS w9 p ekS (λv:Value=>v) (mput eqS tn v2 mp))(hF:∀k,k<W.heap.size->k≠c->k≠p->za4 va≠some k->za4 vb≠some k->w9.heap[k]?=W.heap[k]?):WldAt base w9 b {s with children:=s.children++[(fr,tn)]} la co:=by
 have cY:=hP.nd;simp only[List.nodup_cons,List.mem_cons,List.not_mem_nil,or_false,not_or]at cY;obtain⟨⟨n1,n2,n3,n4⟩,⟨n5,n6,n7⟩,⟨n8,n9⟩,n10,_⟩:=cY;obtain⟨ec,cc,hc⟩:=zbz k1;obtain⟨ep,cp,hp⟩:=zbz k2;have bo:∀ {k:Nat} {cur:Array Value} {t:TypeId} {f:Nat×Nat},W.heap[k]?=some (.cells cur t f)->t≠9->w9.heap[k]?=W.heap[k]?:=λ{k cur t f} hk ht=>by
  refine hF k (Array.getElem?_eq_some_iff.1 hk).1 (λe=>?_) (λe=>?_) (λe=>?_) (λe=>?_)
  ·subst e;rw[hc]at hk;simp at hk
  ·subst e;rw[hp]at hk;simp at hk
  ·obtain⟨cur',h'⟩:=zfn ha e;exact Mb0
  ·obtain⟨cur',h'⟩:=zfn hv e;exact Mb0
 have td:∀ {k:Nat} {es:Array MapEntry} {x:Nat},W.heap[k]?=some (.map es x)->k≠c->k≠p->w9.heap[k]?=W.heap[k]?:=λ{k es x} hk h1 h2=>by
  refine hF k (Array.getElem?_eq_some_iff.1 hk).1 h1 h2 (λe=>?_) (λe=>?_)
  ·obtain⟨cur',h'⟩:=zfn ha e;rw[h']at hk;simp at hk
  ·obtain⟨cur',h'⟩:=zfn hv e;rw[h']at hk;simp at hk
 have ov:∀g,za4 va=some g->g∈zaY mc:=λg hg=>zdg.2 ⟨_,zdd (lE g hg),hg⟩
 have dg:∀g,za4 vb=some g->g∈zaY mp:=λg hg=>zdg.2 ⟨_,zdd (jT g hg),hg⟩
 obtain⟨k6,kn1,kn2⟩:=k6;rw[k5,zc2,List.nodup_append]at k6;obtain⟨q1,q2,q3⟩:=k6;have nC:∀ {m:List (ByteArray×Value)} {n:ByteArray} {v:Value} {xs:List ByteArray},mget eqS n m=some v->OwnS W base 9 1 sC v xs->(∀g,za4 v=some g->za4 va≠some g/\za4 vb≠some g)->OwnS w9 base 9 1 sC v xs:=λ{m n v xs} hm ho ai=>
  ho.same λg cur hg hh=>hF g (Array.getElem?_eq_some_iff.1 hh).1 (λe=>by subst e;rw[hc]at hh;simp at hh) (λe=>by subst e;rw[hp]at hh;simp at hh) (ai g hg).1 (ai g hg).2
 have p9:∀g,W.heap.size<=g->g∉zaY mc/\g∉zaY mp:=λg hg=>by
  have key:∀ {m:List (ByteArray×Value)} {f:ByteArray->List ByteArray},(m.map (·.1)).Nodup->(∀n,RowIs W base m n (f n))->g∉zaY m:=λ{m f} hk hr h=>by
   obtain⟨e,he,fL⟩:=zdg.1 h;have h1:=zhT hk (show(e.1,e.2)∈m from he);rcases hr e.1 with⟨h2,_⟩|⟨v,h2,h3⟩
   ·rw[h2]at h1;cases h1
   ·rw[h2]at h1;simp only[Option.some.injEq]at h1;rw[h1]at h3;have:=(h3.ge g fL).2;omega
  exact⟨key kn1 k3,key kn2 k4⟩
 have R1:=zkH (k:=fr) (v:=v1) q1 (λg hg=>by
  rcases b1 g hg with h|h
  ·exact .inl ⟨va,lE g h,h⟩
  ·exact .inr (p9 g h).1)
 have R2:=zkH (k:=tn) (v:=v2) q2 (λg hg=>by
  rcases b2 g hg with h|h
  ·exact .inl ⟨vb,jT g h,h⟩
  ·exact .inr (p9 g h).2)
 have fJ:∀g∈zaY (mput eqS fr v1 mc++mput eqS tn v2 mp),g∈B\/W.heap.size<=g:=λg hg=>by
  rw[zc2,List.mem_append]at hg;rw[k5,zc2];rcases hg with hg|hg
  ·rcases R1.2 g hg with h|h
   ·exact .inl (List.mem_append_left _ h)
   ·rcases b1 g h with h|h
    ·exact .inl (List.mem_append_left _ (ov g h))
    ·exact .inr h
  ·rcases R2.2 g hg with h|h
   ·exact .inl (List.mem_append_right _ h)
   ·rcases b2 g h with h|h
    ·exact .inl (List.mem_append_right _ (dg g h))
    ·exact .inr h
 obtain⟨m,k7,k8⟩:=hP.wills;refine⟨_,d,c,p,wl,r,mv,tv,ps,hb,?_,⟨hP.nd,hP.ge,?_,⟨_,_,m1,m2,λn=>?_,λn=>?_,rfl,?_⟩,?_,⟨m,?_,λn=>?_⟩,?_⟩,⟨?_,hT.len,hT.nd,λi T g e1 e2=>?_⟩⟩
 ·exact(bo hC McU).trans hC
 ·obtain⟨es,x,hx⟩:=zbz hP.dead;exact hP.dead.keep (td hx n1 n2)
 ·rw[kids_push];unfold RowIs;rw[zfl];cases hn:zae n fr
  ·rw[zhZ fr n,hn];simp only[Bool.false_eq_true,if_false,List.append_nil];rcases k3 n with h|⟨v,h1,h2⟩
   ·exact .inl h
   ·refine .inr ⟨v,h1,nC h1 h2 λg hg=>⟨λe=>?_,λe=>?_⟩⟩
    ·exact zhk hn q1 h1 (lE g e) hg e
    ·exact q3 g (zdg.2 ⟨_,zdd h1,hg⟩) g (dg g e) rfl
  ·rw[zhZ fr n,hn];have e:n=fr:=za2.1 hn;subst e;exact .inr ⟨v1,rfl,o1⟩
 ·rw[pars_push];unfold RowIs;rw[zfl];cases hn:zae n tn
  ·rw[zhZ tn n,hn];simp only[Bool.false_eq_true,if_false,List.append_nil];rcases k4 n with h|⟨v,h1,h2⟩
   ·exact .inl h
   ·refine .inr ⟨v,h1,nC h1 h2 λg hg=>⟨λe=>?_,λe=>?_⟩⟩
    ·exact q3 g (ov g e) g (zdg.2 ⟨_,zdd h1,hg⟩) rfl
    ·exact zhk hn q2 h1 (jT g e) hg e
  ·rw[zhZ tn n,hn];have e:n=tn:=za2.1 hn;subst e;exact .inr ⟨v2,rfl,o2⟩
 ·refine⟨?_,(zgx _ _ _ kn1).1,(zgx _ _ _ kn2).1⟩;rw[zc2,List.nodup_append];refine⟨R1.1,R2.1,λg hg g' cr e=>?_⟩;subst e;rcases R1.2 g hg with h|h
  ·rcases R2.2 g cr with h'|h'
   ·exact q3 g h g h' rfl
   ·rcases b2 g h' with h'|h'
    ·exact q3 g h g (dg g h') rfl
    ·exact(p9 g h').1 h
  ·rcases R2.2 g cr with h'|h'
   ·rcases b1 g h with h|h
    ·exact q3 g (ov g h) g h' rfl
    ·exact(p9 g h).2 h'
   ·exact b12 g h h'
 ·exact hP.marr.same λg cur _ hh=>bo hh McU
 ·obtain⟨es,x,hx⟩:=zbz k7;exact k7.keep (td hx (λe=>n6 e.symm) (λe=>n8 e.symm))
 ·rcases k8 n with h|⟨A,x,h1,h2⟩
  ·exact .inl h
  ·exact .inr ⟨A,x,h1,h2.same λg cur f hh _=>bo hh McU⟩
 ·obtain⟨es,x,hx⟩:=zbz hP.ren;exact hP.ren.keep (td hx (λe=>n7 e.symm) (λe=>n9 e.symm))
 ·exact hT.own.same λg cur _ hh=>bo hh McU
 ·obtain⟨H,hh,D,dc,f',t1,t2,t3,t4,t5,t6,t7⟩:=hT.all i T g e1 e2;refine⟨H,hh,D,dc,f',(bo t1 McU).trans t1,t2,t3,t4,t5.same λg' cur f hx _=>bo hx McU,?_,λhl a oW aQ=>?_⟩
  ·intro hl;obtain⟨g',off,cur,f,hA,hx,hy⟩:=t6 hl;have I4:=t7 hl ⟨g',off,none⟩ hA;refine⟨g',off,cur,f,hA,?_,hy⟩;rw[<-hx];refine hF g' (Array.getElem?_eq_some_iff.1 hx).1 (λe=>by subst e;rw[hc]at hx;simp at hx) (λe=>by subst e;rw[hp]at hx;simp at hx) (λe=>I4 ?_) (λe=>I4 ?_)
   ·rw[k5,zc2];exact List.mem_append_left _ (ov g' e)
   ·rw[k5,zc2];exact List.mem_append_right _ (dg g' e)
  ·obtain⟨g',off,cur,f,hA,hx,hy⟩:=t6 hl;rw[hA]at oW;simp only[Option.some.injEq]at oW;rcases fJ _ aQ with h|h
   ·exact t7 hl a (by rw[hA,oW]) h
   ·have:=(Array.getElem?_eq_some_iff.1 hx).1;rw[<-oW]at h;simp at h;omega
structure Fr2 (w W:World) (va vb:Value):Prop where
 os:W.os=w.os
 tape:W.tape=w.tape
 output:W.output=w.output
 size:w.heap.size<=W.heap.size
 block:∀k,k<w.heap.size->za4 va≠some k->za4 vb≠some k->W.heap[k]?=w.heap[k]?
section
variable {w W W':World} {va vb:Value} {n:Nat}
def Fr2.of_below(h:Qa w W):Fr2 w W va vb:=⟨h.os,h.tape,h.output,h.size,λk hk _ _=>h.block k hk⟩
def Fr2.below(h:Fr2 w W va vb)(k:Qa W W'):Fr2 w W' va vb:=⟨k.os.trans h.os,k.tape.trans h.tape,k.output.trans h.output,Nat.le_trans h.size k.size,λi hi h1 h2=>(k.block i (Nat.lt_of_lt_of_le hi h.size)).trans (h.block i hi h1 h2)⟩
def Fr2.row(h:Fr2 w W va vb){row:Option Nat}(k:W.grownBy W' row)(hr:∀j,row=some j->za4 va=some j\/za4 vb=some j\/w.heap.size<=j):Fr2 w W' va vb:=
 ⟨k.os.trans h.os,k.tape.trans h.tape,k.output.trans h.output,Nat.le_trans h.size k.size,λi hi h1 h2=>(k.block i (Nat.lt_of_lt_of_le hi h.size) (λe=>by
   rcases hr i e.symm with h|h|h
   ·exact h1 h
   ·exact h2 h
   ·omega)).trans (h.block i hi h1 h2)⟩
def Fr2.cells{base:Nat}{xs ys:List ByteArray}(h:Fr2 w W va vb)(ha:OwnS w base 9 1 sC va xs)(hb:OwnS w base 9 1 sC vb ys){k:Nat}{o:Obj}(hk:w.heap[k]?=some o)(ho:∀cur,o≠ .cells cur 9 (0,0)):W.heap[k]?=some o:=by
 refine(h.block k (Array.getElem?_eq_some_iff.1 hk).1 (λe=>?_) (λe=>?_)).trans hk
 ·obtain⟨cur,h'⟩:=zfn ha e;rw[h']at hk;exact ho cur (Option.some.inj hk).symm
 ·obtain⟨cur,h'⟩:=zfn hb e;rw[h']at hk;exact ho cur (Option.some.inj hk).symm
def Fr2.mapS{base:Nat}{xs ys:List ByteArray}(h:Fr2 w W va vb)(ha:OwnS w base 9 1 sC va xs)(hb:OwnS w base 9 1 sC vb ys){b:Nat}{m:List (ByteArray×Value)}(hm:MapS w b ekS (λv:Value=>v) m):MapS W b ekS (λv:Value=>v) m:=by
 obtain⟨es,c,hx⟩:=zbz hm;exact hm.keep ((h.cells ha hb hx (λcur e=>by cases e)).trans hx.symm)
end
variable{P:Program}{ops:Array Oper}{o:Oper}{a:Act}{K:Act->World->Prop}{Q:Exit->Act->World->Prop}{E:Prop}{T:TypeId}
def zhl(bB:o.guard=none)(x i:Operand)(ho:o.op=.mapEntry T x i)(vx vi v:Value)(hx:a.eval x=vx)(hi:a.eval i=vi)(w':World)
 (hrun:(Instr.mapEntry T vx vi).run P w=.ok v w')(h:K (a.put o.dst v) w'):if Region.wanted o (yielded ops a.tmps)=true then Oper.wp P o a w K Q else E:=by
 have hw:Region.wanted o (yielded ops a.tmps)=true:=by simp[Region.wanted,bB]
 rw[if_pos hw];unfold Oper.wp;simp[execOp,ho,hx,hi,hrun,Result.andThen];exact h
def zfX(bB:o.guard=none)(x i u:Operand)(ho:o.op=.entryStore T x i u)(vx vi vu:Value)(hx:a.eval x=vx)(hi:a.eval i=vi)(hu:a.eval u=vu)(w':World)
 (hrun:(Instr.entryStore T vx vi vu).run P w=.ok () w')(h:K (a.put o.dst undef) w'):if Region.wanted o (yielded ops a.tmps)=true then Oper.wp P o a w K Q else E:=by
 exact Mai
def child_any(base b:Nat)(s:St)(la co:Int)(d:Deed)(B:Option Addr)(c:Nat)(w:World)(hW:WldAt base w b s la co)(hd:OkD d)(hk:d.kind=6)(aA:d.to.length<=c)(hS:Sl w 3 RPart.cells B d.to)(bp:s.children.length<=1000):
 Calls Tryz.prog 82 #[.pointer (some ⟨b,0,none⟩),d.v B c] w (zbG base b (zcG s d) la co w):=by
 obtain⟨aU,_⟩:=hd.one (.inr (.inl hk));obtain⟨q,hq⟩:∃q,d.to=[q]:=List.length_eq_one_iff.1 aU;have dU:zbh d=q.name:=by unfold zbh;rw[hq];rfl
 obtain⟨b',off,rfl,cA,aE⟩:=hS.at (show 0<d.to.length by rw[hq];exact Nat.zero_lt_one);have i0:w.cell? ⟨b',off,none⟩=some (.string q.name):=by
  exact Mbv
 have qe:1<=c:=by rw[hq]at aA;exact aA
 clear hd aU aE hS aA;have am:=hW;obtain⟨Bk,dd,cc,pp,wl,rr,mv,tv,ps,ba,hC,hP,hT⟩:=hW;have cI:=zab hC;obtain⟨kd,dy,pl,fr,ts,cl,yr⟩:=d;simp only at*;subst hq hk;classical
 have jy:Hid (zcG s ⟨6,dy,pl,fr,[q],cl,yr⟩=if(zaj s fr).any (zae q.name)then(s,5)else if decide (2<=(zbP s q.name).length)then(s,16)else if decide (Desc s q.name fr)then(s,25)else({s with children:=s.children++[(fr,q.name)]},0)):=by
  show _=_;unfold zcG;rw[dU]
 generalize zcG s ⟨6,dy,pl,fr,[q],cl,yr⟩=X at*;obtain⟨HC,HP,HT,HW⟩:=yH4 hC hP hT am;have cf:(zaj s fr).length<=1000:=by
  have:(zaj s fr).length<=s.children.length:=by unfold zaj;rw[List.length_map];exact List.length_filter_le _ _
  omega
 have kn:(zbP s q.name).length<=1000:=by
  have:(zbP s q.name).length<=s.children.length:=by unfold zbP;rw[List.length_map];exact List.length_filter_le _ _
  omega
 unfold WldC at hC;obtain⟨-,c1,c2⟩:=cF3 hC;obtain⟨mc,mp,r1,r2,r3,r4,r5,r6⟩:=HP.o.rows;obtain⟨KA,kc,bX,rY,CI⟩:=row_own (r3 fr);obtain⟨QA,qc,cj,Gv,ui⟩:=row_own (r4 q.name);have dO:∀W,Qa w W->(Instr.lookup 67 (.map (some cc)) (.string fr) false).run Tryz.prog W=.ok (.slice KA (zaj s fr).length kc) W:=λW hB=>by
  have:=zb4 zmZ (r1.below hB).at fr;rw[<-bX];exact this
 have dE:∀W,Qa w W->(Instr.lookup 67 (.map (some pp)) (.string q.name) false).run Tryz.prog W=.ok (.slice QA (zbP s q.name).length qc) W:=λW hB=>by
  have:=zb4 zmZ (r2.below hB).at q.name;rw[<-cj];exact this
 have iH:Sl w 1 sC KA (zaj s fr):=by
  obtain⟨A,c',e,h,_⟩:=rY.sl zaB;simp only[Value.slice.injEq]at e;rw[e.1];exact h
 have HK:=zHi iH
 have dr:=zHi (λ(W:World) (hM:MapS W cc ekS (λv:Value=>v) mc)=>show(Instr.lookup 67 (.map (some cc)) (.string fr) false).run Tryz.prog W=.ok (.slice KA (zaj s fr).length kc) W from by
  have:=zb4 zmZ hM.at fr;rw[<-bX]
  exact this)
 have J9:=zHi (λ(W:World) (hM:MapS W pp ekS (λv:Value=>v) mp)=>show(Instr.lookup 67 (.map (some pp)) (.string q.name) false).run Tryz.prog W=.ok (.slice QA (zbP s q.name).length qc) W from by
  have:=zb4 zmZ hM.at q.name;rw[<-cj]
  exact this)
 have bL:∀g,za4 (.slice KA (zaj s fr).length kc)=some g->za4 (.slice QA (zbP s q.name).length qc)≠some g:=λg h1 h2=>by
  have h3:=r6.1;rw[r5,zc2,List.nodup_append]at h3;exact h3.2.2 g (zdg.2 ⟨_,zdd (CI g h1),h1⟩) g (zdg.2 ⟨_,zdd (ui g h2),h2⟩) rfl
 have fP:=zHi bL;clear bL;obtain⟨gy,cT,zU,ik,ke,bK,mE,Jw⟩:=yH8 rY Gv CI ui r1 r2 r3 r4;obtain⟨tY,tZ,Fl,fS,mn⟩:=yH5 r5 r6 dO dE (λW (hB:Qa w W)=>zh2 base b s fr q.name W (am.peo.keep hB) McS);obtain⟨W1,aX⟩:=Qd (w.alloc (.cells #[.int .i64 6,.int .i64 dy,.string pl,.string fr,.slice (some ⟨b',off,none⟩) 1 c,.int .i64 cl,.int .i64 yr] 60))
 have cV:Qa w W1:=by rw[aX];exact Bw
 have k1:=Fl.o W1 cV;have k2:=fS.o W1 cV;have jW:=zHi (zl3 (zaj s fr) q.name KA (zaj s fr).length kc W1 rfl McS (HK.o.keep cV));rw[aX]at k1 k2 jW;have ua:=zHi aX;clear hC hP hT am dU dO dE iH cV aX rY Gv CI ui bX cj r1 r2 r3 r4 r5 r6;unfold Deed.v;simp only;have ar:(0:Int)<(1:Int):=McU;generalize je:zaj s fr=ks at*;generalize eG:zbP s q.name=pz at*;generalize decide (Desc s q.name fr)=dz at*;generalize ks.any (zae q.name)=az at*;obtain⟨iA,lq⟩:=yH2 je eG;clear je eG;go_enter Tryz.func82,Tryz.ntmps82
 cases az
 ·by_cases h2:2<=pz.length
  ·have JU:(2:Int)<=(pz.length:Int):=McS;have H2:=zHi h2;clear h2;go_wp2_with (go_at_call 35;refine jW.o.mono ?_;rintro e wq ⟨rfl,rfl⟩)
   go_ret
   exact zbN HW.o Bw (by rw[jy.o];simp[H2.o])
  ·have JU:¬(2:Int)<=(pz.length:Int):=McS;have H2:=zHi h2;clear h2;cases dz
   ·go_upto_region 17 with(first
     |(go_at_call 35;refine jW.o.mono ?_;rintro e wq ⟨rfl,rfl⟩)
     |(go_at_call 34;refine(mn.o _ Bw).mono ?_;rintro e wq ⟨rfl,z,rfl⟩))
    have LD:=Fl.o (W1.ext z) (by rw[ua.o];exact Bw);have LE:=fS.o (W1.ext z) (by rw[ua.o];exact Bw);have fj:Qa w (W1.ext z):=by rw[ua.o];exact Bw
    have cz1:=(zai (o:=1) fj cI).trans c1;have cz2:=(zai (o:=2) fj cI).trans c2;rw[<-ua.o];generalize W1.ext z=WZ at*;have dN:=zHi fj;have eP:=fj.size;have pR:=zHi (Fr2.of_below (va:=.slice KA ks.length kc) (vb:=.slice QA pz.length qc) fj)
    have aJ:=zHi (λ(W:World) (h:Fr2 w W (.slice KA ks.length kc) (.slice QA pz.length qc))=>show(false=true\/(W.cell? ⟨b,1,none⟩=some (.map (some cc))/\W.cell? ⟨b,2,none⟩=some (.map (some pp))/\(Instr.lookup 67 (.map (some cc)) (.string fr) false).run Tryz.prog W=.ok (.slice KA ks.length kc) W/\(Instr.lookup 67 (.map (some pp)) (.string q.name) false).run Tryz.prog W=.ok (.slice QA pz.length qc) W)) from by
     have cS:=HC.o;unfold WldC at cS;have oR:=h.cells gy.o cT.o cS (λcur e=>by simp at e)
     exact .inr ⟨by simp only[World.cell?,oR];rfl,by simp only[World.cell?,oR];rfl,dr.o W (h.mapS gy.o cT.o ke.o),J9.o W (h.mapS gy.o cT.o bK.o)⟩)
    clear fj;refine za9 28 (λbb w'=>bb=true\/(w'.cell? ⟨b,1,none⟩=some (.map (some cc))/\w'.cell? ⟨b,2,none⟩=some (.map (some pp))/\(Instr.lookup 67 (.map (some cc)) (.string fr) false).run Tryz.prog w'=.ok (.slice KA ks.length kc) w'/\(Instr.lookup 67 (.map (some pp)) (.string q.name) false).run Tryz.prog w'=.ok (.slice QA pz.length qc) w')) McT ?hS ?hrest
    case hS=>exact aJ.o _ (pR.o.below Bw)
    case hrest=>
     intro hHeld;refine TkM 0 ?_;refine TkM 1 ?_;refine TkM 2 ?_;refine TkM 3 ?_;refine TkM 4 ?_;refine TkM 5 ?_;refine TkM 6 ?_;refine TkM 7 ?_;refine TkM 8 ?_;refine FrM 9 false ?_;refine TkM 10 ?_;refine TkM 11 ?_;refine TkM 12 ?_;refine TkM 13 ?_;refine TkM 14 ?_;refine TkM 15 ?_;refine TkM 16 ?_;refine TkM 19 ?_;refine TkM 20 ?_;refine TkM 21 ?_;refine TkM 22 ?_;refine TkM 23 ?_;refine TkM 24 ?_;refine TkM 25 ?_;refine TwM 17 26 (λK hK=>?_) λK hK=>?_
     ·go_simp
      refine NxM hK (λhHeld=>?_) (aJ.o _ (pR.o.below Bw));clear hK K;refine TwM 18 26 (λK hK=>?_) λK hK=>?_
      ·refine zap (v:=.slice KA ks.length kc) (n:=ks.length) (m:=1) rfl _ _ rfl zbL zaB zbK rfl (xs:=ks) (ys:=[q.name]) (gy.o.keep (dN.o.trans ((Bw:Qa WZ _).mono eP))) rfl rfl rfl (zcU Mdy) Mc8 McS (by have:=HW.o.lt;simp;omega) ?_;intro v3 w3 h1 h2 h3;obtain⟨A6,c6,dK,_,_⟩:=h1.sl zaB;rw[List.length_append]at dK;subst dK;have FR3:Fr2 w w3 (.slice KA ks.length kc) (.slice QA pz.length qc):=(pR.o.below Bw).row h2 (λj hj=> .inl hj)
       have ob3:OwnS w3 base 9 1 sC (.slice QA pz.length qc) pz:=(cT.o.keep (dN.o.trans ((Bw:Qa WZ _).mono eP))).grown h2 (by
        cases hb:za4 (.slice QA pz.length qc)with
        |none=>exact .inl rfl
        |some g=>exact .inr λe=>fP.o g e.symm hb)
       have s3:=h2.size;simp only[World.size_alloc,World.size_drew]at s3 h3;refine NxM hK (λhHeld=>?_) (aJ.o _ FR3);clear hK K;refine OnM 26 false λK hK=>?_
       go_simp
       refine NxM hK (λhHeld=>?_) (aJ.o _ (FR3.below Bw));clear hK K;refine OnM 27 false λK hK=>?_
       refine zap (v:=.slice QA pz.length qc) (n:=pz.length) (m:=1) rfl _ _ rfl zbL zaB zbK rfl (xs:=pz) (ys:=[fr]) (ob3.keep (n:=w3.heap.size) Bw) rfl rfl rfl (zcU (Mdy)) Mc8 McS (by have:=HW.o.lt;(try simp);omega) ?_;exact Ma
      ·go_simp
       refine NxM hK (λhHeld=>?_) (aJ.o _ (pR.o.below Bw));clear hK K;refine OnM 18 false λK hK=>?_
       refine zap (v:=.slice KA ks.length kc) (n:=ks.length) (m:=1) rfl _ _ rfl zbL zaB zbK rfl (xs:=ks) (ys:=[q.name]) (gy.o.keep (dN.o.trans ((Bw:Qa WZ _).mono eP))) rfl rfl rfl (zcU Mdy) Mc8 McS (by have:=HW.o.lt;simp;omega) ?_;intro v3 w3 h1 h2 h3;obtain⟨A6,c6,dK,_,_⟩:=h1.sl zaB;rw[List.length_append]at dK;subst dK;have FR3:Fr2 w w3 (.slice KA ks.length kc) (.slice QA pz.length qc):=(pR.o.below Bw).row h2 (λj hj=> .inl hj)
       have ob3:OwnS w3 base 9 1 sC (.slice QA pz.length qc) pz:=(cT.o.keep (dN.o.trans ((Bw:Qa WZ _).mono eP))).grown h2 (by
        cases hb:za4 (.slice QA pz.length qc)with
        |none=>exact .inl rfl
        |some g=>exact .inr λe=>fP.o g e.symm hb)
       have s3:=h2.size;simp only[World.size_alloc,World.size_drew]at s3 h3;have x2:w3.heap[WZ.heap.size+1]?=some (.cells #[.string fr] 9):=(h2.block _ McV (λe=>by have:=(gy.o.ge _ e.symm).2;omega)).trans (zas _ _ _ McV);exact Mcn
     ·go_simp
      refine NxM hK (λhHeld=>?_) (aJ.o _ (pR.o.below Bw));clear hK K;refine OnM 17 false λK hK=>?_
      go_simp
      refine NxM hK (λhHeld=>?_) (aJ.o _ (pR.o.below Bw));clear hK K;refine OnM 18 false λK hK=>?_
      refine zap (v:=.slice KA ks.length kc) (n:=ks.length) (m:=1) rfl _ _ rfl zbL zaB zbK rfl (xs:=ks) (ys:=[q.name]) (gy.o.keep (dN.o.trans ((Bw:Qa WZ _).mono eP))) rfl rfl rfl (zcU Mdy) Mc8 McS (by have:=HW.o.lt;simp;omega) ?_;intro v3 w3 h1 h2 h3;obtain⟨A6,c6,dK,_,_⟩:=h1.sl zaB;rw[List.length_append]at dK;subst dK;have FR3:Fr2 w w3 (.slice KA ks.length kc) (.slice QA pz.length qc):=(pR.o.below Bw).row h2 (λj hj=> .inl hj)
      have ob3:OwnS w3 base 9 1 sC (.slice QA pz.length qc) pz:=(cT.o.keep (dN.o.trans ((Bw:Qa WZ _).mono eP))).grown h2 (by
       cases hb:za4 (.slice QA pz.length qc)with
       |none=>exact .inl rfl
       |some g=>exact .inr λe=>fP.o g e.symm hb)
      have s3:=h2.size;simp only[World.size_alloc,World.size_drew]at s3 h3;have x2:w3.heap[WZ.heap.size]?=some (.cells #[.string fr] 9):=(h2.block _ McX (λe=>by have:=(gy.o.ge _ e.symm).2;omega)).trans (zal (zas _ _ _ rfl));exact Mcn
   ·go_wp2_with (first
     |(go_at_call 35;refine jW.o.mono ?_;rintro e wq ⟨rfl,rfl⟩)
     |(go_at_call 34;refine(mn.o _ Bw).mono ?_;rintro e wq ⟨rfl,z,rfl⟩))
    go_ret
    exact zbN HW.o Bw (by rw[jy.o];simp[H2.o])
 ·go_wp2_with (go_at_call 35;refine jW.o.mono ?_;rintro e wq ⟨rfl,rfl⟩)
  go_ret
  exact zbN HW.o Bw (by rw[jy.o];simp)
