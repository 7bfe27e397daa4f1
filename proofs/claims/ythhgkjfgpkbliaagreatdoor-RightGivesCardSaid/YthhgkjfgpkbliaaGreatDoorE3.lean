import Derived.Test.YthhgkjfgpkbliaaGreatDoorO8
set_option linter.all false
set_option maxRecDepth 100000
set_option maxHeartbeats 4000000
namespace Go.Proofs.YthhgkjfgpkbliaaGreatDoor
open Go.RowKit
attribute [local go_sem] World.cell?_alloc_mark zae zav zai zaw zam zan zao zap zaq zar zas
attribute [local go_sem] zah zac
section
open Go.Shelf
theorem will_any(base b:Nat)(s:St)(la co:Int)(d:Deed)(B:Option Addr)(c:Nat)(w:World)(hW:WldAt base w b s la co)(hd:OkD d)(hk:d.kind=4)(hS:Sl w 3 RPart.cells B d.to):
 Calls Tryz.prog 101 #[.pointer (some ⟨b,0,none⟩),d.v B c] w (zbr base b (zgF s d) la co w):=by
 obtain⟨cd,_,_,_⟩:=zfe (hd.parts (.inr (.inr hk))).2;have aZ:=hd.len;have y8:=rat_cells (fun p hp=>(cd p hp).2.2) hS;clear hd cd;have aF:=hW;obtain⟨Bk,dd,cc,pp,wl,rr,mv,tv,ps,ax,hC,hP,hT⟩:=hW;have bu:=zad hC;obtain⟨kd,dy,pl,fr,ts,cl,yr⟩:=d;simp only at*;subst hk;have fk:Hid (zgF s ⟨4,dy,pl,fr,ts,cl,yr⟩=if zaK s fr then(s,28)else({s with wills:=s.wills++[(fr,zat ts)]},0)):=rfl;generalize zgF s ⟨4,dy,pl,fr,ts,cl,yr⟩=X at*;have af:(zat ts).length=ts.length:=by unfold zat;rw[List.length_map]
 obtain⟨AA,HC,HP,HT,HW⟩:=yH5 y8 hC hP hT aF;unfold WldC at hC;obtain⟨c0,-,-,-,c4⟩:=cF5 hC;have bS:∀W:World,Below w.heap.size w W->(Instr.lookup 103 (.map (some dd)) (.string fr) false).run Tryz.prog W=.ok (.bool (zaK s fr)) W:=fun W hB=>zcK (HP.o.keep hB) _
 have dZ:=zHi bS;generalize zaK s fr=dx at*;have eb:=zHi af;clear bS hC hP hT aF y8 hS af;unfold Deed.v;simp only;have cn:=dZ.o (w.alloc (.cells #[.int .i64 4,.int .i64 dy,.string pl,.string fr,.slice B ts.length c,.int .i64 cl,.int .i64 yr] 28)) Bw;go_enter Tryz.func101,Tryz.ntmps101
 cases dx
 ·go_upto_region 5 with fail
  refine wp_region_held_drew (S:=(fun w'=>w'.cell? ⟨b,4,none⟩=some (.map (some wl))/\w'.cell? ⟨w.heap.size,4,none⟩=some (.slice B ts.length c))) MbE ?hS ?hrest
  case hS=>((try dsimp only);refine⟨?_,?_⟩<;>(simp[go_sem,c4,bu];done))
  case hrest=>
   intro hHeld;refine TkH 0 ?_;refine TkH 1 ?_;refine TkH 2 ?_;refine TkH 3 ?_;refine TkH 4 ?_;refine TkH 5 ?_;refine TkH 6 ?_;refine OnH 7 fun K hK=>?_
   go_simp
   refine(zdM (zat ts) B ts.length c _ eb.o.symm (by rw[eb.o];omega) (AA.o.keep (n:=w.heap.size) Bw)).mono ?_;rintro e w5 ⟨v,rfl,n1,n2⟩;have fm:Below w.heap.size w w5:=(Bw:Below w.heap.size w _).trans (n2.mono MbF);have p4:w5.cell? ⟨b,4,none⟩=some (.map (some wl)):=(za4 fm bu).trans c4;have q4:w5.cell? ⟨w.heap.size,4,none⟩=some (.slice B ts.length c):=(za4 n2 MbF).trans MbQ;have dU:=n2.size;simp only[World.size_drew,World.size_alloc]at dU;obtain⟨VA,vc,rfl,mX,gB⟩:=n1.ro;obtain⟨m,k7,k8⟩:=(HP.o.keep fm).wills;obtain⟨es,ec,hx⟩:=zbd k7;have bI:=HP.o.ge;have cP:=k7.at.lt;have Df:wl<w.heap.size:=by
    obtain⟨m0,k70,_⟩:=HP.o.wills;exact k70.at.lt
   have au:b≠wl:=fun e=>by
    subst e;have h1:=HC.o.keep fm;unfold WldC at h1;rw[h1]at hx;simp at hx
   obtain⟨jq,K7,K8,HX,cA⟩:=yH5 gB k7 k8 hx fm;clear n1 n2 gB k7 k8 hx fm;refine hK.out _ _ ?_ (fun hHeld=>?_);focus((try dsimp only);refine⟨?_,?_⟩<;>assumption)
   clear hK K;try simp only[Act.put,List.setIfInBounds_toArray,List.set_cons_zero,List.set_cons_succ]
   refine OnH 8 fun K hK=>?_
   obtain⟨w6,ai,eW,aP,dV⟩:=zbY mapSP K7.o fr (.slice VA (zat ts).length vc);refine zc6 rfl _ _ _ rfl _ _ _ rfl rfl rfl w6 ai ?_;have p6:w6.cell? ⟨b,4,none⟩=some (.map (some wl)):=(zaN aP MbC au).trans p4;have q6:w6.cell? ⟨w.heap.size,4,none⟩=some (.slice B ts.length c):=(zaN aP MbC MbC).trans q4;obtain⟨oQ,fO⟩:=yH2 eW aP;clear eW aP ai;refine hK.out _ _ ?_ (fun hHeld=>?_);focus((try dsimp only);refine⟨?_,?_⟩<;>assumption)
   clear hK K;try simp only[Act.put,List.setIfInBounds_toArray,List.set_cons_zero,List.set_cons_succ]
   refine wpAnyH_done MbE ?_ _;go_wp2_with fail
   go_ret
   have hX:=fk.o;simp only[Bool.false_eq_true,if_false]at hX;rw[hX];refine⟨rfl,zkJ ax (HC.o.keep cA.o) (HT.o.keep cA.o) fO.o HX.o rfl (ppl_will (HP.o.keep cA.o) fO.o oQ.o fun n=>?_),zaF (cA.o.mono MbC) fO.o bI.2.2.2.1 MbC,(KeepD.below cA.o).trans (KeepD.map fO.o HX.o)⟩;rw[zeI];unfold WillIs;rw[zek];have D1:zag n fr=zag fr n:=by rw[Bool.eq_iff_iff,zak,zak];exact⟨Eq.symm,Eq.symm⟩
   rw[D1];cases hn:zag fr n
   ·exact(K8.o n).keptM fO.o HX.o
   ·exact .inr ⟨VA,vc,rfl,jq.o.keptM fO.o HX.o⟩
 ·exact MW
theorem zjI(base b:Nat)(s:St)(la co:Int)(d:Deed)(B:Option Addr)(c:Nat)(w:World)(hW:WldAt base w b s la co)(hd:OkD d)(hk:d.kind=5)(aj:d.to.length<=c)(hS:Sl w 3 RPart.cells B d.to):
 Calls Tryz.prog 101 #[.pointer (some ⟨b,0,none⟩),d.v B c] w (zbr base b (zbP s d) la co w):=by
 obtain⟨aJ,_⟩:=hd.one (.inl hk);obtain⟨q,hq⟩:∃q,d.to=[q]:=List.length_eq_one_iff.1 aJ;have fI:zbO d=q.name:=by unfold zbO;rw[hq];rfl
 obtain⟨b',off,rfl,bE,ar⟩:=hS.at (show 0<d.to.length by rw[hq];exact Nat.zero_lt_one);have i0:w.cell? ⟨b',off,none⟩=some (.string q.name):=by
  exact Maz
 have ku:1<=c:=by rw[hq]at aj;exact aj
 clear hd aJ ar hS aj;have aF:=hW;obtain⟨Bk,dd,cc,pp,wl,rr,mv,tv,ps,ax,hC,hP,hT⟩:=hW;have bu:=zad hC;obtain⟨kd,dy,pl,fr,ts,cl,yr⟩:=d;simp only at*;subst hq hk;have fk:Hid (zbP s ⟨5,dy,pl,fr,[q],cl,yr⟩=if zaK s fr||zaK s q.name then(s,28)else if s.renounce.any (fun r=>zag r.1 fr&&zag r.2 q.name)then(s,5)else({s with renounce:=s.renounce++[(fr,q.name)]},0)):=by
  show _=_;unfold zbP;rw[fI]
 generalize zbP s ⟨5,dy,pl,fr,[q],cl,yr⟩=X at*;obtain⟨HC,HP,HT,HW⟩:=yH4 hC hP hT aF;unfold WldC at hC;obtain⟨c0,-,-,-,-,c5⟩:=cF6 hC;have bS:∀W:World,Below w.heap.size w W->∀n,(Instr.lookup 103 (.map (some dd)) (.string n) false).run Tryz.prog W=.ok (.bool (zaK s n)) W:=fun W hB n=>zcK (HP.o.keep hB) _
 have bK:∀W:World,Below w.heap.size w W->(Instr.lookup 106 (.map (some rr)) (.agg #[.string fr,.string q.name]) false).run Tryz.prog W=.ok (.bool (s.renounce.any fun r=>zag r.1 fr&&zag r.2 q.name)) W:=fun W hB=>zl4 (HP.o.keep hB) _ _
 have nT:=zhs (eq:=eqP) (k:=(fr,q.name)) (l:=s.renounce);rw[zkA]at nT;obtain⟨dZ,dY,Af⟩:=yH3 bS bK nT;clear bS bK nT hC hP hT aF fI;unfold Deed.v;simp only;obtain⟨W1,aV⟩:∃W1,W1=w.alloc (.cells #[.int .i64 5,.int .i64 dy,.string pl,.string fr,.slice (some ⟨b',off,none⟩) 1 c,.int .i64 cl,.int .i64 yr] 28):=⟨_,rfl⟩
 have bo:Below w.heap.size w W1:=Mcz;have k1:=dZ.o W1 bo fr;have k2:=dZ.o W1 bo q.name;have k3:=dY.o W1 bo;have ri:=(HP.o.keep bo).ren;have bl:=zHi bo;rw[aV]at k1 k2 k3;obtain⟨oZ,nw⟩:=yH2 ri aV;clear ri bo aV;generalize zaK s fr=d1 at*;generalize zaK s q.name=d2 at*;generalize(s.renounce.any fun r=>zag r.1 fr&&zag r.2 q.name)=rx at*;have bx:(0:Int)<(1:Int):=MbD;go_enter Tryz.func101,Tryz.ntmps101
 cases d1
 ·cases d2
  ·cases rx
   ·obtain⟨es,ec,hx⟩:=zbd oZ.o;have HX:=zHi hx;clear hx;go_wp2_with (at_mapUpdate;obtain⟨w6,ai,eW,aP,dV⟩:=zbY mapPB oZ.o (fr,q.name) true;rw[nw.o]at ai;go_loud(refine zcB rfl _ _ _ rfl _ _ _ rfl rfl rfl w6 ai ?_))
    go_ret
    have hX:=fk.o;simp only[Bool.or_self,Bool.false_eq_true,if_false]at hX;rw[hX];have bI:=HP.o.ge;have mG:MapS w6 rr ekP evB ((s.renounce++[(fr,q.name)]).map fun x=>(x,true)):=by
     rw[ziH (Af.o (by first|rfl|trivial))]at eW;simpa using eW
    have aS:=HW.o.lt;exact⟨rfl,zkJ ax (HC.o.keep bl.o) (HT.o.keep bl.o) aP HX.o rfl (ppl_ren (HP.o.keep bl.o) aP mG),zaF (bl.o.mono MbC) aP bI.2.2.2.2 MbC,(KeepD.below bl.o).trans (KeepD.map aP HX.o)⟩
   ·exact MW
  ·exact MW
 ·exact MW
theorem sl_pair{w:World}{b:Nat}{p:ByteArray×ByteArray}{t:TypeId}{fr:Nat×Nat}(h:w.heap[b]?=some (.cells #[.string p.1,.string p.2] t fr)):Sl w 2 zb9 (some ⟨b,0,none⟩) [p]:=fun _=>⟨b,0,rfl,zad h,fun k y hy j u hu=>by
 have hk:k=0:=MbK;subst hk;simp only[List.getElem?_cons_zero,Option.some.injEq]at hy;subst hy;match j,hu with
 |0,hu=>simp[zb9]at hu;simp[World.cell?,h,<-hu]
 |1,hu=>simp[zb9]at hu;simp[World.cell?,h,<-hu]
 |j+2,hu=>simp[zb9]at hu⟩
theorem marry_any(base b:Nat)(s:St)(la co:Int)(d:Deed)(B:Option Addr)(c:Nat)(w:World)(hW:WldAt base w b s la co)(hd:OkD d)(hk:d.kind=7)(aj:d.to.length<=c)(hS:Sl w 3 RPart.cells B d.to)(fE:s.marriages.length<=1000):
 Calls Tryz.prog 101 #[.pointer (some ⟨b,0,none⟩),d.v B c] w (zbr base b (zdU s d) la co w):=by
 obtain⟨aJ,_⟩:=hd.one (.inr (.inr hk));obtain⟨q,hq⟩:∃q,d.to=[q]:=List.length_eq_one_iff.1 aJ;have fI:zbO d=q.name:=by unfold zbO;rw[hq];rfl
 obtain⟨b',off,rfl,bE,ar⟩:=hS.at (show 0<d.to.length by rw[hq];exact Nat.zero_lt_one);have i0:w.cell? ⟨b',off,none⟩=some (.string q.name):=by
  exact Maz
 have ku:1<=c:=by rw[hq]at aj;exact aj
 clear hd aJ ar hS aj;have aF:=hW;obtain⟨Bk,dd,cc,pp,wl,rr,mv,tv,ps,ax,hC,hP,hT⟩:=hW;have bu:=zad hC;obtain⟨kd,dy,pl,fr,ts,cl,yr⟩:=d;simp only at*;subst hq hk;have fk:Hid (zdU s ⟨7,dy,pl,fr,[q],cl,yr⟩=if zaK s fr||zaK s q.name then(s,28)else if !noB (zbi s fr)||!noB (zbi s q.name)then(s,13)else({s with marriages:=s.marriages++[(fr,q.name)]},0)):=by
  show _=_;unfold zdU;rw[fI]
 generalize zdU s ⟨7,dy,pl,fr,[q],cl,yr⟩=X at*;obtain⟨MA,mc,rfl,_,_⟩:=hP.marr.sl zfl;have qM:=hP.marr.ge;obtain⟨HC,HP,HT,HW⟩:=yH4 hC hP hT aF;unfold WldC at hC;obtain⟨c0,-,-,c3⟩:=cF4 hC;have f3:w.frozen? ⟨b,3,none⟩=false:=by simp only[World.frozen?,hC];rfl
 have bS:∀W:World,Below w.heap.size w W->∀n,(Instr.lookup 103 (.map (some dd)) (.string n) false).run Tryz.prog W=.ok (.bool (zaK s n)) W:=fun W hB n=>zcK (HP.o.keep hB) _
 have cM:=bS (w.alloc (.cells #[.int .i64 7,.int .i64 dy,.string pl,.string fr,.slice (some ⟨b',off,none⟩) 1 c,.int .i64 cl,.int .i64 yr] 28)) Bw fr;have eR:=bS (w.alloc (.cells #[.int .i64 7,.int .i64 dy,.string pl,.string fr,.slice (some ⟨b',off,none⟩) 1 c,.int .i64 cl,.int .i64 yr] 28)) Bw q.name;obtain⟨lH,Ae⟩:=yH2 (fun W (hB:Below w.heap.size w W) n=>zig base b s n W (aF.peo.keep hB) MbC) qM;clear bS hC hP hT aF fI qM;unfold Deed.v;simp only;generalize zaK s fr=d1 at*;generalize zaK s q.name=d2 at*;have bx:(0:Int)<(1:Int):=MbD;go_enter Tryz.func101,Tryz.ntmps101
 cases d1
 ·cases d2
  ·cases cY:noB (zbi s fr)
   ·have e1:(zbi s fr).toList.isEmpty=false:=cY;rw[cY]at fk;exact Mar
   ·cases eA:noB (zbi s q.name)
    ·have e1:(zbi s fr).toList.isEmpty=true:=cY;have e2:(zbi s q.name).toList.isEmpty=false:=eA;rw[cY,eA]at fk;exact Mar
    ·have e1:(zbi s fr).toList.isEmpty=true:=cY;have e2:(zbi s q.name).toList.isEmpty=true:=eA;rw[cY,eA]at fk
     go_wp2_with (first
      |(go_at_call 153;refine(lH.o _ Bw _).mono ?_;rintro e wq ⟨rfl,z,rfl⟩)
      |(at_builtin
        go_loud(refine zaG (v:=.slice MA s.marriages.length mc) (n:=s.marriages.length) (m:=1) rfl _ _ rfl elPair zfl pair_one rfl (HP.o.marr.keep (n:=w.heap.size) Bw) rfl rfl rfl (sl_pair (p:=(fr,q.name)) (za3 _ _ _ Mb8)) MbO MbC (by have:=HW.o.lt;simp[zae];omega) ?_)
        intro v3 w3 h1 h2 h3;obtain⟨A6,c6,dt,_,_⟩:=h1.sl zfl;rw[List.length_append]at dt;subst dt;obtain⟨hA,sm⟩:=wld_marry ax (HC.o.keep (n:=w.heap.size) Bw) (HP.o.keep (n:=w.heap.size) Bw) (HT.o.keep (n:=w.heap.size) Bw) h1 h2;have sn:=sm;unfold WldC at sn;obtain⟨-,-,-,c33⟩:=cF4 sn;have f33:w3.frozen? ⟨b,3,none⟩=false:=by simp only[World.frozen?,sn];rfl
        have bW:=zad sm;obtain⟨H2,HA⟩:=yH2 h2 hA;have bQ:=((KeepD.below (w:=w) Bw).trans (KeepD.own (HP.o.marr.keep (n:=w.heap.size) Bw) h2 MbD)).trans (KeepD.cells (zay w3 b 3 (.slice A6 (s.marriages.length+[(fr,q.name)].length) c6)) sm MbD);have jZ:=zHi bQ
        clear h1 h2 h3 hA sm sn bQ))
     go_ret
     have hX:=fk.o;simp only[Bool.or_self,Bool.not_true,Bool.false_eq_true,if_false]at hX;rw[hX];have aS:=HW.o.lt;exact⟨rfl,HA.o,zaU (Below.grown (a:=w) (B:=base) Bw H2.o MbM (fun j hj=>(Ae.o j hj).1)) (by show base<=b;omega) _,jZ.o⟩
  ·exact MW
 ·exact MW
end
section
open Go.Shelf
theorem zc7{m:List (ByteArray×Value)}{g:Nat}:g∈zaJ m↔ ∃e∈m,za1 e.2=some g:=by
 unfold zaJ;rw[List.mem_filterMap]
theorem zcf(e:ByteArray×Value)(m:List (ByteArray×Value)):zaJ (e::m)=(za1 e.2).toList++zaJ m:=by
 unfold zaJ;rw[List.filterMap_cons];cases h:za1 e.2<;>simp
theorem zcg(m l:List (ByteArray×Value)):zaJ (m++l)=zaJ m++zaJ l:=by
 unfold zaJ;exact List.filterMap_append
theorem ziO{k:ByteArray}{v:Value}:∀ {m:List (ByteArray×Value)},(zaJ m).Nodup->(∀g,za1 v=some g->(∃v0,mget eqS k m=some v0/\za1 v0=some g)\/g∉zaJ m)->
 (zaJ (mput eqS k v m)).Nodup/\∀g∈zaJ (mput eqS k v m),g∈zaJ m\/za1 v=some g
 | [],_,_=>by
   rw[mput,zcf];have e:zaJ []=[]:=rfl;rw[e];cases h:za1 v<;>simp
 |x::m,hn,hv=>by
  rw[zcf,List.nodup_append]at hn;obtain⟨n1,n2,n3⟩:=hn;rw[mput];cases hk:eqS k x.1
  ·rw[if_neg MbF];have fK:∀g,za1 v=some g->(∃v0,mget eqS k m=some v0/\za1 v0=some g)\/g∉zaJ m:=fun g hg=>by
    rcases hv g hg with⟨v0,h1,h2⟩|h
    ·rw[mget,hk]at h1;exact .inl ⟨v0,by simpa using h1,h2⟩
    ·exact .inr fun h'=>h (by rw[zcf];exact List.mem_append_right _ h')
   obtain⟨i1,i2⟩:=ziO n2 fK;rw[zcf,List.nodup_append];refine⟨⟨n1,i1,fun a ha b hb e=>?_⟩,fun g hg=>?_⟩
   ·subst e;rcases i2 _ hb with h|h
    ·exact n3 a ha a h rfl
    ·rcases hv a h with⟨v0,h1,h2⟩|h'
     ·rw[mget,hk]at h1;have kj:mget eqS k m=some v0:=Mb7;exact n3 a ha a (zc7.2 ⟨_,zc5 kj,h2⟩) rfl
     ·exact h' (by rw[zcf];exact List.mem_append_left _ ha)
   ·rw[List.mem_append]at hg;rcases hg with hg|hg
    ·exact .inl (by rw[zcf];exact List.mem_append_left _ hg)
    ·rcases i2 g hg with h|h
     ·exact .inl (by rw[zcf];exact List.mem_append_right _ h)
     ·exact .inr h
  ·rw[if_pos rfl,zcf,List.nodup_append];have hx:mget eqS k (x::m)=some x.2:=by rw[mget,hk];rfl
   refine⟨⟨by cases h:za1 v<;>simp,n2,fun a ha b hb e=>?_⟩,fun g hg=>?_⟩
   ·subst e;have jy:za1 v=some a:=by
     cases h:za1 v with
     |none=>simp[h]at ha
     |some y=>simp[h]at ha;rw[ha]
    rcases hv a jy with⟨v0,h1,h2⟩|h'
    ·rw[hx]at h1;simp only[Option.some.injEq]at h1;subst h1;exact n3 a (by rw[h2];simp) a hb rfl
    ·exact h' (by rw[zcf];exact List.mem_append_right _ hb)
   ·rw[List.mem_append]at hg;rcases hg with hg|hg
    ·cases h:za1 v with
     |none=>simp[h]at hg
     |some y=>simp[h]at hg;exact .inr (by rw[hg])
    ·exact .inl (by rw[zcf];exact List.mem_append_right _ hg)
theorem zfN{k n:ByteArray}{v v0:Value}{g:Nat}(ag:zag n k=false):∀ {m:List (ByteArray×Value)},(zaJ m).Nodup->mget eqS n m=some v->mget eqS k m=some v0->za1 v=some g->za1 v0≠some g
 | [],_,h,_,_=>by cases h
 |x::m,hn,h1,h2,h3=>fun h4=>by
  rw[zcf,List.nodup_append]at hn;obtain⟨n1,n2,n3⟩:=hn;rw[mget]at h1 h2;cases ha:eqS n x.1
  ·rw[ha]at h1;simp only[Bool.false_eq_true,if_false]at h1;cases hb:eqS k x.1
   ·rw[hb]at h2;simp only[Bool.false_eq_true,if_false]at h2;exact zfN ag n2 h1 h2 h3 h4
   ·rw[hb]at h2;simp only[if_true,Option.some.injEq]at h2;subst h2;exact n3 g (by rw[h4];simp) g (zc7.2 ⟨_,zc5 h1,h3⟩) rfl
  ·rw[ha]at h1;simp only[if_true,Option.some.injEq]at h1;subst h1;cases hb:eqS k x.1
   ·rw[hb]at h2;simp only[Bool.false_eq_true,if_false]at h2;exact n3 g (by rw[h3];simp) g (zc7.2 ⟨_,zc5 h2,h4⟩) rfl
   ·have e1:n=x.1:=zak.1 ha;have e2:k=x.1:=zak.1 hb;rw[e1,e2,zbk]at ag;cases ag
theorem kids_push(s:St)(f t n:ByteArray):zaf {s with children:=s.children++[(f,t)]} n=zaf s n++if zag f n then[t]else[]:=by
 unfold zaf;simp only[List.filter_append,List.map_append,List.filter_cons,List.filter_nil];cases zag f n<;>simp
theorem pars_push(s:St)(f t n:ByteArray):zb8 {s with children:=s.children++[(f,t)]} n=zb8 s n++if zag t n then[f]else[]:=by
 unfold zb8;simp only[List.filter_append,List.map_append,List.filter_cons,List.filter_nil];cases zag t n<;>simp
theorem row_own{W:World}{base:Nat}{m:List (ByteArray×Value)}{n:ByteArray}{xs:List ByteArray}(h:RowIs W base m n xs):∃A c,(mget eqS n m).getD (.slice none 0 0)=.slice A xs.length c/\OwnS W base 9 1 sC (.slice A xs.length c) xs/\(∀g,za1 (.slice A xs.length c)=some g->mget eqS n m=some (.slice A xs.length c)):=by
 rcases h with⟨h1,rfl⟩|⟨v,h1,h2⟩
 ·exact⟨none,0,by rw[h1];rfl,OwnS.nil,fun g hg=>by cases hg⟩
 ·obtain⟨A,c,rfl,_,_⟩:=h2.sl zbG;exact⟨A,c,by rw[h1];rfl,h2,fun _ _=>h1⟩
theorem zg7(a b:ByteArray):zag a b=zag b a:=by rw[Bool.eq_iff_iff,zak,zak];exact⟨Eq.symm,Eq.symm⟩
theorem OwnS.same{α:Type}{W W':World}{base:Nat}{e:TypeId}{size:Nat}{f:α->List Value}{v:Value}{xs:List α}(h:OwnS W base e size f v xs)(hk:∀g cur,za1 v=some g->W.heap[g]?=some (.cells cur e (0,0))->W'.heap[g]?=W.heap[g]?):OwnS W' base e size f v xs:=by
 rcases h with h|⟨g,o,cap,cur,rfl,hb,hh,rest⟩
 ·exact .inl h
 ·exact .inr ⟨g,o,cap,cur,rfl,hb,(hk g cur rfl hh).trans hh,rest⟩
theorem zeq{W:World}{base:Nat}{v:Value}{xs:List ByteArray}(h:OwnS W base 9 1 sC v xs){g:Nat}(hg:za1 v=some g):∃cur,W.heap[g]?=some (.cells cur 9 (0,0)):=by
 rcases h with⟨rfl,_⟩|⟨k,o,c,cur,rfl,_,hk,_⟩
 ·cases hg
 ·simp only[za1,Option.some.injEq]at hg;subst hg;exact⟨cur,hk⟩
theorem wld_child{base b:Nat}{W w9:World}{B ps:List Nat}{d c p wl r:Nat}{mv tv va vb v1 v2:Value}{s:St}{la co:Int}{mc mp:List (ByteArray×Value)}{fr tn:ByteArray}(hb:base<=b)(hC:WldC W b d c p wl r mv tv la co)(hP:PplAt base W B d c p wl r mv s)(hT:TombsAt base W B tv ps s.graves)
 (k1:MapS W c ekS (fun v:Value=>v) mc)(k2:MapS W p ekS (fun v:Value=>v) mp)(k3:∀n,RowIs W base mc n (zaf s n))(k4:∀n,RowIs W base mp n (zb8 s n))(k5:B=zaJ (mc++mp))(k6:B.Nodup/\(mc.map (·.1)).Nodup/\(mp.map (·.1)).Nodup)
 (ha:OwnS W base 9 1 sC va (zaf s fr))(jy:∀g,za1 va=some g->mget eqS fr mc=some va)(hv:OwnS W base 9 1 sC vb (zb8 s tn))(fK:∀g,za1 vb=some g->mget eqS tn mp=some vb)
 (o1:OwnS w9 base 9 1 sC v1 (zaf s fr++[tn]))(o2:OwnS w9 base 9 1 sC v2 (zb8 s tn++[fr]))(b1:∀g,za1 v1=some g->za1 va=some g\/W.heap.size<=g)(b2:∀g,za1 v2=some g->za1 vb=some g\/W.heap.size<=g)(b12:∀g,za1 v1=some g->za1 v2≠some g)
 (m1:MapS w9 c ekS (fun v:Value=>v) (mput eqS fr v1 mc))(m2:MapS w9 p ekS (fun v:Value=>v) (mput eqS tn v2 mp))(hF:∀k,k<W.heap.size->k≠c->k≠p->za1 va≠some k->za1 vb≠some k->w9.heap[k]?=W.heap[k]?):WldAt base w9 b {s with children:=s.children++[(fr,tn)]} la co:=by
 have ca:=hP.nd;simp only[List.nodup_cons,List.mem_cons,List.not_mem_nil,or_false,not_or]at ca;obtain⟨⟨n1,n2,n3,n4⟩,⟨n5,n6,n7⟩,⟨n8,n9⟩,n10,_⟩:=ca;obtain⟨ec,cc,hc⟩:=zbd k1;obtain⟨ep,cp,hp⟩:=zbd k2;have ay:∀ {k:Nat} {cur:Array Value} {t:TypeId} {f:Nat×Nat},W.heap[k]?=some (.cells cur t f)->t≠9->w9.heap[k]?=W.heap[k]?:=fun {k cur t f} hk ht=>by
  refine hF k (Array.getElem?_eq_some_iff.1 hk).1 (fun e=>?_) (fun e=>?_) (fun e=>?_) (fun e=>?_)
  ·subst e;rw[hc]at hk;simp at hk
  ·subst e;rw[hp]at hk;simp at hk
  ·obtain⟨cur',h'⟩:=zeq ha e;exact Ma3
  ·obtain⟨cur',h'⟩:=zeq hv e;exact Ma3
 have mH:∀ {k:Nat} {es:Array MapEntry} {x:Nat},W.heap[k]?=some (.map es x)->k≠c->k≠p->w9.heap[k]?=W.heap[k]?:=fun {k es x} hk h1 h2=>by
  refine hF k (Array.getElem?_eq_some_iff.1 hk).1 h1 h2 (fun e=>?_) (fun e=>?_)
  ·obtain⟨cur',h'⟩:=zeq ha e;rw[h']at hk;simp at hk
  ·obtain⟨cur',h'⟩:=zeq hv e;rw[h']at hk;simp at hk
 have jc:∀g,za1 va=some g->g∈zaJ mc:=fun g hg=>zc7.2 ⟨_,zc5 (jy g hg),hg⟩
 have bL:∀g,za1 vb=some g->g∈zaJ mp:=fun g hg=>zc7.2 ⟨_,zc5 (fK g hg),hg⟩
 obtain⟨k6,kn1,kn2⟩:=k6;rw[k5,zcg,List.nodup_append]at k6;obtain⟨q1,q2,q3⟩:=k6;have iC:∀ {m:List (ByteArray×Value)} {n:ByteArray} {v:Value} {xs:List ByteArray},mget eqS n m=some v->OwnS W base 9 1 sC v xs->(∀g,za1 v=some g->za1 va≠some g/\za1 vb≠some g)->OwnS w9 base 9 1 sC v xs:=fun {m n v xs} hm ho ag=>
  ho.same fun g cur hg hh=>hF g (Array.getElem?_eq_some_iff.1 hh).1 (fun e=>by subst e;rw[hc]at hh;simp at hh) (fun e=>by subst e;rw[hp]at hh;simp at hh) (ag g hg).1 (ag g hg).2
 have jD:∀g,W.heap.size<=g->g∉zaJ mc/\g∉zaJ mp:=fun g hg=>by
  have key:∀ {m:List (ByteArray×Value)} {f:ByteArray->List ByteArray},(m.map (·.1)).Nodup->(∀n,RowIs W base m n (f n))->g∉zaJ m:=fun {m f} hk hr h=>by
   obtain⟨e,he,bI⟩:=zc7.1 h;have h1:=zg1 hk (show(e.1,e.2)∈m from he);rcases hr e.1 with⟨h2,_⟩|⟨v,h2,h3⟩
   ·rw[h2]at h1;cases h1
   ·rw[h2]at h1;simp only[Option.some.injEq]at h1;rw[h1]at h3;have:=(h3.ge g bI).2;omega
  exact⟨key kn1 k3,key kn2 k4⟩
 have R1:=ziO (k:=fr) (v:=v1) q1 (fun g hg=>by
  rcases b1 g hg with h|h
  ·exact .inl ⟨va,jy g h,h⟩
  ·exact .inr (jD g h).1)
 have R2:=ziO (k:=tn) (v:=v2) q2 (fun g hg=>by
  rcases b2 g hg with h|h
  ·exact .inl ⟨vb,fK g h,h⟩
  ·exact .inr (jD g h).2)
 have eP:∀g∈zaJ (mput eqS fr v1 mc++mput eqS tn v2 mp),g∈B\/W.heap.size<=g:=fun g hg=>by
  rw[zcg,List.mem_append]at hg;rw[k5,zcg];rcases hg with hg|hg
  ·rcases R1.2 g hg with h|h
   ·exact .inl (List.mem_append_left _ h)
   ·rcases b1 g h with h|h
    ·exact .inl (List.mem_append_left _ (jc g h))
    ·exact .inr h
  ·rcases R2.2 g hg with h|h
   ·exact .inl (List.mem_append_right _ h)
   ·rcases b2 g h with h|h
    ·exact .inl (List.mem_append_right _ (bL g h))
    ·exact .inr h
 obtain⟨m,k7,k8⟩:=hP.wills;refine⟨_,d,c,p,wl,r,mv,tv,ps,hb,?_,⟨hP.nd,hP.ge,?_,⟨_,_,m1,m2,fun n=>?_,fun n=>?_,rfl,?_⟩,?_,⟨m,?_,fun n=>?_⟩,?_⟩,⟨?_,hT.len,hT.nd,fun i T g e1 e2=>?_⟩⟩
 ·exact(ay hC MbD).trans hC
 ·obtain⟨es,x,hx⟩:=zbd hP.dead;exact hP.dead.keep (mH hx n1 n2)
 ·rw[kids_push];unfold RowIs;rw[zek];cases hn:zag n fr
  ·rw[zg7 fr n,hn];simp only[Bool.false_eq_true,if_false,List.append_nil];rcases k3 n with h|⟨v,h1,h2⟩
   ·exact .inl h
   ·refine .inr ⟨v,h1,iC h1 h2 fun g hg=>⟨fun e=>?_,fun e=>?_⟩⟩
    ·exact zfN hn q1 h1 (jy g e) hg e
    ·exact q3 g (zc7.2 ⟨_,zc5 h1,hg⟩) g (bL g e) rfl
  ·rw[zg7 fr n,hn];have e:n=fr:=zak.1 hn;subst e;exact .inr ⟨v1,rfl,o1⟩
 ·rw[pars_push];unfold RowIs;rw[zek];cases hn:zag n tn
  ·rw[zg7 tn n,hn];simp only[Bool.false_eq_true,if_false,List.append_nil];rcases k4 n with h|⟨v,h1,h2⟩
   ·exact .inl h
   ·refine .inr ⟨v,h1,iC h1 h2 fun g hg=>⟨fun e=>?_,fun e=>?_⟩⟩
    ·exact q3 g (jc g e) g (zc7.2 ⟨_,zc5 h1,hg⟩) rfl
    ·exact zfN hn q2 h1 (fK g e) hg e
  ·rw[zg7 tn n,hn];have e:n=tn:=zak.1 hn;subst e;exact .inr ⟨v2,rfl,o2⟩
 ·refine⟨?_,(zft _ _ _ kn1).1,(zft _ _ _ kn2).1⟩;rw[zcg,List.nodup_append];refine⟨R1.1,R2.1,fun g hg g' cx e=>?_⟩;subst e;rcases R1.2 g hg with h|h
  ·rcases R2.2 g cx with h'|h'
   ·exact q3 g h g h' rfl
   ·rcases b2 g h' with h'|h'
    ·exact q3 g h g (bL g h') rfl
    ·exact(jD g h').1 h
  ·rcases R2.2 g cx with h'|h'
   ·rcases b1 g h with h|h
    ·exact q3 g (jc g h) g h' rfl
    ·exact(jD g h).2 h'
   ·exact b12 g h h'
 ·exact hP.marr.same fun g cur _ hh=>ay hh MbD
 ·obtain⟨es,x,hx⟩:=zbd k7;exact k7.keep (mH hx (fun e=>n6 e.symm) (fun e=>n8 e.symm))
 ·rcases k8 n with h|⟨A,x,h1,h2⟩
  ·exact .inl h
  ·exact .inr ⟨A,x,h1,h2.same fun g cur f hh _=>ay hh MbD⟩
 ·obtain⟨es,x,hx⟩:=zbd hP.ren;exact hP.ren.keep (mH hx (fun e=>n7 e.symm) (fun e=>n9 e.symm))
 ·exact hT.own.same fun g cur _ hh=>ay hh MbD
 ·obtain⟨H,hh,D,dc,f',t1,t2,t3,t4,t5,t6,t7⟩:=hT.all i T g e1 e2;refine⟨H,hh,D,dc,f',(ay t1 MbD).trans t1,t2,t3,t4,t5.same fun g' cur f hx _=>ay hx MbD,?_,fun hl a pU aB=>?_⟩
  ·intro hl;obtain⟨g',off,cur,f,hA,hx,hy⟩:=t6 hl;have yQ:=t7 hl ⟨g',off,none⟩ hA;refine⟨g',off,cur,f,hA,?_,hy⟩;rw[<-hx];refine hF g' (Array.getElem?_eq_some_iff.1 hx).1 (fun e=>by subst e;rw[hc]at hx;simp at hx) (fun e=>by subst e;rw[hp]at hx;simp at hx) (fun e=>yQ ?_) (fun e=>yQ ?_)
   ·rw[k5,zcg];exact List.mem_append_left _ (jc g' e)
   ·rw[k5,zcg];exact List.mem_append_right _ (bL g' e)
  ·obtain⟨g',off,cur,f,hA,hx,hy⟩:=t6 hl;rw[hA]at pU;simp only[Option.some.injEq]at pU;rcases eP _ aB with h|h
   ·exact t7 hl a (by rw[hA,pU]) h
   ·have:=(Array.getElem?_eq_some_iff.1 hx).1;rw[<-pU]at h;simp at h;omega
end
def zcj(n:ByteArray)(day:Int)(g:Grave):Bool:=zaE g day&&decide (0<(zab g.holders n).num)
theorem num_pos7{q:Rat}:0<q↔0<q.num:=by rw[Rat.lt_iff];simp
theorem held_same{s:St}{last day:Int}{n:ByteArray}{i:Nat}{g:Grave}(hG:GoodSt s last)(hl:last<=day)(hi:s.graves[i]?=some g):zfA s n day i g=zcj n day g:=by
 have be:=hG.graves g (List.mem_of_getElem? hi);have hn:=zbg be.good n;have h1:(zab g.holders n != 0)=decide (0<(zab g.holders n).num):=by
  rw[Bool.eq_iff_iff,bne_iff_ne,decide_eq_true_eq,<-num_pos7];constructor
  ·intro h;exact Rat.lt_of_le_of_ne hn (fun e=>h e.symm)
  ·intro h e;rw[e]at h;exact absurd h MbD
 have h2:(zaH s g.place day==some i)=zaE g day:=by
  cases hf:zaE g day
  ·cases hx:zaH s g.place day with
   |none=>rfl
   |some j=>
    obtain⟨gj,h3,h4,h5⟩:=zbv hx;cases bh:(some j==some i)
    ·rfl
    ·have e:j=i:=by simpa using bh
     subst e;rw[h3]at hi;simp only[Option.some.injEq]at hi;rw[hi,hf]at h5;cases h5
  ·cases hx:zaH s g.place day with
   |none=>
    have:=zgb hx g (List.mem_of_getElem? hi) rfl;rw[hf]at this;cases this
   |some j=>
    obtain⟨gj,h3,h4,h5⟩:=zbv hx;have:=hG.force j i gj g h3 hi h4 day hl h5 hf;simp[this]
 unfold zfA zcj;rw[h1,h2,Bool.and_comm]
def zcP(n:ByteArray)(h:Parts)(g:Grave)(f:Bool):Parts×Bool:=zdy (zab g.holders n) h (setP g.holders n 0,f)
def ze8(n:ByteArray)(day:Int)(h:Parts):List Grave->Bool->List Grave×Bool
 | [],f=>([],f)
 |g::l,f=>if zcj n day g then(⟨g.place,g.cls,g.fin,(zcP n h g f).1,g.died++[n]⟩::(ze8 n day h l (zcP n h g f).2).1,(ze8 n day h l (zcP n h g f).2).2)else(g::(ze8 n day h l f).1,(ze8 n day h l f).2)
theorem zf1{n:ByteArray}{day:Int}{h:Parts}:∀ {l:List Grave} {f:Bool},f=true->(ze8 n day h l f).2=true
 | [],_,hf=>hf
 |g::l,f,hf=>by
  rw[ze8];split
  ·exact zf1 (zei (by exact hf))
  ·exact zf1 hf
theorem zjJ{s:St}{n:ByteArray}{day:Int}{h:Parts}(hh:∀p∈h,0<=p.2):∀ {l:List Grave} {i:Nat},(∀j g,l[j]?=some g->zfA s n day (i+j) g=zcj n day g)->(∀g∈l,GoodG g)->
 (∀gs,zcm s n day (some h) i l=some gs->ze8 n day h l false=(gs,false))/\(zcm s n day (some h) i l=none->(ze8 n day h l false).2=true)
 | [],i,_,_=>by
   rw[zcm,ze8];exact⟨fun gs e=>by cases e;rfl,fun e=>by cases e⟩
 |g::l,i,hq,hg=>by
  have ih:=zjJ (s:=s) (n:=n) (day:=day) hh (l:=l) (i:=i+1) (fun j g' hj=>by
   have:=hq (j+1) g' McR;rw[show i+1+j=i+(j+1) by omega]
   exact this) (fun g' h'=>hg g' (by simp[h']))
  have h0:=hq 0 g rfl;rw[Nat.add_zero]at h0;rw[zcm,ze8,h0];have be:=hg g MbF;cases hh2:zcj n day g
  ·simp only[Bool.false_eq_true,if_false];refine⟨fun gs e=>?_,fun e=>?_⟩
   ·cases hd:zcm s n day (some h) (i+1) l with
    |none=>rw[hd]at e;cases e
    |some r=>
     rw[hd]at e;simp only[Option.map_some,Option.some.injEq]at e;rw[ih.1 r hd,<-e]
   ·cases hd:zcm s n day (some h) (i+1) l with
    |none=>exact ih.2 hd
    |some r=>rw[hd]at e;cases e
  ·simp only[if_true];have hz:setP g.holders n 0=zaj g.holders n:=zgv be.good.asc n
   obtain⟨g1,g2⟩:=zhf (zbg be.good n) hh (zbl be.good (n:=n)) (by
    have h1:zaC (setP g.holders n 0)=false:=zd9 be.small MbD;rw[<-hz]
    exact h1)
   have hy:zcP n h g false=zdy (zab g.holders n) h (zaj g.holders n,false):=by unfold zcP;rw[hz]
   rw[hy];cases mB:zbI (zab g.holders n) h (zaj g.holders n)with
   |none=>
    have h3:=g2 mB;refine⟨fun gs e=>by simp at e,fun _=>?_⟩;exact zf1 h3
   |some o=>
    have h3:=g1 o mB;rw[h3];refine⟨fun gs e=>?_,fun e=>?_⟩
    ·cases hd:zcm s n day (some h) (i+1) l with
     |none=>rw[hd]at e;cases e
     |some r=>
      rw[hd]at e;simp only[Option.bind_some,Option.map_some,Option.some.injEq]at e;rw[ih.1 r hd,<-e]
    ·cases hd:zcm s n day (some h) (i+1) l with
     |none=>exact ih.2 hd
     |some r=>rw[hd]at e;cases e
theorem zjK{s:St}{n:ByteArray}{day:Int}{h:Option Parts}:∀ {l:List Grave} {i:Nat},(∀j g,l[j]?=some g->zfA s n day (i+j) g=zcj n day g)->(l.any (zcj n day)=false->zcm s n day h i l=some l)/\(h=none->l.any (zcj n day)=true->zcm s n day h i l=none)
 | [],i,_=>by
   have e:zcm s n day h i []=some []:=by simp[zcm]
   rw[e];exact⟨fun _=>rfl,fun _ e=>by cases e⟩
 |g::l,i,hq=>by
  have ih:=zjK (s:=s) (n:=n) (day:=day) (h:=h) (l:=l) (i:=i+1) (fun j g' hj=>by
   have:=hq (j+1) g' McR;rw[show i+1+j=i+(j+1) by omega]
   exact this)
  have h0:=hq 0 g rfl;rw[Nat.add_zero]at h0;unfold zcm;rw[h0,List.any_cons];cases hh2:zcj n day g
  ·simp only[Bool.false_eq_true,if_false,Bool.false_or];exact⟨fun e=>by rw[ih.1 e];rfl,fun e1 e2=>by rw[ih.2 e1 e2];rfl⟩
  ·simp only[if_true,Bool.true_or];refine⟨fun e=>(by cases e),fun e _=>?_⟩;subst e;rfl
theorem deathP_eq{laws:List Law}{s:St}{d:Deed}{last:Int}(hG:GoodSt s last)(hl:last<=d.day)(hw:za2 16 (zb3 laws d.day).num (zb3 laws d.day).den=true):
 zd2 laws s d=if zaK s d.frm then(s,28)else if s.graves.any (zcj d.frm d.day)then
  (if(ze8 d.frm d.day (zbL s (zb3 laws d.day) d.frm).1 s.graves (zbL s (zb3 laws d.day) d.frm).2).2 then(s,8)else
    ({s with graves:=(ze8 d.frm d.day (zbL s (zb3 laws d.day) d.frm).1 s.graves (zbL s (zb3 laws d.day) d.frm).2).1,dead:=s.dead++[d.frm]},0))
  else({s with dead:=s.dead++[d.frm]},0):=by
 have hq:∀j g,s.graves[j]?=some g->zfA s d.frm d.day (0+j) g=zcj d.frm d.day g:=fun j g hj=>by rw[Nat.zero_add];exact held_same hG hl hj
 obtain⟨e1,e2⟩:=zhg (s:=s) (n:=d.frm) (hG.wills d.frm) hw;have hn:=zjK (s:=s) (n:=d.frm) (day:=d.day) (h:=zdZ s (zb3 laws d.day) d.frm) hq;unfold zd2;cases hd:zaK s d.frm
 ·simp only[Bool.false_eq_true,if_false];cases ha:s.graves.any (zcj d.frm d.day)
  ·rw[hn.1 ha];simp
  ·simp only[if_true];cases he:zdZ s (zb3 laws d.day) d.frm with
   |none=>
    rw[he]at hn;rw[hn.2 rfl ha,if_pos (zf1 (e2 he))]
   |some h=>
    have aQ:=zeH (hG.wills d.frm) hw he;obtain⟨f1,f2⟩:=zjJ (s:=s) (n:=d.frm) (day:=d.day) (h:=h) (fun p hp=>by have:=aQ.1.pos p hp;grind) hq hG.graves;rw[e1 h he];cases hx:zcm s d.frm d.day (some h) 0 s.graves with
    |none=>
     simp only;rw[if_pos (f2 hx)]
    |some gs=>
     simp only;rw[f1 gs hx];simp
 ·simp
def zaO(n:ByteArray)(day:Int):Nat->List Grave->List Nat
 |_,[]=>[]
 |k,g::l=>if zcj n day g then k::zaO n day (k+1) l else zaO n day (k+1) l
theorem zhy(n:ByteArray)(day:Int):∀(k:Nat) (a b:List Grave),zaO n day k (a++b)=zaO n day k a++zaO n day (k+a.length) b
 |k,[],b=>by simp[zaO]
 |k,g::a,b=>by
  rw[List.cons_append,zaO,zaO,zhy n day (k+1) a b,List.length_cons];rw[show k+1+a.length=k+(a.length+1) by omega];split<;>simp
theorem held_snoc(n:ByteArray)(day:Int)(gs:List Grave){k:Nat}(h:k<gs.length):zaO n day 0 (gs.take (k+1))=zaO n day 0 (gs.take k)++if zcj n day gs[k]then[k]else[]:=by
 rw[List.take_succ_eq_append_getElem h,zhy,Nat.zero_add,List.length_take,Nat.min_eq_left MbC,zaO,zaO]
theorem ze2(n:ByteArray)(day:Int):∀(k:Nat) (l:List Grave),(zaO n day k l).length=(l.filter (zcj n day)).length
 |_,[]=>rfl
 |k,g::l=>by
  rw[zaO,List.filter_cons];split<;>simp[ze2 n day (k+1) l]
theorem zlK(n:ByteArray)(day:Int):∀(l:List Grave) (k j i:Nat),(zaO n day k l)[j]?=some i->k<=i/\∃g,l[i-k]?=some g/\(l.filter (zcj n day))[j]?=some g
 | [],k,j,i,h=>by simp[zaO]at h
 |g::l,k,j,i,h=>by
  rw[zaO]at h;rw[List.filter_cons];cases hq:zcj n day g
  ·rw[hq]at h;simp only[Bool.false_eq_true,if_false]at h⊢;exact Mao
  ·rw[hq]at h;simp only[if_true]at h⊢;cases j with
   |zero=>
    simp only[List.getElem?_cons_zero,Option.some.injEq]at h;subst h;exact⟨Nat.le_refl _,g,by simp,by simp⟩
   |succ j=>
    simp only[List.getElem?_cons_succ]at h⊢;exact Mao
def zc0(n:ByteArray)(h:Parts):List Grave->Bool->List Grave×Bool
 | [],f=>([],f)
 |g::l,f=>(⟨g.place,g.cls,g.fin,(zcP n h g f).1,g.died++[n]⟩::(zc0 n h l (zcP n h g f).2).1,(zc0 n h l (zcP n h g f).2).2)
theorem zhz(n:ByteArray)(h:Parts):∀(a b:List Grave) (f:Bool),zc0 n h (a++b) f=((zc0 n h a f).1++(zc0 n h b (zc0 n h a f).2).1,(zc0 n h b (zc0 n h a f).2).2)
 | [],b,f=>by simp[zc0]
 |g::a,b,f=>by
  rw[List.cons_append,zc0,zhz n h a b,zc0];simp
theorem next_snoc(n:ByteArray)(h:Parts)(l:List Grave)(f:Bool){k:Nat}(hk:k<l.length):zc0 n h (l.take (k+1)) f=((zc0 n h (l.take k) f).1++[⟨l[k].place,l[k].cls,l[k].fin,(zcP n h l[k] (zc0 n h (l.take k) f).2).1,l[k].died++[n]⟩],(zcP n h l[k] (zc0 n h (l.take k) f).2).2):=by
 rw[List.take_succ_eq_append_getElem hk,zhz,zc0,zc0]
theorem ziP(n:ByteArray)(h:Parts):∀(l:List Grave) (f:Bool),(zc0 n h l f).1.length=l.length
 | [],_=>rfl
 |g::l,f=>by rw[zc0];simp[ziP n h l]
def zcQ:List Grave->List Nat->List Grave->List Grave
 |gs,i::H,x::X=>zcQ (gs.set i x) H X
 |gs,_,_=>gs
theorem zh0:∀(H:List Nat) (X:List Grave) (gs:List Grave) (i:Nat) (x:Grave),H.length=X.length->zcQ gs (H++[i]) (X++[x])=(zcQ gs H X).set i x
 | [],[],gs,i,x,_=>rfl
 | [],_::_,_,_,_,h=>by cases h
 |_::_,[],_,_,_,h=>by cases h
 |j::H,y::X,gs,i,x,h=>by
  rw[List.cons_append,List.cons_append,zcQ,zcQ];exact zh0 H X _ i x McB
theorem ziq:∀(H:List Nat) (X gs:List Grave),(zcQ gs H X).length=gs.length
 | [],_,_=>by simp[zcQ]
 |_::_,[],_=>by simp[zcQ]
 |j::H,y::X,gs=>by rw[zcQ,ziq H X];simp
theorem zeN(n:ByteArray)(day:Int)(h:Parts):∀(l A:List Grave) (f:Bool),zcQ (A++l) (zaO n day A.length l) (zc0 n h (l.filter (zcj n day)) f).1=A++(ze8 n day h l f).1/\(zc0 n h (l.filter (zcj n day)) f).2=(ze8 n day h l f).2
 | [],A,f=>by simp[zaO,zc0,ze8,zcQ]
 |g::l,A,f=>by
  rw[zaO,List.filter_cons,ze8];cases hq:zcj n day g
  ·simp only[Bool.false_eq_true,if_false];have:=zeN n day h l (A++[g]) f;rw[List.length_append,List.length_singleton,List.append_assoc,List.singleton_append]at this;exact⟨by rw[this.1];simp,this.2⟩
  ·simp only[if_true];rw[zc0,zcQ];have:=zeN n day h l (A++[⟨g.place,g.cls,g.fin,(zcP n h g f).1,g.died++[n]⟩]) (zcP n h g f).2;rw[List.length_append,List.length_singleton,List.append_assoc,List.singleton_append]at this;have e:(A++g::l).set A.length ⟨g.place,g.cls,g.fin,(zcP n h g f).1,g.died++[n]⟩=A++⟨g.place,g.cls,g.fin,(zcP n h g f).1,g.died++[n]⟩::l:=by
    rw[List.set_append_right _ _ (Nat.le_refl _),Nat.sub_self,List.set_cons_zero]
   exact⟨by rw[e,this.1];simp,this.2⟩
