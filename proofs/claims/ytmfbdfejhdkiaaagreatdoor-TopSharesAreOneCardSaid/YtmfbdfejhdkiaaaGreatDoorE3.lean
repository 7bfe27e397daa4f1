/- A region that draws its order: a head that only lays new blocks, by an invariant; operations that only read slots, wherever they come up; and a tail that its edges put behind the head in one order. -/
import Derived.Test.YtmfbdfejhdkiaaaGreatDoorE2
set_option linter.all false
set_option maxRecDepth 100000
set_option maxHeartbeats 4000000
namespace Go.Proofs.YtmfbdfejhdkiaaaGreatDoor
attribute [local go_sem] World.cell?_alloc_mark zae za4 zao za8 zav zaw zax zay zaz za0 za1
attribute [local go_sem] zap zac
section
open Go.RowKit Go.Shelf
theorem will_any(base b:Nat)(s:St)(la co:Int)(d:Deed)(B:Option Addr)(c:Nat)(w:World)(hW:WldAt base w b s la co)(hd:OkD d)(hk:d.kind=4)(hS:Sl w 3 RPart.cells B d.to):
 Calls Tryz.prog 55 #[.pointer (some ⟨b,0,none⟩),d.v B c] w (zbC base b (zgZ s d) la co w):=by
 obtain⟨bJ,_,_,_⟩:=zee (hd.parts (.inr (.inr hk))).2;have br:=hd.len;have Gx:=rat_cells (fun p hp=>(bJ p hp).2.2) hS;clear hd bJ;have am:=hW;obtain⟨Bk,dd,cc,pp,wl,rr,mv,tv,ps,aN,hC,hP,hT⟩:=hW;have cJ:=zab hC;obtain⟨kd,dy,pl,fr,ts,cl,yr⟩:=d;simp only at*;subst hk;have jk:Hid (zgZ s ⟨4,dy,pl,fr,ts,cl,yr⟩=if zaP s fr then(s,28)else({s with wills:=s.wills++[(fr,zan ts)]},0)):=rfl;generalize zgZ s ⟨4,dy,pl,fr,ts,cl,yr⟩=X at*;have ae:(zan ts).length=ts.length:=by unfold zan;rw[List.length_map]
 obtain⟨Jz,HC,HP,HT,HW⟩:=yH5 Gx hC hP hT am;unfold WldC at hC;obtain⟨c0,-,-,-,c4⟩:=cF5 hC;have dP:∀W:World,Qa w W->(Instr.lookup 79 (.map (some dd)) (.string fr) false).run Tryz.prog W=.ok (.bool (zaP s fr)) W:=fun W hB=>zd0 (HP.o.keep hB) _
 have lQ:=zHi dP;generalize zaP s fr=dx at*;have cv:=zHi ae;clear dP hC hP hT am Gx hS ae;unfold Deed.v;simp only;have fL:=lQ.o (w.alloc (.cells #[.int .i64 4,.int .i64 dy,.string pl,.string fr,.slice B ts.length c,.int .i64 cl,.int .i64 yr] 28)) Bw;go_enter Tryz.func55,Tryz.ntmps55
 cases dx
 ·go_upto_region 5 with fail
  refine wp_region_held_drew (S:=(fun w'=>w'.cell? ⟨b,4,none⟩=some (.map (some wl))/\w'.cell? ⟨w.heap.size,4,none⟩=some (.slice B ts.length c))) Mcs ?hS ?hrest
  case hS=>((try dsimp only);refine⟨?_,?_⟩<;>(simp[go_sem,c4,cJ];done))
  case hrest=>
   intro hHeld;refine TkH 0 ?_;refine TkH 1 ?_;refine TkH 2 ?_;refine TkH 3 ?_;refine TkH 4 ?_;refine TkH 5 ?_;refine TkH 6 ?_;refine OnH 7 fun K hK=>?_
   go_simp
   refine(zeB (zan ts) B ts.length c _ cv.o.symm (by rw[cv.o];omega) (Jz.o.keep (n:=w.heap.size) Bw)).mono ?_;rintro e w5 ⟨v,rfl,n1,n2⟩;have jQ:Qa w w5:=(Bw:Qa w _).trans (n2.mono Mcv);have p4:w5.cell? ⟨b,4,none⟩=some (.map (some wl)):=(zah jQ cJ).trans c4;have q4:w5.cell? ⟨w.heap.size,4,none⟩=some (.slice B ts.length c):=(zah n2 Mcv).trans Mc0;have ke:=n2.size;simp only[World.size_drew,World.size_alloc]at ke;obtain⟨VA,vc,rfl,kf,dZ⟩:=n1.ro;obtain⟨m,k7,k8⟩:=(HP.o.keep jQ).wills;obtain⟨es,ec,hx⟩:=zb0 k7;have fA:=HP.o.ge;have bY:=k7.at.lt;have Ny:wl<w.heap.size:=by
    obtain⟨m0,k70,_⟩:=HP.o.wills;exact k70.at.lt
   have aY:b≠wl:=fun e=>by
    subst e;have h1:=HC.o.keep jQ;unfold WldC at h1;rw[h1]at hx;simp at hx
   obtain⟨iO,K7,K8,HX,bn⟩:=yH5 dZ k7 k8 hx jQ;clear n1 n2 dZ k7 k8 hx jQ;refine hK.out _ _ ?_ (fun hHeld=>?_);focus((try dsimp only);refine⟨?_,?_⟩<;>assumption)
   clear hK K;try simp only[Act.put,List.setIfInBounds_toArray,List.set_cons_zero,List.set_cons_succ]
   refine OnH 8 fun K hK=>?_
   obtain⟨w6,hrun,j8,bO,nW⟩:=zdl mapSP K7.o fr (.slice VA (zan ts).length vc);refine zdd rfl _ _ _ rfl _ _ _ rfl rfl rfl w6 hrun ?_;have p6:w6.cell? ⟨b,4,none⟩=some (.map (some wl)):=(zbd bO Mcq aY).trans p4;have q6:w6.cell? ⟨w.heap.size,4,none⟩=some (.slice B ts.length c):=(zbd bO Mcq Mcq).trans q4;obtain⟨vB,jM⟩:=yH2 j8 bO;clear j8 bO hrun;refine hK.out _ _ ?_ (fun hHeld=>?_);focus((try dsimp only);refine⟨?_,?_⟩<;>assumption)
   clear hK K;try simp only[Act.put,List.setIfInBounds_toArray,List.set_cons_zero,List.set_cons_succ]
   refine wpAnyH_done Mcs ?_ _;go_wp2_with fail
   go_ret
   have hX:=jk.o;simp only[Bool.false_eq_true,if_false]at hX;rw[hX];refine⟨rfl,zmM aN (HC.o.keep bn.o) (HT.o.keep bn.o) jM.o HX.o rfl (ppl_will (HP.o.keep bn.o) jM.o vB.o fun n=>?_),zbp (bn.o.mono Mcq) jM.o fA.2.2.2.1 Mcq,(KeepD.below bn.o).trans (KeepD.map jM.o HX.o)⟩;rw[zfZ];unfold WillIs;rw[zfi];have Nk:zaf n fr=zaf fr n:=by rw[Bool.eq_iff_iff,za3,za3];exact⟨Eq.symm,Eq.symm⟩
   rw[Nk];cases hn:zaf fr n
   ·exact(K8.o n).keptM jM.o HX.o
   ·exact .inr ⟨VA,vc,rfl,iO.o.keptM jM.o HX.o⟩
 ·exact Mal
theorem zlE(base b:Nat)(s:St)(la co:Int)(d:Deed)(B:Option Addr)(c:Nat)(w:World)(hW:WldAt base w b s la co)(hd:OkD d)(hk:d.kind=5)(ao:d.to.length<=c)(hS:Sl w 3 RPart.cells B d.to):
 Calls Tryz.prog 55 #[.pointer (some ⟨b,0,none⟩),d.v B c] w (zbC base b (zb6 s d) la co w):=by
 obtain⟨aL,_⟩:=hd.one (.inl hk);obtain⟨q,hq⟩:∃q,d.to=[q]:=List.length_eq_one_iff.1 aL;have dA:zbh d=q.name:=by unfold zbh;rw[hq];rfl
 obtain⟨b',off,rfl,cI,aI⟩:=hS.at (show 0<d.to.length by rw[hq];exact Nat.zero_lt_one);have i0:w.cell? ⟨b',off,none⟩=some (.string q.name):=by
  exact Mbc
 have pZ:1<=c:=by rw[hq]at ao;exact ao
 clear hd aL aI hS ao;have am:=hW;obtain⟨Bk,dd,cc,pp,wl,rr,mv,tv,ps,aN,hC,hP,hT⟩:=hW;have cJ:=zab hC;obtain⟨kd,dy,pl,fr,ts,cl,yr⟩:=d;simp only at*;subst hq hk;have jk:Hid (zb6 s ⟨5,dy,pl,fr,[q],cl,yr⟩=if zaP s fr||zaP s q.name then(s,28)else if s.renounce.any (fun r=>zaf r.1 fr&&zaf r.2 q.name)then(s,5)else({s with renounce:=s.renounce++[(fr,q.name)]},0)):=by
  show _=_;unfold zb6;rw[dA]
 generalize zb6 s ⟨5,dy,pl,fr,[q],cl,yr⟩=X at*;obtain⟨HC,HP,HT,HW⟩:=yH4 hC hP hT am;unfold WldC at hC;obtain⟨c0,-,-,-,-,c5⟩:=cF6 hC;have dP:∀W:World,Qa w W->∀n,(Instr.lookup 79 (.map (some dd)) (.string n) false).run Tryz.prog W=.ok (.bool (zaP s n)) W:=fun W hB n=>zd0 (HP.o.keep hB) _
 have gN:∀W:World,Qa w W->(Instr.lookup 82 (.map (some rr)) (.agg #[.string fr,.string q.name]) false).run Tryz.prog W=.ok (.bool (s.renounce.any fun r=>zaf r.1 fr&&zaf r.2 q.name)) W:=fun W hB=>znM (HP.o.keep hB) _ _
 have uA:=ziD (eq:=eqP) (k:=(fr,q.name)) (l:=s.renounce);rw[zmC]at uA;obtain⟨lQ,fF,Jh⟩:=yH3 dP gN uA;clear dP gN uA hC hP hT am dA;unfold Deed.v;simp only;obtain⟨W1,aP⟩:=Qd (w.alloc (.cells #[.int .i64 5,.int .i64 dy,.string pl,.string fr,.slice (some ⟨b',off,none⟩) 1 c,.int .i64 cl,.int .i64 yr] 28))
 have dC:Qa w W1:=by rw[aP];exact Bw
 have k1:=lQ.o W1 dC fr;have k2:=lQ.o W1 dC q.name;have k3:=fF.o W1 dC;have yI:=(HP.o.keep dC).ren;have aE:=zHi dC;rw[aP]at k1 k2 k3;obtain⟨vO,u4⟩:=yH2 yI aP;clear yI dC aP;generalize zaP s fr=d1 at*;generalize zaP s q.name=d2 at*;generalize(s.renounce.any fun r=>zaf r.1 fr&&zaf r.2 q.name)=rx at*;have aq:(0:Int)<(1:Int):=Mcu;go_enter Tryz.func55,Tryz.ntmps55
 cases d1
 ·cases d2
  ·cases rx
   ·obtain⟨es,ec,hx⟩:=zb0 vO.o;have HX:=zHi hx;clear hx;go_wp2_with (at_mapUpdate;obtain⟨w6,hrun,j8,bO,nW⟩:=zdl mapPB vO.o (fr,q.name) true;rw[u4.o]at hrun;go_loud(refine zel rfl _ _ _ rfl _ _ _ rfl rfl rfl w6 hrun ?_))
    go_ret
    have hX:=jk.o;simp only[Bool.or_self,Bool.false_eq_true,if_false]at hX;rw[hX];have fA:=HP.o.ge;have En:MapS w6 rr ekP evB ((s.renounce++[(fr,q.name)]).map fun x=>(x,true)):=by
     rw[zk3 (Jh.o (by first|rfl|trivial))]at j8;simpa using j8
    have aW:=HW.o.lt;exact⟨rfl,zmM aN (HC.o.keep aE.o) (HT.o.keep aE.o) bO HX.o rfl (ppl_ren (HP.o.keep aE.o) bO En),zbp (aE.o.mono Mcq) bO fA.2.2.2.2 Mcq,(KeepD.below aE.o).trans (KeepD.map bO HX.o)⟩
   ·exact Mal
  ·exact Mal
 ·exact Mal
theorem zmP{w:World}{b:Nat}{p:ByteArray×ByteArray}{t:TypeId}{fr:Nat×Nat}(h:w.heap[b]?=some (.cells #[.string p.1,.string p.2] t fr)):Sl w 2 zaX (some ⟨b,0,none⟩) [p]:=fun _=>⟨b,0,rfl,zab h,fun k y hy j u hu=>by
 have hk:k=0:=McD;subst hk;simp only[List.getElem?_cons_zero,Option.some.injEq]at hy;subst hy;match j,hu with
 |0,hu=>simp[zaX]at hu;simp[World.cell?,h,<-hu]
 |1,hu=>simp[zaX]at hu;simp[World.cell?,h,<-hu]
 |j+2,hu=>simp[zaX]at hu⟩
theorem marry_any(base b:Nat)(s:St)(la co:Int)(d:Deed)(B:Option Addr)(c:Nat)(w:World)(hW:WldAt base w b s la co)(hd:OkD d)(hk:d.kind=7)(ao:d.to.length<=c)(hS:Sl w 3 RPart.cells B d.to)(kF:s.marriages.length<=1000):
 Calls Tryz.prog 55 #[.pointer (some ⟨b,0,none⟩),d.v B c] w (zbC base b (zdu s d) la co w):=by
 obtain⟨aL,_⟩:=hd.one (.inr (.inr hk));obtain⟨q,hq⟩:∃q,d.to=[q]:=List.length_eq_one_iff.1 aL;have dA:zbh d=q.name:=by unfold zbh;rw[hq];rfl
 obtain⟨b',off,rfl,cI,aI⟩:=hS.at (show 0<d.to.length by rw[hq];exact Nat.zero_lt_one);have i0:w.cell? ⟨b',off,none⟩=some (.string q.name):=by
  exact Mbc
 have pZ:1<=c:=by rw[hq]at ao;exact ao
 clear hd aL aI hS ao;have am:=hW;obtain⟨Bk,dd,cc,pp,wl,rr,mv,tv,ps,aN,hC,hP,hT⟩:=hW;have cJ:=zab hC;obtain⟨kd,dy,pl,fr,ts,cl,yr⟩:=d;simp only at*;subst hq hk;have jk:Hid (zdu s ⟨7,dy,pl,fr,[q],cl,yr⟩=if zaP s fr||zaP s q.name then(s,28)else if !noB (zaM s fr)||!noB (zaM s q.name)then(s,13)else({s with marriages:=s.marriages++[(fr,q.name)]},0)):=by
  show _=_;unfold zdu;rw[dA]
 generalize zdu s ⟨7,dy,pl,fr,[q],cl,yr⟩=X at*;obtain⟨MA,mc,rfl,_,_⟩:=hP.marr.sl zbn;have y8:=hP.marr.ge;obtain⟨HC,HP,HT,HW⟩:=yH4 hC hP hT am;unfold WldC at hC;obtain⟨c0,-,-,c3⟩:=cF4 hC;have f3:w.frozen? ⟨b,3,none⟩=false:=by simp only[World.frozen?,hC];rfl
 have dP:∀W:World,Qa w W->∀n,(Instr.lookup 79 (.map (some dd)) (.string n) false).run Tryz.prog W=.ok (.bool (zaP s n)) W:=fun W hB n=>zd0 (HP.o.keep hB) _
 have fZ:=dP (w.alloc (.cells #[.int .i64 7,.int .i64 dy,.string pl,.string fr,.slice (some ⟨b',off,none⟩) 1 c,.int .i64 cl,.int .i64 yr] 28)) Bw fr;have sX:=dP (w.alloc (.cells #[.int .i64 7,.int .i64 dy,.string pl,.string fr,.slice (some ⟨b',off,none⟩) 1 c,.int .i64 cl,.int .i64 yr] 28)) Bw q.name;obtain⟨fT,Jf⟩:=yH2 (fun W (hB:Qa w W) n=>zjC base b s n W (am.peo.keep hB) Mcq) y8;clear dP hC hP hT am dA y8;unfold Deed.v;simp only;generalize zaP s fr=d1 at*;generalize zaP s q.name=d2 at*;have aq:(0:Int)<(1:Int):=Mcu;go_enter Tryz.func55,Tryz.ntmps55
 cases d1
 ·cases d2
  ·cases bD:noB (zaM s fr)
   ·have e1:(zaM s fr).toList.isEmpty=false:=bD;rw[bD]at jk;exact Ma4
   ·cases dY:noB (zaM s q.name)
    ·have e1:(zaM s fr).toList.isEmpty=true:=bD;have e2:(zaM s q.name).toList.isEmpty=false:=dY;rw[bD,dY]at jk;exact Ma4
    ·have e1:(zaM s fr).toList.isEmpty=true:=bD;have e2:(zaM s q.name).toList.isEmpty=true:=dY;rw[bD,dY]at jk
     go_wp2_with (first
      |(go_at_call 97;refine(fT.o _ Bw _).mono ?_;rintro e wq ⟨rfl,z,rfl⟩)
      |(at_builtin
        go_loud(refine zas (v:=.slice MA s.marriages.length mc) (n:=s.marriages.length) (m:=1) rfl _ _ rfl zg8 zbn zdJ rfl (HP.o.marr.keep (n:=w.heap.size) Bw) rfl rfl rfl (zmP (p:=(fr,q.name)) (zat _ _ _ Mdi)) McK Mcq (by have:=HW.o.lt;simp[zae];omega) ?_)
        intro v3 w3 h1 h2 h3;obtain⟨A6,c6,ei,_,_⟩:=h1.sl zbn;rw[List.length_append]at ei;subst ei;obtain⟨hA,zY⟩:=wld_marry aN (HC.o.keep (n:=w.heap.size) Bw) (HP.o.keep (n:=w.heap.size) Bw) (HT.o.keep (n:=w.heap.size) Bw) h1 h2;have zZ:=zY;unfold WldC at zZ;obtain⟨-,-,-,c33⟩:=cF4 zZ;have f33:w3.frozen? ⟨b,3,none⟩=false:=by simp only[World.frozen?,zZ];rfl
        have av:=zab zY;obtain⟨H2,HA⟩:=yH2 h2 hA;have cC:=((KeepD.below (w:=w) Bw).trans (KeepD.own (HP.o.marr.keep (n:=w.heap.size) Bw) h2 Mcu)).trans (KeepD.cells (za2 w3 b 3 (.slice A6 (s.marriages.length+[(fr,q.name)].length) c6)) zY Mcu);have kT:=zHi cC
        clear h1 h2 h3 hA zY zZ cC))
     go_ret
     have hX:=jk.o;simp only[Bool.or_self,Bool.not_true,Bool.false_eq_true,if_false]at hX;rw[hX];have aW:=HW.o.lt;exact⟨rfl,HA.o,zaN (Below.grown (a:=w) (B:=base) Bw H2.o McA (fun j hj=>(Jf.o j hj).1)) (by show base<=b;omega) _,kT.o⟩
  ·exact Mal
 ·exact Mal
end
section
variable {P:Program} {ops:Array Oper} {md:Region.Mode} {w₀:World}
def zeI(n:Nat)(listed:Array Bool):Nat:=(List.range n).countP fun i=>!listed.getD i false
def znY(s n:Nat):Array Bool:=((List.range s).map fun i=>decide (i<n)).toArray
theorem done_eq{n s:Nat}{listed:Array Bool}(hs:listed.size=s)(h1:∀i,i<n->i<s->listed.getD i false=true)(h2:∀i,n<=i->i<s->listed.getD i true=false):listed=znY s n:=by
 refine Array.ext (by simp[znY,hs]) fun i hi xB=>?_
 have Hh:i<s:=Mcq;simp only[znY,List.getElem_toArray,List.getElem_map,List.getElem_range];by_cases h:i<n
 ·have:=h1 i h Hh;simp only[Array.getD,hi,dite_true]at this;rw[decide_eq_true h];exact this
 ·have:=h2 i Mcq Hh;simp only[Array.getD,hi,dite_true]at this;rw[decide_eq_false h];exact this
theorem cnt_one(p q:Nat->Bool)(i:Nat)(hp:p i=true)(hq:q i=false)(h:∀x,x≠i->q x=p x):∀l:List Nat,l.Nodup->i∈l->l.countP p=l.countP q+1
 | [],_,hi=>by cases hi
 |x::l,hn,hi=>by
  rw[List.nodup_cons]at hn;rw[List.countP_cons,List.countP_cons];by_cases hx:x=i
  ·subst hx;rw[hp,hq];have:l.countP p=l.countP q:=List.countP_congr fun y hy=>by rw[h y (by rintro rfl;exact hn.1 hy)]
   simp[this]
  ·have:=cnt_one p q i hp hq h l hn.2 (by rcases List.mem_cons.1 hi with e|e;exact absurd e.symm hx;exact e);rw[h x hx];omega
theorem Filled.sameL{a0 a b:Act}{L:Nat->Prop}{f:Nat->Value}(ha:Filled ops a0 L f a)(hb:Filled ops a0 L f b):a=b:=by
 obtain⟨ta,da⟩:=a;obtain⟨tb,db⟩:=b;have h1:da=db:=ha.defers.trans hb.defers.symm;subst h1;congr 1
 refine Array.ext_getElem? fun t=>?_
 show(⟨ta,da⟩:Act).tmps[t]?=(⟨tb,da⟩:Act).tmps[t]?;by_cases aa:t<a0.tmps.size
 ·by_cases hx:∃i,L i/\zku ops t i
  ·obtain⟨i,hl,hi⟩:=hx;rw[ha.ins t i hl hi aa,hb.ins t i hl hi aa]
  ·rw[ha.outs t fun i hl hi=>hx ⟨i,hl,hi⟩,hb.outs t fun i hl hi=>hx ⟨i,hl,hi⟩]
 ·rw[Array.getElem?_eq_none (by rw[ha.size];omega),Array.getElem?_eq_none (by rw[hb.size];omega)]
def waits(md:Region.Mode)(ops:Array Oper)(i t:Nat):Bool:=match ops[t]? with
 |none=>false
 |some o=>o.after.any fun e=>Region.binds md e&&needs md ops i 6 e.on
def edgeB(md:Region.Mode)(ops:Array Oper)(i k:Nat):Bool:=match ops[k]? with
 |none=>false
 |some o=>o.after.any fun e=>Region.binds md e&&e.on==i
def apartB(ops:Array Oper)(i k:Nat):Bool:=match ops[i]?,ops[k]? with
 |some oi,some ok=>oi.apart ops ok
 |_,_=>true
def zhU(md:Region.Mode)(ops:Array Oper)(n:Nat)(E:List Nat):Bool:=
 (decide (n<ops.size)&&(zgA ops&&(fedBy md ops&&Region.noSelect ops)))&&
 (((List.range ops.size).all fun t=>decide (t<n)||(List.range n).all fun i=>E.contains i||waits md ops i t)&&
 ((E.all fun i=>decide (i<n)&&(List.range ops.size).all fun k=>k==i||(edgeB md ops i k||(edgeB md ops k i||apartB ops i k)))&&
 Region.seqB md ops (ops.size-n) n (znY ops.size n)))
theorem waits_of{i t:Nat}{listed:Array Bool}(hc:zfo md ops listed)(hr:t∈Region.ready md ops listed)(h:waits md ops i t=true):listed.getD i false=true:=by
 obtain⟨_,o,ho,mu⟩:=mem_ready.1 hr;unfold waits at h;rw[ho]at h;simp only at h;rw[Array.any_eq_true]at h;obtain⟨j,hj,h2⟩:=h;rw[Bool.and_eq_true]at h2;exact zkx hc 6 _ h2.2 (mu o.after[j] (Array.getElem_mem hj) h2.1)
theorem edge_of{i k:Nat}{o:Oper}(ho:ops[k]?=some o)(h:edgeB md ops i k=true):∃e∈o.after,Region.binds md e=true/\e.on=i:=by
 unfold edgeB at h;rw[ho]at h;simp only at h;rw[Array.any_eq_true]at h;obtain⟨j,hj,h2⟩:=h;rw[Bool.and_eq_true,beq_iff_eq]at h2;exact⟨o.after[j],Array.getElem_mem hj,h2.1,h2.2⟩
theorem gets_mono{o:Oper}{a:Act}{w:World}{K K':Value->World->Prop}(h:zdD P o a w K)(hk:∀v w',K v w'->K' v w'):zdD P o a w K':=by
 unfold zdD at*;generalize(execOp a.eval o).run P w=r at*;cases r with
 |ok n w'=>
  cases n<;>simp only at h⊢
  case value u=>exact hk _ _ h
  case skip=>exact hk _ _ h
  case enter f args=>
   refine h.mono ?_;rintro e w'' ⟨v,rfl,hv⟩;exact⟨v,rfl,hk _ _ hv⟩
 |halt x w'=>exact h
theorem zjM{Q:Exit->Act->World->Prop}{m:Nat}:∀(fuel:Nat) (listed:Array Bool) (a:Act) (w:World),wpAny P md ops Q fuel listed a w->zcn P md ops Q m (fun _ _=>True) fuel listed a w
 |0,_,_,_,h=>h
 |fuel+1,_,_,_,h=>⟨h.1,fun i hi=>wpOp_mono (fun a' w' h'=>⟨trivial,zjM fuel _ a' w' h'⟩) (h.2 i hi)⟩
theorem zmQ{Q:Exit->Act->World->Prop}{i:Nat}{oi:Oper}{v:Value}(hi:ops[i]?=some oi)(bW:Region.noSelect ops=true)
 (hQ:∀c a w,Q (.panic c) (a.put oi.dst v) w->Q (.panic c) a w)(fuel:Nat)(listed:Array Bool)(a:Act)(w:World)
 (hf:∀j oj,ops[j]?=some oj->j≠i->listed.getD j true=false->(∀e∈oj.after,Region.binds md e=true->e.on≠i)->oi.apart ops oj=true)
 (hr:i∈Region.ready md ops listed)(hy:YieldsIf P ops (fun _=>True) oi v a)(h:wpAny P md ops Q fuel (listed.setIfInBounds i true) (a.put oi.dst v) w):wpAny P md ops Q (fuel+1) listed a w:=
 zhn (m:=ops.size) (S:=fun _ _=>True) _ _ _ _ (zgE (by have:=(Array.getElem?_eq_some_iff.1 hi).1;omega) hi (Region.noSelect_spec bW) hQ fuel listed a w hf hr hy trivial (zjM _ _ _ _ h))
theorem zoD{Q:Exit->Act->World->Prop}{a0:Act}{V:Nat->Value->World->Prop}{n:Nat}{E D:List Nat}(h:zhU md ops n E=true)(hDE:∀i,D.contains i=true->E.contains i=false)(hal:∀i o,D.contains i=true->ops[i]?=some o->∀(a:Act) (W:World),∃obj,(execOp a.eval o).run P W=.ok (.value (.pointer (some ⟨W.heap.size,0,none⟩))) (W.alloc obj))(hQ:∀d v c a w,Q (.panic c) (Act.put a d v) w->Q (.panic c) a w)(hmono:∀i v w z,V i v w->V i v (w.ext z))
 (hstep:∀i o,i<n->ops[i]?=some o->∀f z,(∀e∈o.after,Region.binds md e=true->V e.on (f e.on) (w₀.ext z))->zdD P o (zdF ops a0 f n) (w₀.ext z) (fun v w'=>V i v w'/\∃z',w'=(w₀.ext z).ext z'))
 (heag:∀i o,E.contains i=true->ops[i]?=some o->∀f z,(∀e∈o.after,Region.binds md e=true->V e.on (f e.on) (w₀.ext z))->∃v,V i v (w₀.ext z)/\∀W,(execOp (zdF ops a0 f n).eval o).run P W=.ok (.value v) W)
 (hend:∀f z,(∀i,i<n->V i (f i) (w₀.ext z))->(∀i j,i<n->j<n->D.contains i=true->D.contains j=true->i≠j->f i≠f j)->wpList P ops Q (ops.toList.drop n) (zdF ops a0 f n) (w₀.ext z)):
 ∀(k:Nat) (listed:Array Bool) (f:Nat->Value) (a:Act) (z:Ez),(∀i,D.contains i=true->listed.getD i false=true->∃b,f i=.pointer (some ⟨b,0,none⟩)/\b<(w₀.ext z).heap.size)->(∀i j,D.contains i=true->D.contains j=true->i≠j->listed.getD i false=true->listed.getD j false=true->f i≠f j)->listed.size=ops.size->zfo md ops listed->(∀t,n<=t->t<ops.size->listed.getD t true=false)->zeI n listed=k->Filled ops a0 (fun i=>listed.getD i false=true) f a->(∀i,listed.getD i false=true->V i (f i) (w₀.ext z))->
  wpAny P md ops Q (k+(ops.size-n)) listed a (w₀.ext z):=by
 unfold zhU at h;simp only[Bool.and_eq_true,decide_eq_true_eq]at h;obtain⟨⟨hn,hd,hf,bW⟩,jK,Le,EI⟩:=h;have EW:∀t i,n<=t->t<ops.size->i<n->E.contains i=false->waits md ops i t=true:=fun t i h1 h2 h3 h4=>by
  have:=List.all_eq_true.1 jK t (List.mem_range.2 h2);rw[decide_eq_false (by omega:¬t<n),Bool.false_or]at this;have:=List.all_eq_true.1 this i (List.mem_range.2 h3);rwa [h4,Bool.false_or]at this
 have GY:∀i o,ops[i]?=some o->i<n->∀(listed:Array Bool) (f:Nat->Value) (a:Act),Filled ops a0 (fun i=>listed.getD i false=true) f a->(∀e∈o.after,Region.binds md e=true->listed.getD e.on false=true)->execOp (zdF ops a0 f n).eval o=execOp a.eval o:=by
  intro i o ho aM listed f a hF mu;obtain⟨hg,L3,mJ⟩:=zi9 hf ho;have CP:=zge hd a0 f n (Nat.le_of_lt hn);refine execOp_congr o (fun cs b=>Region.noSelect_spec bW i o cs b ho) fun x hx=>?_
  cases x with
  |tmp t=>
   show(zdF ops a0 f n).tmps.getD t undef=a.tmps.getD t undef;have key:(zdF ops a0 f n).tmps[t]?=a.tmps[t]?:=by
    by_cases cW:∃j,zku ops t j
    ·obtain⟨j,hj⟩:=cW;obtain⟨e,he,hb,sJ⟩:=mJ t hx j hj;have xO:=mu e he hb;have aa:=L3 e he hb;rw[sJ]at xO aa;by_cases bT:t<a0.tmps.size
     ·rw[CP.ins t j Mcq hj bT,hF.ins t j xO hj bT]
     ·rw[Array.getElem?_eq_none (by rw[CP.size];exact Nat.le_of_not_lt bT),Array.getElem?_eq_none (by rw[hF.size];exact Nat.le_of_not_lt bT)]
    ·rw[CP.outs t fun j _ hj=>cW ⟨j,hj⟩,hF.outs t fun j _ hj=>cW ⟨j,hj⟩]
   rw[Array.getD_eq_getD_getElem?,Array.getD_eq_getD_getElem?,key]
  |_=>rfl
 intro k;induction k with
 |zero=>
  intro listed f a z Ab CN hs bj bT hc hF hV;have aH:∀i,i<n->listed.getD i false=true:=fun i hi=>by
   unfold zeI at hc;rw[List.countP_eq_zero]at hc;simpa using hc i (List.mem_range.2 hi)
  have hl:=done_eq hs (fun i hi _=>aH i hi) bT;have bP:(fun i=>listed.getD i false=true)=fun i=>i<n:=by
   funext i
   refine propext ⟨fun h=>?_,aH i⟩;refine Nat.lt_of_not_le fun bu=>?_
   by_cases aa:i<ops.size
   ·rw[getD_both (bT i bu aa)]at h;cases h
   ·have:¬i<listed.size:=by omega
    simp[this]at h
  rw[bP]at hF;have ha:a=zdF ops a0 f n:=hF.sameL (zge hd a0 f n (Nat.le_of_lt hn));have ci:(ops.toList.drop n).length=ops.size-n:=Mcv;have:=wpAny_of_seq (md:=md) (Q':=Q) (ops.toList.drop n) n listed a (w₀.ext z) (fun j=>by rw[List.getElem?_drop,Array.getElem?_toList]) (by rw[ci,hl];exact EI) (by rw[ha];exact hend f z (fun i hi=>hV i (aH i hi)) fun i j hi hj h1 h2 h3=>CN i j h1 h2 h3 (aH i hi) (aH j hj));rw[ci]at this;rw[Nat.zero_add];exact this
 |succ k ih=>
  intro listed f a z Ab CN hs bj bT hc hF hV;have qq:∀(i:Nat) (o:Oper) (v:Value) (z':Ez),i∈Region.ready md ops listed->i<n->ops[i]?=some o->(D.contains i=true->v=.pointer (some ⟨(w₀.ext z).heap.size,0,none⟩)/\(w₀.ext z).heap.size<((w₀.ext z).ext z').heap.size)->V i v ((w₀.ext z).ext z')->wpAny P md ops Q (k+(ops.size-n)) (listed.setIfInBounds i true) (a.put o.dst v) ((w₀.ext z).ext z'):=by
   intro i o v z' hi aM ho nQ hv;have qd:(w₀.ext z).heap.size<=((w₀.ext z).ext z').heap.size:=(zaq _ _).size;rw[zeV]at hv nQ qd⊢;have h2:=getD_both (mem_ready.1 hi).1;have aa:i<ops.size:=(Array.getElem?_eq_some_iff.1 ho).1;have ag:¬(listed.getD i false=true):=by rw[h2];exact Bool.false_ne_true
   have fO:=hF.put hd (g:=fun k=>if k=i then v else f k) ho ag (fun k hk=>if_neg (by rintro rfl;exact ag hk)) (if_pos rfl);have bP:∀k,(listed.setIfInBounds i true).getD k false=true↔(listed.getD k false=true\/k=i):=by
    intro k;by_cases hk:i=k
    ·subst hk;have:i<listed.size:=by omega
     simp[this]
    ·rw[getD_set_ne false hk];exact⟨.inl,fun h=>h.elim id fun e=>absurd e.symm hk⟩
   refine ih _ (fun k=>if k=i then v else f k) _ _ (fun k hk hl=>?_) (fun j k hj hk jX xO fL=>?_) (by simpa using hs) (zjG bj hi) (fun t h1 h3=>by rw[getD_set_ne true Mcq];exact bT t h1 h3) ?_ ?_ ?_
   ·by_cases ar:k=i
    ·subst ar;obtain⟨e1,e2⟩:=nQ hk;exact⟨_,by simp only[if_true];exact e1,e2⟩
    ·obtain⟨b,e1,e2⟩:=Ab k hk (((bP k).1 hl).resolve_right ar);exact⟨b,by simp only[if_neg ar];exact e1,Nat.lt_of_lt_of_le e2 qd⟩
   ·by_cases bF:j=i
    ·subst bF;obtain⟨e1,_⟩:=nQ hj;obtain⟨b,e3,e4⟩:=Ab k hk (((bP k).1 fL).resolve_right (Ne.symm jX));simp only[if_true,if_neg (Ne.symm jX)];exact Mbh
    ·by_cases ar:k=i
     ·subst ar;obtain⟨e1,_⟩:=nQ hk;obtain⟨b,e3,e4⟩:=Ab j hj (((bP j).1 xO).resolve_right bF);simp only[if_true,if_neg bF];exact Mbh
     ·simp only[if_neg bF,if_neg ar];exact CN j k hj hk jX (((bP j).1 xO).resolve_right bF) (((bP k).1 fL).resolve_right ar)
   ·have:=cnt_one (fun j=>!listed.getD j false) (fun j=>!(listed.setIfInBounds i true).getD j false) i (by simp[h2]) (by rw[(bP i).2 (.inr rfl)];rfl) (fun x hx=>by rw[getD_set_ne false (Ne.symm hx)]) (List.range n) List.nodup_range (List.mem_range.2 aM);unfold zeI at hc⊢;omega
   ·exact⟨fO.defers,fO.size,fun t ht=>fO.outs t fun k hk=>ht k ((bP k).2 hk),fun t k hk=>fO.ins t k ((bP k).1 hk)⟩
   ·intro k hk;rw[<-zeV];by_cases ar:k=i
    ·subst ar;simp only[if_true];rw[zeV];exact hv
    ·simp only[if_neg ar];rcases(bP k).1 hk with h|h
     ·exact hmono _ _ _ _ (hV k h)
     ·exact absurd h ar
  have aG:∀i,i<ops.size->listed.getD i false=false->(∀e o,ops[i]?=some o->e∈o.after->Region.binds md e=true->listed.getD e.on false=true)->i∈Region.ready md ops listed:=fun i hi hl h=>by
   have ho:ops[i]?=some ops[i]:=Array.getElem?_eq_getElem hi;rw[mem_ready];refine⟨?_,_,ho,fun e he hb=>h e _ ho he hb⟩;have aa:i<listed.size:=Mcq;simp only[Array.getD,aa,dite_true]at hl⊢;exact hl
  rw[show k+1+(ops.size-n)=(k+(ops.size-n))+1 by omega];by_cases hE:∃i,E.contains i=true/\i∈Region.ready md ops listed
  ·obtain⟨i,AF,hi⟩:=hE;obtain⟨h1,o,ho,mu⟩:=mem_ready.1 hi;have bh:=List.all_eq_true.1 Le i (by simpa using AF);simp only[Bool.and_eq_true,decide_eq_true_eq]at bh;obtain⟨aM,dX⟩:=bh;obtain⟨v,hv,hrun⟩:=heag i o AF ho f z fun e he hb=>hV e.on (mu e he hb)
   have h0:w₀.ext z=(w₀.ext z).ext ⟨#[],(w₀.ext z).drawn⟩:=by
    have key:∀u:World,u.ext ⟨#[],u.drawn⟩=u:=fun u=>by simp[World.ext]
    exact(key (w₀.ext z)).symm
   refine zmQ (v:=v) ho bW (fun c a w=>hQ _ _ c a w) _ _ _ _ (fun j oj hj bF dF mU=>?_) hi (.inl ⟨?_,fun W _=>?_⟩) ?_
   ·have:=List.all_eq_true.1 dX j (List.mem_range.2 (Array.getElem?_eq_some_iff.1 hj).1);simp only[Bool.or_eq_true,beq_iff_eq]at this;rcases this with h|h|h|h
    ·exact absurd h bF
    ·obtain⟨e,he,hb,DU⟩:=edge_of hj h;exact absurd DU (mU e he hb)
    ·obtain⟨e,he,hb,DU⟩:=edge_of ho h;have:=mu e he hb;rw[DU,getD_both dF]at this;cases this
    ·unfold apartB at h;rw[ho,hj]at h;exact h
   ·simp[Region.wanted,(zi9 hf ho).1]
   ·rw[<-GY i o ho aM listed f a hF mu];exact hrun W
   ·have:=qq i o v ⟨#[],(w₀.ext z).drawn⟩ hi aM ho (fun CM=>by rw[hDE i CM]at AF;cases AF) (by rw[<-h0];exact hv);rw[<-h0]at this;exact this
  ·have qt:∃i,i<n/\listed.getD i false=false:=by
    refine Classical.byContradiction fun mU=>?_
    have:zeI n listed=0:=by
     unfold zeI;rw[List.countP_eq_zero];intro i hi;cases hl:listed.getD i false with
     |true=>simp
     |false=>exact absurd ⟨i,List.mem_range.1 hi,hl⟩ mU
    omega
   refine⟨fun hr=>?_,fun i hi=>?_⟩
   ·exfalso
    have aH:∀i,i<ops.size->listed.getD i false=true:=by
     intro i;induction i using Nat.strongRecOn with
     |_ i ihi=>
      intro hi;cases hl:listed.getD i false with
      |true=>rfl
      |false=>
       exfalso
       have:=aG i hi hl fun e o ho he hb=>ihi e.on ((zi9 hf ho).2.1 e he hb) (by have:=(zi9 hf ho).2.1 e he hb;omega)
       rw[hr]at this;cases this
    obtain⟨i,hi,hl⟩:=qt;rw[aH i Mcq]at hl;cases hl
   ·obtain⟨h1,o,ho,mu⟩:=mem_ready.1 hi;have aa:i<ops.size:=(Array.getElem?_eq_some_iff.1 ho).1;have aM:i<n:=by
     refine Nat.lt_of_not_le fun bu=>?_
     have aH:∀j,j<n->listed.getD j false=true:=by
      intro j;induction j using Nat.strongRecOn with
      |_ j ihj=>
       intro hj;cases sJ:E.contains j with
       |false=>exact waits_of bj hi (EW i j bu aa hj sJ)
       |true=>
        cases hl:listed.getD j false with
        |true=>rfl
        |false=>
         exfalso
         exact hE ⟨j,sJ,aG j Mcq hl fun e o ho he hb=>ihj e.on ((zi9 hf ho).2.1 e he hb) (by have:=(zi9 hf ho).2.1 e he hb;omega)⟩
     obtain⟨j,hj,hl⟩:=qt;rw[aH j hj]at hl;cases hl
    have hw:Region.wanted o (yielded ops a.tmps)=true:=by simp[Region.wanted,(zi9 hf ho).1]
    unfold wpOp;simp only[ho];rw[if_pos hw];refine .inl ?_;have ai:=gets_same (GY i o ho aM listed f a hF mu) (hstep i o aM ho f z fun e he hb=>hV e.on (mu e he hb));have bQ:zdD P o a (w₀.ext z) (fun v w'=>(D.contains i=true->v=.pointer (some ⟨(w₀.ext z).heap.size,0,none⟩)/\(w₀.ext z).heap.size<w'.heap.size)/\V i v w'/\∃z',w'=(w₀.ext z).ext z'):=by
     cases CM:D.contains i with
     |false=>exact gets_mono ai fun v w' hv=>⟨fun h=>(by cases h),hv⟩
     |true=>
      obtain⟨obj,hrun⟩:=hal i o CM ho a (w₀.ext z);unfold zdD at ai⊢;rw[hrun]at ai⊢;exact⟨fun _=>⟨rfl,by simp⟩,ai⟩
    refine gets_wp bQ ?_;rintro v w' ⟨nQ,hv,z',rfl⟩;exact qq i o v z' hi aM ho nQ hv
def zhp(P:Program)(ops:Array Oper):List Nat->Prop
 | []=>True
 |i::rest=>(∀o,ops[i]?=some o->∀(a:Act) (W:World),∃obj,(execOp a.eval o).run P W=.ok (.value (.pointer (some ⟨W.heap.size,0,none⟩))) (W.alloc obj))/\zhp P ops rest
theorem zlF:∀(D:List Nat),zhp P ops D->∀i∈D,∀o,ops[i]?=some o->∀(a:Act) (W:World),∃obj,(execOp a.eval o).run P W=.ok (.value (.pointer (some ⟨W.heap.size,0,none⟩))) (W.alloc obj)
 | [],_,_,hi=>by cases hi
 |x::D,h,i,hi=>by
  rcases List.mem_cons.1 hi with e|e
  ·rw[e];exact h.1
  ·exact zlF D h.2 i e
def zdn(P:Program)(md:Region.Mode)(w₀:World)(A:(Nat->Value)->Act)(V:Nat->Value->World->Prop)(ops:Array Oper):List Nat->Prop
 | []=>True
 |i::rest=>(∀o,ops[i]?=some o->∀f z,(∀e∈o.after,Region.binds md e=true->V e.on (f e.on) (w₀.ext z))->∃v,V i v (w₀.ext z)/\∀W,(execOp (A f).eval o).run P W=.ok (.value v) W)/\zdn P md w₀ A V ops rest
theorem zlG{A:(Nat->Value)->Act}{V:Nat->Value->World->Prop}:∀(E:List Nat),zdn P md w₀ A V ops E->∀i∈E,∀o,ops[i]?=some o->∀f z,(∀e∈o.after,Region.binds md e=true->V e.on (f e.on) (w₀.ext z))->∃v,V i v (w₀.ext z)/\∀W,(execOp (A f).eval o).run P W=.ok (.value v) W
 | [],_,_,hi=>by cases hi
 |x::E,h,i,hi=>by
  rcases List.mem_cons.1 hi with e|e
  ·rw[e];exact h.1
  ·exact zlG E h.2 i e
theorem zcG{Q:Exit->Act->World->Prop}{id:Nat}{a:Act}{w:World}{V:Nat->Value->World->Prop}{A:(Nat->Value)->Act}(n:Nat)(E D:List Nat)(hA:∀f,zdF ops a f n=A f)(hm:P.follows .mixedOrders=true)(hht:zhU .any ops n E=true)(hDE:(D.all fun i=>!E.contains i)=true)(hal:zhp P ops D)
 (hQ:∀d v c a w,Q (.panic c) (Act.put a d v) w->Q (.panic c) a w)(hmono:∀i v w z,V i v w->V i v (w.ext z))
 (hstep:zd1 P .any w.drew A V 0 (ops.toList.take n))(heag:zdn P .any w.drew A V ops E)
 (hend:∀f z,(∀i,i<n->V i (f i) (w.drew.ext z))->(∀i j,i<n->j<n->D.contains i=true->D.contains j=true->i≠j->f i≠f j)->wpList P ops Q (ops.toList.drop n) (A f) (w.drew.ext z)):(Code.region id ops true).wp P Q a w:=by
 refine wp_region_any hm ?_;have h0:({w with drawn:=w.drawn+1}:World)=w.drew.ext ⟨#[],w.drew.drawn⟩:=by
  have key:∀u:World,u.ext ⟨#[],u.drawn⟩=u:=fun u=>by simp[World.ext]
  exact(key w.drew).symm
 rw[h0];have hn:n<ops.size:=by
  unfold zhU at hht;simp only[Bool.and_eq_true,decide_eq_true_eq]at hht;exact hht.1.1
 have hk:zeI n (Array.replicate ops.size false)=n:=by
  unfold zeI;have:(fun i=>!(Array.replicate ops.size false).getD i false)=fun _=>true:=by
   funext i
   rw[getD_replicate_false];rfl
  rw[this];simp
 have iB:∀i,¬(Array.replicate ops.size false).getD i false=true:=fun i=>by rw[getD_replicate_false];exact Bool.false_ne_true
 have:=zoD (P:=P) (md:=.any) (w₀:=w.drew) (Q:=Q) (a0:=a) (V:=V) (D:=D) hht (fun i hi=>by
  have:=List.all_eq_true.1 hDE i Mek;simpa using this) (fun i o hi ho a W=>zlF D hal i Mek o ho a W) hQ hmono (fun i o aM ho f z hz=>by
  rw[hA];have hl:(ops.toList.take n)[i]?=some o:=by rw[List.getElem?_take,if_pos aM,Array.getElem?_toList];exact ho
  have:=znQ (ops.toList.take n) 0 hstep i o hl f z hz;rw[Nat.zero_add]at this
  exact this) (fun i o hi ho f z hz=>by rw[hA];exact zlG E heag i Mek o ho f z hz) (fun f z h h2=>by rw[hA];exact hend f z h h2) n (Array.replicate ops.size false) (fun _=>undef) a ⟨#[],w.drew.drawn⟩ (fun i _ hl=>absurd hl (iB i)) (fun i _ _ _ _ hl=>absurd hl (iB i)) Mcv (fun k o ho hl=>absurd hl (iB k))
  (fun t _ ht=>getD_in (by simpa using ht) (getD_replicate_false _ _)) hk ⟨rfl,rfl,fun _ _=>rfl,fun t i hi=>absurd hi (iB i)⟩ (fun i hi=>absurd hi (iB i))
 rw[show n+(ops.size-n)=ops.size by omega]at this;exact this
end
def zoE(p:Value->World->Prop):Prop:= ∀v W z,p v W->p v (W.ext z)
def vIs(u:Value)(v:Value)(_:World):Prop:=v=u
theorem mono_vIs(u:Value):zoE (vIs u):=fun _ _ _ h=>h
def vL(Vs:List (Value->World->Prop))(i:Nat)(v:Value)(W:World):Prop:=(Vs.getD i (fun _ _=>True)) v W
theorem ziG{Vs:List (Value->World->Prop)}(h:∀p∈Vs,zoE p)(i:Nat)(v:Value)(W:World)(z:Ez)(hv:vL Vs i v W):vL Vs i v (W.ext z):=by
 unfold vL at*;rw[List.getD_eq_getElem?_getD]at*;cases hx:Vs[i]? with
 |none=>trivial
 |some p=>
  rw[hx]at hv;exact h p (List.mem_of_getElem? hx) _ _ _ hv
