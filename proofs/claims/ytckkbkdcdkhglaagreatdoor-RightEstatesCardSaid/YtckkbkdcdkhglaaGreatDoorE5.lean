/- Walk of chapter 5's people.take: children. -/
import Derived.Test.YtckkbkdcdkhglaaGreatDoorE6
import Derived.Test.YtckkbkdcdkhglaaGreatDoorJP
set_option linter.unusedSimpArgs false
set_option linter.unusedVariables false
set_option maxRecDepth 100000
set_option maxHeartbeats 4000000
namespace Go.Proofs.YtckkbkdcdkhglaaGreatDoor
open Go.RowKit Go.Shelf
attribute [local go_sem] World.cell?_alloc_mark zag za5 zaq za8 zaw zax zay zaz za0 za1 za2
attribute [local go_sem] zap zad
theorem will_any (base b:Nat) (s:St) (la co:Int) (d:Deed) (B:Option Addr) (c:Nat) (w:World) (hW:WldAt base w b s la co) (hd:OkD d) (hk:d.kind=4) (hS:Sl w 3 RPart.cells B d.to):
 Calls Tryz.prog 128 #[.pointer (some ⟨b,0,none⟩),d.v B c] w (zbF base b (zgO s d) la co w):=by
 obtain⟨bn,_,_,_⟩:=zdX (hd.parts (.inr (.inr hk))).2;have bz:=hd.len;have Fe:=rat_cells (fun p hp=>(bn p hp).2.2) hS;clear hd bn;have ao:=hW;obtain⟨Bk,dd,cc,pp,wl,rr,mv,tv,ps,ba,hC,hP,hT⟩:=hW;have dH:=zab hC;obtain⟨kd,dy,pl,fr,ts,cl,yr⟩:=d;simp only at*;subst hk;have jg:Hid (zgO s ⟨4,dy,pl,fr,ts,cl,yr⟩=if zaH s fr then(s,28)else({s with wills:=s.wills++[(fr,zao ts)]},0)):=rfl;generalize zgO s ⟨4,dy,pl,fr,ts,cl,yr⟩=X at*;have ag:(zao ts).length=ts.length:=by unfold zao;rw[List.length_map]
 have Ii:=zHi Fe;have HC:=zHi hC;have HP:=zHi hP;have HT:=zHi hT;have HW:=zHi ao;unfold WldC at hC;obtain⟨c0,-,-,-,c4⟩:=cF5 hC;have dM: ∀W:World,Below w.heap.size w W->(Instr.lookup 82 (.map (some dd)) (.string fr) false).run Tryz.prog W= .ok (.bool (zaH s fr)) W:=fun W hB=>zcZ (HP.o.keep hB) _
 have ij:=zHi dM;generalize zaH s fr=dx at*;have eG:=zHi ag;clear dM hC hP hT ao Fe hS ag;unfold Deed.v;simp only;have eB:=ij.o (w.alloc (.cells #[.int .i64 4, .int .i64 dy, .string pl, .string fr, .slice B ts.length c, .int .i64 cl, .int .i64 yr] 68)) Bw;go_enter Tryz.func128,Tryz.ntmps128
 cases dx
 ·go_upto_region 5 with fail
  refine wp_region_held_drew (S:=(fun w'=>w'.cell? ⟨b,4,none⟩=some (.map (some wl))/\w'.cell? ⟨w.heap.size,4,none⟩=some (.slice B ts.length c))) Mcm ?hS ?hrest
  case hS=>((try dsimp only);refine⟨?_,?_⟩<;>(simp[go_sem,c4,dH];done))
  case hrest=>
   intro hHeld;refine TkH 0 ?_;refine TkH 1 ?_;refine TkH 2 ?_;refine TkH 3 ?_;refine TkH 4 ?_;refine TkH 5 ?_;refine TkH 6 ?_;refine OnH 7 fun K hK=> ?_
   go_simp
   refine(ze8 (zao ts) B ts.length c _ eG.o.symm (by rw[eG.o];omega) (Ii.o.keep (n:=w.heap.size) Bw)).mono ?_;rintro e w5 ⟨v,rfl,n1,n2⟩;have nw:Below w.heap.size w w5:=(Bw:Below w.heap.size w _).trans (n2.mono Mco);have p4:w5.cell? ⟨b,4,none⟩=some (.map (some wl)):=(zah nw dH).trans c4;have q4:w5.cell? ⟨w.heap.size,4,none⟩=some (.slice B ts.length c):=(zah n2 Mco).trans McN;have jP:=n2.size;simp only[World.size_drew,World.size_alloc]at jP;obtain⟨VA,vc,rfl,kC,ee⟩:=n1.ro;obtain⟨m,k7,k8⟩:=(HP.o.keep nw).wills;obtain⟨es,ec,hx⟩:=zbx k7;have fF:=HP.o.ge;have cx:=k7.at.lt;have KV:wl<w.heap.size:=by
    obtain⟨m0,k70,_⟩:=HP.o.wills;exact k70.at.lt
   have bj:b≠wl:=fun e=>by
    subst e;have h1:=HC.o.keep nw;unfold WldC at h1;rw[h1]at hx;simp at hx
   have qz:=zHi ee;have K7:=zHi k7;have K8:=zHi k8;have HX:=zHi hx;have aH:=zHi nw;clear n1 n2 ee k7 k8 hx nw;refine hK.out _ _ ?_ (fun hHeld=> ?_);focus((try dsimp only);refine⟨?_,?_⟩<;>assumption)
   clear hK K;try simp only[Act.put,List.setIfInBounds_toArray,List.set_cons_zero,List.set_cons_succ]
   refine OnH 8 fun K hK=> ?_
   obtain⟨w6,hrun,iU,bH,kv⟩:=zcu mapSP K7.o fr (.slice VA (zao ts).length vc);refine zdb rfl _ _ _ rfl _ _ _ rfl rfl rfl w6 hrun ?_;have p6:w6.cell? ⟨b,4,none⟩=some (.map (some wl)):=(zbd bH Mcl bj).trans p4;have q6:w6.cell? ⟨w.heap.size,4,none⟩=some (.slice B ts.length c):=(zbd bH Mcl Mcl).trans q4;have uN:=zHi iU;have jG:=zHi bH;clear iU bH hrun;refine hK.out _ _ ?_ (fun hHeld=> ?_);focus((try dsimp only);refine⟨?_,?_⟩<;>assumption)
   clear hK K;try simp only[Act.put,List.setIfInBounds_toArray,List.set_cons_zero,List.set_cons_succ]
   refine wpAnyH_done Mcm ?_ _;go_wp2_with fail
   go_ret
   have hX:=jg.o;simp only[Bool.false_eq_true,if_false]at hX;rw[hX];refine⟨rfl,zmP ba (HC.o.keep aH.o) (HT.o.keep aH.o) jG.o HX.o rfl (ppl_will (HP.o.keep aH.o) jG.o uN.o fun n=> ?_),zaS (aH.o.mono Mcl) jG.o fF.2.2.2.1 Mcl,(KeepD.below aH.o).trans (KeepD.map jG.o HX.o)⟩;rw[zfL];unfold WillIs;rw[zfi];have KC:zae n fr=zae fr n:=by rw[Bool.eq_iff_iff,zat,zat];exact⟨Eq.symm,Eq.symm⟩
   rw[KC];cases hn:zae fr n
   ·exact(K8.o n).keptM jG.o HX.o
   ·exact .inr ⟨VA,vc,rfl,qz.o.keptM jG.o HX.o⟩
 ·exact Mao
theorem zlA (base b:Nat) (s:St) (la co:Int) (d:Deed) (B:Option Addr) (c:Nat) (w:World) (hW:WldAt base w b s la co) (hd:OkD d) (hk:d.kind=5) (ay:d.to.length<=c) (hS:Sl w 3 RPart.cells B d.to):
 Calls Tryz.prog 128 #[.pointer (some ⟨b,0,none⟩),d.v B c] w (zbF base b (zb7 s d) la co w):=by
 obtain⟨aR,_⟩:=hd.one (.inl hk);obtain⟨q,hq⟩: ∃q,d.to=[q]:=List.length_eq_one_iff.1 aR;have fS:zbh d=q.name:=by unfold zbh;rw[hq];rfl
 obtain⟨b',off,rfl,cK,aU⟩:=hS.at (show 0<d.to.length by rw[hq];exact Nat.zero_lt_one);have i0:w.cell? ⟨b',off,none⟩=some (.string q.name):=by
  exact Mbc
 have pm:1<=c:=by rw[hq]at ay;exact ay
 clear hd aR aU hS ay;have ao:=hW;obtain⟨Bk,dd,cc,pp,wl,rr,mv,tv,ps,ba,hC,hP,hT⟩:=hW;have dH:=zab hC;obtain⟨kd,dy,pl,fr,ts,cl,yr⟩:=d;simp only at*;subst hq hk;have jg:Hid (zb7 s ⟨5,dy,pl,fr,[q],cl,yr⟩=if zaH s fr||zaH s q.name then(s,28)else if s.renounce.any (fun r=>zae r.1 fr&&zae r.2 q.name)then(s,5)else({s with renounce:=s.renounce++[(fr,q.name)]},0)):=by
  show _=_;unfold zb7;rw[fS]
 generalize zb7 s ⟨5,dy,pl,fr,[q],cl,yr⟩=X at*;have HC:=zHi hC;have HP:=zHi hP;have HT:=zHi hT;have HW:=zHi ao;unfold WldC at hC;obtain⟨c0,-,-,-,-,c5⟩:=cF6 hC;have dM: ∀W:World,Below w.heap.size w W-> ∀n,(Instr.lookup 82 (.map (some dd)) (.string n) false).run Tryz.prog W= .ok (.bool (zaH s n)) W:=fun W hB n=>zcZ (HP.o.keep hB) _
 have dw: ∀W:World,Below w.heap.size w W->(Instr.lookup 85 (.map (some rr)) (.agg #[.string fr, .string q.name]) false).run Tryz.prog W= .ok (.bool (s.renounce.any fun r=>zae r.1 fr&&zae r.2 q.name)) W:=fun W hB=>znH (HP.o.keep hB) _ _
 have tU:=ziG (eq:=eqP) (k:=(fr,q.name)) (l:=s.renounce);rw[zm9]at tU;have ij:=zHi dM;have gu:=zHi dw;have I2:=zHi tU;clear dM dw tU hC hP hT ao fS;unfold Deed.v;simp only;obtain⟨W1,aV⟩: ∃W1,W1=w.alloc (.cells #[.int .i64 5, .int .i64 dy, .string pl, .string fr, .slice (some ⟨b',off,none⟩) 1 c, .int .i64 cl, .int .i64 yr] 68):=⟨_,rfl⟩
 have cE:Below w.heap.size w W1:=by rw[aV];exact Bw
 have k1:=ij.o W1 cE fr;have k2:=ij.o W1 cE q.name;have k3:=gu.o W1 cE;have xW:=(HP.o.keep cE).ren;have aG:=zHi cE;rw[aV]at k1 k2 k3;have uY:=zHi xW;have te:=zHi aV;clear xW cE aV;generalize zaH s fr=d1 at*;generalize zaH s q.name=d2 at*;generalize(s.renounce.any fun r=>zae r.1 fr&&zae r.2 q.name)=rx at*;have aj:(0:Int)<(1:Int):=Mcn;go_enter Tryz.func128,Tryz.ntmps128
 cases d1
 ·cases d2
  ·cases rx
   ·obtain⟨es,ec,hx⟩:=zbx uY.o;have HX:=zHi hx;clear hx;go_wp2_with (at_mapUpdate;obtain⟨w6,hrun,iU,bH,kv⟩:=zcu mapPB uY.o (fr,q.name) true;rw[te.o]at hrun;go_loud(refine zdi rfl _ _ _ rfl _ _ _ rfl rfl rfl w6 hrun ?_))
    go_ret
    have hX:=jg.o;simp only[Bool.or_self,Bool.false_eq_true,if_false]at hX;rw[hX];have fF:=HP.o.ge;have sm:MapS w6 rr ekP evB ((s.renounce++[(fr,q.name)]).map fun x=>(x,true)):=by
     rw[zk7 (I2.o (by first|rfl|trivial))]at iU;simpa using iU
    have aK:=HW.o.lt;exact⟨rfl,zmP ba (HC.o.keep aG.o) (HT.o.keep aG.o) bH HX.o rfl (ppl_ren (HP.o.keep aG.o) bH sm),zaS (aG.o.mono Mcl) bH fF.2.2.2.2 Mcl,(KeepD.below aG.o).trans (KeepD.map bH HX.o)⟩
   ·exact Mao
  ·exact Mao
 ·exact Mao
theorem zmQ {w:World} {b:Nat} {p:ByteArray×ByteArray} {t:TypeId} {fr:Nat×Nat} (h:w.heap[b]?=some (.cells #[.string p.1, .string p.2] t fr)):Sl w 2 zaT (some ⟨b,0,none⟩) [p]:=fun _=>⟨b,0,rfl,zab h,fun k y hy j u hu=>by
 have hk:k=0:=Mcx;subst hk;simp only[List.getElem?_cons_zero,Option.some.injEq]at hy;subst hy;match j,hu with
 |0,hu=>simp[zaT]at hu;simp[World.cell?,h,<-hu]
 |1,hu=>simp[zaT]at hu;simp[World.cell?,h,<-hu]
 |j+2,hu=>simp[zaT]at hu⟩
theorem marry_any (base b:Nat) (s:St) (la co:Int) (d:Deed) (B:Option Addr) (c:Nat) (w:World) (hW:WldAt base w b s la co) (hd:OkD d) (hk:d.kind=7) (ay:d.to.length<=c) (hS:Sl w 3 RPart.cells B d.to) (ft:s.marriages.length<=1000):
 Calls Tryz.prog 128 #[.pointer (some ⟨b,0,none⟩),d.v B c] w (zbF base b (zdp s d) la co w):=by
 obtain⟨aR,_⟩:=hd.one (.inr (.inr hk));obtain⟨q,hq⟩: ∃q,d.to=[q]:=List.length_eq_one_iff.1 aR;have fS:zbh d=q.name:=by unfold zbh;rw[hq];rfl
 obtain⟨b',off,rfl,cK,aU⟩:=hS.at (show 0<d.to.length by rw[hq];exact Nat.zero_lt_one);have i0:w.cell? ⟨b',off,none⟩=some (.string q.name):=by
  exact Mbc
 have pm:1<=c:=by rw[hq]at ay;exact ay
 clear hd aR aU hS ay;have ao:=hW;obtain⟨Bk,dd,cc,pp,wl,rr,mv,tv,ps,ba,hC,hP,hT⟩:=hW;have dH:=zab hC;obtain⟨kd,dy,pl,fr,ts,cl,yr⟩:=d;simp only at*;subst hq hk;have jg:Hid (zdp s ⟨7,dy,pl,fr,[q],cl,yr⟩=if zaH s fr||zaH s q.name then(s,28)else if !noB (zaL s fr)||!noB (zaL s q.name)then(s,13)else({s with marriages:=s.marriages++[(fr,q.name)]},0)):=by
  show _=_;unfold zdp;rw[fS]
 generalize zdp s ⟨7,dy,pl,fr,[q],cl,yr⟩=X at*;obtain⟨MA,mc,rfl,_,_⟩:=hP.marr.sl zbk;have xz:=hP.marr.ge;have HC:=zHi hC;have HP:=zHi hP;have HT:=zHi hT;have HW:=zHi ao;unfold WldC at hC;obtain⟨c0,-,-,c3⟩:=cF4 hC;have f3:w.frozen? ⟨b,3,none⟩=false:=by simp only[World.frozen?,hC];rfl
 have dM: ∀W:World,Below w.heap.size w W-> ∀n,(Instr.lookup 82 (.map (some dd)) (.string n) false).run Tryz.prog W= .ok (.bool (zaH s n)) W:=fun W hB n=>zcZ (HP.o.keep hB) _
 have fX:=dM (w.alloc (.cells #[.int .i64 7, .int .i64 dy, .string pl, .string fr, .slice (some ⟨b',off,none⟩) 1 c, .int .i64 cl, .int .i64 yr] 68)) Bw fr;have pF:=dM (w.alloc (.cells #[.int .i64 7, .int .i64 dy, .string pl, .string fr, .slice (some ⟨b',off,none⟩) 1 c, .int .i64 cl, .int .i64 yr] 68)) Bw q.name;have fK:=zHi (fun W (hB:Below w.heap.size w W) n=>zjH base b s n W (ao.peo.keep hB) Mcl);have I0:=zHi xz;clear dM hC hP hT ao fS xz;unfold Deed.v;simp only;generalize zaH s fr=d1 at*;generalize zaH s q.name=d2 at*;have aj:(0:Int)<(1:Int):=Mcn;go_enter Tryz.func128,Tryz.ntmps128
 cases d1
 ·cases d2
  ·cases cD:noB (zaL s fr)
   ·have e1:(zaL s fr).toList.isEmpty=false:=cD;rw[cD]at jg;exact Ma2
   ·cases ed:noB (zaL s q.name)
    ·have e1:(zaL s fr).toList.isEmpty=true:=cD;have e2:(zaL s q.name).toList.isEmpty=false:=ed;rw[cD,ed]at jg;exact Ma2
    ·have e1:(zaL s fr).toList.isEmpty=true:=cD;have e2:(zaL s q.name).toList.isEmpty=true:=ed;rw[cD,ed]at jg
     go_wp2_with (first
      |(go_at_call 72;refine(fK.o _ Bw _).mono ?_;rintro e wq ⟨rfl,z,rfl⟩)
      |(at_builtin
        go_loud(refine zav (v:= .slice MA s.marriages.length mc) (n:=s.marriages.length) (m:=1) rfl _ _ rfl zgo zbk zdB rfl (HP.o.marr.keep (n:=w.heap.size) Bw) rfl rfl rfl (zmQ (p:=(fr,q.name)) (zar _ _ _ Mdh)) McJ Mcl (by have:=HW.o.lt;simp[zag];omega) ?_)
        intro v3 w3 h1 h2 h3;obtain⟨A6,c6,dE,_,_⟩:=h1.sl zbk;rw[List.length_append]at dE;subst dE;obtain⟨hA,zi⟩:=wld_marry ba (HC.o.keep (n:=w.heap.size) Bw) (HP.o.keep (n:=w.heap.size) Bw) (HT.o.keep (n:=w.heap.size) Bw) h1 h2;have zj:=zi;unfold WldC at zj;obtain⟨-,-,-,c33⟩:=cF4 zj;have f33:w3.frozen? ⟨b,3,none⟩=false:=by simp only[World.frozen?,zj];rfl
        have av:=zab zi;have H2:=zHi h2;have HA:=zHi hA;have cf:=((KeepD.below (w:=w) Bw).trans (KeepD.own (HP.o.marr.keep (n:=w.heap.size) Bw) h2 Mcn)).trans (KeepD.cells (zau w3 b 3 (.slice A6 (s.marriages.length+[(fr,q.name)].length) c6)) zi Mcn);have jV:=zHi cf
        clear h1 h2 h3 hA zi zj cf))
     go_ret
     have hX:=jg.o;simp only[Bool.or_self,Bool.not_true,Bool.false_eq_true,if_false]at hX;rw[hX];have aK:=HW.o.lt;exact⟨rfl,HA.o,zaO (Below.grown (a:=w) (B:=base) Bw H2.o Mcu (fun j hj=>(I0.o j hj).1)) (by show base<=b;omega) _,jV.o⟩
  ·exact Mao
 ·exact Mao
structure Fr2 (w W:World) (va vb:Value):Prop where
 os:W.os=w.os
 tape:W.tape=w.tape
 output:W.output=w.output
 size:w.heap.size<=W.heap.size
 block: ∀k,k<w.heap.size->za7 va≠some k->za7 vb≠some k->W.heap[k]?=w.heap[k]?
section
variable {w W W':World} {va vb:Value} {n:Nat}
theorem Fr2.of_below (h:Below w.heap.size w W):Fr2 w W va vb:=⟨h.os,h.tape,h.output,h.size,fun k hk _ _=>h.block k hk⟩
theorem Fr2.below (h:Fr2 w W va vb) (k:Below W.heap.size W W'):Fr2 w W' va vb:=⟨k.os.trans h.os,k.tape.trans h.tape,k.output.trans h.output,Nat.le_trans h.size k.size,fun i hi h1 h2=>(k.block i (Nat.lt_of_lt_of_le hi h.size)).trans (h.block i hi h1 h2)⟩
theorem Fr2.row (h:Fr2 w W va vb) {row:Option Nat} (k:W.grownBy W' row) (hr: ∀j,row=some j->za7 va=some j\/za7 vb=some j\/w.heap.size<=j):Fr2 w W' va vb:=
 ⟨k.os.trans h.os,k.tape.trans h.tape,k.output.trans h.output,Nat.le_trans h.size k.size,fun i hi h1 h2=>(k.block i (Nat.lt_of_lt_of_le hi h.size) (fun e=>by
   rcases hr i e.symm with h|h|h
   ·exact h1 h
   ·exact h2 h
   ·omega)).trans (h.block i hi h1 h2)⟩
theorem Fr2.cells {base:Nat} {xs ys:List ByteArray} (h:Fr2 w W va vb) (ha:OwnS w base 9 1 sC va xs) (hb:OwnS w base 9 1 sC vb ys) {k:Nat} {o:Obj} (hk:w.heap[k]?=some o) (ho: ∀cur,o≠ .cells cur 9 (0,0)):W.heap[k]?=some o:=by
 refine(h.block k (Array.getElem?_eq_some_iff.1 hk).1 (fun e=> ?_) (fun e=> ?_)).trans hk
 ·obtain⟨cur,h'⟩:=zfj ha e;rw[h']at hk;exact ho cur (Option.some.inj hk).symm
 ·obtain⟨cur,h'⟩:=zfj hb e;rw[h']at hk;exact ho cur (Option.some.inj hk).symm
theorem Fr2.mapS {base:Nat} {xs ys:List ByteArray} (h:Fr2 w W va vb) (ha:OwnS w base 9 1 sC va xs) (hb:OwnS w base 9 1 sC vb ys) {b:Nat} {m:List (ByteArray×Value)} (hm:MapS w b ekS (fun v:Value=>v) m):MapS W b ekS (fun v:Value=>v) m:=by
 obtain⟨es,c,hx⟩:=zbx hm;exact hm.keep ((h.cells ha hb hx (fun cur e=>by cases e)).trans hx.symm)
end
theorem zhf {P:Program} {ops:Array Oper} {o:Oper} {a:Act} {w:World} {K:Act->World->Prop} {Q:Exit->Act->World->Prop} {E:Prop} {T:TypeId} (bT:o.guard=none) (x i:Operand) (ho:o.op= .mapEntry T x i) (vx vi v:Value) (hx:a.eval x=vx) (hi:a.eval i=vi) (w':World)
 (hrun:(Instr.mapEntry T vx vi).run P w= .ok v w') (h:K (a.put o.dst v) w'):if Region.wanted o (yielded ops a.tmps)=true then Oper.wp P o a w K Q else E:=by
 have hw:Region.wanted o (yielded ops a.tmps)=true:=by simp[Region.wanted,bT]
 rw[if_pos hw];unfold Oper.wp;simp[execOp,ho,hx,hi,hrun,Result.andThen];exact h
theorem zfR {P:Program} {ops:Array Oper} {o:Oper} {a:Act} {w:World} {K:Act->World->Prop} {Q:Exit->Act->World->Prop} {E:Prop} {T:TypeId} (bT:o.guard=none) (x i u:Operand) (ho:o.op= .entryStore T x i u) (vx vi vu:Value) (hx:a.eval x=vx) (hi:a.eval i=vi) (hu:a.eval u=vu) (w':World)
 (hrun:(Instr.entryStore T vx vi vu).run P w= .ok () w') (h:K (a.put o.dst undef) w'):if Region.wanted o (yielded ops a.tmps)=true then Oper.wp P o a w K Q else E:=by
 exact Maf
theorem child_any (base b:Nat) (s:St) (la co:Int) (d:Deed) (B:Option Addr) (c:Nat) (w:World) (hW:WldAt base w b s la co) (hd:OkD d) (hk:d.kind=6) (ay:d.to.length<=c) (hS:Sl w 3 RPart.cells B d.to) (bo:s.children.length<=1000):
 Calls Tryz.prog 128 #[.pointer (some ⟨b,0,none⟩),d.v B c] w (zbF base b (zcD s d) la co w):=by
 obtain⟨aR,_⟩:=hd.one (.inr (.inl hk));obtain⟨q,hq⟩: ∃q,d.to=[q]:=List.length_eq_one_iff.1 aR;have fS:zbh d=q.name:=by unfold zbh;rw[hq];rfl
 obtain⟨b',off,rfl,cK,aU⟩:=hS.at (show 0<d.to.length by rw[hq];exact Nat.zero_lt_one);have i0:w.cell? ⟨b',off,none⟩=some (.string q.name):=by
  exact Mbc
 have pm:1<=c:=by rw[hq]at ay;exact ay
 clear hd aR aU hS ay;have ao:=hW;obtain⟨Bk,dd,cc,pp,wl,rr,mv,tv,ps,ba,hC,hP,hT⟩:=hW;have dH:=zab hC;obtain⟨kd,dy,pl,fr,ts,cl,yr⟩:=d;simp only at*;subst hq hk;classical
 have jg:Hid (zcD s ⟨6,dy,pl,fr,[q],cl,yr⟩=if(zai s fr).any (zae q.name)then(s,5)else if decide (2<=(zbQ s q.name).length)then(s,16)else if decide (Desc s q.name fr)then(s,25)else({s with children:=s.children++[(fr,q.name)]},0)):=by
  show _=_;unfold zcD;rw[fS]
 generalize zcD s ⟨6,dy,pl,fr,[q],cl,yr⟩=X at*;have HC:=zHi hC;have HP:=zHi hP;have HT:=zHi hT;have HW:=zHi ao;have bV:(zai s fr).length<=1000:=by
  have:(zai s fr).length<=s.children.length:=by unfold zai;rw[List.length_map];exact List.length_filter_le _ _
  omega
 have kZ:(zbQ s q.name).length<=1000:=by
  have:(zbQ s q.name).length<=s.children.length:=by unfold zbQ;rw[List.length_map];exact List.length_filter_le _ _
  omega
 unfold WldC at hC;obtain⟨-,c1,c2⟩:=cF3 hC;obtain⟨mc,mp,r1,r2,r3,r4,r5,r6⟩:=HP.o.rows;obtain⟨KA,kc,bO,r9,BM⟩:=row_own (r3 fr);obtain⟨QA,qc,bS,F4,tt⟩:=row_own (r4 q.name);have dM: ∀W,Below w.heap.size w W->(Instr.lookup 83 (.map (some cc)) (.string fr) false).run Tryz.prog W= .ok (.slice KA (zai s fr).length kc) W:=fun W hB=>by
  have:=zb0 zm8 (r1.below hB).at fr;rw[<-bO];exact this
 have dw: ∀W,Below w.heap.size w W->(Instr.lookup 83 (.map (some pp)) (.string q.name) false).run Tryz.prog W= .ok (.slice QA (zbQ s q.name).length qc) W:=fun W hB=>by
  have:=zb0 zm8 (r2.below hB).at q.name;rw[<-bS];exact this
 have iq:Sl w 1 sC KA (zai s fr):=by
  obtain⟨A,c',e,h,_⟩:=r9.sl zaB;simp only[Value.slice.injEq]at e;rw[e.1];exact h
 have HK:=zHi iq
 have dj:=zHi (fun(W:World) (hM:MapS W cc ekS (fun v:Value=>v) mc)=>show(Instr.lookup 83 (.map (some cc)) (.string fr) false).run Tryz.prog W= .ok (.slice KA (zai s fr).length kc) W from by
  have:=zb0 zm8 hM.at fr;rw[<-bO]
  exact this)
 have Hu:=zHi (fun(W:World) (hM:MapS W pp ekS (fun v:Value=>v) mp)=>show(Instr.lookup 83 (.map (some pp)) (.string q.name) false).run Tryz.prog W= .ok (.slice QA (zbQ s q.name).length qc) W from by
  have:=zb0 zm8 hM.at q.name;rw[<-bS]
  exact this)
 have cI: ∀g,za7 (.slice KA (zai s fr).length kc)=some g->za7 (.slice QA (zbQ s q.name).length qc)≠some g:=fun g h1 h2=>by
  have h3:=r6.1;rw[r5,zc2,List.nodup_append]at h3;exact h3.2.2 g (zdc.2 ⟨_,zda (BM g h1),h1⟩) g (zdc.2 ⟨_,zda (tt g h2),h2⟩) rfl
 have fH:=zHi cI;clear cI;have fT:=zHi r9;have dl:=zHi F4;have yN:=zHi BM;have gT:=zHi tt;have jI:=zHi r1;have bx:=zHi r2;have lR:=zHi r3;have Ig:=zHi r4;have cH:=zHi r5;have sZ:=zHi r6;have DZ:=zHi dM;have gu:=zHi dw;have lD:=zHi (fun W (hB:Below w.heap.size w W)=>zht base b s fr q.name W (ao.peo.keep hB) Mcl);obtain⟨W1,aV⟩: ∃W1,W1=w.alloc (.cells #[.int .i64 6, .int .i64 dy, .string pl, .string fr, .slice (some ⟨b',off,none⟩) 1 c, .int .i64 cl, .int .i64 yr] 68):=⟨_,rfl⟩
 have cE:Below w.heap.size w W1:=by rw[aV];exact Bw
 have k1:=DZ.o W1 cE;have k2:=gu.o W1 cE;have dS:=zHi (zlp (zai s fr) q.name KA (zai s fr).length kc W1 rfl Mcl (HK.o.keep cE));rw[aV]at k1 k2 dS;have te:=zHi aV;clear hC hP hT ao fS dM dw iq cE aV r9 F4 BM tt bO bS r1 r2 r3 r4 r5 r6;unfold Deed.v;simp only;have aj:(0:Int)<(1:Int):=Mcn;generalize iS:zai s fr=ks at*;generalize eD:zbQ s q.name=pz at*;generalize decide (Desc s q.name fr)=dz at*;generalize ks.any (zae q.name)=az at*;have ii:=zHi iS;have kN:=zHi eD;clear iS eD;go_enter Tryz.func128,Tryz.ntmps128
 cases az
 ·by_cases h2:2<=pz.length
  ·have IE:(2:Int)<=(pz.length:Int):=Mcl;have H2:=zHi h2;clear h2;go_wp2_with (go_at_call 49;refine dS.o.mono ?_;rintro e wq ⟨rfl,rfl⟩)
   go_ret
   exact zbN HW.o Bw (by rw[jg.o];simp[H2.o])
  ·have IE: ¬(2:Int)<=(pz.length:Int):=Mcl;have H2:=zHi h2;clear h2;cases dz
   ·go_upto_region 17 with(first
     |(go_at_call 49;refine dS.o.mono ?_;rintro e wq ⟨rfl,rfl⟩)
     |(go_at_call 48;refine(lD.o _ Bw).mono ?_;rintro e wq ⟨rfl,z,rfl⟩))
    have Kk:=DZ.o (W1.ext z) (by rw[te.o];exact Bw);have Kl:=gu.o (W1.ext z) (by rw[te.o];exact Bw);have fe:Below w.heap.size w (W1.ext z):=by rw[te.o];exact Bw
    have cz1:=(zah (o:=1) fe dH).trans c1;have cz2:=(zah (o:=2) fe dH).trans c2;rw[<-te.o];generalize W1.ext z=WZ at*;have dR:=zHi fe;have eL:=fe.size;have oZ:=zHi (Fr2.of_below (va:= .slice KA ks.length kc) (vb:= .slice QA pz.length qc) fe)
    have aL:=zHi (fun(W:World) (h:Fr2 w W (.slice KA ks.length kc) (.slice QA pz.length qc))=>show(false=true\/(W.cell? ⟨b,1,none⟩=some (.map (some cc))/\W.cell? ⟨b,2,none⟩=some (.map (some pp))/\(Instr.lookup 83 (.map (some cc)) (.string fr) false).run Tryz.prog W= .ok (.slice KA ks.length kc) W/\(Instr.lookup 83 (.map (some pp)) (.string q.name) false).run Tryz.prog W= .ok (.slice QA pz.length qc) W)) from by
     have cJ:=HC.o;unfold WldC at cJ;have og:=h.cells fT.o dl.o cJ (fun cur e=>by simp at e)
     exact .inr ⟨by simp only[World.cell?,og];rfl,by simp only[World.cell?,og];rfl,dj.o W (h.mapS fT.o dl.o jI.o),Hu.o W (h.mapS fT.o dl.o bx.o)⟩)
    clear fe;refine zaC 28 (fun bb w'=>bb=true\/(w'.cell? ⟨b,1,none⟩=some (.map (some cc))/\w'.cell? ⟨b,2,none⟩=some (.map (some pp))/\(Instr.lookup 83 (.map (some cc)) (.string fr) false).run Tryz.prog w'= .ok (.slice KA ks.length kc) w'/\(Instr.lookup 83 (.map (some pp)) (.string q.name) false).run Tryz.prog w'= .ok (.slice QA pz.length qc) w')) Mcm ?hS ?hrest
    case hS=>exact aL.o _ (oZ.o.below Bw)
    case hrest=>
     intro hHeld;refine TkM 0 ?_;refine TkM 1 ?_;refine TkM 2 ?_;refine TkM 3 ?_;refine TkM 4 ?_;refine TkM 5 ?_;refine TkM 6 ?_;refine TkM 7 ?_;refine TkM 8 ?_;refine FrM 9 false ?_;refine TkM 10 ?_;refine TkM 11 ?_;refine TkM 12 ?_;refine TkM 13 ?_;refine TkM 14 ?_;refine TkM 15 ?_;refine TkM 16 ?_;refine TkM 19 ?_;refine TkM 20 ?_;refine TkM 21 ?_;refine TkM 22 ?_;refine TkM 23 ?_;refine TkM 24 ?_;refine TkM 25 ?_;refine TwM 17 26 (fun K hK=> ?_) fun K hK=> ?_
     ·go_simp
      refine NxM hK (fun hHeld=> ?_) (aL.o _ (oZ.o.below Bw));clear hK K;refine TwM 18 26 (fun K hK=> ?_) fun K hK=> ?_
      ·refine zal (v:= .slice KA ks.length kc) (n:=ks.length) (m:=1) rfl _ _ rfl zbK zaB zbJ rfl (xs:=ks) (ys:=[q.name]) (fT.o.keep (dR.o.trans ((Bw:Below WZ.heap.size WZ _).mono eL))) rfl rfl rfl (zcx Mc0) McJ Mcl (by have:=HW.o.lt;simp;omega) ?_;intro v3 w3 h1 h2 h3;obtain⟨A6,c6,dE,_,_⟩:=h1.sl zaB;rw[List.length_append]at dE;subst dE;have FR3:Fr2 w w3 (.slice KA ks.length kc) (.slice QA pz.length qc):=(oZ.o.below Bw).row h2 (fun j hj=> .inl hj)
       have ob3:OwnS w3 base 9 1 sC (.slice QA pz.length qc) pz:=(dl.o.keep (dR.o.trans ((Bw:Below WZ.heap.size WZ _).mono eL))).grown h2 (by
        cases hb:za7 (.slice QA pz.length qc)with
        |none=>exact .inl rfl
        |some g=>exact .inr fun e=>fH.o g e.symm hb)
       have s3:=h2.size;simp only[World.size_alloc,World.size_drew]at s3 h3;refine NxM hK (fun hHeld=> ?_) (aL.o _ FR3);clear hK K;refine OnM 26 false fun K hK=> ?_
       go_simp
       refine NxM hK (fun hHeld=> ?_) (aL.o _ (FR3.below Bw));clear hK K;refine OnM 27 false fun K hK=> ?_
       refine zal (v:= .slice QA pz.length qc) (n:=pz.length) (m:=1) rfl _ _ rfl zbK zaB zbJ rfl (xs:=pz) (ys:=[fr]) (ob3.keep (n:=w3.heap.size) Bw) rfl rfl rfl (zcx (Mc0)) McJ Mcl (by have:=HW.o.lt;(try simp);omega) ?_;exact Ma
      ·go_simp
       refine NxM hK (fun hHeld=> ?_) (aL.o _ (oZ.o.below Bw));clear hK K;refine OnM 18 false fun K hK=> ?_
       refine zal (v:= .slice KA ks.length kc) (n:=ks.length) (m:=1) rfl _ _ rfl zbK zaB zbJ rfl (xs:=ks) (ys:=[q.name]) (fT.o.keep (dR.o.trans ((Bw:Below WZ.heap.size WZ _).mono eL))) rfl rfl rfl (zcx Mc0) McJ Mcl (by have:=HW.o.lt;simp;omega) ?_;intro v3 w3 h1 h2 h3;obtain⟨A6,c6,dE,_,_⟩:=h1.sl zaB;rw[List.length_append]at dE;subst dE;have FR3:Fr2 w w3 (.slice KA ks.length kc) (.slice QA pz.length qc):=(oZ.o.below Bw).row h2 (fun j hj=> .inl hj)
       have ob3:OwnS w3 base 9 1 sC (.slice QA pz.length qc) pz:=(dl.o.keep (dR.o.trans ((Bw:Below WZ.heap.size WZ _).mono eL))).grown h2 (by
        cases hb:za7 (.slice QA pz.length qc)with
        |none=>exact .inl rfl
        |some g=>exact .inr fun e=>fH.o g e.symm hb)
       have s3:=h2.size;simp only[World.size_alloc,World.size_drew]at s3 h3;have x2:w3.heap[WZ.heap.size+1]?=some (.cells #[.string fr] 9):=(h2.block _ Mco (fun e=>by have:=(fT.o.ge _ e.symm).2;omega)).trans (zar _ _ _ Mco);exact MbX
     ·go_simp
      refine NxM hK (fun hHeld=> ?_) (aL.o _ (oZ.o.below Bw));clear hK K;refine OnM 17 false fun K hK=> ?_
      go_simp
      refine NxM hK (fun hHeld=> ?_) (aL.o _ (oZ.o.below Bw));clear hK K;refine OnM 18 false fun K hK=> ?_
      refine zal (v:= .slice KA ks.length kc) (n:=ks.length) (m:=1) rfl _ _ rfl zbK zaB zbJ rfl (xs:=ks) (ys:=[q.name]) (fT.o.keep (dR.o.trans ((Bw:Below WZ.heap.size WZ _).mono eL))) rfl rfl rfl (zcx Mc0) McJ Mcl (by have:=HW.o.lt;simp;omega) ?_;intro v3 w3 h1 h2 h3;obtain⟨A6,c6,dE,_,_⟩:=h1.sl zaB;rw[List.length_append]at dE;subst dE;have FR3:Fr2 w w3 (.slice KA ks.length kc) (.slice QA pz.length qc):=(oZ.o.below Bw).row h2 (fun j hj=> .inl hj)
      have ob3:OwnS w3 base 9 1 sC (.slice QA pz.length qc) pz:=(dl.o.keep (dR.o.trans ((Bw:Below WZ.heap.size WZ _).mono eL))).grown h2 (by
       cases hb:za7 (.slice QA pz.length qc)with
       |none=>exact .inl rfl
       |some g=>exact .inr fun e=>fH.o g e.symm hb)
      have s3:=h2.size;simp only[World.size_alloc,World.size_drew]at s3 h3;have x2:w3.heap[WZ.heap.size]?=some (.cells #[.string fr] 9):=(h2.block _ Mcq (fun e=>by have:=(fT.o.ge _ e.symm).2;omega)).trans (zak (zar _ _ _ rfl));exact MbX
   ·go_wp2_with (first
     |(go_at_call 49;refine dS.o.mono ?_;rintro e wq ⟨rfl,rfl⟩)
     |(go_at_call 48;refine(lD.o _ Bw).mono ?_;rintro e wq ⟨rfl,z,rfl⟩))
    go_ret
    exact zbN HW.o Bw (by rw[jg.o];simp[H2.o])
 ·go_wp2_with (go_at_call 49;refine dS.o.mono ?_;rintro e wq ⟨rfl,rfl⟩)
  go_ret
  exact zbN HW.o Bw (by rw[jg.o];simp)
end Go.Proofs.YtckkbkdcdkhglaaGreatDoor
