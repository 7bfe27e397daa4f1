import Derived.Test.YtegdimedhfafjaaGreatDoorO8
set_option linter.all false
set_option maxRecDepth 100000
set_option maxHeartbeats 4000000
namespace Go.Proofs.YtegdimedhfafjaaGreatDoor
open Go.RowKit Go.Shelf
attribute [local go_sem] World.cell?_alloc_mark zaf za5 zao za8 zav zaw zax zay zaz za0 za1
attribute [local go_sem] zaq zad
theorem will_any(base b:Nat)(s:St)(la co:Int)(d:Deed)(B:Option Addr)(c:Nat)(w:World)(hW:WldAt base w b s la co)(hd:OkD d)(hk:d.kind=4)(hS:Sl w 3 RPart.cells B d.to):
 Calls Tryz.prog 56 #[.pointer (some ⟨b,0,none⟩),d.v B c] w (zbH base b (zgS s d) la co w):=by
 obtain⟨bO,_,_,_⟩:=zea (hd.parts (.inr (.inr hk))).2;have bA:=hd.len;have FM:=rat_cells (fun p hp=>(bO p hp).2.2) hS;clear hd bO;have ao:=hW;obtain⟨Bk,dd,cc,pp,wl,rr,mv,tv,ps,b8,hC,hP,hT⟩:=hW;have cu:=zab hC;obtain⟨kd,dy,pl,fr,ts,cl,yr⟩:=d;simp only at*;subst hk;have jk:Hid (zgS s ⟨4,dy,pl,fr,ts,cl,yr⟩=if zaM s fr then(s,28)else({s with wills:=s.wills++[(fr,zam ts)]},0)):=rfl;generalize zgS s ⟨4,dy,pl,fr,ts,cl,yr⟩=X at*;have ag:(zam ts).length=ts.length:=by unfold zam;rw[List.length_map]
 obtain⟨IV,HC,HP,HT,HW⟩:=yH5 FM hC hP hT ao;unfold WldC at hC;obtain⟨c0,-,-,-,c4⟩:=cF5 hC;have dL:∀W:World,Below w.heap.size w W->(Instr.lookup 89 (.map (some dd)) (.string fr) false).run Tryz.prog W=.ok (.bool (zaM s fr)) W:=fun W hB=>zdu (HP.o.keep hB) _
 have ij:=zHi dL;generalize zaM s fr=dx at*;have ez:=zHi ag;clear dL hC hP hT ao FM hS ag;unfold Deed.v;simp only;have fq:=ij.o (w.alloc (.cells #[.int .i64 4,.int .i64 dy,.string pl,.string fr,.slice B ts.length c,.int .i64 cl,.int .i64 yr] 28)) Bw;go_enter Tryz.func56,Tryz.ntmps56
 cases dx
 ·go_upto_region 5 with fail
  refine wp_region_held_drew (S:=(fun w'=>w'.cell? ⟨b,4,none⟩=some (.map (some wl))/\w'.cell? ⟨w.heap.size,4,none⟩=some (.slice B ts.length c))) Mcn ?hS ?hrest
  case hS=>((try dsimp only);refine⟨?_,?_⟩<;>(simp[go_sem,c4,cu];done))
  case hrest=>
   intro hHeld;refine TkH 0 ?_;refine TkH 1 ?_;refine TkH 2 ?_;refine TkH 3 ?_;refine TkH 4 ?_;refine TkH 5 ?_;refine TkH 6 ?_;refine OnH 7 fun K hK=>?_
   go_simp
   refine(zeC (zam ts) B ts.length c _ ez.o.symm (by rw[ez.o];omega) (IV.o.keep (n:=w.heap.size) Bw)).mono ?_;rintro e w5 ⟨v,rfl,n1,n2⟩;have io:Below w.heap.size w w5:=(Bw:Below w.heap.size w _).trans (n2.mono Mcp);have p4:w5.cell? ⟨b,4,none⟩=some (.map (some wl)):=(zah io cu).trans c4;have q4:w5.cell? ⟨w.heap.size,4,none⟩=some (.slice B ts.length c):=(zah n2 Mcp).trans McR;have iH:=n2.size;simp only[World.size_drew,World.size_alloc]at iH;obtain⟨VA,vc,rfl,jV,dX⟩:=n1.ro;obtain⟨m,k7,k8⟩:=(HP.o.keep io).wills;obtain⟨es,ec,hx⟩:=zby k7;have dg:=HP.o.ge;have bW:=k7.at.lt;have LO:wl<w.heap.size:=by
    obtain⟨m0,k70,_⟩:=HP.o.wills;exact k70.at.lt
   have aS:b≠wl:=fun e=>by
    subst e;have h1:=HC.o.keep io;unfold WldC at h1;rw[h1]at hx;simp at hx
   obtain⟨oa,K7,K8,HX,bl⟩:=yH5 dX k7 k8 hx io;clear n1 n2 dX k7 k8 hx io;refine hK.out _ _ ?_ (fun hHeld=>?_);focus((try dsimp only);refine⟨?_,?_⟩<;>assumption)
   clear hK K;try simp only[Act.put,List.setIfInBounds_toArray,List.set_cons_zero,List.set_cons_succ]
   refine OnH 8 fun K hK=>?_
   obtain⟨w6,hrun,iW,bI,kw⟩:=zcs mapSP K7.o fr (.slice VA (zam ts).length vc);refine zcZ rfl _ _ _ rfl _ _ _ rfl rfl rfl w6 hrun ?_;have p6:w6.cell? ⟨b,4,none⟩=some (.map (some wl)):=(zbc bI Mcm aS).trans p4;have q6:w6.cell? ⟨w.heap.size,4,none⟩=some (.slice B ts.length c):=(zbc bI Mcm Mcm).trans q4;obtain⟨vh,jL⟩:=yH2 iW bI;clear iW bI hrun;refine hK.out _ _ ?_ (fun hHeld=>?_);focus((try dsimp only);refine⟨?_,?_⟩<;>assumption)
   clear hK K;try simp only[Act.put,List.setIfInBounds_toArray,List.set_cons_zero,List.set_cons_succ]
   refine wpAnyH_done Mcn ?_ _;go_wp2_with fail
   go_ret
   have hX:=jk.o;simp only[Bool.false_eq_true,if_false]at hX;rw[hX];refine⟨rfl,zmL b8 (HC.o.keep bl.o) (HT.o.keep bl.o) jL.o HX.o rfl (ppl_will (HP.o.keep bl.o) jL.o vh.o fun n=>?_),zaW (bl.o.mono Mcm) jL.o dg.2.2.2.1 Mcm,(KeepD.below bl.o).trans (KeepD.map jL.o HX.o)⟩;rw[zfS];unfold WillIs;rw[zfi];have Lt:zae n fr=zae fr n:=by rw[Bool.eq_iff_iff,za2,za2];exact⟨Eq.symm,Eq.symm⟩
   rw[Lt];cases hn:zae fr n
   ·exact(K8.o n).keptM jL.o HX.o
   ·exact .inr ⟨VA,vc,rfl,oa.o.keptM jL.o HX.o⟩
 ·exact Mai
theorem zlC(base b:Nat)(s:St)(la co:Int)(d:Deed)(B:Option Addr)(c:Nat)(w:World)(hW:WldAt base w b s la co)(hd:OkD d)(hk:d.kind=5)(ar:d.to.length<=c)(hS:Sl w 3 RPart.cells B d.to):
 Calls Tryz.prog 56 #[.pointer (some ⟨b,0,none⟩),d.v B c] w (zbH base b (zbA s d) la co w):=by
 obtain⟨aN,_⟩:=hd.one (.inl hk);obtain⟨q,hq⟩:∃q,d.to=[q]:=List.length_eq_one_iff.1 aN;have fK:zbg d=q.name:=by unfold zbg;rw[hq];rfl
 obtain⟨b',off,rfl,cC,aJ⟩:=hS.at (show 0<d.to.length by rw[hq];exact Nat.zero_lt_one);have i0:w.cell? ⟨b',off,none⟩=some (.string q.name):=by
  exact Ma8
 have pN:1<=c:=by rw[hq]at ar;exact ar
 clear hd aN aJ hS ar;have ao:=hW;obtain⟨Bk,dd,cc,pp,wl,rr,mv,tv,ps,b8,hC,hP,hT⟩:=hW;have cu:=zab hC;obtain⟨kd,dy,pl,fr,ts,cl,yr⟩:=d;simp only at*;subst hq hk;have jk:Hid (zbA s ⟨5,dy,pl,fr,[q],cl,yr⟩=if zaM s fr||zaM s q.name then(s,28)else if s.renounce.any (fun r=>zae r.1 fr&&zae r.2 q.name)then(s,5)else({s with renounce:=s.renounce++[(fr,q.name)]},0)):=by
  show _=_;unfold zbA;rw[fK]
 generalize zbA s ⟨5,dy,pl,fr,[q],cl,yr⟩=X at*;obtain⟨HC,HP,HT,HW⟩:=yH4 hC hP hT ao;unfold WldC at hC;obtain⟨c0,-,-,-,-,c5⟩:=cF6 hC;have dL:∀W:World,Below w.heap.size w W->∀n,(Instr.lookup 89 (.map (some dd)) (.string n) false).run Tryz.prog W=.ok (.bool (zaM s n)) W:=fun W hB n=>zdu (HP.o.keep hB) _
 have dl:∀W:World,Below w.heap.size w W->(Instr.lookup 92 (.map (some rr)) (.agg #[.string fr,.string q.name]) false).run Tryz.prog W=.ok (.bool (s.renounce.any fun r=>zae r.1 fr&&zae r.2 q.name)) W:=fun W hB=>znP (HP.o.keep hB) _ _
 have uh:=zi9 (eq:=eqP) (k:=(fr,q.name)) (l:=s.renounce);rw[zmD]at uh;obtain⟨ij,fX,IC⟩:=yH3 dL dl uh;clear dL dl uh hC hP hT ao fK;unfold Deed.v;simp only;obtain⟨W1,aI⟩:∃W1,W1=w.alloc (.cells #[.int .i64 5,.int .i64 dy,.string pl,.string fr,.slice (some ⟨b',off,none⟩) 1 c,.int .i64 cl,.int .i64 yr] 28):=⟨_,rfl⟩
 have bE:Below w.heap.size w W1:=Mdz;have k1:=ij.o W1 bE fr;have k2:=ij.o W1 bE q.name;have k3:=fX.o W1 bE;have yq:=(HP.o.keep bE).ren;have aB:=zHi bE;rw[aI]at k1 k2 k3;obtain⟨vw,tG⟩:=yH2 yq aI;clear yq bE aI;generalize zaM s fr=d1 at*;generalize zaM s q.name=d2 at*;generalize(s.renounce.any fun r=>zae r.1 fr&&zae r.2 q.name)=rx at*;have aq:(0:Int)<(1:Int):=Mco;go_enter Tryz.func56,Tryz.ntmps56
 cases d1
 ·cases d2
  ·cases rx
   ·obtain⟨es,ec,hx⟩:=zby vw.o;have HX:=zHi hx;clear hx;go_wp2_with (at_mapUpdate;obtain⟨w6,hrun,iW,bI,kw⟩:=zcs mapPB vw.o (fr,q.name) true;rw[tG.o]at hrun;go_loud(refine zdf rfl _ _ _ rfl _ _ _ rfl rfl rfl w6 hrun ?_))
    go_ret
    have hX:=jk.o;simp only[Bool.or_self,Bool.false_eq_true,if_false]at hX;rw[hX];have dg:=HP.o.ge;have sI:MapS w6 rr ekP evB ((s.renounce++[(fr,q.name)]).map fun x=>(x,true)):=by
     rw[zkx (IC.o (by first|rfl|trivial))]at iW;simpa using iW
    have aE:=HW.o.lt;exact⟨rfl,zmL b8 (HC.o.keep aB.o) (HT.o.keep aB.o) bI HX.o rfl (ppl_ren (HP.o.keep aB.o) bI sI),zaW (aB.o.mono Mcm) bI dg.2.2.2.2 Mcm,(KeepD.below aB.o).trans (KeepD.map bI HX.o)⟩
   ·exact Mai
  ·exact Mai
 ·exact Mai
theorem zmS{w:World}{b:Nat}{p:ByteArray×ByteArray}{t:TypeId}{fr:Nat×Nat}(h:w.heap[b]?=some (.cells #[.string p.1,.string p.2] t fr)):Sl w 2 zaR (some ⟨b,0,none⟩) [p]:=fun _=>⟨b,0,rfl,zab h,fun k y hy j u hu=>by
 have hk:k=0:=Mcy;subst hk;simp only[List.getElem?_cons_zero,Option.some.injEq]at hy;subst hy;match j,hu with
 |0,hu=>simp[zaR]at hu;simp[World.cell?,h,<-hu]
 |1,hu=>simp[zaR]at hu;simp[World.cell?,h,<-hu]
 |j+2,hu=>simp[zaR]at hu⟩
theorem marry_any(base b:Nat)(s:St)(la co:Int)(d:Deed)(B:Option Addr)(c:Nat)(w:World)(hW:WldAt base w b s la co)(hd:OkD d)(hk:d.kind=7)(ar:d.to.length<=c)(hS:Sl w 3 RPart.cells B d.to)(fI:s.marriages.length<=1000):
 Calls Tryz.prog 56 #[.pointer (some ⟨b,0,none⟩),d.v B c] w (zbH base b (zdn s d) la co w):=by
 obtain⟨aN,_⟩:=hd.one (.inr (.inr hk));obtain⟨q,hq⟩:∃q,d.to=[q]:=List.length_eq_one_iff.1 aN;have fK:zbg d=q.name:=by unfold zbg;rw[hq];rfl
 obtain⟨b',off,rfl,cC,aJ⟩:=hS.at (show 0<d.to.length by rw[hq];exact Nat.zero_lt_one);have i0:w.cell? ⟨b',off,none⟩=some (.string q.name):=by
  exact Ma8
 have pN:1<=c:=by rw[hq]at ar;exact ar
 clear hd aN aJ hS ar;have ao:=hW;obtain⟨Bk,dd,cc,pp,wl,rr,mv,tv,ps,b8,hC,hP,hT⟩:=hW;have cu:=zab hC;obtain⟨kd,dy,pl,fr,ts,cl,yr⟩:=d;simp only at*;subst hq hk;have jk:Hid (zdn s ⟨7,dy,pl,fr,[q],cl,yr⟩=if zaM s fr||zaM s q.name then(s,28)else if !noB (zaK s fr)||!noB (zaK s q.name)then(s,13)else({s with marriages:=s.marriages++[(fr,q.name)]},0)):=by
  show _=_;unfold zdn;rw[fK]
 generalize zdn s ⟨7,dy,pl,fr,[q],cl,yr⟩=X at*;obtain⟨MA,mc,rfl,_,_⟩:=hP.marr.sl zbj;have xN:=hP.marr.ge;obtain⟨HC,HP,HT,HW⟩:=yH4 hC hP hT ao;unfold WldC at hC;obtain⟨c0,-,-,c3⟩:=cF4 hC;have f3:w.frozen? ⟨b,3,none⟩=false:=by simp only[World.frozen?,hC];rfl
 have dL:∀W:World,Below w.heap.size w W->∀n,(Instr.lookup 89 (.map (some dd)) (.string n) false).run Tryz.prog W=.ok (.bool (zaM s n)) W:=fun W hB n=>zdu (HP.o.keep hB) _
 have fQ:=dL (w.alloc (.cells #[.int .i64 7,.int .i64 dy,.string pl,.string fr,.slice (some ⟨b',off,none⟩) 1 c,.int .i64 cl,.int .i64 yr] 28)) Bw fr;have pU:=dL (w.alloc (.cells #[.int .i64 7,.int .i64 dy,.string pl,.string fr,.slice (some ⟨b',off,none⟩) 1 c,.int .i64 cl,.int .i64 yr] 28)) Bw q.name;obtain⟨im,IA⟩:=yH2 (fun W (hB:Below w.heap.size w W) n=>zj9 base b s n W (ao.peo.keep hB) Mcm) xN;clear dL hC hP hT ao fK xN;unfold Deed.v;simp only;generalize zaM s fr=d1 at*;generalize zaM s q.name=d2 at*;have aq:(0:Int)<(1:Int):=Mco;go_enter Tryz.func56,Tryz.ntmps56
 cases d1
 ·cases d2
  ·cases cA:noB (zaK s fr)
   ·have e1:(zaK s fr).toList.isEmpty=false:=cA;rw[cA]at jk;exact MaY
   ·cases dW:noB (zaK s q.name)
    ·have e1:(zaK s fr).toList.isEmpty=true:=cA;have e2:(zaK s q.name).toList.isEmpty=false:=dW;rw[cA,dW]at jk;exact MaY
    ·have e1:(zaK s fr).toList.isEmpty=true:=cA;have e2:(zaK s q.name).toList.isEmpty=true:=dW;rw[cA,dW]at jk
     go_wp2_with (first
      |(go_at_call 95;refine(im.o _ Bw _).mono ?_;rintro e wq ⟨rfl,z,rfl⟩)
      |(at_builtin
        go_loud(refine zau (v:=.slice MA s.marriages.length mc) (n:=s.marriages.length) (m:=1) rfl _ _ rfl zgv zbj zdA rfl (HP.o.marr.keep (n:=w.heap.size) Bw) rfl rfl rfl (zmS (p:=(fr,q.name)) (zas _ _ _ Mdk)) McL Mcm (by have:=HW.o.lt;simp[zaf];omega) ?_)
        intro v3 w3 h1 h2 h3;obtain⟨A6,c6,du,_,_⟩:=h1.sl zbj;rw[List.length_append]at du;subst du;obtain⟨hA,zF⟩:=wld_marry b8 (HC.o.keep (n:=w.heap.size) Bw) (HP.o.keep (n:=w.heap.size) Bw) (HT.o.keep (n:=w.heap.size) Bw) h1 h2;have zG:=zF;unfold WldC at zG;obtain⟨-,-,-,c33⟩:=cF4 zG;have f33:w3.frozen? ⟨b,3,none⟩=false:=by simp only[World.frozen?,zG];rfl
        have aC:=zab zF;obtain⟨H2,HA⟩:=yH2 h2 hA;have bQ:=((KeepD.below (w:=w) Bw).trans (KeepD.own (HP.o.marr.keep (n:=w.heap.size) Bw) h2 Mco)).trans (KeepD.cells (zar w3 b 3 (.slice A6 (s.marriages.length+[(fr,q.name)].length) c6)) zF Mco);have jM:=zHi bQ
        clear h1 h2 h3 hA zF zG bQ))
     go_ret
     have hX:=jk.o;simp only[Bool.or_self,Bool.not_true,Bool.false_eq_true,if_false]at hX;rw[hX];have aE:=HW.o.lt;exact⟨rfl,HA.o,zaL (Below.grown (a:=w) (B:=base) Bw H2.o Mcv (fun j hj=>(IA.o j hj).1)) (by show base<=b;omega) _,jM.o⟩
  ·exact Mai
 ·exact Mai
structure Fr2 (w W:World) (va vb:Value):Prop where
 os:W.os=w.os
 tape:W.tape=w.tape
 output:W.output=w.output
 size:w.heap.size<=W.heap.size
 block:∀k,k<w.heap.size->za7 va≠some k->za7 vb≠some k->W.heap[k]?=w.heap[k]?
section
variable {w W W':World} {va vb:Value} {n:Nat}
theorem Fr2.of_below(h:Below w.heap.size w W):Fr2 w W va vb:=⟨h.os,h.tape,h.output,h.size,fun k hk _ _=>h.block k hk⟩
theorem Fr2.below(h:Fr2 w W va vb)(k:Below W.heap.size W W'):Fr2 w W' va vb:=⟨k.os.trans h.os,k.tape.trans h.tape,k.output.trans h.output,Nat.le_trans h.size k.size,fun i hi h1 h2=>(k.block i (Nat.lt_of_lt_of_le hi h.size)).trans (h.block i hi h1 h2)⟩
theorem Fr2.row(h:Fr2 w W va vb){row:Option Nat}(k:W.grownBy W' row)(hr:∀j,row=some j->za7 va=some j\/za7 vb=some j\/w.heap.size<=j):Fr2 w W' va vb:=
 ⟨k.os.trans h.os,k.tape.trans h.tape,k.output.trans h.output,Nat.le_trans h.size k.size,fun i hi h1 h2=>(k.block i (Nat.lt_of_lt_of_le hi h.size) (fun e=>by
   rcases hr i e.symm with h|h|h
   ·exact h1 h
   ·exact h2 h
   ·omega)).trans (h.block i hi h1 h2)⟩
theorem Fr2.cells{base:Nat}{xs ys:List ByteArray}(h:Fr2 w W va vb)(ha:OwnS w base 9 1 sC va xs)(hb:OwnS w base 9 1 sC vb ys){k:Nat}{o:Obj}(hk:w.heap[k]?=some o)(ho:∀cur,o≠ .cells cur 9 (0,0)):W.heap[k]?=some o:=by
 refine(h.block k (Array.getElem?_eq_some_iff.1 hk).1 (fun e=>?_) (fun e=>?_)).trans hk
 ·obtain⟨cur,h'⟩:=zfl ha e;rw[h']at hk;exact ho cur (Option.some.inj hk).symm
 ·obtain⟨cur,h'⟩:=zfl hb e;rw[h']at hk;exact ho cur (Option.some.inj hk).symm
theorem Fr2.mapS{base:Nat}{xs ys:List ByteArray}(h:Fr2 w W va vb)(ha:OwnS w base 9 1 sC va xs)(hb:OwnS w base 9 1 sC vb ys){b:Nat}{m:List (ByteArray×Value)}(hm:MapS w b ekS (fun v:Value=>v) m):MapS W b ekS (fun v:Value=>v) m:=by
 obtain⟨es,c,hx⟩:=zby hm;exact hm.keep ((h.cells ha hb hx (fun cur e=>by cases e)).trans hx.symm)
end
theorem zhh{P:Program}{ops:Array Oper}{o:Oper}{a:Act}{w:World}{K:Act->World->Prop}{Q:Exit->Act->World->Prop}{E:Prop}{T:TypeId}(bP:o.guard=none)(x i:Operand)(ho:o.op=.mapEntry T x i)(vx vi v:Value)(hx:a.eval x=vx)(hi:a.eval i=vi)(w':World)
 (hrun:(Instr.mapEntry T vx vi).run P w=.ok v w')(h:K (a.put o.dst v) w'):if Region.wanted o (yielded ops a.tmps)=true then Oper.wp P o a w K Q else E:=by
 have hw:Region.wanted o (yielded ops a.tmps)=true:=by simp[Region.wanted,bP]
 rw[if_pos hw];unfold Oper.wp;simp[execOp,ho,hx,hi,hrun,Result.andThen];exact h
theorem zfX{P:Program}{ops:Array Oper}{o:Oper}{a:Act}{w:World}{K:Act->World->Prop}{Q:Exit->Act->World->Prop}{E:Prop}{T:TypeId}(bP:o.guard=none)(x i u:Operand)(ho:o.op=.entryStore T x i u)(vx vi vu:Value)(hx:a.eval x=vx)(hi:a.eval i=vi)(hu:a.eval u=vu)(w':World)
 (hrun:(Instr.entryStore T vx vi vu).run P w=.ok () w')(h:K (a.put o.dst undef) w'):if Region.wanted o (yielded ops a.tmps)=true then Oper.wp P o a w K Q else E:=by
 exact Maa
theorem child_any(base b:Nat)(s:St)(la co:Int)(d:Deed)(B:Option Addr)(c:Nat)(w:World)(hW:WldAt base w b s la co)(hd:OkD d)(hk:d.kind=6)(ar:d.to.length<=c)(hS:Sl w 3 RPart.cells B d.to)(bk:s.children.length<=1000):
 Calls Tryz.prog 56 #[.pointer (some ⟨b,0,none⟩),d.v B c] w (zbH base b (zc7 s d) la co w):=by
 obtain⟨aN,_⟩:=hd.one (.inr (.inl hk));obtain⟨q,hq⟩:∃q,d.to=[q]:=List.length_eq_one_iff.1 aN;have fK:zbg d=q.name:=by unfold zbg;rw[hq];rfl
 obtain⟨b',off,rfl,cC,aJ⟩:=hS.at (show 0<d.to.length by rw[hq];exact Nat.zero_lt_one);have i0:w.cell? ⟨b',off,none⟩=some (.string q.name):=by
  exact Ma8
 have pN:1<=c:=by rw[hq]at ar;exact ar
 clear hd aN aJ hS ar;have ao:=hW;obtain⟨Bk,dd,cc,pp,wl,rr,mv,tv,ps,b8,hC,hP,hT⟩:=hW;have cu:=zab hC;obtain⟨kd,dy,pl,fr,ts,cl,yr⟩:=d;simp only at*;subst hq hk;classical
 have jk:Hid (zc7 s ⟨6,dy,pl,fr,[q],cl,yr⟩=if(zai s fr).any (zae q.name)then(s,5)else if decide (2<=(zbR s q.name).length)then(s,16)else if decide (Desc s q.name fr)then(s,25)else({s with children:=s.children++[(fr,q.name)]},0)):=by
  show _=_;unfold zc7;rw[fK]
 generalize zc7 s ⟨6,dy,pl,fr,[q],cl,yr⟩=X at*;obtain⟨HC,HP,HT,HW⟩:=yH4 hC hP hT ao;have bV:(zai s fr).length<=1000:=by
  have:(zai s fr).length<=s.children.length:=by unfold zai;rw[List.length_map];exact List.length_filter_le _ _
  omega
 have qe:(zbR s q.name).length<=1000:=by
  have:(zbR s q.name).length<=s.children.length:=by unfold zbR;rw[List.length_map];exact List.length_filter_le _ _
  omega
 unfold WldC at hC;obtain⟨-,c1,c2⟩:=cF3 hC;obtain⟨mc,mp,r1,r2,r3,r4,r5,r6⟩:=HP.o.rows;obtain⟨KA,kc,cf,rE,Ch⟩:=row_own (r3 fr);obtain⟨QA,qc,cw,FD,ow⟩:=row_own (r4 q.name);have dL:∀W,Below w.heap.size w W->(Instr.lookup 90 (.map (some cc)) (.string fr) false).run Tryz.prog W=.ok (.slice KA (zai s fr).length kc) W:=fun W hB=>by
  have:=zb4 zmC (r1.below hB).at fr;rw[<-cf];exact this
 have dl:∀W,Below w.heap.size w W->(Instr.lookup 90 (.map (some pp)) (.string q.name) false).run Tryz.prog W=.ok (.slice QA (zbR s q.name).length qc) W:=fun W hB=>by
  have:=zb4 zmC (r2.below hB).at q.name;rw[<-cw];exact this
 have iq:Sl w 1 sC KA (zai s fr):=by
  obtain⟨A,c',e,h,_⟩:=rE.sl zaD;simp only[Value.slice.injEq]at e;rw[e.1];exact h
 have HK:=zHi iq
 have cr:=zHi (fun(W:World) (hM:MapS W cc ekS (fun v:Value=>v) mc)=>show(Instr.lookup 90 (.map (some cc)) (.string fr) false).run Tryz.prog W=.ok (.slice KA (zai s fr).length kc) W from by
  have:=zb4 zmC hM.at fr;rw[<-cf]
  exact this)
 have qL:=zHi (fun(W:World) (hM:MapS W pp ekS (fun v:Value=>v) mp)=>show(Instr.lookup 90 (.map (some pp)) (.string q.name) false).run Tryz.prog W=.ok (.slice QA (zbR s q.name).length qc) W from by
  have:=zb4 zmC hM.at q.name;rw[<-cw]
  exact this)
 have cF:∀g,za7 (.slice KA (zai s fr).length kc)=some g->za7 (.slice QA (zbR s q.name).length qc)≠some g:=fun g h1 h2=>by
  have h3:=r6.1;rw[r5,zcz,List.nodup_append]at h3;exact h3.2.2 g (zcY.2 ⟨_,zcX (Ch g h1),h1⟩) g (zcY.2 ⟨_,zcX (ow g h2),h2⟩) rfl
 have fw:=zHi cF;clear cF;obtain⟨fM,d9,zh,fL,jO,bD,lQ,IP⟩:=yH8 rE FD Ch ow r1 r2 r3 r4;obtain⟨IQ,tC,EE,fX,fB⟩:=yH5 r5 r6 dL dl (fun W (hB:Below w.heap.size w W)=>zhu base b s fr q.name W (ao.peo.keep hB) Mcm);obtain⟨W1,aI⟩:∃W1,W1=w.alloc (.cells #[.int .i64 6,.int .i64 dy,.string pl,.string fr,.slice (some ⟨b',off,none⟩) 1 c,.int .i64 cl,.int .i64 yr] 28):=⟨_,rfl⟩
 have bE:Below w.heap.size w W1:=Mdz;have k1:=EE.o W1 bE;have k2:=fX.o W1 bE;have ka:=zHi (zll (zai s fr) q.name KA (zai s fr).length kc W1 rfl Mcm (HK.o.keep bE));rw[aI]at k1 k2 ka;have tG:=zHi aI;clear hC hP hT ao fK dL dl iq bE aI rE FD Ch ow cf cw r1 r2 r3 r4 r5 r6;unfold Deed.v;simp only;have aq:(0:Int)<(1:Int):=Mco;generalize iV:zai s fr=ks at*;generalize ej:zbR s q.name=pz at*;generalize decide (Desc s q.name fr)=dz at*;generalize ks.any (zae q.name)=az at*;obtain⟨ii,kM⟩:=yH2 iV ej;clear iV ej;go_enter Tryz.func56,Tryz.ntmps56
 cases az
 ·by_cases h2:2<=pz.length
  ·have Jn:(2:Int)<=(pz.length:Int):=Mcm;have H2:=zHi h2;clear h2;go_wp2_with (go_at_call 37;refine ka.o.mono ?_;rintro e wq ⟨rfl,rfl⟩)
   go_ret
   exact zbP HW.o Bw (by rw[jk.o];simp[H2.o])
  ·have Jn:¬(2:Int)<=(pz.length:Int):=Mcm;have H2:=zHi h2;clear h2;cases dz
   ·go_upto_region 17 with(first
     |(go_at_call 37;refine ka.o.mono ?_;rintro e wq ⟨rfl,rfl⟩)
     |(go_at_call 36;refine(fB.o _ Bw).mono ?_;rintro e wq ⟨rfl,z,rfl⟩))
    have La:=EE.o (W1.ext z) (by rw[tG.o];exact Bw);have Lb:=fX.o (W1.ext z) (by rw[tG.o];exact Bw);have eQ:Below w.heap.size w (W1.ext z):=by rw[tG.o];exact Bw
    have cz1:=(zah (o:=1) eQ cu).trans c1;have cz2:=(zah (o:=2) eQ cu).trans c2;rw[<-tG.o];generalize W1.ext z=WZ at*;have fA:=zHi eQ;have fj:=eQ.size;have iM:=zHi (Fr2.of_below (va:=.slice KA ks.length kc) (vb:=.slice QA pz.length qc) eQ)
    have ax:=zHi (fun(W:World) (h:Fr2 w W (.slice KA ks.length kc) (.slice QA pz.length qc))=>show(false=true\/(W.cell? ⟨b,1,none⟩=some (.map (some cc))/\W.cell? ⟨b,2,none⟩=some (.map (some pp))/\(Instr.lookup 90 (.map (some cc)) (.string fr) false).run Tryz.prog W=.ok (.slice KA ks.length kc) W/\(Instr.lookup 90 (.map (some pp)) (.string q.name) false).run Tryz.prog W=.ok (.slice QA pz.length qc) W)) from by
     have cK:=HC.o;unfold WldC at cK;have oo:=h.cells fM.o d9.o cK (fun cur e=>by simp at e)
     exact .inr ⟨by simp only[World.cell?,oo];rfl,by simp only[World.cell?,oo];rfl,cr.o W (h.mapS fM.o d9.o jO.o),qL.o W (h.mapS fM.o d9.o bD.o)⟩)
    clear eQ;refine zaB 28 (fun bb w'=>bb=true\/(w'.cell? ⟨b,1,none⟩=some (.map (some cc))/\w'.cell? ⟨b,2,none⟩=some (.map (some pp))/\(Instr.lookup 90 (.map (some cc)) (.string fr) false).run Tryz.prog w'=.ok (.slice KA ks.length kc) w'/\(Instr.lookup 90 (.map (some pp)) (.string q.name) false).run Tryz.prog w'=.ok (.slice QA pz.length qc) w')) Mcn ?hS ?hrest
    case hS=>exact ax.o _ (iM.o.below Bw)
    case hrest=>
     intro hHeld;refine TkM 0 ?_;refine TkM 1 ?_;refine TkM 2 ?_;refine TkM 3 ?_;refine TkM 4 ?_;refine TkM 5 ?_;refine TkM 6 ?_;refine TkM 7 ?_;refine TkM 8 ?_;refine FrM 9 false ?_;refine TkM 10 ?_;refine TkM 11 ?_;refine TkM 12 ?_;refine TkM 13 ?_;refine TkM 14 ?_;refine TkM 15 ?_;refine TkM 16 ?_;refine TkM 19 ?_;refine TkM 20 ?_;refine TkM 21 ?_;refine TkM 22 ?_;refine TkM 23 ?_;refine TkM 24 ?_;refine TkM 25 ?_;refine TwM 17 26 (fun K hK=>?_) fun K hK=>?_
     ·go_simp
      refine NxM hK (fun hHeld=>?_) (ax.o _ (iM.o.below Bw));clear hK K;refine TwM 18 26 (fun K hK=>?_) fun K hK=>?_
      ·refine zal (v:=.slice KA ks.length kc) (n:=ks.length) (m:=1) rfl _ _ rfl zbM zaD zbL rfl (xs:=ks) (ys:=[q.name]) (fM.o.keep (fA.o.trans ((Bw:Below WZ.heap.size WZ _).mono fj))) rfl rfl rfl (zd4 Mc1) McL Mcm (by have:=HW.o.lt;simp;omega) ?_;intro v3 w3 h1 h2 h3;obtain⟨A6,c6,du,_,_⟩:=h1.sl zaD;rw[List.length_append]at du;subst du;have FR3:Fr2 w w3 (.slice KA ks.length kc) (.slice QA pz.length qc):=(iM.o.below Bw).row h2 (fun j hj=> .inl hj)
       have ob3:OwnS w3 base 9 1 sC (.slice QA pz.length qc) pz:=(d9.o.keep (fA.o.trans ((Bw:Below WZ.heap.size WZ _).mono fj))).grown h2 (by
        cases hb:za7 (.slice QA pz.length qc)with
        |none=>exact .inl rfl
        |some g=>exact .inr fun e=>fw.o g e.symm hb)
       have s3:=h2.size;simp only[World.size_alloc,World.size_drew]at s3 h3;refine NxM hK (fun hHeld=>?_) (ax.o _ FR3);clear hK K;refine OnM 26 false fun K hK=>?_
       go_simp
       refine NxM hK (fun hHeld=>?_) (ax.o _ (FR3.below Bw));clear hK K;refine OnM 27 false fun K hK=>?_
       refine zal (v:=.slice QA pz.length qc) (n:=pz.length) (m:=1) rfl _ _ rfl zbM zaD zbL rfl (xs:=pz) (ys:=[fr]) (ob3.keep (n:=w3.heap.size) Bw) rfl rfl rfl (zd4 (Mc1)) McL Mcm (by have:=HW.o.lt;(try simp);omega) ?_;exact Ma
      ·go_simp
       refine NxM hK (fun hHeld=>?_) (ax.o _ (iM.o.below Bw));clear hK K;refine OnM 18 false fun K hK=>?_
       refine zal (v:=.slice KA ks.length kc) (n:=ks.length) (m:=1) rfl _ _ rfl zbM zaD zbL rfl (xs:=ks) (ys:=[q.name]) (fM.o.keep (fA.o.trans ((Bw:Below WZ.heap.size WZ _).mono fj))) rfl rfl rfl (zd4 Mc1) McL Mcm (by have:=HW.o.lt;simp;omega) ?_;intro v3 w3 h1 h2 h3;obtain⟨A6,c6,du,_,_⟩:=h1.sl zaD;rw[List.length_append]at du;subst du;have FR3:Fr2 w w3 (.slice KA ks.length kc) (.slice QA pz.length qc):=(iM.o.below Bw).row h2 (fun j hj=> .inl hj)
       have ob3:OwnS w3 base 9 1 sC (.slice QA pz.length qc) pz:=(d9.o.keep (fA.o.trans ((Bw:Below WZ.heap.size WZ _).mono fj))).grown h2 (by
        cases hb:za7 (.slice QA pz.length qc)with
        |none=>exact .inl rfl
        |some g=>exact .inr fun e=>fw.o g e.symm hb)
       have s3:=h2.size;simp only[World.size_alloc,World.size_drew]at s3 h3;have x2:w3.heap[WZ.heap.size+1]?=some (.cells #[.string fr] 9):=(h2.block _ Mcp (fun e=>by have:=(fM.o.ge _ e.symm).2;omega)).trans (zas _ _ _ Mcp);exact MbZ
     ·go_simp
      refine NxM hK (fun hHeld=>?_) (ax.o _ (iM.o.below Bw));clear hK K;refine OnM 17 false fun K hK=>?_
      go_simp
      refine NxM hK (fun hHeld=>?_) (ax.o _ (iM.o.below Bw));clear hK K;refine OnM 18 false fun K hK=>?_
      refine zal (v:=.slice KA ks.length kc) (n:=ks.length) (m:=1) rfl _ _ rfl zbM zaD zbL rfl (xs:=ks) (ys:=[q.name]) (fM.o.keep (fA.o.trans ((Bw:Below WZ.heap.size WZ _).mono fj))) rfl rfl rfl (zd4 Mc1) McL Mcm (by have:=HW.o.lt;simp;omega) ?_;intro v3 w3 h1 h2 h3;obtain⟨A6,c6,du,_,_⟩:=h1.sl zaD;rw[List.length_append]at du;subst du;have FR3:Fr2 w w3 (.slice KA ks.length kc) (.slice QA pz.length qc):=(iM.o.below Bw).row h2 (fun j hj=> .inl hj)
      have ob3:OwnS w3 base 9 1 sC (.slice QA pz.length qc) pz:=(d9.o.keep (fA.o.trans ((Bw:Below WZ.heap.size WZ _).mono fj))).grown h2 (by
       cases hb:za7 (.slice QA pz.length qc)with
       |none=>exact .inl rfl
       |some g=>exact .inr fun e=>fw.o g e.symm hb)
      have s3:=h2.size;simp only[World.size_alloc,World.size_drew]at s3 h3;have x2:w3.heap[WZ.heap.size]?=some (.cells #[.string fr] 9):=(h2.block _ Mcr (fun e=>by have:=(fM.o.ge _ e.symm).2;omega)).trans (zak (zas _ _ _ rfl));exact MbZ
   ·go_wp2_with (first
     |(go_at_call 37;refine ka.o.mono ?_;rintro e wq ⟨rfl,rfl⟩)
     |(go_at_call 36;refine(fB.o _ Bw).mono ?_;rintro e wq ⟨rfl,z,rfl⟩))
    go_ret
    exact zbP HW.o Bw (by rw[jk.o];simp[H2.o])
 ·go_wp2_with (go_at_call 37;refine ka.o.mono ?_;rintro e wq ⟨rfl,rfl⟩)
  go_ret
  exact zbP HW.o Bw (by rw[jk.o];simp)
def zhy:List Rec->List Rec->Bool
 |_,[]=>false
 |pre,a::r=>pre.any (fun b=>zbF a b)||zhy (pre++[a]) r
theorem zlD:∀(l pre:List Rec),zhy pre l=((l.any fun a=>pre.any fun b=>zbF a b)||zke l)
 | [],pre=>by simp[zhy,zke]
 |a::r,pre=>by
  rw[zhy,zlD r (pre++[a]),zke,List.any_cons];have h:(r.any fun a'=>(pre++[a]).any fun b=>zbF a' b)=((r.any fun a'=>pre.any fun b=>zbF a' b)||r.any fun y=>zbF y a):=by
   induction r with
   |nil=>rfl
   |cons x r ih=>
    rw[List.any_cons,List.any_cons,List.any_cons,ih,List.any_append,List.any_cons,List.any_nil,Bool.or_false];cases pre.any (fun b=>zbF x b)<;>cases zbF x a<;>cases(r.any fun a'=>pre.any fun b=>zbF a' b)<;>rfl
  rw[h];cases pre.any (fun b=>zbF a b)<;>cases(r.any fun a'=>pre.any fun b=>zbF a' b)<;>cases(r.any fun y=>zbF y a)<;>simp
theorem sl_take5{α:Type}{w:World}{size:Nat}{f:α->List Value}{A:Option Addr}{xs:List α}(h:Sl w size f A xs)(k:Nat):Sl w size f A (xs.take k):=fun hl=>by
 obtain⟨b,off,hA,hb,hc⟩:=h (by rw[List.length_take]at hl;omega);refine⟨b,off,hA,hb,fun j x hx=>hc j x ?_⟩;rw[List.getElem?_take]at hx;split at hx
 ·exact hx
 ·cases hx
theorem conC_any(a b:Rec)(P:Nat)(w:World)(ha:0<=a.kind/\a.kind<=4)(hb:0<=b.kind/\b.kind<=4)(hP:w.heap[P]?=some (recO a)):Calls Tryz.prog 76 #[b.v,.pointer (some ⟨P,0,none⟩)] w (Ret w (.bool (zbF a b))):=by
 have HA:=zHi (fun W=>zmH a b W ha hb);generalize zbF a b=r at*;obtain⟨kd,nm,ot,pl,dy,tl,nu,de⟩:=a;obtain⟨kd2,nm2,ot2,pl2,dy2,tl2,nu2,de2⟩:=b;have hl:=zab hP;have hn:P≠w.heap.size:=Mcm;unfold recO at hP;obtain⟨c0,c1,c2,c3,c4,c5,c6,c7⟩:=cF8 hP;clear hP ha hb;unfold Rec.v at HA⊢;go_enter Tryz.func76,Tryz.ntmps76
 go_wp2_with (go_at_call 77;go_must(refine(HA.o _).mono ?_);rintro e wq ⟨rfl,z,rfl⟩)
 go_ret
 exact Ret.of rfl Bw
theorem zjk(l:List Rec)(A:Option Addr)(c:Nat)(ci tm:Bool)(w:World)(hc:l.length<=c)(hl:l.length<=1000)(hk:∀x∈l,0<=x.kind/\x.kind<=4)(hS:Sl w 8 Rec.cells A l)
 (tY:∀W,Below w.heap.size w W->Calls Tryz.prog 78 #[.slice A l.length c] W (Ret W (.bool ci)))(p8:∀W,Below w.heap.size w W->Calls Tryz.prog 79 #[.slice A l.length c] W (Ret W (.bool tm))):
 Calls Tryz.prog 41 #[.slice A l.length c] w (Ret w (.bool (zke l||ci||tm))):=by
 have eg:∀args w,(callFunc 76 args).run Tryz.prog w=.ok (.enter 76 args) w:=enters_of Tryz.func76 Mcn rfl;obtain⟨Ig,HS,HK,Eo,EW⟩:=yH5 eg hS hk tY p8;have j8:zke l=zhy (l.take 0) (l.drop 0):=by rw[List.take_zero,List.drop_zero,zlD];simp
 generalize zke l=R at*;have HP:=zHi j8;clear hS hk tY p8 eg j8;go_enter Tryz.func41,Tryz.ntmps41
 go_wp2_with fail
 go_loopw [7] (fun i wr=>∃k:Nat,k<=l.length/\i=.int .i64 k/\Hid (R=zhy (l.take k) (l.drop k))/\Below w.heap.size w wr) (fun i _=>l.length-(intOf i).toNat)
 case atStart=>exact⟨0,Nat.zero_le _,rfl,HP.o,Below.refl _ _⟩
 case round=>
  obtain⟨k,hk,rfl,HX,hB⟩:=hrel;have HB:=zHi hB;have aE:=hB.size;by_cases aa:k<l.length
  ·have hx:=HX.o;rw[List.drop_eq_getElem_cons aa,zhy,<-List.take_succ_eq_append_getElem aa]at hx;have wU:∀W,Below wr.heap.size wr W->W.heap[wr.heap.size]?=some (recO l[k])->Calls Tryz.prog 75 #[.slice A k c,.func (.func 76) #[] #[.pointer (some ⟨wr.heap.size,0,none⟩)]] W (Ret W (.bool ((l.take k).any fun b=>zbF l[k] b))):=fun W hW hP=>by
    refine cfRec_any 76 _ Ig.o _ A k c (l.take k) W Mc6 Mc6 ((sl_take5 HS.o k).keep (HB.o.trans (hW.mono aE))) fun x hx W' pL=>?_
    refine(conC_any l[k] x wr.heap.size W' (HK.o _ (List.getElem_mem aa)) (HK.o x (List.mem_of_mem_take hx)) ((pL.block _ (zab hP)).trans hP)).mono ?_;rintro e wq ⟨rfl,z,rfl⟩;exact⟨rfl,pL.trans ((zap W' z).mono pL.size)⟩
   obtain⟨b,off,hA,hb,ah⟩:=(HS.o.keep hB).at aa;obtain⟨av,pi,am⟩:=yH3 hx wU aa;generalize l[k]=x at*;generalize((l.take k).any fun b=>zbF x b)=an at*;obtain⟨kd,nm,ot,pl,dy,tl,nu,de⟩:=x;have i0:wr.cell? ⟨b,off+k*8,none⟩=some (.int .i64 kd):=ah 0 _ rfl;have i1:wr.cell? ⟨b,off+k*8+1,none⟩=some (.string nm):=ah 1 _ rfl;have i2:wr.cell? ⟨b,off+k*8+2,none⟩=some (.string ot):=ah 2 _ rfl;have i3:wr.cell? ⟨b,off+k*8+3,none⟩=some (.string pl):=ah 3 _ rfl;have i4:wr.cell? ⟨b,off+k*8+4,none⟩=some (.int .i64 dy):=ah 4 _ rfl;have i5:wr.cell? ⟨b,off+k*8+5,none⟩=some (.int .i64 tl):=ah 5 _ rfl;have i6:wr.cell? ⟨b,off+k*8+6,none⟩=some (.int .i64 nu):=ah 6 _ rfl;have i7:wr.cell? ⟨b,off+k*8+7,none⟩=some (.int .i64 de):=ah 7 _ rfl;have au:(k:Int)<(l.length:Int):=Mcm;have aP:(0:Int)<=(k:Int):=Mcm;have fD:(k:Int)<=(c:Int):=Mcm;subst hA;clear ah hx wU HX hB;cases an
   ·go_wp2_with (go_at_call 75;go_must(refine(pi.o _ Bw (zas _ _ _ rfl)).mono ?_);rintro e wq ⟨rfl,z,rfl⟩)
    go_round
    case rel=>exact⟨k+1,am.o,by go_num,by show _=_;rw[av.o,Bool.false_or],HB.o.trans (Below.mono (B:=wr.heap.size) Bw aE)⟩
    case measure=>have:=am.o;simp only[intOf];omega
   ·have bw:Hid (R=true):=by show _=_;rw[av.o,Bool.true_or]
    go_wp2_with (go_at_call 75;go_must(refine(pi.o _ Bw (zas _ _ _ rfl)).mono ?_);rintro e wq ⟨rfl,z,rfl⟩)
    exact MaC
  ·have au:¬(k:Int)<(l.length:Int):=Mcm;have hx:=HX.o;rw[List.drop_eq_nil_of_le Mcm,zhy]at hx;have bw:Hid (R=false):=hx;clear hx;have tY:=fun W (hW:Below wr.heap.size wr W)=>Eo.o W (hB.trans (hW.mono aE))
   have p8:=fun W (hW:Below wr.heap.size wr W)=>EW.o W (hB.trans (hW.mono aE))
   obtain⟨uF,IX⟩:=yH2 tY p8;clear tY p8 hB Eo EW;cases ci
   ·go_wp2_with (first
     |(go_at_call 78;go_must(refine(uF.o _ Bw).mono ?_);rintro e wq ⟨rfl,z,rfl⟩)
     |(go_at_call 79;go_must(refine(IX.o _ Bw).mono ?_);rintro e wq2 ⟨rfl,z2,rfl⟩))
    exact MaC
   ·go_wp2_with (go_at_call 78;go_must(refine(uF.o _ Bw).mono ?_);rintro e wq ⟨rfl,z,rfl⟩)
    exact MaC
def zeS(d:Deed):Bool:=!(decide (20<d.place.size)||decide (20<d.frm.size)||decide (10<d.to.length))&&d.to.all fun p=>!decide (20<p.name.size)
def fewP(ls:List Law)(ds:List Deed):Bool:=!(decide (12<ls.length)||decide (14<ds.length))&&ds.all zeS
theorem zjJ{d:Deed}(h:zeS d=true):zdt d:=by
 unfold zeS at h;simp at h;obtain⟨⟨⟨h1,h2⟩,h3⟩,h4⟩:=h;exact⟨by omega,by omega,fun p hp=>by have:=h4 p hp;omega,by omega⟩
theorem few_lens{ls:List Law}{ds:List Deed}(h:fewP ls ds=true):(∀d∈ds,zdt d)/\ls.length<=12/\ds.length<=14/\(∀d∈ds,d.to.length<=10):=by
 unfold fewP at h;simp at h;obtain⟨⟨h1,h2⟩,h3⟩:=h;refine⟨fun d hd=>zjJ (h3 d hd),h1,h2,fun d hd=>?_⟩;have:=h3 d hd;unfold zeS at this;simp at this;exact this.1.2
theorem zlE(d:Deed)(B:Option Addr)(c:Nat)(w:World)(hc:d.to.length<=c)(hS:Sl w 3 RPart.cells B d.to):
 Calls Tryz.prog 6 #[d.v B c] w (Ret w (.bool (zeS d))):=by
 obtain⟨kd,dy,pl,fr,ts,cl,yr⟩:=d;have HS:=zHi hS;obtain⟨R,hR⟩:∃R,R=zeS ⟨kd,dy,pl,fr,ts,cl,yr⟩:=⟨_,rfl⟩
 rw[<-hR];unfold zeS at hR;unfold Deed.v;simp only at hR hc hS⊢;clear hS;go_enter Tryz.func6,Tryz.ntmps6
 by_cases l1:20<pl.size
 ·have HE:Hid (R=false):=by show _=_;rw[hR,decide_eq_true l1];rfl
  have q1:(20:Int)<(pl.size:Int):=Mcm;exact Mah
 have q1:¬(20:Int)<(pl.size:Int):=Mcm;by_cases l2:20<fr.size
 ·have HE:Hid (R=false):=by show _=_;rw[hR,decide_eq_true l2];simp
  have q2:(20:Int)<(fr.size:Int):=Mcm;exact Mah
 have q2:¬(20:Int)<(fr.size:Int):=Mcm;by_cases l3:10<ts.length
 ·have HE:Hid (R=false):=by show _=_;rw[hR,decide_eq_true l3];simp
  have q3:(10:Int)<(ts.length:Int):=Mcm;exact Mah
 have q3:¬(10:Int)<(ts.length:Int):=Mcm;have vt:Hid (R=(ts.drop 0).all fun p=>!decide (20<p.name.size)):=by
  show _=_;rw[hR,decide_eq_false l1,decide_eq_false l2,decide_eq_false l3,List.drop_zero];rfl
 clear hR;go_upto_region 3 with fail
 have k4:(w.alloc (.cells #[.int .i64 kd,.int .i64 dy,.string pl,.string fr,.slice B ts.length c,.int .i64 cl,.int .i64 yr] 28)).cell? ⟨w.heap.size,4,none⟩=some (.slice B ts.length c):=McR;have hB:Below w.heap.size w (w.alloc (.cells #[.int .i64 kd,.int .i64 dy,.string pl,.string fr,.slice B ts.length c,.int .i64 cl,.int .i64 yr] 28)):=Bw;generalize w.alloc (.cells #[.int .i64 kd,.int .i64 dy,.string pl,.string fr,.slice B ts.length c,.int .i64 cl,.int .i64 yr] 28)=W at*;obtain⟨zu,HB⟩:=yH2 (HS.o.keep hB) hB;clear hB HS;go_upto_region 4 with fail
 go_loopw [3] (fun i wr=>∃k:Nat,k<=ts.length/\i=.int .i64 k/\W=wr/\Hid (R=(ts.drop k).all fun p=>!decide (20<p.name.size))) (fun i _=>ts.length-(intOf i).toNat)
 case atStart=>exact⟨0,Nat.zero_le _,rfl,rfl,vt.o⟩
 case round=>
  obtain⟨k,hk,rfl,rfl,HX⟩:=hrel;by_cases aa:k<ts.length
  ·obtain⟨b,off,rfl,hb,ah⟩:=zu.o.at aa;have hx:=HX.o;rw[List.drop_eq_getElem_cons aa,List.all_cons]at hx;obtain⟨av,am⟩:=yH2 hx aa;generalize ts[k]=x at*;obtain⟨nm,nu,de⟩:=x;have i0:W.cell? ⟨b,off+k*3,none⟩=some (.string nm):=ah 0 _ rfl;have au:(k:Int)<(ts.length:Int):=Mcm;have aP:(0:Int)<=(k:Int):=Mcm;clear ah hx aa;by_cases l5:20<nm.size
   ·have HE:Hid (R=false):=by show _=_;rw[av.o];simp[l5]
    have q5:(20:Int)<(nm.size:Int):=Mcm;exact MV
   ·have q5:¬(20:Int)<(nm.size:Int):=Mcm;have HE:Hid (R=(ts.drop (k+1)).all fun p=>!decide (20<p.name.size)):=by show _=_;rw[av.o];simp[l5]
    go_wp2_with fail
    exact MK
  ·have au:¬(k:Int)<(ts.length:Int):=Mcm;have HE:Hid (R=true):=by show _=_;rw[HX.o,List.drop_of_length_le Mcm];rfl
   exact MV
theorem few_any(ls:List Law)(ds:List Deed)(LA:Option Addr)(n nc:Nat)(DA:Option Addr)(m mc:Nat)(w:World)(hR:RightsIn w ls ds LA n nc DA m mc):
 Calls Tryz.prog 5 #[.agg #[.slice LA n nc,.slice DA m mc]] w (Ret w (.bool (fewP ls ds))):=by
 obtain⟨rfl,rfl,xS,sK,_,hD⟩:=hR;have HD:=zHi hD;obtain⟨R,hR⟩:∃R,R=fewP ls ds:=⟨_,rfl⟩
 rw[<-hR];unfold fewP at hR;clear hD;go_enter Tryz.func5,Tryz.ntmps5
 by_cases l1:12<ls.length
 ·have HE:Hid (R=false):=by show _=_;rw[hR,decide_eq_true l1];rfl
  have q1:(12:Int)<(ls.length:Int):=Mcm;exact Mah
 have q1:¬(12:Int)<(ls.length:Int):=Mcm;by_cases l2:14<ds.length
 ·have HE:Hid (R=false):=by show _=_;rw[hR,decide_eq_true l2];simp
  have q2:(14:Int)<(ds.length:Int):=Mcm;exact Mah
 have q2:¬(14:Int)<(ds.length:Int):=Mcm;have vt:Hid (R=(ds.drop 0).all zeS):=by
  show _=_;rw[hR,decide_eq_false l1,decide_eq_false l2,List.drop_zero];rfl
 clear hR;go_upto_region 3 with fail
 have k4:(w.alloc (.cells #[.slice LA ls.length nc,.slice DA ds.length mc] 25)).cell? ⟨w.heap.size,1,none⟩=some (.slice DA ds.length mc):=McR;have hB:Below w.heap.size w (w.alloc (.cells #[.slice LA ls.length nc,.slice DA ds.length mc] 25)):=Bw;have hsz:w.heap.size<(w.alloc (.cells #[.slice LA ls.length nc,.slice DA ds.length mc] 25)).heap.size:=Mcp;generalize w.alloc (.cells #[.slice LA ls.length nc,.slice DA ds.length mc] 25)=W at*;obtain⟨jK,HB⟩:=yH2 (HD.o.keep zb5 hB) hB;clear hB HD;go_upto_region 4 with fail
 go_loopw [3] (fun i wr=>∃k:Nat,k<=ds.length/\i=.int .i64 k/\Hid (R=(ds.drop k).all zeS)/\Below W.heap.size W wr) (fun i _=>ds.length-(intOf i).toNat)
 case atStart=>exact⟨0,Nat.zero_le _,rfl,vt.o,Below.refl _ _⟩
 case round=>
  obtain⟨k,hk,rfl,HX,nz⟩:=hrel;have j4:wr.cell? ⟨w.heap.size,1,none⟩=some (.slice DA ds.length mc):=(zah nz hsz).trans k4;have nE:=nz.size;by_cases aa:k<ds.length
  ·obtain⟨b,off,cs,hA,hb,hr,ah⟩:=(jK.o.keep zb5 nz).at aa;have hx:=HX.o;rw[List.drop_eq_getElem_cons aa,List.all_cons]at hx;obtain⟨av,am⟩:=yH2 hx aa;generalize ds[k]=x at*;obtain⟨B,c,hc,rfl,hS⟩:=hr;have lq:=zHi (fun W' (h:Below wr.heap.size wr W')=>zlE x B c W' hc (hS.keep h));unfold Deed.v at lq;subst hA;have i0:=ah 0 _ rfl;have i1:=ah 1 _ rfl;have i2:=ah 2 _ rfl;have i3:=ah 3 _ rfl;have i4:=ah 4 _ rfl;have i5:=ah 5 _ rfl;have i6:=ah 6 _ rfl;simp only[Nat.add_zero]at i0;have au:(k:Int)<(ds.length:Int):=Mcm;have aP:(0:Int)<=(k:Int):=Mcm;have aW:=zHi nz;generalize zeS x=q at*;clear ah hx aa hS nz;cases q
   ·have HE:Hid (R=false):=MdJ;go_wp2_with (go_at_call 6;go_must(refine(lq.o _ Bw).mono ?_);rintro e wq ⟨rfl,z,rfl⟩)
    go_ret
    exact Ret.of (zaO HE.o.symm) (HB.o.trans ((aW.o.trans (Below.mono (B:=wr.heap.size) Bw nE)).mono HB.o.size))
   ·have HE:Hid (R=(ds.drop (k+1)).all zeS):=MdJ;go_wp2_with (go_at_call 6;go_must(refine(lq.o _ Bw).mono ?_);rintro e wq ⟨rfl,z,rfl⟩)
    go_round
    case rel=>exact⟨k+1,am.o,by go_num,HE.o,aW.o.trans (Below.mono (B:=wr.heap.size) Bw nE)⟩
    case measure=>have:=am.o;simp only[intOf];omega
  ·have au:¬(k:Int)<(ds.length:Int):=Mcm;have HE:Hid (R=true):=by show _=_;rw[HX.o,List.drop_of_length_le Mcm];rfl
   have aW:=zHi nz;clear nz;go_wp2_with fail
   go_ret
   exact Ret.of (zaO HE.o.symm) (HB.o.trans (aW.o.mono HB.o.size))
