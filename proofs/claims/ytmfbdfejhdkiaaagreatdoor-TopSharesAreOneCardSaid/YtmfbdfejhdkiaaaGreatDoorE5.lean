/- Walk of chapter 5's people.take: children. -/
import Derived.Test.YtmfbdfejhdkiaaaGreatDoorE3
import Derived.Test.YtmfbdfejhdkiaaaGreatDoorE6
set_option linter.all false
set_option maxRecDepth 100000
set_option maxHeartbeats 4000000
namespace Go.Proofs.YtmfbdfejhdkiaaaGreatDoor
open Go.RowKit Go.Shelf
attribute [local go_sem] World.cell?_alloc_mark zae za4 zao za8 zav zaw zax zay zaz za0 za1
attribute [local go_sem] zap zac
structure Fr2 (w W:World) (va vb:Value):Prop where
 os:W.os=w.os
 tape:W.tape=w.tape
 output:W.output=w.output
 size:w.heap.size<=W.heap.size
 block:∀k,k<w.heap.size->za6 va≠some k->za6 vb≠some k->W.heap[k]?=w.heap[k]?
section
variable {w W W':World} {va vb:Value} {n:Nat}
theorem Fr2.of_below(h:Qa w W):Fr2 w W va vb:=⟨h.os,h.tape,h.output,h.size,fun k hk _ _=>h.block k hk⟩
theorem Fr2.below(h:Fr2 w W va vb)(k:Qa W W'):Fr2 w W' va vb:=⟨k.os.trans h.os,k.tape.trans h.tape,k.output.trans h.output,Nat.le_trans h.size k.size,fun i hi h1 h2=>(k.block i (Nat.lt_of_lt_of_le hi h.size)).trans (h.block i hi h1 h2)⟩
theorem Fr2.row(h:Fr2 w W va vb){row:Option Nat}(k:W.grownBy W' row)(hr:∀j,row=some j->za6 va=some j\/za6 vb=some j\/w.heap.size<=j):Fr2 w W' va vb:=
 ⟨k.os.trans h.os,k.tape.trans h.tape,k.output.trans h.output,Nat.le_trans h.size k.size,fun i hi h1 h2=>(k.block i (Nat.lt_of_lt_of_le hi h.size) (fun e=>by
   rcases hr i e.symm with h|h|h
   ·exact h1 h
   ·exact h2 h
   ·omega)).trans (h.block i hi h1 h2)⟩
theorem Fr2.cells{base:Nat}{xs ys:List ByteArray}(h:Fr2 w W va vb)(ha:OwnS w base 9 1 sC va xs)(hb:OwnS w base 9 1 sC vb ys){k:Nat}{o:Obj}(hk:w.heap[k]?=some o)(ho:∀cur,o≠ .cells cur 9 (0,0)):W.heap[k]?=some o:=by
 refine(h.block k (Array.getElem?_eq_some_iff.1 hk).1 (fun e=>?_) (fun e=>?_)).trans hk
 ·obtain⟨cur,h'⟩:=zfu ha e;rw[h']at hk;exact ho cur (Option.some.inj hk).symm
 ·obtain⟨cur,h'⟩:=zfu hb e;rw[h']at hk;exact ho cur (Option.some.inj hk).symm
theorem Fr2.mapS{base:Nat}{xs ys:List ByteArray}(h:Fr2 w W va vb)(ha:OwnS w base 9 1 sC va xs)(hb:OwnS w base 9 1 sC vb ys){b:Nat}{m:List (ByteArray×Value)}(hm:MapS w b ekS (fun v:Value=>v) m):MapS W b ekS (fun v:Value=>v) m:=by
 obtain⟨es,c,hx⟩:=zb0 hm;exact hm.keep ((h.cells ha hb hx (fun cur e=>by cases e)).trans hx.symm)
end
theorem zjN{P:Program}{ops:Array Oper}{o:Oper}{a:Act}{w:World}{K:Act->World->Prop}{Q:Exit->Act->World->Prop}{E:Prop}{T:TypeId}(bL:o.guard=none)(x i:Operand)(ho:o.op=.mapEntry T x i)(vx vi v:Value)(hx:a.eval x=vx)(hi:a.eval i=vi)(w':World)
 (hrun:(Instr.mapEntry T vx vi).run P w=.ok v w')(h:K (a.put o.dst v) w'):if Region.wanted o (yielded ops a.tmps)=true then Oper.wp P o a w K Q else E:=by
 have hw:Region.wanted o (yielded ops a.tmps)=true:=by simp[Region.wanted,bL]
 rw[if_pos hw];unfold Oper.wp;simp[execOp,ho,hx,hi,hrun,Result.andThen];exact h
theorem ziH{P:Program}{ops:Array Oper}{o:Oper}{a:Act}{w:World}{K:Act->World->Prop}{Q:Exit->Act->World->Prop}{E:Prop}{T:TypeId}(bL:o.guard=none)(x i u:Operand)(ho:o.op=.entryStore T x i u)(vx vi vu:Value)(hx:a.eval x=vx)(hi:a.eval i=vi)(hu:a.eval u=vu)(w':World)
 (hrun:(Instr.entryStore T vx vi vu).run P w=.ok () w')(h:K (a.put o.dst undef) w'):if Region.wanted o (yielded ops a.tmps)=true then Oper.wp P o a w K Q else E:=by
 exact MaZ
theorem child_any(base b:Nat)(s:St)(la co:Int)(d:Deed)(B:Option Addr)(c:Nat)(w:World)(hW:WldAt base w b s la co)(hd:OkD d)(hk:d.kind=6)(ao:d.to.length<=c)(hS:Sl w 3 RPart.cells B d.to)(bj:s.children.length<=1000):
 Calls Tryz.prog 55 #[.pointer (some ⟨b,0,none⟩),d.v B c] w (zbC base b (zcD s d) la co w):=by
 obtain⟨aL,_⟩:=hd.one (.inr (.inl hk));obtain⟨q,hq⟩:∃q,d.to=[q]:=List.length_eq_one_iff.1 aL;have dA:zbh d=q.name:=by unfold zbh;rw[hq];rfl
 obtain⟨b',off,rfl,cI,aI⟩:=hS.at (show 0<d.to.length by rw[hq];exact Nat.zero_lt_one);have i0:w.cell? ⟨b',off,none⟩=some (.string q.name):=by
  exact Mbc
 have pZ:1<=c:=by rw[hq]at ao;exact ao
 clear hd aL aI hS ao;have am:=hW;obtain⟨Bk,dd,cc,pp,wl,rr,mv,tv,ps,aN,hC,hP,hT⟩:=hW;have cJ:=zab hC;obtain⟨kd,dy,pl,fr,ts,cl,yr⟩:=d;simp only at*;subst hq hk;classical
 have jk:Hid (zcD s ⟨6,dy,pl,fr,[q],cl,yr⟩=if(zaj s fr).any (zaf q.name)then(s,5)else if decide (2<=(zbM s q.name).length)then(s,16)else if decide (Desc s q.name fr)then(s,25)else({s with children:=s.children++[(fr,q.name)]},0)):=by
  show _=_;unfold zcD;rw[dA]
 generalize zcD s ⟨6,dy,pl,fr,[q],cl,yr⟩=X at*;obtain⟨HC,HP,HT,HW⟩:=yH4 hC hP hT am;have dO:(zaj s fr).length<=1000:=by
  have:(zaj s fr).length<=s.children.length:=by unfold zaj;rw[List.length_map];exact List.length_filter_le _ _
  omega
 have kI:(zbM s q.name).length<=1000:=by
  have:(zbM s q.name).length<=s.children.length:=by unfold zbM;rw[List.length_map];exact List.length_filter_le _ _
  omega
 unfold WldC at hC;obtain⟨-,c1,c2⟩:=cF3 hC;obtain⟨mc,mp,r1,r2,r3,r4,r5,r6⟩:=HP.o.rows;obtain⟨KA,kc,cK,Dd,CQ⟩:=row_own (r3 fr);obtain⟨QA,qc,cz,Gn,oJ⟩:=row_own (r4 q.name);have dP:∀W,Qa w W->(Instr.lookup 80 (.map (some cc)) (.string fr) false).run Tryz.prog W=.ok (.slice KA (zaj s fr).length kc) W:=fun W hB=>by
  have:=zcp zmB (r1.below hB).at fr;rw[<-cK];exact this
 have gN:∀W,Qa w W->(Instr.lookup 80 (.map (some pp)) (.string q.name) false).run Tryz.prog W=.ok (.slice QA (zbM s q.name).length qc) W:=fun W hB=>by
  have:=zcp zmB (r2.below hB).at q.name;rw[<-cz];exact this
 have jR:Sl w 1 sC KA (zaj s fr):=by
  obtain⟨A,c',e,h,_⟩:=Dd.sl zaH;simp only[Value.slice.injEq]at e;rw[e.1];exact h
 have HK:=zHi jR
 have ca:=zHi (fun(W:World) (hM:MapS W cc ekS (fun v:Value=>v) mc)=>show(Instr.lookup 80 (.map (some cc)) (.string fr) false).run Tryz.prog W=.ok (.slice KA (zaj s fr).length kc) W from by
  have:=zcp zmB hM.at fr;rw[<-cK]
  exact this)
 have BT:=zHi (fun(W:World) (hM:MapS W pp ekS (fun v:Value=>v) mp)=>show(Instr.lookup 80 (.map (some pp)) (.string q.name) false).run Tryz.prog W=.ok (.slice QA (zbM s q.name).length qc) W from by
  have:=zcp zmB hM.at q.name;rw[<-cz]
  exact this)
 have cH:∀g,za6 (.slice KA (zaj s fr).length kc)=some g->za6 (.slice QA (zbM s q.name).length qc)≠some g:=fun g h1 h2=>by
  have h3:=r6.1;rw[r5,zc2,List.nodup_append]at h3;exact h3.2.2 g (zdf.2 ⟨_,zdc (CQ g h1),h1⟩) g (zdf.2 ⟨_,zdc (oJ g h2),h2⟩) rfl
 have fD:=zHi cH;clear cH;obtain⟨fR,dm,IV,fQ,iN,bA,lW,Jt⟩:=yH8 Dd Gn CQ oJ r1 r2 r3 r4;obtain⟨Ju,tV,Fl,fF,qS⟩:=yH5 r5 r6 dP gN (fun W (hB:Qa w W)=>zlo base b s fr q.name W (am.peo.keep hB) Mcq);obtain⟨W1,aP⟩:=Qd (w.alloc (.cells #[.int .i64 6,.int .i64 dy,.string pl,.string fr,.slice (some ⟨b',off,none⟩) 1 c,.int .i64 cl,.int .i64 yr] 28))
 have dC:Qa w W1:=by rw[aP];exact Bw
 have k1:=Fl.o W1 dC;have k2:=fF.o W1 dC;have qQ:=zHi (coStr_any (zaj s fr) q.name KA (zaj s fr).length kc W1 rfl Mcq (HK.o.keep dC));rw[aP]at k1 k2 qQ;have u4:=zHi aP;clear hC hP hT am dA dP gN jR dC aP Dd Gn CQ oJ cK cz r1 r2 r3 r4 r5 r6;unfold Deed.v;simp only;have aq:(0:Int)<(1:Int):=Mcu;generalize iZ:zaj s fr=ks at*;generalize cT:zbM s q.name=pz at*;generalize decide (Desc s q.name fr)=dz at*;generalize ks.any (zaf q.name)=az at*;obtain⟨ii,kY⟩:=yH2 iZ cT;clear iZ cT;go_enter Tryz.func55,Tryz.ntmps55
 cases az
 ·by_cases h2:2<=pz.length
  ·have JX:(2:Int)<=(pz.length:Int):=Mcq;have H2:=zHi h2;clear h2;go_wp2_with (go_at_call 98;refine qQ.o.mono ?_;rintro e wq ⟨rfl,rfl⟩)
   go_ret
   exact zbK HW.o Bw (by rw[jk.o];simp[H2.o])
  ·have JX:¬(2:Int)<=(pz.length:Int):=Mcq;have H2:=zHi h2;clear h2;cases dz
   ·go_upto_region 17 with(first
     |(go_at_call 98;refine qQ.o.mono ?_;rintro e wq ⟨rfl,rfl⟩)
     |(go_at_call 99;refine(qS.o _ Bw).mono ?_;rintro e wq ⟨rfl,z,rfl⟩))
    have LR:=Fl.o (W1.ext z) (by rw[u4.o];exact Bw);have LS:=fF.o (W1.ext z) (by rw[u4.o];exact Bw);have eR:Qa w (W1.ext z):=by rw[u4.o];exact Bw
    have cz1:=(zah (o:=1) eR cJ).trans c1;have cz2:=(zah (o:=2) eR cJ).trans c2;rw[<-u4.o];generalize W1.ext z=WZ at*;have dH:=zHi eR;have eY:=eR.size;have iK:=zHi (Fr2.of_below (va:=.slice KA ks.length kc) (vb:=.slice QA pz.length qc) eR)
    have aB:=zHi (fun(W:World) (h:Fr2 w W (.slice KA ks.length kc) (.slice QA pz.length qc))=>show(false=true\/(W.cell? ⟨b,1,none⟩=some (.map (some cc))/\W.cell? ⟨b,2,none⟩=some (.map (some pp))/\(Instr.lookup 80 (.map (some cc)) (.string fr) false).run Tryz.prog W=.ok (.slice KA ks.length kc) W/\(Instr.lookup 80 (.map (some pp)) (.string q.name) false).run Tryz.prog W=.ok (.slice QA pz.length qc) W)) from by
     have cG:=HC.o;unfold WldC at cG;have oG:=h.cells fR.o dm.o cG (fun cur e=>by simp at e)
     exact .inr ⟨by simp only[World.cell?,oG];rfl,by simp only[World.cell?,oG];rfl,ca.o W (h.mapS fR.o dm.o iN.o),BT.o W (h.mapS fR.o dm.o bA.o)⟩)
    clear eR;refine zaJ 28 (fun bb w'=>bb=true\/(w'.cell? ⟨b,1,none⟩=some (.map (some cc))/\w'.cell? ⟨b,2,none⟩=some (.map (some pp))/\(Instr.lookup 80 (.map (some cc)) (.string fr) false).run Tryz.prog w'=.ok (.slice KA ks.length kc) w'/\(Instr.lookup 80 (.map (some pp)) (.string q.name) false).run Tryz.prog w'=.ok (.slice QA pz.length qc) w')) Mcs ?hS ?hrest
    case hS=>exact aB.o _ (iK.o.below Bw)
    case hrest=>
     intro hHeld;refine TkM 0 ?_;refine TkM 1 ?_;refine TkM 2 ?_;refine TkM 3 ?_;refine TkM 4 ?_;refine TkM 5 ?_;refine TkM 6 ?_;refine TkM 7 ?_;refine TkM 8 ?_;refine FrM 9 false ?_;refine TkM 10 ?_;refine TkM 11 ?_;refine TkM 12 ?_;refine TkM 13 ?_;refine TkM 14 ?_;refine TkM 15 ?_;refine TkM 16 ?_;refine TkM 19 ?_;refine TkM 20 ?_;refine TkM 21 ?_;refine TkM 22 ?_;refine TkM 23 ?_;refine TkM 24 ?_;refine TkM 25 ?_;refine TwM 17 26 (fun K hK=>?_) fun K hK=>?_
     ·go_simp
      refine NxM hK (fun hHeld=>?_) (aB.o _ (iK.o.below Bw));clear hK K;refine TwM 18 26 (fun K hK=>?_) fun K hK=>?_
      ·refine zak (v:=.slice KA ks.length kc) (n:=ks.length) (m:=1) rfl _ _ rfl zbJ zaH zbI rfl (xs:=ks) (ys:=[q.name]) (fR.o.keep (dH.o.trans ((Bw:Qa WZ _).mono eY))) rfl rfl rfl (zdX Mc2) McK Mcq (by have:=HW.o.lt;simp;omega) ?_;intro v3 w3 h1 h2 h3;obtain⟨A6,c6,ei,_,_⟩:=h1.sl zaH;rw[List.length_append]at ei;subst ei;have FR3:Fr2 w w3 (.slice KA ks.length kc) (.slice QA pz.length qc):=(iK.o.below Bw).row h2 (fun j hj=> .inl hj)
       have ob3:OwnS w3 base 9 1 sC (.slice QA pz.length qc) pz:=(dm.o.keep (dH.o.trans ((Bw:Qa WZ _).mono eY))).grown h2 (by
        cases hb:za6 (.slice QA pz.length qc)with
        |none=>exact .inl rfl
        |some g=>exact .inr fun e=>fD.o g e.symm hb)
       have s3:=h2.size;simp only[World.size_alloc,World.size_drew]at s3 h3;refine NxM hK (fun hHeld=>?_) (aB.o _ FR3);clear hK K;refine OnM 26 false fun K hK=>?_
       go_simp
       refine NxM hK (fun hHeld=>?_) (aB.o _ (FR3.below Bw));clear hK K;refine OnM 27 false fun K hK=>?_
       refine zak (v:=.slice QA pz.length qc) (n:=pz.length) (m:=1) rfl _ _ rfl zbJ zaH zbI rfl (xs:=pz) (ys:=[fr]) (ob3.keep (n:=w3.heap.size) Bw) rfl rfl rfl (zdX (Mc2)) McK Mcq (by have:=HW.o.lt;(try simp);omega) ?_;exact Ma
      ·go_simp
       refine NxM hK (fun hHeld=>?_) (aB.o _ (iK.o.below Bw));clear hK K;refine OnM 18 false fun K hK=>?_
       refine zak (v:=.slice KA ks.length kc) (n:=ks.length) (m:=1) rfl _ _ rfl zbJ zaH zbI rfl (xs:=ks) (ys:=[q.name]) (fR.o.keep (dH.o.trans ((Bw:Qa WZ _).mono eY))) rfl rfl rfl (zdX Mc2) McK Mcq (by have:=HW.o.lt;simp;omega) ?_;intro v3 w3 h1 h2 h3;obtain⟨A6,c6,ei,_,_⟩:=h1.sl zaH;rw[List.length_append]at ei;subst ei;have FR3:Fr2 w w3 (.slice KA ks.length kc) (.slice QA pz.length qc):=(iK.o.below Bw).row h2 (fun j hj=> .inl hj)
       have ob3:OwnS w3 base 9 1 sC (.slice QA pz.length qc) pz:=(dm.o.keep (dH.o.trans ((Bw:Qa WZ _).mono eY))).grown h2 (by
        cases hb:za6 (.slice QA pz.length qc)with
        |none=>exact .inl rfl
        |some g=>exact .inr fun e=>fD.o g e.symm hb)
       have s3:=h2.size;simp only[World.size_alloc,World.size_drew]at s3 h3;have x2:w3.heap[WZ.heap.size+1]?=some (.cells #[.string fr] 9):=(h2.block _ Mcv (fun e=>by have:=(fR.o.ge _ e.symm).2;omega)).trans (zat _ _ _ Mcv);exact Mb1
     ·go_simp
      refine NxM hK (fun hHeld=>?_) (aB.o _ (iK.o.below Bw));clear hK K;refine OnM 17 false fun K hK=>?_
      go_simp
      refine NxM hK (fun hHeld=>?_) (aB.o _ (iK.o.below Bw));clear hK K;refine OnM 18 false fun K hK=>?_
      refine zak (v:=.slice KA ks.length kc) (n:=ks.length) (m:=1) rfl _ _ rfl zbJ zaH zbI rfl (xs:=ks) (ys:=[q.name]) (fR.o.keep (dH.o.trans ((Bw:Qa WZ _).mono eY))) rfl rfl rfl (zdX Mc2) McK Mcq (by have:=HW.o.lt;simp;omega) ?_;intro v3 w3 h1 h2 h3;obtain⟨A6,c6,ei,_,_⟩:=h1.sl zaH;rw[List.length_append]at ei;subst ei;have FR3:Fr2 w w3 (.slice KA ks.length kc) (.slice QA pz.length qc):=(iK.o.below Bw).row h2 (fun j hj=> .inl hj)
      have ob3:OwnS w3 base 9 1 sC (.slice QA pz.length qc) pz:=(dm.o.keep (dH.o.trans ((Bw:Qa WZ _).mono eY))).grown h2 (by
       cases hb:za6 (.slice QA pz.length qc)with
       |none=>exact .inl rfl
       |some g=>exact .inr fun e=>fD.o g e.symm hb)
      have s3:=h2.size;simp only[World.size_alloc,World.size_drew]at s3 h3;have x2:w3.heap[WZ.heap.size]?=some (.cells #[.string fr] 9):=(h2.block _ Mcw (fun e=>by have:=(fR.o.ge _ e.symm).2;omega)).trans (zal (zat _ _ _ rfl));exact Mb1
   ·go_wp2_with (first
     |(go_at_call 98;refine qQ.o.mono ?_;rintro e wq ⟨rfl,rfl⟩)
     |(go_at_call 99;refine(qS.o _ Bw).mono ?_;rintro e wq ⟨rfl,z,rfl⟩))
    go_ret
    exact zbK HW.o Bw (by rw[jk.o];simp[H2.o])
 ·go_wp2_with (go_at_call 98;refine qQ.o.mono ?_;rintro e wq ⟨rfl,rfl⟩)
  go_ret
  exact zbK HW.o Bw (by rw[jk.o];simp)
