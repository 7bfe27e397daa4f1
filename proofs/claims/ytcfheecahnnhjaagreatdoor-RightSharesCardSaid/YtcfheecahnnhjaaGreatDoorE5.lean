import Derived.Test.YtcfheecahnnhjaaGreatDoorE3
set_option linter.all false
set_option maxRecDepth 100000
set_option maxHeartbeats 4000000
namespace Go.Proofs.YtcfheecahnnhjaaGreatDoor
open Go.RowKit Go.Shelf
attribute [local go_sem] World.cell?_alloc_mark zag za4 zar zaB zaw zax zay zaz za0 za1 za2
attribute [local go_sem] zas zad
structure Fr2 (w W:World) (va vb:Value):Prop where
 os:W.os=w.os
 tape:W.tape=w.tape
 output:W.output=w.output
 size:w.heap.size<=W.heap.size
 block:∀k,k<w.heap.size->za5 va≠some k->za5 vb≠some k->W.heap[k]?=w.heap[k]?
section
variable {w W W':World} {va vb:Value} {n:Nat}
theorem Fr2.of_below(h:Below w.heap.size w W):Fr2 w W va vb:=⟨h.os,h.tape,h.output,h.size,fun k hk _ _=>h.block k hk⟩
theorem Fr2.below(h:Fr2 w W va vb)(k:Below W.heap.size W W'):Fr2 w W' va vb:=⟨k.os.trans h.os,k.tape.trans h.tape,k.output.trans h.output,Nat.le_trans h.size k.size,fun i hi h1 h2=>(k.block i (Nat.lt_of_lt_of_le hi h.size)).trans (h.block i hi h1 h2)⟩
theorem Fr2.row(h:Fr2 w W va vb){row:Option Nat}(k:W.grownBy W' row)(hr:∀j,row=some j->za5 va=some j\/za5 vb=some j\/w.heap.size<=j):Fr2 w W' va vb:=
 ⟨k.os.trans h.os,k.tape.trans h.tape,k.output.trans h.output,Nat.le_trans h.size k.size,fun i hi h1 h2=>(k.block i (Nat.lt_of_lt_of_le hi h.size) (fun e=>by
   rcases hr i e.symm with h|h|h
   ·exact h1 h
   ·exact h2 h
   ·omega)).trans (h.block i hi h1 h2)⟩
theorem Fr2.cells{base:Nat}{xs ys:List ByteArray}(h:Fr2 w W va vb)(ha:OwnS w base 9 1 sC va xs)(hb:OwnS w base 9 1 sC vb ys){k:Nat}{o:Obj}(hk:w.heap[k]?=some o)(ho:∀cur,o≠ .cells cur 9 (0,0)):W.heap[k]?=some o:=by
 refine(h.block k (Array.getElem?_eq_some_iff.1 hk).1 (fun e=>?_) (fun e=>?_)).trans hk
 ·obtain⟨cur,h'⟩:=zdX ha e;rw[h']at hk;exact ho cur (Option.some.inj hk).symm
 ·obtain⟨cur,h'⟩:=zdX hb e;rw[h']at hk;exact ho cur (Option.some.inj hk).symm
theorem Fr2.mapS{base:Nat}{xs ys:List ByteArray}(h:Fr2 w W va vb)(ha:OwnS w base 9 1 sC va xs)(hb:OwnS w base 9 1 sC vb ys){b:Nat}{m:List (ByteArray×Value)}(hm:MapS w b ekS (fun v:Value=>v) m):MapS W b ekS (fun v:Value=>v) m:=by
 obtain⟨es,c,hx⟩:=zbo hm;exact hm.keep ((h.cells ha hb hx (fun cur e=>by cases e)).trans hx.symm)
end
theorem zhg{P:Program}{ops:Array Oper}{o:Oper}{a:Act}{w:World}{K:Act->World->Prop}{Q:Exit->Act->World->Prop}{E:Prop}{T:TypeId}(bG:o.guard=none)(x i:Operand)(ho:o.op=.mapEntry T x i)(vx vi v:Value)(hx:a.eval x=vx)(hi:a.eval i=vi)(w':World)
 (hrun:(Instr.mapEntry T vx vi).run P w=.ok v w')(h:K (a.put o.dst v) w'):if Region.wanted o (yielded ops a.tmps)=true then Oper.wp P o a w K Q else E:=by
 have hw:Region.wanted o (yielded ops a.tmps)=true:=by simp[Region.wanted,bG]
 rw[if_pos hw];unfold Oper.wp;simp[execOp,ho,hx,hi,hrun,Result.andThen];exact h
theorem zfV{P:Program}{ops:Array Oper}{o:Oper}{a:Act}{w:World}{K:Act->World->Prop}{Q:Exit->Act->World->Prop}{E:Prop}{T:TypeId}(bG:o.guard=none)(x i u:Operand)(ho:o.op=.entryStore T x i u)(vx vi vu:Value)(hx:a.eval x=vx)(hi:a.eval i=vi)(hu:a.eval u=vu)(w':World)
 (hrun:(Instr.entryStore T vx vi vu).run P w=.ok () w')(h:K (a.put o.dst undef) w'):if Region.wanted o (yielded ops a.tmps)=true then Oper.wp P o a w K Q else E:=by
 exact M9
theorem child_any(base b:Nat)(s:St)(la co:Int)(d:Deed)(B:Option Addr)(c:Nat)(w:World)(hW:WldAt base w b s la co)(hd:OkD d)(hk:d.kind=6)(ax:d.to.length<=c)(hS:Sl w 3 RPart.cells B d.to)(bi:s.children.length<=1000):
 Calls Tryz.prog 114 #[.pointer (some ⟨b,0,none⟩),d.v B c] w (zbK base b (zcI s d) la co w):=by
 obtain⟨aP,_⟩:=hd.one (.inr (.inl hk));obtain⟨q,hq⟩:∃q,d.to=[q]:=List.length_eq_one_iff.1 aP;have fM:zbi d=q.name:=by unfold zbi;rw[hq];rfl
 obtain⟨b',off,rfl,cK,aM⟩:=hS.at (show 0<d.to.length by rw[hq];exact Nat.zero_lt_one);have i0:w.cell? ⟨b',off,none⟩=some (.string q.name):=by
  exact Mbc
 have pK:1<=c:=by rw[hq]at ax;exact ax
 clear hd aP aM hS ax;have ak:=hW;obtain⟨Bk,dd,cc,pp,wl,rr,mv,tv,ps,ba,hC,hP,hT⟩:=hW;have dK:=zab hC;obtain⟨kd,dy,pl,fr,ts,cl,yr⟩:=d;simp only at*;subst hq hk;classical
 have iZ:Hid (zcI s ⟨6,dy,pl,fr,[q],cl,yr⟩=if(zai s fr).any (zae q.name)then(s,5)else if decide (2<=(zbT s q.name).length)then(s,16)else if decide (Desc s q.name fr)then(s,25)else({s with children:=s.children++[(fr,q.name)]},0)):=by
  show _=_;unfold zcI;rw[fM]
 generalize zcI s ⟨6,dy,pl,fr,[q],cl,yr⟩=X at*;obtain⟨HC,HP,HT,HW⟩:=yH4 hC hP hT ak;have bX:(zai s fr).length<=1000:=by
  have:(zai s fr).length<=s.children.length:=by unfold zai;rw[List.length_map];exact List.length_filter_le _ _
  omega
 have fK:(zbT s q.name).length<=1000:=by
  have:(zbT s q.name).length<=s.children.length:=by unfold zbT;rw[List.length_map];exact List.length_filter_le _ _
  omega
 unfold WldC at hC;obtain⟨-,c1,c2⟩:=cF3 hC;obtain⟨mc,mp,r1,r2,r3,r4,r5,r6⟩:=HP.o.rows;obtain⟨KA,kc,bz,kf,ry⟩:=zkB (r3 fr);obtain⟨QA,qc,cj,FC,tX⟩:=zkB (r4 q.name);have dR:∀W,Below w.heap.size w W->(Instr.lookup 78 (.map (some cc)) (.string fr) false).run Tryz.prog W=.ok (.slice KA (zai s fr).length kc) W:=fun W hB=>by
  have:=zbn zjt (r1.below hB).at fr;rw[<-bz];exact this
 have cL:∀W,Below w.heap.size w W->(Instr.lookup 78 (.map (some pp)) (.string q.name) false).run Tryz.prog W=.ok (.slice QA (zbT s q.name).length qc) W:=fun W hB=>by
  have:=zbn zjt (r2.below hB).at q.name;rw[<-cj];exact this
 have fR:Sl w 1 sC KA (zai s fr):=by
  obtain⟨A,c',e,h,_⟩:=kf.sl za9;simp only[Value.slice.injEq]at e;rw[e.1];exact h
 have HK:=zHi fR
 have cU:=zHi (fun(W:World) (hM:MapS W cc ekS (fun v:Value=>v) mc)=>show(Instr.lookup 78 (.map (some cc)) (.string fr) false).run Tryz.prog W=.ok (.slice KA (zai s fr).length kc) W from by
  have:=zbn zjt hM.at fr;rw[<-bz]
  exact this)
 have Iu:=zHi (fun(W:World) (hM:MapS W pp ekS (fun v:Value=>v) mp)=>show(Instr.lookup 78 (.map (some pp)) (.string q.name) false).run Tryz.prog W=.ok (.slice QA (zbT s q.name).length qc) W from by
  have:=zbn zjt hM.at q.name;rw[<-cj]
  exact this)
 have cJ:∀g,za5 (.slice KA (zai s fr).length kc)=some g->za5 (.slice QA (zbT s q.name).length qc)≠some g:=fun g h1 h2=>by
  have h3:=r6.1;rw[r5,zc4,List.nodup_append]at h3;exact h3.2.2 g (zcN.2 ⟨_,zcM (ry g h1),h1⟩) g (zcN.2 ⟨_,zcM (tX g h2),h2⟩) rfl
 have fx:=zHi cJ;clear cJ;obtain⟨dg,dq,kI,gT,gV,bI,iX,IU⟩:=yH8 kf FC ry tX r1 r2 r3 r4;obtain⟨BG,py,Ex,gw,lJ⟩:=yH5 r5 r6 dR cL (fun W (hB:Below w.heap.size w W)=>zhu base b s fr q.name W (ak.peo.keep hB) Mcu);obtain⟨W1,aV⟩:∃W1,W1=w.alloc (.cells #[.int .i64 6,.int .i64 dy,.string pl,.string fr,.slice (some ⟨b',off,none⟩) 1 c,.int .i64 cl,.int .i64 yr] 69):=⟨_,rfl⟩
 have cA:Below w.heap.size w W1:=by rw[aV];exact Bw
 have k1:=Ex.o W1 cA;have k2:=gw.o W1 cA;have jA:=zHi (zlo (zai s fr) q.name KA (zai s fr).length kc W1 rfl Mcu (HK.o.keep cA));rw[aV]at k1 k2 jA;have tO:=zHi aV;clear hC hP hT ak fM dR cL fR cA aV kf FC ry tX bz cj r1 r2 r3 r4 r5 r6;unfold Deed.v;simp only;have aq:(0:Int)<(1:Int):=Mcw;generalize fE:zai s fr=ks at*;generalize cS:zbT s q.name=pz at*;generalize decide (Desc s q.name fr)=dz at*;generalize ks.any (zae q.name)=az at*;obtain⟨fg,kQ⟩:=yH2 fE cS;clear fE cS;go_enter Tryz.func114,Tryz.ntmps114
 cases az
 ·by_cases h2:2<=pz.length
  ·have Jl:(2:Int)<=(pz.length:Int):=Mcu;have H2:=zHi h2;clear h2;go_wp2_with (go_at_call 41;refine jA.o.mono ?_;rintro e wq ⟨rfl,rfl⟩)
   go_ret
   exact zbR HW.o Bw (by rw[iZ.o];simp[H2.o])
  ·have Jl:¬(2:Int)<=(pz.length:Int):=Mcu;have H2:=zHi h2;clear h2;cases dz
   ·go_upto_region 17 with(first
     |(go_at_call 41;refine jA.o.mono ?_;rintro e wq ⟨rfl,rfl⟩)
     |(go_at_call 40;refine(lJ.o _ Bw).mono ?_;rintro e wq ⟨rfl,z,rfl⟩))
    have L3:=Ex.o (W1.ext z) (by rw[tO.o];exact Bw);have L4:=gw.o (W1.ext z) (by rw[tO.o];exact Bw);have eS:Below w.heap.size w (W1.ext z):=by rw[tO.o];exact Bw
    have cz1:=(zah (o:=1) eS dK).trans c1;have cz2:=(zah (o:=2) eS dK).trans c2;rw[<-tO.o];generalize W1.ext z=WZ at*;have eu:=zHi eS;have gI:=eS.size;have jC:=zHi (Fr2.of_below (va:=.slice KA ks.length kc) (vb:=.slice QA pz.length qc) eS)
    have aA:=zHi (fun(W:World) (h:Fr2 w W (.slice KA ks.length kc) (.slice QA pz.length qc))=>show(false=true\/(W.cell? ⟨b,1,none⟩=some (.map (some cc))/\W.cell? ⟨b,2,none⟩=some (.map (some pp))/\(Instr.lookup 78 (.map (some cc)) (.string fr) false).run Tryz.prog W=.ok (.slice KA ks.length kc) W/\(Instr.lookup 78 (.map (some pp)) (.string q.name) false).run Tryz.prog W=.ok (.slice QA pz.length qc) W)) from by
     have cO:=HC.o;unfold WldC at cO;have kX:=h.cells dg.o dq.o cO (fun cur e=>by simp at e)
     exact .inr ⟨by simp only[World.cell?,kX];rfl,by simp only[World.cell?,kX];rfl,cU.o W (h.mapS dg.o dq.o gV.o),Iu.o W (h.mapS dg.o dq.o bI.o)⟩)
    clear eS;refine za7 28 (fun bb w'=>bb=true\/(w'.cell? ⟨b,1,none⟩=some (.map (some cc))/\w'.cell? ⟨b,2,none⟩=some (.map (some pp))/\(Instr.lookup 78 (.map (some cc)) (.string fr) false).run Tryz.prog w'=.ok (.slice KA ks.length kc) w'/\(Instr.lookup 78 (.map (some pp)) (.string q.name) false).run Tryz.prog w'=.ok (.slice QA pz.length qc) w')) Mcv ?hS ?hrest
    case hS=>exact aA.o _ (jC.o.below Bw)
    case hrest=>
     intro hHeld;refine TkM 0 ?_;refine TkM 1 ?_;refine TkM 2 ?_;refine TkM 3 ?_;refine TkM 4 ?_;refine TkM 5 ?_;refine TkM 6 ?_;refine TkM 7 ?_;refine TkM 8 ?_;refine FrM 9 false ?_;refine TkM 10 ?_;refine TkM 11 ?_;refine TkM 12 ?_;refine TkM 13 ?_;refine TkM 14 ?_;refine TkM 15 ?_;refine TkM 16 ?_;refine TkM 19 ?_;refine TkM 20 ?_;refine TkM 21 ?_;refine TkM 22 ?_;refine TkM 23 ?_;refine TkM 24 ?_;refine TkM 25 ?_;refine TwM 17 26 (fun K hK=>?_) fun K hK=>?_
     ·go_simp
      refine NxM hK (fun hHeld=>?_) (aA.o _ (jC.o.below Bw));clear hK K;refine TwM 18 26 (fun K hK=>?_) fun K hK=>?_
      ·refine zak (v:=.slice KA ks.length kc) (n:=ks.length) (m:=1) rfl _ _ rfl zb9 za9 zb8 rfl (xs:=ks) (ys:=[q.name]) (dg.o.keep (eu.o.trans ((Bw:Below WZ.heap.size WZ _).mono gI))) rfl rfl rfl (zcC Mc9) McP Mcu (by have:=HW.o.lt;simp;omega) ?_;intro v3 w3 h1 h2 h3;obtain⟨A6,c6,dG,_,_⟩:=h1.sl za9;rw[List.length_append]at dG;subst dG;have FR3:Fr2 w w3 (.slice KA ks.length kc) (.slice QA pz.length qc):=(jC.o.below Bw).row h2 (fun j hj=> .inl hj)
       have ob3:OwnS w3 base 9 1 sC (.slice QA pz.length qc) pz:=(dq.o.keep (eu.o.trans ((Bw:Below WZ.heap.size WZ _).mono gI))).grown h2 (by
        cases hb:za5 (.slice QA pz.length qc)with
        |none=>exact .inl rfl
        |some g=>exact .inr fun e=>fx.o g e.symm hb)
       have s3:=h2.size;simp only[World.size_alloc,World.size_drew]at s3 h3;refine NxM hK (fun hHeld=>?_) (aA.o _ FR3);clear hK K;refine OnM 26 false fun K hK=>?_
       go_simp
       refine NxM hK (fun hHeld=>?_) (aA.o _ (FR3.below Bw));clear hK K;refine OnM 27 false fun K hK=>?_
       refine zak (v:=.slice QA pz.length qc) (n:=pz.length) (m:=1) rfl _ _ rfl zb9 za9 zb8 rfl (xs:=pz) (ys:=[fr]) (ob3.keep (n:=w3.heap.size) Bw) rfl rfl rfl (zcC (Mc9)) McP Mcu (by have:=HW.o.lt;(try simp);omega) ?_;exact Ma
      ·go_simp
       refine NxM hK (fun hHeld=>?_) (aA.o _ (jC.o.below Bw));clear hK K;refine OnM 18 false fun K hK=>?_
       refine zak (v:=.slice KA ks.length kc) (n:=ks.length) (m:=1) rfl _ _ rfl zb9 za9 zb8 rfl (xs:=ks) (ys:=[q.name]) (dg.o.keep (eu.o.trans ((Bw:Below WZ.heap.size WZ _).mono gI))) rfl rfl rfl (zcC Mc9) McP Mcu (by have:=HW.o.lt;simp;omega) ?_;intro v3 w3 h1 h2 h3;obtain⟨A6,c6,dG,_,_⟩:=h1.sl za9;rw[List.length_append]at dG;subst dG;have FR3:Fr2 w w3 (.slice KA ks.length kc) (.slice QA pz.length qc):=(jC.o.below Bw).row h2 (fun j hj=> .inl hj)
       have ob3:OwnS w3 base 9 1 sC (.slice QA pz.length qc) pz:=(dq.o.keep (eu.o.trans ((Bw:Below WZ.heap.size WZ _).mono gI))).grown h2 (by
        cases hb:za5 (.slice QA pz.length qc)with
        |none=>exact .inl rfl
        |some g=>exact .inr fun e=>fx.o g e.symm hb)
       have s3:=h2.size;simp only[World.size_alloc,World.size_drew]at s3 h3;have x2:w3.heap[WZ.heap.size+1]?=some (.cells #[.string fr] 9):=(h2.block _ Mcx (fun e=>by have:=(dg.o.ge _ e.symm).2;omega)).trans (zaq _ _ _ Mcx);exact Mb6
     ·go_simp
      refine NxM hK (fun hHeld=>?_) (aA.o _ (jC.o.below Bw));clear hK K;refine OnM 17 false fun K hK=>?_
      go_simp
      refine NxM hK (fun hHeld=>?_) (aA.o _ (jC.o.below Bw));clear hK K;refine OnM 18 false fun K hK=>?_
      refine zak (v:=.slice KA ks.length kc) (n:=ks.length) (m:=1) rfl _ _ rfl zb9 za9 zb8 rfl (xs:=ks) (ys:=[q.name]) (dg.o.keep (eu.o.trans ((Bw:Below WZ.heap.size WZ _).mono gI))) rfl rfl rfl (zcC Mc9) McP Mcu (by have:=HW.o.lt;simp;omega) ?_;intro v3 w3 h1 h2 h3;obtain⟨A6,c6,dG,_,_⟩:=h1.sl za9;rw[List.length_append]at dG;subst dG;have FR3:Fr2 w w3 (.slice KA ks.length kc) (.slice QA pz.length qc):=(jC.o.below Bw).row h2 (fun j hj=> .inl hj)
      have ob3:OwnS w3 base 9 1 sC (.slice QA pz.length qc) pz:=(dq.o.keep (eu.o.trans ((Bw:Below WZ.heap.size WZ _).mono gI))).grown h2 (by
       cases hb:za5 (.slice QA pz.length qc)with
       |none=>exact .inl rfl
       |some g=>exact .inr fun e=>fx.o g e.symm hb)
      have s3:=h2.size;simp only[World.size_alloc,World.size_drew]at s3 h3;have x2:w3.heap[WZ.heap.size]?=some (.cells #[.string fr] 9):=(h2.block _ Mcz (fun e=>by have:=(dg.o.ge _ e.symm).2;omega)).trans (zal (zaq _ _ _ rfl));exact Mb6
   ·go_wp2_with (first
     |(go_at_call 41;refine jA.o.mono ?_;rintro e wq ⟨rfl,rfl⟩)
     |(go_at_call 40;refine(lJ.o _ Bw).mono ?_;rintro e wq ⟨rfl,z,rfl⟩))
    go_ret
    exact zbR HW.o Bw (by rw[iZ.o];simp[H2.o])
 ·go_wp2_with (go_at_call 41;refine jA.o.mono ?_;rintro e wq ⟨rfl,rfl⟩)
  go_ret
  exact zbR HW.o Bw (by rw[iZ.o];simp)
