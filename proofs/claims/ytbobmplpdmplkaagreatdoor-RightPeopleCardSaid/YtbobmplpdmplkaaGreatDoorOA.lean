import Derived.Test.YtbobmplpdmplkaaGreatDoorE3
import Derived.Test.YtbobmplpdmplkaaGreatDoorE6
import Derived.Test.YtbobmplpdmplkaaGreatDoorWA
set_option linter.all false
set_option maxRecDepth 100000
set_option maxHeartbeats 4000000
namespace Go.Proofs.YtbobmplpdmplkaaGreatDoor
open Go.RowKit
attribute [local go_sem] World.cell?_alloc_mark zaf za4 zam za7 zaw zax zay zaz za0 za1 za2
attribute [local go_sem] zan zac
section
open Go.Shelf
structure Fr2 (w W:World) (va vb:Value):Prop where
 os:W.os=w.os
 tape:W.tape=w.tape
 output:W.output=w.output
 size:w.heap.size<=W.heap.size
 block:∀k,k<w.heap.size->za5 va≠some k->za5 vb≠some k->W.heap[k]?=w.heap[k]?
section
variable {w W W':World} {va vb:Value} {n:Nat}
theorem Fr2.of_below(h:Below w.heap.size w W):Fr2 w W va vb:=⟨h.os,h.tape,h.output,h.size,fun k hk _ _=>h.block k hk⟩
theorem Fr2.below(h:Fr2 w W va vb)(k:Below W.heap.size W W'):Fr2 w W' va vb:=⟨k.os.trans h.os,k.tape.trans h.tape,k.output.trans h.output,Nat.le_trans h.size k.size,fun i hi h1 h2=>(k.block i (Nat.lt_of_lt_of_le hi h.size)).trans (h.block i hi h1 h2)⟩
theorem Fr2.row(h:Fr2 w W va vb){row:Option Nat}(k:W.grownBy W' row)(hr:∀j,row=some j->za5 va=some j\/za5 vb=some j\/w.heap.size<=j):Fr2 w W' va vb:=
 ⟨k.os.trans h.os,k.tape.trans h.tape,k.output.trans h.output,Nat.le_trans h.size k.size,fun i hi h1 h2=>(k.block i (Nat.lt_of_lt_of_le hi h.size) (fun e=>by
   rcases hr i e.symm with h|h|h
   ·exact h1 h
   ·exact h2 h
   ·omega)).trans (h.block i hi h1 h2)⟩
theorem Fr2.cells{base:Nat}{xs ys:List ByteArray}(h:Fr2 w W va vb)(ha:OwnS w base 9 1 sC va xs)(hb:OwnS w base 9 1 sC vb ys){k:Nat}{o:Obj}(hk:w.heap[k]?=some o)(ho:∀cur,o≠ .cells cur 9 (0,0)):W.heap[k]?=some o:=by
 refine(h.block k (Array.getElem?_eq_some_iff.1 hk).1 (fun e=>?_) (fun e=>?_)).trans hk
 ·obtain⟨cur,h'⟩:=zdO ha e;rw[h']at hk;exact ho cur (Option.some.inj hk).symm
 ·obtain⟨cur,h'⟩:=zdO hb e;rw[h']at hk;exact ho cur (Option.some.inj hk).symm
theorem Fr2.mapS{base:Nat}{xs ys:List ByteArray}(h:Fr2 w W va vb)(ha:OwnS w base 9 1 sC va xs)(hb:OwnS w base 9 1 sC vb ys){b:Nat}{m:List (ByteArray×Value)}(hm:MapS w b ekS (fun v:Value=>v) m):MapS W b ekS (fun v:Value=>v) m:=by
 obtain⟨es,c,hx⟩:=zbl hm;exact hm.keep ((h.cells ha hb hx (fun cur e=>by cases e)).trans hx.symm)
end
theorem zhc{P:Program}{ops:Array Oper}{o:Oper}{a:Act}{w:World}{K:Act->World->Prop}{Q:Exit->Act->World->Prop}{E:Prop}{T:TypeId}(bN:o.guard=none)(x i:Operand)(ho:o.op=.mapEntry T x i)(vx vi v:Value)(hx:a.eval x=vx)(hi:a.eval i=vi)(w':World)
 (hrun:(Instr.mapEntry T vx vi).run P w=.ok v w')(h:K (a.put o.dst v) w'):if Region.wanted o (yielded ops a.tmps)=true then Oper.wp P o a w K Q else E:=by
 have hw:Region.wanted o (yielded ops a.tmps)=true:=by simp[Region.wanted,bN]
 rw[if_pos hw];unfold Oper.wp;simp[execOp,ho,hx,hi,hrun,Result.andThen];exact h
theorem zfR{P:Program}{ops:Array Oper}{o:Oper}{a:Act}{w:World}{K:Act->World->Prop}{Q:Exit->Act->World->Prop}{E:Prop}{T:TypeId}(bN:o.guard=none)(x i u:Operand)(ho:o.op=.entryStore T x i u)(vx vi vu:Value)(hx:a.eval x=vx)(hi:a.eval i=vi)(hu:a.eval u=vu)(w':World)
 (hrun:(Instr.entryStore T vx vi vu).run P w=.ok () w')(h:K (a.put o.dst undef) w'):if Region.wanted o (yielded ops a.tmps)=true then Oper.wp P o a w K Q else E:=by
 exact M8
theorem child_any(base b:Nat)(s:St)(la co:Int)(d:Deed)(B:Option Addr)(c:Nat)(w:World)(hW:WldAt base w b s la co)(hd:OkD d)(hk:d.kind=6)(ay:d.to.length<=c)(hS:Sl w 3 RPart.cells B d.to)(aW:s.children.length<=1000):
 Calls Tryz.prog 126 #[.pointer (some ⟨b,0,none⟩),d.v B c] w (zbH base b (zcE s d) la co w):=by
 obtain⟨aM,_⟩:=hd.one (.inr (.inl hk));obtain⟨q,hq⟩:∃q,d.to=[q]:=List.length_eq_one_iff.1 aM;have fI:zbf d=q.name:=by unfold zbf;rw[hq];rfl
 obtain⟨b',off,rfl,cJ,aN⟩:=hS.at (show 0<d.to.length by rw[hq];exact Nat.zero_lt_one);have i0:w.cell? ⟨b',off,none⟩=some (.string q.name):=by
  exact Mbc
 have pF:1<=c:=by rw[hq]at ay;exact ay
 clear hd aM aN hS ay;have am:=hW;obtain⟨Bk,dd,cc,pp,wl,rr,mv,tv,ps,ba,hC,hP,hT⟩:=hW;have dg:=zab hC;obtain⟨kd,dy,pl,fr,ts,cl,yr⟩:=d;simp only at*;subst hq hk;classical
 have iZ:Hid (zcE s ⟨6,dy,pl,fr,[q],cl,yr⟩=if(zai s fr).any (zae q.name)then(s,5)else if decide (2<=(zbP s q.name).length)then(s,16)else if decide (Desc s q.name fr)then(s,25)else({s with children:=s.children++[(fr,q.name)]},0)):=by
  show _=_;unfold zcE;rw[fI]
 generalize zcE s ⟨6,dy,pl,fr,[q],cl,yr⟩=X at*;obtain⟨HC,HP,HT,HW⟩:=yH4 hC hP hT am;have bV:(zai s fr).length<=1000:=by
  have:(zai s fr).length<=s.children.length:=by unfold zai;rw[List.length_map];exact List.length_filter_le _ _
  omega
 have iN:(zbP s q.name).length<=1000:=by
  have:(zbP s q.name).length<=s.children.length:=by unfold zbP;rw[List.length_map];exact List.length_filter_le _ _
  omega
 unfold WldC at hC;obtain⟨-,c1,c2⟩:=cF3 hC;obtain⟨mc,mp,r1,r2,r3,r4,r5,r6⟩:=HP.o.rows;obtain⟨KA,kc,bB,kf,r9⟩:=zk1 (r3 fr);obtain⟨QA,qc,cy,Fe,tC⟩:=zk1 (r4 q.name);have dK:∀W,Below w.heap.size w W->(Instr.lookup 85 (.map (some cc)) (.string fr) false).run Tryz.prog W=.ok (.slice KA (zai s fr).length kc) W:=fun W hB=>by
  have:=zbk zjl (r1.below hB).at fr;rw[<-bB];exact this
 have cK:∀W,Below w.heap.size w W->(Instr.lookup 85 (.map (some pp)) (.string q.name) false).run Tryz.prog W=.ok (.slice QA (zbP s q.name).length qc) W:=fun W hB=>by
  have:=zbk zjl (r2.below hB).at q.name;rw[<-cy];exact this
 have fO:Sl w 1 sC KA (zai s fr):=by
  obtain⟨A,c',e,h,_⟩:=kf.sl za9;simp only[Value.slice.injEq]at e;rw[e.1];exact h
 have HK:=zHi fO
 have cS:=zHi (fun(W:World) (hM:MapS W cc ekS (fun v:Value=>v) mc)=>show(Instr.lookup 85 (.map (some cc)) (.string fr) false).run Tryz.prog W=.ok (.slice KA (zai s fr).length kc) W from by
  have:=zbk zjl hM.at fr;rw[<-bB]
  exact this)
 have Ia:=zHi (fun(W:World) (hM:MapS W pp ekS (fun v:Value=>v) mp)=>show(Instr.lookup 85 (.map (some pp)) (.string q.name) false).run Tryz.prog W=.ok (.slice QA (zbP s q.name).length qc) W from by
  have:=zbk zjl hM.at q.name;rw[<-cy]
  exact this)
 have cI:∀g,za5 (.slice KA (zai s fr).length kc)=some g->za5 (.slice QA (zbP s q.name).length qc)≠some g:=fun g h1 h2=>by
  have h3:=r6.1;rw[r5,zc0,List.nodup_append]at h3;exact h3.2.2 g (zcI.2 ⟨_,zcH (r9 g h1),h1⟩) g (zcI.2 ⟨_,zcH (tC g h2),h2⟩) rfl
 have fw:=zHi cI;clear cI;obtain⟨da,dj,kI,gH,gJ,bF,iY,Iz⟩:=yH8 kf Fe r9 tC r1 r2 r3 r4;obtain⟨fA,pj,E6,fX,gF⟩:=yH5 r5 r6 dK cK (fun W (hB:Below w.heap.size w W)=>zho base b s fr q.name W (am.peo.keep hB) Mcy);obtain⟨W1,aT⟩:∃W1,W1=w.alloc (.cells #[.int .i64 6,.int .i64 dy,.string pl,.string fr,.slice (some ⟨b',off,none⟩) 1 c,.int .i64 cl,.int .i64 yr] 76):=⟨_,rfl⟩
 have cu:Below w.heap.size w W1:=by rw[aT];exact Bw
 have k1:=E6.o W1 cu;have k2:=fX.o W1 cu;have gD:=zHi (zll (zai s fr) q.name KA (zai s fr).length kc W1 rfl Mcy (HK.o.keep cu));rw[aT]at k1 k2 gD;have tq:=zHi aT;clear hC hP hT am fI dK cK fO cu aT kf Fe r9 tC bB cy r1 r2 r3 r4 r5 r6;unfold Deed.v;simp only;have ao:(0:Int)<(1:Int):=McA;generalize fC:zai s fr=ks at*;generalize ei:zbP s q.name=pz at*;generalize decide (Desc s q.name fr)=dz at*;generalize ks.any (zae q.name)=az at*;obtain⟨fg,kP⟩:=yH2 fC ei;clear fC ei;go_enter Tryz.func126,Tryz.ntmps126
 cases az
 ·by_cases h2:2<=pz.length
  ·have IZ:(2:Int)<=(pz.length:Int):=Mcy;have H2:=zHi h2;clear h2;go_wp2_with (go_at_call 52;refine gD.o.mono ?_;rintro e wq ⟨rfl,rfl⟩)
   go_ret
   exact zbN HW.o Bw (by rw[iZ.o];simp[H2.o])
  ·have IZ:¬(2:Int)<=(pz.length:Int):=Mcy;have H2:=zHi h2;clear h2;cases dz
   ·go_upto_region 17 with(first
     |(go_at_call 52;refine gD.o.mono ?_;rintro e wq ⟨rfl,rfl⟩)
     |(go_at_call 51;refine(gF.o _ Bw).mono ?_;rintro e wq ⟨rfl,z,rfl⟩))
    have KI:=E6.o (W1.ext z) (by rw[tq.o];exact Bw);have KJ:=fX.o (W1.ext z) (by rw[tq.o];exact Bw);have eO:Below w.heap.size w (W1.ext z):=by rw[tq.o];exact Bw
    have cz1:=(zah (o:=1) eO dg).trans c1;have cz2:=(zah (o:=2) eO dg).trans c2;rw[<-tq.o];generalize W1.ext z=WZ at*;have dF:=zHi eO;have gx:=eO.size;have jC:=zHi (Fr2.of_below (va:=.slice KA ks.length kc) (vb:=.slice QA pz.length qc) eO)
    have aE:=zHi (fun(W:World) (h:Fr2 w W (.slice KA ks.length kc) (.slice QA pz.length qc))=>show(false=true\/(W.cell? ⟨b,1,none⟩=some (.map (some cc))/\W.cell? ⟨b,2,none⟩=some (.map (some pp))/\(Instr.lookup 85 (.map (some cc)) (.string fr) false).run Tryz.prog W=.ok (.slice KA ks.length kc) W/\(Instr.lookup 85 (.map (some pp)) (.string q.name) false).run Tryz.prog W=.ok (.slice QA pz.length qc) W)) from by
     have cO:=HC.o;unfold WldC at cO;have kV:=h.cells da.o dj.o cO (fun cur e=>by simp at e)
     exact .inr ⟨by simp only[World.cell?,kV];rfl,by simp only[World.cell?,kV];rfl,cS.o W (h.mapS da.o dj.o gJ.o),Ia.o W (h.mapS da.o dj.o bF.o)⟩)
    clear eO;refine zaB 28 (fun bb w'=>bb=true\/(w'.cell? ⟨b,1,none⟩=some (.map (some cc))/\w'.cell? ⟨b,2,none⟩=some (.map (some pp))/\(Instr.lookup 85 (.map (some cc)) (.string fr) false).run Tryz.prog w'=.ok (.slice KA ks.length kc) w'/\(Instr.lookup 85 (.map (some pp)) (.string q.name) false).run Tryz.prog w'=.ok (.slice QA pz.length qc) w')) Mcz ?hS ?hrest
    case hS=>exact aE.o _ (jC.o.below Bw)
    case hrest=>
     intro hHeld;refine TkM 0 ?_;refine TkM 1 ?_;refine TkM 2 ?_;refine TkM 3 ?_;refine TkM 4 ?_;refine TkM 5 ?_;refine TkM 6 ?_;refine TkM 7 ?_;refine TkM 8 ?_;refine FrM 9 false ?_;refine TkM 10 ?_;refine TkM 11 ?_;refine TkM 12 ?_;refine TkM 13 ?_;refine TkM 14 ?_;refine TkM 15 ?_;refine TkM 16 ?_;refine TkM 19 ?_;refine TkM 20 ?_;refine TkM 21 ?_;refine TkM 22 ?_;refine TkM 23 ?_;refine TkM 24 ?_;refine TkM 25 ?_;refine TwM 17 26 (fun K hK=>?_) fun K hK=>?_
     ·go_simp
      refine NxM hK (fun hHeld=>?_) (aE.o _ (jC.o.below Bw));clear hK K;refine TwM 18 26 (fun K hK=>?_) fun K hK=>?_
      ·refine zak (v:=.slice KA ks.length kc) (n:=ks.length) (m:=1) rfl _ _ rfl zbB za9 zbA rfl (xs:=ks) (ys:=[q.name]) (da.o.keep (dF.o.trans ((Bw:Below WZ.heap.size WZ _).mono gx))) rfl rfl rfl (zcl Mdd) McS Mcy (by have:=HW.o.lt;simp;omega) ?_;intro v3 w3 h1 h2 h3;obtain⟨A6,c6,dA,_,_⟩:=h1.sl za9;rw[List.length_append]at dA;subst dA;have FR3:Fr2 w w3 (.slice KA ks.length kc) (.slice QA pz.length qc):=(jC.o.below Bw).row h2 (fun j hj=> .inl hj)
       have ob3:OwnS w3 base 9 1 sC (.slice QA pz.length qc) pz:=(dj.o.keep (dF.o.trans ((Bw:Below WZ.heap.size WZ _).mono gx))).grown h2 (by
        cases hb:za5 (.slice QA pz.length qc)with
        |none=>exact .inl rfl
        |some g=>exact .inr fun e=>fw.o g e.symm hb)
       have s3:=h2.size;simp only[World.size_alloc,World.size_drew]at s3 h3;refine NxM hK (fun hHeld=>?_) (aE.o _ FR3);clear hK K;refine OnM 26 false fun K hK=>?_
       go_simp
       refine NxM hK (fun hHeld=>?_) (aE.o _ (FR3.below Bw));clear hK K;refine OnM 27 false fun K hK=>?_
       refine zak (v:=.slice QA pz.length qc) (n:=pz.length) (m:=1) rfl _ _ rfl zbB za9 zbA rfl (xs:=pz) (ys:=[fr]) (ob3.keep (n:=w3.heap.size) Bw) rfl rfl rfl (zcl (Mdd)) McS Mcy (by have:=HW.o.lt;(try simp);omega) ?_;exact Ma
      ·go_simp
       refine NxM hK (fun hHeld=>?_) (aE.o _ (jC.o.below Bw));clear hK K;refine OnM 18 false fun K hK=>?_
       refine zak (v:=.slice KA ks.length kc) (n:=ks.length) (m:=1) rfl _ _ rfl zbB za9 zbA rfl (xs:=ks) (ys:=[q.name]) (da.o.keep (dF.o.trans ((Bw:Below WZ.heap.size WZ _).mono gx))) rfl rfl rfl (zcl Mdd) McS Mcy (by have:=HW.o.lt;simp;omega) ?_;intro v3 w3 h1 h2 h3;obtain⟨A6,c6,dA,_,_⟩:=h1.sl za9;rw[List.length_append]at dA;subst dA;have FR3:Fr2 w w3 (.slice KA ks.length kc) (.slice QA pz.length qc):=(jC.o.below Bw).row h2 (fun j hj=> .inl hj)
       have ob3:OwnS w3 base 9 1 sC (.slice QA pz.length qc) pz:=(dj.o.keep (dF.o.trans ((Bw:Below WZ.heap.size WZ _).mono gx))).grown h2 (by
        cases hb:za5 (.slice QA pz.length qc)with
        |none=>exact .inl rfl
        |some g=>exact .inr fun e=>fw.o g e.symm hb)
       have s3:=h2.size;simp only[World.size_alloc,World.size_drew]at s3 h3;have x2:w3.heap[WZ.heap.size+1]?=some (.cells #[.string fr] 9):=(h2.block _ McB (fun e=>by have:=(da.o.ge _ e.symm).2;omega)).trans (zar _ _ _ McB);exact Mb9
     ·go_simp
      refine NxM hK (fun hHeld=>?_) (aE.o _ (jC.o.below Bw));clear hK K;refine OnM 17 false fun K hK=>?_
      go_simp
      refine NxM hK (fun hHeld=>?_) (aE.o _ (jC.o.below Bw));clear hK K;refine OnM 18 false fun K hK=>?_
      refine zak (v:=.slice KA ks.length kc) (n:=ks.length) (m:=1) rfl _ _ rfl zbB za9 zbA rfl (xs:=ks) (ys:=[q.name]) (da.o.keep (dF.o.trans ((Bw:Below WZ.heap.size WZ _).mono gx))) rfl rfl rfl (zcl Mdd) McS Mcy (by have:=HW.o.lt;simp;omega) ?_;intro v3 w3 h1 h2 h3;obtain⟨A6,c6,dA,_,_⟩:=h1.sl za9;rw[List.length_append]at dA;subst dA;have FR3:Fr2 w w3 (.slice KA ks.length kc) (.slice QA pz.length qc):=(jC.o.below Bw).row h2 (fun j hj=> .inl hj)
      have ob3:OwnS w3 base 9 1 sC (.slice QA pz.length qc) pz:=(dj.o.keep (dF.o.trans ((Bw:Below WZ.heap.size WZ _).mono gx))).grown h2 (by
       cases hb:za5 (.slice QA pz.length qc)with
       |none=>exact .inl rfl
       |some g=>exact .inr fun e=>fw.o g e.symm hb)
      have s3:=h2.size;simp only[World.size_alloc,World.size_drew]at s3 h3;have x2:w3.heap[WZ.heap.size]?=some (.cells #[.string fr] 9):=(h2.block _ McD (fun e=>by have:=(da.o.ge _ e.symm).2;omega)).trans (zal (zar _ _ _ rfl));exact Mb9
   ·go_wp2_with (first
     |(go_at_call 52;refine gD.o.mono ?_;rintro e wq ⟨rfl,rfl⟩)
     |(go_at_call 51;refine(gF.o _ Bw).mono ?_;rintro e wq ⟨rfl,z,rfl⟩))
    go_ret
    exact zbN HW.o Bw (by rw[iZ.o];simp[H2.o])
 ·go_wp2_with (go_at_call 52;refine gD.o.mono ?_;rintro e wq ⟨rfl,rfl⟩)
  go_ret
  exact zbN HW.o Bw (by rw[iZ.o];simp)
end
theorem ziJ{α:Type}[DecidableEq α]:∀ {l m:List α},l.Nodup->(∀x∈l,x∈m)->l.length<=m.length
 | [],_,_,_=>Nat.zero_le _
 |x::l,m,hn,hm=>by
  rw[List.nodup_cons]at hn;have hx:=hm x McB;have:=ziJ (l:=l) (m:=m.erase x) hn.2 (fun y hy=>(List.mem_erase_of_ne (fun e=>hn.1 (by rw[<-e];exact hy))).2 (hm y (by simp[hy])));rw[List.length_erase_of_mem hx]at this;have:=List.length_pos_of_mem hx;simp;omega
def zci(out:Parts)(L:List ByteArray):Prop:= ∀p∈out,p.1∈L
theorem zeE{out:Parts}{fl:Bool}{n:ByteArray}{f:Rat}{L:List ByteArray}(h:zci out L)(hn:n∈L):zci (zcR n f (out,fl)).1 L:=fun p hp=>by
 rcases zkh hp with e|h'
 ·rw[e];exact hn
 ·exact h p h'
mutual
def zc8(L:List ByteArray):List Tree->Prop
 | []=>True
 |t::l=>zfi L t/\zc8 L l
def zfi(L:List ByteArray):Tree->Prop
 | .leaf n=>n∈L
 | .node l=>zc8 L l
end
mutual
theorem zeF{part:Rat}{L:List ByteArray}:∀ {l:List Tree} {out:Parts} {fl:Bool},zc8 L l->zci out L->zci (zbL part l (out,fl)).1 L
 | [],out,fl,_,h=>by rw[zbL];exact h
 |t::l,out,fl,hl,h=>by
  rw[zc8]at hl;rw[zbL];exact zeF (l:=l) (fl:=(zdM part t (out,fl)).2) hl.2 (zoO hl.1 h)
theorem zoO{part:Rat}{L:List ByteArray}:∀ {t:Tree} {out:Parts} {fl:Bool},zfi L t->zci out L->zci (zdM part t (out,fl)).1 L
 | .leaf n,out,fl,hl,h=>by
   rw[zfi]at hl;rw[zdM];exact zeE h hl
 | .node l,out,fl,hl,h=>by
   rw[zfi]at hl;rw[zdM];exact zeF (l:=l) hl h
end
theorem zlK{L:List ByteArray}:∀ {l:List Tree},(∀t∈l,zfi L t)->zc8 L l
 | [],_=>by rw[zc8];trivial
 |t::l,h=>by
  rw[zc8];exact⟨h t McB,zlK fun t' ht=>h t' (by simp[ht])⟩
theorem zfj{s:St}{stems:Bool}{frm:ByteArray}{L:List ByteArray}(hL:∀c∈s.children,c.2∈L):∀(f:Nat) (n:ByteArray),zc8 L (zb2 s stems frm f n)
 |0,_=>by rw[show zb2 s stems frm 0 _=[]from rfl,zc8];trivial
 |f+1,n=>by
  refine zlK fun t ht=>?_
  rw[zf0]at ht;obtain⟨c,hc,h1⟩:=List.mem_filterMap.1 ht;unfold zcS at h1;split at h1
  ·simp only[Option.some.injEq]at h1;rw[<-h1,zfi];exact hL (n,c) (zds.1 hc)
  ·split at h1
   ·simp only[Option.some.injEq]at h1;rw[<-h1,zfi];exact zfj hL f c
   ·cases h1
theorem zhd{s:St}{frm:ByteArray}{L:List ByteArray}:∀ {l out:Parts} {fl:Bool} {rest:Rat},(∀p∈l,p.1∈L)->zci out L->zci (zdh s frm l (out,fl) rest).1.1 L
 | [],_,_,_,_,h=>h
 |p::l,out,fl,rest,hl,h=>by
  rw[zdh];split
  ·exact zhd (l:=l) (fun q hq=>hl q MdN) (zeE (fl:=fl) h (hl p McB))
  ·exact zhd (l:=l) (fun q hq=>hl q MdN) h
theorem ziK{s:St}{law:Law}{n:ByteArray}(hG:GoodParts (zch s law n).1):(zch s law n).1.length<=(zbw s n).length+s.children.length+1:=by
 let L:=((zbw s n).map (·.1))++(s.children.map (·.2))++[zcm s n]
 have hL:zci (zch s law n).1 L:=by
  have h1:∀p∈zbw s n,p.1∈L:=fun p hp=>List.mem_append_left _ (List.mem_append_left _ (List.mem_map.2 ⟨p,hp,rfl⟩))
  have h2:∀c∈s.children,c.2∈L:=fun c hc=>List.mem_append_left _ (List.mem_append_right _ (List.mem_map.2 ⟨c,hc,rfl⟩))
  have h3:zcm s n∈L:=List.mem_append_right _ McB;have h4:=zhd (s:=s) (frm:=n) (fl:=false) (rest:=1) h1 (show zci [] L from fun p hp=>by cases hp);have h5:=zfj (stems:=law.stems) (frm:=n) h2 (zaW s) n;unfold zch;generalize zdh s n (zbw s n) ([],false) 1=y at*;obtain⟨⟨o,f⟩,r⟩:=y;simp only;split
  ·exact zeE h4 h3
  ·split
   ·unfold zcw;exact zeF h5 h4
   ·unfold zcw;exact zeF (fl:=_) h5 (zeE (fl:=f) h4 h3)
 have hn:((zch s law n).1.map (·.1)).Nodup:=by
  rw[List.nodup_iff_pairwise_ne,List.pairwise_map];exact hG.asc.imp fun h=>zc5 h
 have:=ziJ (m:=L) hn (fun x hx=>by
  obtain⟨p,hp,rfl⟩:=List.mem_map.1 hx
  exact hL p hp)
 simp only[L,List.length_append,List.length_map,List.length_singleton]at this;exact this
open Go.Shelf
theorem zmP(l:List Rec)(A:Option Addr)(c:Nat)(w:World)(hc:l.length<=c)(hl:l.length<=1000)(hk:∀x∈l,x.kind≠2)(hS:Sl w 8 Rec.cells A l):
 Calls Tryz.prog 84 #[.slice A l.length c] w (Ret w (.bool false)):=by
 have bO:= @run_makeMap Tryz.prog;obtain⟨HS,HK⟩:=yH2 hS hk;clear hS hk;go_enter Tryz.func84,Tryz.ntmps84
 go_upto_region 3 with fail
 clear bO;go_loopw [13] (fun i wr=>∃k:Nat,k<=l.length/\i=.int .i64 k/\MapS wr w.heap.size ekS (fun v:Value=>v) ([]:List (ByteArray×Value))/\Below w.heap.size w wr) (fun i _=>l.length-(intOf i).toNat)
 case atStart=>exact⟨0,Nat.zero_le _,rfl,MapS.new w,Bw⟩
 case round=>
  obtain⟨k,hk,rfl,hm,hB⟩:=hrel;have HB:=zHi hB;have aG:=hB.size;by_cases ae:k<l.length
  ·obtain⟨b,off,hA,hb,ah⟩:=(HS.o.keep hB).at ae;have bS:=HK.o _ (List.getElem_mem ae);have ak:=zHi ae;generalize l[k]=x at*;obtain⟨kd,nm,ot,pl,dy,tl,nu,de⟩:=x;have i0:wr.cell? ⟨b,off+k*8,none⟩=some (.int .i64 kd):=ah 0 _ rfl;have i1:wr.cell? ⟨b,off+k*8+1,none⟩=some (.string nm):=ah 1 _ rfl;have i2:wr.cell? ⟨b,off+k*8+2,none⟩=some (.string ot):=ah 2 _ rfl;have i3:wr.cell? ⟨b,off+k*8+3,none⟩=some (.string pl):=ah 3 _ rfl;have i4:wr.cell? ⟨b,off+k*8+4,none⟩=some (.int .i64 dy):=ah 4 _ rfl;have i5:wr.cell? ⟨b,off+k*8+5,none⟩=some (.int .i64 tl):=ah 5 _ rfl;have i6:wr.cell? ⟨b,off+k*8+6,none⟩=some (.int .i64 nu):=ah 6 _ rfl;have i7:wr.cell? ⟨b,off+k*8+7,none⟩=some (.int .i64 de):=ah 7 _ rfl;have ar:(k:Int)<(l.length:Int):=Mcy;have aQ:(0:Int)<=(k:Int):=Mcy;have fq:(k:Int)<=(c:Int):=Mcy;simp only at bS;have HM:=zHi hm;subst hA;clear ah hm hB ae;go_wp2_with fail
   go_round
   case rel=>exact⟨k+1,ak.o,by go_num,HM.o.below (n:=wr.heap.size) Bw,HB.o.trans (Below.mono (B:=wr.heap.size) Bw aG)⟩
   case measure=>have:=ak.o;simp only[intOf];omega
  ·have ar:¬(k:Int)<(l.length:Int):=Mcy;obtain⟨W1,rfl⟩:∃x,x=wr:=⟨_,rfl⟩
   have Je:w.heap.size<W1.heap.size:=hm.at.lt;obtain⟨sI,m8⟩:=zfs (P:=Tryz.prog) hm (t:=85) Tryz.underlying85;generalize hm.choose_spec.choose=cc at*;generalize hm.choose=ce at*;have pk:=zHi m8;clear m8 hB hm ae;go_upto_region 9 with fail
   clear sI;go_loopg [6] 1 (fun gg v wr=>RangeAt wr w.heap.size W1.heap.size ekS (fun v:Value=>v) ([]:List (ByteArray×Value)) []/\Below W1.heap.size W1 wr/\0<gg)
   case atStart=>exact⟨pk.o,Bw,by omega⟩
   case round=>
    obtain⟨iO,cu,bf⟩:=hrel;rcases zgb (P:=Tryz.prog) iO 0 with⟨h0,hrun⟩|⟨i,p,w',hi,_⟩
    ·have lB:=zHi (HB.o.trans (cu.mono HB.o.size));clear iO h0;go_wp2_with fail
     go_ret
     exact Ret.of rfl (lB.o.trans (Below.mono Bw lB.o.size))
    ·simp at hi
theorem zlL(l:List Rec)(A:Option Addr)(c:Nat)(w:World)(hc:l.length<=c)(hl:l.length<=1000)(hk:∀x∈l,x.kind≠3)(hS:Sl w 8 Rec.cells A l):
 Calls Tryz.prog 85 #[.slice A l.length c] w (Ret w (.bool false)):=by
 have bO:= @run_makeMap Tryz.prog;obtain⟨HS,HK⟩:=yH2 hS hk;clear hS hk;go_enter Tryz.func85,Tryz.ntmps85
 go_upto_region 4 with fail
 clear bO;go_loopw [12] (fun i wr=>∃k:Nat,k<=l.length/\i=.int .i64 k/\Below w.heap.size w wr) (fun i _=>l.length-(intOf i).toNat)
 case atStart=>exact⟨0,Nat.zero_le _,rfl,Bw⟩
 case round=>
  obtain⟨k,hk,rfl,hB⟩:=hrel;have HB:=zHi hB;have aG:=hB.size;by_cases ae:k<l.length
  ·obtain⟨b,off,hA,hb,ah⟩:=(HS.o.keep hB).at ae;have bS:=HK.o _ (List.getElem_mem ae);have ak:=zHi ae;generalize l[k]=x at*;obtain⟨kd,nm,ot,pl,dy,tl,nu,de⟩:=x;have i0:wr.cell? ⟨b,off+k*8,none⟩=some (.int .i64 kd):=ah 0 _ rfl;have i1:wr.cell? ⟨b,off+k*8+1,none⟩=some (.string nm):=ah 1 _ rfl;have i2:wr.cell? ⟨b,off+k*8+2,none⟩=some (.string ot):=ah 2 _ rfl;have i3:wr.cell? ⟨b,off+k*8+3,none⟩=some (.string pl):=ah 3 _ rfl;have i4:wr.cell? ⟨b,off+k*8+4,none⟩=some (.int .i64 dy):=ah 4 _ rfl;have i5:wr.cell? ⟨b,off+k*8+5,none⟩=some (.int .i64 tl):=ah 5 _ rfl;have i6:wr.cell? ⟨b,off+k*8+6,none⟩=some (.int .i64 nu):=ah 6 _ rfl;have i7:wr.cell? ⟨b,off+k*8+7,none⟩=some (.int .i64 de):=ah 7 _ rfl;have ar:(k:Int)<(l.length:Int):=Mcy;have aQ:(0:Int)<=(k:Int):=Mcy;have fq:(k:Int)<=(c:Int):=Mcy;simp only at bS;subst hA;clear ah hB ae;obtain⟨WZ,fk⟩:∃WZ,WZ=(wr.alloc (.cells #[.int .i64 kd,.string nm,.string ot,.string pl,.int .i64 dy,.int .i64 tl,.int .i64 nu,.int .i64 de] 67)).alloc (.cells #[.string pl,.int .i64 dy] 177):=⟨_,rfl⟩
   have z0:WZ.cell? ⟨wr.heap.size,0,none⟩=some (.int .i64 kd):=by rw[fk];simp[go_sem]
   have fe:wr.heap.size+2=WZ.heap.size:=by rw[fk];simp
   have eN:Below wr.heap.size wr WZ:=by rw[fk];exact Bw
   have dF:=zHi (HB.o.trans (eN.mono aG));go_upto_region 7 with fail
   rw[<-fk];clear fk eN i0 i1 i2 i3 i4 i5 i6 i7;go_quiet (fail)
   go_wp2_with fail
   go_round
   case rel=>exact⟨k+1,ak.o,by go_num,zd3 dF.o _⟩
   case measure=>have:=ak.o;simp only[intOf];omega
  ·have ar:¬(k:Int)<(l.length:Int):=Mcy;clear hB;exact MbJ
def ixI{α:Type}(p:α->Bool)(l:List α)(k:Nat):Int:=match(l.drop k).findIdx? p with
 |none=> -1
 |some i=>((k+i:Nat):Int)
theorem ixI_step{α:Type}{p:α->Bool}{l:List α}{k:Nat}(h:k<l.length):ixI p l k=if p l[k]then(k:Int)else ixI p l (k+1):=by
 unfold ixI;rw[List.drop_eq_getElem_cons h,List.findIdx?_cons];cases hs:p l[k]
 ·rw[if_neg McB,if_neg McB];cases(l.drop (k+1)).findIdx? p with
  |none=>rfl
  |some i=>
   simp only[Option.map_some];omega
 ·rw[if_pos rfl,if_pos rfl];simp
theorem ixI_end{α:Type}{p:α->Bool}{l:List α}{k:Nat}(h:¬k<l.length):ixI p l k= -1:=by
 unfold ixI;rw[List.drop_of_length_le Mcy];rfl
def zlM(place:ByteArray)(day:Int)(g:Grave):Bool:=zae g.place place&&zaV g day
def zk7(gs:List Grave)(place:ByteArray)(day:Int):Int:=ixI (zlM place day) gs 0
theorem zob(s:St)(place:ByteArray)(day:Int):zk7 s.graves place day=match zaR s place day with
 |none=> -1
 |some i=>(i:Int):=by
 unfold zk7 ixI zaR;rw[List.drop_zero];show(match s.graves.findIdx? (zlM place day)with|none=>(-1:Int)|some i=>((0+i:Nat):Int))=match s.graves.findIdx? (zlM place day)with|none=>(-1:Int)|some i=>(i:Int)
 cases s.graves.findIdx? (zlM place day)with
 |none=>rfl
 |some i=>simp
theorem zoP(gs:List Grave)(place:ByteArray)(day:Int)(LA CA MA DA WA RA GA:Option Addr)(n0 c0 n1 c1 n2 c2 n3 c3 n4 c4 n5 c5 n6 c6:Nat)(w:World)(hl:gs.length<=100000)(hS:SlW w 5 zhT GA gs):
 Calls Tryz.prog 42 #[.agg #[.slice LA n0 c0,.slice CA n1 c1,.slice MA n2 c2,.slice DA n3 c3,.slice WA n4 c4,.slice RA n5 c5,.slice GA gs.length c6],.string place,.int .i64 day] w (Ret w (.int .i64 (zk7 gs place day))):=by
 have fY:=zHi hS;obtain⟨R,hR⟩:∃R,R=zk7 gs place day:=⟨_,rfl⟩
 rw[<-hR];have HR:=zHi hR;clear hS hR;go_enter Tryz.func42,Tryz.ntmps42
 go_upto_region 1 with fail
 obtain⟨W0,am⟩:∃W0,W0=w.alloc (.cells #[.slice LA n0 c0,.slice CA n1 c1,.slice MA n2 c2,.slice DA n3 c3,.slice WA n4 c4,.slice RA n5 c5,.slice GA gs.length c6] 44):=⟨_,rfl⟩
 have b0:W0.heap[w.heap.size]?=some (.cells #[.slice LA n0 c0,.slice CA n1 c1,.slice MA n2 c2,.slice DA n3 c3,.slice WA n4 c4,.slice RA n5 c5,.slice GA gs.length c6] 44):=Mdp;have aK:Below w.heap.size w W0:=Mdb;rw[<-am];obtain⟨aj,HS⟩:=yH2 aK (fY.o.keep zfG aK);obtain⟨-,-,-,-,-,-,k1⟩:=cF7 b0;have l0:=zab b0;clear am b0 aK fY;go_upto_region 2 with fail
 go_loopw [7,8] (fun i _ wr=>∃k:Nat,k<=gs.length/\i=.int .i64 k/\Hid (R=ixI (zlM place day) gs k)/\Below W0.heap.size W0 wr) (fun i _ _=>gs.length-(intOf i).toNat)
 case atStart=>exact⟨0,Nat.zero_le _,rfl,HR.o,Below.refl _ _⟩
 case round=>
  obtain⟨k,hk,rfl,HX,hB⟩:=hrel;have aG:=hB.size;have HB:=zHi hB;have d1:wr.cell? ⟨w.heap.size,6,none⟩=some (.slice GA gs.length c6):=(zah hB l0).trans k1;by_cases ae:k<gs.length
  ·obtain⟨b,off,cs,hA,hb,hr,ah⟩:=(HS.o.keep zfG hB).at ae;have hx:=HX.o;rw[ixI_step ae]at hx;obtain⟨au,ak⟩:=yH2 hx ae;generalize gs[k]=x at*;obtain⟨H,hc,D,dc,rfl,_,_⟩:=hr;obtain⟨pl,cl,fi,hd,di⟩:=x;subst hA;have i0:=ah 0 _ rfl;have i1:=ah 1 _ rfl;have i2:=ah 2 _ rfl;have i3:=ah 3 _ rfl;have i4:=ah 4 _ rfl;simp only[Nat.add_zero]at i0 i1 i2 i3 i4;have ar:(k:Int)<(gs.length:Int):=Mcy;have aQ:(0:Int)<=(k:Int):=Mcy;clear ah ae hB hx;go_upto_region 5 with fail
   obtain⟨WZ,fk⟩:∃WZ,WZ=wr.alloc (.cells #[.string pl,.int .i64 cl,.int .i64 fi,.slice H hd.length hc,.slice D di.length dc] 100):=⟨_,rfl⟩
   have a0:WZ.heap[wr.heap.size]?=some (.cells #[.string pl,.int .i64 cl,.int .i64 fi,.slice H hd.length hc,.slice D di.length dc] 100):=by rw[fk];exact zar _ _ _ rfl
   have eN:Below W0.heap.size W0 WZ:=by rw[fk];exact zad HB.o _
   rw[<-fk];have dF:=zHi eN;obtain⟨p0,-,p2,p3⟩:=cF4 a0;clear fk a0 eN i0 i1 i2 i3 i4;cases cR:zae pl place
   ·have bn:(pl.toList==place.toList)=false:=cR;exact MM
   ·have bn:(pl.toList==place.toList)=true:=cR;by_cases hz:0<hd.length
    ·have iS:(0:Int)<(hd.length:Int):=Mcy;have iT:hd.isEmpty=false:=by cases hd<;>simp_all
     by_cases hf:fi<0
     ·exact Maq
     ·by_cases hy:day<fi
      ·exact Maq
      ·exact MM
    ·have iS:¬(0:Int)<(hd.length:Int):=Mcy;have iT:hd.isEmpty=true:=by cases hd<;>simp_all
     exact MM
  ·have ar:¬(k:Int)<(gs.length:Int):=Mcy;have HE:Hid (R= -1):=by show _=_;rw[HX.o,ixI_end ae]
   clear hB;go_wp2_with fail
   go_ret
   exact Ret.of (zb5 HE.o.symm) (aj.o.trans (HB.o.mono aj.o.size))
theorem zhM(w:World):Calls Tryz.prog 139 #[] w (Ret w (.agg #[.int .i64 1,.int .i64 1])):=by
 go_enter Tryz.func139,Tryz.ntmps139
 go_wp2_with fail
 refine bodyPost_ret (v:=.agg #[.int .i64 1,.int .i64 1]) ?_ rfl ?_
 ·exact MbR
 ·exact Ret.of rfl Bw
theorem rQuoI(a b c d:Int)(w:World)(ha:a.natAbs<=1000000000)(hb:b.natAbs<=1000000000)(hc:c.natAbs<=1000000000)(hd:d.natAbs<=1000000000)(ba:0<b)(ik:0<d)(iE:0<c):Calls Tryz.prog 172 #[.agg #[.int .i64 a,.int .i64 b],.agg #[.int .i64 c,.int .i64 d]] w (Ret w (zaA (Rat.divInt (a*d) (b*c)))):=by
 have m1:=zaN ha hd;have m2:=zaN hc hb;have m3:=zaN hb hd;have m4:0<b*d:=Int.mul_pos ba ik;obtain⟨m1,n1⟩:=m1;obtain⟨m2,n2⟩:=m2;obtain⟨m3,n3⟩:=m3;have w1:IntKind.i64.wrap (a*d)=a*d:=IntWalk.i64_in _ Mcy;have w2:IntKind.i64.wrap (c*b)=c*b:=IntWalk.i64_in _ Mcy;have w3:IntKind.i64.wrap (b*d)=b*d:=IntWalk.i64_in _ Mcy;have m5:=zaN ha hc;obtain⟨m5,n5⟩:=m5;have m6:=zaN hb hc;obtain⟨m6,n6⟩:=m6;have w5:IntKind.i64.wrap (a*c)=a*c:=IntWalk.i64_in _ Mcy;have w6:IntKind.i64.wrap (b*c)=b*c:=IntWalk.i64_in _ Mcy;have hs:(a*d).natAbs<=4611686018427387904:=Mcy;have hl:(b*c)<=4611686018427387904:=Mcy;have h4:0<(b*c):=Int.mul_pos ba iE;obtain⟨HS,HL,H4⟩:=yH3 hs hl h4;clear hs hl m4 h4 ha hb hc hd;go_enter Tryz.func172,Tryz.ntmps172
 go_wp2_with (go_at_call 186;go_must(refine(zeC _ _ _ HS.o H4.o HL.o).mono ?_);rintro e w1 ⟨rfl,z1,rfl⟩;simp only[zaA])
 refine bodyPost_ret (v:=zaA (Rat.divInt (a*d) (b*c))) ?_ rfl ?_
 ·exact Maf
 ·exact Ret.of rfl Bw
theorem rQuo_any(p q:Rat)(w:World)(bU:zaI p)(dw:zaI q)(h0:0<q):Calls Tryz.prog 172 #[zaA p,zaA q] w (Ret w (zaA (p/q))):=by
 rw[zjw p q h0];exact rQuoI _ _ _ _ _ bU.1 (by have:=bU.2;omega) dw.1 (by have:=dw.2;omega) (zbT p) (zbT q) MdG
def renT(n frm:ByteArray)(d:Deed):Bool:=zae d.frm n&&zae (zbf d) frm
def ableR(rd:List Deed)(dd:List ByteArray)(n frm:ByteArray):Bool:=!rd.any (renT n frm)&&(!noB n&&(!zae n frm&&!dd.any (zae n)))
theorem ableR_eq(s:St)(rd:List Deed)(h:s.renounce=rd.map fun d=>(d.frm,zbf d))(n frm:ByteArray):ableR rd s.dead n frm=zdT s n frm:=by
 unfold ableR zdT zaJ;rw[h,List.any_map];show(!rd.any (renT n frm)&&(!noB n&&(!zae n frm&&!s.dead.any (zae n))))=(!noB n&&!zae n frm&&!s.dead.any (zae n)&&!rd.any (renT n frm))
 cases rd.any (renT n frm)<;>cases noB n<;>cases zae n frm<;>cases s.dead.any (zae n)<;>rfl
theorem rAble_any(rd:List Deed)(dd:List ByteArray)(n frm:ByteArray)(LA CA MA DA WA RA GA:Option Addr)(n0 c0 n1 c1 n2 c2 n3 c3 n4 c4 n5 c5 n6 c6:Nat)(w:World)(hl:rd.length<=100000)(nO:∀d∈rd,d.to≠[])(hS:SlW w 7 zf9 RA rd)(bu:dd.length<=100000)(nE:dd.length<=c3)(hD:Sl w 1 sC DA dd):
 Calls Tryz.prog 189 #[.agg #[.slice LA n0 c0,.slice CA n1 c1,.slice MA n2 c2,.slice DA dd.length c3,.slice WA n4 c4,.slice RA rd.length c5,.slice GA n6 c6],.string n,.string frm] w (Ret w (.bool (ableR rd dd n frm))):=by
 obtain⟨fY,vp,fL⟩:=yH3 hS nO (fun W (h:Below w.heap.size w W)=>zeD dd n LA CA MA DA WA RA GA n0 c0 n1 c1 n2 c2 dd.length c3 n4 c4 rd.length c5 n6 c6 W bu nE (hD.keep h));obtain⟨R,hR⟩:∃R,R=ableR rd dd n frm:=⟨_,rfl⟩
 rw[<-hR];obtain⟨D,EO⟩:∃D,D=dd.any (zae n):=⟨_,rfl⟩
 unfold ableR at hR;rw[<-EO]at hR fL;have HR:Hid (R=(!(rd.drop 0).any (renT n frm)&&(!noB n&&(!zae n frm&&!D)))):=Men;clear hS hR nO hD EO;go_enter Tryz.func189,Tryz.ntmps189
 go_upto_region 1 with fail
 obtain⟨W0,am⟩:∃W0,W0=w.alloc (.cells #[.slice LA n0 c0,.slice CA n1 c1,.slice MA n2 c2,.slice DA dd.length c3,.slice WA n4 c4,.slice RA rd.length c5,.slice GA n6 c6] 44):=⟨_,rfl⟩
 have b0:W0.heap[w.heap.size]?=some (.cells #[.slice LA n0 c0,.slice CA n1 c1,.slice MA n2 c2,.slice DA dd.length c3,.slice WA n4 c4,.slice RA rd.length c5,.slice GA n6 c6] 44):=Mdp;have aK:Below w.heap.size w W0:=Mdb;rw[<-am];obtain⟨aj,HS⟩:=yH2 aK (fY.o.keep zcc aK);obtain⟨k0,k1,k2,k3,k4,k5,k6⟩:=cF7 b0;clear am b0 aK fY;go_upto_region 2 with fail
 go_loopw [7] (fun i wr=>∃k:Nat,k<=rd.length/\i=.int .i64 k/\W0=wr/\Hid (R=(!(rd.drop k).any (renT n frm)&&(!noB n&&(!zae n frm&&!D))))) (fun i _=>rd.length-(intOf i).toNat)
 case atStart=>exact⟨0,Nat.zero_le _,rfl,rfl,HR.o⟩
 case round=>
  obtain⟨k,hk,rfl,rfl,HX⟩:=hrel;by_cases ae:k<rd.length
  ·obtain⟨b,off,cs,rfl,hb,hr,ah⟩:=HS.o.at ae;have hx:=HX.o;rw[List.drop_eq_getElem_cons ae,List.any_cons]at hx;have ai:=vp.o _ (List.getElem_mem ae);obtain⟨au,ak⟩:=yH2 hx ae;generalize rd[k]=x at*;obtain⟨B,c,hc,rfl,hP⟩:=hr;obtain⟨kd,dy,pl,fr,ts,cl,yr⟩:=x;simp only at ai hc hP ah;cases ts with
   |nil=>exact absurd rfl ai
   |cons p ts=>
    obtain⟨tb,tof,rfl,Gy,ud⟩:=hP.at (k:=0) (Nat.succ_pos _);obtain⟨pn,pu,pd⟩:=p;have t0:W0.cell? ⟨tb,tof,none⟩=some (.string pn):=MdQ;have fI:zbf ⟨kd,dy,pl,fr,⟨pn,pu,pd⟩::ts,cl,yr⟩=pn:=rfl;have i3:=ah 3 _ rfl;have i4:=ah 4 _ rfl;have ar:(k:Int)<(rd.length:Int):=Mcy;have aQ:(0:Int)<=(k:Int):=Mcy;generalize dL:(⟨pn,pu,pd⟩::ts:List RPart).length=ln at*;have jt:(0:Int)<(ln:Int):=by rw[<-dL];simp
    have CY:0<ln:=Mcy;clear ah ae hx ai hP ud dL hc;cases dN:zae fr n
    ·have bn:(fr.toList==n.toList)=false:=dN;have HE:Hid (R=(!(rd.drop (k+1)).any (renT n frm)&&(!noB n&&(!zae n frm&&!D)))):=by show _=_;rw[au.o];simp[renT,dN]
     go_wp2_with fail
     exact MH
    ·have bn:(fr.toList==n.toList)=true:=dN;cases iy:zae pn frm
     ·have Do:(pn.toList==frm.toList)=false:=iy;have HE:Hid (R=(!(rd.drop (k+1)).any (renT n frm)&&(!noB n&&(!zae n frm&&!D)))):=by show _=_;rw[au.o];simp[renT,fI,iy]
      go_wp2_with fail
      exact MH
     ·have Do:(pn.toList==frm.toList)=true:=iy;have HE:Hid (R=false):=by show _=_;rw[au.o];simp[renT,fI,dN,iy]
      exact Ma7
  ·have ar:¬(k:Int)<(rd.length:Int):=Mcy;have hx:=HX.o;rw[List.drop_of_length_le Mcy]at hx;have au:=zHi hx;clear hx;cases z1:noB n
   ·have y1:n.toList.isEmpty=false:=z1;have w1:¬n.toList=[]:=by simpa using y1
    cases dN:zae n frm
    ·have bn:(n.toList==frm.toList)=false:=dN;have HE:Hid (R=!D):=by show _=_;rw[au.o,z1,dN];simp
     go_wp2_with (go_at_call 19;go_must(refine(fL.o _ Mdo).mono ?_);rintro e wq ⟨rfl,z,rfl⟩)
     go_ret
     exact Ret.of (zaO HE.o.symm) (zbv aj.o z)
    ·have bn:(n.toList==frm.toList)=true:=dN;have HE:Hid (R=false):=by show _=_;rw[au.o,z1,dN];simp
     exact Ma7
   ·have y1:n.toList.isEmpty=true:=z1;have w1:n.toList=[]:=by simpa using y1
    have HE:Hid (R=false):=by show _=_;rw[au.o,z1];simp
    exact Ma7
def zmQ(dd:List ByteArray)(p:RPart):Bool:=dd.any (zae p.name)
theorem zk8(l:List RPart)(A:Option Addr)(c:Nat)(dd:List ByteArray)(LA CA MA DA WA RA GA:Option Addr)(n0 c0 n1 c1 n2 c2 n3 c3 n4 c4 n5 c5 n6 c6:Nat)(w:World)(hl:l.length<=1000000)(hS:Sl w 3 RPart.cells A l)(bu:dd.length<=100000)(nE:dd.length<=c3)(hD:Sl w 1 sC DA dd):
 Calls Tryz.prog 164 #[.agg #[.slice LA n0 c0,.slice CA n1 c1,.slice MA n2 c2,.slice DA dd.length c3,.slice WA n4 c4,.slice RA n5 c5,.slice GA n6 c6],.slice A l.length c] w (Ret w (.bool (l.any (zmQ dd)))):=by
 obtain⟨fY,fL⟩:=yH2 hS (fun x W (h:Below w.heap.size w W)=>zeD dd x LA CA MA DA WA RA GA n0 c0 n1 c1 n2 c2 dd.length c3 n4 c4 n5 c5 n6 c6 W bu nE (hD.keep h));obtain⟨R,hR⟩:∃R,R=l.any (zmQ dd):=⟨_,rfl⟩
 rw[<-hR];have HR:Hid (R=(l.drop 0).any (zmQ dd)):=Men;clear hS hD hR;go_enter Tryz.func164,Tryz.ntmps164
 go_upto_region 1 with fail
 obtain⟨W0,am⟩:∃W0,W0=w.alloc (.cells #[.slice LA n0 c0,.slice CA n1 c1,.slice MA n2 c2,.slice DA dd.length c3,.slice WA n4 c4,.slice RA n5 c5,.slice GA n6 c6] 44):=⟨_,rfl⟩
 have b0:W0.heap[w.heap.size]?=some (.cells #[.slice LA n0 c0,.slice CA n1 c1,.slice MA n2 c2,.slice DA dd.length c3,.slice WA n4 c4,.slice RA n5 c5,.slice GA n6 c6] 44):=Mdp;have aK:Below w.heap.size w W0:=Mdb;rw[<-am];obtain⟨aj,HS⟩:=yH2 aK (fY.o.keep aK);have lV:=aK.size;have l0:=zab b0
 have HC:=zHi (fun(W':World) (h:Below W0.heap.size W0 W')=>(show W'.cell? ⟨w.heap.size,0,none⟩=some (.slice LA n0 c0)/\W'.cell? ⟨w.heap.size,1,none⟩=some (.slice CA n1 c1)/\W'.cell? ⟨w.heap.size,2,none⟩=some (.slice MA n2 c2)/\W'.cell? ⟨w.heap.size,3,none⟩=some (.slice DA dd.length c3)/\W'.cell? ⟨w.heap.size,4,none⟩=some (.slice WA n4 c4)/\W'.cell? ⟨w.heap.size,5,none⟩=some (.slice RA n5 c5)/\W'.cell? ⟨w.heap.size,6,none⟩=some (.slice GA n6 c6) from by
  refine⟨?_,?_,?_,?_,?_,?_,?_⟩<;>(refine(zah h l0).trans ?_;simp only[World.cell?,b0];rfl)))
 clear am b0 aK fY;go_upto_region 2 with fail
 go_loopw [5] (fun i wr=>∃k:Nat,k<=l.length/\i=.int .i64 k/\Hid (R=(l.drop k).any (zmQ dd))/\Below W0.heap.size W0 wr) (fun i _=>l.length-(intOf i).toNat)
 case atStart=>exact⟨0,Nat.zero_le _,rfl,HR.o,Below.refl _ _⟩
 case round=>
  obtain⟨k,hk,rfl,HX,hB⟩:=hrel;have HB:=zHi hB;have aG:=hB.size;have cG:w.heap.size<wr.heap.size:=Mcy;obtain⟨d0,d1,d2,d3,d4,d5,d6⟩:=HC.o _ hB;by_cases ae:k<l.length
  ·obtain⟨b,off,rfl,hb,ah⟩:=(HS.o.keep hB).at ae;have hx:=HX.o;rw[List.drop_eq_getElem_cons ae,List.any_cons]at hx;obtain⟨au,ak⟩:=yH2 hx ae;generalize l[k]=x at*;obtain⟨nm,nu,de⟩:=x;have i0:wr.cell? ⟨b,off+k*3,none⟩=some (.string nm):=ah 0 _ rfl;have ar:(k:Int)<(l.length:Int):=Mcy;have aQ:(0:Int)<=(k:Int):=Mcy;have vr:=zHi (aj.o.trans (hB.mono lV));have fV:=zHi (fun W (h:Below wr.heap.size wr W)=>fL.o nm W (vr.o.trans (h.mono vr.o.size)));clear ah hx ae hB;cases hd:dd.any (zae nm)
   ·have HE:Hid (R=(l.drop (k+1)).any (zmQ dd)):=by show _=_;rw[au.o];unfold zmQ;rw[hd];rfl
    rw[hd]at fV;clear hd;go_upto_region 4 with fail
    (refine zaj Mcz Mcz ?_
     repeat(first|go_big_quiet_skip|(go_big_quiet_want;go_big_quiet_op;first|go_big_quiet_on|(apply Exists.intro;refine⟨fun _=>?_,?_⟩;(go_at_call 19;exact quietx (fV.o _ Bw));go_big_quiet_on)))
     refine wpQuiet_nil ?_
     rintro _ ⟨zq,rfl⟩)
    go_wp2_with fail
    go_round
    case rel=>exact⟨k+1,ak.o,by go_num,HE.o,zbv HB.o zq⟩
    case measure=>have:=ak.o;simp only[intOf];omega
   ·have HE:Hid (R=true):=by show _=_;rw[au.o];unfold zmQ;rw[hd];rfl
    rw[hd]at fV;clear hd;go_upto_region 4 with fail
    (refine zaj Mcz Mcz ?_
     repeat(first|go_big_quiet_skip|(go_big_quiet_want;go_big_quiet_op;first|go_big_quiet_on|(apply Exists.intro;refine⟨fun _=>?_,?_⟩;(go_at_call 19;exact quietx (fV.o _ Bw));go_big_quiet_on)))
     refine wpQuiet_nil ?_
     rintro _ ⟨zq,rfl⟩)
    go_wp2_with fail
    go_ret
    exact Ret.of (zaO HE.o.symm) (zbv vr.o zq)
  ·have ar:¬(k:Int)<(l.length:Int):=Mcy;have HE:Hid (R=false):=by show _=_;rw[HX.o,List.drop_of_length_le Mcy];rfl
   clear hB;go_wp2_with fail
   go_ret
   exact Ret.of (zaO HE.o.symm) (aj.o.trans (HB.o.mono lV))
