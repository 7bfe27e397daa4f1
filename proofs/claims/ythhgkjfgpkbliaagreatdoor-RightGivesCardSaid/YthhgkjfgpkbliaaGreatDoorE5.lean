import Derived.Test.YthhgkjfgpkbliaaGreatDoorE3
set_option linter.all false
set_option maxRecDepth 100000
set_option maxHeartbeats 4000000
namespace Go.Proofs.YthhgkjfgpkbliaaGreatDoor
open Go.RowKit Go.Shelf
attribute [local go_sem] World.cell?_alloc_mark zae zav zai zaw zam zan zao zap zaq zar zas
attribute [local go_sem] zah zac
structure Fr2 (w W:World) (va vb:Value):Prop where
 os:W.os=w.os
 tape:W.tape=w.tape
 output:W.output=w.output
 size:w.heap.size<=W.heap.size
 block:∀k,k<w.heap.size->za1 va≠some k->za1 vb≠some k->W.heap[k]?=w.heap[k]?
section
variable {w W W':World} {va vb:Value} {n:Nat}
theorem Fr2.of_below(h:Below w.heap.size w W):Fr2 w W va vb:=⟨h.os,h.tape,h.output,h.size,fun k hk _ _=>h.block k hk⟩
theorem Fr2.below(h:Fr2 w W va vb)(k:Below W.heap.size W W'):Fr2 w W' va vb:=⟨k.os.trans h.os,k.tape.trans h.tape,k.output.trans h.output,Nat.le_trans h.size k.size,fun i hi h1 h2=>(k.block i (Nat.lt_of_lt_of_le hi h.size)).trans (h.block i hi h1 h2)⟩
theorem Fr2.row(h:Fr2 w W va vb){row:Option Nat}(k:W.grownBy W' row)(hr:∀j,row=some j->za1 va=some j\/za1 vb=some j\/w.heap.size<=j):Fr2 w W' va vb:=
 ⟨k.os.trans h.os,k.tape.trans h.tape,k.output.trans h.output,Nat.le_trans h.size k.size,fun i hi h1 h2=>(k.block i (Nat.lt_of_lt_of_le hi h.size) (fun e=>by
   rcases hr i e.symm with h|h|h
   ·exact h1 h
   ·exact h2 h
   ·omega)).trans (h.block i hi h1 h2)⟩
theorem Fr2.cells{base:Nat}{xs ys:List ByteArray}(h:Fr2 w W va vb)(ha:OwnS w base 9 1 sC va xs)(hb:OwnS w base 9 1 sC vb ys){k:Nat}{o:Obj}(hk:w.heap[k]?=some o)(ho:∀cur,o≠ .cells cur 9 (0,0)):W.heap[k]?=some o:=by
 refine(h.block k (Array.getElem?_eq_some_iff.1 hk).1 (fun e=>?_) (fun e=>?_)).trans hk
 ·obtain⟨cur,h'⟩:=zeq ha e;rw[h']at hk;exact ho cur (Option.some.inj hk).symm
 ·obtain⟨cur,h'⟩:=zeq hb e;rw[h']at hk;exact ho cur (Option.some.inj hk).symm
theorem Fr2.mapS{base:Nat}{xs ys:List ByteArray}(h:Fr2 w W va vb)(ha:OwnS w base 9 1 sC va xs)(hb:OwnS w base 9 1 sC vb ys){b:Nat}{m:List (ByteArray×Value)}(hm:MapS w b ekS (fun v:Value=>v) m):MapS W b ekS (fun v:Value=>v) m:=by
 obtain⟨es,c,hx⟩:=zbd hm;exact hm.keep ((h.cells ha hb hx (fun cur e=>by cases e)).trans hx.symm)
end
theorem zfO{P:Program}{ops:Array Oper}{o:Oper}{a:Act}{w:World}{K:Act->World->Prop}{Q:Exit->Act->World->Prop}{E:Prop}{T:TypeId}(aQ:o.guard=none)(x i:Operand)(ho:o.op=.mapEntry T x i)(vx vi v:Value)(hx:a.eval x=vx)(hi:a.eval i=vi)(w':World)
 (ai:(Instr.mapEntry T vx vi).run P w=.ok v w')(h:K (a.put o.dst v) w'):if Region.wanted o (yielded ops a.tmps)=true then Oper.wp P o a w K Q else E:=by
 have hw:Region.wanted o (yielded ops a.tmps)=true:=by simp[Region.wanted,aQ]
 rw[if_pos hw];unfold Oper.wp;simp[execOp,ho,hx,hi,ai,Result.andThen];exact h
theorem zeO{P:Program}{ops:Array Oper}{o:Oper}{a:Act}{w:World}{K:Act->World->Prop}{Q:Exit->Act->World->Prop}{E:Prop}{T:TypeId}(aQ:o.guard=none)(x i u:Operand)(ho:o.op=.entryStore T x i u)(vx vi vu:Value)(hx:a.eval x=vx)(hi:a.eval i=vi)(hu:a.eval u=vu)(w':World)
 (ai:(Instr.entryStore T vx vi vu).run P w=.ok () w')(h:K (a.put o.dst undef) w'):if Region.wanted o (yielded ops a.tmps)=true then Oper.wp P o a w K Q else E:=by
 exact MP
theorem child_any(base b:Nat)(s:St)(la co:Int)(d:Deed)(B:Option Addr)(c:Nat)(w:World)(hW:WldAt base w b s la co)(hd:OkD d)(hk:d.kind=6)(aj:d.to.length<=c)(hS:Sl w 3 RPart.cells B d.to)(aA:s.children.length<=1000):
 Calls Tryz.prog 101 #[.pointer (some ⟨b,0,none⟩),d.v B c] w (zbr base b (zcS s d) la co w):=by
 obtain⟨aJ,_⟩:=hd.one (.inr (.inl hk));obtain⟨q,hq⟩:∃q,d.to=[q]:=List.length_eq_one_iff.1 aJ;have fI:zbO d=q.name:=by unfold zbO;rw[hq];rfl
 obtain⟨b',off,rfl,bE,ar⟩:=hS.at (show 0<d.to.length by rw[hq];exact Nat.zero_lt_one);have i0:w.cell? ⟨b',off,none⟩=some (.string q.name):=by
  exact Maz
 have ku:1<=c:=by rw[hq]at aj;exact aj
 clear hd aJ ar hS aj;have aF:=hW;obtain⟨Bk,dd,cc,pp,wl,rr,mv,tv,ps,ax,hC,hP,hT⟩:=hW;have bu:=zad hC;obtain⟨kd,dy,pl,fr,ts,cl,yr⟩:=d;simp only at*;subst hq hk;classical
 have fk:Hid (zcS s ⟨6,dy,pl,fr,[q],cl,yr⟩=if(zaf s fr).any (zag q.name)then(s,5)else if decide (2<=(zb8 s q.name).length)then(s,16)else if decide (Desc s q.name fr)then(s,25)else({s with children:=s.children++[(fr,q.name)]},0)):=by
  show _=_;unfold zcS;rw[fI]
 generalize zcS s ⟨6,dy,pl,fr,[q],cl,yr⟩=X at*;obtain⟨HC,HP,HT,HW⟩:=yH4 hC hP hT aF;have bR:(zaf s fr).length<=1000:=by
  have:(zaf s fr).length<=s.children.length:=by unfold zaf;rw[List.length_map];exact List.length_filter_le _ _
  omega
 have gR:(zb8 s q.name).length<=1000:=by
  have:(zb8 s q.name).length<=s.children.length:=by unfold zb8;rw[List.length_map];exact List.length_filter_le _ _
  omega
 unfold WldC at hC;obtain⟨-,c1,c2⟩:=cF3 hC;obtain⟨mc,mp,r1,r2,r3,r4,r5,r6⟩:=HP.o.rows;obtain⟨KA,kc,bn,lY,uD⟩:=row_own (r3 fr);obtain⟨QA,qc,bp,xS,jw⟩:=row_own (r4 q.name);have bS:∀W,Below w.heap.size w W->(Instr.lookup 104 (.map (some cc)) (.string fr) false).run Tryz.prog W=.ok (.slice KA (zaf s fr).length kc) W:=fun W hB=>by
  have:=zbh zk9 (r1.below hB).at fr;rw[<-bn];exact this
 have bK:∀W,Below w.heap.size w W->(Instr.lookup 104 (.map (some pp)) (.string q.name) false).run Tryz.prog W=.ok (.slice QA (zb8 s q.name).length qc) W:=fun W hB=>by
  have:=zbh zk9 (r2.below hB).at q.name;rw[<-bp];exact this
 have ia:Sl w 1 sC KA (zaf s fr):=by
  obtain⟨A,c',e,h,_⟩:=lY.sl zbG;simp only[Value.slice.injEq]at e;rw[e.1];exact h
 have HK:=zHi ia
 have tP:=zHi (fun(W:World) (hM:MapS W cc ekS (fun v:Value=>v) mc)=>show(Instr.lookup 104 (.map (some cc)) (.string fr) false).run Tryz.prog W=.ok (.slice KA (zaf s fr).length kc) W from by
  have:=zbh zk9 hM.at fr;rw[<-bn]
  exact this)
 have tQ:=zHi (fun(W:World) (hM:MapS W pp ekS (fun v:Value=>v) mp)=>show(Instr.lookup 104 (.map (some pp)) (.string q.name) false).run Tryz.prog W=.ok (.slice QA (zb8 s q.name).length qc) W from by
  have:=zbh zk9 hM.at q.name;rw[<-bp]
  exact this)
 have dj:∀g,za1 (.slice KA (zaf s fr).length kc)=some g->za1 (.slice QA (zb8 s q.name).length qc)≠some g:=fun g h1 h2=>by
  have h3:=r6.1;rw[r5,zcg,List.nodup_append]at h3;exact h3.2.2 g (zc7.2 ⟨_,zc5 (uD g h1),h1⟩) g (zc7.2 ⟨_,zc5 (jw g h2),h2⟩) rfl
 have fX:=zHi dj;clear dj;obtain⟨dN,cK,ll,dM,oX,lC,At,Au⟩:=yH8 lY xS uD jw r1 r2 r3 r4;obtain⟨Av,Aw,wV,dY,gE⟩:=yH5 r5 r6 bS bK (fun W (hB:Below w.heap.size w W)=>zge base b s fr q.name W (aF.peo.keep hB) MbC);obtain⟨W1,aV⟩:∃W1,W1=w.alloc (.cells #[.int .i64 6,.int .i64 dy,.string pl,.string fr,.slice (some ⟨b',off,none⟩) 1 c,.int .i64 cl,.int .i64 yr] 28):=⟨_,rfl⟩
 have bo:Below w.heap.size w W1:=Mcz;have k1:=wV.o W1 bo;have k2:=dY.o W1 bo;have fh:=zHi (zju (zaf s fr) q.name KA (zaf s fr).length kc W1 rfl MbC (HK.o.keep bo));rw[aV]at k1 k2 fh;have nw:=zHi aV;clear hC hP hT aF fI bS bK ia bo aV lY xS uD jw bn bp r1 r2 r3 r4 r5 r6;unfold Deed.v;simp only;have bx:(0:Int)<(1:Int):=MbD;generalize hks:zaf s fr=ks at*;generalize dq:zb8 s q.name=pz at*;generalize decide (Desc s q.name fr)=dz at*;generalize ks.any (zag q.name)=az at*;obtain⟨ka,s7⟩:=yH2 hks dq;clear hks dq;go_enter Tryz.func101,Tryz.ntmps101
 cases az
 ·by_cases h2:2<=pz.length
  ·have AW:(2:Int)<=(pz.length:Int):=MbC;have H2:=zHi h2;clear h2;go_wp2_with (go_at_call 66;refine fh.o.mono ?_;rintro e wq ⟨rfl,rfl⟩)
   go_ret
   exact zb0 HW.o Bw (by rw[fk.o];simp[H2.o])
  ·have AW:¬(2:Int)<=(pz.length:Int):=MbC;have H2:=zHi h2;clear h2;cases dz
   ·go_upto_region 17 with(first
     |(go_at_call 66;refine fh.o.mono ?_;rintro e wq ⟨rfl,rfl⟩)
     |(go_at_call 65;refine(gE.o _ Bw).mono ?_;rintro e wq ⟨rfl,z,rfl⟩))
    have CD:=wV.o (W1.ext z) (by rw[nw.o];exact Bw);have CE:=dY.o (W1.ext z) (by rw[nw.o];exact Bw);have eQ:Below w.heap.size w (W1.ext z):=by rw[nw.o];exact Bw
    have cz1:=(za4 (o:=1) eQ bu).trans c1;have cz2:=(za4 (o:=2) eQ bu).trans c2;rw[<-nw.o];generalize W1.ext z=WZ at*;have dK:=zHi eQ;have cT:=eQ.size;have eM:=zHi (Fr2.of_below (va:=.slice KA ks.length kc) (vb:=.slice QA pz.length qc) eQ)
    have cC:=zHi (fun(W:World) (h:Fr2 w W (.slice KA ks.length kc) (.slice QA pz.length qc))=>show(false=true\/(W.cell? ⟨b,1,none⟩=some (.map (some cc))/\W.cell? ⟨b,2,none⟩=some (.map (some pp))/\(Instr.lookup 104 (.map (some cc)) (.string fr) false).run Tryz.prog W=.ok (.slice KA ks.length kc) W/\(Instr.lookup 104 (.map (some pp)) (.string q.name) false).run Tryz.prog W=.ok (.slice QA pz.length qc) W)) from by
     have bt:=HC.o;unfold WldC at bt;have ju:=h.cells dN.o cK.o bt (fun cur e=>by simp at e)
     exact .inr ⟨by simp only[World.cell?,ju];rfl,by simp only[World.cell?,ju];rfl,tP.o W (h.mapS dN.o cK.o oX.o),tQ.o W (h.mapS dN.o cK.o lC.o)⟩)
    clear eQ;refine zbS 28 (fun bb w'=>bb=true\/(w'.cell? ⟨b,1,none⟩=some (.map (some cc))/\w'.cell? ⟨b,2,none⟩=some (.map (some pp))/\(Instr.lookup 104 (.map (some cc)) (.string fr) false).run Tryz.prog w'=.ok (.slice KA ks.length kc) w'/\(Instr.lookup 104 (.map (some pp)) (.string q.name) false).run Tryz.prog w'=.ok (.slice QA pz.length qc) w')) MbE ?hS ?hrest
    case hS=>exact cC.o _ (eM.o.below Bw)
    case hrest=>
     intro hHeld;refine TkM 0 ?_;refine TkM 1 ?_;refine TkM 2 ?_;refine TkM 3 ?_;refine TkM 4 ?_;refine TkM 5 ?_;refine TkM 6 ?_;refine TkM 7 ?_;refine TkM 8 ?_;refine FrM 9 false ?_;refine TkM 10 ?_;refine TkM 11 ?_;refine TkM 12 ?_;refine TkM 13 ?_;refine TkM 14 ?_;refine TkM 15 ?_;refine TkM 16 ?_;refine TkM 19 ?_;refine TkM 20 ?_;refine TkM 21 ?_;refine TkM 22 ?_;refine TkM 23 ?_;refine TkM 24 ?_;refine TkM 25 ?_;refine TwM 17 26 (fun K hK=>?_) fun K hK=>?_
     ·go_simp
      refine NxM hK (fun hHeld=>?_) (cC.o _ (eM.o.below Bw));clear hK K;refine TwM 18 26 (fun K hK=>?_) fun K hK=>?_
      ·refine zaV (v:=.slice KA ks.length kc) (n:=ks.length) (m:=1) rfl _ _ rfl zeE zbG zeD rfl (xs:=ks) (ys:=[q.name]) (dN.o.keep (dK.o.trans ((Bw:Below WZ.heap.size WZ _).mono cT))) rfl rfl rfl (zdB MbW) MbO MbC (by have:=HW.o.lt;simp;omega) ?_;intro v3 w3 h1 h2 h3;obtain⟨A6,c6,dt,_,_⟩:=h1.sl zbG;rw[List.length_append]at dt;subst dt;have FR3:Fr2 w w3 (.slice KA ks.length kc) (.slice QA pz.length qc):=(eM.o.below Bw).row h2 (fun j hj=> .inl hj)
       have ob3:OwnS w3 base 9 1 sC (.slice QA pz.length qc) pz:=(cK.o.keep (dK.o.trans ((Bw:Below WZ.heap.size WZ _).mono cT))).grown h2 (by
        cases hb:za1 (.slice QA pz.length qc)with
        |none=>exact .inl rfl
        |some g=>exact .inr fun e=>fX.o g e.symm hb)
       have s3:=h2.size;simp only[World.size_alloc,World.size_drew]at s3 h3;refine NxM hK (fun hHeld=>?_) (cC.o _ FR3);clear hK K;refine OnM 26 false fun K hK=>?_
       go_simp
       refine NxM hK (fun hHeld=>?_) (cC.o _ (FR3.below Bw));clear hK K;refine OnM 27 false fun K hK=>?_
       refine zaV (v:=.slice QA pz.length qc) (n:=pz.length) (m:=1) rfl _ _ rfl zeE zbG zeD rfl (xs:=pz) (ys:=[fr]) (ob3.keep (n:=w3.heap.size) Bw) rfl rfl rfl (zdB (MbW)) MbO MbC (by have:=HW.o.lt;(try simp);omega) ?_;exact Ma
      ·go_simp
       refine NxM hK (fun hHeld=>?_) (cC.o _ (eM.o.below Bw));clear hK K;refine OnM 18 false fun K hK=>?_
       refine zaV (v:=.slice KA ks.length kc) (n:=ks.length) (m:=1) rfl _ _ rfl zeE zbG zeD rfl (xs:=ks) (ys:=[q.name]) (dN.o.keep (dK.o.trans ((Bw:Below WZ.heap.size WZ _).mono cT))) rfl rfl rfl (zdB MbW) MbO MbC (by have:=HW.o.lt;simp;omega) ?_;intro v3 w3 h1 h2 h3;obtain⟨A6,c6,dt,_,_⟩:=h1.sl zbG;rw[List.length_append]at dt;subst dt;have FR3:Fr2 w w3 (.slice KA ks.length kc) (.slice QA pz.length qc):=(eM.o.below Bw).row h2 (fun j hj=> .inl hj)
       have ob3:OwnS w3 base 9 1 sC (.slice QA pz.length qc) pz:=(cK.o.keep (dK.o.trans ((Bw:Below WZ.heap.size WZ _).mono cT))).grown h2 (by
        cases hb:za1 (.slice QA pz.length qc)with
        |none=>exact .inl rfl
        |some g=>exact .inr fun e=>fX.o g e.symm hb)
       have s3:=h2.size;simp only[World.size_alloc,World.size_drew]at s3 h3;have x2:w3.heap[WZ.heap.size+1]?=some (.cells #[.string fr] 9):=(h2.block _ MbF (fun e=>by have:=(dN.o.ge _ e.symm).2;omega)).trans (za3 _ _ _ MbF);exact Mbn
     ·go_simp
      refine NxM hK (fun hHeld=>?_) (cC.o _ (eM.o.below Bw));clear hK K;refine OnM 17 false fun K hK=>?_
      go_simp
      refine NxM hK (fun hHeld=>?_) (cC.o _ (eM.o.below Bw));clear hK K;refine OnM 18 false fun K hK=>?_
      refine zaV (v:=.slice KA ks.length kc) (n:=ks.length) (m:=1) rfl _ _ rfl zeE zbG zeD rfl (xs:=ks) (ys:=[q.name]) (dN.o.keep (dK.o.trans ((Bw:Below WZ.heap.size WZ _).mono cT))) rfl rfl rfl (zdB MbW) MbO MbC (by have:=HW.o.lt;simp;omega) ?_;intro v3 w3 h1 h2 h3;obtain⟨A6,c6,dt,_,_⟩:=h1.sl zbG;rw[List.length_append]at dt;subst dt;have FR3:Fr2 w w3 (.slice KA ks.length kc) (.slice QA pz.length qc):=(eM.o.below Bw).row h2 (fun j hj=> .inl hj)
      have ob3:OwnS w3 base 9 1 sC (.slice QA pz.length qc) pz:=(cK.o.keep (dK.o.trans ((Bw:Below WZ.heap.size WZ _).mono cT))).grown h2 (by
       cases hb:za1 (.slice QA pz.length qc)with
       |none=>exact .inl rfl
       |some g=>exact .inr fun e=>fX.o g e.symm hb)
      have s3:=h2.size;simp only[World.size_alloc,World.size_drew]at s3 h3;have x2:w3.heap[WZ.heap.size]?=some (.cells #[.string fr] 9):=(h2.block _ MbH (fun e=>by have:=(dN.o.ge _ e.symm).2;omega)).trans (zal (za3 _ _ _ rfl));exact Mbn
   ·go_wp2_with (first
     |(go_at_call 66;refine fh.o.mono ?_;rintro e wq ⟨rfl,rfl⟩)
     |(go_at_call 65;refine(gE.o _ Bw).mono ?_;rintro e wq ⟨rfl,z,rfl⟩))
    go_ret
    exact zb0 HW.o Bw (by rw[fk.o];simp[H2.o])
 ·go_wp2_with (go_at_call 66;refine fh.o.mono ?_;rintro e wq ⟨rfl,rfl⟩)
  go_ret
  exact zb0 HW.o Bw (by rw[fk.o];simp)
