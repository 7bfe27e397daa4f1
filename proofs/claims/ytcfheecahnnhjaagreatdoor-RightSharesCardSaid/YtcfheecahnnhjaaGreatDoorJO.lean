import Derived.Test.YtcfheecahnnhjaaGreatDoorJK
set_option linter.all false
set_option maxRecDepth 100000
set_option maxHeartbeats 4000000
namespace Go.Proofs.YtcfheecahnnhjaaGreatDoor
open Go.RowKit Go.Shelf
attribute [local go_sem] World.cell?_alloc_mark zag za4 zar zaB zaw zax zay zaz za0 za1 za2
attribute [local go_sem] zas zad
theorem tomb_set3{W:World}{T:Nat}{pl:ByteArray}{cl fr en:Int}{v dv:Value}{cs3:Int}(h:zbw W T pl cl fr en v dv):zbw (W.setCell ⟨T,3,none⟩ (.int .i64 cs3)) T pl cl fr cs3 v dv:=by
 unfold zbw at*;have:=Joins.block_setCell (i:=3) h (.int .i64 cs3);simpa using this
theorem zmK(base b:Nat)(s:St)(la co last:Int)(d:Deed)(B:Option Addr)(c:Nat)(w:World)(hW:WldAt base w b s la co)(hL:LensIn w)(hd:OkD d)(ag:s.graves.length<=1000)(bN:∀g∈s.graves,g.fin<=200000):
 Calls Tryz.prog 112 #[.pointer (some ⟨b,0,none⟩),d.v B c] w (zbK base b (zdf s d) la co w):=by
 have dW:=hd.years;clear hd;have ak:=hW;obtain⟨Bk,dd,cc,pp,wl,rr,mv,tv,ps,ba,hC,hP,hT⟩:=hW;have dK:=zab hC;obtain⟨kd,dy,pl,fr,ts,cl,yr⟩:=d;simp only at*;obtain⟨bK,HW,HC,HP⟩:=yH4 (fun W (hB:Below w.heap.size w W)=>zi3 base b s la co pl dy W (hC.keep hB) (hT.keep hB) Mcu) ak hC hP;cases aO:zaL s pl dy with
 |none=>
  rw[aO]at bK;have HG:Hid (zdf s ⟨kd,dy,pl,fr,ts,cl,yr⟩=(s,6)):=by show _=_;simp[zdf,aO]
  clear aO ak hC hP hT hL;unfold Deed.v;simp only;go_enter Tryz.func112,Tryz.ntmps112
  exact Maa
 |some i=>
  obtain⟨T,g,g7,ia,aG,bG,fT,km⟩:=zdM hT aO;have Kx:=bN g (List.mem_of_getElem? aG);have ik:∀W,Below w.heap.size w W->Calls Tryz.prog 24 #[.pointer (some ⟨b,0,none⟩),.string pl,.int .i64 dy] W (Ret W (.pointer (some ⟨T,0,none⟩))):=fun W hB=>by
   exact Mcm
  have kJ:=zHi ik;obtain⟨H,aM,D,dc,frm,t1,t2,t3,t4,t5,t6,t7⟩:=fT;have ca:=zab t1;obtain⟨gpl,gcl,gfin,ghs,gdi⟩:=g;simp only at*;have iR:zdf s ⟨kd,dy,pl,fr,ts,cl,yr⟩=if decide (gfin<0)then(s,15)else if decide (zcj gfin yr<0)then(s,2)else(s.withGrave i ⟨gpl,gcl,zcj gfin yr,ghs,gdi⟩,0):=by
   unfold zdf;simp only[aO,bG]
  obtain⟨dO,qY,kS,nz,gA,HT,qO⟩:=yH7 t1 t5 t6 t7 iR hT g7;unfold zbw at t1;obtain⟨-,-,-,k3⟩:=cF4 t1;have fz:∀j,w.frozen? ⟨T,j,none⟩=false:=fun j=>by simp only[World.frozen?,t1];rfl
  have am:=zHi (fun W (hB:Below w.heap.size w W) (h0:0<=gfin)=>zjF gfin yr W (hL.keep hB) h0 Kx dW.1 dW.2);clear ik bK t1 t5 t6 t7 iR hT g7 ia bG aG km aO ak hC hP hL bN;unfold Deed.v;simp only;go_enter Tryz.func112,Tryz.ntmps112
  by_cases oQ:gfin<0
  ·go_wp2_with (go_at_call 24;refine(kJ.o _ Bw).mono ?_;rintro e wq ⟨rfl,z,rfl⟩)
   go_ret
   exact zbR HW.o Bw (by rw[gA.o];simp[oQ])
  ·have d8:0<=gfin:=Mcu;go_upto_region 6 with(go_at_call 24;refine(kJ.o _ Bw).mono ?_;rintro e wq ⟨rfl,z,rfl⟩)
   generalize hR:zcj gfin yr=R at*
   (refine zaj Mcv Mcv ?_
    repeat(first|go_big_quiet_skip|(go_big_quiet_want;go_big_quiet_op;first|go_big_quiet_on|(apply Exists.intro;refine⟨fun _=>?_,?_⟩;(go_at_call 140;exact quietx (am.o _ Bw d8));go_big_quiet_on)))
    refine wpQuiet_nil ?_
    rintro _ ⟨zq,rfl⟩)
   by_cases Cv:R<0
   ·go_wp2_with fail
    go_ret
    exact zbR HW.o Bw (by rw[gA.o];simp[oQ,Cv])
   ·go_wp2_with fail
    go_ret
    have aW:zdf s ⟨kd,dy,pl,fr,ts,cl,yr⟩=(s.withGrave i ⟨gpl,gcl,R,ghs,gdi⟩,0):=by rw[gA.o];simp[show¬gfin<0 by omega,show¬R<0 by omega]
    rw[aW];obtain⟨Z,hZ⟩:∃Z,Z=((w.alloc (.cells #[.int .i64 kd,.int .i64 dy,.string pl,.string fr,.slice B ts.length c,.int .i64 cl,.int .i64 yr] 69)).ext z).ext zq:=⟨_,rfl⟩
    have eR:Below w.heap.size w Z:=by rw[hZ];exact Bw
    have wS:=(eR.block T ca).trans dO.o;have hN:TombAt (Z.setCell ⟨T,3,none⟩ (.int .i64 R)) base Bk T ⟨gpl,gcl,R,ghs,gdi⟩:=⟨H,aM,D,dc,frm,tomb_set3 (show zbw Z T gpl gcl frm gfin _ _ from wS),t2,t3,t4,(qY.o.keep eR).kept (zav Z T 3 _) wS Mcw,(kS.o.keep eR).kept (zav Z T 3 _) wS Mcw,nz.o⟩
    have ao:=zi6 ba (HC.o.keep eR) (HP.o.keep eR) (HT.o.keep eR) qO.o wS (zav Z T 3 (.int .i64 R)) hN;have bD:Below base w (Z.setCell ⟨T,3,none⟩ (.int .i64 R)):=zaM (eR.mono Mcu) t2 _;have hE:Z.setCell ⟨T,3,none⟩ (.int .i64 R)=(((w.setCell ⟨T,3,none⟩ (.int .i64 R)).alloc (.cells #[.int .i64 kd,.int .i64 dy,.string pl,.string fr,.slice B ts.length c,.int .i64 cl,.int .i64 yr] 69)).ext z).ext zq:=by
     rw[hZ,zas _ _ _ _ _ McD,zas _ _ _ _ _ Mcz,zad _ _ _ _ _ ca]
    have bV:=(KeepD.below eR).trans (KeepD.cells (zav Z T 3 (.int .i64 R)) wS Mcw);rw[hE]at ao bD bV;exact⟨rfl,ao,bD,bV⟩
def surF(frm:ByteArray)(left:Rat):Parts->Parts×Bool->Parts×Bool
 | [],x=>x
 |p::l,x=>surF frm left l (if zae p.1 frm then x else(x.1++[(p.1,zbj (p.2/left))],x.2||bigQ (p.2/left)))
theorem ziA(frm:ByteArray)(left:Rat):∀(a b:Parts) (x:Parts×Bool),surF frm left (a++b) x=surF frm left b (surF frm left a x)
 | [],_,_=>rfl
 |p::a,b,x=>ziA frm left a b _
theorem surF_snoc(frm:ByteArray)(left:Rat)(hs:Parts)(x:Parts×Bool){k:Nat}(h:k<hs.length):surF frm left (hs.take (k+1)) x=if zae hs[k].1 frm then surF frm left (hs.take k) x else((surF frm left (hs.take k) x).1++[(hs[k].1,zbj (hs[k].2/left))],(surF frm left (hs.take k) x).2||bigQ (hs[k].2/left)):=by
 rw[List.take_succ_eq_append_getElem h,ziA];rfl
theorem ziB(frm:ByteArray)(left:Rat):∀(hs out:Parts) (f:Bool),(surF frm left hs (out,f)).2=(f||zaF ((zau hs frm).map fun p=>(p.1,p.2/left)))/\
 ((surF frm left hs (out,f)).2=false->(surF frm left hs (out,f)).1=out++(zau hs frm).map fun p=>(p.1,p.2/left))
 | [],out,f=>by simp[surF,zau,zaF]
 |p::hs,out,f=>by
  rw[surF];cases hp:zae p.1 frm
  ·have e:zau (p::hs) frm=p::zau hs frm:=by unfold zau;rw[List.filter_cons,hp];rfl
   obtain⟨h1,h2⟩:=ziB frm left hs (out++[(p.1,zbj (p.2/left))]) (f||bigQ (p.2/left));simp only[Bool.false_eq_true,if_false];rw[e,List.map_cons];refine⟨by rw[h1];unfold zaF;rw[List.any_cons,Bool.or_assoc],fun h=>?_⟩;rw[h2 h];rw[h1,Bool.or_eq_false_iff,Bool.or_eq_false_iff]at h;rw[zfg h.1.2];simp
  ·have e:zau (p::hs) frm=zau hs frm:=by unfold zau;rw[List.filter_cons,hp];rfl
   simp only[if_true];rw[e];exact ziB frm left hs out f
theorem zkz(frm:ByteArray)(left:Rat):∀(hs out:Parts) (f:Bool),(surF frm left hs (out,f)).1.length<=out.length+hs.length
 | [],out,f=>by simp[surF]
 |p::hs,out,f=>by
  rw[surF];split
  ·have:=zkz frm left hs out f;simp;omega
  ·have:=zkz frm left hs (out++[(p.1,zbj (p.2/left))]) (f||bigQ (p.2/left));simp at this⊢;omega
theorem zk0{s:St}{d:Deed}{i:Nat}{g:Grave}(aO:zaL s d.place d.day=some i)(hg:s.graves.getD i zfa=g):
 zba s d=if zaf g.holders d.frm==0 then(s,19)else if(surF d.frm (1-zaf g.holders d.frm) g.holders ([],false)).2 then(s,8)else
  (s.withGrave i {g with holders:=(surF d.frm (1-zaf g.holders d.frm) g.holders ([],false)).1},0):=by
 obtain⟨h1,h2⟩:=ziB d.frm (1-zaf g.holders d.frm) g.holders [] false;unfold zba;rw[aO];simp only[hg];rw[Bool.false_or]at h1;rw[<-h1];cases hf:(surF d.frm (1-zaf g.holders d.frm) g.holders ([],false)).2
 ·have:=h2 hf;rw[List.nil_append]at this;rw[<-this]
 ·rfl
theorem zl2{g:Grave}{frm:ByteArray}(hG:GoodG g)(ai:zaf g.holders frm≠0):zaJ (zaf g.holders frm)/\zaJ (1-zaf g.holders frm)/\0<=1-zaf g.holders frm/\
 ∀p∈g.holders,zae p.1 frm=false->0<1-zaf g.holders frm/\zaJ p.2:=by
 have ho:=zbF hG.good frm;have bP:=zd2 hG.good frm;have dU:sumQ g.holders=1:=by
  rcases hG.one with h|h
  ·exact absurd h (zdr ai)
  ·exact h
 have hb:=zcQ frm hG.small;have pV:zaf g.holders frm<=1:=McX;have cT:=zcd ho pV hb;have bs:bigQ (1-zaf g.holders frm)=false:=by
  have hI:IsN (zaf g.holders frm).den (zaf g.holders frm):=⟨(zaf g.holders frm).num,by
   generalize zaf g.holders frm=q;have h1:q=q.num/(q.den:Int):=by rw[<-Rat.divInt_eq_div,Rat.num_divInt_den]
   have h2:((q.den:Int):Rat)≠0:=ratI (by have:=q.den_pos;omega);rw[Rat.intCast_natCast]at h1 h2;conv=>lhs;rw[h1]
   grind⟩
  exact zey (zaf g.holders frm).den_pos cT.2 (zgW (zgX _) hI)
 refine⟨cT,zcd McX McX bs,by grind,fun p hp hs=>?_⟩;have sR:=hG.good.pos p hp;have gR:p∈zau g.holders frm:=List.mem_filter.2 ⟨hp,by rw[hs];rfl⟩;have h1:=zcm (n:=frm) hG.good;have h2:=zgU (l:=zau g.holders frm) (fun q hq=>by have:=(zbN hG.good (n:=frm)).pos q hq;grind) p gR;refine⟨by grind,zcd McX McX ?_⟩;have:=hG.small;unfold zaF at this;rw[List.any_eq_false]at this;simpa using this p hp
theorem sl_part{w:World}{b:Nat}{p:ByteArray×Rat}{t:TypeId}{fr:Nat×Nat}(h:w.heap[b]?=some (.cells #[.string p.1,.int .i64 p.2.num,.int .i64 p.2.den] t fr)):Sl w 3 zaa (some ⟨b,0,none⟩) [p]:=fun _=>⟨b,0,rfl,zab h,fun k y hy j u hu=>by
 have hk:k=0:=McH;subst hk;simp only[List.getElem?_cons_zero,Option.some.injEq]at hy;subst hy;match j,hu with
 |0,hu=>simp[zaa]at hu;simp[World.cell?,h,<-hu]
 |1,hu=>simp[zaa]at hu;simp[World.cell?,h,<-hu]
 |2,hu=>simp[zaa]at hu;simp[World.cell?,h,<-hu]
 |j+3,hu=>simp[zaa]at hu⟩
theorem sub1_any(q:Rat)(W:World)(hq:zaJ q):Calls Tryz.prog 142 #[.agg #[.int .i64 1,.int .i64 1],.agg #[.int .i64 q.num,.int .i64 q.den]] W (Ret W (zaA (1-q))):=
 zhB 1 q W ⟨by decide,by decide⟩ hq
theorem zk1(base b:Nat)(s:St)(la co last:Int)(d:Deed)(B:Option Addr)(c:Nat)(w:World)(hW:WldAt base w b s la co)(ja:GoodSt s last)(ag:s.graves.length<=1000)(cq:∀g∈s.graves,g.holders.length<=10000):
 Calls Tryz.prog 111 #[.pointer (some ⟨b,0,none⟩),d.v B c] w (zbK base b (zba s d) la co w):=by
 have rJ:=fun i g h1 h2=>zk0 (s:=s) (d:=d) (i:=i) (g:=g) h1 h2
 have ak:=hW;obtain⟨Bk,dd,cc,pp,wl,rr,mv,tv,ps,ba,hC,hP,hT⟩:=hW;have dK:=zab hC;obtain⟨kd,dy,pl,fr,ts,cl,yr⟩:=d;simp only at*;obtain⟨bK,HW,HC,HP⟩:=yH4 (fun W (hB:Below w.heap.size w W)=>zi3 base b s la co pl dy W (hC.keep hB) (hT.keep hB) Mcu) ak hC hP;cases aO:zaL s pl dy with
 |none=>
  rw[aO]at bK;have HG:Hid (zba s ⟨kd,dy,pl,fr,ts,cl,yr⟩=(s,6)):=by show _=_;simp[zba,aO]
  clear aO rJ ak hC hP hT;unfold Deed.v;simp only;go_enter Tryz.func111,Tryz.ntmps111
  exact Maa
 |some i=>
  obtain⟨T,g,g7,ia,aG,bG,fT,km⟩:=zdM hT aO;have rz:=ja.graves g (List.mem_of_getElem? aG);have ix:=cq g (List.mem_of_getElem? aG);have iR:=rJ i g aO bG;have ik:∀W,Below w.heap.size w W->Calls Tryz.prog 24 #[.pointer (some ⟨b,0,none⟩),.string pl,.int .i64 dy] W (Ret W (.pointer (some ⟨T,0,none⟩))):=fun W hB=>by
   exact Mcm
  have kJ:=zHi ik;obtain⟨H,aM,D,dc,frm,t1,t2,t3,t4,t5,t6,t7⟩:=fT;have ca:=zab t1;obtain⟨dO,qY,kS,nz,gA,eh,HT,qO⟩:=yH8 t1 t5 t6 t7 iR rz hT g7;clear ik bK t1 t5 t6 t7 iR rz hT g7 ia bG aG km aO rJ ja cq ak hC hP;obtain⟨gpl,gcl,gfin,ghs,gdi⟩:=g;simp only at*;unfold zbw at dO;have k4:w.cell? ⟨T,4,none⟩=some (.slice H ghs.length aM):=Md1;obtain⟨own,aa⟩:∃own,own=zaf ghs fr:=⟨_,rfl⟩
  have gz:=zHi (fun W (hB:Below w.heap.size w W)=>zdz ghs H aM T fr W ((hB.cell (p:=⟨T,4,none⟩) ca).trans k4) (Nat.lt_of_lt_of_le ca hB.size) Mcu eh.o.good.asc (Ro.sl zam (qY.o.keep hB)));have nO:own≠0->_:=fun h=>zl2 eh.o (frm:=fr) (by rw[<-aa];exact h)
  have eN:=zHi nO;rw[<-aa]at gz eN;have ju:=gA.o;clear gA nO;simp only[<-aa,numZ]at ju;have gA:=zHi ju;clear ju;have dN:=zHi aa;clear aa;unfold zaA at gz;unfold Deed.v;simp only;go_enter Tryz.func111,Tryz.ntmps111
  go_upto_region 7 with(first
   |(go_at_call 24;refine(kJ.o _ Bw).mono ?_;rintro e wq ⟨rfl,z,rfl⟩)
   |(go_at_call 25;refine(gz.o _ Bw).mono ?_;rintro e wq ⟨rfl,z2,rfl⟩))
  all_goals(try(go_ret;exact zbR HW.o Bw (by rw[gA.o];simp[*];done)))
  have uI:(own.num==0)=false:=Mc6;have yx:own≠0:=fun e=>by rw[e]at uI;exact absurd uI Mcw
  obtain⟨iA,xY,jr,cS⟩:=eN.o yx;have HG:Hid (zba s ⟨kd,dy,pl,fr,ts,cl,yr⟩=if(surF fr (1-own) ghs ([],false)).2 then(s,8)else(s.withGrave i ⟨gpl,gcl,gfin,(surF fr (1-own) ghs ([],false)).1,gdi⟩,0)):=by
   show _=_;rw[gA.o];simp[*];done
  have kQ:=zHi cS;clear gA kJ gz eN cS;generalize ku:1-own=lf at*;have zM:=zHi ku;clear ku;go_cut [5,6,7]from 8 (fun v5 v6 v7 wc=>v5=.pointer (some ⟨T,0,none⟩)/\∃O C,v6=.pointer (some ⟨O,0,none⟩)/\v7=.pointer (some ⟨C,0,none⟩)/\Below w.heap.size w wc/\w.heap.size<O/\O<C/\C+1=wc.heap.size/\wc.heap[w.heap.size]?=some (.cells #[.int .i64 kd,.int .i64 dy,.string pl,.string fr,.slice B ts.length c,.int .i64 cl,.int .i64 yr] 69)/\wc.heap[O]?=some (zbv own)/\MarkAt wc C false)
  case first=>
   go_wp2_with fail
   go_meet
   refine⟨rfl,_,_,rfl,rfl,Bw,by omega,?_,?_,?_,?_,?_⟩
   ·exact Ma8
   ·exact Ma8
   ·exact Mbz
   ·exact Mbq
   ·exact zaq _ _ _ MdI
  case rest=>
   obtain⟨rfl,O,C,rfl,rfl,hB,hO,hC,hCs,g0,g1,hm⟩:=hcut;obtain⟨W0,rfl⟩:∃x,x=wc:=⟨_,rfl⟩
   have t1:=(hB.block T ca).trans dO.o;obtain⟨m0,m1,m2,m3,m4,m5⟩:=cF6 t1;have K2:T<W0.heap.size:=zab t1;have JX:T≠W0.heap.size:=Mcu;have o0:W0.cell? ⟨O,0,none⟩=some (.int .i64 own.num):=by simp only[World.cell?,g1,zbv];rfl
   have o1:W0.cell? ⟨O,1,none⟩=some (.int .i64 own.den):=by simp only[World.cell?,g1,zbv];rfl
   have wG:O<W0.heap.size:=Mcu;have FD:O≠W0.heap.size:=Mcu;obtain⟨G0,HM,J2,eM⟩:=yH4 g0 hm t1 (fun W=>sub1_any own W iA);rw[zM.o]at eM;clear g0 g1 t1 hm;go_wp2_with (go_at_call 142;refine(eM.o _).mono ?_;rintro e wq ⟨rfl,z,rfl⟩;simp only[zaA])
   generalize hLL:W0.heap.size+1+z.os.size=L at*;have lP:=zHi hLL;have Ai:W0.heap.size<L:=Mcu;clear hLL m0 m1 m2 m3 m4 m5 o0 o1;go_loopw [39] (fun i wr=>∃(k:Nat) (v:Value) (out:Parts) (fl:Bool),k<=ghs.length/\i=.int .i64 k/\Hid ((out,fl)=surF fr lf (ghs.take k) ([],false))/\MarkAt wr C fl/\zbw wr W0.heap.size gpl gcl frm gfin v (.slice D gdi.length dc)/\OwnS wr W0.heap.size 64 3 zaa v out/\wr.heap[L]?=some (zbv lf)/\Below C W0 wr/\L<wr.heap.size) (fun i _=>ghs.length-(intOf i).toNat)
   case atStart=>
    refine⟨0,.slice none 0 0,[],false,Nat.zero_le _,rfl,rfl,?_,?_,OwnS.nil,?_,?_,?_⟩
    ·exact((HM.o.alloc _).ext z).alloc _
    ·exact zal (zb5 (zaq _ _ _ rfl))
    ·exact zaq _ _ _ (by have:=lP.o;simp[zag];omega)
    ·have ba:Below C W0 W0:=Below.refl _ _;exact zac (zbg (zac ba _ Mcu) _ Mcu) _ Mcu
    ·have:=lP.o;simp[zag];omega
   case round=>
    obtain⟨k,v,out,fl,hk,rfl,HX,hm,cz,ej,mM,gW,aQ⟩:=hrel;obtain⟨A1,c1,rfl,rD,im⟩:=ej.sl zam;have eG:=zkz fr lf (ghs.take k) [] false;rw[<-HX.o]at eG;simp only[List.length_nil,Nat.zero_add,List.length_take]at eG;have ur:out.length<=10000:=Mcu;clear eG rD;have bl:Below w.heap.size w wr:=hB.trans (gW.mono Mcu);have zr:wr.cell? ⟨W0.heap.size,4,none⟩=some (.slice A1 out.length c1):=Mdf;have fx4:wr.frozen? ⟨W0.heap.size,4,none⟩=false:=by unfold zbw at cz;simp only[World.frozen?,cz];rfl
    have fF:wr.cell? ⟨L,0,none⟩=some (.int .i64 lf.num):=by simp only[World.cell?,mM,zbv];rfl
    have fG:wr.cell? ⟨L,1,none⟩=some (.int .i64 lf.den):=by simp only[World.cell?,mM,zbv];rfl
    have e3:wr.cell? ⟨w.heap.size,3,none⟩=some (.string fr):=(zah gW Mcu).trans Md4;obtain⟨HM,fj,dV,jU,tw,b8⟩:=yH6 hm cz ej mM gW bl;clear hm cz ej mM gW;by_cases ae:k<ghs.length
    ·obtain⟨b',off,rfl,cK,hc⟩:=(Ro.sl zam (qY.o.keep bl)).at ae;have aL:=surF_snoc fr lf ghs ([],false) ae;rw[<-HX.o]at aL;have sR:=kQ.o ghs[k] (List.getElem_mem ae);generalize ghs[k]=p at*;obtain⟨pn,pq⟩:=p;have i0:wr.cell? ⟨b',off+k*3,none⟩=some (.string pn):=hc 0 _ rfl;have i1:wr.cell? ⟨b',off+k*3+1,none⟩=some (.int .i64 pq.num):=hc 1 _ rfl;have i2:wr.cell? ⟨b',off+k*3+2,none⟩=some (.int .i64 pq.den):=hc 2 _ rfl;obtain⟨dI,IQ⟩:=yH2 aL sR;have ar:(k:Int)<(ghs.length:Int):=Mcu;have aT:(0:Int)<=(k:Int):=Mcu;have fu:(k:Int)<=(aM:Int):=Mcu;have cG:w.heap.size<wr.heap.size:=Mcu;have lm:w.heap.size≠wr.heap.size:=Mcu;have bR:W0.heap.size<wr.heap.size:=Mcu;have Hg:W0.heap.size≠wr.heap.size:=Mcu;have hLn:L≠wr.heap.size:=Mcu;clear hc aL sR bl;by_cases hsb:pn.toList=fr.toList
     ·have eM:=zHi (zek hsb);have dm:(pn.toList==fr.toList)=true:=by simpa using hsb
      have aY:(pn.toList != fr.toList)=false:=by simp[hsb]
      clear hsb;go_wp2_with fail
      go_round
      case rel=>
       have h1:=dI.o;rw[eM.o]at h1;exact⟨k+1,_,out,fl,by omega,by go_num,(h1.symm:_=_),HM.o.alloc _,zal fj.o,dV.o.keep (n:=wr.heap.size) (zac (Below.refl _ _) _),zal jU.o,zac tw.o _ Mcu,by simp;omega⟩
      case measure=>simp[intOf];omega
     ·have eM:=zHi (ze7 hsb);have dm:(pn.toList==fr.toList)=false:=by simpa using hsb
      have aY:(pn.toList != fr.toList)=true:=by simp[hsb]
      clear hsb;obtain⟨Gt,yC⟩:=IQ.o eM.o;go_upto_region 15 with fail
      refine wp_region_held_drew (S:=(fun w'=>w'.cell? ⟨wr.heap.size,0,none⟩=some (.string pn)/\w'.cell? ⟨wr.heap.size,1,none⟩=some (.int .i64 pq.num)/\w'.cell? ⟨wr.heap.size,2,none⟩=some (.int .i64 pq.den)/\w'.cell? ⟨L,0,none⟩=some (.int .i64 lf.num)/\w'.cell? ⟨L,1,none⟩=some (.int .i64 lf.den))) Mcv ?hS ?hrest
      case hS=>((try dsimp only);refine⟨?_,?_,?_,?_,?_⟩<;>(simp[go_sem,fF,fG,aQ];done))
      case hrest=>
       intro hHeld;refine TkH 0 ?_;refine TkH 2 ?_;refine TkH 3 ?_;refine TkH 4 ?_;refine TkH 5 ?_;refine TkH 6 ?_;refine wpAnyH_ready (rs:=[1,7]) Mcv Mcx (AllReadyH.cons (List.getElem?_toArray.trans rfl) (fun K hK=>?_) (AllReadyH.cons (List.getElem?_toArray.trans rfl) (fun K hK=>?_) AllReadyH.nil))
       ·go_simp
        refine hK.out _ _ ?_ (fun hHeld=>?_);focus((try dsimp only);refine⟨?_,?_,?_,?_,?_⟩<;>first|assumption|(simp[go_sem,fF,fG,aQ];done)|(simp[go_sem,a0,a1,a2,l5,l6,yp,yL];done)|(simp[go_sem,z0,z1,z2,z5,z6,zx,zy];done))
        clear hK K;try simp only[Act.put,List.setIfInBounds_toArray,List.set_cons_zero,List.set_cons_succ]
        refine OnH 7 fun K hK=>?_
        go_simp
        refine(znU C fl _ ?q1 pq lf yC xY Gt).mono ?_
        case q1=>(repeat(first|exact HM.o|refine MarkAt.drew ?_|refine MarkAt.alloc ?_ _))
        rintro e w5 ⟨rfl,n1,n2⟩;have dY:=n2.size;have y0:w5.heap[wr.heap.size]?=some (.cells #[.string pn,.int .i64 pq.num,.int .i64 pq.den] 64):=(n2.block _ Mcx Mcz).trans (zaq _ _ _ rfl);obtain⟨a0,a1,a2⟩:=cF3 y0;have yL':w5.heap[L]?=some (zbv lf):=(n2.block _ Mcz Mcz).trans (zal jU.o);have l5:w5.cell? ⟨L,0,none⟩=some (.int .i64 lf.num):=Mdx;have l6:w5.cell? ⟨L,1,none⟩=some (.int .i64 lf.den):=Mdx;have yT:zbw w5 W0.heap.size gpl gcl frm gfin (.slice A1 out.length c1) (.slice D gdi.length dc):=(n2.block _ Mcz Mcz).trans (zal fj.o);have y2:w5.cell? ⟨W0.heap.size,4,none⟩=some (.slice A1 out.length c1):=by unfold zbw at yT;simp only[World.cell?,yT];rfl
        have yO:OwnS w5 W0.heap.size 64 3 zaa (.slice A1 out.length c1) out:=by refine OwnS.grown (hg:=n2) ?_ (.inr fun e=>by have:=(dV.o.ge _ e).1;omega);exact dV.o.keep (n:=wr.heap.size) Bw
        have yl:=zab yT;have yp:=zab y0;have yL:=zab yL';have yn:W0.heap.size≠w5.heap.size:=Mcu;have ypn:wr.heap.size≠w5.heap.size:=Mcu;obtain⟨YT,YO,YL,Y0,N1,N2⟩:=yH6 yT yO yL' y0 n1 n2;clear yT yO yL' n1 n2 y0;simp only[zaA];refine hK.out _ _ ?_ (fun hHeld=>?_);focus((try dsimp only);refine⟨?_,?_,?_,?_,?_⟩<;>first|assumption|(simp[go_sem,fF,fG,aQ];done)|(simp[go_sem,a0,a1,a2,l5,l6,yp,yL];done)|(simp[go_sem,z0,z1,z2,z5,z6,zx,zy];done))
        clear hK K;try simp only[Act.put,List.setIfInBounds_toArray,List.set_cons_zero,List.set_cons_succ]
        refine TkH 8 ?_;refine OnH 9 fun K hK=>?_
        exact Mc
       ·go_simp
        refine(znU C fl _ ?q1 pq lf yC xY Gt).mono ?_
        case q1=>(repeat(first|exact HM.o|refine MarkAt.drew ?_|refine MarkAt.alloc ?_ _))
        rintro e w5 ⟨rfl,n1,n2⟩;have dY:=n2.size;have y0:w5.heap[wr.heap.size]?=some (.cells #[.string pn,.int .i64 pq.num,.int .i64 pq.den] 64):=(n2.block _ Mcx Mcz).trans (zaq _ _ _ rfl);obtain⟨a0,a1,a2⟩:=cF3 y0;have yL':w5.heap[L]?=some (zbv lf):=(n2.block _ Mcz Mcz).trans (zal jU.o);have l5:w5.cell? ⟨L,0,none⟩=some (.int .i64 lf.num):=Mdx;have l6:w5.cell? ⟨L,1,none⟩=some (.int .i64 lf.den):=Mdx;have yT:zbw w5 W0.heap.size gpl gcl frm gfin (.slice A1 out.length c1) (.slice D gdi.length dc):=(n2.block _ Mcz Mcz).trans (zal fj.o);have y2:w5.cell? ⟨W0.heap.size,4,none⟩=some (.slice A1 out.length c1):=by unfold zbw at yT;simp only[World.cell?,yT];rfl
        have yO:OwnS w5 W0.heap.size 64 3 zaa (.slice A1 out.length c1) out:=by refine OwnS.grown (hg:=n2) ?_ (.inr fun e=>by have:=(dV.o.ge _ e).1;omega);exact dV.o.keep (n:=wr.heap.size) Bw
        have yl:=zab yT;have yp:=zab y0;have yL:=zab yL';have yn:W0.heap.size≠w5.heap.size:=Mcu;have ypn:wr.heap.size≠w5.heap.size:=Mcu;obtain⟨YT,YO,YL,Y0,N1,N2⟩:=yH6 yT yO yL' y0 n1 n2;clear yT yO yL' n1 n2 y0;simp only[zaA];refine hK.out _ _ ?_ (fun hHeld=>?_);focus((try dsimp only);refine⟨?_,?_,?_,?_,?_⟩<;>first|assumption|(simp[go_sem,fF,fG,aQ];done)|(simp[go_sem,a0,a1,a2,l5,l6,yp,yL];done)|(simp[go_sem,z0,z1,z2,z5,z6,zx,zy];done))
        clear hK K;try simp only[Act.put,List.setIfInBounds_toArray,List.set_cons_zero,List.set_cons_succ]
        refine TkH 8 ?_;refine wpAnyH_ready (rs:=[1,9]) Mcv Mcx (AllReadyH.cons (List.getElem?_toArray.trans rfl) (fun K hK=>?_) (AllReadyH.cons (List.getElem?_toArray.trans rfl) (fun K hK=>?_) AllReadyH.nil))
        ·go_simp
         refine hK.out _ _ ?_ (fun hHeld=>?_);focus((try dsimp only);refine⟨?_,?_,?_,?_,?_⟩<;>first|assumption|(simp[go_sem,fF,fG,aQ];done)|(simp[go_sem,a0,a1,a2,l5,l6,yp,yL];done)|(simp[go_sem,z0,z1,z2,z5,z6,zx,zy];done))
         clear hK K;try simp only[Act.put,List.setIfInBounds_toArray,List.set_cons_zero,List.set_cons_succ]
         refine OnH 9 fun K hK=>?_
         exact Mc
        ·go_simp
         refine hK.out _ _ ?_ (fun hHeld=>?_);focus((try dsimp only);refine⟨?_,?_,?_,?_,?_⟩<;>first|assumption|(simp[go_sem,fF,fG,aQ];done)|(simp[go_sem,a0,a1,a2,l5,l6,yp,yL];done)|(simp[go_sem,z0,z1,z2,z5,z6,zx,zy];done))
         clear hK K;try simp only[Act.put,List.setIfInBounds_toArray,List.set_cons_zero,List.set_cons_succ]
         refine OnH 1 fun K hK=>?_
         exact Mc
    ·have ar:¬(k:Int)<(ghs.length:Int):=Mcu;have jN:(out,fl)=surF fr lf ghs ([],false):=by rw[HX.o,List.take_of_length_le Mcu]
     have ji:=(bl.block T ca).trans dO.o;have ni:=zHi ji;have iJ:wr.cell? ⟨C,0,none⟩=some (.bool fl):=(zbW HM.o).1;have gT:=HG.o;rw[<-jN]at gT;clear jN HX eh bl fF fG e3;cases fl
     ·have tH:=zHi gT;have cz:=fj.o;unfold zbw at cz;obtain⟨n0,n1,n2,n3,-,n5⟩:=cF6 cz;obtain⟨z0,z1,z2,z3,z4,z5⟩:=cF6 ji;have fz:∀j,wr.frozen? ⟨T,j,none⟩=false:=fun j=>by simp only[World.frozen?,ji];rfl
      clear gT cz ji;go_wp2_with fail
      go_ret
      have bl:=b8.o;have dZ:Ro wr 64 zaa A1 out:=dV.o.ro';have hN:TombAt ((((((wr.setCell ⟨T,0,none⟩ (.string gpl)).setCell ⟨T,1,none⟩ (.int .i64 gcl)).setCell ⟨T,2,none⟩ (.int .i64 frm)).setCell ⟨T,3,none⟩ (.int .i64 gfin)).setCell ⟨T,4,none⟩ (.slice A1 out.length c1)).setCell ⟨T,5,none⟩ (.slice D gdi.length dc)) base Bk T ⟨gpl,gcl,gfin,out,gdi⟩:=
       ⟨A1,c1,D,dc,frm,zi7 ni.o _ _ _ _ _ _,t2,im,t4,dZ.kept (zce _ _ _ _ _ _ _ _) ni.o Mcw,(kS.o.keep bl).kept (zce _ _ _ _ _ _ _ _) ni.o Mcw,nz.o⟩
      have ao:=zi6 ba (HC.o.keep bl) (HP.o.keep bl) (HT.o.keep bl) qO.o ni.o (zce wr T _ _ _ _ _ _) hN;have bD:Below base w wr:=bl.mono Mcu;have jg:=zaU bD (zce wr T (.string gpl) (.int .i64 gcl) (.int .i64 frm) (.int .i64 gfin) (.slice A1 out.length c1) (.slice D gdi.length dc)) t2 Mcu;have aW:zba s ⟨kd,dy,pl,fr,ts,cl,yr⟩=(s.withGrave i ⟨gpl,gcl,gfin,out,gdi⟩,0):=tH.o.trans (if_neg Mcx);exact MaP
     ·exact MaS
