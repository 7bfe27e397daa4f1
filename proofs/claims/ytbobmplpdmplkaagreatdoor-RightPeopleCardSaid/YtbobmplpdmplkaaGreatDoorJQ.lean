import Derived.Test.YtbobmplpdmplkaaGreatDoorJK
set_option linter.all false
set_option maxRecDepth 100000
set_option maxHeartbeats 4000000
namespace Go.Proofs.YtbobmplpdmplkaaGreatDoor
open Go.RowKit Go.Shelf
attribute [local go_sem] World.cell?_alloc_mark zaf za4 zam za7 zaw zax zay zaz za0 za1 za2
attribute [local go_sem] zan zac
theorem tomb_set3{W:World}{T:Nat}{pl:ByteArray}{cl fr en:Int}{v dv:Value}{cs3:Int}(h:zby W T pl cl fr en v dv):zby (W.setCell ⟨T,3,none⟩ (.int .i64 cs3)) T pl cl fr cs3 v dv:=by
 unfold zby at*;have:=Joins.block_setCell (i:=3) h (.int .i64 cs3);simpa using this
theorem zmB(base b:Nat)(s:St)(la co last:Int)(d:Deed)(B:Option Addr)(c:Nat)(w:World)(hW:WldAt base w b s la co)(hL:LensIn w)(hd:OkD d)(ag:s.graves.length<=1000)(bJ:∀g∈s.graves,g.fin<=200000):
 Calls Tryz.prog 124 #[.pointer (some ⟨b,0,none⟩),d.v B c] w (zbH base b (zcZ s d) la co w):=by
 have dU:=hd.years;clear hd;have am:=hW;obtain⟨Bk,dd,cc,pp,wl,rr,mv,tv,ps,ba,hC,hP,hT⟩:=hW;have dg:=zab hC;obtain⟨kd,dy,pl,fr,ts,cl,yr⟩:=d;simp only at*;obtain⟨bW,HW,HC,HP⟩:=yH4 (fun W (hB:Below w.heap.size w W)=>zjA base b s la co pl dy W (hC.keep hB) (hT.keep hB) Mcy) am hC hP;cases aU:zaR s pl dy with
 |none=>
  rw[aU]at bW;have HG:Hid (zcZ s ⟨kd,dy,pl,fr,ts,cl,yr⟩=(s,6)):=by show _=_;simp[zcZ,aU]
  clear aU am hC hP hT hL;unfold Deed.v;simp only;go_enter Tryz.func124,Tryz.ntmps124
  exact M9
 |some i=>
  obtain⟨T,g,gZ,iw,aO,bN,gR,km⟩:=zet hT aU;have Kc:=bJ g (List.mem_of_getElem? aO);have ig:∀W,Below w.heap.size w W->Calls Tryz.prog 31 #[.pointer (some ⟨b,0,none⟩),.string pl,.int .i64 dy] W (Ret W (.pointer (some ⟨T,0,none⟩))):=fun W hB=>by
   have:=bW.o W hB;exact MaM
  have kJ:=zHi ig;obtain⟨H,aN,D,dc,frm,t1,t2,t3,t4,t5,t6,t7⟩:=gR;have df:=zab t1;obtain⟨gpl,gcl,gfin,ghs,gdi⟩:=g;simp only at*;have iP:zcZ s ⟨kd,dy,pl,fr,ts,cl,yr⟩=if decide (gfin<0)then(s,15)else if decide (zcd gfin yr<0)then(s,2)else(s.withGrave i ⟨gpl,gcl,zcd gfin yr,ghs,gdi⟩,0):=by
   unfold zcZ;simp only[aU,bN]
  obtain⟨ez,qL,kQ,nt,g9,HT,qD⟩:=yH7 t1 t5 t6 t7 iP hT gZ;unfold zby at t1;obtain⟨-,-,-,k3⟩:=cF4 t1;have fz:∀j,w.frozen? ⟨T,j,none⟩=false:=fun j=>by simp only[World.frozen?,t1];rfl
  have ak:=zHi (fun W (hB:Below w.heap.size w W) (h0:0<=gfin)=>zj7 gfin yr W (hL.keep hB) h0 Kc dU.1 dU.2);clear ig bW t1 t5 t6 t7 iP hT gZ iw bN aO km aU am hC hP hL bJ;unfold Deed.v;simp only;go_enter Tryz.func124,Tryz.ntmps124
  by_cases oO:gfin<0
  ·go_wp2_with (go_at_call 31;refine(kJ.o _ Bw).mono ?_;rintro e wq ⟨rfl,z,rfl⟩)
   go_ret
   exact zbN HW.o Bw (by rw[g9.o];simp[oO])
  ·have cY:0<=gfin:=Mcy;go_upto_region 6 with(go_at_call 31;refine(kJ.o _ Bw).mono ?_;rintro e wq ⟨rfl,z,rfl⟩)
   generalize hR:zcd gfin yr=R at*
   (refine zaj Mcz Mcz ?_
    repeat(first|go_big_quiet_skip|(go_big_quiet_want;go_big_quiet_op;first|go_big_quiet_on|(apply Exists.intro;refine⟨fun _=>?_,?_⟩;(go_at_call 151;exact quietx (ak.o _ Bw cY));go_big_quiet_on)))
    refine wpQuiet_nil ?_
    rintro _ ⟨zq,rfl⟩)
   by_cases C6:R<0
   ·go_wp2_with fail
    go_ret
    exact zbN HW.o Bw (by rw[g9.o];simp[oO,C6])
   ·go_wp2_with fail
    go_ret
    have bf:zcZ s ⟨kd,dy,pl,fr,ts,cl,yr⟩=(s.withGrave i ⟨gpl,gcl,R,ghs,gdi⟩,0):=by rw[g9.o];simp[show¬gfin<0 by omega,show¬R<0 by omega]
    rw[bf];obtain⟨Z,hZ⟩:∃Z,Z=((w.alloc (.cells #[.int .i64 kd,.int .i64 dy,.string pl,.string fr,.slice B ts.length c,.int .i64 cl,.int .i64 yr] 76)).ext z).ext zq:=⟨_,rfl⟩
    have eN:Below w.heap.size w Z:=by rw[hZ];exact Bw
    have wh:=(eN.block T df).trans ez.o;have hN:TombAt (Z.setCell ⟨T,3,none⟩ (.int .i64 R)) base Bk T ⟨gpl,gcl,R,ghs,gdi⟩:=⟨H,aN,D,dc,frm,tomb_set3 (show zby Z T gpl gcl frm gfin _ _ from wh),t2,t3,t4,(qL.o.keep eN).kept (zav Z T 3 _) wh McA,(kQ.o.keep eN).kept (zav Z T 3 _) wh McA,nt.o⟩
    have aq:=ziz ba (HC.o.keep eN) (HP.o.keep eN) (HT.o.keep eN) qD.o wh (zav Z T 3 (.int .i64 R)) hN;have cE:Below base w (Z.setCell ⟨T,3,none⟩ (.int .i64 R)):=zaP (eN.mono Mcy) t2 _;have hE:Z.setCell ⟨T,3,none⟩ (.int .i64 R)=(((w.setCell ⟨T,3,none⟩ (.int .i64 R)).alloc (.cells #[.int .i64 kd,.int .i64 dy,.string pl,.string fr,.slice B ts.length c,.int .i64 cl,.int .i64 yr] 76)).ext z).ext zq:=by
     rw[hZ,zan _ _ _ _ _ McH,zan _ _ _ _ _ McD,zac _ _ _ _ _ df]
    have bS:=(KeepD.below eN).trans (KeepD.cells (zav Z T 3 (.int .i64 R)) wh McA);rw[hE]at aq cE bS;exact⟨rfl,aq,cE,bS⟩
def surF(frm:ByteArray)(left:Rat):Parts->Parts×Bool->Parts×Bool
 | [],x=>x
 |p::l,x=>surF frm left l (if zae p.1 frm then x else(x.1++[(p.1,zbg (p.2/left))],x.2||bigQ (p.2/left)))
theorem zi3(frm:ByteArray)(left:Rat):∀(a b:Parts) (x:Parts×Bool),surF frm left (a++b) x=surF frm left b (surF frm left a x)
 | [],_,_=>rfl
 |p::a,b,x=>zi3 frm left a b _
theorem surF_snoc(frm:ByteArray)(left:Rat)(hs:Parts)(x:Parts×Bool){k:Nat}(h:k<hs.length):surF frm left (hs.take (k+1)) x=if zae hs[k].1 frm then surF frm left (hs.take k) x else((surF frm left (hs.take k) x).1++[(hs[k].1,zbg (hs[k].2/left))],(surF frm left (hs.take k) x).2||bigQ (hs[k].2/left)):=by
 rw[List.take_succ_eq_append_getElem h,zi3];rfl
theorem zi4(frm:ByteArray)(left:Rat):∀(hs out:Parts) (f:Bool),(surF frm left hs (out,f)).2=(f||zaE ((zas hs frm).map fun p=>(p.1,p.2/left)))/\
 ((surF frm left hs (out,f)).2=false->(surF frm left hs (out,f)).1=out++(zas hs frm).map fun p=>(p.1,p.2/left))
 | [],out,f=>by simp[surF,zas,zaE]
 |p::hs,out,f=>by
  rw[surF];cases hp:zae p.1 frm
  ·have e:zas (p::hs) frm=p::zas hs frm:=by unfold zas;rw[List.filter_cons,hp];rfl
   obtain⟨h1,h2⟩:=zi4 frm left hs (out++[(p.1,zbg (p.2/left))]) (f||bigQ (p.2/left));simp only[Bool.false_eq_true,if_false];rw[e,List.map_cons];refine⟨by rw[h1];unfold zaE;rw[List.any_cons,Bool.or_assoc],fun h=>?_⟩;rw[h2 h];rw[h1,Bool.or_eq_false_iff,Bool.or_eq_false_iff]at h;rw[zeX h.1.2];simp
  ·have e:zas (p::hs) frm=zas hs frm:=by unfold zas;rw[List.filter_cons,hp];rfl
   simp only[if_true];rw[e];exact zi4 frm left hs out f
theorem zkq(frm:ByteArray)(left:Rat):∀(hs out:Parts) (f:Bool),(surF frm left hs (out,f)).1.length<=out.length+hs.length
 | [],out,f=>by simp[surF]
 |p::hs,out,f=>by
  rw[surF];split
  ·have:=zkq frm left hs out f;simp;omega
  ·have:=zkq frm left hs (out++[(p.1,zbg (p.2/left))]) (f||bigQ (p.2/left));simp at this⊢;omega
theorem zkr{s:St}{d:Deed}{i:Nat}{g:Grave}(aU:zaR s d.place d.day=some i)(hg:s.graves.getD i zga=g):
 zaZ s d=if zag g.holders d.frm==0 then(s,19)else if(surF d.frm (1-zag g.holders d.frm) g.holders ([],false)).2 then(s,8)else
  (s.withGrave i {g with holders:=(surF d.frm (1-zag g.holders d.frm) g.holders ([],false)).1},0):=by
 obtain⟨h1,h2⟩:=zi4 d.frm (1-zag g.holders d.frm) g.holders [] false;unfold zaZ;rw[aU];simp only[hg];rw[Bool.false_or]at h1;rw[<-h1];cases hf:(surF d.frm (1-zag g.holders d.frm) g.holders ([],false)).2
 ·have:=h2 hf;rw[List.nil_append]at this;rw[<-this]
 ·rfl
theorem zlt{g:Grave}{frm:ByteArray}(hG:GoodG g)(ai:zag g.holders frm≠0):zaI (zag g.holders frm)/\zaI (1-zag g.holders frm)/\0<=1-zag g.holders frm/\
 ∀p∈g.holders,zae p.1 frm=false->0<1-zag g.holders frm/\zaI p.2:=by
 have ho:=zb9 hG.good frm;have bI:=zdv hG.good frm;have dO:sumQ g.holders=1:=by
  rcases hG.one with h|h
  ·exact absurd h (zdm ai)
  ·exact h
 have hb:=zcL frm hG.small;have pO:zag g.holders frm<=1:=Mc0;have cR:=zbZ ho pO hb;have bs:bigQ (1-zag g.holders frm)=false:=by
  have hI:IsN (zag g.holders frm).den (zag g.holders frm):=⟨(zag g.holders frm).num,by
   generalize zag g.holders frm=q;have h1:q=q.num/(q.den:Int):=by rw[<-Rat.divInt_eq_div,Rat.num_divInt_den]
   have h2:((q.den:Int):Rat)≠0:=ratI (by have:=q.den_pos;omega);rw[Rat.intCast_natCast]at h1 h2;conv=>lhs;rw[h1]
   grind⟩
  exact zeo (zag g.holders frm).den_pos cR.2 (zgQ (zgR _) hI)
 refine⟨cR,zbZ Mc0 Mc0 bs,by grind,fun p hp hs=>?_⟩;have sF:=hG.good.pos p hp;have gB:p∈zas g.holders frm:=List.mem_filter.2 ⟨hp,by rw[hs];rfl⟩;have h1:=zcg (n:=frm) hG.good;have h2:=zgN (l:=zas g.holders frm) (fun q hq=>by have:=(zbK hG.good (n:=frm)).pos q hq;grind) p gB;refine⟨by grind,zbZ Mc0 Mc0 ?_⟩;have:=hG.small;unfold zaE at this;rw[List.any_eq_false]at this;simpa using this p hp
theorem sl_part{w:World}{b:Nat}{p:ByteArray×Rat}{t:TypeId}{fr:Nat×Nat}(h:w.heap[b]?=some (.cells #[.string p.1,.int .i64 p.2.num,.int .i64 p.2.den] t fr)):Sl w 3 zaa (some ⟨b,0,none⟩) [p]:=fun _=>⟨b,0,rfl,zab h,fun k y hy j u hu=>by
 have hk:k=0:=McK;subst hk;simp only[List.getElem?_cons_zero,Option.some.injEq]at hy;subst hy;match j,hu with
 |0,hu=>simp[zaa]at hu;simp[World.cell?,h,<-hu]
 |1,hu=>simp[zaa]at hu;simp[World.cell?,h,<-hu]
 |2,hu=>simp[zaa]at hu;simp[World.cell?,h,<-hu]
 |j+3,hu=>simp[zaa]at hu⟩
theorem sub1_any(q:Rat)(W:World)(hq:zaI q):Calls Tryz.prog 153 #[.agg #[.int .i64 1,.int .i64 1],.agg #[.int .i64 q.num,.int .i64 q.den]] W (Ret W (zaA (1-q))):=
 zh5 1 q W ⟨by decide,by decide⟩ hq
theorem zks(base b:Nat)(s:St)(la co last:Int)(d:Deed)(B:Option Addr)(c:Nat)(w:World)(hW:WldAt base w b s la co)(j9:GoodSt s last)(ag:s.graves.length<=1000)(cz:∀g∈s.graves,g.holders.length<=10000):
 Calls Tryz.prog 123 #[.pointer (some ⟨b,0,none⟩),d.v B c] w (zbH base b (zaZ s d) la co w):=by
 have ry:=fun i g h1 h2=>zkr (s:=s) (d:=d) (i:=i) (g:=g) h1 h2
 have am:=hW;obtain⟨Bk,dd,cc,pp,wl,rr,mv,tv,ps,ba,hC,hP,hT⟩:=hW;have dg:=zab hC;obtain⟨kd,dy,pl,fr,ts,cl,yr⟩:=d;simp only at*;obtain⟨bW,HW,HC,HP⟩:=yH4 (fun W (hB:Below w.heap.size w W)=>zjA base b s la co pl dy W (hC.keep hB) (hT.keep hB) Mcy) am hC hP;cases aU:zaR s pl dy with
 |none=>
  rw[aU]at bW;have HG:Hid (zaZ s ⟨kd,dy,pl,fr,ts,cl,yr⟩=(s,6)):=by show _=_;simp[zaZ,aU]
  clear aU ry am hC hP hT;unfold Deed.v;simp only;go_enter Tryz.func123,Tryz.ntmps123
  exact M9
 |some i=>
  obtain⟨T,g,gZ,iw,aO,bN,gR,km⟩:=zet hT aU;have ra:=j9.graves g (List.mem_of_getElem? aO);have s9:=cz g (List.mem_of_getElem? aO);have iP:=ry i g aU bN;have ig:∀W,Below w.heap.size w W->Calls Tryz.prog 31 #[.pointer (some ⟨b,0,none⟩),.string pl,.int .i64 dy] W (Ret W (.pointer (some ⟨T,0,none⟩))):=fun W hB=>by
   have:=bW.o W hB;exact MaM
  have kJ:=zHi ig;obtain⟨H,aN,D,dc,frm,t1,t2,t3,t4,t5,t6,t7⟩:=gR;have df:=zab t1;obtain⟨ez,qL,kQ,nt,g9,eb,HT,qD⟩:=yH8 t1 t5 t6 t7 iP ra hT gZ;clear ig bW t1 t5 t6 t7 iP ra hT gZ iw bN aO km aU ry j9 cz am hC hP;obtain⟨gpl,gcl,gfin,ghs,gdi⟩:=g;simp only at*;unfold zby at ez;have k4:w.cell? ⟨T,4,none⟩=some (.slice H ghs.length aN):=Md5;obtain⟨own,aa⟩:∃own,own=zag ghs fr:=⟨_,rfl⟩
  have g8:=zHi (fun W (hB:Below w.heap.size w W)=>zer ghs H aN T fr W ((hB.cell (p:=⟨T,4,none⟩) df).trans k4) (Nat.lt_of_lt_of_le df hB.size) Mcy eb.o.good.asc (Ro.sl zap (qL.o.keep hB)));have nM:own≠0->_:=fun h=>zlt eb.o (frm:=fr) (by rw[<-aa];exact h)
  have eI:=zHi nM;rw[<-aa]at g8 eI;have jw:=g9.o;clear g9 nM;simp only[<-aa,numZ]at jw;have g9:=zHi jw;clear jw;have dH:=zHi aa;clear aa;unfold zaA at g8;unfold Deed.v;simp only;go_enter Tryz.func123,Tryz.ntmps123
  go_upto_region 7 with(first
   |(go_at_call 31;refine(kJ.o _ Bw).mono ?_;rintro e wq ⟨rfl,z,rfl⟩)
   |(go_at_call 32;refine(g8.o _ Bw).mono ?_;rintro e wq ⟨rfl,z2,rfl⟩))
  all_goals(try(go_ret;exact zbN HW.o Bw (by rw[g9.o];simp[*];done)))
  have um:(own.num==0)=false:=Mc8;have xO:own≠0:=fun e=>by rw[e]at um;exact absurd um McA
  obtain⟨iv,xv,jt,ei⟩:=eI.o xO;have HG:Hid (zaZ s ⟨kd,dy,pl,fr,ts,cl,yr⟩=if(surF fr (1-own) ghs ([],false)).2 then(s,8)else(s.withGrave i ⟨gpl,gcl,gfin,(surF fr (1-own) ghs ([],false)).1,gdi⟩,0)):=by
   show _=_;rw[g9.o];simp[*];done
  have kP:=zHi ei;clear g9 kJ g8 eI ei;generalize ko:1-own=lf at*;have yU:=zHi ko;clear ko;go_cut [5,6,7]from 8 (fun v5 v6 v7 wc=>v5=.pointer (some ⟨T,0,none⟩)/\∃O C,v6=.pointer (some ⟨O,0,none⟩)/\v7=.pointer (some ⟨C,0,none⟩)/\Below w.heap.size w wc/\w.heap.size<O/\O<C/\C+1=wc.heap.size/\wc.heap[w.heap.size]?=some (.cells #[.int .i64 kd,.int .i64 dy,.string pl,.string fr,.slice B ts.length c,.int .i64 cl,.int .i64 yr] 76)/\wc.heap[O]?=some (zbu own)/\MarkAt wc C false)
  case first=>
   go_wp2_with fail
   go_meet
   refine⟨rfl,_,_,rfl,rfl,Bw,by omega,?_,?_,?_,?_,?_⟩
   ·exact Ma8
   ·exact Ma8
   ·exact MbA
   ·exact Mbs
   ·exact zar _ _ _ MdO
  case rest=>
   obtain⟨rfl,O,C,rfl,rfl,hB,hO,hC,hCs,g0,g1,hm⟩:=hcut;obtain⟨W0,rfl⟩:∃x,x=wc:=⟨_,rfl⟩
   have t1:=(hB.block T df).trans ez.o;obtain⟨m0,m1,m2,m3,m4,m5⟩:=cF6 t1;have JH:T<W0.heap.size:=zab t1;have JC:T≠W0.heap.size:=Mcy;have o0:W0.cell? ⟨O,0,none⟩=some (.int .i64 own.num):=by simp only[World.cell?,g1,zbu];rfl
   have o1:W0.cell? ⟨O,1,none⟩=some (.int .i64 own.den):=by simp only[World.cell?,g1,zbu];rfl
   have vU:O<W0.heap.size:=Mcy;have Ff:O≠W0.heap.size:=Mcy;obtain⟨G0,HM,II,eH⟩:=yH4 g0 hm t1 (fun W=>sub1_any own W iv);rw[yU.o]at eH;clear g0 g1 t1 hm;go_wp2_with (go_at_call 153;refine(eH.o _).mono ?_;rintro e wq ⟨rfl,z,rfl⟩;simp only[zaA])
   generalize hLL:W0.heap.size+1+z.os.size=L at*;have lL:=zHi hLL;have zv:W0.heap.size<L:=Mcy;clear hLL m0 m1 m2 m3 m4 m5 o0 o1;go_loopw [39] (fun i wr=>∃(k:Nat) (v:Value) (out:Parts) (fl:Bool),k<=ghs.length/\i=.int .i64 k/\Hid ((out,fl)=surF fr lf (ghs.take k) ([],false))/\MarkAt wr C fl/\zby wr W0.heap.size gpl gcl frm gfin v (.slice D gdi.length dc)/\OwnS wr W0.heap.size 71 3 zaa v out/\wr.heap[L]?=some (zbu lf)/\Below C W0 wr/\L<wr.heap.size) (fun i _=>ghs.length-(intOf i).toNat)
   case atStart=>
    refine⟨0,.slice none 0 0,[],false,Nat.zero_le _,rfl,rfl,?_,?_,OwnS.nil,?_,?_,?_⟩
    ·exact((HM.o.alloc _).ext z).alloc _
    ·exact zal (zbD (zar _ _ _ rfl))
    ·exact zar _ _ _ (by have:=lL.o;simp[zaf];omega)
    ·have ba:Below C W0 W0:=Below.refl _ _;exact zad (zbv (zad ba _ Mcy) _ Mcy) _ Mcy
    ·have:=lL.o;simp[zaf];omega
   case round=>
    obtain⟨k,v,out,fl,hk,rfl,HX,hm,cr,eh,mL,gN,aV⟩:=hrel;obtain⟨A1,c1,rfl,rl,jK⟩:=eh.sl zap;have dL:=zkq fr lf (ghs.take k) [] false;rw[<-HX.o]at dL;simp only[List.length_nil,Nat.zero_add,List.length_take]at dL;have tX:out.length<=10000:=Mcy;clear dL rl;have bk:Below w.heap.size w wr:=hB.trans (gN.mono Mcy);have yA:wr.cell? ⟨W0.heap.size,4,none⟩=some (.slice A1 out.length c1):=Mdi;have fx4:wr.frozen? ⟨W0.heap.size,4,none⟩=false:=by unfold zby at cr;simp only[World.frozen?,cr];rfl
    have fD:wr.cell? ⟨L,0,none⟩=some (.int .i64 lf.num):=by simp only[World.cell?,mL,zbu];rfl
    have fE:wr.cell? ⟨L,1,none⟩=some (.int .i64 lf.den):=by simp only[World.cell?,mL,zbu];rfl
    have e3:wr.cell? ⟨w.heap.size,3,none⟩=some (.string fr):=(zah gN Mcy).trans Md8;obtain⟨HM,fh,dR,jU,sY,b8⟩:=yH6 hm cr eh mL gN bk;clear hm cr eh mL gN;by_cases ae:k<ghs.length
    ·obtain⟨b',off,rfl,cJ,hc⟩:=(Ro.sl zap (qL.o.keep bk)).at ae;have aI:=surF_snoc fr lf ghs ([],false) ae;rw[<-HX.o]at aI;have sF:=kP.o ghs[k] (List.getElem_mem ae);generalize ghs[k]=p at*;obtain⟨pn,pq⟩:=p;have i0:wr.cell? ⟨b',off+k*3,none⟩=some (.string pn):=hc 0 _ rfl;have i1:wr.cell? ⟨b',off+k*3+1,none⟩=some (.int .i64 pq.num):=hc 1 _ rfl;have i2:wr.cell? ⟨b',off+k*3+2,none⟩=some (.int .i64 pq.den):=hc 2 _ rfl;obtain⟨dC,Iv⟩:=yH2 aI sF;have ar:(k:Int)<(ghs.length:Int):=Mcy;have aQ:(0:Int)<=(k:Int):=Mcy;have fq:(k:Int)<=(aN:Int):=Mcy;have cG:w.heap.size<wr.heap.size:=Mcy;have lj:w.heap.size≠wr.heap.size:=Mcy;have bM:W0.heap.size<wr.heap.size:=Mcy;have GK:W0.heap.size≠wr.heap.size:=Mcy;have hLn:L≠wr.heap.size:=Mcy;clear hc aI sF bk;by_cases hsb:pn.toList=fr.toList
     ·have eH:=zHi (zeb hsb);have dN:(pn.toList==fr.toList)=true:=by simpa using hsb
      have bn:(pn.toList != fr.toList)=false:=by simp[hsb]
      clear hsb;go_wp2_with fail
      go_round
      case rel=>
       have h1:=dC.o;rw[eH.o]at h1;exact⟨k+1,_,out,fl,by omega,by go_num,(h1.symm:_=_),HM.o.alloc _,zal fh.o,dR.o.keep (n:=wr.heap.size) (zad (Below.refl _ _) _),zal jU.o,zad sY.o _ Mcy,by simp;omega⟩
      case measure=>simp[intOf];omega
     ·have eH:=zHi (ze2 hsb);have dN:(pn.toList==fr.toList)=false:=by simpa using hsb
      have bn:(pn.toList != fr.toList)=true:=by simp[hsb]
      clear hsb;obtain⟨G9,xT⟩:=Iv.o eH.o;go_upto_region 15 with fail
      refine wp_region_held_drew (S:=(fun w'=>w'.cell? ⟨wr.heap.size,0,none⟩=some (.string pn)/\w'.cell? ⟨wr.heap.size,1,none⟩=some (.int .i64 pq.num)/\w'.cell? ⟨wr.heap.size,2,none⟩=some (.int .i64 pq.den)/\w'.cell? ⟨L,0,none⟩=some (.int .i64 lf.num)/\w'.cell? ⟨L,1,none⟩=some (.int .i64 lf.den))) Mcz ?hS ?hrest
      case hS=>((try dsimp only);refine⟨?_,?_,?_,?_,?_⟩<;>(simp[go_sem,fD,fE,aV];done))
      case hrest=>
       intro hHeld;refine TkH 0 ?_;refine TkH 2 ?_;refine TkH 3 ?_;refine TkH 4 ?_;refine TkH 5 ?_;refine TkH 6 ?_;refine wpAnyH_ready (rs:=[1,7]) Mcz McB (AllReadyH.cons (List.getElem?_toArray.trans rfl) (fun K hK=>?_) (AllReadyH.cons (List.getElem?_toArray.trans rfl) (fun K hK=>?_) AllReadyH.nil))
       ·go_simp
        refine hK.out _ _ ?_ (fun hHeld=>?_);focus((try dsimp only);refine⟨?_,?_,?_,?_,?_⟩<;>first|assumption|(simp[go_sem,fD,fE,aV];done)|(simp[go_sem,a0,a1,a2,l5,l6,yp,yL];done)|(simp[go_sem,z0,z1,z2,z5,z6,zx,zy];done))
        clear hK K;try simp only[Act.put,List.setIfInBounds_toArray,List.set_cons_zero,List.set_cons_succ]
        refine OnH 7 fun K hK=>?_
        go_simp
        refine(znM C fl _ ?q1 pq lf xT xv G9).mono ?_
        case q1=>(repeat(first|exact HM.o|refine MarkAt.drew ?_|refine MarkAt.alloc ?_ _))
        rintro e w5 ⟨rfl,n1,n2⟩;have dW:=n2.size;have y0:w5.heap[wr.heap.size]?=some (.cells #[.string pn,.int .i64 pq.num,.int .i64 pq.den] 71):=(n2.block _ McB McD).trans (zar _ _ _ rfl);obtain⟨a0,a1,a2⟩:=cF3 y0;have yL':w5.heap[L]?=some (zbu lf):=(n2.block _ McD McD).trans (zal jU.o);have l5:w5.cell? ⟨L,0,none⟩=some (.int .i64 lf.num):=MdA;have l6:w5.cell? ⟨L,1,none⟩=some (.int .i64 lf.den):=MdA;have yT:zby w5 W0.heap.size gpl gcl frm gfin (.slice A1 out.length c1) (.slice D gdi.length dc):=(n2.block _ McD McD).trans (zal fh.o);have y2:w5.cell? ⟨W0.heap.size,4,none⟩=some (.slice A1 out.length c1):=by unfold zby at yT;simp only[World.cell?,yT];rfl
        have yO:OwnS w5 W0.heap.size 71 3 zaa (.slice A1 out.length c1) out:=by refine OwnS.grown (hg:=n2) ?_ (.inr fun e=>by have:=(dR.o.ge _ e).1;omega);exact dR.o.keep (n:=wr.heap.size) Bw
        have yl:=zab yT;have yp:=zab y0;have yL:=zab yL';have yn:W0.heap.size≠w5.heap.size:=Mcy;have ypn:wr.heap.size≠w5.heap.size:=Mcy;obtain⟨YT,YO,YL,Y0,N1,N2⟩:=yH6 yT yO yL' y0 n1 n2;clear yT yO yL' n1 n2 y0;simp only[zaA];refine hK.out _ _ ?_ (fun hHeld=>?_);focus((try dsimp only);refine⟨?_,?_,?_,?_,?_⟩<;>first|assumption|(simp[go_sem,fD,fE,aV];done)|(simp[go_sem,a0,a1,a2,l5,l6,yp,yL];done)|(simp[go_sem,z0,z1,z2,z5,z6,zx,zy];done))
        clear hK K;try simp only[Act.put,List.setIfInBounds_toArray,List.set_cons_zero,List.set_cons_succ]
        refine TkH 8 ?_;refine OnH 9 fun K hK=>?_
        exact Mc
       ·go_simp
        refine(znM C fl _ ?q1 pq lf xT xv G9).mono ?_
        case q1=>(repeat(first|exact HM.o|refine MarkAt.drew ?_|refine MarkAt.alloc ?_ _))
        rintro e w5 ⟨rfl,n1,n2⟩;have dW:=n2.size;have y0:w5.heap[wr.heap.size]?=some (.cells #[.string pn,.int .i64 pq.num,.int .i64 pq.den] 71):=(n2.block _ McB McD).trans (zar _ _ _ rfl);obtain⟨a0,a1,a2⟩:=cF3 y0;have yL':w5.heap[L]?=some (zbu lf):=(n2.block _ McD McD).trans (zal jU.o);have l5:w5.cell? ⟨L,0,none⟩=some (.int .i64 lf.num):=MdA;have l6:w5.cell? ⟨L,1,none⟩=some (.int .i64 lf.den):=MdA;have yT:zby w5 W0.heap.size gpl gcl frm gfin (.slice A1 out.length c1) (.slice D gdi.length dc):=(n2.block _ McD McD).trans (zal fh.o);have y2:w5.cell? ⟨W0.heap.size,4,none⟩=some (.slice A1 out.length c1):=by unfold zby at yT;simp only[World.cell?,yT];rfl
        have yO:OwnS w5 W0.heap.size 71 3 zaa (.slice A1 out.length c1) out:=by refine OwnS.grown (hg:=n2) ?_ (.inr fun e=>by have:=(dR.o.ge _ e).1;omega);exact dR.o.keep (n:=wr.heap.size) Bw
        have yl:=zab yT;have yp:=zab y0;have yL:=zab yL';have yn:W0.heap.size≠w5.heap.size:=Mcy;have ypn:wr.heap.size≠w5.heap.size:=Mcy;obtain⟨YT,YO,YL,Y0,N1,N2⟩:=yH6 yT yO yL' y0 n1 n2;clear yT yO yL' n1 n2 y0;simp only[zaA];refine hK.out _ _ ?_ (fun hHeld=>?_);focus((try dsimp only);refine⟨?_,?_,?_,?_,?_⟩<;>first|assumption|(simp[go_sem,fD,fE,aV];done)|(simp[go_sem,a0,a1,a2,l5,l6,yp,yL];done)|(simp[go_sem,z0,z1,z2,z5,z6,zx,zy];done))
        clear hK K;try simp only[Act.put,List.setIfInBounds_toArray,List.set_cons_zero,List.set_cons_succ]
        refine TkH 8 ?_;refine wpAnyH_ready (rs:=[1,9]) Mcz McB (AllReadyH.cons (List.getElem?_toArray.trans rfl) (fun K hK=>?_) (AllReadyH.cons (List.getElem?_toArray.trans rfl) (fun K hK=>?_) AllReadyH.nil))
        ·go_simp
         refine hK.out _ _ ?_ (fun hHeld=>?_);focus((try dsimp only);refine⟨?_,?_,?_,?_,?_⟩<;>first|assumption|(simp[go_sem,fD,fE,aV];done)|(simp[go_sem,a0,a1,a2,l5,l6,yp,yL];done)|(simp[go_sem,z0,z1,z2,z5,z6,zx,zy];done))
         clear hK K;try simp only[Act.put,List.setIfInBounds_toArray,List.set_cons_zero,List.set_cons_succ]
         refine OnH 9 fun K hK=>?_
         exact Mc
        ·go_simp
         refine hK.out _ _ ?_ (fun hHeld=>?_);focus((try dsimp only);refine⟨?_,?_,?_,?_,?_⟩<;>first|assumption|(simp[go_sem,fD,fE,aV];done)|(simp[go_sem,a0,a1,a2,l5,l6,yp,yL];done)|(simp[go_sem,z0,z1,z2,z5,z6,zx,zy];done))
         clear hK K;try simp only[Act.put,List.setIfInBounds_toArray,List.set_cons_zero,List.set_cons_succ]
         refine OnH 1 fun K hK=>?_
         exact Mc
    ·have ar:¬(k:Int)<(ghs.length:Int):=Mcy;have jP:(out,fl)=surF fr lf ghs ([],false):=by rw[HX.o,List.take_of_length_le Mcy]
     have jk:=(bk.block T df).trans ez.o;have mZ:=zHi jk;have iE:wr.cell? ⟨C,0,none⟩=some (.bool fl):=(zbS HM.o).1;have gH:=HG.o;rw[<-jP]at gH;clear jP HX eb bk fD fE e3;cases fl
     ·have tj:=zHi gH;have cr:=fh.o;unfold zby at cr;obtain⟨n0,n1,n2,n3,-,n5⟩:=cF6 cr;obtain⟨z0,z1,z2,z3,z4,z5⟩:=cF6 jk;have fz:∀j,wr.frozen? ⟨T,j,none⟩=false:=fun j=>by simp only[World.frozen?,jk];rfl
      clear gH cr jk;go_wp2_with fail
      go_ret
      have bk:=b8.o;have dX:Ro wr 71 zaa A1 out:=dR.o.ro';have hN:TombAt ((((((wr.setCell ⟨T,0,none⟩ (.string gpl)).setCell ⟨T,1,none⟩ (.int .i64 gcl)).setCell ⟨T,2,none⟩ (.int .i64 frm)).setCell ⟨T,3,none⟩ (.int .i64 gfin)).setCell ⟨T,4,none⟩ (.slice A1 out.length c1)).setCell ⟨T,5,none⟩ (.slice D gdi.length dc)) base Bk T ⟨gpl,gcl,gfin,out,gdi⟩:=
       ⟨A1,c1,D,dc,frm,zi0 mZ.o _ _ _ _ _ _,t2,jK,t4,dX.kept (zca _ _ _ _ _ _ _ _) mZ.o McA,(kQ.o.keep bk).kept (zca _ _ _ _ _ _ _ _) mZ.o McA,nt.o⟩
      have aq:=ziz ba (HC.o.keep bk) (HP.o.keep bk) (HT.o.keep bk) qD.o mZ.o (zca wr T _ _ _ _ _ _) hN;have cE:Below base w wr:=bk.mono Mcy;have jh:=zaQ cE (zca wr T (.string gpl) (.int .i64 gcl) (.int .i64 frm) (.int .i64 gfin) (.slice A1 out.length c1) (.slice D gdi.length dc)) t2 Mcy;have bf:zaZ s ⟨kd,dy,pl,fr,ts,cl,yr⟩=(s.withGrave i ⟨gpl,gcl,gfin,out,gdi⟩,0):=tj.o.trans (if_neg McB);exact MaP
     ·exact MaS
def HeirAt(W:World)(h b:Nat)(law:Law)(who:ByteArray)(C m:Nat):Prop:=
 W.heap[h]?=some (.cells #[.pointer (some ⟨b,0,none⟩),.int .i64 law.frm,.bool law.stems,.int .i64 law.num,.int .i64 law.den,.string who,.pointer (some ⟨C,0,none⟩),.map (some m)] 223)
def zi5(s:St)(n frm:ByteArray):Bool:=!zae n frm&&!zaJ s n&&!s.renounce.any (fun r=>zae r.1 n&&zae r.2 frm)
theorem able_q(s:St)(n frm:ByteArray):zdT s n frm=(!noB n&&zi5 s n frm):=by
 unfold zdT zi5;simp only[Bool.and_assoc]
theorem zkt(base b h C m:Nat)(s:St)(law:Law)(who n:ByteArray)(w:World)(hW:PeoAt base w b s)(hH:HeirAt w h b law who C m):
 Calls Tryz.prog 180 #[.pointer (some ⟨h,0,none⟩),.string n] w (Ret w (.bool (zi5 s n who))):=by
 obtain⟨B,d,c,p,wl,r,mv,tv,la,co,h1,h2⟩:=hW;have hb:=zab h1;have hh:=zab hH;unfold WldC at h1;unfold HeirAt at hH;obtain⟨c0,-,-,-,-,c5⟩:=cF6 h1;obtain⟨e0,-,-,-,-,e5⟩:=cF6 hH;have dK:∀q',(Instr.lookup 84 (.map (some d)) (.string n) false).run Tryz.prog (w.drewN q')=.ok (.bool (zaJ s n)) (w.drewN q'):=fun q'=>zdc (h2.drewN q') _
 have cK:∀q',(Instr.lookup 87 (.map (some r)) (.agg #[.string n,.string who]) false).run Tryz.prog (w.drewN q')=.ok (.bool (s.renounce.any fun x=>zae x.1 n&&zae x.2 who)) (w.drewN q'):=fun q'=>znJ (h2.drewN q') _ _
 have hU:zi5 s n who=(!zae n who&&!zaJ s n&&!(s.renounce.any fun x=>zae x.1 n&&zae x.2 who)):=rfl;have HU:=zHi hU;clear hU;generalize zi5 s n who=R at*;generalize zaJ s n=dd at*;generalize(s.renounce.any fun x=>zae x.1 n&&zae x.2 who)=rr at*;have cR:zae n who=(n.toList==who.toList):=rfl;rw[cR]at HU;clear h1 h2 hH cR;go_enter Tryz.func180,Tryz.ntmps180
 cases hn:(n.toList==who.toList)
 ·have dW:(n.toList != who.toList)=true:=by rw[bne,hn];rfl
  rw[hn]at HU;cases dd
  ·exact Mas
  ·exact Mas
 ·have dW:(n.toList != who.toList)=false:=by rw[bne,hn];rfl
  rw[hn]at HU;exact Mas
def HasAt(W:World)(m:Nat)(out:Parts):Prop:=
 ∃mm:List (ByteArray×Value),MapS W m ekS (fun v:Value=>v) mm/\(mm.map (·.1)).Nodup/\∀n,(mget eqS n mm=none/\zag out n=0)\/mget eqS n mm=some (zaA (zag out n))
theorem HasAt.keep{n m:Nat}{W W':World}{out:Parts}(h:HasAt W m out)(hB:Below n W W')(hn:W.heap.size<=n:=by first|exact Nat.le_refl _|omega):HasAt W' m out:=by
 obtain⟨mm,h1,h2,h3⟩:=h;exact⟨mm,h1.below hB hn,h2,h3⟩
theorem HasAt.block{m:Nat}{W W':World}{out:Parts}(h:HasAt W m out)(hb:W'.heap[m]?=W.heap[m]?):HasAt W' m out:=by
 obtain⟨mm,h1,h2,h3⟩:=h;exact⟨mm,h1.keep hb,h2,h3⟩
theorem HasAt.lt{m:Nat}{W:World}{out:Parts}(h:HasAt W m out):m<W.heap.size:=by
 obtain⟨mm,h1,h2,h3⟩:=h;exact h1.at.lt
structure Two2 (w w':World) (C m:Nat):Prop where
 below:∀n,n<=C->n<=m->n<=w.heap.size->Below n w w'
 others:∀k,k<w.heap.size->k≠C->k≠m->w'.heap[k]?=w.heap[k]?
 size:w.heap.size<=w'.heap.size
theorem Two2.of_below{w w':World}{C m:Nat}(h:Below w.heap.size w w'):Two2 w w' C m:=⟨fun n _ _ hn=>h.mono hn,fun k hk _ _=>h.block k hk,h.size⟩
theorem Two2.trans{a b c:World}{C m:Nat}(h:Two2 a b C m)(k:Two2 b c C m):Two2 a c C m:=
 ⟨fun n h1 h2 h3=>(h.below n h1 h2 h3).trans (k.below n h1 h2 (Nat.le_trans h3 h.size)),fun i hi h1 h2=>(k.others i (Nat.lt_of_lt_of_le hi h.size) h1 h2).trans (h.others i hi h1 h2),Nat.le_trans h.size k.size⟩
theorem Two2.grownC{w w':World}{C m:Nat}(h:w.grownBy w' (some C)):Two2 w w' C m:=
 ⟨fun n h1 _ hn=>zaQ (Below.refl _ _) h h1 hn,fun k hk h1 _=>h.block k hk (fun e=>h1 MdJ),h.size⟩
theorem Two2.grownM{w w':World}{C m:Nat}(h:w.grownBy w' (some m)):Two2 w w' C m:=
 ⟨fun n _ h1 hn=>zaQ (Below.refl _ _) h h1 hn,fun k hk _ h1=>h.block k hk (fun e=>h1 MdJ),h.size⟩
def zlu(w:World)(C m:Nat)(x:Parts×Bool)(e:Ending)(w':World):Prop:=e=.returned (.tuple #[])/\HasAt w' m x.1/\MarkAt w' C x.2/\Two2 w w' C m
theorem zdd{P:Program}{ops:Array Oper}{o:Oper}{a:Act}{w:World}{K:Act->World->Prop}{Q:Exit->Act->World->Prop}{E:Prop}{T:TypeId}(bN:o.guard=none)(x i u:Operand)(ho:o.op=.mapUpdate T x i u)(vx vi vu:Value)(hx:a.eval x=vx)(hi:a.eval i=vi)(hu:a.eval u=vu)(w':World)
 (hrun:(Instr.mapUpdate T vx vi vu).run P w=.ok () w')(h:K (a.put o.dst undef) w'):if Region.wanted o (yielded ops a.tmps)=true then Oper.wp P o a w K Q else E:=by
 exact M8
theorem zgt(b h C m:Nat)(law:Law)(who n:ByteArray)(f:Rat)(out:Parts)(fl:Bool)(w:World)(hH:HeirAt w h b law who C m)(hM:MarkAt w C fl)(hS:HasAt w m out)(nH:h≠C)(pM:h≠m)(tB:C≠m)(hg:GoodParts out)(hs:zaI (zag out n))(hf:zaI f):
 Calls Tryz.prog 181 #[.pointer (some ⟨h,0,none⟩),.string n,.agg #[.int .i64 f.num,.int .i64 f.den]] w (zlu w C m (zcR n f (out,fl))):=by
 have hh:=zab hH;have vF:=zab hM;have ft:=hS.lt;obtain⟨mm,bO,cW,iq⟩:=hS;unfold HeirAt at hH;obtain⟨-,-,-,-,-,-,e6,e7⟩:=cF8 hH;obtain⟨HG,uK,kN,HM,pg⟩:=yH5 hg iq cW hM bO;have zW:h≠w.heap.size:=Mcy;have Ki:h≠w.heap.size+1:=Mcy;generalize nN:zag out n=sv at*;have g8:=zHi nN;have dV:∀o,(Instr.lookup 221 (.map (some m)) (.string n) true).run Tryz.prog (w.alloc o)=.ok (.tuple #[(mget eqS n mm).getD (.agg #[.int .i64 0,.int .i64 0]),.bool (mget eqS n mm).isSome]) (w.alloc o):=fun o=>zjX mapSF (bO.below (n:=w.heap.size) (zad (Below.refl _ _) o)).at n
 have eQ:=iq n;rw[nN]at eQ;have h0:(sv=0/\mget eqS n mm=none)\/mget eqS n mm=some (zaA sv):=by
  rcases eQ with⟨a,b⟩|a
  ·exact .inl ⟨b,a⟩
  ·exact .inr a
 clear hH hM bO cW iq hg nN eQ;go_enter Tryz.func181,Tryz.ntmps181
 rcases h0 with⟨rfl,h0⟩|h0
 ·rw[h0]at dV;simp only[Option.getD_none,Option.isSome_none]at dV;clear h0;go_upto_region 4 with fail
  refine wp_region_held_drew (S:=(fun w'=>w'.cell? ⟨h,6,none⟩=some (.pointer (some ⟨C,0,none⟩))/\w'.cell? ⟨h,7,none⟩=some (.map (some m))/\w'.cell? ⟨w.heap.size,0,none⟩=some (.int .i64 f.num)/\w'.cell? ⟨w.heap.size,1,none⟩=some (.int .i64 f.den)/\w'.cell? ⟨w.heap.size+1,0,none⟩=some (.int .i64 (0))/\w'.cell? ⟨w.heap.size+1,1,none⟩=some (.int .i64 (1)))) Mcz ?hS ?hrest
  case hS=>((try dsimp only);refine⟨?_,?_,?_,?_,?_,?_⟩<;>(simp[go_sem,e6,e7,hh];done))
  case hrest=>
   intro hHeld;refine TkH 0 ?_;refine TkH 1 ?_;refine TkH 2 ?_;refine TkH 3 ?_;refine TkH 4 ?_;refine TkH 5 ?_;refine TkH 6 ?_;refine TkH 7 ?_;refine TkH 8 ?_;refine TkH 9 ?_;refine TkH 10 ?_;refine OnH 11 fun K hK=>?_
   go_simp
   refine(zhF C fl _ ?q1 (0) f hs hf).mono ?_
   case q1=>(repeat(first|exact HM.o|refine MarkAt.drew ?_|refine MarkAt.alloc ?_ _))
   rintro e w5 ⟨rfl,n1,n2⟩;have dW:=n2.size;have p6:w5.cell? ⟨h,6,none⟩=some (.pointer (some ⟨C,0,none⟩)):=(zbb n2 McD nH).trans MeA;have p7:w5.cell? ⟨h,7,none⟩=some (.map (some m)):=(zbb n2 McD nH).trans (by simp[go_sem,e7,hh]);have p0:w5.cell? ⟨w.heap.size,0,none⟩=some (.int .i64 f.num):=(zbb n2 McD Mcy).trans Mc3;have p1:w5.cell? ⟨w.heap.size,1,none⟩=some (.int .i64 f.den):=(zbb n2 McD Mcy).trans Mc3;have p2:w5.cell? ⟨w.heap.size+1,0,none⟩=some (.int .i64 (0)):=(zbb n2 McB Mcy).trans Mc3;have p3:w5.cell? ⟨w.heap.size+1,1,none⟩=some (.int .i64 (1)):=(zbb n2 McB Mcy).trans Mc3;have xy:MapS w5 m ekS (fun v:Value=>v) mm:=(pg.o.below (n:=w.heap.size) Bw).grown n2 (by simpa using fun e=>tB e.symm);obtain⟨nY,N1,N2⟩:=yH3 xy n1 n2;clear n1 n2 xy;simp only[zaA];refine hK.out _ _ ?_ (fun hHeld=>?_);focus((try dsimp only);refine⟨?_,?_,?_,?_,?_,?_⟩<;>assumption)
   clear hK K;try simp only[Act.put,List.setIfInBounds_toArray,List.set_cons_zero,List.set_cons_succ]
   refine OnH 12 fun K hK=>?_
   obtain⟨w6,hrun,iI,bC,ku⟩:=zbY mapSF nY.o n (zaA (zbg (0+f)));refine zdd rfl _ _ _ rfl _ _ _ rfl rfl rfl w6 hrun ?_;have sr:w.heap.size+1<w5.heap.size:=Md1;have q6:w6.cell? ⟨h,6,none⟩=some (.pointer (some ⟨C,0,none⟩)):=(zbb bC Mcy pM).trans p6;have q7:w6.cell? ⟨h,7,none⟩=some (.map (some m)):=(zbb bC Mcy pM).trans p7;have q0:w6.cell? ⟨w.heap.size,0,none⟩=some (.int .i64 f.num):=(zbb bC Mcy Mcy).trans p0;have q1:w6.cell? ⟨w.heap.size,1,none⟩=some (.int .i64 f.den):=(zbb bC Mcy Mcy).trans p1;have q2:w6.cell? ⟨w.heap.size+1,0,none⟩=some (.int .i64 (0)):=(zbb bC Mcy Mcy).trans p2;have q3:w6.cell? ⟨w.heap.size+1,1,none⟩=some (.int .i64 (1)):=(zbb bC Mcy Mcy).trans p3;exact MC
 ·rw[h0]at dV;simp only[Option.getD_some,Option.isSome_some,zaA]at dV;clear h0;go_upto_region 4 with fail
  refine wp_region_held_drew (S:=(fun w'=>w'.cell? ⟨h,6,none⟩=some (.pointer (some ⟨C,0,none⟩))/\w'.cell? ⟨h,7,none⟩=some (.map (some m))/\w'.cell? ⟨w.heap.size,0,none⟩=some (.int .i64 f.num)/\w'.cell? ⟨w.heap.size,1,none⟩=some (.int .i64 f.den)/\w'.cell? ⟨w.heap.size+1,0,none⟩=some (.int .i64 (sv.num))/\w'.cell? ⟨w.heap.size+1,1,none⟩=some (.int .i64 (sv.den)))) Mcz ?hS ?hrest
  case hS=>((try dsimp only);refine⟨?_,?_,?_,?_,?_,?_⟩<;>(simp[go_sem,e6,e7,hh];done))
  case hrest=>
   intro hHeld;refine TkH 0 ?_;refine TkH 1 ?_;refine TkH 2 ?_;refine TkH 3 ?_;refine TkH 4 ?_;refine TkH 5 ?_;refine TkH 6 ?_;refine TkH 7 ?_;refine TkH 8 ?_;refine TkH 9 ?_;refine TkH 10 ?_;refine OnH 11 fun K hK=>?_
   go_simp
   refine(zhF C fl _ ?q1 (sv) f hs hf).mono ?_
   case q1=>(repeat(first|exact HM.o|refine MarkAt.drew ?_|refine MarkAt.alloc ?_ _))
   rintro e w5 ⟨rfl,n1,n2⟩;have dW:=n2.size;have p6:w5.cell? ⟨h,6,none⟩=some (.pointer (some ⟨C,0,none⟩)):=(zbb n2 McD nH).trans MeA;have p7:w5.cell? ⟨h,7,none⟩=some (.map (some m)):=(zbb n2 McD nH).trans (by simp[go_sem,e7,hh]);have p0:w5.cell? ⟨w.heap.size,0,none⟩=some (.int .i64 f.num):=(zbb n2 McD Mcy).trans Mc3;have p1:w5.cell? ⟨w.heap.size,1,none⟩=some (.int .i64 f.den):=(zbb n2 McD Mcy).trans Mc3;have p2:w5.cell? ⟨w.heap.size+1,0,none⟩=some (.int .i64 (sv.num)):=(zbb n2 McB Mcy).trans Mc3;have p3:w5.cell? ⟨w.heap.size+1,1,none⟩=some (.int .i64 (sv.den)):=(zbb n2 McB Mcy).trans Mc3;have xy:MapS w5 m ekS (fun v:Value=>v) mm:=(pg.o.below (n:=w.heap.size) Bw).grown n2 (by simpa using fun e=>tB e.symm);obtain⟨nY,N1,N2⟩:=yH3 xy n1 n2;clear n1 n2 xy;simp only[zaA];refine hK.out _ _ ?_ (fun hHeld=>?_);focus((try dsimp only);refine⟨?_,?_,?_,?_,?_,?_⟩<;>assumption)
   clear hK K;try simp only[Act.put,List.setIfInBounds_toArray,List.set_cons_zero,List.set_cons_succ]
   refine OnH 12 fun K hK=>?_
   obtain⟨w6,hrun,iI,bC,ku⟩:=zbY mapSF nY.o n (zaA (zbg (sv+f)));refine zdd rfl _ _ _ rfl _ _ _ rfl rfl rfl w6 hrun ?_;have sr:w.heap.size+1<w5.heap.size:=Md1;have q6:w6.cell? ⟨h,6,none⟩=some (.pointer (some ⟨C,0,none⟩)):=(zbb bC Mcy pM).trans p6;have q7:w6.cell? ⟨h,7,none⟩=some (.map (some m)):=(zbb bC Mcy pM).trans p7;have q0:w6.cell? ⟨w.heap.size,0,none⟩=some (.int .i64 f.num):=(zbb bC Mcy Mcy).trans p0;have q1:w6.cell? ⟨w.heap.size,1,none⟩=some (.int .i64 f.den):=(zbb bC Mcy Mcy).trans p1;have q2:w6.cell? ⟨w.heap.size+1,0,none⟩=some (.int .i64 (sv.num)):=(zbb bC Mcy Mcy).trans p2;have q3:w6.cell? ⟨w.heap.size+1,1,none⟩=some (.int .i64 (sv.den)):=(zbb bC Mcy Mcy).trans p3;exact MC
abbrev Ln:=ByteArray×Option Addr×Nat×Nat
def lnC(e:Ln):List Value:=[.string e.1,.slice e.2.1 e.2.2.1 e.2.2.2]
theorem zjC(e:Ln):(lnC e).length=2:=rfl
theorem ln_one(e:Ln):∀u∈lnC e,u.oneCell'=true:=by simp[lnC,Value.oneCell']
theorem elLine:ElTy Tryz.prog 224 234 2 40:=zd4 (z:=.agg #[.string ⟨#[]⟩,.slice none 0 0]) Mcz Mcz rfl McA
def ItemsN(W:World)(Q:Nat->Prop):Nat->List Ln->List Tree->Prop
 |0,es,l=>es=[]/\l=[]
 |f+1,es,l=>es.length=l.length/\∀(k:Nat) (e:Ln) (t:Tree),es[k]?=some e->l[k]?=some t->(∃n,t=.leaf n/\e=(n,none,0,0))\/
   ∃l' A c es',t=.node l'/\e=(⟨#[]⟩,some A,l'.length,c)/\l'.length<=c/\l'≠[]/\Q A.block/\Ro W 234 lnC (some A) es'/\ItemsN W Q f es' l'
theorem ItemsN.len{W:World}{Q:Nat->Prop}{f:Nat}{es:List Ln}{l:List Tree}(h:ItemsN W Q f es l):es.length=l.length:=by
 cases f with
 |zero=>rw[h.1,h.2];rfl
 |succ f=>exact h.1
theorem ItemsN.turn{W W':World}{Q Q':Nat->Prop}(hb:∀k,k<W.heap.size->Q k->W'.heap[k]?=W.heap[k]?)(hq:∀k,k<W.heap.size->Q k->Q' k):∀ {f:Nat} {es:List Ln} {l:List Tree},ItemsN W Q f es l->ItemsN W' Q' f es l
 |0,_,_,h=>h
 |f+1,es,l,h=>⟨h.1,fun k e t h1 h2=>by
  rcases h.2 k e t h1 h2 with h3|⟨l',A,c,es',h3,h4,h5,h6,hQ,h7,h8⟩
  ·exact .inl h3
  ·have cY:0<es'.length:=by
    rw[h8.len];exact List.length_pos_iff.2 h6
   obtain⟨b,off,cur,fr,hA,rR,hx⟩:=h7 cY;have vB:A=⟨b,off,none⟩:=by simpa using hA
   subst vB;have ae:b<W.heap.size:=(Array.getElem?_eq_some_iff.1 rR).1
   exact .inr ⟨l',_,c,es',h3,h4,h5,h6,hq b ae hQ,fun _=>⟨b,off,cur,fr,rfl,(hb b ae hQ).trans rR,hx⟩,ItemsN.turn hb hq h8⟩⟩
theorem ItemsN.keep{n:Nat}{W W':World}{Q:Nat->Prop}{f:Nat}{es:List Ln}{l:List Tree}(h:ItemsN W Q f es l)(hB:Below n W W')(hn:W.heap.size<=n:=by first|exact Nat.le_refl _|omega):ItemsN W' Q f es l:=
 h.turn (fun k hk _=>hB.block k (Nat.lt_of_lt_of_le hk hn)) (fun _ _ h=>h)
theorem ItemsN.snoc{W:World}{Q:Nat->Prop}{f:Nat}{es:List Ln}{l:List Tree}{e:Ln}{t:Tree}(h:ItemsN W Q (f+1) es l)(ht:(∃n,t=.leaf n/\e=(n,none,0,0))\/
 ∃l' A c es',t=.node l'/\e=(⟨#[]⟩,some A,l'.length,c)/\l'.length<=c/\l'≠[]/\Q A.block/\Ro W 234 lnC (some A) es'/\ItemsN W Q f es' l'):ItemsN W Q (f+1) (es++[e]) (l++[t]):=by
 refine⟨by simp[h.1],fun k x y h1 h2=>?_⟩;by_cases hk:k<es.length
 ·rw[List.getElem?_append_left hk]at h1;rw[List.getElem?_append_left (by rw[<-h.1];exact hk)]at h2;exact h.2 k x y h1 h2
 ·have fQ:k=es.length:=by have:=(List.getElem?_eq_some_iff.1 h1).1;simp at this;omega
  subst fQ;rw[List.getElem?_append_right (Nat.le_refl _)]at h1;rw[h.1,List.getElem?_append_right (Nat.le_refl _)]at h2;simp at h1 h2;subst h1 h2;exact ht
def Deep(s:St):Nat->ByteArray->Prop
 |0,_=>False
 |f+1,n=>∀c∈zai s n,Deep s f c
def zcS(s:St)(stems:Bool)(frm:ByteArray)(f:Nat)(c:ByteArray):Option Tree:=
 if zdT s c frm then some (.leaf c)else if stems&&!(zb2 s stems frm f c).isEmpty then some (.node (zb2 s stems frm f c))else none
theorem zf0(s:St)(stems:Bool)(frm:ByteArray)(f:Nat)(n:ByteArray):zb2 s stems frm (f+1) n=(zai s n).filterMap (zcS s stems frm f):=rfl
theorem zjm{α β:Type}(g:α->Option β)(l:List α){k:Nat}(h:k<l.length):(l.take (k+1)).filterMap g=(l.take k).filterMap g++(g l[k]).toList:=by
 rw[List.take_succ_eq_append_getElem h,List.filterMap_append];cases hg:g l[k]<;>simp[List.filterMap,hg]
def LinesPost(w:World)(f:Nat)(l:List Tree)(e:Ending)(w':World):Prop:=
 ∃v es,e=.returned v/\OwnS w' w.heap.size 234 2 lnC v es/\ItemsN w' (fun k=>w.heap.size<=k) f es l/\Below w.heap.size w w'/\es.length<=1000
theorem sl_ln{w:World}{b:Nat}{e:Ln}{t:TypeId}{fr:Nat×Nat}(h:w.heap[b]?=some (.cells #[.string e.1,.slice e.2.1 e.2.2.1 e.2.2.2] t fr)):Sl w 2 lnC (some ⟨b,0,none⟩) [e]:=fun _=>⟨b,0,rfl,zab h,fun k y hy j u hu=>by
 have hk:k=0:=McK;subst hk;simp only[List.getElem?_cons_zero,Option.some.injEq]at hy;subst hy;match j,hu with
 |0,hu=>simp[lnC]at hu;simp[World.cell?,h,<-hu]
 |1,hu=>simp[lnC]at hu;simp[World.cell?,h,<-hu]
 |j+2,hu=>simp[lnC]at hu⟩
theorem HeirAt.keep{n h b C m:Nat}{W W':World}{law:Law}{who:ByteArray}(hh:HeirAt W h b law who C m)(hB:Below n W W')(hn:W.heap.size<=n:=by first|exact Nat.le_refl _|omega):HeirAt W' h b law who C m:=
 (hB.block h (Nat.lt_of_lt_of_le (zab hh) hn)).trans hh
theorem zlv(base b h C m:Nat)(s:St)(law:Law)(who:ByteArray)(js:∀c∈s.children,noB c.2=false)(hl:s.children.length<=1000):∀(f:Nat) (n:ByteArray) (w:World),PeoAt base w b s->HeirAt w h b law who C m->Deep s f n->
 Calls Tryz.prog 182 #[.pointer (some ⟨h,0,none⟩),.string n] w (LinesPost w f (zb2 s law.stems who f n))
 |0,n,w,_,_,hd=>hd.elim
 |f+1,n,w,hW,hH,hd=>by
  obtain⟨IH,HW,HH⟩:=yH3 (fun(c:ByteArray) (W:World) (hc:c∈zai s n) (h1:PeoAt base W b s) (h2:HeirAt W h b law who C m)=>zlv base b h C m s law who js hl f c W h1 h2 (hd c hc)) hW hH;obtain⟨B,d,c,p,wl,r,mv,tv,la,co,h1,h2⟩:=hW;have hb:=zab h1;have hh:=zab hH;unfold WldC at h1;unfold HeirAt at hH;obtain⟨-,c1⟩:=cF2 h1;obtain⟨e0,-,e2⟩:=cF3 hH;obtain⟨KA,kc,dV,fq,fO⟩:=ziw h2 n;have xo:=dV w (Below.refl _ _);rw[zf0];have bV:(zai s n).length<=1000:=by
   exact Mbg
  obtain⟨Im,fg⟩:=yH2 (fun c (hc:c∈zai s n)=>js (n,c) (zds.1 hc)) fO;generalize fC:zai s n=ks at*;clear h1 h2 hH dV fO hd fC;go_enter Tryz.func182,Tryz.ntmps182
  go_wp2_with fail
  go_loopw [5,19] (fun v i wr=>∃(k:Nat) (es:List Ln),k<=ks.length/\i=.int .i64 k/\OwnS wr w.heap.size 234 2 lnC v es/\Hid (ItemsN wr (fun j=>w.heap.size<=j/\za5 v≠some j) (f+1) es ((ks.take k).filterMap (zcS s law.stems who f)))/\Below w.heap.size w wr/\es.length<=k) (fun _ i _=>ks.length-(intOf i).toNat)
  case atStart=>exact⟨0,[],Nat.zero_le _,rfl,OwnS.nil,⟨rfl,fun k e t h1=>by simp at h1⟩,Below.refl _ _,Nat.le_refl _⟩
  case round=>
   obtain⟨k,es,hk,rfl,aa,HI,hB,hel⟩:=hrel;obtain⟨VA,vc,rfl,jb,kB⟩:=aa.sl zjC;clear jb;have HO:=zHi aa;by_cases ae:k<ks.length
   ·obtain⟨b',off,rfl,cJ,hc⟩:=(fg.o.keep hB).at ae;have oE:=zjm (zcS s law.stems who f) ks ae;have bD:ks[k]∈ks:=List.getElem_mem ae;have fS:=Im.o ks[k] bD;have bH:=fun W=>IH.o ks[k] W bD
    generalize ks[k]=ch at*;have i0:wr.cell? ⟨b',off+k,none⟩=some (.string ch):=Mdr;obtain⟨HF,HC⟩:=yH2 oE bH;have cI:zcS s law.stems who f ch=if zi5 s ch who then some (.leaf ch)else if law.stems&&!(zb2 s law.stems who f ch).isEmpty then some (.node (zb2 s law.stems who f ch))else none:=by
     unfold zcS;rw[able_q,fS];simp
    have fw:=zHi cI;have ar:(k:Int)<(ks.length:Int):=Mcy;have aQ:(0:Int)<=(k:Int):=Mcy;have Ku:(k:Int)<=(kc:Int):=Mcy;have E2:wr.cell? ⟨h,2,none⟩=some (.bool law.stems):=(zah hB hh).trans e2;have Kj:h<wr.heap.size:=Nat.lt_of_lt_of_le hh hB.size;obtain⟨Ef,DX,kE⟩:=yH3 (HW.o.keep (n:=w.heap.size) hB) (HH.o.keep (n:=w.heap.size) hB) hB;clear hc oE bD fS bH cI aa;have un:=zHi (fun W (pD:Below wr.heap.size wr W)=>zkt base b h C m s law who ch W (Ef.o.keep pD) (DX.o.keep pD));generalize zi5 s ch who=ab at*;have aG:=hB.size;have eG:=zHi hel;clear hB hel;cases ab
    ·go_upto_region 8 with(first
      |(go_at_call 180;refine(un.o _ Bw).mono ?_;rintro e wq ⟨rfl,z,rfl⟩)
      |(go_at_call 182
        refine(HC.o _ (Ef.o.keep (n:=wr.heap.size) Bw) (DX.o.keep (n:=wr.heap.size) Bw)).mono ?_;rintro e wq ⟨v2,es2,rfl,o1,o2,o3,o4⟩
        obtain⟨A2,c2,rfl,_,cx⟩:=o1.sl zjC))
     have E2q:wq.cell? ⟨h,2,none⟩=some (.bool law.stems):=(zah o3 McH).trans ((za4 _ _ _ _ Kj).trans E2);have iR:=o3.size;simp only[zaf]at iR;have hhq:h<wq.heap.size:=Mcy;obtain⟨O2L,O1,O2,O3⟩:=yH4 o2.len o1 o2 o3;have kU:Hid (Below wr.heap.size wr wq):=(zaq wr z).trans (o3.mono MdE);clear o1 o2 o3;have lm:=fw.o;simp only[Bool.false_eq_true,if_false]at lm;generalize aq:law.stems=st at*;by_cases hcond:st=true/\es2.length≠0
     ·obtain⟨rfl,ai⟩:=hcond;have oP:(zb2 s true who f ch).isEmpty=false:=by
       cases ht:zb2 s true who f ch with
       |nil=>have:=O2L.o;rw[ht]at this;simp at this;rw[this]at ai;simp at ai
       |cons x l=>rfl
      have mJ:zcS s true who f ch=some (.node (zb2 s true who f ch)):=by rw[lm,oP];rfl
      have lW:∃ad,A2=some ad/\w.heap.size<=ad.block/\wr.heap.size<=ad.block/\ad.block<wq.heap.size:=by
       rcases O1.o with⟨e,h0⟩|⟨g,o,cap,cur,e,hg,iG,_⟩
       ·rw[h0]at ai;simp at ai
       ·simp only[Value.slice.injEq]at e;refine⟨⟨g,o,none⟩,e.1,?_,?_,zab iG⟩
        ·simp[zaf]at hg;show _<=g;omega
        ·simp[zaf]at hg;show _<=g;omega
      obtain⟨ad,rfl,Cj,Ck,Cl⟩:=lW;have eB:(0:Int)<(es2.length:Int):=Mcy;obtain⟨AO,AY⟩:=yH2 mJ oP;clear oP mJ lm
      go_wp2_with (at_builtin
                   go_loud(refine zat (v:=.slice VA es.length vc) (n:=es.length) (m:=1) rfl _ _ rfl elLine zjC ln_one rfl (HO.o.keep (n:=wr.heap.size) (zad kU.o _)) rfl rfl rfl (sl_ln (e:=(⟨#[]⟩,some ad,es2.length,c2)) (zar _ _ _ rfl)) (by have:=eG.o;simp[maxLen];omega) (by have:=eG.o;omega) McD ?_)
                   intro v3 w3 h1 h2 h3)
      have vL:ItemsN w3 (fun j=>w.heap.size<=j/\za5 v3≠some j) (f+1) es ((ks.take k).filterMap (zcS s true who f)):=by
       refine ItemsN.turn ?_ ?_ ((HI.o.keep (n:=wr.heap.size) kU.o).keep (n:=wq.heap.size) (zad (Below.refl _ _) (.cells #[.string ⟨#[]⟩,.slice (some ad) es2.length c2] 234)))
       ·exact fun j hj hQ=>h2.block j hj (fun e=>hQ.2 e.symm)
       ·exact Mbh
      have nP:∀j,wr.heap.size<=j->za5 (.slice VA es.length vc)≠some j:=fun j hj e=>by have:=(HO.o.ge j e).2;omega
      have dB:∀j,wr.heap.size<=j->j<wq.heap.size->za5 v3≠some j:=fun j hj FR e=>by
       rcases h3 j e with h|h
       ·exact nP j hj h
       ·simp at h;omega
      have oU:Ro w3 234 lnC (some ad) es2:=by
       intro nJ;obtain⟨b2,off2,cur2,fr2,qV,cy,eE⟩:=O1.o.ro' nJ;have bs:ad.block=b2:=by simp only[Option.some.injEq]at qV;rw[qV]
       have Cn:=(Array.getElem?_eq_some_iff.1 cy).1;refine⟨b2,off2,cur2,fr2,qV,?_,eE⟩;rw[h2.block b2 McD (fun e=>nP b2 Mcy e.symm)];exact(Below.heap_alloc wq _ b2 Cn).trans cy
      have F2:ItemsN w3 (fun j=>w.heap.size<=j/\za5 v3≠some j) f es2 (zb2 s true who f ch):=by
       refine ItemsN.turn ?_ ?_ (O2.o.keep (n:=wq.heap.size) (zad (Below.refl _ _) (.cells #[.string ⟨#[]⟩,.slice (some ad) es2.length c2] 234)))
       ·exact fun j hj hQ=>h2.block j hj (fun e=>nP j (by simp[zaf]at hQ;omega) e.symm)
       ·exact fun j hj hQ=>⟨by simp[zaf]at hQ;omega,fun e=>(h3 j e).elim (nP j (by simp[zaf]at hQ;omega)) (fun h=>by simp at h hj;omega)⟩
      have vM:=vL.snoc (e:=(⟨#[]⟩,some ad,es2.length,c2)) (t:=.node (zb2 s true who f ch)) (.inr ⟨_,ad,c2,es2,rfl,by rw[O2L.o],by rw[<-O2L.o];exact cx,(by intro e;have:=AY.o;rw[e]at this;cases this),⟨Cj,dB _ Ck Cl⟩,oU,F2⟩);have dS:Below w.heap.size w w3:=Below.grown (a:=w) (B:=w.heap.size) (zad (kE.o.trans (kU.o.mono Mcy)) (.cells #[.string ⟨#[]⟩,.slice (some ad) es2.length c2] 234)) h2 McD (fun j hj=>(HO.o.ge j hj).1);have lY:=HF.o;rw[AO.o]at lY;obtain⟨ng,kJ,aD,H1⟩:=yH4 lY vM dS h1;clear vL vM F2 dS oU nP dB lY h1 h2 h3;go_wp2_with fail
      go_round
      case rel=>exact⟨k+1,es++[(⟨#[]⟩,some ad,es2.length,c2)],by omega,by go_num,H1.o,by rw[aq,ng.o];exact kJ.o,aD.o,by have:=eG.o;simp;omega⟩
      case measure=>simp[intOf];omega
     ·have mJ:zcS s st who f ch=none:=by
       rw[lm];cases bn:st
       ·rfl
       ·have rX:es2.length=0:=Classical.byContradiction fun h=>hcond ⟨bn,h⟩
        have uc:zb2 s true who f ch=[]:=List.eq_nil_of_length_eq_zero (by have:=O2L.o;rw[bn]at this;omega);rw[uc];rfl
      have lY:=HF.o;rw[mJ]at lY;obtain⟨ng,gD⟩:=yH2 lY hcond;have dS:Below w.heap.size w wq:=kE.o.trans (kU.o.mono Mcy);obtain⟨aD,nj,I2⟩:=yH3 dS (HO.o.keep (n:=wr.heap.size) kU.o) (HI.o.keep (n:=wr.heap.size) kU.o);clear mJ lY dS lm;by_cases eB:(0:Int)<(es2.length:Int)
      ·have oV:st=false:=by
        cases bn:st
        ·rfl
        ·exact absurd ⟨bn,by omega⟩ gD.o
       clear hcond;subst oV;exact MU
      ·clear hcond;cases st
       ·exact MU
       ·exact MU
    ·go_wp2_with (first
      |(go_at_call 180;refine(un.o _ Bw).mono ?_;rintro e wq ⟨rfl,z,rfl⟩)
      |(at_builtin;go_loud(refine zat (v:=.slice VA es.length vc) (n:=es.length) (m:=1) rfl _ _ rfl elLine zjC ln_one rfl (HO.o.keep (n:=wr.heap.size) Bw) rfl rfl rfl (sl_ln (e:=(ch,none,0,0)) (zar _ _ _ MdE)) (by have:=eG.o;simp[maxLen];omega) (by have:=eG.o;omega) McH ?_);intro v3 w3 h1 h2 h3))
     have vL:ItemsN w3 (fun j=>w.heap.size<=j/\za5 v3≠some j) (f+1) es ((ks.take k).filterMap (zcS s law.stems who f)):=by
      refine ItemsN.turn ?_ ?_ ((HI.o.keep (n:=wr.heap.size) (zaq wr z)).keep (n:=(wr.ext z).heap.size) (zad (Below.refl _ _) (.cells #[.string ch,.slice none 0 0] 234)))
      ·exact fun j hj hQ=>h2.block j hj (fun e=>hQ.2 e.symm)
      ·exact Mbh
     have vM:=vL.snoc (e:=(ch,none,0,0)) (t:=.leaf ch) (.inl ⟨ch,rfl,rfl⟩);have dS:Below w.heap.size w w3:=Below.grown (a:=w) (B:=w.heap.size) (zad (zbv kE.o z) (.cells #[.string ch,.slice none 0 0] 234)) h2 McH (fun j hj=>(HO.o.ge j hj).1);have tA:zcS s law.stems who f ch=some (.leaf ch):=by rw[fw.o];rfl
     have lY:=HF.o;rw[tA]at lY;obtain⟨ng,kJ,aD,H1⟩:=yH4 lY vM dS h1;clear vL vM dS tA lY h1 h2 h3;go_wp2_with fail
     go_round
     case rel=>exact⟨k+1,es++[(ch,none,0,0)],by omega,by go_num,H1.o,by rw[ng.o];exact kJ.o,aD.o,by have:=eG.o;simp;omega⟩
     case measure=>simp[intOf];omega
   ·rw[List.take_of_length_le Mcy]at HI;have ar:¬(k:Int)<(ks.length:Int):=Mcy;go_wp2_with fail
    go_ret
    exact⟨_,es,rfl,HO.o,HI.o.turn (fun _ _ _=>rfl) (fun _ _ h=>h.1),hB,by omega⟩
