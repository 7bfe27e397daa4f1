import Derived.Test.YthhgkjfgpkbliaaGreatDoorJK
set_option linter.all false
set_option maxRecDepth 100000
set_option maxHeartbeats 4000000
namespace Go.Proofs.YthhgkjfgpkbliaaGreatDoor
open Go.RowKit Go.Shelf
attribute [local go_sem] World.cell?_alloc_mark zae zav zai zaw zam zan zao zap zaq zar zas
attribute [local go_sem] zah zac
theorem tomb_set3{W:World}{T:Nat}{pl:ByteArray}{cl fr en:Int}{v dv:Value}{cs3:Int}(h:zbe W T pl cl fr en v dv):zbe (W.setCell ⟨T,3,none⟩ (.int .i64 cs3)) T pl cl fr cs3 v dv:=by
 unfold zbe at*;have:=Joins.block_setCell (i:=3) h (.int .i64 cs3);simpa using this
theorem zkI(base b:Nat)(s:St)(la co last:Int)(d:Deed)(B:Option Addr)(c:Nat)(w:World)(hW:WldAt base w b s la co)(hL:LensIn w)(hd:OkD d)(af:s.graves.length<=1000)(cU:∀g∈s.graves,g.fin<=200000):
 Calls Tryz.prog 99 #[.pointer (some ⟨b,0,none⟩),d.v B c] w (zbr base b (zdm s d) la co w):=by
 have ip:=hd.years;clear hd;have aF:=hW;obtain⟨Bk,dd,cc,pp,wl,rr,mv,tv,ps,ax,hC,hP,hT⟩:=hW;have bu:=zad hC;obtain⟨kd,dy,pl,fr,ts,cl,yr⟩:=d;simp only at*;obtain⟨ba,HW,HC,HP⟩:=yH4 (fun W (hB:Below w.heap.size w W)=>zih base b s la co pl dy W (hC.keep hB) (hT.keep hB) MbC) aF hC hP;cases ap:zaH s pl dy with
 |none=>
  rw[ap]at ba;have HG:Hid (zdm s ⟨kd,dy,pl,fr,ts,cl,yr⟩=(s,6)):=by show _=_;simp[zdm,ap]
  clear ap aF hC hP hT hL;unfold Deed.v;simp only;go_enter Tryz.func99,Tryz.ntmps99
  exact MQ
 |some i=>
  obtain⟨T,g,dS,eE,bJ,aQ,dP,fS⟩:=zdC hT ap;have Ce:=cU g (List.mem_of_getElem? bJ);have ej:∀W,Below w.heap.size w W->Calls Tryz.prog 48 #[.pointer (some ⟨b,0,none⟩),.string pl,.int .i64 dy] W (Ret W (.pointer (some ⟨T,0,none⟩))):=fun W hB=>by
   have:=ba.o W hB;exact Mag
  have gG:=zHi ej;obtain⟨H,ar,D,dc,frm,t1,t2,t3,t4,t5,t6,t7⟩:=dP;have bD:=zad t1;obtain⟨gpl,gcl,gfin,ghs,gdi⟩:=g;simp only at*;have eY:zdm s ⟨kd,dy,pl,fr,ts,cl,yr⟩=if decide (gfin<0)then(s,15)else if decide (zc9 gfin yr<0)then(s,2)else(s.withGrave i ⟨gpl,gcl,zc9 gfin yr,ghs,gdi⟩,0):=by
   unfold zdm;simp only[ap,aQ]
  obtain⟨cv,lL,iO,iP,dC,HT,lB⟩:=yH7 t1 t5 t6 t7 eY hT dS;unfold zbe at t1;obtain⟨-,-,-,k3⟩:=cF4 t1;have fz:∀j,w.frozen? ⟨T,j,none⟩=false:=fun j=>by simp only[World.frozen?,t1];rfl
  have aq:=zHi (fun W (hB:Below w.heap.size w W) (h0:0<=gfin)=>zif gfin yr W (hL.keep hB) h0 Ce ip.1 ip.2);clear ej ba t1 t5 t6 t7 eY hT dS eE aQ bJ fS ap aF hC hP hL cU;unfold Deed.v;simp only;go_enter Tryz.func99,Tryz.ntmps99
  by_cases jM:gfin<0
  ·go_wp2_with (go_at_call 48;refine(gG.o _ Bw).mono ?_;rintro e wq ⟨rfl,z,rfl⟩)
   go_ret
   exact zb0 HW.o Bw (by rw[dC.o];simp[jM])
  ·have bz:0<=gfin:=MbC;go_upto_region 6 with(go_at_call 48;refine(gG.o _ Bw).mono ?_;rintro e wq ⟨rfl,z,rfl⟩)
   generalize hR:zc9 gfin yr=R at*
   (refine zaA MbE MbE ?_
    repeat(first|go_big_quiet_skip|(go_big_quiet_want;go_big_quiet_op;first|go_big_quiet_on|(apply Exists.intro;refine⟨fun _=>?_,?_⟩;(go_at_call 144;exact quietx (aq.o _ Bw bz));go_big_quiet_on)))
    refine wpQuiet_nil ?_
    rintro _ ⟨zq,rfl⟩)
   by_cases uP:R<0
   ·go_wp2_with fail
    go_ret
    exact zb0 HW.o Bw (by rw[dC.o];simp[jM,uP])
   ·go_wp2_with fail
    go_ret
    have be:zdm s ⟨kd,dy,pl,fr,ts,cl,yr⟩=(s.withGrave i ⟨gpl,gcl,R,ghs,gdi⟩,0):=by rw[dC.o];simp[show¬gfin<0 by omega,show¬R<0 by omega]
    rw[be];obtain⟨Z,hZ⟩:∃Z,Z=((w.alloc (.cells #[.int .i64 kd,.int .i64 dy,.string pl,.string fr,.slice B ts.length c,.int .i64 cl,.int .i64 yr] 28)).ext z).ext zq:=⟨_,rfl⟩
    have df:Below w.heap.size w Z:=by rw[hZ];exact Bw
    have pS:=(df.block T bD).trans cv.o;have hN:TombAt (Z.setCell ⟨T,3,none⟩ (.int .i64 R)) base Bk T ⟨gpl,gcl,R,ghs,gdi⟩:=⟨H,ar,D,dc,frm,tomb_set3 (show zbe Z T gpl gcl frm gfin _ _ from pS),t2,t3,t4,(lL.o.keep df).kept (zay Z T 3 _) pS MbD,(iO.o.keep df).kept (zay Z T 3 _) pS MbD,iP.o⟩
    have am:=zhn ax (HC.o.keep df) (HP.o.keep df) (HT.o.keep df) lB.o pS (zay Z T 3 (.int .i64 R)) hN;have cj:Below base w (Z.setCell ⟨T,3,none⟩ (.int .i64 R)):=zaU (df.mono MbC) t2 _;have hE:Z.setCell ⟨T,3,none⟩ (.int .i64 R)=(((w.setCell ⟨T,3,none⟩ (.int .i64 R)).alloc (.cells #[.int .i64 kd,.int .i64 dy,.string pl,.string fr,.slice B ts.length c,.int .i64 cl,.int .i64 yr] 28)).ext z).ext zq:=by
     rw[hZ,zah _ _ _ _ _ MbM,zah _ _ _ _ _ MbH,zac _ _ _ _ _ bD]
    have bQ:=(KeepD.below df).trans (KeepD.cells (zay Z T 3 (.int .i64 R)) pS MbD);rw[hE]at am cj bQ;exact⟨rfl,am,cj,bQ⟩
def surF(frm:ByteArray)(left:Rat):Parts->Parts×Bool->Parts×Bool
 | [],x=>x
 |p::l,x=>surF frm left l (if zag p.1 frm then x else(x.1++[(p.1,zaQ (p.2/left))],x.2||bigQ (p.2/left)))
theorem zhq(frm:ByteArray)(left:Rat):∀(a b:Parts) (x:Parts×Bool),surF frm left (a++b) x=surF frm left b (surF frm left a x)
 | [],_,_=>rfl
 |p::a,b,x=>zhq frm left a b _
theorem surF_snoc(frm:ByteArray)(left:Rat)(hs:Parts)(x:Parts×Bool){k:Nat}(h:k<hs.length):surF frm left (hs.take (k+1)) x=if zag hs[k].1 frm then surF frm left (hs.take k) x else((surF frm left (hs.take k) x).1++[(hs[k].1,zaQ (hs[k].2/left))],(surF frm left (hs.take k) x).2||bigQ (hs[k].2/left)):=by
 rw[List.take_succ_eq_append_getElem h,zhq];rfl
theorem zhr(frm:ByteArray)(left:Rat):∀(hs out:Parts) (f:Bool),(surF frm left hs (out,f)).2=(f||zaC ((zaj hs frm).map fun p=>(p.1,p.2/left)))/\
 ((surF frm left hs (out,f)).2=false->(surF frm left hs (out,f)).1=out++(zaj hs frm).map fun p=>(p.1,p.2/left))
 | [],out,f=>by simp[surF,zaj,zaC]
 |p::hs,out,f=>by
  rw[surF];cases hp:zag p.1 frm
  ·have e:zaj (p::hs) frm=p::zaj hs frm:=by unfold zaj;rw[List.filter_cons,hp];rfl
   obtain⟨h1,h2⟩:=zhr frm left hs (out++[(p.1,zaQ (p.2/left))]) (f||bigQ (p.2/left));simp only[Bool.false_eq_true,if_false];rw[e,List.map_cons];refine⟨by rw[h1];unfold zaC;rw[List.any_cons,Bool.or_assoc],fun h=>?_⟩;rw[h2 h];rw[h1,Bool.or_eq_false_iff,Bool.or_eq_false_iff]at h;rw[zef h.1.2];simp
  ·have e:zaj (p::hs) frm=zaj hs frm:=by unfold zaj;rw[List.filter_cons,hp];rfl
   simp only[if_true];rw[e];exact zhr frm left hs out f
theorem ziE(frm:ByteArray)(left:Rat):∀(hs out:Parts) (f:Bool),(surF frm left hs (out,f)).1.length<=out.length+hs.length
 | [],out,f=>by simp[surF]
 |p::hs,out,f=>by
  rw[surF];split
  ·have:=ziE frm left hs out f;simp;omega
  ·have:=ziE frm left hs (out++[(p.1,zaQ (p.2/left))]) (f||bigQ (p.2/left));simp at this⊢;omega
theorem ziF{s:St}{d:Deed}{i:Nat}{g:Grave}(ap:zaH s d.place d.day=some i)(hg:s.graves.getD i ze6=g):
 zaY s d=if zab g.holders d.frm==0 then(s,19)else if(surF d.frm (1-zab g.holders d.frm) g.holders ([],false)).2 then(s,8)else
  (s.withGrave i {g with holders:=(surF d.frm (1-zab g.holders d.frm) g.holders ([],false)).1},0):=by
 obtain⟨h1,h2⟩:=zhr d.frm (1-zab g.holders d.frm) g.holders [] false;unfold zaY;rw[ap];simp only[hg];rw[Bool.false_or]at h1;rw[<-h1];cases hf:(surF d.frm (1-zab g.holders d.frm) g.holders ([],false)).2
 ·have:=h2 hf;rw[List.nil_append]at this;rw[<-this]
 ·rfl
theorem sur_small{g:Grave}{frm:ByteArray}(hG:GoodG g)(ag:zab g.holders frm≠0):zaD (zab g.holders frm)/\zaD (1-zab g.holders frm)/\0<=1-zab g.holders frm/\
 ∀p∈g.holders,zag p.1 frm=false->0<1-zab g.holders frm/\zaD p.2:=by
 have ho:=zbg hG.good frm;have bF:=zcM hG.good frm;have d8:sumQ g.holders=1:=by
  rcases hG.one with h|h
  ·exact absurd h (zcD ag)
  ·exact h
 have hb:=zcs frm hG.small;have qD:zab g.holders frm<=1:=MbV;have fV:=zcl ho qD hb;have cw:bigQ (1-zab g.holders frm)=false:=by
  have hI:IsN (zab g.holders frm).den (zab g.holders frm):=⟨(zab g.holders frm).num,by
   generalize zab g.holders frm=q;have h1:q=q.num/(q.den:Int):=by rw[<-Rat.divInt_eq_div,Rat.num_divInt_den]
   have h2:((q.den:Int):Rat)≠0:=ratI (by have:=q.den_pos;omega);rw[Rat.intCast_natCast]at h1 h2;conv=>lhs;rw[h1]
   grind⟩
  exact zdA (zab g.holders frm).den_pos fV.2 (zkw (zi4 _) hI)
 refine⟨fV,zcl MbV MbV cw,by grind,fun p hp hs=>?_⟩;have vV:=hG.good.pos p hp;have fU:p∈zaj g.holders frm:=List.mem_filter.2 ⟨hp,by rw[hs];rfl⟩;have h1:=zcr (n:=frm) hG.good;have h2:=zex (l:=zaj g.holders frm) (fun q hq=>by have:=(zbl hG.good (n:=frm)).pos q hq;grind) p fU;refine⟨by grind,zcl MbV MbV ?_⟩;have:=hG.small;unfold zaC at this;rw[List.any_eq_false]at this;simpa using this p hp
theorem sl_part{w:World}{b:Nat}{p:ByteArray×Rat}{t:TypeId}{fr:Nat×Nat}(h:w.heap[b]?=some (.cells #[.string p.1,.int .i64 p.2.num,.int .i64 p.2.den] t fr)):Sl w 3 zaa (some ⟨b,0,none⟩) [p]:=fun _=>⟨b,0,rfl,zad h,fun k y hy j u hu=>by
 have hk:k=0:=MbK;subst hk;simp only[List.getElem?_cons_zero,Option.some.injEq]at hy;subst hy;match j,hu with
 |0,hu=>simp[zaa]at hu;simp[World.cell?,h,<-hu]
 |1,hu=>simp[zaa]at hu;simp[World.cell?,h,<-hu]
 |2,hu=>simp[zaa]at hu;simp[World.cell?,h,<-hu]
 |j+3,hu=>simp[zaa]at hu⟩
theorem sub1_any(q:Rat)(W:World)(hq:zaD q):Calls Tryz.prog 147 #[.agg #[.int .i64 1,.int .i64 1],.agg #[.int .i64 q.num,.int .i64 q.den]] W (Ret W (za9 (1-q))):=
 zgq 1 q W ⟨by decide,by decide⟩ hq
theorem ziG(base b:Nat)(s:St)(la co last:Int)(d:Deed)(B:Option Addr)(c:Nat)(w:World)(hW:WldAt base w b s la co)(fq:GoodSt s last)(af:s.graves.length<=1000)(cm:∀g∈s.graves,g.holders.length<=10000):
 Calls Tryz.prog 98 #[.pointer (some ⟨b,0,none⟩),d.v B c] w (zbr base b (zaY s d) la co w):=by
 have me:=fun i g h1 h2=>ziF (s:=s) (d:=d) (i:=i) (g:=g) h1 h2
 have aF:=hW;obtain⟨Bk,dd,cc,pp,wl,rr,mv,tv,ps,ax,hC,hP,hT⟩:=hW;have bu:=zad hC;obtain⟨kd,dy,pl,fr,ts,cl,yr⟩:=d;simp only at*;obtain⟨ba,HW,HC,HP⟩:=yH4 (fun W (hB:Below w.heap.size w W)=>zih base b s la co pl dy W (hC.keep hB) (hT.keep hB) MbC) aF hC hP;cases ap:zaH s pl dy with
 |none=>
  rw[ap]at ba;have HG:Hid (zaY s ⟨kd,dy,pl,fr,ts,cl,yr⟩=(s,6)):=by show _=_;simp[zaY,ap]
  clear ap me aF hC hP hT;unfold Deed.v;simp only;go_enter Tryz.func98,Tryz.ntmps98
  exact MQ
 |some i=>
  obtain⟨T,g,dS,eE,bJ,aQ,dP,fS⟩:=zdC hT ap;have lW:=fq.graves g (List.mem_of_getElem? bJ);have mA:=cm g (List.mem_of_getElem? bJ);have eY:=me i g ap aQ;have ej:∀W,Below w.heap.size w W->Calls Tryz.prog 48 #[.pointer (some ⟨b,0,none⟩),.string pl,.int .i64 dy] W (Ret W (.pointer (some ⟨T,0,none⟩))):=fun W hB=>by
   have:=ba.o W hB;exact Mag
  have gG:=zHi ej;obtain⟨H,ar,D,dc,frm,t1,t2,t3,t4,t5,t6,t7⟩:=dP;have bD:=zad t1;obtain⟨cv,lL,iO,iP,dC,gF,HT,lB⟩:=yH8 t1 t5 t6 t7 eY lW hT dS;clear ej ba t1 t5 t6 t7 eY lW hT dS eE aQ bJ fS ap me fq cm aF hC hP;obtain⟨gpl,gcl,gfin,ghs,gdi⟩:=g;simp only at*;unfold zbe at cv;have k4:w.cell? ⟨T,4,none⟩=some (.slice H ghs.length ar):=Mcy;obtain⟨own,ae⟩:∃own,own=zab ghs fr:=⟨_,rfl⟩
  have dB:=zHi (fun W (hB:Below w.heap.size w W)=>zd6 ghs H ar T fr W ((hB.cell (p:=⟨T,4,none⟩) bD).trans k4) (Nat.lt_of_lt_of_le bD hB.size) MbC gF.o.good.asc (Ro.sl za0 (lL.o.keep hB)));have tp:own≠0->_:=fun h=>sur_small gF.o (frm:=fr) (by rw[<-ae];exact h)
  have cD:=zHi tp;rw[<-ae]at dB cD;have fH:=dC.o;clear dC tp;simp only[<-ae,numZ]at fH;have dC:=zHi fH;clear fH;have eO:=zHi ae;clear ae;unfold za9 at dB;unfold Deed.v;simp only;go_enter Tryz.func98,Tryz.ntmps98
  go_upto_region 7 with(first
   |(go_at_call 48;refine(gG.o _ Bw).mono ?_;rintro e wq ⟨rfl,z,rfl⟩)
   |(go_at_call 146;refine(dB.o _ Bw).mono ?_;rintro e wq ⟨rfl,z2,rfl⟩))
  all_goals(try(go_ret;exact zb0 HW.o Bw (by rw[dC.o];simp[*];done)))
  have oa:(own.num==0)=false:=MbT;have qY:own≠0:=fun e=>by rw[e]at oa;exact absurd oa MbD
  obtain⟨eC,qJ,hl0,dq⟩:=cD.o qY;have HG:Hid (zaY s ⟨kd,dy,pl,fr,ts,cl,yr⟩=if(surF fr (1-own) ghs ([],false)).2 then(s,8)else(s.withGrave i ⟨gpl,gcl,gfin,(surF fr (1-own) ghs ([],false)).1,gdi⟩,0)):=by
   show _=_;rw[dC.o];simp[*];done
  have s7:=zHi dq;clear dC gG dB cD dq;generalize jK:1-own=lf at*;have Aa:=zHi jK;clear jK;go_cut [5,6,7]from 8 (fun v5 v6 v7 wc=>v5=.pointer (some ⟨T,0,none⟩)/\∃O C,v6=.pointer (some ⟨O,0,none⟩)/\v7=.pointer (some ⟨C,0,none⟩)/\Below w.heap.size w wc/\w.heap.size<O/\O<C/\C+1=wc.heap.size/\wc.heap[w.heap.size]?=some (.cells #[.int .i64 kd,.int .i64 dy,.string pl,.string fr,.slice B ts.length c,.int .i64 cl,.int .i64 yr] 28)/\wc.heap[O]?=some (zba own)/\MarkAt wc C false)
  case first=>
   go_wp2_with fail
   go_meet
   refine⟨rfl,_,_,rfl,rfl,Bw,by omega,?_,?_,?_,?_,?_⟩
   ·exact Maw
   ·exact Maw
   ·exact MaV
   ·exact MaP
   ·exact za3 _ _ _ (by first|rfl|simp[zae])
  case rest=>
   obtain⟨rfl,O,C,rfl,rfl,hB,hO,hC,hCs,g0,g1,hm⟩:=hcut;obtain⟨W0,rfl⟩:∃x,x=wc:=⟨_,rfl⟩
   have t1:=(hB.block T bD).trans cv.o;obtain⟨m0,m1,m2,m3,m4,m5⟩:=cF6 t1;have BK:T<W0.heap.size:=zad t1;have BF:T≠W0.heap.size:=MbC;have o0:W0.cell? ⟨O,0,none⟩=some (.int .i64 own.num):=by simp only[World.cell?,g1,zba];rfl
   have o1:W0.cell? ⟨O,1,none⟩=some (.int .i64 own.den):=by simp only[World.cell?,g1,zba];rfl
   have uO:O<W0.heap.size:=MbC;have hOn:O≠W0.heap.size:=MbC;obtain⟨G0,HM,AH,lF⟩:=yH4 g0 hm t1 (fun W=>sub1_any own W eC);rw[Aa.o]at lF;clear g0 g1 t1 hm;go_wp2_with (go_at_call 147;refine(lF.o _).mono ?_;rintro e wq ⟨rfl,z,rfl⟩;simp only[za9])
   generalize hLL:W0.heap.size+1+z.os.size=L at*;have wW:=zHi hLL;have uL:W0.heap.size<L:=MbC;clear hLL m0 m1 m2 m3 m4 m5 o0 o1;go_loopw [39] (fun i wr=>∃(k:Nat) (v:Value) (out:Parts) (fl:Bool),k<=ghs.length/\i=.int .i64 k/\Hid ((out,fl)=surF fr lf (ghs.take k) ([],false))/\MarkAt wr C fl/\zbe wr W0.heap.size gpl gcl frm gfin v (.slice D gdi.length dc)/\OwnS wr W0.heap.size 59 3 zaa v out/\wr.heap[L]?=some (zba lf)/\Below C W0 wr/\L<wr.heap.size) (fun i _=>ghs.length-(intOf i).toNat)
   case atStart=>
    refine⟨0,.slice none 0 0,[],false,Nat.zero_le _,rfl,rfl,?_,?_,OwnS.nil,?_,?_,?_⟩
    ·exact((HM.o.alloc _).ext z).alloc _
    ·exact zal (zbZ (za3 _ _ _ rfl))
    ·exact za3 _ _ _ (by have:=wW.o;simp[zae];omega)
    ·have ax:Below C W0 W0:=Below.refl _ _;exact zau (zbH (zau ax _ MbC) _ MbC) _ MbC
    ·have:=wW.o;simp[zae];omega
   case round=>
    obtain⟨k,v,out,fl,hk,rfl,HX,hm,bi,ct,kG,dO,dr⟩:=hrel;obtain⟨A1,c1,rfl,lZ,gM⟩:=ct.sl za0;have gy:=ziE fr lf (ghs.take k) [] false;rw[<-HX.o]at gy;simp only[List.length_nil,Nat.zero_add,List.length_take]at gy;have sY:out.length<=10000:=MbC;clear gy lZ;have au:Below w.heap.size w wr:=hB.trans (dO.mono MbC);have rO:wr.cell? ⟨W0.heap.size,4,none⟩=some (.slice A1 out.length c1):=Mb2;have fx4:wr.frozen? ⟨W0.heap.size,4,none⟩=false:=by unfold zbe at bi;simp only[World.frozen?,bi];rfl
    have cV:wr.cell? ⟨L,0,none⟩=some (.int .i64 lf.num):=by simp only[World.cell?,kG,zba];rfl
    have cW:wr.cell? ⟨L,1,none⟩=some (.int .i64 lf.den):=by simp only[World.cell?,kG,zba];rfl
    have e3:wr.cell? ⟨w.heap.size,3,none⟩=some (.string fr):=(za4 dO MbC).trans McC;obtain⟨HM,ei,bV,tU,nh,aM⟩:=yH6 hm bi ct kG dO au;clear hm bi ct kG dO;by_cases aa:k<ghs.length
    ·obtain⟨b',off,rfl,bE,hc⟩:=(Ro.sl za0 (lL.o.keep au)).at aa;have aw:=surF_snoc fr lf ghs ([],false) aa;rw[<-HX.o]at aw;have vV:=s7.o ghs[k] (List.getElem_mem aa);generalize ghs[k]=p at*;obtain⟨pn,pq⟩:=p;have i0:wr.cell? ⟨b',off+k*3,none⟩=some (.string pn):=hc 0 _ rfl;have i1:wr.cell? ⟨b',off+k*3+1,none⟩=some (.int .i64 pq.num):=hc 1 _ rfl;have i2:wr.cell? ⟨b',off+k*3+2,none⟩=some (.int .i64 pq.den):=hc 2 _ rfl;obtain⟨bU,Aq⟩:=yH2 aw vV;have ao:(k:Int)<(ghs.length:Int):=MbC;have bf:(0:Int)<=(k:Int):=MbC;have eV:(k:Int)<=(ar:Int):=MbC;have cP:w.heap.size<wr.heap.size:=MbC;have jd:w.heap.size≠wr.heap.size:=MbC;have bv:W0.heap.size<wr.heap.size:=MbC;have zk:W0.heap.size≠wr.heap.size:=MbC;have hLn:L≠wr.heap.size:=MbC;clear hc aw vV au;by_cases iG:pn.toList=fr.toList
     ·have lF:=zHi (zdu iG);have eG:(pn.toList==fr.toList)=true:=by simpa using iG
      have bk:(pn.toList != fr.toList)=false:=by simp[iG]
      clear iG;go_wp2_with fail
      go_round
      case rel=>
       have h1:=bU.o;rw[lF.o]at h1;exact⟨k+1,_,out,fl,by omega,by go_num,(h1.symm:_=_),HM.o.alloc _,zal ei.o,bV.o.keep (n:=wr.heap.size) (zau (Below.refl _ _) _),zal tU.o,zau nh.o _ MbC,by simp;omega⟩
      case measure=>simp[intOf];omega
     ·have lF:=zHi (zdH iG);have eG:(pn.toList==fr.toList)=false:=by simpa using iG
      have bk:(pn.toList != fr.toList)=true:=by simp[iG]
      clear iG;obtain⟨yH,re⟩:=Aq.o lF.o;go_upto_region 15 with fail
      refine wp_region_held_drew (S:=(fun w'=>w'.cell? ⟨wr.heap.size,0,none⟩=some (.string pn)/\w'.cell? ⟨wr.heap.size,1,none⟩=some (.int .i64 pq.num)/\w'.cell? ⟨wr.heap.size,2,none⟩=some (.int .i64 pq.den)/\w'.cell? ⟨L,0,none⟩=some (.int .i64 lf.num)/\w'.cell? ⟨L,1,none⟩=some (.int .i64 lf.den))) MbE ?hS ?hrest
      case hS=>((try dsimp only);refine⟨?_,?_,?_,?_,?_⟩<;>(simp[go_sem,cV,cW,dr];done))
      case hrest=>
       intro hHeld;refine TkH 0 ?_;refine TkH 2 ?_;refine TkH 3 ?_;refine TkH 4 ?_;refine TkH 5 ?_;refine TkH 6 ?_;refine wpAnyH_ready (rs:=[1,7]) MbE MbF (AllReadyH.cons (List.getElem?_toArray.trans rfl) (fun K hK=>?_) (AllReadyH.cons (List.getElem?_toArray.trans rfl) (fun K hK=>?_) AllReadyH.nil))
       ·go_simp
        refine hK.out _ _ ?_ (fun hHeld=>?_);focus((try dsimp only);refine⟨?_,?_,?_,?_,?_⟩<;>first|assumption|(simp[go_sem,cV,cW,dr];done)|(simp[go_sem,a0,a1,a2,l5,l6,yp,yL];done)|(simp[go_sem,z0,z1,z2,z5,z6,zx,zy];done))
        clear hK K;try simp only[Act.put,List.setIfInBounds_toArray,List.set_cons_zero,List.set_cons_succ]
        refine OnH 7 fun K hK=>?_
        go_simp
        refine(zlB C fl _ ?q1 pq lf re qJ yH).mono ?_
        case q1=>(repeat(first|exact HM.o|refine MarkAt.drew ?_|refine MarkAt.alloc ?_ _))
        rintro e w5 ⟨rfl,n1,n2⟩;have eA:=n2.size;have y0:w5.heap[wr.heap.size]?=some (.cells #[.string pn,.int .i64 pq.num,.int .i64 pq.den] 59):=(n2.block _ MbF MbH).trans (za3 _ _ _ rfl);obtain⟨a0,a1,a2⟩:=cF3 y0;have yL':w5.heap[L]?=some (zba lf):=(n2.block _ MbH MbH).trans (zal tU.o);have l5:w5.cell? ⟨L,0,none⟩=some (.int .i64 lf.num):=Mcd;have l6:w5.cell? ⟨L,1,none⟩=some (.int .i64 lf.den):=Mcd;have yT:zbe w5 W0.heap.size gpl gcl frm gfin (.slice A1 out.length c1) (.slice D gdi.length dc):=(n2.block _ MbH MbH).trans (zal ei.o);have y2:w5.cell? ⟨W0.heap.size,4,none⟩=some (.slice A1 out.length c1):=by unfold zbe at yT;simp only[World.cell?,yT];rfl
        have yO:OwnS w5 W0.heap.size 59 3 zaa (.slice A1 out.length c1) out:=by refine OwnS.grown (hg:=n2) ?_ (.inr fun e=>by have:=(bV.o.ge _ e).1;omega);exact bV.o.keep (n:=wr.heap.size) Bw
        have yl:=zad yT;have yp:=zad y0;have yL:=zad yL';have yn:W0.heap.size≠w5.heap.size:=MbC;have ypn:wr.heap.size≠w5.heap.size:=MbC;obtain⟨YT,YO,YL,Y0,N1,N2⟩:=yH6 yT yO yL' y0 n1 n2;clear yT yO yL' n1 n2 y0;simp only[za9];refine hK.out _ _ ?_ (fun hHeld=>?_);focus((try dsimp only);refine⟨?_,?_,?_,?_,?_⟩<;>first|assumption|(simp[go_sem,cV,cW,dr];done)|(simp[go_sem,a0,a1,a2,l5,l6,yp,yL];done)|(simp[go_sem,z0,z1,z2,z5,z6,zx,zy];done))
        clear hK K;try simp only[Act.put,List.setIfInBounds_toArray,List.set_cons_zero,List.set_cons_succ]
        refine TkH 8 ?_;refine OnH 9 fun K hK=>?_
        exact Mb
       ·go_simp
        refine(zlB C fl _ ?q1 pq lf re qJ yH).mono ?_
        case q1=>(repeat(first|exact HM.o|refine MarkAt.drew ?_|refine MarkAt.alloc ?_ _))
        rintro e w5 ⟨rfl,n1,n2⟩;have eA:=n2.size;have y0:w5.heap[wr.heap.size]?=some (.cells #[.string pn,.int .i64 pq.num,.int .i64 pq.den] 59):=(n2.block _ MbF MbH).trans (za3 _ _ _ rfl);obtain⟨a0,a1,a2⟩:=cF3 y0;have yL':w5.heap[L]?=some (zba lf):=(n2.block _ MbH MbH).trans (zal tU.o);have l5:w5.cell? ⟨L,0,none⟩=some (.int .i64 lf.num):=Mcd;have l6:w5.cell? ⟨L,1,none⟩=some (.int .i64 lf.den):=Mcd;have yT:zbe w5 W0.heap.size gpl gcl frm gfin (.slice A1 out.length c1) (.slice D gdi.length dc):=(n2.block _ MbH MbH).trans (zal ei.o);have y2:w5.cell? ⟨W0.heap.size,4,none⟩=some (.slice A1 out.length c1):=by unfold zbe at yT;simp only[World.cell?,yT];rfl
        have yO:OwnS w5 W0.heap.size 59 3 zaa (.slice A1 out.length c1) out:=by refine OwnS.grown (hg:=n2) ?_ (.inr fun e=>by have:=(bV.o.ge _ e).1;omega);exact bV.o.keep (n:=wr.heap.size) Bw
        have yl:=zad yT;have yp:=zad y0;have yL:=zad yL';have yn:W0.heap.size≠w5.heap.size:=MbC;have ypn:wr.heap.size≠w5.heap.size:=MbC;obtain⟨YT,YO,YL,Y0,N1,N2⟩:=yH6 yT yO yL' y0 n1 n2;clear yT yO yL' n1 n2 y0;simp only[za9];refine hK.out _ _ ?_ (fun hHeld=>?_);focus((try dsimp only);refine⟨?_,?_,?_,?_,?_⟩<;>first|assumption|(simp[go_sem,cV,cW,dr];done)|(simp[go_sem,a0,a1,a2,l5,l6,yp,yL];done)|(simp[go_sem,z0,z1,z2,z5,z6,zx,zy];done))
        clear hK K;try simp only[Act.put,List.setIfInBounds_toArray,List.set_cons_zero,List.set_cons_succ]
        refine TkH 8 ?_;refine wpAnyH_ready (rs:=[1,9]) MbE MbF (AllReadyH.cons (List.getElem?_toArray.trans rfl) (fun K hK=>?_) (AllReadyH.cons (List.getElem?_toArray.trans rfl) (fun K hK=>?_) AllReadyH.nil))
        ·go_simp
         refine hK.out _ _ ?_ (fun hHeld=>?_);focus((try dsimp only);refine⟨?_,?_,?_,?_,?_⟩<;>first|assumption|(simp[go_sem,cV,cW,dr];done)|(simp[go_sem,a0,a1,a2,l5,l6,yp,yL];done)|(simp[go_sem,z0,z1,z2,z5,z6,zx,zy];done))
         clear hK K;try simp only[Act.put,List.setIfInBounds_toArray,List.set_cons_zero,List.set_cons_succ]
         refine OnH 9 fun K hK=>?_
         exact Mb
        ·go_simp
         refine hK.out _ _ ?_ (fun hHeld=>?_);focus((try dsimp only);refine⟨?_,?_,?_,?_,?_⟩<;>first|assumption|(simp[go_sem,cV,cW,dr];done)|(simp[go_sem,a0,a1,a2,l5,l6,yp,yL];done)|(simp[go_sem,z0,z1,z2,z5,z6,zx,zy];done))
         clear hK K;try simp only[Act.put,List.setIfInBounds_toArray,List.set_cons_zero,List.set_cons_succ]
         refine OnH 1 fun K hK=>?_
         exact Mb
    ·have ao:¬(k:Int)<(ghs.length:Int):=MbC;have jf:(out,fl)=surF fr lf ghs ([],false):=by rw[HX.o,List.take_of_length_le MbC]
     have ft:=(au.block T bD).trans cv.o;have iL:=zHi ft;have BT:wr.cell? ⟨C,0,none⟩=some (.bool fl):=(zb7 HM.o).1;have dM:=HG.o;rw[<-jf]at dM;clear jf HX gF au cV cW e3;cases fl
     ·have np:=zHi dM;have bi:=ei.o;unfold zbe at bi;obtain⟨n0,n1,n2,n3,-,n5⟩:=cF6 bi;obtain⟨z0,z1,z2,z3,z4,z5⟩:=cF6 ft;have fz:∀j,wr.frozen? ⟨T,j,none⟩=false:=fun j=>by simp only[World.frozen?,ft];rfl
      clear dM bi ft;go_wp2_with fail
      go_ret
      have au:=aM.o;have gB:Ro wr 59 zaa A1 out:=bV.o.ro';have hN:TombAt ((((((wr.setCell ⟨T,0,none⟩ (.string gpl)).setCell ⟨T,1,none⟩ (.int .i64 gcl)).setCell ⟨T,2,none⟩ (.int .i64 frm)).setCell ⟨T,3,none⟩ (.int .i64 gfin)).setCell ⟨T,4,none⟩ (.slice A1 out.length c1)).setCell ⟨T,5,none⟩ (.slice D gdi.length dc)) base Bk T ⟨gpl,gcl,gfin,out,gdi⟩:=
       ⟨A1,c1,D,dc,frm,zho iL.o _ _ _ _ _ _,t2,gM,t4,gB.kept (zbD _ _ _ _ _ _ _ _) iL.o MbD,(iO.o.keep au).kept (zbD _ _ _ _ _ _ _ _) iL.o MbD,iP.o⟩
      have am:=zhn ax (HC.o.keep au) (HP.o.keep au) (HT.o.keep au) lB.o iL.o (zbD wr T _ _ _ _ _ _) hN;have cj:Below base w wr:=au.mono MbC;have dG:=zaF cj (zbD wr T (.string gpl) (.int .i64 gcl) (.int .i64 frm) (.int .i64 gfin) (.slice A1 out.length c1) (.slice D gdi.length dc)) t2 MbC;have be:zaY s ⟨kd,dy,pl,fr,ts,cl,yr⟩=(s.withGrave i ⟨gpl,gcl,gfin,out,gdi⟩,0):=np.o.trans (if_neg MbF);exact Mak
     ·exact Man
