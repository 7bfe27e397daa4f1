import Derived.Test.YtogklihlgindkaaGreatDoorJN
set_option linter.all false
set_option maxRecDepth 100000
set_option maxHeartbeats 4000000
namespace Go.Proofs.YtogklihlgindkaaGreatDoor
open Go.RowKit Go.Shelf
attribute [local go_sem] World.cell?_alloc_mark zaf za3 zam za6 zat zau zav zaw zax zay zaz
attribute [local go_sem] zao zac
def surF(frm:ByteArray)(left:Rat):Parts->Parts×Bool->Parts×Bool
 | [],x=>x
 |p::l,x=>surF frm left l (if zae p.1 frm then x else(x.1++[(p.1,zbi (p.2/left))],x.2||bigQ (p.2/left)))
def ziI(frm:ByteArray)(left:Rat):∀(a b:Parts) (x:Parts×Bool),surF frm left (a++b) x=surF frm left b (surF frm left a x)
 | [],_,_=>rfl
 |p::a,b,x=>ziI frm left a b _
def surF_snoc(frm:ByteArray)(left:Rat)(hs:Parts)(x:Parts×Bool){k:Nat}(h:k<hs.length):surF frm left (hs.take (k+1)) x=if zae hs[k].1 frm then surF frm left (hs.take k) x else((surF frm left (hs.take k) x).1++[(hs[k].1,zbi (hs[k].2/left))],(surF frm left (hs.take k) x).2||bigQ (hs[k].2/left)):=by
 rw[List.take_succ_eq_append_getElem h,ziI];rfl
def ziJ(frm:ByteArray)(left:Rat):∀(hs out:Parts) (f:Bool),(surF frm left hs (out,f)).2=(f||zaE ((za0 hs frm).map λp=>(p.1,p.2/left)))/\
 ((surF frm left hs (out,f)).2=false->(surF frm left hs (out,f)).1=out++(za0 hs frm).map λp=>(p.1,p.2/left))
 | [],out,f=>by simp[surF,za0,zaE]
 |p::hs,out,f=>by
  rw[surF];cases hp:zae p.1 frm
  ·have e:za0 (p::hs) frm=p::za0 hs frm:=by unfold za0;rw[List.filter_cons,hp];rfl
   obtain⟨h1,h2⟩:=ziJ frm left hs (out++[(p.1,zbi (p.2/left))]) (f||bigQ (p.2/left));simp only[Bool.false_eq_true,if_false];rw[e,List.map_cons];refine⟨by rw[h1];unfold zaE;rw[List.any_cons,Bool.or_assoc],λh=>?_⟩;rw[h2 h];rw[h1,Bool.or_eq_false_iff,Bool.or_eq_false_iff]at h;rw[zfd h.1.2];simp
  ·have e:za0 (p::hs) frm=za0 hs frm:=by unfold za0;rw[List.filter_cons,hp];rfl
   simp only[if_true];rw[e];exact ziJ frm left hs out f
def zk8(frm:ByteArray)(left:Rat):∀(hs out:Parts) (f:Bool),(surF frm left hs (out,f)).1.length<=out.length+hs.length
 | [],out,f=>by simp[surF]
 |p::hs,out,f=>by
  rw[surF];split
  ·have:=zk8 frm left hs out f;simp;omega
  ·have:=zk8 frm left hs (out++[(p.1,zbi (p.2/left))]) (f||bigQ (p.2/left));simp at this⊢;omega
variable{g:Grave}
def zk9{s:St}{d:Deed}{i:Nat}(aP:zaL s d.place d.day=some i)(hg:s.graves.getD i zfO=g):
 zbb s d=if zah g.holders d.frm==0 then(s,19)else if(surF d.frm (1-zah g.holders d.frm) g.holders ([],false)).2 then(s,8)else
  (s.withGrave i {g with holders:=(surF d.frm (1-zah g.holders d.frm) g.holders ([],false)).1},0):=by
 obtain⟨h1,h2⟩:=ziJ d.frm (1-zah g.holders d.frm) g.holders [] false;unfold zbb;rw[aP];simp only[hg];rw[Bool.false_or]at h1;rw[<-h1];cases hf:(surF d.frm (1-zah g.holders d.frm) g.holders ([],false)).2
 ·have:=h2 hf;rw[List.nil_append]at this;rw[<-this]
 ·rfl
def zlE{frm:ByteArray}(hG:GoodG g)(ai:zah g.holders frm≠0):zaJ (zah g.holders frm)/\zaJ (1-zah g.holders frm)/\0<=1-zah g.holders frm/\
 ∀p∈g.holders,zae p.1 frm=false->0<1-zah g.holders frm/\zaJ p.2:=by
 have ho:=zbA hG.good frm;have bG:=zdz hG.good frm;have dS:sumQ g.holders=1:=by
  rcases hG.one with h|h
  ·exact absurd h (zdo ai)
  ·exact h
 have hb:=zcN frm hG.small;have qo:zah g.holders frm<=1:=Mdl;have dJ:=zca ho qo hb;have bM:bigQ (1-zah g.holders frm)=false:=by
  have hI:IsN (zah g.holders frm).den (zah g.holders frm):=⟨(zah g.holders frm).num,by
   generalize zah g.holders frm=q;have h1:q=q.num/(q.den:Int):=by rw[<-Rat.divInt_eq_div,Rat.num_divInt_den]
   have h2:((q.den:Int):Rat)≠0:=ratI (by have:=q.den_pos;omega);rw[Rat.intCast_natCast]at h1 h2;conv=>lhs;rw[h1]
   grind⟩
  exact zex (zah g.holders frm).den_pos dJ.2 (zgZ (zha _) hI)
 refine⟨dJ,zca Mdl Mdl bM,by grind,λp hp hs=>?_⟩;have tk:=hG.good.pos p hp;have ie:p∈za0 g.holders frm:=List.mem_filter.2 ⟨hp,by rw[hs];rfl⟩;have h1:=zci (n:=frm) hG.good;have h2:=zgX (l:=za0 g.holders frm) (λq hq=>by have:=(zbJ hG.good (n:=frm)).pos q hq;grind) p ie;refine⟨by grind,zca Mdl Mdl ?_⟩;have:=hG.small;unfold zaE at this;rw[List.any_eq_false]at this;simpa using this p hp
def sl_part{w:World}{b:Nat}{p:ByteArray×Rat}{t:TypeId}{fr:Nat×Nat}(h:w.heap[b]?=some (.cells #[.string p.1,.int .i64 p.2.num,.int .i64 p.2.den] t fr)):Sl w 3 zaa (some ⟨b,0,none⟩) [p]:=λ_=>⟨b,0,rfl,zab h,λk y hy j u hu=>by
 have hk:k=0:=Mc2;subst hk;simp only[List.getElem?_cons_zero,Option.some.injEq]at hy;subst hy;match j,hu with
 |0,hu=>simp[zaa]at hu;simp[World.cell?,h,<-hu]
 |1,hu=>simp[zaa]at hu;simp[World.cell?,h,<-hu]
 |2,hu=>simp[zaa]at hu;simp[World.cell?,h,<-hu]
 |j+3,hu=>simp[zaa]at hu⟩
def sub1_any(q:Rat)(W:World)(hq:zaJ q):Calls Tryz.prog 111 #[.agg #[.int .i64 1,.int .i64 1],.agg #[.int .i64 q.num,.int .i64 q.den]] W (Ret W (zaA (1-q))):=
 zhI 1 q W ⟨by decide,by decide⟩ hq
def zkA(base b:Nat)(s:St)(la co last:Int)(d:Deed)(B:Option Addr)(c:Nat)(w:World)(hW:WldAt base w b s la co)(jC:GoodSt s last)(ag:s.graves.length<=1000)(bQ:∀g∈s.graves,g.holders.length<=10000):
 Calls Tryz.prog 79 #[.pointer (some ⟨b,0,none⟩),d.v B c] w (zbG base b (zbb s d) la co w):=by
 have se:=λi g h1 h2=>zk9 (s:=s) (d:=d) (i:=i) (g:=g) h1 h2
 have am:=hW;obtain⟨Bk,dd,cc,pp,wl,rr,mv,tv,ps,ba,hC,hP,hT⟩:=hW;have cI:=zab hC;obtain⟨kd,dy,pl,fr,ts,cl,yr⟩:=d;simp only at*;obtain⟨bI,HW,HC,HP⟩:=yH4 (λW (hB:Qa w W)=>ziB base b s la co pl dy W (hC.keep hB) (hT.keep hB) McS) am hC hP;cases aP:zaL s pl dy with
 |none=>
  rw[aP]at bI;have HG:Hid (zbb s ⟨kd,dy,pl,fr,ts,cl,yr⟩=(s,6)):=by show _=_;simp[zbb,aP]
  clear aP se am hC hP hT;unfold Deed.v;simp only;go_enter Tryz.func79,Tryz.ntmps79
  exact Maj
 |some i=>
  obtain⟨T,g,gB,iy,aH,bB,gA,kO⟩:=zdI hT aP;have rU:=jC.graves g (List.mem_of_getElem? aH);have ng:=bQ g (List.mem_of_getElem? aH);have gC:=se i g aP bB;have iG:∀W,Qa w W->Calls Tryz.prog 23 #[.pointer (some ⟨b,0,none⟩),.string pl,.int .i64 dy] W (Ret W (.pointer (some ⟨T,0,none⟩))):=λW hB=>by
   exact McK
  have l7:=zHi iG;obtain⟨H,aE,D,dc,frm,t1,t2,t3,t4,t5,t6,t7⟩:=gA;have cz:=zab t1;obtain⟨eN,oN,lA,nS,dW,ez,HT,ru⟩:=yH8 t1 t5 t6 t7 gC rU hT gB;clear iG bI t1 t5 t6 t7 gC rU hT gB iy bB aH kO aP se jC bQ am hC hP;obtain⟨gpl,gcl,gfin,ghs,gdi⟩:=g;simp only at*;unfold zbt at eN;have k4:w.cell? ⟨T,4,none⟩=some (.slice H ghs.length aE):=Mep;obtain⟨own,aa⟩:=Qd (zah ghs fr)
  have gT:=zHi (λW (hB:Qa w W)=>zev ghs H aE T fr W ((hB.cell (p:=⟨T,4,none⟩) cz).trans k4) (Nat.lt_of_lt_of_le cz hB.size) McS ez.o.good.asc (Ro.sl zak (oN.o.keep hB)));have tw:own≠0->_:=λh=>zlE ez.o (frm:=fr) (by rw[<-aa];exact h)
  have eZ:=zHi tw;rw[<-aa]at gT eZ;have jR:=dW.o;clear dW tw;simp only[<-aa,numZ]at jR;have dW:=zHi jR;clear jR;have cR:=zHi aa;clear aa;unfold zaA at gT;unfold Deed.v;simp only;go_enter Tryz.func79,Tryz.ntmps79
  go_upto_region 7 with(first
   |(go_at_call 23;refine(l7.o _ Bw).mono ?_;rintro e wq ⟨rfl,z,rfl⟩)
   |(go_at_call 110;refine(gT.o _ Bw).mono ?_;rintro e wq ⟨rfl,z2,rfl⟩))
  all_goals(try(go_ret;exact zbN HW.o Bw (by rw[dW.o];simp[*];done)))
  have uS:(own.num==0)=false:=Mds;have yK:own≠0:=λe=>by rw[e]at uS;exact absurd uS McU
  obtain⟨iT,yh,jM,eG⟩:=eZ.o yK;have HG:Hid (zbb s ⟨kd,dy,pl,fr,ts,cl,yr⟩=if(surF fr (1-own) ghs ([],false)).2 then(s,8)else(s.withGrave i ⟨gpl,gcl,gfin,(surF fr (1-own) ghs ([],false)).1,gdi⟩,0)):=by
   show _=_;rw[dW.o];simp[*];done
  have lq:=zHi eG;clear dW l7 gT eZ eG;generalize lP:1-own=lf at*;have zX:=zHi lP;clear lP;go_cut [5,6,7]from 8 (λv5 v6 v7 wc=>v5=.pointer (some ⟨T,0,none⟩)/\∃O C,v6=.pointer (some ⟨O,0,none⟩)/\v7=.pointer (some ⟨C,0,none⟩)/\Qa w wc/\w.heap.size<O/\O<C/\C+1=wc.heap.size/\wc.heap[w.heap.size]?=some (.cells #[.int .i64 kd,.int .i64 dy,.string pl,.string fr,.slice B ts.length c,.int .i64 cl,.int .i64 yr] 60)/\wc.heap[O]?=some (zbs own)/\MarkAt wc C false)
  case first=>
   go_wp2_with fail
   go_meet
   refine⟨rfl,_,_,rfl,rfl,Bw,by omega,?_,?_,?_,?_,?_⟩
   ·exact Mbr
   ·exact Mbr
   ·exact MbP
   ·exact MbI
   ·exact zas _ _ _ Md8
  case rest=>
   obtain⟨rfl,O,C,rfl,rfl,hB,hO,hC,hCs,g0,g1,hm⟩:=hcut;obtain⟨W0,rfl⟩:∃x,x=wc:=⟨_,rfl⟩
   have t1:=(hB.block T cz).trans eN.o;obtain⟨m0,m1,m2,m3,m4,m5⟩:=cF6 t1;have KD:T<W0.heap.size:=zab t1;have Ky:T≠W0.heap.size:=McS;have o0:W0.cell? ⟨O,0,none⟩=some (.int .i64 own.num):=by simp only[World.cell?,g1,zbs];rfl
   have o1:W0.cell? ⟨O,1,none⟩=some (.int .i64 own.den):=by simp only[World.cell?,g1,zbs];rfl
   have wL:O<W0.heap.size:=McS;have hOn:O≠W0.heap.size:=McS;obtain⟨G0,HM,JE,eY⟩:=yH4 g0 hm t1 (λW=>sub1_any own W iT);rw[zX.o]at eY;clear g0 g1 t1 hm;go_wp2_with (go_at_call 111;refine(eY.o _).mono ?_;rintro e wq ⟨rfl,z,rfl⟩;simp only[zaA])
   generalize hLL:W0.heap.size+1+z.os.size=L at*;have mz:=zHi hLL;have Ax:W0.heap.size<L:=McS;clear hLL m0 m1 m2 m3 m4 m5 o0 o1;go_loopw [39] (λi wr=>∃(k:Nat) (v:Value) (out:Parts) (fl:Bool),k<=ghs.length/\i=.int .i64 k/\Hid ((out,fl)=surF fr lf (ghs.take k) ([],false))/\MarkAt wr C fl/\zbt wr W0.heap.size gpl gcl frm gfin v (.slice D gdi.length dc)/\OwnS wr W0.heap.size 55 3 zaa v out/\wr.heap[L]?=some (zbs lf)/\Below C W0 wr/\L<wr.heap.size) (λi _=>ghs.length-(intOf i).toNat)
   case atStart=>
    refine⟨0,.slice none 0 0,[],false,Nat.zero_le _,rfl,rfl,?_,?_,OwnS.nil,?_,?_,?_⟩
    ·exact((HM.o.alloc _).ext z).alloc _
    ·exact zal (zbF (zas _ _ _ rfl))
    ·exact zas _ _ _ (by have:=mz.o;simp[zaf];omega)
    ·have ba:Below C W0 W0:=Qb;exact zad (zb2 (zad ba _ McS) _ McS) _ McS
    ·have:=mz.o;simp[zaf];omega
   case round=>
    obtain⟨k,v,out,fl,hk,rfl,HX,hm,cy,eF,eS,il,aZ⟩:=hrel;obtain⟨A1,c1,rfl,rZ,uu⟩:=eF.sl zak;have cX:=zk8 fr lf (ghs.take k) [] false;rw[<-HX.o]at cX;simp only[List.length_nil,Nat.zero_add,List.length_take]at cX;have pk:out.length<=10000:=McS;clear cX rZ;have bn:Qa w wr:=hB.trans (il.mono McS);have pK:wr.cell? ⟨W0.heap.size,4,none⟩=some (.slice A1 out.length c1):=MdD;have fx4:wr.frozen? ⟨W0.heap.size,4,none⟩=false:=by unfold zbt at cy;simp only[World.frozen?,cy];rfl
    have g7:wr.cell? ⟨L,0,none⟩=some (.int .i64 lf.num):=by simp only[World.cell?,eS,zbs];rfl
    have g8:wr.cell? ⟨L,1,none⟩=some (.int .i64 lf.den):=by simp only[World.cell?,eS,zbs];rfl
    have e3:wr.cell? ⟨w.heap.size,3,none⟩=some (.string fr):=(zai il McS).trans Met;obtain⟨HM,fH,dV,mA,tL,bk⟩:=yH6 hm cy eF eS il bn;clear hm cy eF eS il;by_cases ae:k<ghs.length
    ·obtain⟨b',off,rfl,cA,hc⟩:=(Ro.sl zak (oN.o.keep bn)).at ae;have aI:=surF_snoc fr lf ghs ([],false) ae;rw[<-HX.o]at aI;have tk:=lq.o ghs[k] (List.getElem_mem ae);generalize ghs[k]=p at*;obtain⟨pn,pq⟩:=p;have i0:wr.cell? ⟨b',off+k*3,none⟩=some (.string pn):=hc 0 _ rfl;have i1:wr.cell? ⟨b',off+k*3+1,none⟩=some (.int .i64 pq.num):=hc 1 _ rfl;have i2:wr.cell? ⟨b',off+k*3+2,none⟩=some (.int .i64 pq.den):=hc 2 _ rfl;obtain⟨dq,Ca⟩:=yH2 aI tk;have au:(k:Int)<(ghs.length:Int):=McS;have aR:(0:Int)<=(k:Int):=McS;have fZ:(k:Int)<=(aE:Int):=McS;have cK:w.heap.size<wr.heap.size:=McS;have lV:w.heap.size≠wr.heap.size:=McS;have bx:W0.heap.size<wr.heap.size:=McS;have Ir:W0.heap.size≠wr.heap.size:=McS;have hLn:L≠wr.heap.size:=McS;clear hc aI tk bn;by_cases hsb:pn.toList=fr.toList
     ·have eY:=zHi (zeh hsb);have eo:(pn.toList==fr.toList)=true:=by simpa using hsb
      have bi:(pn.toList != fr.toList)=false:=by simp[hsb]
      clear hsb;go_wp2_with fail
      go_round
      case rel=>
       have h1:=dq.o;rw[eY.o]at h1;exact⟨k+1,_,out,fl,by omega,by go_num,(h1.symm:_=_),HM.o.alloc _,zal fH.o,dV.o.keep (n:=wr.heap.size) (zad Qb _),zal mA.o,zad tL.o _ McS,by simp;omega⟩
      case measure=>simp[intOf];omega
     ·have eY:=zHi (ze5 hsb);have eo:(pn.toList==fr.toList)=false:=by simpa using hsb
      have bi:(pn.toList != fr.toList)=true:=by simp[hsb]
      clear hsb;obtain⟨Hx,yR⟩:=Ca.o eY.o;go_upto_region 15 with fail
      refine wp_region_held_drew (S:=(λw'=>w'.cell? ⟨wr.heap.size,0,none⟩=some (.string pn)/\w'.cell? ⟨wr.heap.size,1,none⟩=some (.int .i64 pq.num)/\w'.cell? ⟨wr.heap.size,2,none⟩=some (.int .i64 pq.den)/\w'.cell? ⟨L,0,none⟩=some (.int .i64 lf.num)/\w'.cell? ⟨L,1,none⟩=some (.int .i64 lf.den))) McT ?hS ?hrest
      case hS=>((try dsimp only);refine⟨?_,?_,?_,?_,?_⟩<;>(simp[go_sem,g7,g8,aZ];done))
      case hrest=>
       intro hHeld;refine TkH 0 ?_;refine TkH 2 ?_;refine TkH 3 ?_;refine TkH 4 ?_;refine TkH 5 ?_;refine TkH 6 ?_;refine wpAnyH_ready (rs:=[1,7]) McT McV (AllReadyH.cons (List.getElem?_toArray.trans rfl) (λK hK=>?_) (AllReadyH.cons (List.getElem?_toArray.trans rfl) (λK hK=>?_) AllReadyH.nil))
       ·go_simp
        refine hK.out _ _ ?_ (λhHeld=>?_);focus((try dsimp only);refine⟨?_,?_,?_,?_,?_⟩<;>first|assumption|(simp[go_sem,g7,g8,aZ];done)|(simp[go_sem,a0,a1,a2,l5,l6,yp,yL];done)|(simp[go_sem,z0,z1,z2,z5,z6,zx,zy];done))
        clear hK K;try simp only[Act.put,List.setIfInBounds_toArray,List.set_cons_zero,List.set_cons_succ]
        refine OnH 7 λK hK=>?_
        go_simp
        refine(zos C fl _ ?q1 pq lf yR yh Hx).mono ?_
        case q1=>(repeat(first|exact HM.o|refine MarkAt.drew ?_|refine MarkAt.alloc ?_ _))
        rintro e w5 ⟨rfl,n1,n2⟩;have eh:=n2.size;have y0:w5.heap[wr.heap.size]?=some (.cells #[.string pn,.int .i64 pq.num,.int .i64 pq.den] 55):=(n2.block _ McV McX).trans (zas _ _ _ rfl);obtain⟨a0,a1,a2⟩:=cF3 y0;have yL':w5.heap[L]?=some (zbs lf):=(n2.block _ McX McX).trans (zal mA.o);have l5:w5.cell? ⟨L,0,none⟩=some (.int .i64 lf.num):=MdU;have l6:w5.cell? ⟨L,1,none⟩=some (.int .i64 lf.den):=MdU;have yT:zbt w5 W0.heap.size gpl gcl frm gfin (.slice A1 out.length c1) (.slice D gdi.length dc):=(n2.block _ McX McX).trans (zal fH.o);have y2:w5.cell? ⟨W0.heap.size,4,none⟩=some (.slice A1 out.length c1):=by unfold zbt at yT;simp only[World.cell?,yT];rfl
        have yO:OwnS w5 W0.heap.size 55 3 zaa (.slice A1 out.length c1) out:=by refine OwnS.grown (hg:=n2) ?_ (.inr λe=>by have:=(dV.o.ge _ e).1;omega);exact dV.o.keep (n:=wr.heap.size) Bw
        have yl:=zab yT;have yp:=zab y0;have yL:=zab yL';have yn:W0.heap.size≠w5.heap.size:=McS;have ypn:wr.heap.size≠w5.heap.size:=McS;obtain⟨YT,YO,YL,Y0,N1,N2⟩:=yH6 yT yO yL' y0 n1 n2;clear yT yO yL' n1 n2 y0;simp only[zaA];refine hK.out _ _ ?_ (λhHeld=>?_);focus((try dsimp only);refine⟨?_,?_,?_,?_,?_⟩<;>first|assumption|(simp[go_sem,g7,g8,aZ];done)|(simp[go_sem,a0,a1,a2,l5,l6,yp,yL];done)|(simp[go_sem,z0,z1,z2,z5,z6,zx,zy];done))
        clear hK K;try simp only[Act.put,List.setIfInBounds_toArray,List.set_cons_zero,List.set_cons_succ]
        refine TkH 8 ?_;refine OnH 9 λK hK=>?_
        exact Mc
       ·go_simp
        refine(zos C fl _ ?q1 pq lf yR yh Hx).mono ?_
        case q1=>(repeat(first|exact HM.o|refine MarkAt.drew ?_|refine MarkAt.alloc ?_ _))
        rintro e w5 ⟨rfl,n1,n2⟩;have eh:=n2.size;have y0:w5.heap[wr.heap.size]?=some (.cells #[.string pn,.int .i64 pq.num,.int .i64 pq.den] 55):=(n2.block _ McV McX).trans (zas _ _ _ rfl);obtain⟨a0,a1,a2⟩:=cF3 y0;have yL':w5.heap[L]?=some (zbs lf):=(n2.block _ McX McX).trans (zal mA.o);have l5:w5.cell? ⟨L,0,none⟩=some (.int .i64 lf.num):=MdU;have l6:w5.cell? ⟨L,1,none⟩=some (.int .i64 lf.den):=MdU;have yT:zbt w5 W0.heap.size gpl gcl frm gfin (.slice A1 out.length c1) (.slice D gdi.length dc):=(n2.block _ McX McX).trans (zal fH.o);have y2:w5.cell? ⟨W0.heap.size,4,none⟩=some (.slice A1 out.length c1):=by unfold zbt at yT;simp only[World.cell?,yT];rfl
        have yO:OwnS w5 W0.heap.size 55 3 zaa (.slice A1 out.length c1) out:=by refine OwnS.grown (hg:=n2) ?_ (.inr λe=>by have:=(dV.o.ge _ e).1;omega);exact dV.o.keep (n:=wr.heap.size) Bw
        have yl:=zab yT;have yp:=zab y0;have yL:=zab yL';have yn:W0.heap.size≠w5.heap.size:=McS;have ypn:wr.heap.size≠w5.heap.size:=McS;obtain⟨YT,YO,YL,Y0,N1,N2⟩:=yH6 yT yO yL' y0 n1 n2;clear yT yO yL' n1 n2 y0;simp only[zaA];refine hK.out _ _ ?_ (λhHeld=>?_);focus((try dsimp only);refine⟨?_,?_,?_,?_,?_⟩<;>first|assumption|(simp[go_sem,g7,g8,aZ];done)|(simp[go_sem,a0,a1,a2,l5,l6,yp,yL];done)|(simp[go_sem,z0,z1,z2,z5,z6,zx,zy];done))
        clear hK K;try simp only[Act.put,List.setIfInBounds_toArray,List.set_cons_zero,List.set_cons_succ]
        refine TkH 8 ?_;refine wpAnyH_ready (rs:=[1,9]) McT McV (AllReadyH.cons (List.getElem?_toArray.trans rfl) (λK hK=>?_) (AllReadyH.cons (List.getElem?_toArray.trans rfl) (λK hK=>?_) AllReadyH.nil))
        ·go_simp
         refine hK.out _ _ ?_ (λhHeld=>?_);focus((try dsimp only);refine⟨?_,?_,?_,?_,?_⟩<;>first|assumption|(simp[go_sem,g7,g8,aZ];done)|(simp[go_sem,a0,a1,a2,l5,l6,yp,yL];done)|(simp[go_sem,z0,z1,z2,z5,z6,zx,zy];done))
         clear hK K;try simp only[Act.put,List.setIfInBounds_toArray,List.set_cons_zero,List.set_cons_succ]
         refine OnH 9 λK hK=>?_
         exact Mc
        ·go_simp
         refine hK.out _ _ ?_ (λhHeld=>?_);focus((try dsimp only);refine⟨?_,?_,?_,?_,?_⟩<;>first|assumption|(simp[go_sem,g7,g8,aZ];done)|(simp[go_sem,a0,a1,a2,l5,l6,yp,yL];done)|(simp[go_sem,z0,z1,z2,z5,z6,zx,zy];done))
         clear hK K;try simp only[Act.put,List.setIfInBounds_toArray,List.set_cons_zero,List.set_cons_succ]
         refine OnH 1 λK hK=>?_
         exact Mc
    ·have au:¬(k:Int)<(ghs.length:Int):=McS;have ow:(out,fl)=surF fr lf ghs ([],false):=by rw[HX.o,List.take_of_length_le McS]
     have fW:=(bn.block T cz).trans eN.o;have gH:=zHi fW;have jc:wr.cell? ⟨C,0,none⟩=some (.bool fl):=(zbT HM.o).1;have ik:=HG.o;rw[<-ow]at ik;clear ow HX ez bn g7 g8 e3;cases fl
     ·have tU:=zHi ik;have cy:=fH.o;unfold zbt at cy;obtain⟨n0,n1,n2,n3,-,n5⟩:=cF6 cy;obtain⟨z0,z1,z2,z3,z4,z5⟩:=cF6 fW;have fz:∀j,wr.frozen? ⟨T,j,none⟩=false:=λj=>by simp only[World.frozen?,fW];rfl
      clear ik cy fW;go_wp2_with fail
      go_ret
      have bn:=bk.o;have ej:Ro wr 55 zaa A1 out:=dV.o.ro';have hN:TombAt ((((((wr.setCell ⟨T,0,none⟩ (.string gpl)).setCell ⟨T,1,none⟩ (.int .i64 gcl)).setCell ⟨T,2,none⟩ (.int .i64 frm)).setCell ⟨T,3,none⟩ (.int .i64 gfin)).setCell ⟨T,4,none⟩ (.slice A1 out.length c1)).setCell ⟨T,5,none⟩ (.slice D gdi.length dc)) base Bk T ⟨gpl,gcl,gfin,out,gdi⟩:=
       ⟨A1,c1,D,dc,frm,ziF gH.o _ _ _ _ _ _,t2,uu,t4,ej.kept (zcb _ _ _ _ _ _ _ _) gH.o McU,(lA.o.keep bn).kept (zcb _ _ _ _ _ _ _ _) gH.o McU,nS.o⟩
      have aq:=ziE ba (HC.o.keep bn) (HP.o.keep bn) (HT.o.keep bn) ru.o gH.o (zcb wr T _ _ _ _ _ _) hN;have bW:Below base w wr:=bn.mono McS;have iJ:=zaV bW (zcb wr T (.string gpl) (.int .i64 gcl) (.int .i64 frm) (.int .i64 gfin) (.slice A1 out.length c1) (.slice D gdi.length dc)) t2 McS;have bh:zbb s ⟨kd,dy,pl,fr,ts,cl,yr⟩=(s.withGrave i ⟨gpl,gcl,gfin,out,gdi⟩,0):=tU.o.trans (if_neg McV);exact Ma8
     ·exact Mbb
