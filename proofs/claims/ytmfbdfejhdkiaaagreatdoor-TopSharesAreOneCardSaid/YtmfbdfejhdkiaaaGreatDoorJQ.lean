/- Walk of chapter 5's lines of heirs. -/
import Derived.Test.YtmfbdfejhdkiaaaGreatDoorJN
set_option linter.all false
set_option maxRecDepth 100000
set_option maxHeartbeats 4000000
namespace Go.Proofs.YtmfbdfejhdkiaaaGreatDoor
open Go.RowKit Go.Shelf
attribute [local go_sem] World.cell?_alloc_mark zae za4 zao za8 zav zaw zax zay zaz za0 za1
attribute [local go_sem] zap zac
def surF(frm:ByteArray)(left:Rat):Parts->Parts×Bool->Parts×Bool
 | [],x=>x
 |p::l,x=>surF frm left l (if zaf p.1 frm then x else(x.1++[(p.1,zbi (p.2/left))],x.2||bigQ (p.2/left)))
theorem zi6(frm:ByteArray)(left:Rat):∀(a b:Parts) (x:Parts×Bool),surF frm left (a++b) x=surF frm left b (surF frm left a x)
 | [],_,_=>rfl
 |p::a,b,x=>zi6 frm left a b _
theorem surF_snoc(frm:ByteArray)(left:Rat)(hs:Parts)(x:Parts×Bool){k:Nat}(h:k<hs.length):surF frm left (hs.take (k+1)) x=if zaf hs[k].1 frm then surF frm left (hs.take k) x else((surF frm left (hs.take k) x).1++[(hs[k].1,zbi (hs[k].2/left))],(surF frm left (hs.take k) x).2||bigQ (hs[k].2/left)):=by
 rw[List.take_succ_eq_append_getElem h,zi6];rfl
theorem zi7(frm:ByteArray)(left:Rat):∀(hs out:Parts) (f:Bool),(surF frm left hs (out,f)).2=(f||zaG ((zar hs frm).map fun p=>(p.1,p.2/left)))/\
 ((surF frm left hs (out,f)).2=false->(surF frm left hs (out,f)).1=out++(zar hs frm).map fun p=>(p.1,p.2/left))
 | [],out,f=>by simp[surF,zar,zaG]
 |p::hs,out,f=>by
  rw[surF];cases hp:zaf p.1 frm
  ·have e:zar (p::hs) frm=p::zar hs frm:=by unfold zar;rw[List.filter_cons,hp];rfl
   obtain⟨h1,h2⟩:=zi7 frm left hs (out++[(p.1,zbi (p.2/left))]) (f||bigQ (p.2/left));simp only[Bool.false_eq_true,if_false];rw[e,List.map_cons];refine⟨by rw[h1];unfold zaG;rw[List.any_cons,Bool.or_assoc],fun h=>?_⟩;rw[h2 h];rw[h1,Bool.or_eq_false_iff,Bool.or_eq_false_iff]at h;rw[zfd h.1.2];simp
  ·have e:zar (p::hs) frm=zar hs frm:=by unfold zar;rw[List.filter_cons,hp];rfl
   simp only[if_true];rw[e];exact zi7 frm left hs out f
theorem zkq(frm:ByteArray)(left:Rat):∀(hs out:Parts) (f:Bool),(surF frm left hs (out,f)).1.length<=out.length+hs.length
 | [],out,f=>by simp[surF]
 |p::hs,out,f=>by
  rw[surF];split
  ·have:=zkq frm left hs out f;simp;omega
  ·have:=zkq frm left hs (out++[(p.1,zbi (p.2/left))]) (f||bigQ (p.2/left));simp at this⊢;omega
theorem zkr{s:St}{d:Deed}{i:Nat}{g:Grave}(bf:zaS s d.place d.day=some i)(hg:s.graves.getD i zjj=g):
 zba s d=if zag g.holders d.frm==0 then(s,19)else if(surF d.frm (1-zag g.holders d.frm) g.holders ([],false)).2 then(s,8)else
  (s.withGrave i {g with holders:=(surF d.frm (1-zag g.holders d.frm) g.holders ([],false)).1},0):=by
 obtain⟨h1,h2⟩:=zi7 d.frm (1-zag g.holders d.frm) g.holders [] false;unfold zba;rw[bf];simp only[hg];rw[Bool.false_or]at h1;rw[<-h1];cases hf:(surF d.frm (1-zag g.holders d.frm) g.holders ([],false)).2
 ·have:=h2 hf;rw[List.nil_append]at this;rw[<-this]
 ·rfl
theorem zlu{g:Grave}{frm:ByteArray}(hG:GoodG g)(ag:zag g.holders frm≠0):zaL (zag g.holders frm)/\zaL (1-zag g.holders frm)/\0<=1-zag g.holders frm/\
 ∀p∈g.holders,zaf p.1 frm=false->0<1-zag g.holders frm/\zaL p.2:=by
 have ho:=zb7 hG.good frm;have bu:=zdz hG.good frm;have dS:sumQ g.holders=1:=by
  rcases hG.one with h|h
  ·exact absurd h (zdm ag)
  ·exact h
 have hb:=zcQ frm hG.small;have qk:zag g.holders frm<=1:=McN;have cU:=zbZ ho qk hb;have bC:bigQ (1-zag g.holders frm)=false:=by
  have hI:IsN (zag g.holders frm).den (zag g.holders frm):=⟨(zag g.holders frm).num,by
   generalize zag g.holders frm=q;have h1:q=q.num/(q.den:Int):=by rw[<-Rat.divInt_eq_div,Rat.num_divInt_den]
   have h2:((q.den:Int):Rat)≠0:=ratI (by have:=q.den_pos;omega);rw[Rat.intCast_natCast]at h1 h2;conv=>lhs;rw[h1]
   grind⟩
  exact zeu (zag g.holders frm).den_pos cU.2 (zhd (zhe _) hI)
 refine⟨cU,zbZ McN McN bC,by grind,fun p hp hs=>?_⟩;have tq:=hG.good.pos p hp;have gU:p∈zar g.holders frm:=List.mem_filter.2 ⟨hp,by rw[hs];rfl⟩;have h1:=zcj (n:=frm) hG.good;have h2:=zf4 (l:=zar g.holders frm) (fun q hq=>by have:=(zbE hG.good (n:=frm)).pos q hq;grind) p gU;refine⟨by grind,zbZ McN McN ?_⟩;have:=hG.small;unfold zaG at this;rw[List.any_eq_false]at this;simpa using this p hp
theorem sl_part{w:World}{b:Nat}{p:ByteArray×Rat}{t:TypeId}{fr:Nat×Nat}(h:w.heap[b]?=some (.cells #[.string p.1,.int .i64 p.2.num,.int .i64 p.2.den] t fr)):Sl w 3 zaa (some ⟨b,0,none⟩) [p]:=fun _=>⟨b,0,rfl,zab h,fun k y hy j u hu=>by
 have hk:k=0:=McD;subst hk;simp only[List.getElem?_cons_zero,Option.some.injEq]at hy;subst hy;match j,hu with
 |0,hu=>simp[zaa]at hu;simp[World.cell?,h,<-hu]
 |1,hu=>simp[zaa]at hu;simp[World.cell?,h,<-hu]
 |2,hu=>simp[zaa]at hu;simp[World.cell?,h,<-hu]
 |j+3,hu=>simp[zaa]at hu⟩
theorem sub1_any(q:Rat)(W:World)(hq:zaL q):Calls Tryz.prog 90 #[.agg #[.int .i64 1,.int .i64 1],.agg #[.int .i64 q.num,.int .i64 q.den]] W (Ret W (zaD (1-q))):=
 zhE 1 q W ⟨by decide,by decide⟩ hq
theorem zks(base b:Nat)(s:St)(la co last:Int)(d:Deed)(B:Option Addr)(c:Nat)(w:World)(hW:WldAt base w b s la co)(jm:GoodSt s last)(ae:s.graves.length<=1000)(cg:∀g∈s.graves,g.holders.length<=10000):
 Calls Tryz.prog 52 #[.pointer (some ⟨b,0,none⟩),d.v B c] w (zbC base b (zba s d) la co w):=by
 have se:=fun i g h1 h2=>zkr (s:=s) (d:=d) (i:=i) (g:=g) h1 h2
 have am:=hW;obtain⟨Bk,dd,cc,pp,wl,rr,mv,tv,ps,aN,hC,hP,hT⟩:=hW;have cJ:=zab hC;obtain⟨kd,dy,pl,fr,ts,cl,yr⟩:=d;simp only at*;obtain⟨cu,HW,HC,HP⟩:=yH4 (fun W (hB:Qa w W)=>zjD base b s la co pl dy W (hC.keep hB) (hT.keep hB) Mcq) am hC hP;cases bf:zaS s pl dy with
 |none=>
  rw[bf]at cu;have HG:Hid (zba s ⟨kd,dy,pl,fr,ts,cl,yr⟩=(s,6)):=by show _=_;simp[zba,bf]
  clear bf se am hC hP hT;unfold Deed.v;simp only;go_enter Tryz.func52,Tryz.ntmps52
  exact Mab
 |some i=>
  obtain⟨T,g,ib,ia,aK,bL,jS,kB⟩:=zex hT bf;have rV:=jm.graves g (List.mem_of_getElem? aK);have mM:=cg g (List.mem_of_getElem? aK);have g9:=se i g bf bL;have ip:∀W,Qa w W->Calls Tryz.prog 31 #[.pointer (some ⟨b,0,none⟩),.string pl,.int .i64 dy] W (Ret W (.pointer (some ⟨T,0,none⟩))):=fun W hB=>by
   exact MaW
  have kS:=zHi ip;obtain⟨H,aI,D,dc,frm,t1,t2,t3,t4,t5,t6,t7⟩:=jS;have cZ:=zab t1;obtain⟨dJ,oy,kZ,nI,eu,ej,HT,rq⟩:=yH8 t1 t5 t6 t7 g9 rV hT ib;clear ip cu t1 t5 t6 t7 g9 rV hT ib ia bL aK kB bf se jm cg am hC hP;obtain⟨gpl,gcl,gfin,ghs,gdi⟩:=g;simp only at*;unfold zb1 at dJ;have k4:w.cell? ⟨T,4,none⟩=some (.slice H ghs.length aI):=Md2;obtain⟨own,ac⟩:=Qd (zag ghs fr)
  have eO:=zHi (fun W (hB:Qa w W)=>zev ghs H aI T fr W ((hB.cell (p:=⟨T,4,none⟩) cZ).trans k4) (Nat.lt_of_lt_of_le cZ hB.size) Mcq ej.o.good.asc (Ro.sl zai (oy.o.keep hB)));have tA:own≠0->_:=fun h=>zlu ej.o (frm:=fr) (by rw[<-ac];exact h)
  have eN:=zHi tA;rw[<-ac]at eO eN;have jE:=eu.o;clear eu tA;simp only[<-ac,numZ]at jE;have eu:=zHi jE;clear jE;have eo:=zHi ac;clear ac;unfold zaD at eO;unfold Deed.v;simp only;go_enter Tryz.func52,Tryz.ntmps52
  go_upto_region 7 with(first
   |(go_at_call 31;refine(kS.o _ Bw).mono ?_;rintro e wq ⟨rfl,z,rfl⟩)
   |(go_at_call 89;refine(eO.o _ Bw).mono ?_;rintro e wq ⟨rfl,z2,rfl⟩))
  all_goals(try(go_ret;exact zbK HW.o Bw (by rw[eu.o];simp[*];done)))
  have uO:(own.num==0)=false:=Mc3;have yD:own≠0:=fun e=>by rw[e]at uO;exact absurd uO Mcu
  obtain⟨iE,xV,jA,cT⟩:=eN.o yD;have HG:Hid (zba s ⟨kd,dy,pl,fr,ts,cl,yr⟩=if(surF fr (1-own) ghs ([],false)).2 then(s,8)else(s.withGrave i ⟨gpl,gcl,gfin,(surF fr (1-own) ghs ([],false)).1,gdi⟩,0)):=by
   show _=_;rw[eu.o];simp[*];done
  have kY:=zHi cT;clear eu kS eO eN cT;generalize ll:1-own=lf at*;have zI:=zHi ll;clear ll;go_cut [5,6,7]from 8 (fun v5 v6 v7 wc=>v5=.pointer (some ⟨T,0,none⟩)/\∃O C,v6=.pointer (some ⟨O,0,none⟩)/\v7=.pointer (some ⟨C,0,none⟩)/\Qa w wc/\w.heap.size<O/\O<C/\C+1=wc.heap.size/\wc.heap[w.heap.size]?=some (.cells #[.int .i64 kd,.int .i64 dy,.string pl,.string fr,.slice B ts.length c,.int .i64 cl,.int .i64 yr] 28)/\wc.heap[O]?=some (zbw own)/\MarkAt wc C false)
  case first=>
   go_wp2_with fail
   go_meet
   refine⟨rfl,_,_,rfl,rfl,Bw,by omega,?_,?_,?_,?_,?_⟩
   ·exact Ma7
   ·exact Ma7
   ·exact Mbx
   ·exact Mbq
   ·exact zat _ _ _ MdF
  case rest=>
   obtain⟨rfl,O,C,rfl,rfl,hB,hO,hC,hCs,g0,g1,hm⟩:=hcut;obtain⟨W0,rfl⟩:∃x,x=wc:=⟨_,rfl⟩
   have t1:=(hB.block T cZ).trans dJ.o;obtain⟨m0,m1,m2,m3,m4,m5⟩:=cF6 t1;have KJ:T<W0.heap.size:=zab t1;have KF:T≠W0.heap.size:=Mcq;have o0:W0.cell? ⟨O,0,none⟩=some (.int .i64 own.num):=by simp only[World.cell?,g1,zbw];rfl
   have o1:W0.cell? ⟨O,1,none⟩=some (.int .i64 own.den):=by simp only[World.cell?,g1,zbw];rfl
   have wK:O<W0.heap.size:=Mcq;have hOn:O≠W0.heap.size:=Mcq;obtain⟨G0,HM,JF,eM⟩:=yH4 g0 hm t1 (fun W=>sub1_any own W iE);rw[zI.o]at eM;clear g0 g1 t1 hm;go_wp2_with (go_at_call 90;refine(eM.o _).mono ?_;rintro e wq ⟨rfl,z,rfl⟩;simp only[zaD])
   generalize hLL:W0.heap.size+1+z.os.size=L at*;have jN:=zHi hLL;have Ah:W0.heap.size<L:=Mcq;clear hLL m0 m1 m2 m3 m4 m5 o0 o1;go_loopw [39] (fun i wr=>∃(k:Nat) (v:Value) (out:Parts) (fl:Bool),k<=ghs.length/\i=.int .i64 k/\Hid ((out,fl)=surF fr lf (ghs.take k) ([],false))/\MarkAt wr C fl/\zb1 wr W0.heap.size gpl gcl frm gfin v (.slice D gdi.length dc)/\OwnS wr W0.heap.size 59 3 zaa v out/\wr.heap[L]?=some (zbw lf)/\Below C W0 wr/\L<wr.heap.size) (fun i _=>ghs.length-(intOf i).toNat)
   case atStart=>
    refine⟨0,.slice none 0 0,[],false,Nat.zero_le _,rfl,rfl,?_,?_,OwnS.nil,?_,?_,?_⟩
    ·exact((HM.o.alloc _).ext z).alloc _
    ·exact zal (zby (zat _ _ _ rfl))
    ·exact zat _ _ _ (by have:=jN.o;simp[zae];omega)
    ·have aN:Below C W0 W0:=Qb;exact zad (zaZ (zad aN _ Mcq) _ Mcq) _ Mcq
    ·have:=jN.o;simp[zae];omega
   case round=>
    obtain⟨k,v,out,fl,hk,rfl,HX,hm,cq,ez,jZ,hJ,be⟩:=hrel;obtain⟨A1,c1,rfl,rZ,pY⟩:=ez.sl zai;have ci:=zkq fr lf (ghs.take k) [] false;rw[<-HX.o]at ci;simp only[List.length_nil,Nat.zero_add,List.length_take]at ci;have pf:out.length<=10000:=Mcq;clear ci rZ;have aY:Qa w wr:=hB.trans (hJ.mono Mcq);have qH:wr.cell? ⟨W0.heap.size,4,none⟩=some (.slice A1 out.length c1):=Mc8;have fx4:wr.frozen? ⟨W0.heap.size,4,none⟩=false:=by unfold zb1 at cq;simp only[World.frozen?,cq];rfl
    have fJ:wr.cell? ⟨L,0,none⟩=some (.int .i64 lf.num):=by simp only[World.cell?,jZ,zbw];rfl
    have fK:wr.cell? ⟨L,1,none⟩=some (.int .i64 lf.den):=by simp only[World.cell?,jZ,zbw];rfl
    have e3:wr.cell? ⟨w.heap.size,3,none⟩=some (.string fr):=(zah hJ Mcq).trans Md7;obtain⟨HM,ft,dV,lR,tN,aU⟩:=yH6 hm cq ez jZ hJ aY;clear hm cq ez jZ hJ;by_cases aa:k<ghs.length
    ·obtain⟨b',off,rfl,cI,hc⟩:=(Ro.sl zai (oy.o.keep aY)).at aa;have aD:=surF_snoc fr lf ghs ([],false) aa;rw[<-HX.o]at aD;have tq:=kY.o ghs[k] (List.getElem_mem aa);generalize ghs[k]=p at*;obtain⟨pn,pq⟩:=p;have i0:wr.cell? ⟨b',off+k*3,none⟩=some (.string pn):=hc 0 _ rfl;have i1:wr.cell? ⟨b',off+k*3+1,none⟩=some (.int .i64 pq.num):=hc 1 _ rfl;have i2:wr.cell? ⟨b',off+k*3+2,none⟩=some (.int .i64 pq.den):=hc 2 _ rfl;obtain⟨dl,Jq⟩:=yH2 aD tq;have ar:(k:Int)<(ghs.length:Int):=Mcq;have aR:(0:Int)<=(k:Int):=Mcq;have jY:(k:Int)<=(aI:Int):=Mcq;have bY:w.heap.size<wr.heap.size:=Mcq;have kN:w.heap.size≠wr.heap.size:=Mcq;have bX:W0.heap.size<wr.heap.size:=Mcq;have Ir:W0.heap.size≠wr.heap.size:=Mcq;have hLn:L≠wr.heap.size:=Mcq;clear hc aD tq aY;by_cases hsb:pn.toList=fr.toList
     ·have eM:=zHi (zei hsb);have ee:(pn.toList==fr.toList)=true:=by simpa using hsb
      have bk:(pn.toList != fr.toList)=false:=by simp[hsb]
      clear hsb;go_wp2_with fail
      go_round
      case rel=>
       have h1:=dl.o;rw[eM.o]at h1;exact⟨k+1,_,out,fl,by omega,by go_num,(h1.symm:_=_),HM.o.alloc _,zal ft.o,dV.o.keep (n:=wr.heap.size) (zad Qb _),zal lR.o,zad tN.o _ Mcq,by simp;omega⟩
      case measure=>simp[intOf];omega
     ·have eM:=zHi (ze3 hsb);have ee:(pn.toList==fr.toList)=false:=by simpa using hsb
      have bk:(pn.toList != fr.toList)=true:=by simp[hsb]
      clear hsb;obtain⟨Ht,yH⟩:=Jq.o eM.o;go_upto_region 15 with fail
      refine wp_region_held_drew (S:=(fun w'=>w'.cell? ⟨wr.heap.size,0,none⟩=some (.string pn)/\w'.cell? ⟨wr.heap.size,1,none⟩=some (.int .i64 pq.num)/\w'.cell? ⟨wr.heap.size,2,none⟩=some (.int .i64 pq.den)/\w'.cell? ⟨L,0,none⟩=some (.int .i64 lf.num)/\w'.cell? ⟨L,1,none⟩=some (.int .i64 lf.den))) Mcs ?hS ?hrest
      case hS=>((try dsimp only);refine⟨?_,?_,?_,?_,?_⟩<;>(simp[go_sem,fJ,fK,be];done))
      case hrest=>
       intro hHeld;refine TkH 0 ?_;refine TkH 2 ?_;refine TkH 3 ?_;refine TkH 4 ?_;refine TkH 5 ?_;refine TkH 6 ?_;refine wpAnyH_ready (rs:=[1,7]) Mcs Mcv (AllReadyH.cons (List.getElem?_toArray.trans rfl) (fun K hK=>?_) (AllReadyH.cons (List.getElem?_toArray.trans rfl) (fun K hK=>?_) AllReadyH.nil))
       ·go_simp
        refine hK.out _ _ ?_ (fun hHeld=>?_);focus((try dsimp only);refine⟨?_,?_,?_,?_,?_⟩<;>first|assumption|(simp[go_sem,fJ,fK,be];done)|(simp[go_sem,a0,a1,a2,l5,l6,yp,yL];done)|(simp[go_sem,z0,z1,z2,z5,z6,zx,zy];done))
        clear hK K;try simp only[Act.put,List.setIfInBounds_toArray,List.set_cons_zero,List.set_cons_succ]
        refine OnH 7 fun K hK=>?_
        go_simp
        refine(znO C fl _ ?q1 pq lf yH xV Ht).mono ?_
        case q1=>(repeat(first|exact HM.o|refine MarkAt.drew ?_|refine MarkAt.alloc ?_ _))
        rintro e w5 ⟨rfl,n1,n2⟩;have dY:=n2.size;have y0:w5.heap[wr.heap.size]?=some (.cells #[.string pn,.int .i64 pq.num,.int .i64 pq.den] 59):=(n2.block _ Mcv Mcw).trans (zat _ _ _ rfl);obtain⟨a0,a1,a2⟩:=cF3 y0;have yL':w5.heap[L]?=some (zbw lf):=(n2.block _ Mcw Mcw).trans (zal lR.o);have l5:w5.cell? ⟨L,0,none⟩=some (.int .i64 lf.num):=Mdx;have l6:w5.cell? ⟨L,1,none⟩=some (.int .i64 lf.den):=Mdx;have yT:zb1 w5 W0.heap.size gpl gcl frm gfin (.slice A1 out.length c1) (.slice D gdi.length dc):=(n2.block _ Mcw Mcw).trans (zal ft.o);have y2:w5.cell? ⟨W0.heap.size,4,none⟩=some (.slice A1 out.length c1):=by unfold zb1 at yT;simp only[World.cell?,yT];rfl
        have yO:OwnS w5 W0.heap.size 59 3 zaa (.slice A1 out.length c1) out:=by refine OwnS.grown (hg:=n2) ?_ (.inr fun e=>by have:=(dV.o.ge _ e).1;omega);exact dV.o.keep (n:=wr.heap.size) Bw
        have yl:=zab yT;have yp:=zab y0;have yL:=zab yL';have yn:W0.heap.size≠w5.heap.size:=Mcq;have ypn:wr.heap.size≠w5.heap.size:=Mcq;obtain⟨YT,YO,YL,Y0,N1,N2⟩:=yH6 yT yO yL' y0 n1 n2;clear yT yO yL' n1 n2 y0;simp only[zaD];refine hK.out _ _ ?_ (fun hHeld=>?_);focus((try dsimp only);refine⟨?_,?_,?_,?_,?_⟩<;>first|assumption|(simp[go_sem,fJ,fK,be];done)|(simp[go_sem,a0,a1,a2,l5,l6,yp,yL];done)|(simp[go_sem,z0,z1,z2,z5,z6,zx,zy];done))
        clear hK K;try simp only[Act.put,List.setIfInBounds_toArray,List.set_cons_zero,List.set_cons_succ]
        refine TkH 8 ?_;refine OnH 9 fun K hK=>?_
        exact Mc
       ·go_simp
        refine(znO C fl _ ?q1 pq lf yH xV Ht).mono ?_
        case q1=>(repeat(first|exact HM.o|refine MarkAt.drew ?_|refine MarkAt.alloc ?_ _))
        rintro e w5 ⟨rfl,n1,n2⟩;have dY:=n2.size;have y0:w5.heap[wr.heap.size]?=some (.cells #[.string pn,.int .i64 pq.num,.int .i64 pq.den] 59):=(n2.block _ Mcv Mcw).trans (zat _ _ _ rfl);obtain⟨a0,a1,a2⟩:=cF3 y0;have yL':w5.heap[L]?=some (zbw lf):=(n2.block _ Mcw Mcw).trans (zal lR.o);have l5:w5.cell? ⟨L,0,none⟩=some (.int .i64 lf.num):=Mdx;have l6:w5.cell? ⟨L,1,none⟩=some (.int .i64 lf.den):=Mdx;have yT:zb1 w5 W0.heap.size gpl gcl frm gfin (.slice A1 out.length c1) (.slice D gdi.length dc):=(n2.block _ Mcw Mcw).trans (zal ft.o);have y2:w5.cell? ⟨W0.heap.size,4,none⟩=some (.slice A1 out.length c1):=by unfold zb1 at yT;simp only[World.cell?,yT];rfl
        have yO:OwnS w5 W0.heap.size 59 3 zaa (.slice A1 out.length c1) out:=by refine OwnS.grown (hg:=n2) ?_ (.inr fun e=>by have:=(dV.o.ge _ e).1;omega);exact dV.o.keep (n:=wr.heap.size) Bw
        have yl:=zab yT;have yp:=zab y0;have yL:=zab yL';have yn:W0.heap.size≠w5.heap.size:=Mcq;have ypn:wr.heap.size≠w5.heap.size:=Mcq;obtain⟨YT,YO,YL,Y0,N1,N2⟩:=yH6 yT yO yL' y0 n1 n2;clear yT yO yL' n1 n2 y0;simp only[zaD];refine hK.out _ _ ?_ (fun hHeld=>?_);focus((try dsimp only);refine⟨?_,?_,?_,?_,?_⟩<;>first|assumption|(simp[go_sem,fJ,fK,be];done)|(simp[go_sem,a0,a1,a2,l5,l6,yp,yL];done)|(simp[go_sem,z0,z1,z2,z5,z6,zx,zy];done))
        clear hK K;try simp only[Act.put,List.setIfInBounds_toArray,List.set_cons_zero,List.set_cons_succ]
        refine TkH 8 ?_;refine wpAnyH_ready (rs:=[1,9]) Mcs Mcv (AllReadyH.cons (List.getElem?_toArray.trans rfl) (fun K hK=>?_) (AllReadyH.cons (List.getElem?_toArray.trans rfl) (fun K hK=>?_) AllReadyH.nil))
        ·go_simp
         refine hK.out _ _ ?_ (fun hHeld=>?_);focus((try dsimp only);refine⟨?_,?_,?_,?_,?_⟩<;>first|assumption|(simp[go_sem,fJ,fK,be];done)|(simp[go_sem,a0,a1,a2,l5,l6,yp,yL];done)|(simp[go_sem,z0,z1,z2,z5,z6,zx,zy];done))
         clear hK K;try simp only[Act.put,List.setIfInBounds_toArray,List.set_cons_zero,List.set_cons_succ]
         refine OnH 9 fun K hK=>?_
         exact Mc
        ·go_simp
         refine hK.out _ _ ?_ (fun hHeld=>?_);focus((try dsimp only);refine⟨?_,?_,?_,?_,?_⟩<;>first|assumption|(simp[go_sem,fJ,fK,be];done)|(simp[go_sem,a0,a1,a2,l5,l6,yp,yL];done)|(simp[go_sem,z0,z1,z2,z5,z6,zx,zy];done))
         clear hK K;try simp only[Act.put,List.setIfInBounds_toArray,List.set_cons_zero,List.set_cons_succ]
         refine OnH 1 fun K hK=>?_
         exact Mc
    ·have ar:¬(k:Int)<(ghs.length:Int):=Mcq;have nZ:(out,fl)=surF fr lf ghs ([],false):=by rw[HX.o,List.take_of_length_le Mcq]
     have jq:=(aY.block T cZ).trans dJ.o;have nB:=zHi jq;have iU:wr.cell? ⟨C,0,none⟩=some (.bool fl):=(zbR HM.o).1;have fQ:=HG.o;rw[<-nZ]at fQ;clear nZ HX ej aY fJ fK e3;cases fl
     ·have tS:=zHi fQ;have cq:=ft.o;unfold zb1 at cq;obtain⟨n0,n1,n2,n3,-,n5⟩:=cF6 cq;obtain⟨z0,z1,z2,z3,z4,z5⟩:=cF6 jq;have fz:∀j,wr.frozen? ⟨T,j,none⟩=false:=fun j=>by simp only[World.frozen?,jq];rfl
      clear fQ cq jq;go_wp2_with fail
      go_ret
      have aY:=aU.o;have dZ:Ro wr 59 zaa A1 out:=dV.o.ro';have hN:TombAt ((((((wr.setCell ⟨T,0,none⟩ (.string gpl)).setCell ⟨T,1,none⟩ (.int .i64 gcl)).setCell ⟨T,2,none⟩ (.int .i64 frm)).setCell ⟨T,3,none⟩ (.int .i64 gfin)).setCell ⟨T,4,none⟩ (.slice A1 out.length c1)).setCell ⟨T,5,none⟩ (.slice D gdi.length dc)) base Bk T ⟨gpl,gcl,gfin,out,gdi⟩:=
       ⟨A1,c1,D,dc,frm,zi3 nB.o _ _ _ _ _ _,t2,pY,t4,dZ.kept (zca _ _ _ _ _ _ _ _) nB.o Mcu,(kZ.o.keep aY).kept (zca _ _ _ _ _ _ _ _) nB.o Mcu,nI.o⟩
      have ai:=zi2 aN (HC.o.keep aY) (HP.o.keep aY) (HT.o.keep aY) rq.o nB.o (zca wr T _ _ _ _ _ _) hN;have eV:Below base w wr:=aY.mono Mcq;have mz:=zbp eV (zca wr T (.string gpl) (.int .i64 gcl) (.int .i64 frm) (.int .i64 gfin) (.slice A1 out.length c1) (.slice D gdi.length dc)) t2 Mcq;have bl:zba s ⟨kd,dy,pl,fr,ts,cl,yr⟩=(s.withGrave i ⟨gpl,gcl,gfin,out,gdi⟩,0):=tS.o.trans (if_neg Mcv);exact MaU
     ·exact MaX
def HeirAt(W:World)(h b:Nat)(law:Law)(who:ByteArray)(C m:Nat):Prop:=
 W.heap[h]?=some (.cells #[.pointer (some ⟨b,0,none⟩),.int .i64 law.frm,.bool law.stems,.int .i64 law.num,.int .i64 law.den,.string who,.pointer (some ⟨C,0,none⟩),.map (some m)] 176)
def zi8(s:St)(n frm:ByteArray):Bool:=!zaf n frm&&!zaP s n&&!s.renounce.any (fun r=>zaf r.1 n&&zaf r.2 frm)
theorem able_q(s:St)(n frm:ByteArray):zeb s n frm=(!noB n&&zi8 s n frm):=by
 unfold zeb zi8;simp only[Bool.and_assoc]
theorem zkt(base b h C m:Nat)(s:St)(law:Law)(who n:ByteArray)(w:World)(hW:PeoAt base w b s)(hH:HeirAt w h b law who C m):
 Calls Tryz.prog 139 #[.pointer (some ⟨h,0,none⟩),.string n] w (Ret w (.bool (zi8 s n who))):=by
 obtain⟨B,d,c,p,wl,r,mv,tv,la,co,h1,h2⟩:=hW;have hb:=zab h1;have hh:=zab hH;unfold WldC at h1;unfold HeirAt at hH;obtain⟨c0,-,-,-,-,c5⟩:=cF6 h1;obtain⟨e0,-,-,-,-,e5⟩:=cF6 hH;have dP:∀q',(Instr.lookup 79 (.map (some d)) (.string n) false).run Tryz.prog (w.drewN q')=.ok (.bool (zaP s n)) (w.drewN q'):=fun q'=>zd0 (h2.drewN q') _
 have gN:∀q',(Instr.lookup 82 (.map (some r)) (.agg #[.string n,.string who]) false).run Tryz.prog (w.drewN q')=.ok (.bool (s.renounce.any fun x=>zaf x.1 n&&zaf x.2 who)) (w.drewN q'):=fun q'=>znM (h2.drewN q') _ _
 have hU:zi8 s n who=(!zaf n who&&!zaP s n&&!(s.renounce.any fun x=>zaf x.1 n&&zaf x.2 who)):=rfl;have HU:=zHi hU;clear hU;generalize zi8 s n who=R at*;generalize zaP s n=dd at*;generalize(s.renounce.any fun x=>zaf x.1 n&&zaf x.2 who)=rr at*;have cU:zaf n who=(n.toList==who.toList):=rfl;rw[cU]at HU;clear h1 h2 hH cU;go_enter Tryz.func139,Tryz.ntmps139
 cases hn:(n.toList==who.toList)
 ·have dY:(n.toList != who.toList)=true:=by rw[bne,hn];rfl
  rw[hn]at HU;cases dd
  ·exact MaA
  ·exact MaA
 ·have dY:(n.toList != who.toList)=false:=by rw[bne,hn];rfl
  rw[hn]at HU;exact MaA
def HasAt(W:World)(m:Nat)(out:Parts):Prop:=
 ∃mm:List (ByteArray×Value),MapS W m ekS (fun v:Value=>v) mm/\(mm.map (·.1)).Nodup/\∀n,(mget eqS n mm=none/\zag out n=0)\/mget eqS n mm=some (zaD (zag out n))
theorem HasAt.keep{n m:Nat}{W W':World}{out:Parts}(h:HasAt W m out)(hB:Below n W W')(hn:W.heap.size<=n:=by first|exact Qc|omega):HasAt W' m out:=by
 obtain⟨mm,h1,h2,h3⟩:=h;exact⟨mm,h1.below hB hn,h2,h3⟩
theorem HasAt.block{m:Nat}{W W':World}{out:Parts}(h:HasAt W m out)(hb:W'.heap[m]?=W.heap[m]?):HasAt W' m out:=by
 obtain⟨mm,h1,h2,h3⟩:=h;exact⟨mm,h1.keep hb,h2,h3⟩
theorem HasAt.lt{m:Nat}{W:World}{out:Parts}(h:HasAt W m out):m<W.heap.size:=by
 obtain⟨mm,h1,h2,h3⟩:=h;exact h1.at.lt
structure Two2 (w w':World) (C m:Nat):Prop where
 below:∀n,n<=C->n<=m->n<=w.heap.size->Below n w w'
 others:∀k,k<w.heap.size->k≠C->k≠m->w'.heap[k]?=w.heap[k]?
 size:w.heap.size<=w'.heap.size
theorem Two2.of_below{w w':World}{C m:Nat}(h:Qa w w'):Two2 w w' C m:=⟨fun n _ _ hn=>h.mono hn,fun k hk _ _=>h.block k hk,h.size⟩
theorem Two2.trans{a b c:World}{C m:Nat}(h:Two2 a b C m)(k:Two2 b c C m):Two2 a c C m:=
 ⟨fun n h1 h2 h3=>(h.below n h1 h2 h3).trans (k.below n h1 h2 (Nat.le_trans h3 h.size)),fun i hi h1 h2=>(k.others i (Nat.lt_of_lt_of_le hi h.size) h1 h2).trans (h.others i hi h1 h2),Nat.le_trans h.size k.size⟩
theorem Two2.grownC{w w':World}{C m:Nat}(h:w.grownBy w' (some C)):Two2 w w' C m:=
 ⟨fun n h1 _ hn=>zbp Qb h h1 hn,fun k hk h1 _=>h.block k hk (fun e=>h1 MdP),h.size⟩
theorem Two2.grownM{w w':World}{C m:Nat}(h:w.grownBy w' (some m)):Two2 w w' C m:=
 ⟨fun n _ h1 hn=>zbp Qb h h1 hn,fun k hk _ h1=>h.block k hk (fun e=>h1 MdP),h.size⟩
def zlv(w:World)(C m:Nat)(x:Parts×Bool)(e:Ending)(w':World):Prop:=e=.returned (.tuple #[])/\HasAt w' m x.1/\MarkAt w' C x.2/\Two2 w w' C m
theorem zdd{P:Program}{ops:Array Oper}{o:Oper}{a:Act}{w:World}{K:Act->World->Prop}{Q:Exit->Act->World->Prop}{E:Prop}{T:TypeId}(bL:o.guard=none)(x i u:Operand)(ho:o.op=.mapUpdate T x i u)(vx vi vu:Value)(hx:a.eval x=vx)(hi:a.eval i=vi)(hu:a.eval u=vu)(w':World)
 (hrun:(Instr.mapUpdate T vx vi vu).run P w=.ok () w')(h:K (a.put o.dst undef) w'):if Region.wanted o (yielded ops a.tmps)=true then Oper.wp P o a w K Q else E:=by
 exact MaZ
theorem zg9(b h C m:Nat)(law:Law)(who n:ByteArray)(f:Rat)(out:Parts)(fl:Bool)(w:World)(hH:HeirAt w h b law who C m)(hM:MarkAt w C fl)(hS:HasAt w m out)(nR:h≠C)(qh:h≠m)(uf:C≠m)(hg:GoodParts out)(hs:zaL (zag out n))(hf:zaL f):
 Calls Tryz.prog 140 #[.pointer (some ⟨h,0,none⟩),.string n,.agg #[.int .i64 f.num,.int .i64 f.den]] w (zlv w C m (zcU n f (out,fl))):=by
 have hh:=zab hH;have wn:=zab hM;have kF:=hS.lt;obtain⟨mm,fC,cR,iy⟩:=hS;unfold HeirAt at hH;obtain⟨-,-,-,-,-,-,e6,e7⟩:=cF8 hH;obtain⟨HG,vp,kW,HM,zJ⟩:=yH5 hg iy cR hM fC;have AE:h≠w.heap.size:=Mcq;have Lu:h≠w.heap.size+1:=Mcq;generalize nX:zag out n=sv at*;have eO:=zHi nX;have fL:∀o,(Instr.lookup 174 (.map (some m)) (.string n) true).run Tryz.prog (w.alloc o)=.ok (.tuple #[(mget eqS n mm).getD (.agg #[.int .i64 0,.int .i64 0]),.bool (mget eqS n mm).isSome]) (w.alloc o):=fun o=>zka mapSF (fC.below (n:=w.heap.size) (zad Qb o)).at n
 have mD:=iy n;rw[nX]at mD;have h0:(sv=0/\mget eqS n mm=none)\/mget eqS n mm=some (zaD sv):=by
  rcases mD with⟨a,b⟩|a
  ·exact .inl ⟨b,a⟩
  ·exact .inr a
 clear hH hM fC cR iy hg nX mD;go_enter Tryz.func140,Tryz.ntmps140
 rcases h0 with⟨rfl,h0⟩|h0
 ·rw[h0]at fL;simp only[Option.getD_none,Option.isSome_none]at fL;clear h0;go_upto_region 4 with fail
  refine wp_region_held_drew (S:=(fun w'=>w'.cell? ⟨h,6,none⟩=some (.pointer (some ⟨C,0,none⟩))/\w'.cell? ⟨h,7,none⟩=some (.map (some m))/\w'.cell? ⟨w.heap.size,0,none⟩=some (.int .i64 f.num)/\w'.cell? ⟨w.heap.size,1,none⟩=some (.int .i64 f.den)/\w'.cell? ⟨w.heap.size+1,0,none⟩=some (.int .i64 (0))/\w'.cell? ⟨w.heap.size+1,1,none⟩=some (.int .i64 (1)))) Mcs ?hS ?hrest
  case hS=>((try dsimp only);refine⟨?_,?_,?_,?_,?_,?_⟩<;>(simp[go_sem,e6,e7,hh];done))
  case hrest=>
   intro hHeld;refine TkH 0 ?_;refine TkH 1 ?_;refine TkH 2 ?_;refine TkH 3 ?_;refine TkH 4 ?_;refine TkH 5 ?_;refine TkH 6 ?_;refine TkH 7 ?_;refine TkH 8 ?_;refine TkH 9 ?_;refine TkH 10 ?_;refine OnH 11 fun K hK=>?_
   go_simp
   refine(zhP C fl _ ?q1 (0) f hs hf).mono ?_
   case q1=>(repeat(first|exact HM.o|refine MarkAt.drew ?_|refine MarkAt.alloc ?_ _))
   rintro e w5 ⟨rfl,n1,n2⟩;have dY:=n2.size;have p6:w5.cell? ⟨h,6,none⟩=some (.pointer (some ⟨C,0,none⟩)):=(zbd n2 Mcw nR).trans Mey;have p7:w5.cell? ⟨h,7,none⟩=some (.map (some m)):=(zbd n2 Mcw nR).trans (by simp[go_sem,e7,hh]);have p0:w5.cell? ⟨w.heap.size,0,none⟩=some (.int .i64 f.num):=(zbd n2 Mcw Mcq).trans Mc0;have p1:w5.cell? ⟨w.heap.size,1,none⟩=some (.int .i64 f.den):=(zbd n2 Mcw Mcq).trans Mc0;have p2:w5.cell? ⟨w.heap.size+1,0,none⟩=some (.int .i64 (0)):=(zbd n2 Mcv Mcq).trans Mc0;have p3:w5.cell? ⟨w.heap.size+1,1,none⟩=some (.int .i64 (1)):=(zbd n2 Mcv Mcq).trans Mc0;have xX:MapS w5 m ekS (fun v:Value=>v) mm:=(zJ.o.below (n:=w.heap.size) Bw).grown n2 (by simpa using fun e=>uf e.symm);obtain⟨ou,N1,N2⟩:=yH3 xX n1 n2;clear n1 n2 xX;simp only[zaD];refine hK.out _ _ ?_ (fun hHeld=>?_);focus((try dsimp only);refine⟨?_,?_,?_,?_,?_,?_⟩<;>assumption)
   clear hK K;try simp only[Act.put,List.setIfInBounds_toArray,List.set_cons_zero,List.set_cons_succ]
   refine OnH 12 fun K hK=>?_
   obtain⟨w6,hrun,j8,bO,nW⟩:=zdl mapSF ou.o n (zaD (zbi (0+f)));refine zdd rfl _ _ _ rfl _ _ _ rfl rfl rfl w6 hrun ?_;have te:w.heap.size+1<w5.heap.size:=MdW;have q6:w6.cell? ⟨h,6,none⟩=some (.pointer (some ⟨C,0,none⟩)):=(zbd bO Mcq qh).trans p6;have q7:w6.cell? ⟨h,7,none⟩=some (.map (some m)):=(zbd bO Mcq qh).trans p7;have q0:w6.cell? ⟨w.heap.size,0,none⟩=some (.int .i64 f.num):=(zbd bO Mcq Mcq).trans p0;have q1:w6.cell? ⟨w.heap.size,1,none⟩=some (.int .i64 f.den):=(zbd bO Mcq Mcq).trans p1;have q2:w6.cell? ⟨w.heap.size+1,0,none⟩=some (.int .i64 (0)):=(zbd bO Mcq Mcq).trans p2;have q3:w6.cell? ⟨w.heap.size+1,1,none⟩=some (.int .i64 (1)):=(zbd bO Mcq Mcq).trans p3;exact MD
 ·rw[h0]at fL;simp only[Option.getD_some,Option.isSome_some,zaD]at fL;clear h0;go_upto_region 4 with fail
  refine wp_region_held_drew (S:=(fun w'=>w'.cell? ⟨h,6,none⟩=some (.pointer (some ⟨C,0,none⟩))/\w'.cell? ⟨h,7,none⟩=some (.map (some m))/\w'.cell? ⟨w.heap.size,0,none⟩=some (.int .i64 f.num)/\w'.cell? ⟨w.heap.size,1,none⟩=some (.int .i64 f.den)/\w'.cell? ⟨w.heap.size+1,0,none⟩=some (.int .i64 (sv.num))/\w'.cell? ⟨w.heap.size+1,1,none⟩=some (.int .i64 (sv.den)))) Mcs ?hS ?hrest
  case hS=>((try dsimp only);refine⟨?_,?_,?_,?_,?_,?_⟩<;>(simp[go_sem,e6,e7,hh];done))
  case hrest=>
   intro hHeld;refine TkH 0 ?_;refine TkH 1 ?_;refine TkH 2 ?_;refine TkH 3 ?_;refine TkH 4 ?_;refine TkH 5 ?_;refine TkH 6 ?_;refine TkH 7 ?_;refine TkH 8 ?_;refine TkH 9 ?_;refine TkH 10 ?_;refine OnH 11 fun K hK=>?_
   go_simp
   refine(zhP C fl _ ?q1 (sv) f hs hf).mono ?_
   case q1=>(repeat(first|exact HM.o|refine MarkAt.drew ?_|refine MarkAt.alloc ?_ _))
   rintro e w5 ⟨rfl,n1,n2⟩;have dY:=n2.size;have p6:w5.cell? ⟨h,6,none⟩=some (.pointer (some ⟨C,0,none⟩)):=(zbd n2 Mcw nR).trans Mey;have p7:w5.cell? ⟨h,7,none⟩=some (.map (some m)):=(zbd n2 Mcw nR).trans (by simp[go_sem,e7,hh]);have p0:w5.cell? ⟨w.heap.size,0,none⟩=some (.int .i64 f.num):=(zbd n2 Mcw Mcq).trans Mc0;have p1:w5.cell? ⟨w.heap.size,1,none⟩=some (.int .i64 f.den):=(zbd n2 Mcw Mcq).trans Mc0;have p2:w5.cell? ⟨w.heap.size+1,0,none⟩=some (.int .i64 (sv.num)):=(zbd n2 Mcv Mcq).trans Mc0;have p3:w5.cell? ⟨w.heap.size+1,1,none⟩=some (.int .i64 (sv.den)):=(zbd n2 Mcv Mcq).trans Mc0;have xX:MapS w5 m ekS (fun v:Value=>v) mm:=(zJ.o.below (n:=w.heap.size) Bw).grown n2 (by simpa using fun e=>uf e.symm);obtain⟨ou,N1,N2⟩:=yH3 xX n1 n2;clear n1 n2 xX;simp only[zaD];refine hK.out _ _ ?_ (fun hHeld=>?_);focus((try dsimp only);refine⟨?_,?_,?_,?_,?_,?_⟩<;>assumption)
   clear hK K;try simp only[Act.put,List.setIfInBounds_toArray,List.set_cons_zero,List.set_cons_succ]
   refine OnH 12 fun K hK=>?_
   obtain⟨w6,hrun,j8,bO,nW⟩:=zdl mapSF ou.o n (zaD (zbi (sv+f)));refine zdd rfl _ _ _ rfl _ _ _ rfl rfl rfl w6 hrun ?_;have te:w.heap.size+1<w5.heap.size:=MdW;have q6:w6.cell? ⟨h,6,none⟩=some (.pointer (some ⟨C,0,none⟩)):=(zbd bO Mcq qh).trans p6;have q7:w6.cell? ⟨h,7,none⟩=some (.map (some m)):=(zbd bO Mcq qh).trans p7;have q0:w6.cell? ⟨w.heap.size,0,none⟩=some (.int .i64 f.num):=(zbd bO Mcq Mcq).trans p0;have q1:w6.cell? ⟨w.heap.size,1,none⟩=some (.int .i64 f.den):=(zbd bO Mcq Mcq).trans p1;have q2:w6.cell? ⟨w.heap.size+1,0,none⟩=some (.int .i64 (sv.num)):=(zbd bO Mcq Mcq).trans p2;have q3:w6.cell? ⟨w.heap.size+1,1,none⟩=some (.int .i64 (sv.den)):=(zbd bO Mcq Mcq).trans p3;exact MD
abbrev Ln:=ByteArray×Option Addr×Nat×Nat
def lnC(e:Ln):List Value:=[.string e.1,.slice e.2.1 e.2.2.1 e.2.2.2]
theorem zjF(e:Ln):(lnC e).length=2:=rfl
theorem ln_one(e:Ln):∀u∈lnC e,u.oneCell'=true:=by simp[lnC,Value.oneCell']
theorem elLine:ElTy Tryz.prog 177 201 2 40:=zdC (z:=.agg #[.string ⟨#[]⟩,.slice none 0 0]) Mcs Mcs rfl Mcu
def ItemsN(W:World)(Q:Nat->Prop):Nat->List Ln->List Tree->Prop
 |0,es,l=>es=[]/\l=[]
 |f+1,es,l=>es.length=l.length/\∀(k:Nat) (e:Ln) (t:Tree),es[k]?=some e->l[k]?=some t->(∃n,t=.leaf n/\e=(n,none,0,0))\/
   ∃l' A c es',t=.node l'/\e=(⟨#[]⟩,some A,l'.length,c)/\l'.length<=c/\l'≠[]/\Q A.block/\Ro W 201 lnC (some A) es'/\ItemsN W Q f es' l'
theorem ItemsN.len{W:World}{Q:Nat->Prop}{f:Nat}{es:List Ln}{l:List Tree}(h:ItemsN W Q f es l):es.length=l.length:=by
 cases f with
 |zero=>rw[h.1,h.2];rfl
 |succ f=>exact h.1
theorem ItemsN.turn{W W':World}{Q Q':Nat->Prop}(hb:∀k,k<W.heap.size->Q k->W'.heap[k]?=W.heap[k]?)(hq:∀k,k<W.heap.size->Q k->Q' k):∀ {f:Nat} {es:List Ln} {l:List Tree},ItemsN W Q f es l->ItemsN W' Q' f es l
 |0,_,_,h=>h
 |f+1,es,l,h=>⟨h.1,fun k e t h1 h2=>by
  rcases h.2 k e t h1 h2 with h3|⟨l',A,c,es',h3,h4,h5,h6,hQ,h7,h8⟩
  ·exact .inl h3
  ·have cS:0<es'.length:=by
    rw[h8.len];exact List.length_pos_iff.2 h6
   obtain⟨b,off,cur,fr,hA,sF,hx⟩:=h7 cS;have we:A=⟨b,off,none⟩:=by simpa using hA
   subst we;have aa:b<W.heap.size:=(Array.getElem?_eq_some_iff.1 sF).1
   exact .inr ⟨l',_,c,es',h3,h4,h5,h6,hq b aa hQ,fun _=>⟨b,off,cur,fr,rfl,(hb b aa hQ).trans sF,hx⟩,ItemsN.turn hb hq h8⟩⟩
theorem ItemsN.keep{n:Nat}{W W':World}{Q:Nat->Prop}{f:Nat}{es:List Ln}{l:List Tree}(h:ItemsN W Q f es l)(hB:Below n W W')(hn:W.heap.size<=n:=by first|exact Qc|omega):ItemsN W' Q f es l:=
 h.turn (fun k hk _=>hB.block k (Nat.lt_of_lt_of_le hk hn)) (fun _ _ h=>h)
theorem ItemsN.snoc{W:World}{Q:Nat->Prop}{f:Nat}{es:List Ln}{l:List Tree}{e:Ln}{t:Tree}(h:ItemsN W Q (f+1) es l)(ht:(∃n,t=.leaf n/\e=(n,none,0,0))\/
 ∃l' A c es',t=.node l'/\e=(⟨#[]⟩,some A,l'.length,c)/\l'.length<=c/\l'≠[]/\Q A.block/\Ro W 201 lnC (some A) es'/\ItemsN W Q f es' l'):ItemsN W Q (f+1) (es++[e]) (l++[t]):=by
 refine⟨by simp[h.1],fun k x y h1 h2=>?_⟩;by_cases hk:k<es.length
 ·rw[List.getElem?_append_left hk]at h1;rw[List.getElem?_append_left (by rw[<-h.1];exact hk)]at h2;exact h.2 k x y h1 h2
 ·have fZ:k=es.length:=by have:=(List.getElem?_eq_some_iff.1 h1).1;simp at this;omega
  subst fZ;rw[List.getElem?_append_right Qc]at h1;rw[h.1,List.getElem?_append_right Qc]at h2;simp at h1 h2;subst h1 h2;exact ht
def Deep(s:St):Nat->ByteArray->Prop
 |0,_=>False
 |f+1,n=>∀c∈zaj s n,Deep s f c
def zcV(s:St)(stems:Bool)(frm:ByteArray)(f:Nat)(c:ByteArray):Option Tree:=
 if zeb s c frm then some (.leaf c)else if stems&&!(zb4 s stems frm f c).isEmpty then some (.node (zb4 s stems frm f c))else none
theorem zfA(s:St)(stems:Bool)(frm:ByteArray)(f:Nat)(n:ByteArray):zb4 s stems frm (f+1) n=(zaj s n).filterMap (zcV s stems frm f):=rfl
theorem zjn{α β:Type}(g:α->Option β)(l:List α){k:Nat}(h:k<l.length):(l.take (k+1)).filterMap g=(l.take k).filterMap g++(g l[k]).toList:=by
 rw[List.take_succ_eq_append_getElem h,List.filterMap_append];cases hg:g l[k]<;>simp[List.filterMap,hg]
def LinesPost(w:World)(f:Nat)(l:List Tree)(e:Ending)(w':World):Prop:=
 ∃v es,e=.returned v/\OwnS w' w.heap.size 201 2 lnC v es/\ItemsN w' (fun k=>w.heap.size<=k) f es l/\Qa w w'/\es.length<=1000
theorem sl_ln{w:World}{b:Nat}{e:Ln}{t:TypeId}{fr:Nat×Nat}(h:w.heap[b]?=some (.cells #[.string e.1,.slice e.2.1 e.2.2.1 e.2.2.2] t fr)):Sl w 2 lnC (some ⟨b,0,none⟩) [e]:=fun _=>⟨b,0,rfl,zab h,fun k y hy j u hu=>by
 have hk:k=0:=McD;subst hk;simp only[List.getElem?_cons_zero,Option.some.injEq]at hy;subst hy;match j,hu with
 |0,hu=>simp[lnC]at hu;simp[World.cell?,h,<-hu]
 |1,hu=>simp[lnC]at hu;simp[World.cell?,h,<-hu]
 |j+2,hu=>simp[lnC]at hu⟩
theorem HeirAt.keep{n h b C m:Nat}{W W':World}{law:Law}{who:ByteArray}(hh:HeirAt W h b law who C m)(hB:Below n W W')(hn:W.heap.size<=n:=by first|exact Qc|omega):HeirAt W' h b law who C m:=
 (hB.block h (Nat.lt_of_lt_of_le (zab hh) hn)).trans hh
theorem zlw(base b h C m:Nat)(s:St)(law:Law)(who:ByteArray)(jz:∀c∈s.children,noB c.2=false)(hl:s.children.length<=1000):∀(f:Nat) (n:ByteArray) (w:World),PeoAt base w b s->HeirAt w h b law who C m->Deep s f n->
 Calls Tryz.prog 141 #[.pointer (some ⟨h,0,none⟩),.string n] w (LinesPost w f (zb4 s law.stems who f n))
 |0,n,w,_,_,hd=>hd.elim
 |f+1,n,w,hW,hH,hd=>by
  obtain⟨IH,HW,HH⟩:=yH3 (fun(c:ByteArray) (W:World) (hc:c∈zaj s n) (h1:PeoAt base W b s) (h2:HeirAt W h b law who C m)=>zlw base b h C m s law who jz hl f c W h1 h2 (hd c hc)) hW hH;obtain⟨B,d,c,p,wl,r,mv,tv,la,co,h1,h2⟩:=hW;have hb:=zab h1;have hh:=zab hH;unfold WldC at h1;unfold HeirAt at hH;obtain⟨-,c1⟩:=cF2 h1;obtain⟨e0,-,e2⟩:=cF3 hH;obtain⟨KA,kc,fL,jY,jR⟩:=zln h2 n;have xP:=fL w Qb;rw[zfA];have dO:(zaj s n).length<=1000:=by
   exact Mbe
  obtain⟨C7,ii⟩:=yH2 (fun c (hc:c∈zaj s n)=>jz (n,c) (zdw.1 hc)) jR;generalize iZ:zaj s n=ks at*;clear h1 h2 hH fL jR hd iZ;go_enter Tryz.func141,Tryz.ntmps141
  go_wp2_with fail
  go_loopw [5,19] (fun v i wr=>∃(k:Nat) (es:List Ln),k<=ks.length/\i=.int .i64 k/\OwnS wr w.heap.size 201 2 lnC v es/\Hid (ItemsN wr (fun j=>w.heap.size<=j/\za6 v≠some j) (f+1) es ((ks.take k).filterMap (zcV s law.stems who f)))/\Qa w wr/\es.length<=k) (fun _ i _=>ks.length-(intOf i).toNat)
  case atStart=>exact⟨0,[],Nat.zero_le _,rfl,OwnS.nil,⟨rfl,fun k e t h1=>by simp at h1⟩,Qb,Qc⟩
  case round=>
   obtain⟨k,es,hk,rfl,ac,HI,hB,fY⟩:=hrel;obtain⟨VA,vc,rfl,gH,kf⟩:=ac.sl zjF;clear gH;have HO:=zHi ac;by_cases aa:k<ks.length
   ·obtain⟨b',off,rfl,cI,hc⟩:=(ii.o.keep hB).at aa;have oZ:=zjn (zcV s law.stems who f) ks aa;have bh:ks[k]∈ks:=List.getElem_mem aa;have df:=C7.o ks[k] bh;have bE:=fun W=>IH.o ks[k] W bh
    generalize ks[k]=ch at*;have i0:wr.cell? ⟨b',off+k,none⟩=some (.string ch):=Md6;obtain⟨HF,HC⟩:=yH2 oZ bE;have cH:zcV s law.stems who f ch=if zi8 s ch who then some (.leaf ch)else if law.stems&&!(zb4 s law.stems who f ch).isEmpty then some (.node (zb4 s law.stems who f ch))else none:=by
     unfold zcV;rw[able_q,df];simp
    have fD:=zHi cH;have ar:(k:Int)<(ks.length:Int):=Mcq;have aR:(0:Int)<=(k:Int):=Mcq;have LI:(k:Int)<=(kc:Int):=Mcq;have E2:wr.cell? ⟨h,2,none⟩=some (.bool law.stems):=(zah hB hh).trans e2;have Lv:h<wr.heap.size:=Nat.lt_of_lt_of_le hh hB.size;obtain⟨Fx,Fg,kQ⟩:=yH3 (HW.o.keep (n:=w.heap.size) hB) (HH.o.keep (n:=w.heap.size) hB) hB;clear hc oZ bh df bE cH ac;have uP:=zHi (fun W (Am:Qa wr W)=>zkt base b h C m s law who ch W (Fx.o.keep Am) (Fg.o.keep Am));generalize zi8 s ch who=ab at*;have aW:=hB.size;have gw:=zHi fY;clear hB fY;cases ab
    ·go_upto_region 8 with(first
      |(go_at_call 139;refine(uP.o _ Bw).mono ?_;rintro e wq ⟨rfl,z,rfl⟩)
      |(go_at_call 141
        refine(HC.o _ (Fx.o.keep (n:=wr.heap.size) Bw) (Fg.o.keep (n:=wr.heap.size) Bw)).mono ?_;rintro e wq ⟨v2,es2,rfl,o1,o2,o3,o4⟩
        obtain⟨A2,c2,rfl,_,d8⟩:=o1.sl zjF))
     have E2q:wq.cell? ⟨h,2,none⟩=some (.bool law.stems):=(zah o3 McA).trans ((za4 _ _ _ _ Lv).trans E2);have jJ:=o3.size;simp only[zae]at jJ;have hhq:h<wq.heap.size:=Mcq;obtain⟨O2L,O1,O2,O3⟩:=yH4 o2.len o1 o2 o3;have ue:Hid (Qa wr wq):=(zaq wr z).trans (o3.mono Mdi);clear o1 o2 o3;have lA:=fD.o;simp only[Bool.false_eq_true,if_false]at lA;generalize ai:law.stems=st at*;by_cases hcond:st=true/\es2.length≠0
     ·obtain⟨rfl,ag⟩:=hcond;have kG:(zb4 s true who f ch).isEmpty=false:=by
       cases ht:zb4 s true who f ch with
       |nil=>have:=O2L.o;rw[ht]at this;simp at this;rw[this]at ag;simp at ag
       |cons x l=>rfl
      have gR:zcV s true who f ch=some (.node (zb4 s true who f ch)):=by rw[lA,kG];rfl
      have m9:∃ad,A2=some ad/\w.heap.size<=ad.block/\wr.heap.size<=ad.block/\ad.block<wq.heap.size:=by
       rcases O1.o with⟨e,h0⟩|⟨g,o,cap,cur,e,hg,iY,_⟩
       ·rw[h0]at ag;simp at ag
       ·simp only[Value.slice.injEq]at e;refine⟨⟨g,o,none⟩,e.1,?_,?_,zab iY⟩
        ·simp[zae]at hg;show _<=g;omega
        ·simp[zae]at hg;show _<=g;omega
      obtain⟨ad,rfl,Dy,Dz,DC⟩:=m9;have dD:(0:Int)<(es2.length:Int):=Mcq;obtain⟨BW,tU⟩:=yH2 gR kG;clear kG gR lA
      go_wp2_with (at_builtin
                   go_loud(refine zas (v:=.slice VA es.length vc) (n:=es.length) (m:=1) rfl _ _ rfl elLine zjF ln_one rfl (HO.o.keep (n:=wr.heap.size) (zad ue.o _)) rfl rfl rfl (sl_ln (e:=(⟨#[]⟩,some ad,es2.length,c2)) (zat _ _ _ rfl)) (by have:=gw.o;simp[maxLen];omega) (by have:=gw.o;omega) Mcw ?_)
                   intro v3 w3 h1 h2 h3)
      have wB:ItemsN w3 (fun j=>w.heap.size<=j/\za6 v3≠some j) (f+1) es ((ks.take k).filterMap (zcV s true who f)):=by
       refine ItemsN.turn ?_ ?_ ((HI.o.keep (n:=wr.heap.size) ue.o).keep (n:=wq.heap.size) (zad Qb (.cells #[.string ⟨#[]⟩,.slice (some ad) es2.length c2] 201)))
       ·exact fun j hj hQ=>h2.block j hj (fun e=>hQ.2 e.symm)
       ·exact Mbg
      have nY:∀j,wr.heap.size<=j->za6 (.slice VA es.length vc)≠some j:=fun j hj e=>by have:=(HO.o.ge j e).2;omega
      have dg:∀j,wr.heap.size<=j->j<wq.heap.size->za6 v3≠some j:=fun j hj Hi e=>by
       rcases h3 j e with h|h
       ·exact nY j hj h
       ·simp at h;omega
      have pC:Ro w3 201 lnC (some ad) es2:=by
       intro nS;obtain⟨b2,off2,cur2,fr2,rR,cz,cW⟩:=O1.o.ro' nS;have bC:ad.block=b2:=by simp only[Option.some.injEq]at rR;rw[rR]
       have DE:=(Array.getElem?_eq_some_iff.1 cz).1;refine⟨b2,off2,cur2,fr2,rR,?_,cW⟩;rw[h2.block b2 Mcw (fun e=>nY b2 Mcq e.symm)];exact(Below.heap_alloc wq _ b2 DE).trans cz
      have Gc:ItemsN w3 (fun j=>w.heap.size<=j/\za6 v3≠some j) f es2 (zb4 s true who f ch):=by
       refine ItemsN.turn ?_ ?_ (O2.o.keep (n:=wq.heap.size) (zad Qb (.cells #[.string ⟨#[]⟩,.slice (some ad) es2.length c2] 201)))
       ·exact fun j hj hQ=>h2.block j hj (fun e=>nY j (by simp[zae]at hQ;omega) e.symm)
       ·exact fun j hj hQ=>⟨by simp[zae]at hQ;omega,fun e=>(h3 j e).elim (nY j (by simp[zae]at hQ;omega)) (fun h=>by simp at h hj;omega)⟩
      have wC:=wB.snoc (e:=(⟨#[]⟩,some ad,es2.length,c2)) (t:=.node (zb4 s true who f ch)) (.inr ⟨_,ad,c2,es2,rfl,by rw[O2L.o],by rw[<-O2L.o];exact d8,(by intro e;have:=tU.o;rw[e]at this;cases this),⟨Dy,dg _ Dz DC⟩,pC,Gc⟩);have eP:Qa w w3:=Below.grown (a:=w) (B:=w.heap.size) (zad (kQ.o.trans (ue.o.mono Mcq)) (.cells #[.string ⟨#[]⟩,.slice (some ad) es2.length c2] 201)) h2 Mcw (fun j hj=>(HO.o.ge j hj).1);have mf:=HF.o;rw[BW.o]at mf;obtain⟨lJ,kS,aJ,H1⟩:=yH4 mf wC eP h1;clear wB wC Gc eP pC nY dg mf h1 h2 h3;go_wp2_with fail
      go_round
      case rel=>exact⟨k+1,es++[(⟨#[]⟩,some ad,es2.length,c2)],by omega,by go_num,H1.o,by rw[ai,lJ.o];exact kS.o,aJ.o,by have:=gw.o;simp;omega⟩
      case measure=>simp[intOf];omega
     ·have gR:zcV s st who f ch=none:=by
       rw[lA];cases bk:st
       ·rfl
       ·have mH:es2.length=0:=Classical.byContradiction fun h=>hcond ⟨bk,h⟩
        have uH:zb4 s true who f ch=[]:=List.eq_nil_of_length_eq_zero (by have:=O2L.o;rw[bk]at this;omega);rw[uH];rfl
      have mf:=HF.o;rw[gR]at mf;obtain⟨lJ,qQ⟩:=yH2 mf hcond;have eP:Qa w wq:=kQ.o.trans (ue.o.mono Mcq);obtain⟨aJ,nE,J0⟩:=yH3 eP (HO.o.keep (n:=wr.heap.size) ue.o) (HI.o.keep (n:=wr.heap.size) ue.o);clear gR mf eP lA;by_cases dD:(0:Int)<(es2.length:Int)
      ·have pF:st=false:=by
        cases bk:st
        ·rfl
        ·exact absurd ⟨bk,by omega⟩ qQ.o
       clear hcond;subst pF;exact MY
      ·clear hcond;cases st
       ·exact MY
       ·exact MY
    ·go_wp2_with (first
      |(go_at_call 139;refine(uP.o _ Bw).mono ?_;rintro e wq ⟨rfl,z,rfl⟩)
      |(at_builtin;go_loud(refine zas (v:=.slice VA es.length vc) (n:=es.length) (m:=1) rfl _ _ rfl elLine zjF ln_one rfl (HO.o.keep (n:=wr.heap.size) Bw) rfl rfl rfl (sl_ln (e:=(ch,none,0,0)) (zat _ _ _ Mdi)) (by have:=gw.o;simp[maxLen];omega) (by have:=gw.o;omega) McA ?_);intro v3 w3 h1 h2 h3))
     have wB:ItemsN w3 (fun j=>w.heap.size<=j/\za6 v3≠some j) (f+1) es ((ks.take k).filterMap (zcV s law.stems who f)):=by
      refine ItemsN.turn ?_ ?_ ((HI.o.keep (n:=wr.heap.size) (zaq wr z)).keep (n:=(wr.ext z).heap.size) (zad Qb (.cells #[.string ch,.slice none 0 0] 201)))
      ·exact fun j hj hQ=>h2.block j hj (fun e=>hQ.2 e.symm)
      ·exact Mbg
     have wC:=wB.snoc (e:=(ch,none,0,0)) (t:=.leaf ch) (.inl ⟨ch,rfl,rfl⟩);have eP:Qa w w3:=Below.grown (a:=w) (B:=w.heap.size) (zad (zaZ kQ.o z) (.cells #[.string ch,.slice none 0 0] 201)) h2 McA (fun j hj=>(HO.o.ge j hj).1);have ud:zcV s law.stems who f ch=some (.leaf ch):=by rw[fD.o];rfl
     have mf:=HF.o;rw[ud]at mf;obtain⟨lJ,kS,aJ,H1⟩:=yH4 mf wC eP h1;clear wB wC eP ud mf h1 h2 h3;go_wp2_with fail
     go_round
     case rel=>exact⟨k+1,es++[(ch,none,0,0)],by omega,by go_num,H1.o,by rw[lJ.o];exact kS.o,aJ.o,by have:=gw.o;simp;omega⟩
     case measure=>simp[intOf];omega
   ·rw[List.take_of_length_le Mcq]at HI;have ar:¬(k:Int)<(ks.length:Int):=Mcq;go_wp2_with fail
    go_ret
    exact⟨_,es,rfl,HO.o,HI.o.turn (fun _ _ _=>rfl) (fun _ _ h=>h.1),hB,by omega⟩
