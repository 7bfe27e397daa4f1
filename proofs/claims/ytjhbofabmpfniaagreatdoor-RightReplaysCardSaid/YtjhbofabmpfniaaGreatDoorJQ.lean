/- Walk of chapter 5's lines of heirs. -/
import Derived.Test.YtjhbofabmpfniaaGreatDoorJN
set_option linter.unusedSimpArgs false
set_option linter.unusedVariables false
set_option maxRecDepth 100000
set_option maxHeartbeats 4000000
namespace Go.Proofs.YtjhbofabmpfniaaGreatDoor
open Go.RowKit Go.Shelf
attribute [local go_sem] World.cell?_alloc_mark zae za3 zam za6 zas zat zau zav zaw zax zay
attribute [local go_sem] zaj zac
def surF (frm:ByteArray) (left:Rat):Parts->Parts×Bool->Parts×Bool
 | [],x=>x
 |p::l,x=>surF frm left l (if zaf p.1 frm then x else(x.1++[(p.1,zbg (p.2/left))],x.2||bigQ (p.2/left)))
theorem ziD (frm:ByteArray) (left:Rat): ∀(a b:Parts) (x:Parts×Bool),surF frm left (a++b) x=surF frm left b (surF frm left a x)
 | [],_,_=>rfl
 |p::a,b,x=>ziD frm left a b _
theorem surF_snoc (frm:ByteArray) (left:Rat) (hs:Parts) (x:Parts×Bool) {k:Nat} (h:k<hs.length):surF frm left (hs.take (k+1)) x=if zaf hs[k].1 frm then surF frm left (hs.take k) x else((surF frm left (hs.take k) x).1++[(hs[k].1,zbg (hs[k].2/left))],(surF frm left (hs.take k) x).2||bigQ (hs[k].2/left)):=by
 rw[List.take_succ_eq_append_getElem h,ziD];rfl
theorem ziE (frm:ByteArray) (left:Rat): ∀(hs out:Parts) (f:Bool),(surF frm left hs (out,f)).2=(f||zaF ((za0 hs frm).map fun p=>(p.1,p.2/left)))/\
 ((surF frm left hs (out,f)).2=false->(surF frm left hs (out,f)).1=out++(za0 hs frm).map fun p=>(p.1,p.2/left))
 | [],out,f=>by simp[surF,za0,zaF]
 |p::hs,out,f=>by
  rw[surF];cases hp:zaf p.1 frm
  ·have e:za0 (p::hs) frm=p::za0 hs frm:=by unfold za0;rw[List.filter_cons,hp];rfl
   obtain⟨h1,h2⟩:=ziE frm left hs (out++[(p.1,zbg (p.2/left))]) (f||bigQ (p.2/left));simp only[Bool.false_eq_true,if_false];rw[e,List.map_cons];refine⟨by rw[h1];unfold zaF;rw[List.any_cons,Bool.or_assoc],fun h=> ?_⟩;rw[h2 h];rw[h1,Bool.or_eq_false_iff,Bool.or_eq_false_iff]at h;rw[zfg h.1.2];simp
  ·have e:za0 (p::hs) frm=za0 hs frm:=by unfold za0;rw[List.filter_cons,hp];rfl
   simp only[if_true];rw[e];exact ziE frm left hs out f
theorem zk0 (frm:ByteArray) (left:Rat): ∀(hs out:Parts) (f:Bool),(surF frm left hs (out,f)).1.length<=out.length+hs.length
 | [],out,f=>by simp[surF]
 |p::hs,out,f=>by
  rw[surF];split
  ·have:=zk0 frm left hs out f;simp;omega
  ·have:=zk0 frm left hs (out++[(p.1,zbg (p.2/left))]) (f||bigQ (p.2/left));simp at this⊢;omega
theorem zk1 {s:St} {d:Deed} {i:Nat} {g:Grave} (aL:zaO s d.place d.day=some i) (hg:s.graves.getD i zfb=g):
 zaZ s d=if zag g.holders d.frm==0 then(s,19)else if(surF d.frm (1-zag g.holders d.frm) g.holders ([],false)).2 then(s,8)else
  (s.withGrave i {g with holders:=(surF d.frm (1-zag g.holders d.frm) g.holders ([],false)).1},0):=by
 obtain⟨h1,h2⟩:=ziE d.frm (1-zag g.holders d.frm) g.holders [] false;unfold zaZ;rw[aL];simp only[hg];rw[Bool.false_or]at h1;rw[<-h1];cases hf:(surF d.frm (1-zag g.holders d.frm) g.holders ([],false)).2
 ·have:=h2 hf;rw[List.nil_append]at this;rw[<-this]
 ·rfl
theorem zl3 {g:Grave} {frm:ByteArray} (hG:GoodG g) (ai:zag g.holders frm≠0):zaI (zag g.holders frm)/\zaI (1-zag g.holders frm)/\0<=1-zag g.holders frm/\
 ∀p∈g.holders,zaf p.1 frm=false->0<1-zag g.holders frm/\zaI p.2:=by
 have ho:=zbA hG.good frm;have bN:=zdx hG.good frm;have dR:sumQ g.holders=1:=by
  rcases hG.one with h|h
  ·exact absurd h (zdm ai)
  ·exact h
 have hb:=zcJ frm hG.small;have pI:zag g.holders frm<=1:=McP;have dw:=zcc ho pI hb;have bn:bigQ (1-zag g.holders frm)=false:=by
  have hI:IsN (zag g.holders frm).den (zag g.holders frm):=⟨(zag g.holders frm).num,by
   generalize zag g.holders frm=q;have h1:q=q.num/(q.den:Int):=by rw[<-Rat.divInt_eq_div,Rat.num_divInt_den]
   have h2:((q.den:Int):Rat)≠0:=ratI (by have:=q.den_pos;omega);rw[Rat.intCast_natCast]at h1 h2;conv=>lhs;rw[h1]
   grind⟩
  exact zev (zag g.holders frm).den_pos dw.2 (zgX (zgY _) hI)
 refine⟨dw,zcc McP McP bn,by grind,fun p hp hs=> ?_⟩;have sx:=hG.good.pos p hp;have gJ:p∈za0 g.holders frm:=List.mem_filter.2 ⟨hp,by rw[hs];rfl⟩;have h1:=zch (n:=frm) hG.good;have h2:=zgV (l:=za0 g.holders frm) (fun q hq=>by have:=(zbI hG.good (n:=frm)).pos q hq;grind) p gJ;refine⟨by grind,zcc McP McP ?_⟩;have:=hG.small;unfold zaF at this;rw[List.any_eq_false]at this;simpa using this p hp
theorem sl_part {w:World} {b:Nat} {p:ByteArray×Rat} {t:TypeId} {fr:Nat×Nat} (h:w.heap[b]?=some (.cells #[.string p.1, .int .i64 p.2.num, .int .i64 p.2.den] t fr)):Sl w 3 zaa (some ⟨b,0,none⟩) [p]:=fun _=>⟨b,0,rfl,zab h,fun k y hy j u hu=>by
 have hk:k=0:=Mcz;subst hk;simp only[List.getElem?_cons_zero,Option.some.injEq]at hy;subst hy;match j,hu with
 |0,hu=>simp[zaa]at hu;simp[World.cell?,h,<-hu]
 |1,hu=>simp[zaa]at hu;simp[World.cell?,h,<-hu]
 |2,hu=>simp[zaa]at hu;simp[World.cell?,h,<-hu]
 |j+3,hu=>simp[zaa]at hu⟩
theorem sub1_any (q:Rat) (W:World) (hq:zaI q):Calls Tryz.prog 148 #[.agg #[.int .i64 1, .int .i64 1], .agg #[.int .i64 q.num, .int .i64 q.den]] W (Ret W (zaB (1-q))):=
 zhC 1 q W ⟨by decide,by decide⟩ hq
theorem zk2 (base b:Nat) (s:St) (la co last:Int) (d:Deed) (B:Option Addr) (c:Nat) (w:World) (hW:WldAt base w b s la co) (jm:GoodSt s last) (ag:s.graves.length<=1000) (cz: ∀g∈s.graves,g.holders.length<=10000):
 Calls Tryz.prog 140 #[.pointer (some ⟨b,0,none⟩),d.v B c] w (zbF base b (zaZ s d) la co w):=by
 have ru:=fun i g h1 h2=>zk1 (s:=s) (d:=d) (i:=i) (g:=g) h1 h2
 have ao:=hW;obtain⟨Bk,dd,cc,pp,wl,rr,mv,tv,ps,aY,hC,hP,hT⟩:=hW;have cW:=zab hC;obtain⟨kd,dy,pl,fr,ts,cl,yr⟩:=d;simp only at*;have bF:=zHi (fun W (hB:Below w.heap.size w W)=>zjI base b s la co pl dy W (hC.keep hB) (hT.keep hB) Mcn);have HW:=zHi ao;have HC:=zHi hC;have HP:=zHi hP;cases aL:zaO s pl dy with
 |none=>
  rw[aL]at bF;have HG:Hid (zaZ s ⟨kd,dy,pl,fr,ts,cl,yr⟩=(s,6)):=by show _=_;simp[zaZ,aL]
  clear aL ru ao hC hP hT;unfold Deed.v;simp only;go_enter Tryz.func140,Tryz.ntmps140
  exact Mae
 |some i=>
  obtain⟨T,g,ia,iC,aN,bP,gV,kw⟩:=zey hT aL;have qZ:=jm.graves g (List.mem_of_getElem? aN);have rY:=cz g (List.mem_of_getElem? aN);have iZ:=ru i g aL bP;have il: ∀W,Below w.heap.size w W->Calls Tryz.prog 64 #[.pointer (some ⟨b,0,none⟩), .string pl, .int .i64 dy] W (Ret W (.pointer (some ⟨T,0,none⟩))):=fun W hB=>by
   have:=bF.o W hB;exact MaO
  have kI:=zHi il;obtain⟨H,aV,D,dc,frm,t1,t2,t3,t4,t5,t6,t7⟩:=gV;have cV:=zab t1;have eF:=zHi t1;have qL:=zHi t5;have kR:=zHi t6;have nj:=zHi t7;have gq:=zHi iZ;have ei:=zHi qZ;have HT:=zHi hT;have qE:=zHi ia;clear il bF t1 t5 t6 t7 iZ qZ hT ia iC bP aN kw aL ru jm cz ao hC hP;obtain⟨gpl,gcl,gfin,ghs,gdi⟩:=g;simp only at*;unfold zbt at eF;have k4:w.cell? ⟨T,4,none⟩=some (.slice H ghs.length aV):=Md1;obtain⟨own,ae⟩: ∃own,own=zag ghs fr:=⟨_,rfl⟩
  have gn:=zHi (fun W (hB:Below w.heap.size w W)=>zew ghs H aV T fr W ((hB.cell (p:=⟨T,4,none⟩) cV).trans k4) (Nat.lt_of_lt_of_le cV hB.size) Mcn ei.o.good.asc (Ro.sl zao (qL.o.keep hB)));have sE:own≠0->_:=fun h=>zl3 ei.o (frm:=fr) (by rw[<-ae];exact h)
  have eQ:=zHi sE;rw[<-ae]at gn eQ;have jH:=gq.o;clear gq sE;simp only[<-ae,numZ]at jH;have gq:=zHi jH;clear jH;have dJ:=zHi ae;clear ae;unfold zaB at gn;unfold Deed.v;simp only;go_enter Tryz.func140,Tryz.ntmps140
  go_upto_region 7 with(first
   |(go_at_call 64;refine(kI.o _ Bw).mono ?_;rintro e wq ⟨rfl,z,rfl⟩)
   |(go_at_call 95;refine(gn.o _ Bw).mono ?_;rintro e wq ⟨rfl,z2,rfl⟩))
  all_goals(try(go_ret;exact zbP HW.o Bw (by rw[gq.o];simp[*];done)))
  have ue:(own.num==0)=false:=McY;have xL:own≠0:=fun e=>by rw[e]at ue;exact absurd ue Mcp
  obtain⟨iB,xr,jE,eA⟩:=eQ.o xL;have HG:Hid (zaZ s ⟨kd,dy,pl,fr,ts,cl,yr⟩=if(surF fr (1-own) ghs ([],false)).2 then(s,8)else(s.withGrave i ⟨gpl,gcl,gfin,(surF fr (1-own) ghs ([],false)).1,gdi⟩,0)):=by
   show _=_;rw[gq.o];simp[*];done
  have kO:=zHi eA;clear gq kI gn eQ eA;generalize kY:1-own=lf at*;have yV:=zHi kY;clear kY;go_cut [5,6,7]from 8 (fun v5 v6 v7 wc=>v5= .pointer (some ⟨T,0,none⟩)/\ ∃O C,v6= .pointer (some ⟨O,0,none⟩)/\v7= .pointer (some ⟨C,0,none⟩)/\Below w.heap.size w wc/\w.heap.size<O/\O<C/\C+1=wc.heap.size/\wc.heap[w.heap.size]?=some (.cells #[.int .i64 kd, .int .i64 dy, .string pl, .string fr, .slice B ts.length c, .int .i64 cl, .int .i64 yr] 52)/\wc.heap[O]?=some (zbr own)/\MarkAt wc C false)
  case first=>
   go_wp2_with fail
   go_meet
   refine⟨rfl,_,_,rfl,rfl,Bw,by omega,?_,?_,?_,?_,?_⟩
   ·exact Ma8
   ·exact Ma8
   ·exact Mbt
   ·exact Mbn
   ·exact zar _ _ _ MdG
  case rest=>
   obtain⟨rfl,O,C,rfl,rfl,hB,hO,hC,hCs,g0,g1,hm⟩:=hcut;obtain⟨W0,rfl⟩: ∃x,x=wc:=⟨_,rfl⟩
   have t1:=(hB.block T cV).trans eF.o;obtain⟨m0,m1,m2,m3,m4,m5⟩:=cF6 t1;have Jz:T<W0.heap.size:=zab t1;have Jt:T≠W0.heap.size:=Mcn;have o0:W0.cell? ⟨O,0,none⟩=some (.int .i64 own.num):=by simp only[World.cell?,g1,zbr];rfl
   have o1:W0.cell? ⟨O,1,none⟩=some (.int .i64 own.den):=by simp only[World.cell?,g1,zbr];rfl
   have vM:O<W0.heap.size:=Mcn;have Fj:O≠W0.heap.size:=Mcn;have G0:=zHi g0;have HM:=zHi hm;have IB:=zHi t1;have eP:=zHi (fun W=>sub1_any own W iB);rw[yV.o]at eP;clear g0 g1 t1 hm;go_wp2_with (go_at_call 148;refine(eP.o _).mono ?_;rintro e wq ⟨rfl,z,rfl⟩;simp only[zaB])
   generalize hLL:W0.heap.size+1+z.os.size=L at*;have lH:=zHi hLL;have zC:W0.heap.size<L:=Mcn;clear hLL m0 m1 m2 m3 m4 m5 o0 o1;go_loopw [39] (fun i wr=> ∃(k:Nat) (v:Value) (out:Parts) (fl:Bool),k<=ghs.length/\i= .int .i64 k/\Hid ((out,fl)=surF fr lf (ghs.take k) ([],false))/\MarkAt wr C fl/\zbt wr W0.heap.size gpl gcl frm gfin v (.slice D gdi.length dc)/\OwnS wr W0.heap.size 75 3 zaa v out/\wr.heap[L]?=some (zbr lf)/\Below C W0 wr/\L<wr.heap.size) (fun i _=>ghs.length-(intOf i).toNat)
   case atStart=>
    refine⟨0, .slice none 0 0,[],false,Nat.zero_le _,rfl,rfl,?_,?_,OwnS.nil,?_,?_,?_⟩
    ·exact((HM.o.alloc _).ext z).alloc _
    ·exact zal (zb2 (zar _ _ _ rfl))
    ·exact zar _ _ _ (by have:=lH.o;simp[zae];omega)
    ·have aY:Below C W0 W0:=Below.refl _ _;exact zad (zb6 (zad aY _ Mcn) _ Mcn) _ Mcn
    ·have:=lH.o;simp[zae];omega
   case round=>
    obtain⟨k,v,out,fl,hk,rfl,HX,hm,cv,ez,pL,gT,aP⟩:=hrel;obtain⟨A1,c1,rfl,ri,tF⟩:=ez.sl zao;have eJ:=zk0 fr lf (ghs.take k) [] false;rw[<-HX.o]at eJ;simp only[List.length_nil,Nat.zero_add,List.length_take]at eJ;have tP:out.length<=10000:=Mcn;clear eJ ri;have aZ:Below w.heap.size w wr:=hB.trans (gT.mono Mcn);have yA:wr.cell? ⟨W0.heap.size,4,none⟩=some (.slice A1 out.length c1):=Mda;have fx4:wr.frozen? ⟨W0.heap.size,4,none⟩=false:=by unfold zbt at cv;simp only[World.frozen?,cv];rfl
    have fI:wr.cell? ⟨L,0,none⟩=some (.int .i64 lf.num):=by simp only[World.cell?,pL,zbr];rfl
    have fJ:wr.cell? ⟨L,1,none⟩=some (.int .i64 lf.den):=by simp only[World.cell?,pL,zbr];rfl
    have e3:wr.cell? ⟨w.heap.size,3,none⟩=some (.string fr):=(zah gT Mcn).trans Md5;have HM:=zHi hm;have fq:=zHi cv;have dV:=zHi ez;have lI:=zHi pL;have sO:=zHi gT;have aW:=zHi aZ;clear hm cv ez pL gT;by_cases aa:k<ghs.length
    ·obtain⟨b',off,rfl,cJ,hc⟩:=(Ro.sl zao (qL.o.keep aZ)).at aa;have aK:=surF_snoc fr lf ghs ([],false) aa;rw[<-HX.o]at aK;have sx:=kO.o ghs[k] (List.getElem_mem aa);generalize ghs[k]=p at*;obtain⟨pn,pq⟩:=p;have i0:wr.cell? ⟨b',off+k*3,none⟩=some (.string pn):=hc 0 _ rfl;have i1:wr.cell? ⟨b',off+k*3+1,none⟩=some (.int .i64 pq.num):=hc 1 _ rfl;have i2:wr.cell? ⟨b',off+k*3+2,none⟩=some (.int .i64 pq.den):=hc 2 _ rfl;have dE:=zHi aK;have In:=zHi sx;have ar:(k:Int)<(ghs.length:Int):=Mcn;have aT:(0:Int)<=(k:Int):=Mcn;have fH:(k:Int)<=(aV:Int):=Mcn;have bS:w.heap.size<wr.heap.size:=Mcn;have kE:w.heap.size≠wr.heap.size:=Mcn;have bv:W0.heap.size<wr.heap.size:=Mcn;have GF:W0.heap.size≠wr.heap.size:=Mcn;have hLn:L≠wr.heap.size:=Mcn;clear hc aK sx aZ;by_cases hsb:pn.toList=fr.toList
     ·have eP:=zHi (zeg hsb);have dt:(pn.toList==fr.toList)=true:=by simpa using hsb
      have bp:(pn.toList != fr.toList)=false:=by simp[hsb]
      clear hsb;go_wp2_with fail
      go_round
      case rel=>
       have h1:=dE.o;rw[eP.o]at h1;exact⟨k+1,_,out,fl,by omega,by go_num,(h1.symm:_=_),HM.o.alloc _,zal fq.o,dV.o.keep (n:=wr.heap.size) (zad (Below.refl _ _) _),zal lI.o,zad sO.o _ Mcn,by simp;omega⟩
      case measure=>simp[intOf];omega
     ·have eP:=zHi (ze7 hsb);have dt:(pn.toList==fr.toList)=false:=by simpa using hsb
      have bp:(pn.toList != fr.toList)=true:=by simp[hsb]
      clear hsb;obtain⟨G9,xQ⟩:=In.o eP.o;go_upto_region 15 with fail
      refine wp_region_held_drew (S:=(fun w'=>w'.cell? ⟨wr.heap.size,0,none⟩=some (.string pn)/\w'.cell? ⟨wr.heap.size,1,none⟩=some (.int .i64 pq.num)/\w'.cell? ⟨wr.heap.size,2,none⟩=some (.int .i64 pq.den)/\w'.cell? ⟨L,0,none⟩=some (.int .i64 lf.num)/\w'.cell? ⟨L,1,none⟩=some (.int .i64 lf.den))) Mco ?hS ?hrest
      case hS=>((try dsimp only);refine⟨?_,?_,?_,?_,?_⟩<;>(simp[go_sem,fI,fJ,aP];done))
      case hrest=>
       intro hHeld;refine TkH 0 ?_;refine TkH 2 ?_;refine TkH 3 ?_;refine TkH 4 ?_;refine TkH 5 ?_;refine TkH 6 ?_;refine wpAnyH_ready (rs:=[1,7]) Mco Mcq (AllReadyH.cons (List.getElem?_toArray.trans rfl) (fun K hK=> ?_) (AllReadyH.cons (List.getElem?_toArray.trans rfl) (fun K hK=> ?_) AllReadyH.nil))
       ·go_simp
        refine hK.out _ _ ?_ (fun hHeld=> ?_);focus((try dsimp only);refine⟨?_,?_,?_,?_,?_⟩<;>first|assumption|(simp[go_sem,fI,fJ,aP];done)|(simp[go_sem,a0,a1,a2,l5,l6,yp,yL];done)|(simp[go_sem,z0,z1,z2,z5,z6,zx,zy];done))
        clear hK K;try simp only[Act.put,List.setIfInBounds_toArray,List.set_cons_zero,List.set_cons_succ]
        refine OnH 7 fun K hK=> ?_
        go_simp
        refine(znS C fl _ ?q1 pq lf xQ xr G9).mono ?_
        case q1=>(repeat(first|exact HM.o|refine MarkAt.drew ?_|refine MarkAt.alloc ?_ _))
        rintro e w5 ⟨rfl,n1,n2⟩;have dZ:=n2.size;have y0:w5.heap[wr.heap.size]?=some (.cells #[.string pn, .int .i64 pq.num, .int .i64 pq.den] 75):=(n2.block _ Mcq Mcr).trans (zar _ _ _ rfl);obtain⟨a0,a1,a2⟩:=cF3 y0;have yL':w5.heap[L]?=some (zbr lf):=(n2.block _ Mcr Mcr).trans (zal lI.o);have l5:w5.cell? ⟨L,0,none⟩=some (.int .i64 lf.num):=Mds;have l6:w5.cell? ⟨L,1,none⟩=some (.int .i64 lf.den):=Mds;have yT:zbt w5 W0.heap.size gpl gcl frm gfin (.slice A1 out.length c1) (.slice D gdi.length dc):=(n2.block _ Mcr Mcr).trans (zal fq.o);have y2:w5.cell? ⟨W0.heap.size,4,none⟩=some (.slice A1 out.length c1):=by unfold zbt at yT;simp only[World.cell?,yT];rfl
        have yO:OwnS w5 W0.heap.size 75 3 zaa (.slice A1 out.length c1) out:=by refine OwnS.grown (hg:=n2) ?_ (.inr fun e=>by have:=(dV.o.ge _ e).1;omega);exact dV.o.keep (n:=wr.heap.size) Bw
        have yl:=zab yT;have yp:=zab y0;have yL:=zab yL';have yn:W0.heap.size≠w5.heap.size:=Mcn;have ypn:wr.heap.size≠w5.heap.size:=Mcn;have YT:=zHi yT;have YO:=zHi yO;have YL:=zHi yL';have Y0:=zHi y0;have N1:=zHi n1;have N2:=zHi n2;clear yT yO yL' n1 n2 y0;simp only[zaB];refine hK.out _ _ ?_ (fun hHeld=> ?_);focus((try dsimp only);refine⟨?_,?_,?_,?_,?_⟩<;>first|assumption|(simp[go_sem,fI,fJ,aP];done)|(simp[go_sem,a0,a1,a2,l5,l6,yp,yL];done)|(simp[go_sem,z0,z1,z2,z5,z6,zx,zy];done))
        clear hK K;try simp only[Act.put,List.setIfInBounds_toArray,List.set_cons_zero,List.set_cons_succ]
        refine TkH 8 ?_;refine OnH 9 fun K hK=> ?_
        exact Mc
       ·go_simp
        refine(znS C fl _ ?q1 pq lf xQ xr G9).mono ?_
        case q1=>(repeat(first|exact HM.o|refine MarkAt.drew ?_|refine MarkAt.alloc ?_ _))
        rintro e w5 ⟨rfl,n1,n2⟩;have dZ:=n2.size;have y0:w5.heap[wr.heap.size]?=some (.cells #[.string pn, .int .i64 pq.num, .int .i64 pq.den] 75):=(n2.block _ Mcq Mcr).trans (zar _ _ _ rfl);obtain⟨a0,a1,a2⟩:=cF3 y0;have yL':w5.heap[L]?=some (zbr lf):=(n2.block _ Mcr Mcr).trans (zal lI.o);have l5:w5.cell? ⟨L,0,none⟩=some (.int .i64 lf.num):=Mds;have l6:w5.cell? ⟨L,1,none⟩=some (.int .i64 lf.den):=Mds;have yT:zbt w5 W0.heap.size gpl gcl frm gfin (.slice A1 out.length c1) (.slice D gdi.length dc):=(n2.block _ Mcr Mcr).trans (zal fq.o);have y2:w5.cell? ⟨W0.heap.size,4,none⟩=some (.slice A1 out.length c1):=by unfold zbt at yT;simp only[World.cell?,yT];rfl
        have yO:OwnS w5 W0.heap.size 75 3 zaa (.slice A1 out.length c1) out:=by refine OwnS.grown (hg:=n2) ?_ (.inr fun e=>by have:=(dV.o.ge _ e).1;omega);exact dV.o.keep (n:=wr.heap.size) Bw
        have yl:=zab yT;have yp:=zab y0;have yL:=zab yL';have yn:W0.heap.size≠w5.heap.size:=Mcn;have ypn:wr.heap.size≠w5.heap.size:=Mcn;have YT:=zHi yT;have YO:=zHi yO;have YL:=zHi yL';have Y0:=zHi y0;have N1:=zHi n1;have N2:=zHi n2;clear yT yO yL' n1 n2 y0;simp only[zaB];refine hK.out _ _ ?_ (fun hHeld=> ?_);focus((try dsimp only);refine⟨?_,?_,?_,?_,?_⟩<;>first|assumption|(simp[go_sem,fI,fJ,aP];done)|(simp[go_sem,a0,a1,a2,l5,l6,yp,yL];done)|(simp[go_sem,z0,z1,z2,z5,z6,zx,zy];done))
        clear hK K;try simp only[Act.put,List.setIfInBounds_toArray,List.set_cons_zero,List.set_cons_succ]
        refine TkH 8 ?_;refine wpAnyH_ready (rs:=[1,9]) Mco Mcq (AllReadyH.cons (List.getElem?_toArray.trans rfl) (fun K hK=> ?_) (AllReadyH.cons (List.getElem?_toArray.trans rfl) (fun K hK=> ?_) AllReadyH.nil))
        ·go_simp
         refine hK.out _ _ ?_ (fun hHeld=> ?_);focus((try dsimp only);refine⟨?_,?_,?_,?_,?_⟩<;>first|assumption|(simp[go_sem,fI,fJ,aP];done)|(simp[go_sem,a0,a1,a2,l5,l6,yp,yL];done)|(simp[go_sem,z0,z1,z2,z5,z6,zx,zy];done))
         clear hK K;try simp only[Act.put,List.setIfInBounds_toArray,List.set_cons_zero,List.set_cons_succ]
         refine OnH 9 fun K hK=> ?_
         exact Mc
        ·go_simp
         refine hK.out _ _ ?_ (fun hHeld=> ?_);focus((try dsimp only);refine⟨?_,?_,?_,?_,?_⟩<;>first|assumption|(simp[go_sem,fI,fJ,aP];done)|(simp[go_sem,a0,a1,a2,l5,l6,yp,yL];done)|(simp[go_sem,z0,z1,z2,z5,z6,zx,zy];done))
         clear hK K;try simp only[Act.put,List.setIfInBounds_toArray,List.set_cons_zero,List.set_cons_succ]
         refine OnH 1 fun K hK=> ?_
         exact Mc
    ·have ar: ¬(k:Int)<(ghs.length:Int):=Mcn;have nJ:(out,fl)=surF fr lf ghs ([],false):=by rw[HX.o,List.take_of_length_le Mcn]
     have jt:=(aZ.block T cV).trans eF.o;have mW:=zHi jt;have gB:wr.cell? ⟨C,0,none⟩=some (.bool fl):=(zbV HM.o).1;have fN:=HG.o;rw[<-nJ]at fN;clear nJ HX ei aZ fI fJ e3;cases fl
     ·have sW:=zHi fN;have cv:=fq.o;unfold zbt at cv;obtain⟨n0,n1,n2,n3,-,n5⟩:=cF6 cv;obtain⟨z0,z1,z2,z3,z4,z5⟩:=cF6 jt;have fz: ∀j,wr.frozen? ⟨T,j,none⟩=false:=fun j=>by simp only[World.frozen?,jt];rfl
      clear fN cv jt;go_wp2_with fail
      go_ret
      have aZ:=aW.o;have eb:Ro wr 75 zaa A1 out:=dV.o.ro';have hN:TombAt ((((((wr.setCell ⟨T,0,none⟩ (.string gpl)).setCell ⟨T,1,none⟩ (.int .i64 gcl)).setCell ⟨T,2,none⟩ (.int .i64 frm)).setCell ⟨T,3,none⟩ (.int .i64 gfin)).setCell ⟨T,4,none⟩ (.slice A1 out.length c1)).setCell ⟨T,5,none⟩ (.slice D gdi.length dc)) base Bk T ⟨gpl,gcl,gfin,out,gdi⟩:=
       ⟨A1,c1,D,dc,frm,ziA mW.o _ _ _ _ _ _,t2,tF,t4,eb.kept (zcd _ _ _ _ _ _ _ _) mW.o Mcp,(kR.o.keep aZ).kept (zcd _ _ _ _ _ _ _ _) mW.o Mcp,nj.o⟩
      have aj:=zi9 aY (HC.o.keep aZ) (HP.o.keep aZ) (HT.o.keep aZ) qE.o mW.o (zcd wr T _ _ _ _ _ _) hN;have bK:Below base w wr:=aZ.mono Mcn;have js:=zaS bK (zcd wr T (.string gpl) (.int .i64 gcl) (.int .i64 frm) (.int .i64 gfin) (.slice A1 out.length c1) (.slice D gdi.length dc)) t2 Mcn;have ba:zaZ s ⟨kd,dy,pl,fr,ts,cl,yr⟩=(s.withGrave i ⟨gpl,gcl,gfin,out,gdi⟩,0):=sW.o.trans (if_neg Mcq);exact MaR
     ·exact MaU
def HeirAt (W:World) (h b:Nat) (law:Law) (who:ByteArray) (C m:Nat):Prop:=
 W.heap[h]?=some (.cells #[.pointer (some ⟨b,0,none⟩), .int .i64 law.frm, .bool law.stems, .int .i64 law.num, .int .i64 law.den, .string who, .pointer (some ⟨C,0,none⟩), .map (some m)] 195)
def ziF (s:St) (n frm:ByteArray):Bool:=!zaf n frm&&!zaK s n&&!s.renounce.any (fun r=>zaf r.1 n&&zaf r.2 frm)
theorem able_q (s:St) (n frm:ByteArray):zdZ s n frm=(!noB n&&ziF s n frm):=by
 unfold zdZ ziF;simp only[Bool.and_assoc]
theorem zk3 (base b h C m:Nat) (s:St) (law:Law) (who n:ByteArray) (w:World) (hW:PeoAt base w b s) (hH:HeirAt w h b law who C m):
 Calls Tryz.prog 146 #[.pointer (some ⟨h,0,none⟩), .string n] w (Ret w (.bool (ziF s n who))):=by
 obtain⟨B,d,c,p,wl,r,mv,tv,la,co,h1,h2⟩:=hW;have hb:=zab h1;have hh:=zab hH;unfold WldC at h1;unfold HeirAt at hH;obtain⟨c0,-,-,-,-,c5⟩:=cF6 h1;obtain⟨e0,-,-,-,-,e5⟩:=cF6 hH;have dN: ∀q',(Instr.lookup 133 (.map (some d)) (.string n) false).run Tryz.prog (w.drewN q')= .ok (.bool (zaK s n)) (w.drewN q'):=fun q'=>zdb (h2.drewN q') _
 have dp: ∀q',(Instr.lookup 136 (.map (some r)) (.agg #[.string n, .string who]) false).run Tryz.prog (w.drewN q')= .ok (.bool (s.renounce.any fun x=>zaf x.1 n&&zaf x.2 who)) (w.drewN q'):=fun q'=>znP (h2.drewN q') _ _
 have hU:ziF s n who=(!zaf n who&&!zaK s n&&!(s.renounce.any fun x=>zaf x.1 n&&zaf x.2 who)):=rfl;have HU:=zHi hU;clear hU;generalize ziF s n who=R at*;generalize zaK s n=dd at*;generalize(s.renounce.any fun x=>zaf x.1 n&&zaf x.2 who)=rr at*;have dw:zaf n who=(n.toList==who.toList):=rfl;rw[dw]at HU;clear h1 h2 hH dw;go_enter Tryz.func146,Tryz.ntmps146
 cases hn:(n.toList==who.toList)
 ·have dZ:(n.toList != who.toList)=true:=by rw[bne,hn];rfl
  rw[hn]at HU;cases dd
  ·exact May
  ·exact May
 ·have dZ:(n.toList != who.toList)=false:=by rw[bne,hn];rfl
  rw[hn]at HU;exact May
def HasAt (W:World) (m:Nat) (out:Parts):Prop:=
 ∃mm:List (ByteArray×Value),MapS W m ekS (fun v:Value=>v) mm/\(mm.map (·.1)).Nodup/\ ∀n,(mget eqS n mm=none/\zag out n=0)\/mget eqS n mm=some (zaB (zag out n))
theorem HasAt.keep {n m:Nat} {W W':World} {out:Parts} (h:HasAt W m out) (hB:Below n W W') (hn:W.heap.size<=n:=by first|exact Nat.le_refl _|omega):HasAt W' m out:=by
 obtain⟨mm,h1,h2,h3⟩:=h;exact⟨mm,h1.below hB hn,h2,h3⟩
theorem HasAt.block {m:Nat} {W W':World} {out:Parts} (h:HasAt W m out) (hb:W'.heap[m]?=W.heap[m]?):HasAt W' m out:=by
 obtain⟨mm,h1,h2,h3⟩:=h;exact⟨mm,h1.keep hb,h2,h3⟩
theorem HasAt.lt {m:Nat} {W:World} {out:Parts} (h:HasAt W m out):m<W.heap.size:=by
 obtain⟨mm,h1,h2,h3⟩:=h;exact h1.at.lt
structure Two2 (w w':World) (C m:Nat):Prop where
 below: ∀n,n<=C->n<=m->n<=w.heap.size->Below n w w'
 others: ∀k,k<w.heap.size->k≠C->k≠m->w'.heap[k]?=w.heap[k]?
 size:w.heap.size<=w'.heap.size
theorem Two2.of_below {w w':World} {C m:Nat} (h:Below w.heap.size w w'):Two2 w w' C m:=⟨fun n _ _ hn=>h.mono hn,fun k hk _ _=>h.block k hk,h.size⟩
theorem Two2.trans {a b c:World} {C m:Nat} (h:Two2 a b C m) (k:Two2 b c C m):Two2 a c C m:=
 ⟨fun n h1 h2 h3=>(h.below n h1 h2 h3).trans (k.below n h1 h2 (Nat.le_trans h3 h.size)),fun i hi h1 h2=>(k.others i (Nat.lt_of_lt_of_le hi h.size) h1 h2).trans (h.others i hi h1 h2),Nat.le_trans h.size k.size⟩
theorem Two2.grownC {w w':World} {C m:Nat} (h:w.grownBy w' (some C)):Two2 w w' C m:=
 ⟨fun n h1 _ hn=>zaS (Below.refl _ _) h h1 hn,fun k hk h1 _=>h.block k hk (fun e=>h1 MdM),h.size⟩
theorem Two2.grownM {w w':World} {C m:Nat} (h:w.grownBy w' (some m)):Two2 w w' C m:=
 ⟨fun n _ h1 hn=>zaS (Below.refl _ _) h h1 hn,fun k hk _ h1=>h.block k hk (fun e=>h1 MdM),h.size⟩
def zl4 (w:World) (C m:Nat) (x:Parts×Bool) (e:Ending) (w':World):Prop:=e= .returned (.tuple #[])/\HasAt w' m x.1/\MarkAt w' C x.2/\Two2 w w' C m
theorem zdc {P:Program} {ops:Array Oper} {o:Oper} {a:Act} {w:World} {K:Act->World->Prop} {Q:Exit->Act->World->Prop} {E:Prop} {T:TypeId} (bP:o.guard=none) (x i u:Operand) (ho:o.op= .mapUpdate T x i u) (vx vi vu:Value) (hx:a.eval x=vx) (hi:a.eval i=vi) (hu:a.eval u=vu) (w':World)
 (hrun:(Instr.mapUpdate T vx vi vu).run P w= .ok () w') (h:K (a.put o.dst undef) w'):if Region.wanted o (yielded ops a.tmps)=true then Oper.wp P o a w K Q else E:=by
 exact Mad
theorem zg4 (b h C m:Nat) (law:Law) (who n:ByteArray) (f:Rat) (out:Parts) (fl:Bool) (w:World) (hH:HeirAt w h b law who C m) (hM:MarkAt w C fl) (hS:HasAt w m out) (nB:h≠C) (pG:h≠m) (tq:C≠m) (hg:GoodParts out) (hs:zaI (zag out n)) (hf:zaI f):
 Calls Tryz.prog 147 #[.pointer (some ⟨h,0,none⟩), .string n, .agg #[.int .i64 f.num, .int .i64 f.den]] w (zl4 w C m (zcQ n f (out,fl))):=by
 have hh:=zab hH;have vt:=zab hM;have fh:=hS.lt;obtain⟨mm,cY,cQ,iy⟩:=hS;unfold HeirAt at hH;obtain⟨-,-,-,-,-,-,e6,e7⟩:=cF8 hH;have HG:=zHi hg;have uC:=zHi iy;have kL:=zHi cQ;have HM:=zHi hM;have yW:=zHi cY;have Aa:h≠w.heap.size:=Mcn;have Kg:h≠w.heap.size+1:=Mcn;generalize nG:zag out n=sv at*;have gn:=zHi nG;have ew: ∀o,(Instr.lookup 193 (.map (some m)) (.string n) true).run Tryz.prog (w.alloc o)= .ok (.tuple #[(mget eqS n mm).getD (.agg #[.int .i64 0, .int .i64 0]), .bool (mget eqS n mm).isSome]) (w.alloc o):=fun o=>zkg mapSF (cY.below (n:=w.heap.size) (zad (Below.refl _ _) o)).at n
 have eY:=iy n;rw[nG]at eY;have h0:(sv=0/\mget eqS n mm=none)\/mget eqS n mm=some (zaB sv):=by
  rcases eY with⟨a,b⟩|a
  ·exact .inl ⟨b,a⟩
  ·exact .inr a
 clear hH hM cY cQ iy hg nG eY;go_enter Tryz.func147,Tryz.ntmps147
 rcases h0 with⟨rfl,h0⟩|h0
 ·rw[h0]at ew;simp only[Option.getD_none,Option.isSome_none]at ew;clear h0;go_upto_region 4 with fail
  refine wp_region_held_drew (S:=(fun w'=>w'.cell? ⟨h,6,none⟩=some (.pointer (some ⟨C,0,none⟩))/\w'.cell? ⟨h,7,none⟩=some (.map (some m))/\w'.cell? ⟨w.heap.size,0,none⟩=some (.int .i64 f.num)/\w'.cell? ⟨w.heap.size,1,none⟩=some (.int .i64 f.den)/\w'.cell? ⟨w.heap.size+1,0,none⟩=some (.int .i64 (0))/\w'.cell? ⟨w.heap.size+1,1,none⟩=some (.int .i64 (1)))) Mco ?hS ?hrest
  case hS=>((try dsimp only);refine⟨?_,?_,?_,?_,?_,?_⟩<;>(simp[go_sem,e6,e7,hh];done))
  case hrest=>
   intro hHeld;refine TkH 0 ?_;refine TkH 1 ?_;refine TkH 2 ?_;refine TkH 3 ?_;refine TkH 4 ?_;refine TkH 5 ?_;refine TkH 6 ?_;refine TkH 7 ?_;refine TkH 8 ?_;refine TkH 9 ?_;refine TkH 10 ?_;refine OnH 11 fun K hK=> ?_
   go_simp
   refine(zhN C fl _ ?q1 (0) f hs hf).mono ?_
   case q1=>(repeat(first|exact HM.o|refine MarkAt.drew ?_|refine MarkAt.alloc ?_ _))
   rintro e w5 ⟨rfl,n1,n2⟩;have dZ:=n2.size;have p6:w5.cell? ⟨h,6,none⟩=some (.pointer (some ⟨C,0,none⟩)):=(zbb n2 Mcr nB).trans Mew;have p7:w5.cell? ⟨h,7,none⟩=some (.map (some m)):=(zbb n2 Mcr nB).trans (by simp[go_sem,e7,hh]);have p0:w5.cell? ⟨w.heap.size,0,none⟩=some (.int .i64 f.num):=(zbb n2 Mcr Mcn).trans McQ;have p1:w5.cell? ⟨w.heap.size,1,none⟩=some (.int .i64 f.den):=(zbb n2 Mcr Mcn).trans McQ;have p2:w5.cell? ⟨w.heap.size+1,0,none⟩=some (.int .i64 (0)):=(zbb n2 Mcq Mcn).trans McQ;have p3:w5.cell? ⟨w.heap.size+1,1,none⟩=some (.int .i64 (1)):=(zbb n2 Mcq Mcn).trans McQ;have xu:MapS w5 m ekS (fun v:Value=>v) mm:=(yW.o.below (n:=w.heap.size) Bw).grown n2 (by simpa using fun e=>tq e.symm);have nR:=zHi xu;have N1:=zHi n1;have N2:=zHi n2;clear n1 n2 xu;simp only[zaB];refine hK.out _ _ ?_ (fun hHeld=> ?_);focus((try dsimp only);refine⟨?_,?_,?_,?_,?_,?_⟩<;>assumption)
   clear hK K;try simp only[Act.put,List.setIfInBounds_toArray,List.set_cons_zero,List.set_cons_succ]
   refine OnH 12 fun K hK=> ?_
   obtain⟨w6,hrun,iT,bG,kA⟩:=zcu mapSF nR.o n (zaB (zbg (0+f)));refine zdc rfl _ _ _ rfl _ _ _ rfl rfl rfl w6 hrun ?_;have sj:w.heap.size+1<w5.heap.size:=MdW;have q6:w6.cell? ⟨h,6,none⟩=some (.pointer (some ⟨C,0,none⟩)):=(zbb bG Mcn pG).trans p6;have q7:w6.cell? ⟨h,7,none⟩=some (.map (some m)):=(zbb bG Mcn pG).trans p7;have q0:w6.cell? ⟨w.heap.size,0,none⟩=some (.int .i64 f.num):=(zbb bG Mcn Mcn).trans p0;have q1:w6.cell? ⟨w.heap.size,1,none⟩=some (.int .i64 f.den):=(zbb bG Mcn Mcn).trans p1;have q2:w6.cell? ⟨w.heap.size+1,0,none⟩=some (.int .i64 (0)):=(zbb bG Mcn Mcn).trans p2;have q3:w6.cell? ⟨w.heap.size+1,1,none⟩=some (.int .i64 (1)):=(zbb bG Mcn Mcn).trans p3;exact MD
 ·rw[h0]at ew;simp only[Option.getD_some,Option.isSome_some,zaB]at ew;clear h0;go_upto_region 4 with fail
  refine wp_region_held_drew (S:=(fun w'=>w'.cell? ⟨h,6,none⟩=some (.pointer (some ⟨C,0,none⟩))/\w'.cell? ⟨h,7,none⟩=some (.map (some m))/\w'.cell? ⟨w.heap.size,0,none⟩=some (.int .i64 f.num)/\w'.cell? ⟨w.heap.size,1,none⟩=some (.int .i64 f.den)/\w'.cell? ⟨w.heap.size+1,0,none⟩=some (.int .i64 (sv.num))/\w'.cell? ⟨w.heap.size+1,1,none⟩=some (.int .i64 (sv.den)))) Mco ?hS ?hrest
  case hS=>((try dsimp only);refine⟨?_,?_,?_,?_,?_,?_⟩<;>(simp[go_sem,e6,e7,hh];done))
  case hrest=>
   intro hHeld;refine TkH 0 ?_;refine TkH 1 ?_;refine TkH 2 ?_;refine TkH 3 ?_;refine TkH 4 ?_;refine TkH 5 ?_;refine TkH 6 ?_;refine TkH 7 ?_;refine TkH 8 ?_;refine TkH 9 ?_;refine TkH 10 ?_;refine OnH 11 fun K hK=> ?_
   go_simp
   refine(zhN C fl _ ?q1 (sv) f hs hf).mono ?_
   case q1=>(repeat(first|exact HM.o|refine MarkAt.drew ?_|refine MarkAt.alloc ?_ _))
   rintro e w5 ⟨rfl,n1,n2⟩;have dZ:=n2.size;have p6:w5.cell? ⟨h,6,none⟩=some (.pointer (some ⟨C,0,none⟩)):=(zbb n2 Mcr nB).trans Mew;have p7:w5.cell? ⟨h,7,none⟩=some (.map (some m)):=(zbb n2 Mcr nB).trans (by simp[go_sem,e7,hh]);have p0:w5.cell? ⟨w.heap.size,0,none⟩=some (.int .i64 f.num):=(zbb n2 Mcr Mcn).trans McQ;have p1:w5.cell? ⟨w.heap.size,1,none⟩=some (.int .i64 f.den):=(zbb n2 Mcr Mcn).trans McQ;have p2:w5.cell? ⟨w.heap.size+1,0,none⟩=some (.int .i64 (sv.num)):=(zbb n2 Mcq Mcn).trans McQ;have p3:w5.cell? ⟨w.heap.size+1,1,none⟩=some (.int .i64 (sv.den)):=(zbb n2 Mcq Mcn).trans McQ;have xu:MapS w5 m ekS (fun v:Value=>v) mm:=(yW.o.below (n:=w.heap.size) Bw).grown n2 (by simpa using fun e=>tq e.symm);have nR:=zHi xu;have N1:=zHi n1;have N2:=zHi n2;clear n1 n2 xu;simp only[zaB];refine hK.out _ _ ?_ (fun hHeld=> ?_);focus((try dsimp only);refine⟨?_,?_,?_,?_,?_,?_⟩<;>assumption)
   clear hK K;try simp only[Act.put,List.setIfInBounds_toArray,List.set_cons_zero,List.set_cons_succ]
   refine OnH 12 fun K hK=> ?_
   obtain⟨w6,hrun,iT,bG,kA⟩:=zcu mapSF nR.o n (zaB (zbg (sv+f)));refine zdc rfl _ _ _ rfl _ _ _ rfl rfl rfl w6 hrun ?_;have sj:w.heap.size+1<w5.heap.size:=MdW;have q6:w6.cell? ⟨h,6,none⟩=some (.pointer (some ⟨C,0,none⟩)):=(zbb bG Mcn pG).trans p6;have q7:w6.cell? ⟨h,7,none⟩=some (.map (some m)):=(zbb bG Mcn pG).trans p7;have q0:w6.cell? ⟨w.heap.size,0,none⟩=some (.int .i64 f.num):=(zbb bG Mcn Mcn).trans p0;have q1:w6.cell? ⟨w.heap.size,1,none⟩=some (.int .i64 f.den):=(zbb bG Mcn Mcn).trans p1;have q2:w6.cell? ⟨w.heap.size+1,0,none⟩=some (.int .i64 (sv.num)):=(zbb bG Mcn Mcn).trans p2;have q3:w6.cell? ⟨w.heap.size+1,1,none⟩=some (.int .i64 (sv.den)):=(zbb bG Mcn Mcn).trans p3;exact MD
abbrev Ln:=ByteArray×Option Addr×Nat×Nat
def lnC (e:Ln):List Value:=[.string e.1, .slice e.2.1 e.2.2.1 e.2.2.2]
theorem zjK (e:Ln):(lnC e).length=2:=rfl
theorem ln_one (e:Ln): ∀u∈lnC e,u.oneCell'=true:=by simp[lnC,Value.oneCell']
theorem elLine:ElTy Tryz.prog 197 243 2 40:=zd6 (z:= .agg #[.string ⟨#[]⟩, .slice none 0 0]) Mco Mco rfl Mcp
def ItemsN (W:World) (Q:Nat->Prop):Nat->List Ln->List Tree->Prop
 |0,es,l=>es=[]/\l=[]
 |f+1,es,l=>es.length=l.length/\ ∀(k:Nat) (e:Ln) (t:Tree),es[k]?=some e->l[k]?=some t->(∃n,t= .leaf n/\e=(n,none,0,0))\/
   ∃l' A c es',t= .node l'/\e=(⟨#[]⟩,some A,l'.length,c)/\l'.length<=c/\l'≠[]/\Q A.block/\Ro W 243 lnC (some A) es'/\ItemsN W Q f es' l'
theorem ItemsN.len {W:World} {Q:Nat->Prop} {f:Nat} {es:List Ln} {l:List Tree} (h:ItemsN W Q f es l):es.length=l.length:=by
 cases f with
 |zero=>rw[h.1,h.2];rfl
 |succ f=>exact h.1
theorem ItemsN.turn {W W':World} {Q Q':Nat->Prop} (hb: ∀k,k<W.heap.size->Q k->W'.heap[k]?=W.heap[k]?) (hq: ∀k,k<W.heap.size->Q k->Q' k): ∀ {f:Nat} {es:List Ln} {l:List Tree},ItemsN W Q f es l->ItemsN W' Q' f es l
 |0,_,_,h=>h
 |f+1,es,l,h=>⟨h.1,fun k e t h1 h2=>by
  rcases h.2 k e t h1 h2 with h3|⟨l',A,c,es',h3,h4,h5,h6,hQ,h7,h8⟩
  ·exact .inl h3
  ·have cS:0<es'.length:=by
    rw[h8.len];exact List.length_pos_iff.2 h6
   obtain⟨b,off,cur,fr,hA,rQ,hx⟩:=h7 cS;have vn:A=⟨b,off,none⟩:=by simpa using hA
   subst vn;have aa:b<W.heap.size:=(Array.getElem?_eq_some_iff.1 rQ).1
   exact .inr ⟨l',_,c,es',h3,h4,h5,h6,hq b aa hQ,fun _=>⟨b,off,cur,fr,rfl,(hb b aa hQ).trans rQ,hx⟩,ItemsN.turn hb hq h8⟩⟩
theorem ItemsN.keep {n:Nat} {W W':World} {Q:Nat->Prop} {f:Nat} {es:List Ln} {l:List Tree} (h:ItemsN W Q f es l) (hB:Below n W W') (hn:W.heap.size<=n:=by first|exact Nat.le_refl _|omega):ItemsN W' Q f es l:=
 h.turn (fun k hk _=>hB.block k (Nat.lt_of_lt_of_le hk hn)) (fun _ _ h=>h)
theorem ItemsN.snoc {W:World} {Q:Nat->Prop} {f:Nat} {es:List Ln} {l:List Tree} {e:Ln} {t:Tree} (h:ItemsN W Q (f+1) es l) (ht:(∃n,t= .leaf n/\e=(n,none,0,0))\/
 ∃l' A c es',t= .node l'/\e=(⟨#[]⟩,some A,l'.length,c)/\l'.length<=c/\l'≠[]/\Q A.block/\Ro W 243 lnC (some A) es'/\ItemsN W Q f es' l'):ItemsN W Q (f+1) (es++[e]) (l++[t]):=by
 refine⟨by simp[h.1],fun k x y h1 h2=> ?_⟩;by_cases hk:k<es.length
 ·rw[List.getElem?_append_left hk]at h1;rw[List.getElem?_append_left (by rw[<-h.1];exact hk)]at h2;exact h.2 k x y h1 h2
 ·have fS:k=es.length:=by have:=(List.getElem?_eq_some_iff.1 h1).1;simp at this;omega
  subst fS;rw[List.getElem?_append_right (Nat.le_refl _)]at h1;rw[h.1,List.getElem?_append_right (Nat.le_refl _)]at h2;simp at h1 h2;subst h1 h2;exact ht
def Deep (s:St):Nat->ByteArray->Prop
 |0,_=>False
 |f+1,n=> ∀c∈zai s n,Deep s f c
def zcR (s:St) (stems:Bool) (frm:ByteArray) (f:Nat) (c:ByteArray):Option Tree:=
 if zdZ s c frm then some (.leaf c)else if stems&&!(zb5 s stems frm f c).isEmpty then some (.node (zb5 s stems frm f c))else none
theorem zfD (s:St) (stems:Bool) (frm:ByteArray) (f:Nat) (n:ByteArray):zb5 s stems frm (f+1) n=(zai s n).filterMap (zcR s stems frm f):=rfl
theorem zjn {α β:Type} (g:α->Option β) (l:List α) {k:Nat} (h:k<l.length):(l.take (k+1)).filterMap g=(l.take k).filterMap g++(g l[k]).toList:=by
 rw[List.take_succ_eq_append_getElem h,List.filterMap_append];cases hg:g l[k]<;>simp[List.filterMap,hg]
def LinesPost (w:World) (f:Nat) (l:List Tree) (e:Ending) (w':World):Prop:=
 ∃v es,e= .returned v/\OwnS w' w.heap.size 243 2 lnC v es/\ItemsN w' (fun k=>w.heap.size<=k) f es l/\Below w.heap.size w w'/\es.length<=1000
theorem sl_ln {w:World} {b:Nat} {e:Ln} {t:TypeId} {fr:Nat×Nat} (h:w.heap[b]?=some (.cells #[.string e.1, .slice e.2.1 e.2.2.1 e.2.2.2] t fr)):Sl w 2 lnC (some ⟨b,0,none⟩) [e]:=fun _=>⟨b,0,rfl,zab h,fun k y hy j u hu=>by
 have hk:k=0:=Mcz;subst hk;simp only[List.getElem?_cons_zero,Option.some.injEq]at hy;subst hy;match j,hu with
 |0,hu=>simp[lnC]at hu;simp[World.cell?,h,<-hu]
 |1,hu=>simp[lnC]at hu;simp[World.cell?,h,<-hu]
 |j+2,hu=>simp[lnC]at hu⟩
theorem HeirAt.keep {n h b C m:Nat} {W W':World} {law:Law} {who:ByteArray} (hh:HeirAt W h b law who C m) (hB:Below n W W') (hn:W.heap.size<=n:=by first|exact Nat.le_refl _|omega):HeirAt W' h b law who C m:=
 (hB.block h (Nat.lt_of_lt_of_le (zab hh) hn)).trans hh
theorem zl5 (base b h C m:Nat) (s:St) (law:Law) (who:ByteArray) (jC: ∀c∈s.children,noB c.2=false) (hl:s.children.length<=1000): ∀(f:Nat) (n:ByteArray) (w:World),PeoAt base w b s->HeirAt w h b law who C m->Deep s f n->
 Calls Tryz.prog 149 #[.pointer (some ⟨h,0,none⟩), .string n] w (LinesPost w f (zb5 s law.stems who f n))
 |0,n,w,_,_,hd=>hd.elim
 |f+1,n,w,hW,hH,hd=>by
  have IH:=zHi (fun(c:ByteArray) (W:World) (hc:c∈zai s n) (h1:PeoAt base W b s) (h2:HeirAt W h b law who C m)=>zl5 base b h C m s law who jC hl f c W h1 h2 (hd c hc));have HW:=zHi hW;have HH:=zHi hH;obtain⟨B,d,c,p,wl,r,mv,tv,la,co,h1,h2⟩:=hW;have hb:=zab h1;have hh:=zab hH;unfold WldC at h1;unfold HeirAt at hH;obtain⟨-,c1⟩:=cF2 h1;obtain⟨e0,-,e2⟩:=cF3 hH;obtain⟨KA,kc,ew,fH,im⟩:=zi6 h2 n;have xl:=ew w (Below.refl _ _);rw[zfD];have bR:(zai s n).length<=1000:=by
   exact Mbd
  have Bi:=zHi (fun c (hc:c∈zai s n)=>jC (n,c) (zdt.1 hc));have ic:=zHi im;generalize iR:zai s n=ks at*;clear h1 h2 hH ew im hd iR;go_enter Tryz.func149,Tryz.ntmps149
  go_wp2_with fail
  go_loopw [5,19] (fun v i wr=> ∃(k:Nat) (es:List Ln),k<=ks.length/\i= .int .i64 k/\OwnS wr w.heap.size 243 2 lnC v es/\Hid (ItemsN wr (fun j=>w.heap.size<=j/\zaA v≠some j) (f+1) es ((ks.take k).filterMap (zcR s law.stems who f)))/\Below w.heap.size w wr/\es.length<=k) (fun _ i _=>ks.length-(intOf i).toNat)
  case atStart=>exact⟨0,[],Nat.zero_le _,rfl,OwnS.nil,⟨rfl,fun k e t h1=>by simp at h1⟩,Below.refl _ _,Nat.le_refl _⟩
  case round=>
   obtain⟨k,es,hk,rfl,ae,HI,hB,hel⟩:=hrel;obtain⟨VA,vc,rfl,jo,ka⟩:=ae.sl zjK;clear jo;have HO:=zHi ae;by_cases aa:k<ks.length
   ·obtain⟨b',off,rfl,cJ,hc⟩:=(ic.o.keep hB).at aa;have ox:=zjn (zcR s law.stems who f) ks aa;have bH:ks[k]∈ks:=List.getElem_mem aa;have fU:=Bi.o ks[k] bH;have bI:=fun W=>IH.o ks[k] W bH
    generalize ks[k]=ch at*;have i0:wr.cell? ⟨b',off+k,none⟩=some (.string ch):=Mdy;have HF:=zHi ox;have HC:=zHi bI;have cG:zcR s law.stems who f ch=if ziF s ch who then some (.leaf ch)else if law.stems&&!(zb5 s law.stems who f ch).isEmpty then some (.node (zb5 s law.stems who f ch))else none:=by
     unfold zcR;rw[able_q,fU];simp
    have fD:=zHi cG;have ar:(k:Int)<(ks.length:Int):=Mcn;have aT:(0:Int)<=(k:Int):=Mcn;have Kr:(k:Int)<=(kc:Int):=Mcn;have E2:wr.cell? ⟨h,2,none⟩=some (.bool law.stems):=(zah hB hh).trans e2;have Kh:h<wr.heap.size:=Nat.lt_of_lt_of_le hh hB.size;have En:=zHi (HW.o.keep (n:=w.heap.size) hB);have Eb:=zHi (HH.o.keep (n:=w.heap.size) hB);have kH:=zHi hB;clear hc ox bH fU bI cG ae;have uf:=zHi (fun W (pm:Below wr.heap.size wr W)=>zk3 base b h C m s law who ch W (En.o.keep pm) (Eb.o.keep pm));generalize ziF s ch who=ab at*;have aE:=hB.size;have eO:=zHi hel;clear hB hel;cases ab
    ·go_upto_region 8 with(first
      |(go_at_call 146;refine(uf.o _ Bw).mono ?_;rintro e wq ⟨rfl,z,rfl⟩)
      |(go_at_call 149
        refine(HC.o _ (En.o.keep (n:=wr.heap.size) Bw) (Eb.o.keep (n:=wr.heap.size) Bw)).mono ?_;rintro e wq ⟨v2,es2,rfl,o1,o2,o3,o4⟩
        obtain⟨A2,c2,rfl,_,cr⟩:=o1.sl zjK))
     have E2q:wq.cell? ⟨h,2,none⟩=some (.bool law.stems):=(zah o3 Mcw).trans ((za3 _ _ _ _ Kh).trans E2);have jL:=o3.size;simp only[zae]at jL;have hhq:h<wq.heap.size:=Mcn;have O2L:=zHi o2.len;have O1:=zHi o1;have O2:=zHi o2;have O3:=zHi o3;have tp:Hid (Below wr.heap.size wr wq):=(zaq wr z).trans (o3.mono Mdv);clear o1 o2 o3;have li:=fD.o;simp only[Bool.false_eq_true,if_false]at li;generalize aj:law.stems=st at*;by_cases hcond:st=true/\es2.length≠0
     ·obtain⟨rfl,ai⟩:=hcond;have oH:(zb5 s true who f ch).isEmpty=false:=by
       cases ht:zb5 s true who f ch with
       |nil=>have:=O2L.o;rw[ht]at this;simp at this;rw[this]at ai;simp at ai
       |cons x l=>rfl
      have mH:zcR s true who f ch=some (.node (zb5 s true who f ch)):=by rw[li,oH];rfl
      have lV: ∃ad,A2=some ad/\w.heap.size<=ad.block/\wr.heap.size<=ad.block/\ad.block<wq.heap.size:=by
       rcases O1.o with⟨e,h0⟩|⟨g,o,cap,cur,e,hg,iQ,_⟩
       ·rw[h0]at ai;simp at ai
       ·simp only[Value.slice.injEq]at e;refine⟨⟨g,o,none⟩,e.1,?_,?_,zab iQ⟩
        ·simp[zae]at hg;show _<=g;omega
        ·simp[zae]at hg;show _<=g;omega
      obtain⟨ad,rfl,Cx,Cy,Cz⟩:=lV;have eI:(0:Int)<(es2.length:Int):=Mcn;have AY:=zHi mH;have Bj:=zHi oH;clear oH mH li
      go_wp2_with (at_builtin
                   go_loud(refine za1 (v:= .slice VA es.length vc) (n:=es.length) (m:=1) rfl _ _ rfl elLine zjK ln_one rfl (HO.o.keep (n:=wr.heap.size) (zad tp.o _)) rfl rfl rfl (sl_ln (e:=(⟨#[]⟩,some ad,es2.length,c2)) (zar _ _ _ rfl)) (by have:=eO.o;simp[maxLen];omega) (by have:=eO.o;omega) Mcr ?_)
                   intro v3 w3 h1 h2 h3)
      have vD:ItemsN w3 (fun j=>w.heap.size<=j/\zaA v3≠some j) (f+1) es ((ks.take k).filterMap (zcR s true who f)):=by
       refine ItemsN.turn ?_ ?_ ((HI.o.keep (n:=wr.heap.size) tp.o).keep (n:=wq.heap.size) (zad (Below.refl _ _) (.cells #[.string ⟨#[]⟩, .slice (some ad) es2.length c2] 243)))
       ·exact fun j hj hQ=>h2.block j hj (fun e=>hQ.2 e.symm)
       ·exact Mbe
      have nI: ∀j,wr.heap.size<=j->zaA (.slice VA es.length vc)≠some j:=fun j hj e=>by have:=(HO.o.ge j e).2;omega
      have dB: ∀j,wr.heap.size<=j->j<wq.heap.size->zaA v3≠some j:=fun j hj FT e=>by
       rcases h3 j e with h|h
       ·exact nI j hj h
       ·simp at h;omega
      have oM:Ro w3 243 lnC (some ad) es2:=by
       intro pJ;obtain⟨b2,off2,cur2,fr2,qU,cy,dC⟩:=O1.o.ro' pJ;have bn:ad.block=b2:=by simp only[Option.some.injEq]at qU;rw[qU]
       have CC:=(Array.getElem?_eq_some_iff.1 cy).1;refine⟨b2,off2,cur2,fr2,qU,?_,dC⟩;rw[h2.block b2 Mcr (fun e=>nI b2 Mcn e.symm)];exact(Below.heap_alloc wq _ b2 CC).trans cy
      have F5:ItemsN w3 (fun j=>w.heap.size<=j/\zaA v3≠some j) f es2 (zb5 s true who f ch):=by
       refine ItemsN.turn ?_ ?_ (O2.o.keep (n:=wq.heap.size) (zad (Below.refl _ _) (.cells #[.string ⟨#[]⟩, .slice (some ad) es2.length c2] 243)))
       ·exact fun j hj hQ=>h2.block j hj (fun e=>nI j (by simp[zae]at hQ;omega) e.symm)
       ·exact fun j hj hQ=>⟨by simp[zae]at hQ;omega,fun e=>(h3 j e).elim (nI j (by simp[zae]at hQ;omega)) (fun h=>by simp at h hj;omega)⟩
      have vE:=vD.snoc (e:=(⟨#[]⟩,some ad,es2.length,c2)) (t:= .node (zb5 s true who f ch)) (.inr ⟨_,ad,c2,es2,rfl,by rw[O2L.o],by rw[<-O2L.o];exact cr,(by intro e;have:=Bj.o;rw[e]at this;cases this),⟨Cx,dB _ Cy Cz⟩,oM,F5⟩);have eT:Below w.heap.size w w3:=Below.grown (a:=w) (B:=w.heap.size) (zad (kH.o.trans (tp.o.mono Mcn)) (.cells #[.string ⟨#[]⟩, .slice (some ad) es2.length c2] 243)) h2 Mcr (fun j hj=>(HO.o.ge j hj).1);have lX:=HF.o;rw[AY.o]at lX;have mX:=zHi lX;have kI:=zHi vE;have aH:=zHi eT;have H1:=zHi h1;clear vD vE F5 eT oM nI dB lX h1 h2 h3;go_wp2_with fail
      go_round
      case rel=>exact⟨k+1,es++[(⟨#[]⟩,some ad,es2.length,c2)],by omega,by go_num,H1.o,by rw[aj,mX.o];exact kI.o,aH.o,by have:=eO.o;simp;omega⟩
      case measure=>simp[intOf];omega
     ·have mH:zcR s st who f ch=none:=by
       rw[li];cases bp:st
       ·rfl
       ·have mw:es2.length=0:=Classical.byContradiction fun h=>hcond ⟨bp,h⟩
        have tZ:zb5 s true who f ch=[]:=List.eq_nil_of_length_eq_zero (by have:=O2L.o;rw[bp]at this;omega);rw[tZ];rfl
      have lX:=HF.o;rw[mH]at lX;have mX:=zHi lX;have lA:=zHi hcond;have eT:Below w.heap.size w wq:=kH.o.trans (tp.o.mono Mcn);have aH:=zHi eT;have nh:=zHi (HO.o.keep (n:=wr.heap.size) tp.o);have I0:=zHi (HI.o.keep (n:=wr.heap.size) tp.o);clear mH lX eT li;by_cases eI:(0:Int)<(es2.length:Int)
      ·have oO:st=false:=by
        cases bp:st
        ·rfl
        ·exact absurd ⟨bp,by omega⟩ lA.o
       clear hcond;subst oO;exact MX
      ·clear hcond;cases st
       ·exact MX
       ·exact MX
    ·go_wp2_with (first
      |(go_at_call 146;refine(uf.o _ Bw).mono ?_;rintro e wq ⟨rfl,z,rfl⟩)
      |(at_builtin;go_loud(refine za1 (v:= .slice VA es.length vc) (n:=es.length) (m:=1) rfl _ _ rfl elLine zjK ln_one rfl (HO.o.keep (n:=wr.heap.size) Bw) rfl rfl rfl (sl_ln (e:=(ch,none,0,0)) (zar _ _ _ Mdv)) (by have:=eO.o;simp[maxLen];omega) (by have:=eO.o;omega) Mcw ?_);intro v3 w3 h1 h2 h3))
     have vD:ItemsN w3 (fun j=>w.heap.size<=j/\zaA v3≠some j) (f+1) es ((ks.take k).filterMap (zcR s law.stems who f)):=by
      refine ItemsN.turn ?_ ?_ ((HI.o.keep (n:=wr.heap.size) (zaq wr z)).keep (n:=(wr.ext z).heap.size) (zad (Below.refl _ _) (.cells #[.string ch, .slice none 0 0] 243)))
      ·exact fun j hj hQ=>h2.block j hj (fun e=>hQ.2 e.symm)
      ·exact Mbe
     have vE:=vD.snoc (e:=(ch,none,0,0)) (t:= .leaf ch) (.inl ⟨ch,rfl,rfl⟩);have eT:Below w.heap.size w w3:=Below.grown (a:=w) (B:=w.heap.size) (zad (zb6 kH.o z) (.cells #[.string ch, .slice none 0 0] 243)) h2 Mcw (fun j hj=>(HO.o.ge j hj).1);have tk:zcR s law.stems who f ch=some (.leaf ch):=by rw[fD.o];rfl
     have lX:=HF.o;rw[tk]at lX;have mX:=zHi lX;have kI:=zHi vE;have aH:=zHi eT;have H1:=zHi h1;clear vD vE eT tk lX h1 h2 h3;go_wp2_with fail
     go_round
     case rel=>exact⟨k+1,es++[(ch,none,0,0)],by omega,by go_num,H1.o,by rw[mX.o];exact kI.o,aH.o,by have:=eO.o;simp;omega⟩
     case measure=>simp[intOf];omega
   ·rw[List.take_of_length_le Mcn]at HI;have ar: ¬(k:Int)<(ks.length:Int):=Mcn;go_wp2_with fail
    go_ret
    exact⟨_,es,rfl,HO.o,HI.o.turn (fun _ _ _=>rfl) (fun _ _ h=>h.1),hB,by omega⟩
end Go.Proofs.YtjhbofabmpfniaaGreatDoor
