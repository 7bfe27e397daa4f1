/- Walk of chapter 5's surrender. -/
import Derived.Test.YtckkbkdcdkhglaaGreatDoorJN
import Derived.Test.YtckkbkdcdkhglaaGreatDoorO4
set_option linter.unusedSimpArgs false
set_option linter.unusedVariables false
set_option maxRecDepth 100000
set_option maxHeartbeats 4000000
namespace Go.Proofs.YtckkbkdcdkhglaaGreatDoor
open Go.RowKit Go.Shelf
attribute [local go_sem] World.cell?_alloc_mark zag za5 zaq za8 zaw zax zay zaz za0 za1 za2
attribute [local go_sem] zap zad
def surF (frm:ByteArray) (left:Rat):Parts->Parts×Bool->Parts×Bool
 | [],x=>x
 |p::l,x=>surF frm left l (if zae p.1 frm then x else(x.1++[(p.1,zbi (p.2/left))],x.2||bigQ (p.2/left)))
theorem ziA (frm:ByteArray) (left:Rat): ∀(a b:Parts) (x:Parts×Bool),surF frm left (a++b) x=surF frm left b (surF frm left a x)
 | [],_,_=>rfl
 |p::a,b,x=>ziA frm left a b _
theorem surF_snoc (frm:ByteArray) (left:Rat) (hs:Parts) (x:Parts×Bool) {k:Nat} (h:k<hs.length):surF frm left (hs.take (k+1)) x=if zae hs[k].1 frm then surF frm left (hs.take k) x else((surF frm left (hs.take k) x).1++[(hs[k].1,zbi (hs[k].2/left))],(surF frm left (hs.take k) x).2||bigQ (hs[k].2/left)):=by
 rw[List.take_succ_eq_append_getElem h,ziA];rfl
theorem ziB (frm:ByteArray) (left:Rat): ∀(hs out:Parts) (f:Bool),(surF frm left hs (out,f)).2=(f||zaE ((zas hs frm).map fun p=>(p.1,p.2/left)))/\
 ((surF frm left hs (out,f)).2=false->(surF frm left hs (out,f)).1=out++(zas hs frm).map fun p=>(p.1,p.2/left))
 | [],out,f=>by simp[surF,zas,zaE]
 |p::hs,out,f=>by
  rw[surF];cases hp:zae p.1 frm
  ·have e:zas (p::hs) frm=p::zas hs frm:=by unfold zas;rw[List.filter_cons,hp];rfl
   obtain⟨h1,h2⟩:=ziB frm left hs (out++[(p.1,zbi (p.2/left))]) (f||bigQ (p.2/left));simp only[Bool.false_eq_true,if_false];rw[e,List.map_cons];refine⟨by rw[h1];unfold zaE;rw[List.any_cons,Bool.or_assoc],fun h=> ?_⟩;rw[h2 h];rw[h1,Bool.or_eq_false_iff,Bool.or_eq_false_iff]at h;rw[zfc h.1.2];simp
  ·have e:zas (p::hs) frm=zas hs frm:=by unfold zas;rw[List.filter_cons,hp];rfl
   simp only[if_true];rw[e];exact ziB frm left hs out f
theorem zk0 (frm:ByteArray) (left:Rat): ∀(hs out:Parts) (f:Bool),(surF frm left hs (out,f)).1.length<=out.length+hs.length
 | [],out,f=>by simp[surF]
 |p::hs,out,f=>by
  rw[surF];split
  ·have:=zk0 frm left hs out f;simp;omega
  ·have:=zk0 frm left hs (out++[(p.1,zbi (p.2/left))]) (f||bigQ (p.2/left));simp at this⊢;omega
theorem zk1 {s:St} {d:Deed} {i:Nat} {g:Grave} (aO:zaJ s d.place d.day=some i) (hg:s.graves.getD i ze0=g):
 zaZ s d=if zaf g.holders d.frm==0 then(s,19)else if(surF d.frm (1-zaf g.holders d.frm) g.holders ([],false)).2 then(s,8)else
  (s.withGrave i {g with holders:=(surF d.frm (1-zaf g.holders d.frm) g.holders ([],false)).1},0):=by
 obtain⟨h1,h2⟩:=ziB d.frm (1-zaf g.holders d.frm) g.holders [] false;unfold zaZ;rw[aO];simp only[hg];rw[Bool.false_or]at h1;rw[<-h1];cases hf:(surF d.frm (1-zaf g.holders d.frm) g.holders ([],false)).2
 ·have:=h2 hf;rw[List.nil_append]at this;rw[<-this]
 ·rfl
theorem zl2 {g:Grave} {frm:ByteArray} (hG:GoodG g) (ai:zaf g.holders frm≠0):zaK (zaf g.holders frm)/\zaK (1-zaf g.holders frm)/\0<=1-zaf g.holders frm/\
 ∀p∈g.holders,zae p.1 frm=false->0<1-zaf g.holders frm/\zaK p.2:=by
 have ho:=zb8 hG.good frm;have bQ:=zdw hG.good frm;have dP:sumQ g.holders=1:=by
  rcases hG.one with h|h
  ·exact absurd h (zdk ai)
  ·exact h
 have hb:=zcJ frm hG.small;have pG:zaf g.holders frm<=1:=McO;have dD:=zcb ho pG hb;have bF:bigQ (1-zaf g.holders frm)=false:=by
  have hI:IsN (zaf g.holders frm).den (zaf g.holders frm):=⟨(zaf g.holders frm).num,by
   generalize zaf g.holders frm=q;have h1:q=q.num/(q.den:Int):=by rw[<-Rat.divInt_eq_div,Rat.num_divInt_den]
   have h2:((q.den:Int):Rat)≠0:=ratI (by have:=q.den_pos;omega);rw[Rat.intCast_natCast]at h1 h2;conv=>lhs;rw[h1]
   grind⟩
  exact zev (zaf g.holders frm).den_pos dD.2 (zgS (zgT _) hI)
 refine⟨dD,zcb McO McO bF,by grind,fun p hp hs=> ?_⟩;have su:=hG.good.pos p hp;have gK:p∈zas g.holders frm:=List.mem_filter.2 ⟨hp,by rw[hs];rfl⟩;have h1:=zck (n:=frm) hG.good;have h2:=zgQ (l:=zas g.holders frm) (fun q hq=>by have:=(zbH hG.good (n:=frm)).pos q hq;grind) p gK;refine⟨by grind,zcb McO McO ?_⟩;have:=hG.small;unfold zaE at this;rw[List.any_eq_false]at this;simpa using this p hp
theorem sl_part {w:World} {b:Nat} {p:ByteArray×Rat} {t:TypeId} {fr:Nat×Nat} (h:w.heap[b]?=some (.cells #[.string p.1, .int .i64 p.2.num, .int .i64 p.2.den] t fr)):Sl w 3 zaa (some ⟨b,0,none⟩) [p]:=fun _=>⟨b,0,rfl,zab h,fun k y hy j u hu=>by
 have hk:k=0:=Mcx;subst hk;simp only[List.getElem?_cons_zero,Option.some.injEq]at hy;subst hy;match j,hu with
 |0,hu=>simp[zaa]at hu;simp[World.cell?,h,<-hu]
 |1,hu=>simp[zaa]at hu;simp[World.cell?,h,<-hu]
 |2,hu=>simp[zaa]at hu;simp[World.cell?,h,<-hu]
 |j+3,hu=>simp[zaa]at hu⟩
theorem sub1_any (q:Rat) (W:World) (hq:zaK q):Calls Tryz.prog 70 #[.agg #[.int .i64 1, .int .i64 1], .agg #[.int .i64 q.num, .int .i64 q.den]] W (Ret W (za9 (1-q))):=
 zhA 1 q W ⟨by decide,by decide⟩ hq
theorem zk2 (base b:Nat) (s:St) (la co last:Int) (d:Deed) (B:Option Addr) (c:Nat) (w:World) (hW:WldAt base w b s la co) (ji:GoodSt s last) (ag:s.graves.length<=1000) (cB: ∀g∈s.graves,g.holders.length<=10000):
 Calls Tryz.prog 125 #[.pointer (some ⟨b,0,none⟩),d.v B c] w (zbF base b (zaZ s d) la co w):=by
 have rm:=fun i g h1 h2=>zk1 (s:=s) (d:=d) (i:=i) (g:=g) h1 h2
 have ao:=hW;obtain⟨Bk,dd,cc,pp,wl,rr,mv,tv,ps,ba,hC,hP,hT⟩:=hW;have dH:=zab hC;obtain⟨kd,dy,pl,fr,ts,cl,yr⟩:=d;simp only at*;have bE:=zHi (fun W (hB:Below w.heap.size w W)=>zjI base b s la co pl dy W (hC.keep hB) (hT.keep hB) Mcl);have HW:=zHi ao;have HC:=zHi hC;have HP:=zHi hP;cases aO:zaJ s pl dy with
 |none=>
  rw[aO]at bE;have HG:Hid (zaZ s ⟨kd,dy,pl,fr,ts,cl,yr⟩=(s,6)):=by show _=_;simp[zaZ,aO]
  clear aO rm ao hC hP hT;unfold Deed.v;simp only;go_enter Tryz.func125,Tryz.ntmps125
  exact Mag
 |some i=>
  obtain⟨T,g,ic,iG,aA,bT,gW,ko⟩:=zeu hT aO;have qV:=ji.graves g (List.mem_of_getElem? aA);have rV:=cB g (List.mem_of_getElem? aA);have iY:=rm i g aO bT;have ip: ∀W,Below w.heap.size w W->Calls Tryz.prog 26 #[.pointer (some ⟨b,0,none⟩), .string pl, .int .i64 dy] W (Ret W (.pointer (some ⟨T,0,none⟩))):=fun W hB=>by
   have:=bE.o W hB;exact MaP
  have kI:=zHi ip;obtain⟨H,aU,D,dc,frm,t1,t2,t3,t4,t5,t6,t7⟩:=gW;have d8:=zab t1;have eI:=zHi t1;have qG:=zHi t5;have kP:=zHi t6;have nj:=zHi t7;have fB:=zHi iY;have ej:=zHi qV;have HT:=zHi hT;have qx:=zHi ic;clear ip bE t1 t5 t6 t7 iY qV hT ic iG bT aA ko aO rm ji cB ao hC hP;obtain⟨gpl,gcl,gfin,ghs,gdi⟩:=g;simp only at*;unfold zbv at eI;have k4:w.cell? ⟨T,4,none⟩=some (.slice H ghs.length aU):=MdU;obtain⟨own,ae⟩: ∃own,own=zaf ghs fr:=⟨_,rfl⟩
  have gz:=zHi (fun W (hB:Below w.heap.size w W)=>zer ghs H aU T fr W ((hB.cell (p:=⟨T,4,none⟩) d8).trans k4) (Nat.lt_of_lt_of_le d8 hB.size) Mcl ej.o.good.asc (Ro.sl zan (qG.o.keep hB)));have sB:own≠0->_:=fun h=>zl2 ej.o (frm:=fr) (by rw[<-ae];exact h)
  have eV:=zHi sB;rw[<-ae]at gz eV;have jA:=fB.o;clear fB sB;simp only[<-ae,numZ]at jA;have fB:=zHi jA;clear jA;have eH:=zHi ae;clear ae;unfold za9 at gz;unfold Deed.v;simp only;go_enter Tryz.func125,Tryz.ntmps125
  go_upto_region 7 with(first
   |(go_at_call 26;refine(kI.o _ Bw).mono ?_;rintro e wq ⟨rfl,z,rfl⟩)
   |(go_at_call 160;refine(gz.o _ Bw).mono ?_;rintro e wq ⟨rfl,z2,rfl⟩))
  all_goals(try(go_ret;exact zbN HW.o Bw (by rw[fB.o];simp[*];done)))
  have uj:(own.num==0)=false:=McV;have xN:own≠0:=fun e=>by rw[e]at uj;exact absurd uj Mcn
  obtain⟨iF,xv,jw,eD⟩:=eV.o xN;have HG:Hid (zaZ s ⟨kd,dy,pl,fr,ts,cl,yr⟩=if(surF fr (1-own) ghs ([],false)).2 then(s,8)else(s.withGrave i ⟨gpl,gcl,gfin,(surF fr (1-own) ghs ([],false)).1,gdi⟩,0)):=by
   show _=_;rw[fB.o];simp[*];done
  have kN:=zHi eD;clear fB kI gz eV eD;generalize kX:1-own=lf at*;have yU:=zHi kX;clear kX;go_cut [5,6,7]from 8 (fun v5 v6 v7 wc=>v5= .pointer (some ⟨T,0,none⟩)/\ ∃O C,v6= .pointer (some ⟨O,0,none⟩)/\v7= .pointer (some ⟨C,0,none⟩)/\Below w.heap.size w wc/\w.heap.size<O/\O<C/\C+1=wc.heap.size/\wc.heap[w.heap.size]?=some (.cells #[.int .i64 kd, .int .i64 dy, .string pl, .string fr, .slice B ts.length c, .int .i64 cl, .int .i64 yr] 68)/\wc.heap[O]?=some (zbt own)/\MarkAt wc C false)
  case first=>
   go_wp2_with fail
   go_meet
   refine⟨rfl,_,_,rfl,rfl,Bw,by omega,?_,?_,?_,?_,?_⟩
   ·exact Ma9
   ·exact Ma9
   ·exact Mbs
   ·exact Mbn
   ·exact zar _ _ _ MdB
  case rest=>
   obtain⟨rfl,O,C,rfl,rfl,hB,hO,hC,hCs,g0,g1,hm⟩:=hcut;obtain⟨W0,rfl⟩: ∃x,x=wc:=⟨_,rfl⟩
   have t1:=(hB.block T d8).trans eI.o;obtain⟨m0,m1,m2,m3,m4,m5⟩:=cF6 t1;have Ji:T<W0.heap.size:=zab t1;have Jd:T≠W0.heap.size:=Mcl;have o0:W0.cell? ⟨O,0,none⟩=some (.int .i64 own.num):=by simp only[World.cell?,g1,zbt];rfl
   have o1:W0.cell? ⟨O,1,none⟩=some (.int .i64 own.den):=by simp only[World.cell?,g1,zbt];rfl
   have vR:O<W0.heap.size:=Mcl;have F5:O≠W0.heap.size:=Mcl;have G0:=zHi g0;have HM:=zHi hm;have Io:=zHi t1;have eU:=zHi (fun W=>sub1_any own W iF);rw[yU.o]at eU;clear g0 g1 t1 hm;go_wp2_with (go_at_call 70;refine(eU.o _).mono ?_;rintro e wq ⟨rfl,z,rfl⟩;simp only[za9])
   generalize hLL:W0.heap.size+1+z.os.size=L at*;have lJ:=zHi hLL;have qW:W0.heap.size<L:=Mcl;clear hLL m0 m1 m2 m3 m4 m5 o0 o1;go_loopw [39] (fun i wr=> ∃(k:Nat) (v:Value) (out:Parts) (fl:Bool),k<=ghs.length/\i= .int .i64 k/\Hid ((out,fl)=surF fr lf (ghs.take k) ([],false))/\MarkAt wr C fl/\zbv wr W0.heap.size gpl gcl frm gfin v (.slice D gdi.length dc)/\OwnS wr W0.heap.size 63 3 zaa v out/\wr.heap[L]?=some (zbt lf)/\Below C W0 wr/\L<wr.heap.size) (fun i _=>ghs.length-(intOf i).toNat)
   case atStart=>
    refine⟨0, .slice none 0 0,[],false,Nat.zero_le _,rfl,rfl,?_,?_,OwnS.nil,?_,?_,?_⟩
    ·exact((HM.o.alloc _).ext z).alloc _
    ·exact zak (zb9 (zar _ _ _ rfl))
    ·exact zar _ _ _ (by have:=lJ.o;simp[zag];omega)
    ·have ba:Below C W0 W0:=Below.refl _ _;exact zac (zbc (zac ba _ Mcl) _ Mcl) _ Mcl
    ·have:=lJ.o;simp[zag];omega
   case round=>
    obtain⟨k,v,out,fl,hk,rfl,HX,hm,cw,eC,pJ,gV,aP⟩:=hrel;obtain⟨A1,c1,rfl,ra,tG⟩:=eC.sl zan;have eO:=zk0 fr lf (ghs.take k) [] false;rw[<-HX.o]at eO;simp only[List.length_nil,Nat.zero_add,List.length_take]at eO;have tS:out.length<=10000:=Mcl;clear eO ra;have bj:Below w.heap.size w wr:=hB.trans (gV.mono Mcl);have yy:wr.cell? ⟨W0.heap.size,4,none⟩=some (.slice A1 out.length c1):=Mc9;have fx4:wr.frozen? ⟨W0.heap.size,4,none⟩=false:=by unfold zbv at cw;simp only[World.frozen?,cw];rfl
    have fO:wr.cell? ⟨L,0,none⟩=some (.int .i64 lf.num):=by simp only[World.cell?,pJ,zbt];rfl
    have fP:wr.cell? ⟨L,1,none⟩=some (.int .i64 lf.den):=by simp only[World.cell?,pJ,zbt];rfl
    have e3:wr.cell? ⟨w.heap.size,3,none⟩=some (.string fr):=(zah gV Mcl).trans MdY;have HM:=zHi hm;have fC:=zHi cw;have dV:=zHi eC;have lK:=zHi pJ;have sL:=zHi gV;have aW:=zHi bj;clear hm cw eC pJ gV;by_cases aa:k<ghs.length
    ·obtain⟨b',off,rfl,cK,hc⟩:=(Ro.sl zan (qG.o.keep bj)).at aa;have aM:=surF_snoc fr lf ghs ([],false) aa;rw[<-HX.o]at aM;have su:=kN.o ghs[k] (List.getElem_mem aa);generalize ghs[k]=p at*;obtain⟨pn,pq⟩:=p;have i0:wr.cell? ⟨b',off+k*3,none⟩=some (.string pn):=hc 0 _ rfl;have i1:wr.cell? ⟨b',off+k*3+1,none⟩=some (.int .i64 pq.num):=hc 1 _ rfl;have i2:wr.cell? ⟨b',off+k*3+2,none⟩=some (.int .i64 pq.den):=hc 2 _ rfl;have dG:=zHi aM;have Ic:=zHi su;have ar:(k:Int)<(ghs.length:Int):=Mcl;have aT:(0:Int)<=(k:Int):=Mcl;have fN:(k:Int)<=(aU:Int):=Mcl;have cx:w.heap.size<wr.heap.size:=Mcl;have l9:w.heap.size≠wr.heap.size:=Mcl;have bK:W0.heap.size<wr.heap.size:=Mcl;have Gs:W0.heap.size≠wr.heap.size:=Mcl;have hLn:L≠wr.heap.size:=Mcl;clear hc aM su bj;by_cases hsb:pn.toList=fr.toList
     ·have eU:=zHi (zed hsb);have eh:(pn.toList==fr.toList)=true:=by simpa using hsb
      have br:(pn.toList != fr.toList)=false:=by simp[hsb]
      clear hsb;go_wp2_with fail
      go_round
      case rel=>
       have h1:=dG.o;rw[eU.o]at h1;exact⟨k+1,_,out,fl,by omega,by go_num,(h1.symm:_=_),HM.o.alloc _,zak fC.o,dV.o.keep (n:=wr.heap.size) (zac (Below.refl _ _) _),zak lK.o,zac sL.o _ Mcl,by simp;omega⟩
      case measure=>simp[intOf];omega
     ·have eU:=zHi (ze4 hsb);have eh:(pn.toList==fr.toList)=false:=by simpa using hsb
      have br:(pn.toList != fr.toList)=true:=by simp[hsb]
      clear hsb;obtain⟨FM,xS⟩:=Ic.o eU.o;go_upto_region 15 with fail
      refine wp_region_held_drew (S:=(fun w'=>w'.cell? ⟨wr.heap.size,0,none⟩=some (.string pn)/\w'.cell? ⟨wr.heap.size,1,none⟩=some (.int .i64 pq.num)/\w'.cell? ⟨wr.heap.size,2,none⟩=some (.int .i64 pq.den)/\w'.cell? ⟨L,0,none⟩=some (.int .i64 lf.num)/\w'.cell? ⟨L,1,none⟩=some (.int .i64 lf.den))) Mcm ?hS ?hrest
      case hS=>((try dsimp only);refine⟨?_,?_,?_,?_,?_⟩<;>(simp[go_sem,fO,fP,aP];done))
      case hrest=>
       intro hHeld;refine TkH 0 ?_;refine TkH 2 ?_;refine TkH 3 ?_;refine TkH 4 ?_;refine TkH 5 ?_;refine TkH 6 ?_;refine wpAnyH_ready (rs:=[1,7]) Mcm Mco (AllReadyH.cons (List.getElem?_toArray.trans rfl) (fun K hK=> ?_) (AllReadyH.cons (List.getElem?_toArray.trans rfl) (fun K hK=> ?_) AllReadyH.nil))
       ·go_simp
        refine hK.out _ _ ?_ (fun hHeld=> ?_);focus((try dsimp only);refine⟨?_,?_,?_,?_,?_⟩<;>first|assumption|(simp[go_sem,fO,fP,aP];done)|(simp[go_sem,a0,a1,a2,l5,l6,yp,yL];done)|(simp[go_sem,z0,z1,z2,z5,z6,zx,zy];done))
        clear hK K;try simp only[Act.put,List.setIfInBounds_toArray,List.set_cons_zero,List.set_cons_succ]
        refine OnH 7 fun K hK=> ?_
        go_simp
        refine(znL C fl _ ?q1 pq lf xS xv FM).mono ?_
        case q1=>(repeat(first|exact HM.o|refine MarkAt.drew ?_|refine MarkAt.alloc ?_ _))
        rintro e w5 ⟨rfl,n1,n2⟩;have ed:=n2.size;have y0:w5.heap[wr.heap.size]?=some (.cells #[.string pn, .int .i64 pq.num, .int .i64 pq.den] 63):=(n2.block _ Mco Mcq).trans (zar _ _ _ rfl);obtain⟨a0,a1,a2⟩:=cF3 y0;have yL':w5.heap[L]?=some (zbt lf):=(n2.block _ Mcq Mcq).trans (zak lK.o);have l5:w5.cell? ⟨L,0,none⟩=some (.int .i64 lf.num):=Mdq;have l6:w5.cell? ⟨L,1,none⟩=some (.int .i64 lf.den):=Mdq;have yT:zbv w5 W0.heap.size gpl gcl frm gfin (.slice A1 out.length c1) (.slice D gdi.length dc):=(n2.block _ Mcq Mcq).trans (zak fC.o);have y2:w5.cell? ⟨W0.heap.size,4,none⟩=some (.slice A1 out.length c1):=by unfold zbv at yT;simp only[World.cell?,yT];rfl
        have yO:OwnS w5 W0.heap.size 63 3 zaa (.slice A1 out.length c1) out:=by refine OwnS.grown (hg:=n2) ?_ (.inr fun e=>by have:=(dV.o.ge _ e).1;omega);exact dV.o.keep (n:=wr.heap.size) Bw
        have yl:=zab yT;have yp:=zab y0;have yL:=zab yL';have yn:W0.heap.size≠w5.heap.size:=Mcl;have ypn:wr.heap.size≠w5.heap.size:=Mcl;have YT:=zHi yT;have YO:=zHi yO;have YL:=zHi yL';have Y0:=zHi y0;have N1:=zHi n1;have N2:=zHi n2;clear yT yO yL' n1 n2 y0;simp only[za9];refine hK.out _ _ ?_ (fun hHeld=> ?_);focus((try dsimp only);refine⟨?_,?_,?_,?_,?_⟩<;>first|assumption|(simp[go_sem,fO,fP,aP];done)|(simp[go_sem,a0,a1,a2,l5,l6,yp,yL];done)|(simp[go_sem,z0,z1,z2,z5,z6,zx,zy];done))
        clear hK K;try simp only[Act.put,List.setIfInBounds_toArray,List.set_cons_zero,List.set_cons_succ]
        refine TkH 8 ?_;refine OnH 9 fun K hK=> ?_
        exact Mc
       ·go_simp
        refine(znL C fl _ ?q1 pq lf xS xv FM).mono ?_
        case q1=>(repeat(first|exact HM.o|refine MarkAt.drew ?_|refine MarkAt.alloc ?_ _))
        rintro e w5 ⟨rfl,n1,n2⟩;have ed:=n2.size;have y0:w5.heap[wr.heap.size]?=some (.cells #[.string pn, .int .i64 pq.num, .int .i64 pq.den] 63):=(n2.block _ Mco Mcq).trans (zar _ _ _ rfl);obtain⟨a0,a1,a2⟩:=cF3 y0;have yL':w5.heap[L]?=some (zbt lf):=(n2.block _ Mcq Mcq).trans (zak lK.o);have l5:w5.cell? ⟨L,0,none⟩=some (.int .i64 lf.num):=Mdq;have l6:w5.cell? ⟨L,1,none⟩=some (.int .i64 lf.den):=Mdq;have yT:zbv w5 W0.heap.size gpl gcl frm gfin (.slice A1 out.length c1) (.slice D gdi.length dc):=(n2.block _ Mcq Mcq).trans (zak fC.o);have y2:w5.cell? ⟨W0.heap.size,4,none⟩=some (.slice A1 out.length c1):=by unfold zbv at yT;simp only[World.cell?,yT];rfl
        have yO:OwnS w5 W0.heap.size 63 3 zaa (.slice A1 out.length c1) out:=by refine OwnS.grown (hg:=n2) ?_ (.inr fun e=>by have:=(dV.o.ge _ e).1;omega);exact dV.o.keep (n:=wr.heap.size) Bw
        have yl:=zab yT;have yp:=zab y0;have yL:=zab yL';have yn:W0.heap.size≠w5.heap.size:=Mcl;have ypn:wr.heap.size≠w5.heap.size:=Mcl;have YT:=zHi yT;have YO:=zHi yO;have YL:=zHi yL';have Y0:=zHi y0;have N1:=zHi n1;have N2:=zHi n2;clear yT yO yL' n1 n2 y0;simp only[za9];refine hK.out _ _ ?_ (fun hHeld=> ?_);focus((try dsimp only);refine⟨?_,?_,?_,?_,?_⟩<;>first|assumption|(simp[go_sem,fO,fP,aP];done)|(simp[go_sem,a0,a1,a2,l5,l6,yp,yL];done)|(simp[go_sem,z0,z1,z2,z5,z6,zx,zy];done))
        clear hK K;try simp only[Act.put,List.setIfInBounds_toArray,List.set_cons_zero,List.set_cons_succ]
        refine TkH 8 ?_;refine wpAnyH_ready (rs:=[1,9]) Mcm Mco (AllReadyH.cons (List.getElem?_toArray.trans rfl) (fun K hK=> ?_) (AllReadyH.cons (List.getElem?_toArray.trans rfl) (fun K hK=> ?_) AllReadyH.nil))
        ·go_simp
         refine hK.out _ _ ?_ (fun hHeld=> ?_);focus((try dsimp only);refine⟨?_,?_,?_,?_,?_⟩<;>first|assumption|(simp[go_sem,fO,fP,aP];done)|(simp[go_sem,a0,a1,a2,l5,l6,yp,yL];done)|(simp[go_sem,z0,z1,z2,z5,z6,zx,zy];done))
         clear hK K;try simp only[Act.put,List.setIfInBounds_toArray,List.set_cons_zero,List.set_cons_succ]
         refine OnH 9 fun K hK=> ?_
         exact Mc
        ·go_simp
         refine hK.out _ _ ?_ (fun hHeld=> ?_);focus((try dsimp only);refine⟨?_,?_,?_,?_,?_⟩<;>first|assumption|(simp[go_sem,fO,fP,aP];done)|(simp[go_sem,a0,a1,a2,l5,l6,yp,yL];done)|(simp[go_sem,z0,z1,z2,z5,z6,zx,zy];done))
         clear hK K;try simp only[Act.put,List.setIfInBounds_toArray,List.set_cons_zero,List.set_cons_succ]
         refine OnH 1 fun K hK=> ?_
         exact Mc
    ·have ar: ¬(k:Int)<(ghs.length:Int):=Mcl;have nN:(out,fl)=surF fr lf ghs ([],false):=by rw[HX.o,List.take_of_length_le Mcl]
     have jo:=(bj.block T d8).trans eI.o;have mX:=zHi jo;have iP:wr.cell? ⟨C,0,none⟩=some (.bool fl):=(zbT HM.o).1;have gT:=HG.o;rw[<-nN]at gT;clear nN HX ej bj fO fP e3;cases fl
     ·have sU:=zHi gT;have cw:=fC.o;unfold zbv at cw;obtain⟨n0,n1,n2,n3,-,n5⟩:=cF6 cw;obtain⟨z0,z1,z2,z3,z4,z5⟩:=cF6 jo;have fz: ∀j,wr.frozen? ⟨T,j,none⟩=false:=fun j=>by simp only[World.frozen?,jo];rfl
      clear gT cw jo;go_wp2_with fail
      go_ret
      have bj:=aW.o;have ee:Ro wr 63 zaa A1 out:=dV.o.ro';have hN:TombAt ((((((wr.setCell ⟨T,0,none⟩ (.string gpl)).setCell ⟨T,1,none⟩ (.int .i64 gcl)).setCell ⟨T,2,none⟩ (.int .i64 frm)).setCell ⟨T,3,none⟩ (.int .i64 gfin)).setCell ⟨T,4,none⟩ (.slice A1 out.length c1)).setCell ⟨T,5,none⟩ (.slice D gdi.length dc)) base Bk T ⟨gpl,gcl,gfin,out,gdi⟩:=
       ⟨A1,c1,D,dc,frm,zi5 mX.o _ _ _ _ _ _,t2,tG,t4,ee.kept (zcc _ _ _ _ _ _ _ _) mX.o Mcn,(kP.o.keep bj).kept (zcc _ _ _ _ _ _ _ _) mX.o Mcn,nj.o⟩
      have am:=zi4 ba (HC.o.keep bj) (HP.o.keep bj) (HT.o.keep bj) qx.o mX.o (zcc wr T _ _ _ _ _ _) hN;have bf:Below base w wr:=bj.mono Mcl;have jn:=zaS bf (zcc wr T (.string gpl) (.int .i64 gcl) (.int .i64 frm) (.int .i64 gfin) (.slice A1 out.length c1) (.slice D gdi.length dc)) t2 Mcl;have b9:zaZ s ⟨kd,dy,pl,fr,ts,cl,yr⟩=(s.withGrave i ⟨gpl,gcl,gfin,out,gdi⟩,0):=sU.o.trans (if_neg Mco);exact MaS
     ·exact MaV
end Go.Proofs.YtckkbkdcdkhglaaGreatDoor
