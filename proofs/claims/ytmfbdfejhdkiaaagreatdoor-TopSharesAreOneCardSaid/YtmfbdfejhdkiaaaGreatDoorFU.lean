/- Walk of top's full: shares that are right add up to 1, if there are any. -/
import Derived.Test.YtmfbdfejhdkiaaaGreatDoorWV
import Derived.Shelf.SlicesG.CompactI
import Derived.Lib.RowBridge
import Derived.Test.YtmfbdfejhdkiaaaGreatDoorEG
set_option linter.all false
set_option maxRecDepth 100000
set_option maxHeartbeats 4000000
namespace Go.Proofs.YtmfbdfejhdkiaaaGreatDoor
open Go.RowKit Go.Shelf
attribute [local go_sem] World.cell?_alloc_mark zae za4 zao za8 zav zaw zax zay zaz za0 za1
section
attribute [local go_sem] zap zac
def Best5(W:World)(base k:Nat)(v:Value):Prop:=(k<=5/\v=.slice none 0 0)\/(6<=k/\OwnS W base 3 1 intC v [0,2])
theorem Best5.keep{W W':World}{base k n:Nat}{v:Value}(h:Best5 W base k v)(hB:Below n W W')(hn:W.heap.size<=n:=by first|exact Qc|omega):Best5 W' base k v:=h.imp id fun⟨a,b⟩=>⟨a,b.keep hB hn⟩
def zoZ(w:World)(ds:List Deed)(R:St×Nat×Int)(e:Ending)(w':World):Prop:=
 ∃base b la co,e=.returned (.tuple #[.pointer (some ⟨b,0,none⟩),.int .i64 R.2.1,.int .i64 R.2.2])/\w.heap.size<=base/\WldAt base w' b R.1 la co/\Qa w w'/\(R.2.2=0->co=(ds.length:Int)/\la=zeS ds/\GoodSt R.1 la/\FewS ds.length R.1/\ds.length<=60)
theorem zng(laws:List Law)(ds:List Deed)(upto:Int)(LA:Option Addr)(n nc:Nat)(DA:Option Addr)(m mc:Nat)(w:World)(hR:RightsIn w laws ds LA n nc DA m mc)(hF:FormsIn w)(hL:LensIn w)(hO:∀d∈ds,zdE d)(hup:upto=200000):
 Calls Tryz.prog 19 #[.agg #[.slice LA n nc,.slice DA m mc],.int .i64 upto] w (zoZ w ds (zco laws ds upto)):=by
 obtain⟨R,hR⟩:=Qd (zco laws ds upto)
 rw[<-hR];unfold zco at hR;have HR:=zHi hR;clear hR;obtain⟨rfl,rfl,uz,kA,eT,gC⟩:=hR;obtain⟨HF,HL,HO,dB,dj⟩:=yH5 hF hL hO eT gC;clear hF hL hO eT gC;go_enter Tryz.func19,Tryz.ntmps19
 go_upto_region 2 with(go_at_call 43;go_must(refine(zgL _).mono ?_);rintro e wq ⟨rfl,n1,n2,n3⟩;obtain⟨N1,N2,N3⟩:=yH3 n1 n2 n3;clear n1 n2 n3)
 have bY:=wld_new (base:=w.heap.size+1) (w:=w.alloc (.cells #[.slice LA laws.length nc,.slice DA ds.length mc] 25)) (W:=wq) Mcv N1.o.symm N2.o;have hsz:=N1.o;simp only[World.size_alloc]at bY hsz;have aN:Qa w wq:=Below.trans (zad Qb _) (N3.o.mono Mcv);have fw:wq.heap[w.heap.size]?=some (.cells #[.slice LA laws.length nc,.slice DA ds.length mc] 25):=(N3.o.block _ Mcv).trans (zat _ _ _ rfl);have cJ:=zab fw;have bx:∀o,Qa w (wq.alloc o):=fun o=>zad aN _ Mcq
 have sm:∀o,(wq.alloc o).heap[w.heap.size]?=some (.cells #[.slice LA laws.length nc,.slice DA ds.length mc] 25):=fun o=>zal fw
 obtain⟨b,hb⟩:=Qd wq.heap.size
 rw[<-hb]at bY⊢;have h2:=bx (.cells #[.map (some (w.heap.size+1+1)),.map (some (w.heap.size+1+1+1)),.map (some (w.heap.size+1+1+1+1)),.slice none 0 0,.map (some (w.heap.size+1+1+1+1+1)),.map (some (w.heap.size+1+1+1+1+1+1)),.slice none 0 0,.int .i64 0,.int .i64 0] 87);have cW:=sm (.cells #[.map (some (w.heap.size+1+1)),.map (some (w.heap.size+1+1+1)),.map (some (w.heap.size+1+1+1+1)),.slice none 0 0,.map (some (w.heap.size+1+1+1+1+1)),.map (some (w.heap.size+1+1+1+1+1+1)),.slice none 0 0,.int .i64 0,.int .i64 0] 87);clear bx sm aN fw cJ hsz N1 N2 N3 hb;generalize wq.alloc _=W2 at*;obtain⟨oB,aC,ax⟩:=yH3 bY h2 cW;have be:=zab cW;obtain⟨x0,x1⟩:=cF2 cW;have od:=zHi (fun W (hB:Qa W2 W)=>zfP laws LA laws.length nc W rfl (dB.o.keep (h2.trans (hB.mono (Nat.le_of_lt be)))));clear bY h2 cW;by_cases bc:za9 laws=0
 ·rw[bc]at od HR;have dU:=zHi bc;clear bc;go_upto_block 0 with(go_at_call 44;go_must(refine(od.o _ Bw).mono ?_);rintro e wq ⟨rfl,z,rfl⟩)
  clear od x0 x1;go_cut [9,10,11,25]from 26 (fun _ _ _ _ W=>∃s,Hid (R=(s,ds.length,0))/\∃la co,WldAt (w.heap.size+1) W b s la co/\Qa w W/\W.heap[w.heap.size]?=some (.cells #[.slice LA laws.length nc,.slice DA ds.length mc] 25)/\(co=(ds.length:Int)/\la=zeS ds/\GoodSt s la/\FewS ds.length s/\ds.length<=60))
  case first=>
   go_wp2_with fail
   go_loopw [25] (fun i wr=>∃(k:Nat) (s:St) (last:Int),k<=ds.length/\i=.int .i64 k/\Hid (R=zd4 laws upto (ds.drop k) s k last)/\Hid (WldAt (w.heap.size+1) wr b s last k)/\Hid (GoodSt s last)/\Hid (FewS k s)/\k<=60/\Hid (last=zeS (ds.take k))/\Qa w wr/\wr.heap[w.heap.size]?=some (.cells #[.slice LA laws.length nc,.slice DA ds.length mc] 25)) (fun i _=>ds.length-(intOf i).toNat)
   case atStart=>
    refine⟨0,zbb,0,Nat.zero_le _,rfl,?_,oB.o.keep (n:=W2.heap.size) Bw,zdT 0,zfD,by omega,zHi rfl,?_,?_⟩
    ·show _=_;rw[HR.o];simp
    ·exact aC.o.trans (Below.mono (B:=W2.heap.size) Bw (Nat.le_of_lt be))
    ·exact zby ax.o
   case round=>
    obtain⟨k,s,last,hk,rfl,HX,HW,HG,nC,mR,ca,hB,hX⟩:=hrel;clear oB aC ax HR;obtain x0:=cF1 hX;have dQ:=zab hX;obtain⟨HB,pS⟩:=yH2 hB hX;by_cases aa:k<ds.length
    ·obtain⟨db,off,cs,hA,DT,⟨B,c,ao,aQ,hS⟩,hc⟩:=(dj.o.keep zbP hB).at aa;subst hA aQ;have ai:=HX.o;rw[List.drop_eq_getElem_cons aa,zd4,<-List.drop_eq_getElem_cons aa]at ai;have BT:=zHi (zjP aa);have bs:=HO.o ds[k] (List.getElem_mem aa);have jT:∀W,Qa wr W->_:=fun W hW=>zfQ ds[k] B c W (HF.o.keep (hB.trans (hW.mono (Nat.le_of_lt dQ)))) bs ao (hS.keep hW)
     have dw:∀W,Qa wr W->OkD ds[k]->_:=fun W hW hd=>zkE (w.heap.size+1) b s k last laws LA nc ds[k] B c W (HW.o.keep hW) HG.o nC.o hd dU.o (HL.o.keep (hB.trans (hW.mono (Nat.le_of_lt dQ)))) (dB.o.keep (hB.trans (hW.mono (Nat.le_of_lt dQ)))) ao (hS.keep hW)
     rw[zeH]at jT;obtain⟨ak,lI,aA,fq,dK⟩:=yH5 aa (show k+(ds.drop k).length=ds.length by rw[List.length_drop];omega) ai jT dw;generalize ds[k]=d at*;clear ai bs jT dw hX hB hS;have bm:OkD d->(zdp laws s k last d).2=0->k<60/\GoodSt (zdp laws s k last d).1 d.day/\FewS (k+1) (zdp laws s k last d).1:=fun hd h=>zkG h hd HG.o nC.o dU.o
     have ju:zaC d=0->OkD d:=zcP;have pw:=fun h=>zlN (laws:=laws) (s:=s) (co:=k) (last:=last) (d:=d) h
     obtain⟨kd,dy,pl,fr,ts,cl,yr⟩:=d;have i0:wr.cell? ⟨db,off+k*7,none⟩=some (.int .i64 kd):=hc 0 _ rfl;have i1:wr.cell? ⟨db,off+k*7+1,none⟩=some (.int .i64 dy):=hc 1 _ rfl;have i2:wr.cell? ⟨db,off+k*7+2,none⟩=some (.string pl):=hc 2 _ rfl;have i3:wr.cell? ⟨db,off+k*7+3,none⟩=some (.string fr):=hc 3 _ rfl;have i4:wr.cell? ⟨db,off+k*7+4,none⟩=some (.slice B ts.length c):=hc 4 _ rfl;have i5:wr.cell? ⟨db,off+k*7+5,none⟩=some (.int .i64 cl):=hc 5 _ rfl;have i6:wr.cell? ⟨db,off+k*7+6,none⟩=some (.int .i64 yr):=hc 6 _ rfl;have ar:(k:Int)<(ds.length:Int):=Mcq;have aR:(0:Int)<=(k:Int):=Mcq;have Hp:(k:Int)<=(mc:Int):=Mcq;have kN:w.heap.size≠wr.heap.size:=Mcq;unfold Deed.v at dK;simp only at pw bm dK aA;clear hc;by_cases hce:zaC ⟨kd,dy,pl,fr,ts,cl,yr⟩=0
     ·have mX:=ju hce;have ai:=aA.o;rw[hce,pw hce]at ai;rw[hce]at fq;have lj:=bm mX;have fx:=fun h=>zlM (laws:=laws) (s:=s) (d:=⟨kd,dy,pl,fr,ts,cl,yr⟩) (co:=k) (last:=last) h
      have gA:=zHi (fun W hW=>dK.o W hW mX);have jU:=mX.day.2;clear aA dK pw bm ju mX;generalize zdp laws s k last ⟨kd,dy,pl,fr,ts,cl,yr⟩=x at*;generalize zaC ⟨kd,dy,pl,fr,ts,cl,yr⟩=ce at*;obtain⟨s',er⟩:=x;by_cases cf:upto<dy
      ·exact absurd cf (by simp only at jU;omega)
      ·have bQ:R=if(er != 0)=true then(s,k,er)else zd4 laws upto (ds.drop (k+1)) s' (k+1) dy:=by rw[ai,if_neg (by simp[cf])]
       have cO:=zHi bQ;have mF:=fq.o;clear ai bQ lI;by_cases h0:er=0
       ·subst h0;obtain⟨jy,oJ,wv⟩:=lj rfl;obtain⟨fQ,vj⟩:=yH2 oJ wv;have jI:=wrap_k (k:=k) (Nat.lt_trans jy Mcu);have uK:=zmT (k:=k) (Nat.lt_trans jy Mcu);clear lj fx oJ wv mF
        go_wp2_with (first
         |(go_at_call 20;go_must(refine(fq.o _ Bw).mono ?_);rintro e wq ⟨rfl,z,rfl⟩)
         |(go_at_call 21
           go_must(refine(gA.o _ Bw).mono ?_)
           rintro e wq ⟨rfl,t1,t2⟩;simp only[if_true]at t1;have T1:=zHi t1;have aY:Qa w wq:=(HB.o.trans (Below.mono (B:=wr.heap.size) Bw (Nat.le_of_lt dQ))).trans (t2.mono (Nat.le_succ _));have zk:=(t2.block w.heap.size (Nat.lt_succ_self _)).trans (show _=some (.cells #[.slice LA laws.length nc,.slice (some ⟨db,off,none⟩) ds.length mc] 25) from by have hX:=pS.o;repeat(first|assumption|with_reducible refine zal ?_|with_reducible refine zby ?_|with_reducible refine J_ne Mcq ?_));obtain⟨aU,pR⟩:=yH2 aY zk
           clear t1 t2 aY zk))
        go_round
        case rel=>
         clear jI uK;refine⟨k+1,s',dy,ak.o,by go_num,?_,T1.o,fQ.o,vj.o,jy,zHi BT.o.symm,aU.o,pR.o⟩;show _=_;rw[cO.o];simp
        case measure=>clear jI uK;have:=ak.o;simp only[intOf];omega
       ·have hs:=fx h0;simp only at hs;subst hs;have cE:Hid (R=(s',k,er)):=by
         show _=_;rw[cO.o,if_pos MdJ]
        clear lj fx cO mF
        go_wp2_with (first
         |(go_at_call 20;go_must(refine(fq.o _ Bw).mono ?_);rintro e wq ⟨rfl,z,rfl⟩)
         |(go_at_call 21
           go_must(refine(gA.o _ Bw).mono ?_)
           rintro e wq ⟨rfl,t1,t2⟩;have T1:=zHi t1;have aY:Qa w wq:=(HB.o.trans (Below.mono (B:=wr.heap.size) Bw (Nat.le_of_lt dQ))).trans (t2.mono (Nat.le_succ _));have aU:=zHi aY
           clear t1 t2 aY))
        go_ret3
        rw[cE.o];exact⟨w.heap.size+1,b,_,_,rfl,by omega,T1.o,aU.o,fun h=>absurd h h0⟩
     ·have ag:(zbt laws s k last ⟨kd,dy,pl,fr,ts,cl,yr⟩)=(s,zaC ⟨kd,dy,pl,fr,ts,cl,yr⟩):=by
       unfold zbt;rw[if_pos MdS]
      have ai:=aA.o;rw[ag]at ai;generalize zaC ⟨kd,dy,pl,fr,ts,cl,yr⟩=ce at*;have cE:Hid (R=(s,k,ce)):=by
       show _=_;rw[ai,if_neg (by simp[hce]),if_pos MdS]
      clear ai ag aA dK pw bm ju lI;go_wp2_with (go_at_call 20;go_must(refine(fq.o _ Bw).mono ?_);rintro e wq ⟨rfl,z,rfl⟩)
      go_ret3
      rw[cE.o];exact⟨w.heap.size+1,b,last,k,rfl,by omega,HW.o.keep (n:=wr.heap.size) Bw,HB.o.trans (Below.mono (B:=wr.heap.size) Bw Mcq),fun h=>absurd h hce⟩
    ·have ar:¬(k:Int)<(ds.length:Int):=Mcq;have hx:=HX.o;rw[List.drop_eq_nil_of_le Mcq,zd4]at hx;have kE:k=ds.length:=Mcq;have cE:Hid (R=(s,ds.length,0)):=by show _=_;rw[hx,kE]
     have pa:=kE;clear hx kE hX hB;go_wp2_with fail
     go_meet
     exact⟨s,cE.o,last,k,HW.o,HB.o,pS.o,by rw[pa],by rw[ca.o,pa,List.take_length],HG.o,pa▸nC.o,pa▸mR⟩
  case rest=>
   obtain⟨s,cE,la,co,hW,hB,hX,hg⟩:=hcut;obtain⟨-,x1⟩:=cF2 hX;have dQ:=zab hX;obtain⟨HW,HB⟩:=yH2 hW hB;clear hW hB hX;go_upto_region 15 with fail
   go_quiet (fail)
   go_wp2_with fail
   go_ret3
   rw[cE.o];exact⟨w.heap.size+1,b,la,co,rfl,by omega,HW.o.keep (n:=wc.heap.size) Bw,HB.o.trans (Below.mono (B:=wc.heap.size) Bw Mcq),fun _=>hg⟩
 ·generalize za9 laws=er at*;have ag:(er != 0)=true:=by simpa using bc
  have cE:Hid (R=(zbb,0,er)):=by show _=_;rw[HR.o,if_pos ag]
  clear HR;go_wp2_with (go_at_call 44;go_must(refine(od.o _ Bw).mono ?_);rintro e wq ⟨rfl,z,rfl⟩)
  go_ret3
  rw[cE.o];exact⟨w.heap.size+1,b,0,0,rfl,by omega,oB.o.keep (n:=W2.heap.size) Bw,aC.o.trans (Below.mono (B:=W2.heap.size) Bw Mcq),fun h=>absurd h bc⟩
theorem zkK(xs:List DV)(L:Option Addr)(n lc:Nat)(w:World)(hn:n=xs.length)(hl:xs.length<=100000)(hS:Sl w 7 DV.cells L xs):
 Calls Tryz.prog 23 #[.slice L n lc] w (zfl w 28 7 DV.cells xs):=by
 have HM:=zHi hn;have q22:∀(w:World) (a:Option Addr) (n c n' c':Nat),(binOp .eql 23 (.slice a n c) (.slice none n' c')).run Tryz.prog w=.ok (.bool a.isNone) w:=fun w a n c n' c'=>Lib.run_eql_slice_nil w _ _ a n c n' c' Tryz.underlying23
 clear hn;go_enter Tryz.func23,Tryz.ntmps23
 cases L with
 |none=>
  exact ML
 |some ad=>
  go_wp2_with (at_builtin;refine zcm rfl _ _ rfl zft zbA zfs rfl (World.ownsRow_made w #[] 0 Qc (Nat.zero_le _) Mcv) rfl HM.o (hS.keep Bw) ?q1 ?q2 Mcv ?_)
  case q1=>simp[maxLen,HM.o];omega
  case q2=>simp[HM.o];omega
  intro v' w' h1 h2 h3;go_wp2_with fail
  go_ret
  refine⟨v',rfl,OwnS.of_own zbA MdV,Below.grown Bw h2 Mcv Mc6⟩
theorem zmb(xs:List Law)(L:Option Addr)(n lc:Nat)(w:World)(hn:n=xs.length)(hl:xs.length<=100000)(hS:Sl w 4 Law.cells L xs):
 Calls Tryz.prog 22 #[.slice L n lc] w (zfl w 72 4 Law.cells xs):=by
 have HM:=zHi hn;have q22:∀(w:World) (a:Option Addr) (n c n' c':Nat),(binOp .eql 22 (.slice a n c) (.slice none n' c')).run Tryz.prog w=.ok (.bool a.isNone) w:=fun w a n c n' c'=>Lib.run_eql_slice_nil w _ _ a n c n' c' Tryz.underlying22
 clear hn;go_enter Tryz.func22,Tryz.ntmps22
 cases L with
 |none=>
  exact ML
 |some ad=>
  go_wp2_with (at_builtin;refine zcm rfl _ _ rfl elLaw (fun _=>rfl) lw_one rfl (World.ownsRow_made w #[] 0 Qc (Nat.zero_le _) Mcv) rfl HM.o (hS.keep Bw) ?q1 ?q2 Mcv ?_)
  case q1=>simp[maxLen,HM.o];omega
  case q2=>simp[HM.o];omega
  intro v' w' h1 h2 h3;go_wp2_with fail
  go_ret
  refine⟨v',rfl,OwnS.of_own (fun _=>rfl) MdV,Below.grown Bw h2 Mcv Mc6⟩
theorem zjr(xs:List RPart)(L:Option Addr)(n lc:Nat)(w:World)(hn:n=xs.length)(hl:xs.length<=100000)(hS:Sl w 3 RPart.cells L xs):
 Calls Tryz.prog 56 #[.slice L n lc] w (zfl w 59 3 RPart.cells xs):=by
 have HM:=zHi hn;have q22:∀(w:World) (a:Option Addr) (n c n' c':Nat),(binOp .eql 26 (.slice a n c) (.slice none n' c')).run Tryz.prog w=.ok (.bool a.isNone) w:=fun w a n c n' c'=>Lib.run_eql_slice_nil w _ _ a n c n' c' Tryz.underlying26
 clear hn;go_enter Tryz.func56,Tryz.ntmps56
 cases L with
 |none=>
  exact ML
 |some ad=>
  go_wp2_with (at_builtin;refine zcm rfl _ _ rfl elRPart rp_len rp_one rfl (World.ownsRow_made w #[] 0 Qc (Nat.zero_le _) Mcv) rfl HM.o (hS.keep Bw) ?q1 ?q2 Mcv ?_)
  case q1=>simp[maxLen,HM.o];omega
  case q2=>simp[HM.o];omega
  intro v' w' h1 h2 h3;go_wp2_with fail
  go_ret
  refine⟨v',rfl,OwnS.of_own rp_len MdV,Below.grown Bw h2 Mcv Mc6⟩
theorem dv_of{W:World}{A:Option Addr}{ds:List Deed}(h:SlW W 7 zfL A ds):∃xs:List DV,xs.map (·.d)=ds/\(∀x∈xs,x.d.to.length<=x.c/\Sl W 3 RPart.cells x.B x.d.to)/\Sl W 7 DV.cells A xs:=by
 by_cases h0:ds=[]
 ·subst h0;exact⟨[],rfl,by simp,fun h=>absurd h Mcv⟩
 ·have hl:0<ds.length:=by cases ds with
   |nil=>exact absurd rfl h0
   |cons _ _=>simp
  obtain⟨b,off,hA,hb,hc⟩:=h hl;have hx:∀(k:Nat) (hk:k<ds.length),∃y:DV,y.d=ds[k]/\y.d.to.length<=y.c/\Sl W 3 RPart.cells y.B y.d.to/\∀j u,y.cells[j]?=some u->W.cell? ⟨b,off+k*7+j,none⟩=some u:=fun k hk=>by
   obtain⟨cs,⟨B,c,h1,h2,h3⟩,h4⟩:=hc k _ (List.getElem?_eq_getElem hk);refine⟨⟨ds[k],B,c⟩,rfl,h1,h3,fun j u hu=>h4 j u ?_⟩;rw[h2];exact hu
  have aH:∀n,n<=ds.length->∃xs:List DV,xs.map (·.d)=ds.take n/\(∀x∈xs,x.d.to.length<=x.c/\Sl W 3 RPart.cells x.B x.d.to)/\∀k x,xs[k]?=some x->∀j u,x.cells[j]?=some u->W.cell? ⟨b,off+k*7+j,none⟩=some u:=by
   intro n;induction n with
   |zero=>intro _;exact⟨[],by simp,by simp,by simp⟩
   |succ n ih=>
    intro hn;obtain⟨xs,h1,h2,h3⟩:=ih Mcq;obtain⟨y,e1,e2,e3,e4⟩:=hx n Mcq;have ae:xs.length=n:=by
     have:=congrArg List.length h1;simp at this;omega
    refine⟨xs++[y],?_,?_,?_⟩
    ·rw[List.map_append,h1,List.take_add_one,List.getElem?_eq_getElem (show n<ds.length by omega)];simp[e1]
    ·intro x uM;rcases List.mem_append.1 uM with uM|uM
     ·exact h2 x uM
     ·rw[List.mem_singleton]at uM;subst uM;exact⟨e2,e3⟩
    ·intro k x hk;by_cases jz:k<n
     ·rw[List.getElem?_append_left Mcq]at hk;exact h3 k x hk
     ·have fZ:k=n:=by
       exact MbL
      subst fZ;rw[List.getElem?_append_right Mcq,ae]at hk;simp at hk;subst hk;exact e4
  obtain⟨xs,h1,h2,h3⟩:=aH ds.length Qc;rw[List.take_length]at h1;exact⟨xs,h1,h2,fun _=>⟨b,off,hA,hb,h3⟩⟩
theorem znh(d:Deed)(B:Option Addr)(c:Nat)(w:World)(hl:d.to.length<=100000)(hS:Sl w 3 RPart.cells B d.to):Calls Tryz.prog 24 #[d.v B c] w (znW w d):=by
 obtain⟨kd,dy,pl,fr,ts,cl,yr⟩:=d;have HS:=zHi hS;unfold znW Deed.v;simp only at hl hS⊢;clear hS;go_enter Tryz.func24,Tryz.ntmps24
 go_upto_region 1 with fail
 obtain⟨W1,aP⟩:=Qd ((w.alloc (.cells #[.int .i64 kd,.int .i64 dy,.string pl,.string fr,.slice B ts.length c,.int .i64 cl,.int .i64 yr] 28)).alloc (.cells #[.int .i64 0,.int .i64 0,.string ⟨#[]⟩,.string ⟨#[]⟩,.slice none 0 0,.int .i64 0,.int .i64 0] 28))
 have b0:W1.heap[w.heap.size]?=some (.cells #[.int .i64 kd,.int .i64 dy,.string pl,.string fr,.slice B ts.length c,.int .i64 cl,.int .i64 yr] 28):=by rw[aP];exact zal (zat _ _ _ rfl)
 have r0:W1.heap[w.heap.size+1]?=some (.cells #[.int .i64 0,.int .i64 0,.string ⟨#[]⟩,.string ⟨#[]⟩,.slice none 0 0,.int .i64 0,.int .i64 0] 28):=by rw[aP];exact zat _ _ _ Mcv
 have dC:Qa w W1:=by rw[aP];exact Bw
 rw[<-aP];have aE:=zHi dC;have ee:=dC.size;clear aP;have l0:=zab b0;have l1:=zab r0;obtain⟨-,-,-,-,c4⟩:=cF5 b0;have bZ:=zHi (zjr ts B ts.length c W1 rfl hl (HS.o.keep dC));clear dC
 go_upto_region 2 with(go_at_call 56
                       go_must(refine bZ.o.mono ?_)
                       rintro e w2 ⟨v2,rfl,o2,bC⟩;have e1:w2.heap[w.heap.size]?=_:=(bC.block w.heap.size l0).trans b0;have e2:w2.heap[w.heap.size+1]?=_:=(bC.block (w.heap.size+1) l1).trans r0;obtain⟨A2,c2,rfl,d8,s2⟩:=o2.ro;have f4:w2.frozen? ⟨w.heap.size,4,none⟩=false:=by simp[World.frozen?,e1]
                       obtain⟨-,-,-,-,k4⟩:=cF5 e1
                       clear o2)
 have iO:=zHi (d8);obtain⟨W3,bo⟩:=Qd (w2.setCell ⟨w.heap.size,4,none⟩ (.slice A2 ts.length c2))
 have b3:W3.heap[w.heap.size]?=some (.cells #[.int .i64 kd,.int .i64 dy,.string pl,.string fr,.slice A2 ts.length c2,.int .i64 cl,.int .i64 yr] 28):=by
  rw[bo];have:=Joins.block_setCell (i:=4) e1 (.slice A2 ts.length c2);simpa using this
 have r3:W3.heap[w.heap.size+1]?=some (.cells #[.int .i64 0,.int .i64 0,.string ⟨#[]⟩,.string ⟨#[]⟩,.slice none 0 0,.int .i64 0,.int .i64 0] 28):=by rw[bo];exact J_ne Mcq e2
 have s3:Ro W3 59 RPart.cells A2 ts:=by rw[bo];exact s2.kept (za2 _ _ _ _) e1 Mcu
 have eP:Qa w W3:=by rw[bo];exact zaN (aE.o.trans (bC.mono aE.o.size)) Mcv _
 rw[<-bo];obtain⟨S3,aJ⟩:=yH2 s3 eP;clear bo eP s3 s2 e1 e2 f4 k4 bC b0 r0 c4 l0 l1;obtain⟨g0,g1,g2,g3,g4,g5,g6⟩:=cF7 b3;obtain⟨t0,t1,t2,t3,t4,t5,t6⟩:=cF7 r3;have f0:∀j,W3.frozen? ⟨w.heap.size+1,j,none⟩=false:=fun j=>by simp[World.frozen?,r3]
 go_wp2_with fail
 refine bodyPost_ret (v:=.agg #[.int .i64 kd,.int .i64 dy,.string pl,.string fr,.slice A2 ts.length c2,.int .i64 cl,.int .i64 yr]) ?_ rfl ?_
 ·exact zlD rfl _ _ (w.heap.size+1) _ _ _ _ _ _ _ rfl (zc9 r3)
 ·exact⟨A2,c2,rfl,d8,(((((((S3.o.kept (za2 _ _ _ _) r3 Mcu).kept (za2 _ _ _ _) (Joins.block_setCell (i:=0) r3 _) Mcu).kept (za2 _ _ _ _) (Joins.block_setCell (i:=1) (Joins.block_setCell (i:=0) r3 _) _) Mcu).kept (za2 _ _ _ _) (Joins.block_setCell (i:=2) (Joins.block_setCell (i:=1) (Joins.block_setCell (i:=0) r3 _) _) _) Mcu).kept (za2 _ _ _ _) (Joins.block_setCell (i:=3) (Joins.block_setCell (i:=2) (Joins.block_setCell (i:=1) (Joins.block_setCell (i:=0) r3 _) _) _) _) Mcu).kept (za2 _ _ _ _) (Joins.block_setCell (i:=4) (Joins.block_setCell (i:=3) (Joins.block_setCell (i:=2) (Joins.block_setCell (i:=1) (Joins.block_setCell (i:=0) r3 _) _) _) _) _) Mcu).kept (za2 _ _ _ _) (Joins.block_setCell (i:=5) (Joins.block_setCell (i:=4) (Joins.block_setCell (i:=3) (Joins.block_setCell (i:=2) (Joins.block_setCell (i:=1) (Joins.block_setCell (i:=0) r3 _) _) _) _) _) _) Mcu),zaN (zaN (zaN (zaN (zaN (zaN (zaN aJ.o Mcv _) Mcv _) Mcv _) Mcv _) Mcv _) Mcv _) Mcv _⟩
noncomputable def zfN (laws:List Law) (ds:List Deed) (d:Deed):Int:=
 if(zco laws ds 200000).2.2 != 0 then(zco laws ds 200000).2.2 else if zaC d != 0 then zaC d else(zdp laws (zco laws ds 200000).1 ds.length (zeS ds) d).2
theorem stop_laws{laws:List Law}{ds:List Deed}{u:Int}(h:(zco laws ds u).2.2=0):za9 laws=0:=by
 unfold zco at h;split at h
 ·rename_i h1
  simp only at h;exact absurd h McZ
 ·rename_i h1
  simpa using h1
def zmc(w:World)(laws:List Law)(ds:List Deed)(d:Deed)(E:Int)(e:Ending)(w':World):Prop:=
 Qa w w'/\((E≠0/\e=.returned (.tuple #[.agg #[.slice none 0 0,.slice none 0 0],.int .i64 E]))\/
  (E=0/\∃A nc B mc,e=.returned (.tuple #[.agg #[.slice A laws.length nc,.slice B (ds.length+1) mc],.int .i64 0])/\RightsIn w' laws (ds++[d]) A laws.length nc B (ds.length+1) mc))
theorem zpa{fn:Func}{p q:Tmp}{a:TypeId}(h:fn.results= #[.cell p a,.tmp q])(tmps:Array Value)(P:Program)(w:World):
 (results fn tmps).run P w=((asAddr (tmps.getD p undef)).run P w).andThen fun x w₁=>((loadVar a x).run P w₁).andThen fun v w₂=> .ok (.tuple #[v,tmps.getD q undef]) w₂:=by
 exact Mbu
theorem zfG{fn:Func}{p q:Tmp}(h:fn.results= #[.cell p 25,.tmp q])(tmps:Array Value)(w:World)(B:Nat)(x0 x1 y:Value)(hp:tmps.getD p undef=.pointer (some ⟨B,0,none⟩))(hq:tmps.getD q undef=y)
 (hx:w.heap[B]?=some (.cells #[x0,x1] 25)):(results fn tmps).run Tryz.prog w=.ok (.tuple #[.agg #[x0,x1],y]) w:=by
 obtain⟨h0,h1⟩:=cF2 hx;clear hx;rw[zpa h,hp,hq];go_simp
theorem ziT{w:World}{g:Nat}{z0 z1 a b:Value}{t:TypeId}{fr:Nat×Nat}(h:w.heap[g]?=some (.cells #[z0,z1] t fr)):
 ((w.setCell ⟨g,0,none⟩ a).setCell ⟨g,1,none⟩ b).heap[g]?=some (.cells #[a,b] t fr):=by
 exact MbM
theorem J_other{w:World}{b o k:Nat}{v:Value}(ag:k≠b)(hk:k<w.heap.size):(w.setCell ⟨b,o,none⟩ v).heap[k]?=w.heap[k]?:=by
 have h:w.heap[k]?=some w.heap[k]:=Array.getElem?_eq_getElem hk;rw[J_ne ag h,h]
theorem zpb(y:Int)(w:World)(h0:0<=y)(h1:y<=100000):Calls Tryz.prog 189 #[.int .i64 y] w (Ret0 w (.bool (zgY y))):=by
 have w1:wrap64 (y.tmod 4)=y.tmod 4:=McR;have w2:wrap64 (y.tmod 100)=y.tmod 100:=McR;have w3:wrap64 (y.tmod 400)=y.tmod 400:=McR;have v1:IntKind.i64.wrap (y.tmod 4)=y.tmod 4:=McL;have v2:IntKind.i64.wrap (y.tmod 100)=y.tmod 100:=McL;have v3:IntKind.i64.wrap (y.tmod 400)=y.tmod 400:=McL;go_enter Tryz.func189,Tryz.ntmps189
 go_wp2_with fail
 all_goals go_ret
 all_goals exact⟨by simp[zgY,Int.tmod_eq_emod_of_nonneg h0, *],rfl⟩
theorem zni(y:Int)(w:World)(h0:0<=y)(h1:y<=100000):Calls Tryz.prog 188 #[.int .i64 y] w (Ret0 w (.int .i64 (zeY y))):=by
 have e1:y.tdiv 4=y/4:=Int.tdiv_eq_ediv_of_nonneg h0;have e2:y.tdiv 100=y/100:=Int.tdiv_eq_ediv_of_nonneg h0;have e3:y.tdiv 400=y/400:=Int.tdiv_eq_ediv_of_nonneg h0;have hv:=zdy h0;have HV:=zHi hv;clear hv;go_enter Tryz.func188,Tryz.ntmps188
 exact MbH
theorem znj{y:Int}(h0:0<=y)(h1:y<=100000):0<=zeY y/\zeY y<=100000:=by
 rw[zdy h0];omega
theorem zfw(y:Int)(m:Nat)(w:World)(h0:0<=y)(h1:y<=100000)(cM:1<=m)(fB:m<=12):Calls Tryz.prog 175 #[.int .i64 y,.int .i64 m] w (Ret0 w (.int .i64 (za7 y m))):=by
 have hm:m=2\/m=1\/m=3\/m=4\/m=5\/m=6\/m=7\/m=8\/m=9\/m=10\/m=11\/m=12:=Mcq;rcases hm with h|h|h|h|h|h|h|h|h|h|h|h
 ·subst h;unfold za7;cases hl:zgY y
  ·have bf:∀W:World,Sem.run Tryz.prog (Instr.index 213 (.agg #[.int .i64 0,.int .i64 31,.int .i64 28,.int .i64 31,.int .i64 30,.int .i64 31,.int .i64 30,.int .i64 31,.int .i64 31,.int .i64 30,.int .i64 31,.int .i64 30,.int .i64 31]) (.int .i64 2)) W=.ok (.int .i64 28) W:=fun W=>by kernel_rfl
   exact MaO
  ·exact MaO
 ·(subst h
   have bf:∀W:World,Sem.run Tryz.prog (Instr.index 213 (.agg #[.int .i64 0,.int .i64 31,.int .i64 28,.int .i64 31,.int .i64 30,.int .i64 31,.int .i64 30,.int .i64 31,.int .i64 31,.int .i64 30,.int .i64 31,.int .i64 30,.int .i64 31]) (.int .i64 1)) W=.ok (.int .i64 31) W:=fun W=>by kernel_rfl
   go_enter Tryz.func175,Tryz.ntmps175
   go_wp2_with fail
   go_ret
   exact⟨rfl,rfl⟩)
 ·(subst h
   have bf:∀W:World,Sem.run Tryz.prog (Instr.index 213 (.agg #[.int .i64 0,.int .i64 31,.int .i64 28,.int .i64 31,.int .i64 30,.int .i64 31,.int .i64 30,.int .i64 31,.int .i64 31,.int .i64 30,.int .i64 31,.int .i64 30,.int .i64 31]) (.int .i64 3)) W=.ok (.int .i64 31) W:=fun W=>by kernel_rfl
   go_enter Tryz.func175,Tryz.ntmps175
   go_wp2_with fail
   go_ret
   exact⟨rfl,rfl⟩)
 ·(subst h
   have bf:∀W:World,Sem.run Tryz.prog (Instr.index 213 (.agg #[.int .i64 0,.int .i64 31,.int .i64 28,.int .i64 31,.int .i64 30,.int .i64 31,.int .i64 30,.int .i64 31,.int .i64 31,.int .i64 30,.int .i64 31,.int .i64 30,.int .i64 31]) (.int .i64 4)) W=.ok (.int .i64 30) W:=fun W=>by kernel_rfl
   go_enter Tryz.func175,Tryz.ntmps175
   go_wp2_with fail
   go_ret
   exact⟨rfl,rfl⟩)
 ·(subst h
   have bf:∀W:World,Sem.run Tryz.prog (Instr.index 213 (.agg #[.int .i64 0,.int .i64 31,.int .i64 28,.int .i64 31,.int .i64 30,.int .i64 31,.int .i64 30,.int .i64 31,.int .i64 31,.int .i64 30,.int .i64 31,.int .i64 30,.int .i64 31]) (.int .i64 5)) W=.ok (.int .i64 31) W:=fun W=>by kernel_rfl
   go_enter Tryz.func175,Tryz.ntmps175
   go_wp2_with fail
   go_ret
   exact⟨rfl,rfl⟩)
 ·(subst h
   have bf:∀W:World,Sem.run Tryz.prog (Instr.index 213 (.agg #[.int .i64 0,.int .i64 31,.int .i64 28,.int .i64 31,.int .i64 30,.int .i64 31,.int .i64 30,.int .i64 31,.int .i64 31,.int .i64 30,.int .i64 31,.int .i64 30,.int .i64 31]) (.int .i64 6)) W=.ok (.int .i64 30) W:=fun W=>by kernel_rfl
   go_enter Tryz.func175,Tryz.ntmps175
   go_wp2_with fail
   go_ret
   exact⟨rfl,rfl⟩)
 ·(subst h
   have bf:∀W:World,Sem.run Tryz.prog (Instr.index 213 (.agg #[.int .i64 0,.int .i64 31,.int .i64 28,.int .i64 31,.int .i64 30,.int .i64 31,.int .i64 30,.int .i64 31,.int .i64 31,.int .i64 30,.int .i64 31,.int .i64 30,.int .i64 31]) (.int .i64 7)) W=.ok (.int .i64 31) W:=fun W=>by kernel_rfl
   go_enter Tryz.func175,Tryz.ntmps175
   go_wp2_with fail
   go_ret
   exact⟨rfl,rfl⟩)
 ·(subst h
   have bf:∀W:World,Sem.run Tryz.prog (Instr.index 213 (.agg #[.int .i64 0,.int .i64 31,.int .i64 28,.int .i64 31,.int .i64 30,.int .i64 31,.int .i64 30,.int .i64 31,.int .i64 31,.int .i64 30,.int .i64 31,.int .i64 30,.int .i64 31]) (.int .i64 8)) W=.ok (.int .i64 31) W:=fun W=>by kernel_rfl
   go_enter Tryz.func175,Tryz.ntmps175
   go_wp2_with fail
   go_ret
   exact⟨rfl,rfl⟩)
 ·(subst h
   have bf:∀W:World,Sem.run Tryz.prog (Instr.index 213 (.agg #[.int .i64 0,.int .i64 31,.int .i64 28,.int .i64 31,.int .i64 30,.int .i64 31,.int .i64 30,.int .i64 31,.int .i64 31,.int .i64 30,.int .i64 31,.int .i64 30,.int .i64 31]) (.int .i64 9)) W=.ok (.int .i64 30) W:=fun W=>by kernel_rfl
   go_enter Tryz.func175,Tryz.ntmps175
   go_wp2_with fail
   go_ret
   exact⟨rfl,rfl⟩)
 ·(subst h
   have bf:∀W:World,Sem.run Tryz.prog (Instr.index 213 (.agg #[.int .i64 0,.int .i64 31,.int .i64 28,.int .i64 31,.int .i64 30,.int .i64 31,.int .i64 30,.int .i64 31,.int .i64 31,.int .i64 30,.int .i64 31,.int .i64 30,.int .i64 31]) (.int .i64 10)) W=.ok (.int .i64 31) W:=fun W=>by kernel_rfl
   go_enter Tryz.func175,Tryz.ntmps175
   go_wp2_with fail
   go_ret
   exact⟨rfl,rfl⟩)
 ·(subst h
   have bf:∀W:World,Sem.run Tryz.prog (Instr.index 213 (.agg #[.int .i64 0,.int .i64 31,.int .i64 28,.int .i64 31,.int .i64 30,.int .i64 31,.int .i64 30,.int .i64 31,.int .i64 31,.int .i64 30,.int .i64 31,.int .i64 30,.int .i64 31]) (.int .i64 11)) W=.ok (.int .i64 30) W:=fun W=>by kernel_rfl
   go_enter Tryz.func175,Tryz.ntmps175
   go_wp2_with fail
   go_ret
   exact⟨rfl,rfl⟩)
 ·(subst h
   have bf:∀W:World,Sem.run Tryz.prog (Instr.index 213 (.agg #[.int .i64 0,.int .i64 31,.int .i64 28,.int .i64 31,.int .i64 30,.int .i64 31,.int .i64 30,.int .i64 31,.int .i64 31,.int .i64 30,.int .i64 31,.int .i64 30,.int .i64 31]) (.int .i64 12)) W=.ok (.int .i64 31) W:=fun W=>by kernel_rfl
   go_enter Tryz.func175,Tryz.ntmps175
   go_wp2_with fail
   go_ret
   exact⟨rfl,rfl⟩)
theorem zdr(y:Int)(m:Nat)(w:World)(h0:1800<=y)(h1:y<=2500)(cM:1<=m)(fB:m<=12):Calls Tryz.prog 174 #[.int .i64 y,.int .i64 m] w (Ret0 w (.int .i64 (zaI y m))):=by
 have LO:=znj (y:=y-1) Mcq Mcq;have k0:IntKind.i64.wrap (y-1)=y-1:=IntWalk.i64_in _ Mcq;have k1:IntKind.i64.wrap (y-1800)=y-1800:=IntWalk.i64_in _ Mcq;have k2:IntKind.i64.wrap (365*(y-1800))=365*(y-1800):=IntWalk.i64_in _ Mcq;have k3:IntKind.i64.wrap (365*(y-1800)+zeY (y-1))=365*(y-1800)+zeY (y-1):=IntWalk.i64_in _ Mcq;have k4:IntKind.i64.wrap (365*(y-1800)+zeY (y-1)-436)=begP y:=by unfold begP;exact IntWalk.i64_in _ Mcq
 have pf:zeY 1799=436:=Mcs;go_enter Tryz.func174,Tryz.ntmps174
 go_upto_region 3 with(go_at_call 188;refine(zni _ _ Mcq Mcq).mono ?_;rintro e wq ⟨rfl,rfl⟩;(try rw[pf]))
 clear k0 k1 k2 k3 k4 LO;go_loop [5,6] (fun n i=>∃k:Nat,1<=k/\k<=m/\i=.int .i64 k/\n=.int .i64 (zaI y k)) (fun _ i=>m-(intOf i).toNat)
 case atStart=>exact⟨1,by omega,cM,rfl,by rw[zb9]⟩
 case round=>
  obtain⟨k,fZ,sX,rfl,rfl⟩:=hrel;by_cases aa:k<m
  ·have hb:=zbV (m:=k) h0 h1 fZ Mcq;have fX:=zdI y fZ (show k<=12 by omega);have hu:=zf7 y fZ;have HU:=zHi hu;have k2:IntKind.i64.wrap (zaI y k+za7 y k)=zaI y k+za7 y k:=IntWalk.i64_in _ Mcq;have cA:(k:Int)<(m:Int):=Mcq;clear hu;go_wp2_with (go_at_call 175;refine(zfw y k _ Mcq Mcq fZ Mcq).mono ?_;rintro e wq ⟨rfl,rfl⟩)
   go_round
   case rel=>exact⟨k+1,by omega,by omega,by go_num,by rw[HU.o]⟩
   case measure=>simp[intOf];omega
  ·exact Mbk
theorem zmd(day:Int)(w:World)(h0:0<=day)(h1:day<=200000):
 Calls Tryz.prog 170 #[.int .i64 day] w (fun e w'=>DateIs day (zbN day) (zbg day)/\Ret w (zm4 (zbN day) (zbg day) (day-zaI (zbN day) (zbg day)+1)) e w'):=by
 have fN:=beg_low h0 h1;have fe:=znG h0 h1;have xq:day.tdiv 366=day/366:=Int.tdiv_eq_ediv_of_nonneg h0;have eJ:0<=day/366:=Mcq;have cN:day/366<=546:=Mcq;rw[xq]at fN fe;have zm:zbN day=zep day 10 (1800+day/366):=by unfold zbN;rw[xq]
 obtain⟨HY,HH⟩:=yH2 zm fe;clear zm fe;go_enter Tryz.func170,Tryz.ntmps170
 go_wp2_with fail
 go_loopg [] 10 (fun gg wr=>∃(f:Nat) (y:Int),f<=gg/\y+f=1800+day/366+10/\1800<=y/\y<=2400/\Hid (zbN day=zep day f y)/\Hid (begP y<=day)/\Qa w wr/\wr.heap[w.heap.size]?=some (.cells #[.int .i64 0,.int .i64 0,.int .i64 0] 117)/\wr.heap[w.heap.size+1]?=some (.cells #[.int .i64 y,.int .i64 1,.int .i64 0] 117))
 case atStart=>exact⟨10,1800+day/366,Qc,by omega,by omega,by omega,HY.o,fN,Bw,zal (zat _ _ _ rfl),zat _ _ _ Mcv⟩
 case round=>
  obtain⟨f,y,hf,NF,ly,Be,vY,fE,hB,g0,g1⟩:=hrel;have a0:wr.cell? ⟨w.heap.size+1,0,none⟩=some (.int .i64 y):=Mct;have a1:wr.cell? ⟨w.heap.size+1,1,none⟩=some (.int .i64 1):=Mct;have a2:wr.cell? ⟨w.heap.size+1,2,none⟩=some (.int .i64 0):=Mct;have z0:wr.frozen? ⟨w.heap.size+1,0,none⟩=false:=McF;have z1:wr.frozen? ⟨w.heap.size+1,1,none⟩=false:=McF;have z2:wr.frozen? ⟨w.heap.size+1,2,none⟩=false:=McF;have b0:wr.cell? ⟨w.heap.size,0,none⟩=some (.int .i64 0):=Mcr;have b1:wr.cell? ⟨w.heap.size,1,none⟩=some (.int .i64 0):=Mcr;have b2:wr.cell? ⟨w.heap.size,2,none⟩=some (.int .i64 0):=Mcr;have x0:wr.frozen? ⟨w.heap.size,0,none⟩=false:=McE;have x1:wr.frozen? ⟨w.heap.size,1,none⟩=false:=McE;have x2:wr.frozen? ⟨w.heap.size,2,none⟩=false:=McE;have e1:w.heap.size+1<wr.heap.size:=zab g1;have e0:w.heap.size<wr.heap.size:=zab g0;have k0:IntKind.i64.wrap (y+1)=y+1:=IntWalk.i64_in _ Mcq;by_cases hc:begP (y+1)<=day
  ·have Ay:f≠0:=by
    exact MbF
   obtain⟨f',rfl⟩:∃f',f=f'+1:=⟨f-1,by omega⟩
   have HN:Hid (zbN day=zep day f' (y+1)):=by
    show _=_;rw[vY.o,zlf Meg]
   have HC:=zHi hc;go_wp2_with (go_at_call 174;refine(zdr (y+1) 1 _ Mcq Mcq Mcq Mcq).mono ?_;rintro e wq ⟨rfl,rfl⟩;rw[zb9])
   exact MW
  ·have HN:Hid (zbN day=y):=by
    show _=_;rw[vY.o,zlg Meg]
   have sL:=zbV (m:=1) ly Mcq Mcq Mcq;rw[zb9]at sL;have k1:IntKind.i64.wrap (day-begP y)=day-begP y:=IntWalk.i64_in _ Mcq;have ya:zbg day=zdk day y 12 1:=by unfold zbg;rw[HN.o]
   have kU:=zHi ya;have zn:day<zaI y 12+za7 y 12:=by
    rw[<-zj7 ly,zb9];omega
   have CC:=zHi zn;have lG:=fE.o;have aj:Hid (zaI y 1<=day):=by show _<=_;rw[zb9];exact lG
   clear ya zn lG;obtain⟨G0,G1⟩:=yH2 g0 g1;go_upto_region 4 with(go_at_call 174;refine(zdr (y+1) 1 _ Mcq Mcq Mcq Mcq).mono ?_;rintro e wq ⟨rfl,rfl⟩;rw[zb9])
   clear a0 a1 a2 z0 z1 z2 b0 b1 b2 x0 x1 x2 g0 g1;go_loopg [] 12 (fun gg wm=>∃(m:Nat),1<=m/\m<=12/\12-m<=gg/\Hid (zbg day=zdk day y (13-m) m)/\Hid (zaI y m<=day)/\Qa w wm/\wm.heap[w.heap.size]?=some (.cells #[.int .i64 0,.int .i64 0,.int .i64 0] 117)/\wm.heap[w.heap.size+1]?=some (.cells #[.int .i64 y,.int .i64 m,.int .i64 0] 117))
   case atStart=>exact⟨1,by omega,by omega,by omega,kU.o,aj.o,hB,G0.o,G1.o⟩
   case round=>
    obtain⟨m,cM,fB,sO,HM,rm,FS,g0,g1⟩:=hrel;have a0:wr.cell? ⟨w.heap.size+1,0,none⟩=some (.int .i64 y):=Mct;have a1:wr.cell? ⟨w.heap.size+1,1,none⟩=some (.int .i64 m):=Mct;have a2:wr.cell? ⟨w.heap.size+1,2,none⟩=some (.int .i64 0):=Mct;have z0:wr.frozen? ⟨w.heap.size+1,0,none⟩=false:=McF;have z1:wr.frozen? ⟨w.heap.size+1,1,none⟩=false:=McF;have z2:wr.frozen? ⟨w.heap.size+1,2,none⟩=false:=McF;have b0:wr.cell? ⟨w.heap.size,0,none⟩=some (.int .i64 0):=Mcr;have b1:wr.cell? ⟨w.heap.size,1,none⟩=some (.int .i64 0):=Mcr;have b2:wr.cell? ⟨w.heap.size,2,none⟩=some (.int .i64 0):=Mcr;have x0:wr.frozen? ⟨w.heap.size,0,none⟩=false:=McE;have x1:wr.frozen? ⟨w.heap.size,1,none⟩=false:=McE;have x2:wr.frozen? ⟨w.heap.size,2,none⟩=false:=McE;have e1:w.heap.size+1<wr.heap.size:=zab g1;have e0:w.heap.size<wr.heap.size:=zab g0;have fX:=zdI y cM fB;have oZ:=zbV (m:=m) ly Mcq cM Mcq;have hu:=zf7 y cM;have dE:=rm.o;have k3:IntKind.i64.wrap ((m:Int)+1)=(m:Int)+1:=IntWalk.i64_in _ Mcq;have k5:IntKind.i64.wrap (day-zaI y m)=day-zaI y m:=IntWalk.i64_in _ Mcq;have k4:IntKind.i64.wrap (day-zaI y m+1)=day-zaI y m+1:=IntWalk.i64_in _ Mcq;by_cases d8:m<12/\zaI y (m+1)<=day
    ·obtain⟨th,mC⟩:=d8;have iC:(m:Int)<12:=Mcq;have kV:Hid (zbg day=zdk day y (13-(m+1)) (m+1)):=by
      show _=_;rw[HM.o,show 13-m=(13-(m+1))+1 by omega,zj8 th mC]
     obtain⟨fF,ol⟩:=yH2 mC (fun W=>zdr y (m+1) W ly Mcq Mcq Mcq);rw[show((m+1:Nat):Int)=(m:Int)+1 from rfl]at ol;clear hu dE;go_wp2_with (go_at_call 174;refine(ol.o _).mono ?_;rintro e wq ⟨rfl,rfl⟩)
     go_roundg (12-(m+1))
     case measure=>omega
     case rel=>
      refine⟨m+1,by omega,by omega,Qc,kV,fF.o,by repeat(first|exact B_refl|exact Qb|assumption|with_reducible refine zad ?_ _|with_reducible refine zaZ ?_ _|with_reducible refine zaF ?_|with_reducible refine zeh ?_ _|with_reducible refine zaN ?_ Mdq _),J_ne Mcq g0,?_⟩;exact MbJ
    ·have kV:Hid (zbg day=m):=by
      show _=_;rw[HM.o,zj9 d8]
     have Hc:day<zaI y m+za7 y m:=by
      by_cases h12:m<12
      ·have:¬zaI y (m+1)<=day:=fun h=>d8 ⟨h12,h⟩
       rw[hu]at this;omega
      ·obtain rfl:m=12:=by omega
       exact CC.o
     have HD:Hid (DateIs day (zbN day) (zbg day)):=by
      show DateIs _ _ _;rw[HN.o,kV.o];exact⟨ly,by omega,cM,fB,dE,Hc⟩
     obtain⟨ol,ra⟩:=yH2 (fun W (h:m<12)=>zdr y (m+1) W ly Mcq Mcq Mcq) (fun W=>zdr y m W ly Mcq cM fB);rw[show((m+1:Nat):Int)=(m:Int)+1 from rfl]at ol;have bH:∀W:World,W=W->True:=fun _ _=>trivial
     clear hu dE Hc bH;by_cases h12:m<12
     ·have iC:(m:Int)<12:=Mcq;have iV:¬zaI y (m+1)<=day:=fun h=>d8 ⟨h12,h⟩
      have r9:=zHi (fun W=>ol.o W h12);clear d8;go_upto_region 6 with(go_at_call 174;refine(r9.o _).mono ?_;rintro e wq ⟨rfl,rfl⟩)
      exact Mcl
     ·have iC:¬(m:Int)<12:=Mcq;clear d8 ol;go_upto_region 6 with fail
      exact Mcl
theorem zhA(n:Int)(w:World):Calls Tryz.prog 173 #[.int .i64 n] w (Ret0 w (.bool (inR n 1800 2347))):=by
 go_enter Tryz.func173,Tryz.ntmps173
 exact Mau
theorem ziU(n:Int)(w:World):Calls Tryz.prog 176 #[.int .i64 n] w (Ret0 w (.bool (zbm n))):=by
 go_enter Tryz.func176,Tryz.ntmps176
 exact Mau
theorem zjU(n:Int)(w:World)(h0:0<=n)(h1:n<=1000000):Calls Tryz.prog 172 #[.int .i64 n,.int .i64 12] w (Ret0 w (.int .i64 (n%12))):=by
 have e1:n.tmod 12=n%12:=Int.tmod_eq_emod_of_nonneg h0;have k1:IntKind.i64.wrap (n%12)=n%12:=IntWalk.i64_in _ Mcq;have k2:IntKind.i64.wrap (n%12+12)=n%12+12:=IntWalk.i64_in _ Mcq;have e2:(n%12+12).tmod 12=n%12:=by rw[Int.tmod_eq_emod_of_nonneg Mcq];omega
 go_enter Tryz.func172,Tryz.ntmps172
 go_wp2_with fail
 go_ret
 exact⟨by first|rfl|simp,rfl⟩
theorem zme(n:Int)(w:World)(h0:0<=n)(h1:n<=1000000):Calls Tryz.prog 171 #[.int .i64 n,.int .i64 12] w (Ret0 w (.int .i64 (n/12))):=by
 have k1:IntKind.i64.wrap (n-n%12)=n-n%12:=IntWalk.i64_in _ Mcq;have e1:(n-n%12).tdiv 12=n/12:=by rw[Int.tdiv_eq_ediv_of_nonneg Mcq];omega
 have k2:IntKind.i64.wrap (n/12)=n/12:=IntWalk.i64_in _ Mcq;go_enter Tryz.func171,Tryz.ntmps171
 go_wp2_with (go_at_call 172;refine(zjU _ _ h0 h1).mono ?_;rintro e wq ⟨rfl,rfl⟩)
 go_ret
 exact⟨by first|rfl|simp,rfl⟩
theorem ziV(day mo:Int)(w:World)(h0:0<=day)(h1:day<=200000)(pj:0<=mo)(cM:mo<=12000):
 Calls Tryz.prog 155 #[.int .i64 day,.int .i64 mo] w (fun e w'=>∃n:Int,∃ok:Bool,(ok=true->zbF day mo=n/\0<=n)/\(ok=false->zbF day mo= -1)/\Ret w (.tuple #[.int .i64 n,.bool ok]) e w'):=by
 have hA:zbF day mo=if !inR ((zbN day*12+zbg day-1+mo)/12) 1800 2347 then-1 else
  if zbm (zaI ((zbN day*12+zbg day-1+mo)/12) ((zbN day*12+zbg day-1+mo)%12+1).toNat+min (day-zaI (zbN day) (zbg day)+1) (za7 ((zbN day*12+zbg day-1+mo)/12) ((zbN day*12+zbg day-1+mo)%12+1))-1)then
   zaI ((zbN day*12+zbg day-1+mo)/12) ((zbN day*12+zbg day-1+mo)%12+1).toNat+min (day-zaI (zbN day) (zbg day)+1) (za7 ((zbN day*12+zbg day-1+mo)/12) ((zbN day*12+zbg day-1+mo)%12+1))-1 else-1:=rfl
 have HA:=zHi hA;clear hA;have HD:=zHi (fun W=>zmd day W h0 h1);generalize zbN day=y at*;generalize zbg day=m at*;generalize zbF day mo=R at*;go_enter Tryz.func155,Tryz.ntmps155
 go_upto_region 2 with(go_at_call 170;refine(HD.o _).mono ?_;rintro e wq ⟨uo,rfl,z,rfl⟩;simp only[zm4])
 obtain⟨d1,d2,d3,d4,d5,d6⟩:=uo;obtain⟨f1,f2⟩:=zdI y d3 d4;obtain⟨X,hX⟩:=Qd (day-zaI y m+1)
 obtain⟨N,hN⟩:=Qd (y*12+m-1+mo)
 have tK:Hid (R=if !inR (N/12) 1800 2347 then-1 else if zbm (zaI (N/12) (N%12+1).toNat+min X (za7 (N/12) (N%12+1))-1)then zaI (N/12) (N%12+1).toNat+min X (za7 (N/12) (N%12+1))-1 else-1):=by
  show _=_;rw[HA.o,hX,hN]
 have KT:1<=X:=Mcq;have sm:X<=31:=Mcq;rw[<-hX];have k1:IntKind.i64.wrap (y*12)=y*12:=IntWalk.i64_in _ Mcq;have k2:IntKind.i64.wrap (y*12+m)=y*12+m:=IntWalk.i64_in _ Mcq;have k3:IntKind.i64.wrap (y*12+m-1)=y*12+m-1:=IntWalk.i64_in _ Mcq;have k4:IntKind.i64.wrap (y*12+m-1+mo)=N:=by rw[hN];exact IntWalk.i64_in _ Mcq
 have Db:0<=N/\N<=100000:=Mcq;obtain⟨rX,Dc⟩:=Db;clear HA hX hN HD d5 d6 f1 f2;have eJ:0<=N/12:=Mcq;obtain⟨mm,fC⟩:∃mm:Nat,(mm:Int)=N%12+1:=⟨(N%12+1).toNat,by omega⟩
 have dt:1<=mm:=Mcq;have jB:mm<=12:=Mcq;have ht:(N%12+1).toNat=mm:=Mcq;have cD:Hid (R=if !inR (N/12) 1800 2347 then-1 else if zbm (zaI (N/12) mm+min X (za7 (N/12) mm)-1)then zaI (N/12) mm+min X (za7 (N/12) mm)-1 else-1):=by
  show _=_;rw[tK.o,ht,<-fC]
 have k5:IntKind.i64.wrap (N%12+1)=(mm:Int):=by rw[fC];exact IntWalk.i64_in _ Mcq
 obtain⟨Y,hY⟩:∃Y,N/12=Y:=⟨_,rfl⟩
 rw[hY]at cD;have wZ:Y<=10000:=Mcq;have cN:0<=Y:=Mcq;clear tK ht;have zJ:=zHi fC;clear fC
 go_upto_region 4 with(first
  |(go_at_call 171;refine(zme _ _ rX Mcq).mono ?_;rintro e wq ⟨rfl,rfl⟩;rw[hY])
  |(go_at_call 172;refine(zjU _ _ rX Mcq).mono ?_;rintro e wq ⟨rfl,rfl⟩))
 cases aM:inR Y 1800 2347
 ·have HR:Hid (R= -1):=MdO;go_wp2_with (go_at_call 173;refine(zhA _ _).mono ?_;rintro e wq ⟨rfl,rfl⟩;rw[aM])
  all_goals go_ret2
  all_goals exact⟨0,false,by simp,fun _=>HR.o,Ret.of rfl Bw⟩
 ·have x8:1800<=Y/\Y<=2347:=by simpa[inR]using aM
  obtain⟨f1,f2⟩:=zdI Y dt jB;have sL:=zbV (m:=mm) x8.1 Mcq dt Mcq;have HR:Hid (R=if zbm (zaI Y mm+min X (za7 Y mm)-1)then zaI Y mm+min X (za7 Y mm)-1 else-1):=MdO;clear cD;go_upto_region 6 with(go_at_call 173;refine(zhA _ _).mono ?_;rintro e wq ⟨rfl,rfl⟩;rw[aM])
  obtain⟨vA,uZ⟩:=yH2 (fun W=>zfw Y mm W cN Mcq dt jB) (fun W=>zdr Y mm W x8.1 Mcq dt jB);have j1:IntKind.i64.wrap (zaI Y mm+min X (za7 Y mm))=zaI Y mm+min X (za7 Y mm):=IntWalk.i64_in _ Mcq;have j2:IntKind.i64.wrap (zaI Y mm+min X (za7 Y mm)-1)=zaI Y mm+min X (za7 Y mm)-1:=IntWalk.i64_in _ Mcq;generalize za7 Y mm=L at*;generalize zaI Y mm=F at*;clear sL;refine zam Mcs Mcs ?_;repeat(first|go_big_quiet_skip|(go_big_quiet_want;go_big_quiet_op;first|go_big_quiet_on|(apply Exists.intro;refine⟨fun _=>?_,?_⟩;(first|(go_at_call 175;exact zjZ (vA.o _))|(go_at_call 174;exact zjZ (uZ.o _)));go_big_quiet_on)))
  refine wpQuiet_nil ?_;rintro _ ⟨zq,rfl⟩;generalize hO:F+min X L-1=out at*;have HO:=zHi hO;clear hO vA uZ j1 j2;cases hd:zbm out
  ·have jL:=zHi hd;go_wp2_with (go_at_call 176;refine(ziU _ _).mono ?_;rintro e wq ⟨rfl,rfl⟩;rw[hd])
   exact MbI
  ·have jL:=zHi hd;go_wp2_with (go_at_call 176;refine(ziU _ _).mono ?_;rintro e wq ⟨rfl,rfl⟩;rw[hd])
   exact Ma2
theorem zjV(day ys:Int)(w:World)(h0:0<=day)(h1:day<=200000)(pj:0<=ys)(cM:ys<=99):
 Calls Tryz.prog 118 #[.int .i64 day,.int .i64 ys] w (Ret w (.int .i64 (zcg day ys))):=by
 have HL:=zHi (ziV day (12*ys) w h0 h1 Mcq Mcq);have bu:=zkB day ys;unfold zcg at bu;have J9:=zHi bu;have kz:IntKind.i64.wrap (12*ys)=12*ys:=IntWalk.i64_in _ Mcq;clear bu;go_enter Tryz.func118,Tryz.ntmps118
 go_upto_region 2 with(go_at_call 155;refine(HL.o).mono ?_;rintro e wq ⟨n,ok,k1,k2,rfl,z,rfl⟩;obtain⟨H1,H2⟩:=yH2 k1 k2;clear k1 k2)
 cases ok
 ·have HE:Hid (zcg day ys= -1):=by show _=_;unfold zcg;exact H2.o rfl
  go_wp2_with fail
  go_ret
  exact Ret.of (zcd HE.o.symm) Bw
 ·have HE:Hid (zcg day ys=n):=by show _=_;unfold zcg;exact(H1.o rfl).1
  have hn:¬200000<n:=by have:=J9.o;have:=(H1.o rfl).1;omega
  go_wp2_with fail
  go_ret
  exact Ret.of (zcd HE.o.symm) Bw
end
section
open Go.Sort
def zpc:Go.Shelf.Ren:=⟨fun|43=>29|n=>n,fun|22=>78|23=>3|3=>3|4=>4|0=>0|n=>n,fun|n=>n⟩
theorem cmpInt:Go.Proofs.SlLaysN.n43 Tryz.prog zpc:= {
 mixed:=by kernel_rfl
 f43:=⟨Tryz.f29.name,by decide,Tryz.func29.trans (congrArg some Mcs)⟩
 t0:=Tryz.underlying0
 a0:=Tryz.isAgg0
 z0:=Tryz.sizeOf0
 v0:=Tryz.zeroValue0
 t3:=Tryz.underlying3
 a3:=Tryz.isAgg3
 z3:=Tryz.sizeOf3
 v3:=Tryz.zeroValue3
 t4:=Tryz.underlying4
 a4:=Tryz.isAgg4
 z4:=Tryz.sizeOf4
 v4:=Tryz.zeroValue4
 t22:=Tryz.underlying78
 a22:=Tryz.isAgg78
 z22:=Tryz.sizeOf78
 v22:=Tryz.zeroValue78
 t23:=Tryz.underlying3
 a23:=Tryz.isAgg3
 z23:=Tryz.sizeOf3
 v23:=Tryz.zeroValue3
 i23:=by kernel_rfl}
theorem own_put2{α β:Type}[Inhabited β]{e:TypeId}{f:α->List Value}{enc:β->Value}{w:World}{base g o cap n:Nat}{cur:Array Value}{d:Array β}{L:List α}(hg:w.heap[g]?=some (.cells cur e (0,0)))(hb:base<=g)(hc:L.length<=cap)(hm:cap<=maxLen)(hs:o+cap*1<=cur.size)(hd:L.length<=d.size)(hf:L.flatMap f=(d.toList.take L.length).map enc):
 OwnS (putRow enc (Sort.ahead w n) g o d) base e 1 f (.slice (some ⟨g,o,none⟩) L.length cap) L:=by
 have hl:=zab hg;refine .inr ⟨g,o,cap,putCells enc o d cur,rfl,hb,?_,hc,hm,by unfold putCells;rw[Array.size_mapIdx];exact hs,?_⟩
 ·show((Sort.mapBlock _ _ _).heap)[g]?=_;simp only[Sort.mapBlock,Sort.ahead];rw[Array.getElem?_modify,if_pos rfl,hg];rfl
 ·intro j u hu;rw[hf,List.getElem?_map]at hu;cases hj:(d.toList.take L.length)[j]? with
  |none=>rw[hj]at hu;cases hu
  |some x=>
   rw[hj]at hu;have bM:j<L.length:=by
    have:=(List.getElem?_eq_some_iff.1 hj).1;rw[List.length_take]at this;omega
   have LE:j<d.size:=Mcq;have hx:d[j]! =x:=by
    rw[getElem!_pos d j LE];have:=(List.getElem?_eq_some_iff.1 hj).2;simpa using this
   exact MaG
theorem zpd{β:Type}[Inhabited β]{enc:β->Value}{w:World}{g o n:Nat}(d:Array β):w.grownBy (putRow enc (Sort.ahead w n) g o d) (some g):=by
 have:=zlS (enc:=enc) (w:=w) (g:=g) (o:=o) (n:=n) d #[];rwa [grow_empty]at this
theorem ziW(zs:List Int)(x:Int):∀j,zs.toArray[j]! =x->∃i,i<=j/\zs.toArray[i]! =x/\Lib.keeps zs.toArray i=true
 |0,h=>⟨0,Qc,h,by simp[Lib.keeps]⟩
 |j+1,h=>by
  by_cases h1:zs.toArray[j]! =x
  ·obtain⟨i,hi,h2⟩:=ziW zs x j h1;exact⟨i,by omega,h2⟩
  ·refine⟨j+1,Qc,h,?_⟩;unfold Lib.keeps;rw[decide_eq_true_eq];exact .inr fun e=>h1 (by rw[<-h,e];rfl)
theorem znk(zs:List Int)(x:Int):x∈Lib.compact zs↔x∈zs:=by
 unfold Lib.compact Lib.compactUpTo;simp only[List.mem_map,List.mem_filter,List.mem_range];constructor
 ·rintro⟨j,⟨hj,_⟩,rfl⟩;rw[getElem!_pos _ j MdI];simp
 ·intro hx;obtain⟨j,hj,he⟩:=List.mem_iff_getElem.1 hx;have oX:zs.toArray[j]! =x:=by rw[getElem!_pos _ j MdI];simpa using he
  obtain⟨i,hi,h1,h2⟩:=ziW zs x j oX;exact⟨i,⟨by omega,h2⟩,h1⟩
theorem znl{zs:List Int}(h:zs.Pairwise (· <= ·)):(Lib.compact zs).Pairwise (· < ·):=by
 unfold Lib.compact Lib.compactUpTo;rw[List.pairwise_map,List.pairwise_filter];have hr:(List.range zs.length).Pairwise fun a b=>a<b/\b<zs.length:=by
  rw[List.pairwise_iff_getElem];intro i j hi hj eH;simp only[List.getElem_range];simp only[List.length_range]at hj;exact⟨eH,hj⟩
 refine hr.imp fun {a b} ⟨cH,hb⟩ _ hk=>?_
 unfold Lib.keeps at hk;rw[decide_eq_true_eq]at hk;rcases hk with hk|hk
 ·omega
 ·have hP:=List.pairwise_iff_getElem.1 h;have oO:a<zs.length:=Mcq;have aO:b-1<zs.length:=Mcq;rw[getElem!_pos _ b (by simpa using hb),getElem!_pos _ (b-1) (by simpa using aO)]at hk;rw[getElem!_pos _ b (by simpa using hb),getElem!_pos _ a (by simpa using oO)];simp only[List.getElem_toArray]at hk⊢;have h1:=hP (b-1) b aO hb Mcq;have h2:zs[a]<=zs[b-1]:=by
   by_cases e:a=b-1
   ·subst e;omega
   ·exact hP a (b-1) oO aO Mcq
  omega
theorem compZ_any(v:Value)(xs:List Int)(base:Nat)(w:World)(ac:OwnS w base 3 1 zC v xs)(hl:xs.length<=1000000000):
 Calls Tryz.prog 29 #[v] w fun e w'=>∃v',e=.returned v'/\OwnS w' base 3 1 zC v' (Lib.compact xs)/\w.grownBy w' (za6 v):=by
 rcases ac with⟨rfl,rfl⟩|⟨g,o,cap,cur,rfl,hb,hg,hc,hm,hs,hx⟩
 ·have ba:=AnyG.slices_Compact_int_empty cmpInt none 0 w;change Calls Tryz.prog 29 _ _ _ at ba;refine ba.mono ?_;rintro e wq ⟨rfl,rfl⟩;exact⟨_,rfl,OwnS.nil,zc3 _ _⟩
 ·have ba:=AnyG.slices_Compact_int cmpInt g o cap xs w (zlT (f:=zC) (L:=xs) hg (zlU xs) hx) Mcq hc;change Calls Tryz.prog 29 _ _ _ at ba;refine ba.mono ?_;rintro e wq ⟨rfl,n,rfl⟩;have bu:=Lib.compact_length_le xs;refine⟨_,rfl,own_put2 hg hb Mcq hm hs Mcv ?_,zpd _⟩;rw[zlU];simp
end
attribute [local go_sem] zap zac
theorem full_any(ps:Parts)(A:Option Addr)(c:Nat)(w:World)(hp:PartsOk ps)(hS:Sl w 3 zaa A ps):
 Calls Tryz.prog 11 #[.slice A ps.length c] w (Ret w (.bool true)):=by
 obtain⟨HS,HG⟩:=yH2 hS hp.parts.1;have hl:ps.length<=1000000000:=hp.parts.2.2;have aw:(0:Rat)+sumQ ps=sumQ ps:=McN;obtain⟨fH,rz,kj⟩:=yH3 aw hp.parts.2.1 hp.one;clear hS hp aw;go_enter Tryz.func11,Tryz.ntmps11
 go_upto_region 3 with fail
 go_loopw [4,5] (fun i _ wr=>∃(k:Nat) (q:Rat),k<=ps.length/\i=.int .i64 k/\Hid (0<=q/\q+sumQ (ps.drop k)=sumQ ps)/\Hid ((q.den:Int)<=1000000000)/\Qa w wr/\wr.heap[w.heap.size]?=some (.cells #[.int .i64 q.num,.int .i64 q.den] 57)) (fun i _ _=>ps.length-(intOf i).toNat)
 case atStart=>exact⟨0,0,Nat.zero_le _,rfl,zHi ⟨Rat.le_refl,by rw[List.drop_zero];exact fH.o⟩,by show _<=_;decide,Bw,by first|exact zat _ _ _ rfl|simp[World.setCell]⟩
 case round=>
  obtain⟨k,q,hk,rfl,HQ,HD,hB,g1⟩:=hrel;have HB:=zHi hB;have aW:=hB.size;have gn:=zab g1;by_cases aa:k<ps.length
  ·obtain⟨b,off,rfl,hb,ah⟩:=(HS.o.keep hB).at aa;have hq:=HQ.o;have jW:=HG.o _ (List.getElem_mem aa);rw[List.drop_eq_getElem_cons aa,sumQ]at hq;have hrest:0<=sumQ (ps.drop (k+1)):=zhf fun p hp=>(HG.o p (List.mem_of_mem_drop hp)).1
   have ak:=zHi aa;have fk:=num_pos jW.1;have qz:=num_le jW.2.1;have tu:=jW.2.2;have Ng:=zHi jW;generalize ps[k]=p at*;obtain⟨n,r⟩:=p;have i1:wr.cell? ⟨b,off+k*3+1,none⟩=some (.int .i64 r.num):=ah 1 _ rfl;have i2:wr.cell? ⟨b,off+k*3+2,none⟩=some (.int .i64 r.den):=ah 2 _ rfl;have ar:(k:Int)<(ps.length:Int):=Mcq;have aR:(0:Int)<=(k:Int):=Mcq;simp only at hq fk qz tu;obtain⟨vK,rv⟩:=yH2 hq hrest;clear ah aa hq jW hrest hB;go_upto_region 6 with fail
   obtain⟨WZ,kv⟩:=Qd (wr.alloc (.cells #[.int .i64 r.num,.int .i64 r.den] 57))
   have a0:WZ.heap[wr.heap.size]?=some (.cells #[.int .i64 r.num,.int .i64 r.den] 57):=Mer;have z1:WZ.heap[w.heap.size]?=some (.cells #[.int .i64 q.num,.int .i64 q.den] 57):=by rw[kv];exact zal g1
   have fU:Qa w WZ:=by rw[kv];exact zad HB.o _
   rw[<-kv];have dH:=zHi fU;clear kv fU g1 i1 i2;obtain⟨p0,p1⟩:=zbj a0;obtain⟨p2,p3⟩:=zbj z1;have y1:=zab z1;have y2:=zab a0;have aM:inR (r.den:Int) 1 1000000000=true:=by unfold inR;simp;omega
   have mQ:inR r.num 1 (r.den:Int)=true:=by unfold inR;simp;omega
   have ai:¬1000000000<(q.den:Int):=by have:=HD.o;omega
   have gV:=vK.o;have uE:=Ng.o;have Nh:=rv.o;have cU:=rz.o;have AU:zaL q:=zlO gV.1 McN ai;have uF:zaL r:=zlO McN uE.2.1 (by have:=uE.2.2;simp only at this;omega);have eK:=zHi (fun W=>zkh q r W AU uF);have yt:0<=q+r/\q+r+sumQ (ps.drop (k+1))=sumQ ps:=⟨by grind,by grind⟩
   have HN:=zHi yt;obtain⟨t,ht⟩:=Qd (q+r)
   rw[<-ht]at eK HN;unfold zaD at eK;clear gV uE Nh AU uF yt cU ht;have f0:∀j,WZ.frozen? ⟨w.heap.size,j,none⟩=false:=frz z1;by_cases hbig:1000000000<(t.den:Int)
   ·go_wp2_with (first
     |(go_at_call 33;go_must(refine(zbY _ _ _ _).mono ?_);rintro e wq ⟨rfl,rfl⟩;first|rw[aM]|rw[mQ])
     |(go_at_call 34;go_must(refine(eK.o _).mono ?_);rintro e wq ⟨rfl,z,rfl⟩))
    go_ret
    exact Ret.of rfl (zaZ (zaN (zaN dH.o Mcv _) Mcv _) z)
   ·have aO:¬1000000000<(t.den:Int):=hbig;have JC:Hid ((t.den:Int)<=1000000000):=Mec
    go_wp2_with (first
     |(go_at_call 33;go_must(refine(zbY _ _ _ _).mono ?_);rintro e wq ⟨rfl,rfl⟩;first|rw[aM]|rw[mQ])
     |(go_at_call 34;go_must(refine(eK.o _).mono ?_);rintro e wq ⟨rfl,z,rfl⟩))
    go_round
    case rel=>exact⟨k+1,t,ak.o,by go_num,HN,JC,zaZ (zaN (zaN dH.o Mcv _) Mcv _) z,zby (zeO z1)⟩
    case measure=>have:=ak.o;simp only[intOf];omega
  ·have ar:¬(k:Int)<(ps.length:Int):=Mcq;have hq:=HQ.o.2;rw[List.drop_of_length_le Mcq,sumQ]at hq;rcases kj.o with hn|hn
   ·have hz:ps.length=0:=by rw[hn];rfl
    have ny:((ps.length:Int)==0)=true:=by simp[hz]
    obtain⟨p2,p3⟩:=zbj g1;have au:=zHi hB;clear hB hz hq;go_wp2_with fail
    go_ret
    exact Ret.of rfl au.o
   ·have cN:q=1:=McN;subst cN;have e1:(1:Rat).num=1:=rfl;have e2:(1:Rat).den=1:=rfl;obtain⟨p2,p3⟩:=zbj g1;rw[e1]at p2;rw[e2]at p3;have au:=zHi hB;have ny:((ps.length:Int)==0)=false:=by
     cases hc:((ps.length:Int)==0)with
     |false=>rfl
     |true=>
      have hz:ps.length=0:=Mdt;rw[List.eq_nil_of_length_eq_zero hz,sumQ]at hn;exact absurd hn Mcu
    clear hB hq hn g1;go_wp2_with fail
    go_ret
    exact Ret.of rfl au.o
