/- Walks of the reference's marry, child. -/
import Derived.Test.YtmfbdfejhdkiaaaGreatDoorXH
import Derived.Test.YtmfbdfejhdkiaaaGreatDoorFY
set_option linter.all false
set_option maxRecDepth 100000
set_option maxHeartbeats 4000000
namespace Go.Proofs.YtmfbdfejhdkiaaaGreatDoor
open Go.RowKit Go.Shelf
attribute [local go_sem] World.cell?_alloc_mark zae za4 zao za8 zav zaw zax zay zaz za0 za1
attribute [local go_sem] zap zac
theorem zpk(w:World)(g:Nat)(a b:Value):w.grownBy ((w.setCell ⟨g,0,none⟩ a).setCell ⟨g,1,none⟩ b) (some g):=zbo (za2 w g 0 a) (za2 _ g 1 b)
theorem zjb{α:Type}{W:World}{e t:TypeId}{f:α->List Value}{A:Option Addr}{xs:List α}{b:Nat}{cs:Array Value}{fr:Nat×Nat}{a0 a1 a2 a3 a4 a5 a6:Value}(h:Ro W e f A xs)(hb:W.heap[b]?=some (.cells cs t fr))(ag:t≠e):
 Ro (((((((W.setCell ⟨b,0,none⟩ a0).setCell ⟨b,1,none⟩ a1).setCell ⟨b,2,none⟩ a2).setCell ⟨b,3,none⟩ a3).setCell ⟨b,4,none⟩ a4).setCell ⟨b,5,none⟩ a5).setCell ⟨b,6,none⟩ a6) e f A xs:=
 h.same fun k cur fr' hk _=>by
  have qj:k≠b:=fun he=>by
   rw[he,hb]at hk;simp only[Option.some.injEq,Obj.cells.injEq]at hk;exact ag hk.2.1
  rw[hk];exact J_ne qj (J_ne qj (J_ne qj (J_ne qj (J_ne qj (J_ne qj (J_ne qj hk))))))
def surM(l:Parts)(frm:ByteArray)(q:Rat):Parts:=(zar l frm).map fun p=>(p.1,p.2/q)
theorem surM_snoc{l:Parts}{n:ByteArray}{q:Rat}{k:Nat}(h:k<l.length):surM (l.take (k+1)) n q=surM (l.take k) n q++(if zaf l[k].1 n then[]else[(l[k].1,l[k].2/q)]):=by
 unfold surM;rw[zh3 h,List.map_append];cases zaf l[k].1 n<;>rfl
theorem zof(l:Parts)(n:ByteArray)(q:Rat):(surM l n q).length<=l.length:=by
 unfold surM;exact MbC
theorem zju(laws:List Law)(s:St)(wd rd:List Deed)(LA CA MA DA WA RA GA:Option Addr)(c0 c1 c2 c3 c4 c5 c6:Nat)(d:Deed)(B:Option Addr)(c:Nat)(w:World)(h:StIn w laws s wd rd LA CA MA DA WA RA GA c0 c1 c2 c3 c4 c5 c6)(hk:StLink s wd rd)(hf:StFew s wd rd)(hd:OkD d)(hS:Sl w 3 RPart.cells B d.to)(bl:∀g∈s.graves,GoodG g/\g.holders.length<=50000):Calls Tryz.prog 75 #[.agg #[.slice LA laws.length c0,.slice CA s.children.length c1,.slice MA s.marriages.length c2,.slice DA s.dead.length c3,.slice WA wd.length c4,.slice RA rd.length c5,.slice GA s.graves.length c6],d.v B c] w (zfR w laws (zba s d)):=by
 obtain⟨R,hR⟩:=Qd (zba s d)
 rw[<-hR];obtain⟨gxs,hm,bs,bv⟩:=zpf h.graves;obtain⟨HM,cY,cd,ej⟩:=yH4 hm bs bv bl;clear hm bs bv bl;obtain⟨H,HK,HF,HD,HS,HR⟩:=yH6 (fun W (hB:Qa w W)=>h.keep hB) hk hf hd (fun W (hB:Qa w W)=>hS.keep hB) hR;unfold Deed.v;clear h hk hf hd hS hR;go_enter Tryz.func75,Tryz.ntmps75
 go_upto_region 1 with fail
 generalize am:World.alloc (World.alloc (World.alloc w _) _) _=W0;obtain⟨aj,au⟩:=zeL am;clear am;have aw:=aj.o.size;obtain⟨⟨xs0,xd0,xr0⟩,⟨s0,s1,s2,s3,s4,s5,s6⟩,⟨d0,d1,d2,d3,d4,d5,d6⟩,⟨r0,r1,r2,r3,r4,r5,r6⟩,rf,ls,ld,lr⟩:=ddF (au.o W0 Qb);have eC:=zHi (fun W (hB:Qa W0 W)=>zlZ d.place d.day W (H.o W (aj.o.trans (hB.mono aw))) HF.o);have hr:=HR.o;unfold zba at hr;cases aK:zaS s d.place d.day with
 |none=>
  exact Mco
 |some i=>
  rw[aK]at hr;rw[zez aK]at eC;obtain⟨g,cK,cz,AB⟩:=ziK aK;simp only[cz]at hr;obtain⟨hi,ns⟩:=gx_at HM.o cK;have fg:i<s.graves.length:=MdU;have nw:=cY.o _ (List.getElem_mem hi);have rL:=zHi (fun(y:GX) W (hB:Qa W0 W)=>ziY laws s wd rd LA CA MA DA WA RA GA c0 c1 c2 c3 c4 c5 c6 gxs i y W HM.o (cd.o.keep (aj.o.trans (hB.mono aw))) HF.o fg);obtain⟨km,aA⟩:=yH2 (znn laws s wd rd LA CA MA DA WA RA GA c0 c1 c2 c3 c4 c5 c6 gxs i HM.o cY.o) (fun W (hB:Qa W0 W)=>H.o W (aj.o.trans (hB.mono aw)));go_upto_region 2 with(go_at_call 116;go_must(refine(eC.o _ Qb).mono ?_);rintro e wq ⟨rfl,z1,rfl⟩)
  obtain⟨W1,aP⟩:=Qd (W0.ext z1)
  have aO:Qa W0 W1:=Mdk;rw[<-aP];clear aP;clear xs0 xd0 xr0 s0 s1 s2 s3 s4 s5 s6 d0 d1 d2 d3 d4 d5 d6 r0 r1 r2 r3 r4 r5 r6 rf ls ld lr;obtain⟨⟨xs0,xd0,xr0⟩,⟨s0,s1,s2,s3,s4,s5,s6⟩,⟨d0,d1,d2,d3,d4,d5,d6⟩,⟨r0,r1,r2,r3,r4,r5,r6⟩,rf,ls,ld,lr⟩:=ddF (au.o W1 (aO));have xa:=aO.size;have eX:=aj.o.trans (aO.mono aw);obtain⟨gb,gof,mg,cL,ah⟩:=(cd.o.keep eX).at hi;generalize gxs[i]=x at*;subst ns;subst mg;have i0:=ah 0 _ rfl;have i1:=ah 1 _ rfl;have i2:=ah 2 _ rfl;have i3:=ah 3 _ rfl;have i4:=ah 4 _ rfl;simp only[Nat.add_zero]at i0;have xE:(i:Int)<(s.graves.length:Int):=Mcq;have eG:(0:Int)<=(i:Int):=Mcq;have aM:¬(i:Int)<0:=Mcq;clear ah;go_upto_region 5 with fail
  obtain⟨W2,cF⟩:=Qd (W1.alloc (.cells #[.string x.g.place,.int .i64 x.g.cls,.int .i64 x.g.fin,.slice x.H x.g.holders.length x.hc,.slice x.D x.g.died.length x.dc] 161))
  have gG:W2.heap[W1.heap.size]?=some (.cells #[.string x.g.place,.int .i64 x.g.cls,.int .i64 x.g.fin,.slice x.H x.g.holders.length x.hc,.slice x.D x.g.died.length x.dc] 161):=Mes;have aC:Hid (Qa W0 W2):=MdC;have l8:W1.heap.size<W2.heap.size:=zab gG;have uS:=zHi eX;obtain⟨GB,jl⟩:=Qd W1.heap.size
  rw[<-cF,<-jl];rw[<-jl]at gG l8;have iY:W0.heap.size<=GB:=Mcq;clear cF jl aO eX i0 i1 i2 i3 i4;clear xs0 xd0 xr0 s0 s1 s2 s3 s4 s5 s6 d0 d1 d2 d3 d4 d5 d6 r0 r1 r2 r3 r4 r5 r6 rf ls ld lr;obtain⟨dq,cg⟩:=ej.o x.g AB;have pG:=nw.keep (aj.o.trans (aC.o.mono aw));have nH:=zHi (fun W (hB:Qa W2 W)=>zfm x.g.holders d.frm x.H x.hc W Mcq (pG.1.keep hB));have cU:=fun h=>zlu (frm:=d.frm) dq h
  change R=(if(zag x.g.holders d.frm==0)=true then(s,19)else if zaG (surM x.g.holders d.frm (1-zag x.g.holders d.frm))=true then(s,8)else(s.withGrave i {x.g with holders:=surM x.g.holders d.frm (1-zag x.g.holders d.frm)},0))at hr;generalize zag x.g.holders d.frm=sh at*;unfold zaD at nH;obtain⟨g0,g1,g2,g3,g4⟩:=zeg gG;have ss:=aC.o.size;have GG:=zHi gG;obtain⟨⟨xs0,xd0,xr0⟩,⟨s0,s1,s2,s3,s4,s5,s6⟩,⟨d0,d1,d2,d3,d4,d5,d6⟩,⟨r0,r1,r2,r3,r4,r5,r6⟩,rf,ls,ld,lr⟩:=ddF (au.o W2 (aC.o));go_upto_region 6 with(go_at_call 120;go_must(refine(nH.o _ Qb).mono ?_);rintro e wq ⟨rfl,z2,rfl⟩)
  obtain⟨SB,mi⟩:=Qd (W2.heap.size+z2.os.size)
  obtain⟨W3,bo⟩:=Qd ((W2.ext z2).alloc (.cells #[.int .i64 (sh).num,.int .i64 (sh).den] 57))
  have gS:W3.heap[SB]?=some (.cells #[.int .i64 (sh).num,.int .i64 (sh).den] 57):=by rw[bo];exact zat _ _ _ (by rw[mi];simp[zae])
  have av:Qa W2 W3:=by rw[bo];exact zad (zaq W2 z2) _
  rw[<-bo,<-mi];clear bo mi g0 g1 g2 g3 g4 gG;clear xs0 xd0 xr0 s0 s1 s2 s3 s4 s5 s6 d0 d1 d2 d3 d4 d5 d6 r0 r1 r2 r3 r4 r5 r6 rf ls ld lr;have jn:=av.size;obtain⟨aJ,G3,GS⟩:=yH3 (aC.o.trans (av.mono ss)) ((av.block GB l8).trans GG.o) gS;obtain⟨q0,q1⟩:=zbj gS;have sb:=zab gS;obtain⟨⟨xs0,xd0,xr0⟩,⟨s0,s1,s2,s3,s4,s5,s6⟩,⟨d0,d1,d2,d3,d4,d5,d6⟩,⟨r0,r1,r2,r3,r4,r5,r6⟩,rf,ls,ld,lr⟩:=ddF (au.o W3 (aJ.o));by_cases hz:sh=0
  ·have nA:(sh.num==0)=true:=by rw[hz];rfl
   have HE:Hid (R=(s,19)):=by show _=_;rw[hr,if_pos Mdz]
   clear hr;go_upto_region 7 with fail
   have aZ:=aJ.o;exact Mf
  ·have nA:(sh.num==0)=false:=by
    exact Mbd
   rw[if_neg Mdz]at hr;obtain⟨m1,m2,m3,m4⟩:=cU hz;obtain⟨eM,pP,Fz⟩:=yH3 (fun W=>zhG 1 sh W ⟨by decide,by decide⟩ m1) m4 m2;unfold zaD at eM;rw[show(1:Rat).num=1 from rfl,show((1:Rat).den:Int)=1 from rfl]at eM;clear hz m1 m2 m3 m4 cU;go_upto_region 9 with fail
   refine zdK 3 _ _ (.cells #[.int .i64 0,.int .i64 0] 57) (.cells #[.int .i64 (1-sh).num,.int .i64 (1-sh).den] 57) Mcs Mcs rfl rfl ?hrun ?_
   case hrun=>intro a W;kernel_rfl
   simp only[List.take_succ_cons,List.take_zero];repeat(refine zeM (fun K hK=>?_);simp only[grow];go_simp;first|(refine hK _ ?_;clear hK K)|(apply Exists.intro;refine⟨fun _=>?_,hK _ ?_⟩;((first|(go_at_call 72;exact quietg (zhS _))|(go_at_call 123;exact quietg (eM.o _))));clear hK K))
   refine zfH ⟨?hstore,?hlast⟩
   case hstore=>
    exact MF
   case hlast=>
    rintro LB W4 ⟨z4,fu⟩ uh gL;obtain⟨lf,ll⟩:=Qd (1-sh)
    rw[<-ll]at hr pP Fz gL;have ay:Qa W3 W4:=by rw[fu];exact zaq _ _
    have FO:=ay.size;obtain⟨eB,G4,GL⟩:=yH3 (aJ.o.trans (ay.mono Mcq)) ((ay.block GB Mcq).trans G3.o) gL;have fM:=zab gL;have E9:GB<W4.heap.size:=Mcq;have JM:=zHi ((nw.keep (aj.o.trans (eB.o.mono aw))));clear fu ll gL ay gS q0 q1 sb eM nA;clear xs0 xd0 xr0 s0 s1 s2 s3 s4 s5 s6 d0 d1 d2 d3 d4 d5 d6 r0 r1 r2 r3 r4 r5 r6 rf ls ld lr;go_upto_region 11 with fail
    go_loopw [9,11] (fun v i wr=>∃k:Nat,k<=x.g.holders.length/\i=.int .i64 k/\OwnS wr W4.heap.size 59 3 zaa v (surM (x.g.holders.take k) d.frm lf)/\Qa W4 wr) (fun _ i _=>x.g.holders.length-(intOf i).toNat)
    case atStart=>exact⟨0,Nat.zero_le _,rfl,OwnS.nil,Qb⟩
    case round=>
     obtain⟨k,hk,rfl,ac,hB⟩:=hrel;have aW:=hB.size;obtain⟨HO,HB⟩:=yH2 ac hB;have iw:=(hB.block GB E9).trans G4.o;have E3:=(hB.block LB fM).trans GL.o;obtain⟨g0,g1,g2,g3,g4⟩:=zeg iw;obtain⟨l0,l1⟩:=zbj E3;have Ea:=zab iw;have xQ:=zab E3;have cw:=eB.o.trans (hB.mono Mcq);obtain⟨⟨xs0,xd0,xr0⟩,⟨s0,s1,s2,s3,s4,s5,s6⟩,⟨d0,d1,d2,d3,d4,d5,d6⟩,⟨r0,r1,r2,r3,r4,r5,r6⟩,rf,ls,ld,lr⟩:=ddF (au.o wr (cw));have aU:=zHi cw;by_cases aa:k<x.g.holders.length
     ·obtain⟨b,off,hA,hb,ah⟩:=(JM.o.1.keep hB).at aa;have ai:=surM_snoc (n:=d.frm) (q:=lf) aa;have bX:=Nat.le_trans (zof (x.g.holders.take k) d.frm lf) (by rw[List.length_take];omega:(x.g.holders.take k).length<=k);have gU:=pP.o _ (List.getElem_mem aa);generalize surM (x.g.holders.take k) d.frm lf=xs at*;obtain⟨VA,vc,rfl,_,kf⟩:=ac.sl zai;have ak:=zHi aa;generalize x.g.holders[k]=p at*;obtain⟨nm,q⟩:=p;rw[hA]at g3;have i0:wr.cell? ⟨b,off+k*3,none⟩=some (.string nm):=ah 0 _ rfl;have i1:wr.cell? ⟨b,off+k*3+1,none⟩=some (.int .i64 q.num):=ah 1 _ rfl;have i2:wr.cell? ⟨b,off+k*3+2,none⟩=some (.int .i64 q.den):=ah 2 _ rfl;have ar:(k:Int)<(x.g.holders.length:Int):=Mcq;have aR:(0:Int)<=(k:Int):=Mcq;have iS:Hid (xs.length<=100000):=Mec;simp only at gU ai;have aB:=zHi (fun(W:World) (h:Qa wr W)=>(show W.cell? ⟨GB,3,none⟩=some (.slice (some ⟨b,off,none⟩) x.g.holders.length x.hc)/\W.cell? ⟨b,off+k*3,none⟩=some (.string nm)/\W.cell? ⟨b,off+k*3+1,none⟩=some (.int .i64 q.num)/\W.cell? ⟨b,off+k*3+2,none⟩=some (.int .i64 q.den)/\W.cell? ⟨LB,0,none⟩=some (.int .i64 lf.num)/\W.cell? ⟨LB,1,none⟩=some (.int .i64 lf.den) from⟨(zah h Ea).trans g3,(zah h hb).trans i0,(zah h hb).trans i1,(zah h hb).trans i2,(zah h xQ).trans l0,(zah h xQ).trans l1⟩));go_upto_region 13 with fail
      cases hs:zaf nm d.frm
      ·have bk:(nm.toList==d.frm.toList)=false:=hs;have aA:Hid (surM (x.g.holders.take (k+1)) d.frm lf=xs++[(nm,q/lf)]):=by show _=_;rw[ai,hs];rfl
       obtain⟨gT,pA⟩:=gU hs;have FA:=zHi (fun W=>rQuo_any q lf W pA Fz.o gT);unfold zaD at FA;clear ah aa ac ai hs gU gT pA
       (refine zam Mcs Mcs ?_
        repeat(first|go_big_quiet_skip|(go_big_quiet_want;go_big_quiet_op;first|go_big_quiet_on|(apply Exists.intro;refine⟨fun _=>?_,?_⟩;(fail);go_big_quiet_on)))
        refine wpQuiet_nil ?_
        rintro _ ⟨zq,rfl⟩)
       obtain⟨WQ,oM⟩:=Qd (wr.ext zq)
       have mx:Qa wr WQ:=Meu;rw[<-oM];clear oM g0 g1 g2 g3 g4 l0 l1 i0 i1 i2;clear xs0 xd0 xr0 s0 s1 s2 s3 s4 s5 s6 d0 d1 d2 d3 d4 d5 d6 r0 r1 r2 r3 r4 r5 r6 rf ls ld lr;have L0:=mx.size;go_upto_region 14 with fail
       refine zaJ 17 (fun bb w'=>bb=true\/(w'.cell? ⟨GB,3,none⟩=some (.slice (some ⟨b,off,none⟩) x.g.holders.length x.hc)/\w'.cell? ⟨b,off+k*3,none⟩=some (.string nm)/\w'.cell? ⟨b,off+k*3+1,none⟩=some (.int .i64 q.num)/\w'.cell? ⟨b,off+k*3+2,none⟩=some (.int .i64 q.den)/\w'.cell? ⟨LB,0,none⟩=some (.int .i64 lf.num)/\w'.cell? ⟨LB,1,none⟩=some (.int .i64 lf.den))) Mcs (.inr (aB.o _ (zaF mx))) ?hrest
       case hrest=>
        intro hHeld;refine TkM 0 ?_;refine TkM 1 ?_;refine TkM 2 ?_;refine TkM 3 ?_;refine TkM 4 ?_;refine TkM 5 ?_;refine TkM 6 ?_;refine TkM 7 ?_;refine TkM 8 ?_;refine TkM 9 ?_;refine TkM 10 ?_;refine TkM 11 ?_;refine TkM 12 ?_;refine TkM 13 ?_;refine OnM 14 false fun K hK=>?_
        go_simp
        refine(FA.o _).mono ?_;rintro e w5 ⟨rfl,z,rfl⟩;have aq:Qa wr (WQ.drew.ext z):=zaZ (zaF mx) z;refine NxM hK (fun hHeld=>?_) (.inr (aB.o _ aq));clear hK K;refine TkM 15 ?_;refine OnM 16 false fun K hK=>?_
        go_simp
        have aV:Qa wr ((WQ.drew.ext z).alloc (.cells #[.string nm,.int .i64 (q/lf).num,.int .i64 (q/lf).den] 59)):=zad aq _;refine NxM hK (fun hHeld=>?_) (.inr (aB.o _ aV));clear hK K;refine OnM 17 true fun K hK=>?_
        refine zak (v:=.slice VA xs.length vc) (n:=xs.length) (m:=1) rfl _ _ rfl zdW zai zcb rfl (xs:=xs) (ys:=[(nm,q/lf)]) (HO.o.keep (n:=wr.heap.size) aV) rfl rfl rfl (zde (zat _ _ _ MdF)) MdT Mc4 Md1 ?_;intro v7 w7 h1 h2 h3;obtain⟨A7,c7,kM,_,_⟩:=h1.sl zai;rw[List.length_append]at kM;subst kM;have bK:Qa W4 w7:=Below.grown (HB.o.trans (aV.mono aW)) h2 Md1 (fun j hj=>(HO.o.ge j hj).1);refine NxM hK fun hHeld=>?_
        clear hK K;refine OnM 18 true fun K hK=>?_
        go_simp
        refine NxM hK fun hHeld=>?_
        clear hK K;refine zaV Mcs ?_ _;clear hHeld;obtain⟨H7,cr⟩:=yH2 h1 bK;clear h1 h2 h3 bK;go_wp2_with fail
        go_round
        case rel=>exact⟨k+1,ak.o,by go_num,by rw[aA.o];exact H7.o,cr.o⟩
        case measure=>have:=ak.o;simp only[intOf];omega
      ·have bk:(nm.toList==d.frm.toList)=true:=hs;have aA:Hid (surM (x.g.holders.take (k+1)) d.frm lf=xs):=by show _=_;rw[ai,hs];simp
       clear ah aa ac ai hs gU
       (refine zam Mcs Mcs ?_
        repeat(first|go_big_quiet_skip|(go_big_quiet_want;go_big_quiet_op;first|go_big_quiet_on|(apply Exists.intro;refine⟨fun _=>?_,?_⟩;(fail);go_big_quiet_on)))
        refine wpQuiet_nil ?_
        rintro _ ⟨zq,rfl⟩)
       go_wp2_with fail
       go_round
       case rel=>exact⟨k+1,ak.o,by go_num,by rw[aA.o];exact HO.o.keep (n:=wr.heap.size) (zaq _ _),zaZ HB.o zq⟩
       case measure=>have:=ak.o;simp only[intOf];omega
     ·have ar:¬(k:Int)<(x.g.holders.length:Int):=Mcq;rw[List.take_of_length_le Mcq]at HO ac;have nV:=zof x.g.holders d.frm lf;generalize surM x.g.holders d.frm lf=out at*;obtain⟨VA,vc,rfl,gH,_⟩:=ac.sl zai;have ca:=zHi (fun W (h:Qa wr W)=>zdN out VA vc W Mcq (gH.keep h));have g3f:=frz iw;have lO:=zHi iw;clear ac gH aa hB E3;cases hlg:zaG out
      ·rw[hlg]at ca hr;have HE:Hid (R=(s.withGrave i {x.g with holders:=out},0)):=by show _=_;rw[hr];rfl
       clear hr hlg aK;go_upto_region 18 with(go_at_call 124;go_must(refine(ca.o _ Bw).mono ?_);rintro e wq ⟨rfl,rfl⟩)
       obtain⟨W6,eF⟩:=Qd (wr.setCell ⟨GB,3,none⟩ (.slice VA out.length vc))
       have gG6:W6.heap[GB]?=some (.cells #[.string x.g.place,.int .i64 x.g.cls,.int .i64 x.g.fin,.slice VA out.length vc,.slice x.D x.g.died.length x.dc] 161):=by
        rw[eF];have:=Joins.block_setCell (i:=3) lO.o (.slice VA out.length vc);simpa using this
       have me:Qa W0 W6:=by rw[eF];exact zaN aU.o iY _
       have qs:OwnS W6 W4.heap.size 59 3 zaa (.slice VA out.length vc) out:=by rw[eF];exact HO.o.kept (za2 _ _ _ _) lO.o Mcu
       rw[<-eF];clear eF g0 g1 g2 g3 g4 g3f l0 l1 iw;clear xs0 xd0 xr0 s0 s1 s2 s3 s4 s5 s6 d0 d1 d2 d3 d4 d5 d6 r0 r1 r2 r3 r4 r5 r6 rf ls ld lr;obtain⟨g0,g1,g2,g3,g4⟩:=zeg gG6;have bO:=zab gG6;have oE:=me.size;obtain⟨⟨xs0,xd0,xr0⟩,⟨s0,s1,s2,s3,s4,s5,s6⟩,⟨d0,d1,d2,d3,d4,d5,d6⟩,⟨r0,r1,r2,r3,r4,r5,r6⟩,rf,ls,ld,lr⟩:=ddF (au.o W6 (me));have lZ:=zHi (rL.o ({g:= {x.g with holders:=out},H:=VA,hc:=vc,D:=x.D,dc:=x.dc}:GX) W6 me);unfold GX.cells zgT at lZ;dsimp only at lZ;obtain⟨bR,fG⟩:=yH2 me qs;clear me qs gG6
       go_wp2_with (go_at_call 125
                    go_must(refine(lZ.o).mono ?_)
                    rintro e w5 ⟨ga,go,gc,rfl,aX,aq⟩;have bK:=bR.o.trans (aq.mono oE);obtain⟨_,_,xr5⟩:=au.o w5 bK;obtain⟨t0,t1,t2,t3,t4,t5,t6⟩:=zaK xr5;have tf:=frz xr5;obtain⟨bB,cr,lD⟩:=yH3 aX bK aq
                    clear aX aq bK)
       rw[HE.o];refine bodyPost_ret (zb8 rfl _ rfl rfl (zc9 xr5)) rfl ?_;have cy:=zcH (a0:=.slice LA laws.length c0) (a1:=.slice CA s.children.length c1) (a2:=.slice MA s.marriages.length c2) (a3:=.slice DA s.dead.length c3) (a4:=.slice WA wd.length c4) (a5:=.slice RA rd.length c5) (a6:=.slice (some ⟨ga,go,none⟩) s.graves.length gc) (aj.o.trans (cr.o.mono aw)) (show w.heap.size<=w.heap.size+2 by omega);obtain⟨A',c',oX,_,dZ⟩:=fG.o.ro;obtain⟨rfl,_,rfl⟩:VA=A'/\out.length=out.length/\vc=c':=by simpa using oX
       exact⟨_,_,_,_,_,_,_,rfl,rfl,cy,fun _=>km.o ({g:= {x.g with holders:=out},H:=VA,hc:=vc,D:=x.D,dc:=x.dc}:GX) _ ga go gc (H.o w Qb) HK.o cy (bB.o.ne7 (zmf bB.o xr5 Mcu)) ⟨(zjb (dZ.keep lD.o) xr5 Mcu).sl zai,(nw.keep cy).2⟩⟩
      ·rw[hlg]at ca hr;have HE:Hid (R=(s,8)):=by show _=_;rw[hr];rfl
       clear hr hlg aK;go_upto_region 16 with(go_at_call 124;go_must(refine(ca.o _ Bw).mono ?_);rintro e wq ⟨rfl,rfl⟩)
       have aZ:=aU.o;exact Mf
structure GainSt (own:Rat) (out l:Parts):Prop where
 good:GoodParts out
 small:zaG out=false
 le:sumQ out+own*sumQ l<=1
 pos:∀p∈l,0<=p.2
theorem GainSt.parts{own:Rat}{out l:Parts}(h:GainSt own out l)(ho:0<=own):∀p∈out,zaL p.2:=by
 have h1:=Rat.mul_nonneg ho (zbu h.pos);exact fun p hp=>(zdO (hs:=out) ⟨h.good,h.small,by have:=h.le;grind⟩ hp).2.2
theorem GainSt.next{own:Rat}{out l:Parts}{n:ByteArray}{q:Rat}(ho:0<=own)(h:GainSt own out ((n,q)::l))(hl:zaG (za5 out n (own*q))=false):GainSt own (za5 out n (own*q)) l:=by
 have hq:=h.pos (n,q) Mcv;have bu:=h.le;rw[sumQ]at bu;exact⟨zbz (Rat.mul_nonneg ho hq) h.good,hl,by rw[zbU];grind,fun p hp=>h.pos p Mds⟩
theorem GainSt.more{own:Rat}{out l:Parts}{n:ByteArray}{q:Rat}(ho:0<=own)(h:GainSt own out ((n,q)::l)):0<=own*q/\own*q<=1:=by
 have hq:=h.pos (n,q) Mcv;have bu:=h.le;rw[sumQ]at bu;have h1:=Rat.mul_nonneg ho hq;have h2:=Rat.mul_nonneg ho (zbu (l:=l) fun p hp=>h.pos p Mds);have h3:0<=sumQ out:=zbu fun p hp=>by have:=h.good.pos p hp;grind
 simp only at hq bu;exact⟨h1,by grind⟩
def tpRes(s:St)(i:Nat)(g:Grave):Option Parts->St×Int
 |none=>(s,8)
 |some o=>(s.withGrave i {g with holders:=o},0)
theorem zmh(own:Rat)(n:ByteArray)(q:Rat)(l out:Parts):zb5 own ((n,q)::l) out=if bigQ (own*q)then none else if zaG (za5 out n (own*q))then none else zb5 own l (za5 out n (own*q)):=by rw[zb5]
theorem sum_isN{n:Nat}:∀ {l:Parts},(∀p∈l,IsN n p.2)->IsN n (sumQ l)
 | [],_=>zke n
 |x::r,h=>zkc (h x Mcv) (sum_isN fun p hp=>h p Mds)
theorem zkN(laws:List Law)(s:St)(wd rd:List Deed)(LA CA MA DA WA RA GA:Option Addr)(c0 c1 c2 c3 c4 c5 c6:Nat)(d:Deed)(B:Option Addr)(c:Nat)(w:World)(h:StIn w laws s wd rd LA CA MA DA WA RA GA c0 c1 c2 c3 c4 c5 c6)(hk:StLink s wd rd)(hf:StFew s wd rd)(hd:OkD d)(hS:Sl w 3 RPart.cells B d.to)(cC:d.kind=1)(bl:∀g∈s.graves,GoodG g/\g.holders.length<=50000):Calls Tryz.prog 74 #[.agg #[.slice LA laws.length c0,.slice CA s.children.length c1,.slice MA s.marriages.length c2,.slice DA s.dead.length c3,.slice WA wd.length c4,.slice RA rd.length c5,.slice GA s.graves.length c6],d.v B c] w (zfR w laws (zbs s d)):=by
 obtain⟨R,hR⟩:=Qd (zbs s d)
 rw[<-hR];obtain⟨gxs,hm,bs,bv⟩:=zpf h.graves;obtain⟨HM,cY,cd,ej⟩:=yH4 hm bs bv bl;have gZ:=zHi (zee (hd.parts (.inr (.inl cC))).2);have br:=hd.len;clear hm bs bv bl cC;obtain⟨H,HK,HF,HD,HS,HR⟩:=yH6 (fun W (hB:Qa w W)=>h.keep hB) hk hf hd (fun W (hB:Qa w W)=>hS.keep hB) hR;unfold Deed.v;clear h hk hf hd hS hR;go_enter Tryz.func74,Tryz.ntmps74
 go_upto_region 1 with fail
 generalize am:World.alloc (World.alloc (World.alloc w _) _) _=W0;obtain⟨aj,au⟩:=zeL am;clear am;have aw:=aj.o.size;obtain⟨⟨xs0,xd0,xr0⟩,⟨s0,s1,s2,s3,s4,s5,s6⟩,⟨d0,d1,d2,d3,d4,d5,d6⟩,⟨r0,r1,r2,r3,r4,r5,r6⟩,rf,ls,ld,lr⟩:=ddF (au.o W0 Qb);have eC:=zHi (fun W (hB:Qa W0 W)=>zlZ d.place d.day W (H.o W (aj.o.trans (hB.mono aw))) HF.o);have ki:=zHi (fun W (hB:Qa W0 W)=>zma d.to B c W (H.o W (aj.o.trans (hB.mono aw))) HF.o Mcq (HS.o W (aj.o.trans (hB.mono aw))));have ji:=zHi (fun W (hB:Qa W0 W)=>zoc d.to B c W Mcq (HS.o W (aj.o.trans (hB.mono aw))));have hr:=HR.o;unfold zbs at hr;cases aK:zaS s d.place d.day with
 |none=>
  exact Mco
 |some i=>
  rw[aK]at hr;rw[zez aK]at eC;obtain⟨g,cK,cz,AB⟩:=ziK aK;simp only[cz]at hr;obtain⟨hi,ns⟩:=gx_at HM.o cK;have fg:i<s.graves.length:=MdU;have nw:=cY.o _ (List.getElem_mem hi);have rL:=zHi (fun(y:GX) W (hB:Qa W0 W)=>ziY laws s wd rd LA CA MA DA WA RA GA c0 c1 c2 c3 c4 c5 c6 gxs i y W HM.o (cd.o.keep (aj.o.trans (hB.mono aw))) HF.o fg);obtain⟨km,aA⟩:=yH2 (znn laws s wd rd LA CA MA DA WA RA GA c0 c1 c2 c3 c4 c5 c6 gxs i HM.o cY.o) (fun W (hB:Qa W0 W)=>H.o W (aj.o.trans (hB.mono aw)));go_upto_region 2 with(go_at_call 116;go_must(refine(eC.o _ Qb).mono ?_);rintro e wq ⟨rfl,z1,rfl⟩)
  obtain⟨W1,aP⟩:=Qd (W0.ext z1)
  have aO:Qa W0 W1:=Mdk;rw[<-aP];clear aP;clear xs0 xd0 xr0 s0 s1 s2 s3 s4 s5 s6 d0 d1 d2 d3 d4 d5 d6 r0 r1 r2 r3 r4 r5 r6 rf ls ld lr;obtain⟨⟨xs0,xd0,xr0⟩,⟨s0,s1,s2,s3,s4,s5,s6⟩,⟨d0,d1,d2,d3,d4,d5,d6⟩,⟨r0,r1,r2,r3,r4,r5,r6⟩,rf,ls,ld,lr⟩:=ddF (au.o W1 (aO));have xa:=aO.size;have eX:=aj.o.trans (aO.mono aw);obtain⟨gb,gof,mg,cL,ah⟩:=(cd.o.keep eX).at hi;generalize gxs[i]=x at*;subst ns;subst mg;have i0:=ah 0 _ rfl;have i1:=ah 1 _ rfl;have i2:=ah 2 _ rfl;have i3:=ah 3 _ rfl;have i4:=ah 4 _ rfl;simp only[Nat.add_zero]at i0;have xE:(i:Int)<(s.graves.length:Int):=Mcq;have eG:(0:Int)<=(i:Int):=Mcq;have aM:¬(i:Int)<0:=Mcq;clear ah;go_upto_region 5 with fail
  obtain⟨W2,cF⟩:=Qd (W1.alloc (.cells #[.string x.g.place,.int .i64 x.g.cls,.int .i64 x.g.fin,.slice x.H x.g.holders.length x.hc,.slice x.D x.g.died.length x.dc] 161))
  have gG:W2.heap[W1.heap.size]?=some (.cells #[.string x.g.place,.int .i64 x.g.cls,.int .i64 x.g.fin,.slice x.H x.g.holders.length x.hc,.slice x.D x.g.died.length x.dc] 161):=Mes;have aC:Hid (Qa W0 W2):=MdC;have l8:W1.heap.size<W2.heap.size:=zab gG;have uS:=zHi eX;obtain⟨GB,jl⟩:=Qd W1.heap.size
  rw[<-cF,<-jl];rw[<-jl]at gG l8;have iY:W0.heap.size<=GB:=Mcq;clear cF jl aO eX i0 i1 i2 i3 i4;clear xs0 xd0 xr0 s0 s1 s2 s3 s4 s5 s6 d0 d1 d2 d3 d4 d5 d6 r0 r1 r2 r3 r4 r5 r6 rf ls ld lr;obtain⟨dq,cg⟩:=ej.o x.g AB;have pG:=nw.keep (aj.o.trans (aC.o.mono aw));obtain⟨t1,t2,t3⟩:=zi5 (frm:=d.frm) dq (fun p hp=>gZ.o.1 p hp) gZ.o.2.1;have uL:=zcj (n:=d.frm) dq.good;have tI:=zbE (n:=d.frm) dq.good;have jJ:=zdG d.frm dq.small;have kN:∀p∈zar x.g.holders d.frm,p.1≠d.frm:=zj4;have bY:=zdY x.g.holders d.frm;have aL:sumQ x.g.holders<=1:=by
   rcases dq.one with e|e
   ·rw[e];decide
   ·rw[e];exact Rat.le_refl
  obtain⟨nH,iP⟩:=yH2 (fun W (hB:Qa W2 W)=>zfm x.g.holders d.frm x.H x.hc W Mcq (pG.1.keep hB)) (fun W (hB:Qa W2 W)=>zh4 x.g.holders d.frm x.H x.hc W Mcq (pG.1.keep hB));generalize zag x.g.holders d.frm=sh at*;generalize zar x.g.holders d.frm=wo at*;unfold zaD at nH ji;obtain⟨g0,g1,g2,g3,g4⟩:=zeg gG;have ss:=aC.o.size;have GG:=zHi gG;obtain⟨⟨xs0,xd0,xr0⟩,⟨s0,s1,s2,s3,s4,s5,s6⟩,⟨d0,d1,d2,d3,d4,d5,d6⟩,⟨r0,r1,r2,r3,r4,r5,r6⟩,rf,ls,ld,lr⟩:=ddF (au.o W2 (aC.o));by_cases iV:x.g.cls=4
  ·have un:(x.g.cls==4)=true:=by rw[iV];rfl
   have HE:Hid (R=(s,15)):=by show _=_;rw[hr,if_pos un]
   clear hr iV;go_upto_region 6 with fail
   have aZ:=aC.o;exact Mf
  have un:(x.g.cls==4)=false:=by simpa using iV
  rw[if_neg (by rw[un];simp)]at hr;go_upto_region 8 with(go_at_call 120;go_must(refine(nH.o _ Qb).mono ?_);rintro e wq ⟨rfl,z2,rfl⟩)
  obtain⟨SB,mi⟩:=Qd (W2.heap.size+z2.os.size)
  obtain⟨W3,bo⟩:=Qd ((W2.ext z2).alloc (.cells #[.int .i64 (sh).num,.int .i64 (sh).den] 57))
  have gS:W3.heap[SB]?=some (.cells #[.int .i64 (sh).num,.int .i64 (sh).den] 57):=by rw[bo];exact zat _ _ _ (by rw[mi];simp[zae])
  have av:Qa W2 W3:=by rw[bo];exact zad (zaq W2 z2) _
  rw[<-bo,<-mi];clear bo mi g0 g1 g2 g3 g4 gG iV un;clear xs0 xd0 xr0 s0 s1 s2 s3 s4 s5 s6 d0 d1 d2 d3 d4 d5 d6 r0 r1 r2 r3 r4 r5 r6 rf ls ld lr;have jn:=av.size;obtain⟨aJ,Bm,G3,GS⟩:=yH4 (aC.o.trans (av.mono ss)) av ((av.block GB l8).trans GG.o) gS;obtain⟨q0,q1⟩:=zbj gS;have sb:=zab gS;obtain⟨⟨xs0,xd0,xr0⟩,⟨s0,s1,s2,s3,s4,s5,s6⟩,⟨d0,d1,d2,d3,d4,d5,d6⟩,⟨r0,r1,r2,r3,r4,r5,r6⟩,rf,ls,ld,lr⟩:=ddF (au.o W3 (aJ.o));by_cases hz:sh=0
  ·have nA:(sh.num==0)=true:=by rw[hz];rfl
   have HE:Hid (R=(s,19)):=by show _=_;rw[hr,if_pos Mdz]
   clear hr;go_upto_region 9 with fail
   have aZ:=aJ.o;exact Mf
  have nA:(sh.num==0)=false:=by
   exact Mbd
  rw[if_neg Mdz]at hr;cases fX:ze1 s d.to;rotate_left 1
  ·have HE:Hid (R=(s,28)):=by show _=_;rw[hr,fX];rfl
   rw[fX]at ki;clear hr hz aK;go_upto_region 11 with(go_at_call 117;go_must(refine(ki.o _ (by have:=aJ.o;exact Bw)).mono ?_);rintro e wq ⟨rfl,z3,rfl⟩)
   have aZ:=zaZ aJ.o z3;exact MbS
  rw[fX,if_neg Mcv]at hr;rw[fX]at ki;have lv:=zmY d.to 0;have aH:d.to.all zdZ=true:=by
   rw[List.all_eq_true];intro p hp;have h1:=gZ.o.1 p hp;have h2:=zbl h1.2.2;unfold zdZ;rw[h1.2.2,Bool.true_and];have:p.num≠0:=fun e=>by
    have h3:=h1.1;have h4:=(zkz.1 h3)
    unfold RPart.rat at h4;rw[h2.1,e]at h4;exact absurd h4 Mcu
   simpa using this
  rw[aH]at lv;have dR:=lv.2 rfl;rw[Rat.zero_add]at dR;have uw:∀p∈zan d.to,0<p.2:=fun p hp=>by
   obtain⟨q,hq,rfl⟩:=List.mem_map.1 hp;exact(gZ.o.1 q hq).1
  have li:IsN 720720 (sumQ (zan d.to)):=sum_isN (fun p hp=>by
   obtain⟨q,hq,rfl⟩:=List.mem_map.1 hp
   exact(gZ.o.1 q hq).2.1)
  have ur:0<=sumQ (zan d.to):=zbu fun p hp=>by have:=uw p hp;grind
  have mK:=gZ.o.2.1;have aD:=zc8 Mcu Mcu li ur mK;have nU:=zc8 Mcu Mcu (zhd (zhe _) li) (show 0<=1-sumQ (zan d.to) by grind) (show 1-sumQ (zan d.to)<=1 by grind);rw[lv.1,dR]at ji;have qx:∀p∈zan d.to,0<=p.2:=fun p hp=>by have:=uw p hp;grind
  have pg:(zan d.to).length=d.to.length:=List.length_map _;have gI:∀k (hk:k<d.to.length),(zan d.to).drop k=(d.to[k].name,d.to[k].rat)::(zan d.to).drop (k+1):=fun k hk=>by
   rw[List.drop_eq_getElem_cons Mcq];congr 1
   exact List.getElem_map _
  have Cj:=zHi (fun p hp=>(gZ.o.1 p hp).2.2);generalize zan d.to=l0 at*;have t8:0<=sh*(1-sumQ l0):=Rat.mul_nonneg t1 McN;have xJ:sh*(1-sumQ l0)<=1:=by
   have:=Rat.mul_le_mul_of_nonneg_left (show 1-sumQ l0<=1 by grind) t1;grind
  have gz:=zHi (fun(hb:bigQ (sh*(1-sumQ l0))=false)=>(show zaL (sh*(1-sumQ l0))/\GainSt sh (za5 wo d.frm (sh*(1-sumQ l0))) l0 from
   ⟨zbZ t8 xJ hb,⟨zbz t8 tI,zfY hb kN jJ,by rw[zbU];grind,qx⟩⟩))
  have vW:=zHi (show∀p∈wo,zaL p.2 from fun p hp=>(zdO (hs:=wo) ⟨tI,jJ,by have:=uL;grind⟩ hp).2.2);obtain⟨q,hq⟩:=Qd (sumQ l0)
  rw[<-hq]at hr ji aD nU gz;obtain⟨eM,je⟩:=yH2 (fun W=>zhG 1 q W ⟨by decide,by decide⟩ aD) (fun W=>zgB sh (1-q) W t2 nU);unfold zaD at eM je;rw[show(1:Rat).num=1 from rfl,show((1:Rat).den:Int)=1 from rfl]at eM;obtain⟨kq,Hq⟩:=Qd (sh*(1-q))
  rw[<-Hq]at hr gz je;obtain⟨jg,lT,IP,ot⟩:=yH4 t1 t2 gI pg;have zf:wo.length<=50000:=Mcq;have bA:=zHi hr;clear hr gI pg qx t8 xJ aH lv dR uw li ur mK aD nU t1 t2 t3 uL tI jJ kN bY aL hq Hq hz aK dq
  go_upto_region 13 with(first
   |(go_at_call 117;go_must(refine(ki.o _ (by have:=aJ.o;exact Bw)).mono ?_);rintro e wq ⟨rfl,z3,rfl⟩)
   |(go_at_call 71;go_must(refine(ji.o _ (by have:=aJ.o;exact Bw)).mono ?_);rintro e wq ⟨rfl,z5,rfl⟩))
  obtain⟨QB,s9⟩:=Qd (W3.heap.size+z3.os.size+z5.os.size)
  obtain⟨W4,fu⟩:=Qd (((W3.ext z3).ext z5).alloc (.cells #[.int .i64 (q).num,.int .i64 (q).den] 57))
  have gQ:W4.heap[QB]?=some (.cells #[.int .i64 (q).num,.int .i64 (q).den] 57):=by rw[fu];exact zat _ _ _ (by rw[s9];simp[zae])
  have ay:Qa W3 W4:=by rw[fu];exact zad (zaZ (zaq W3 z3) z5) _
  rw[<-fu,<-s9];have FO:=ay.size;have su:=aJ.o.trans (ay.mono (by have:=aJ.o.size;omega));obtain⟨G4,S4,Q4,rM⟩:=yH4 ((ay.block GB Mcq).trans G3.o) ((ay.block SB sb).trans GS.o) gQ (iP.o W4 (Bm.o.trans (ay.mono jn)));have sd:SB<W4.heap.size:=Mcq;have CT:GB<W4.heap.size:=Mcq;have Df:=zab gQ;have eB:=zHi su;have JY:=su.size;clear fu s9 gQ gS q0 q1 ay su sb av;clear xs0 xd0 xr0 s0 s1 s2 s3 s4 s5 s6 d0 d1 d2 d3 d4 d5 d6 r0 r1 r2 r3 r4 r5 r6 rf ls ld lr;obtain⟨g0,g1,g2,g3,g4⟩:=zeg G4.o;obtain⟨⟨xs0,xd0,xr0⟩,⟨s0,s1,s2,s3,s4,s5,s6⟩,⟨d0,d1,d2,d3,d4,d5,d6⟩,⟨r0,r1,r2,r3,r4,r5,r6⟩,rf,ls,ld,lr⟩:=ddF (au.o W4 (eB.o));go_upto_region 14 with(go_at_call 121;go_must(refine(rM.o).mono ?_);rintro e w5 ⟨v5,rfl,o5,b5⟩)
  obtain⟨VA,vc,rfl,gH,_⟩:=o5.sl zai;have l7:=zHi gH;have CF:=b5.size;obtain⟨bn,G5,S5,Q5⟩:=yH4 (eB.o.trans (b5.mono JY)) ((b5.block GB CT).trans G4.o) ((b5.block SB sd).trans S4.o) ((b5.block QB Df).trans Q4.o);clear g0 g1 g2 g3 g4 o5 b5 gH;clear xs0 xd0 xr0 s0 s1 s2 s3 s4 s5 s6 d0 d1 d2 d3 d4 d5 d6 r0 r1 r2 r3 r4 r5 r6 rf ls ld lr;obtain⟨q0,q1⟩:=zbj Q5.o;obtain⟨e0,e1⟩:=zbj S5.o;have wQ:=zab S5.o;have Dg:=zab Q5.o;have ww:=zab G5.o;refine zdK 5 _ _ (.cells #[.int .i64 0,.int .i64 0] 57) (.cells #[.int .i64 (kq).num,.int .i64 (kq).den] 57) Mcs Mcs rfl rfl ?hrun ?_
  case hrun=>intro a W;kernel_rfl
  simp only[List.take_succ_cons,List.take_zero];repeat(refine zeM (fun K hK=>?_);simp only[grow];go_simp;first|(refine hK _ ?_;clear hK K)|(apply Exists.intro;refine⟨fun _=>?_,hK _ ?_⟩;((first|(go_at_call 72;exact quietg (zhS _))|(go_at_call 123;exact quietg (eM.o _))|(go_at_call 122;exact quietg (je.o _))));clear hK K))
  refine zfH ⟨?hstore,?hlast⟩
  case hstore=>
   exact MF
  case hlast=>
   rintro LB W6 ⟨z6,eF⟩ uh gL;have aV:Qa w5 W6:=by rw[eF];exact zaq _ _
   have oE:=aV.size;obtain⟨bR,G6,S6,vV⟩:=yH4 (bn.o.trans (aV.mono Mcq)) ((aV.block GB ww).trans G5.o) ((aV.block SB wQ).trans S5.o) (l7.o.keep aV);have CU:=zab G6.o;have Dk:=zab S6.o;have Km:=zab gL;obtain⟨l0',l1'⟩:=zbj gL;clear eF aV q0 q1 e0 e1 wQ Dg ww;obtain⟨⟨xs0,xd0,xr0⟩,⟨s0,s1,s2,s3,s4,s5,s6⟩,⟨d0,d1,d2,d3,d4,d5,d6⟩,⟨r0,r1,r2,r3,r4,r5,r6⟩,rf,ls,ld,lr⟩:=ddF (au.o W6 (bR.o));by_cases hs:1000000000<(kq.den:Int)
   ·have HE:Hid (R=(s,8)):=by show _=_;rw[bA.o,if_pos (by simp[bigQ,hs])]
    go_upto_region 16 with fail
    have aZ:=bR.o;exact Mf
   have aZ:bigQ kq=false:=by simpa[bigQ]using hs
   obtain⟨k5,ai⟩:=gz.o aZ;have hr:=bA.o;rw[aZ,if_neg Mcv]at hr;change R=tpRes s i x.g (zb5 sh l0 (za5 wo d.frm kq))at hr;have eD:=zHi (zcW wo d.frm kq VA vc W6 Mcq vW.o k5 vV.o);unfold zaD at eD;have nV:=zc0 d.frm kq wo;obtain⟨lW,aA⟩:=yH2 hr ai;clear hr ai k5 gz bA aZ;go_upto_region 18 with(go_at_call 119;go_must(refine(eD.o).mono ?_);rintro e w7 ⟨v7,rfl,o7,b7⟩)
   have wa:=b7.size;have bK:=bR.o.trans (b7.mono (by have:=bR.o.size;omega));obtain⟨G7,S7⟩:=yH2 ((b7.block GB CU).trans G6.o) ((b7.block SB Dk).trans S6.o);have CV:=zab G7.o;have Dl:=zab S7.o;have cr:=zHi bK;have K0:=bK.size;have vH:=zHi o7;clear o7 b7 l0' l1' eD bK hs;generalize za5 wo d.frm kq=out0 at*;clear xs0 xd0 xr0 s0 s1 s2 s3 s4 s5 s6 d0 d1 d2 d3 d4 d5 d6 r0 r1 r2 r3 r4 r5 r6 rf ls ld lr;go_upto_region 19 with fail
   go_loopw [11,13] (fun v n wr=>∃(k:Nat) (out:Parts),k<=d.to.length/\n=.int .i64 k/\Hid (R=tpRes s i x.g (zb5 sh (l0.drop k) out))/\Hid (GainSt sh out (l0.drop k))/\out.length<=50001+k/\OwnS wr W6.heap.size 59 3 zaa v out/\Qa w7 wr) (fun _ n _=>d.to.length-(intOf n).toNat)
   case atStart=>exact⟨0,out0,Nat.zero_le _,rfl,lW,aA,by omega,vH.o,Qb⟩
   case round=>
    obtain⟨k,out,hk,rfl,HX,HG,LZ,ac,hB⟩:=hrel;have aW:=hB.size;have iw:=(hB.block GB CV).trans G7.o;have E4:=(hB.block SB Dl).trans S7.o;obtain⟨g0,g1,g2,g3,g4⟩:=zeg iw;obtain⟨q0,q1⟩:=zbj E4;have Kc:=zab iw;have KD:=zab E4;have cw:=cr.o.trans (hB.mono K0);obtain⟨⟨xs0,xd0,xr0⟩,⟨s0,s1,s2,s3,s4,s5,s6⟩,⟨d0,d1,d2,d3,d4,d5,d6⟩,⟨r0,r1,r2,r3,r4,r5,r6⟩,rf,ls,ld,lr⟩:=ddF (au.o wr (cw));obtain⟨aU,HB,HO,vR⟩:=yH4 cw hB ac (HS.o wr (aj.o.trans (cw.mono aw)));by_cases aa:k<d.to.length
    ·obtain⟨b,off,hA,hb,ah⟩:=vR.o.at aa;have hx:=HX.o;have ai:=HG.o;rw[IP.o k aa]at hx ai;rw[zmh]at hx;have bJ:=Cj.o _ (List.getElem_mem aa);have ak:=zHi aa;generalize d.to[k]=y at*;obtain⟨nm,nu,de⟩:=y;simp only at bJ hx ai;have i0:wr.cell? ⟨b,off+k*3,none⟩=some (.string nm):=ah 0 _ rfl;have i1:wr.cell? ⟨b,off+k*3+1,none⟩=some (.int .i64 nu):=ah 1 _ rfl;have i2:wr.cell? ⟨b,off+k*3+2,none⟩=some (.int .i64 de):=ah 2 _ rfl;have ar:(k:Int)<(d.to.length:Int):=Mcq;have aR:(0:Int)<=(k:Int):=Mcq;have ng:(⟨nm,nu,de⟩:RPart).rat=Rat.divInt nu de:=rfl;rw[ng]at hx ai;obtain⟨r1,r2,r3,r4⟩:=zbl bJ;have kU:=zHi (fun W=>zgB sh (Rat.divInt nu de) W lT.o (zc8 Mcu Mcu (zer bJ) r3 r4));unfold zaD at kU;rw[r1,r2]at kU;obtain⟨p1,p2⟩:=ai.more jg.o;obtain⟨gX,kY⟩:=yH2 (fun hl=>ai.next jg.o hl) (ai.parts jg.o);obtain⟨mo,y9⟩:=Qd (sh*Rat.divInt nu de)
     rw[<-y9]at hx kU p1 p2 gX;obtain⟨lU,ax⟩:=yH2 (And.intro p1 p2) hx;rw[hA]at d4;obtain⟨HDW,Bg,kQ⟩:=yH3 xd0 hA (show wr.cell? ⟨b,off+k*3,none⟩=some (.string nm)/\b<wr.heap.size from⟨i0,hb⟩);clear ah hx ai bJ aa ng r1 r2 r3 r4 p1 p2 y9 ac hB hA;go_upto_region 21 with fail
     refine zdK 8 _ _ (.cells #[.int .i64 0,.int .i64 0] 57) (.cells #[.int .i64 (mo).num,.int .i64 (mo).den] 57) Mcs Mcs rfl rfl ?hrun ?_
     case hrun=>intro a W;kernel_rfl
     simp only[List.take_succ_cons,List.take_zero];repeat(refine zeM (fun K hK=>?_);simp only[grow];go_simp;first|(refine hK _ ?_;clear hK K)|(apply Exists.intro;refine⟨fun _=>?_,hK _ ?_⟩;((go_at_call 122;exact quietg (kU.o _)));clear hK K))
     refine zfH ⟨?hstore,?hlast⟩
     case hstore=>
      exact MF
     case hlast=>
      rintro MB W9 ⟨z9,wY⟩ Ko gM;have eV:Qa wr W9:=by rw[wY];exact zaq _ _
      have CH:=eV.size;have sE:=aU.o.trans (eV.mono Meb);obtain⟨lE,qO,GM⟩:=yH3 eV sE gM;obtain⟨m0,m1⟩:=zbj gM;have rW:=zab gM;clear wY eV i0 i1 i2 g0 g1 g2 g3 g4 q0 q1;clear xs0 xd0 xr0 s0 s1 s2 s3 s4 s5 s6 d0 d1 d2 d3 d4 d5 d6 r0 r1 r2 r3 r4 r5 r6 rf ls ld lr;obtain⟨⟨xs0,xd0,xr0⟩,⟨s0,s1,s2,s3,s4,s5,s6⟩,⟨d0,d1,d2,d3,d4,d5,d6⟩,⟨r0,r1,r2,r3,r4,r5,r6⟩,rf,ls,ld,lr⟩:=ddF (au.o W9 (sE));clear sE;by_cases hs:1000000000<(mo.den:Int)
      ·have HE:Hid (R=(s,8)):=by show _=_;rw[ax.o,if_pos (by simp[bigQ,hs])];rfl
       go_upto_region 23 with fail
       have aZ:=qO.o;exact Mf
      have aZ:bigQ mo=false:=by simpa[bigQ]using hs
      have hx:=ax.o;rw[aZ,if_neg Mcv]at hx;have dW:=zHi hx;have qo:=zbZ lU.o.1 lU.o.2 aZ;obtain⟨OV,oc,rfl,_,_⟩:=HO.o.sl zai;have eD:=zHi (fun W (hW:Qa wr W)=>zcW out nm mo OV oc W (by have:=ak.o;omega) kY.o qo (ziM zai (HO.o.keep hW)).1);unfold zaD at eD;have cg:=zc0 nm mo out;go_upto_region 24 with fail
      have DR:=d4;rw[Bg.o]at DR;have CI:=fun(W:World) (h:Qa W9 W)=>(zah h ld).trans DR
      have Kf:=fun(W:World) (h:Qa W9 W)=>(zah h (show b<W9.heap.size by have:=kQ.o.2;omega)).trans ((zah lE.o kQ.o.2).trans kQ.o.1)
      clear DR;have aB:=zHi (fun(W:World) (h:Qa W9 W)=>(show W.cell? ⟨w.heap.size+1,4,none⟩=some (.slice (some ⟨b,off,none⟩) d.to.length c)/\W.cell? ⟨b,off+k*3,none⟩=some (.string nm)/\W.cell? ⟨MB,0,none⟩=some (.int .i64 mo.num)/\W.cell? ⟨MB,1,none⟩=some (.int .i64 mo.den) from⟨(CI W h),(Kf W h),(zah h rW).trans m0,(zah h rW).trans m1⟩));clear hx qo aZ hs;refine zaJ 8 (fun bb w'=>bb=true\/(w'.cell? ⟨w.heap.size+1,4,none⟩=some (.slice (some ⟨b,off,none⟩) d.to.length c)/\w'.cell? ⟨b,off+k*3,none⟩=some (.string nm)/\w'.cell? ⟨MB,0,none⟩=some (.int .i64 mo.num)/\w'.cell? ⟨MB,1,none⟩=some (.int .i64 mo.den))) Mcs (.inr (aB.o _ (zaF Qb))) ?hrest
      case hrest=>
       intro hHeld;refine TkM 0 ?_;refine TkM 1 ?_;refine TkM 2 ?_;refine TkM 3 ?_;refine TkM 4 ?_;refine TkM 5 ?_;refine TkM 6 ?_;refine TkM 7 ?_;refine OnM 8 true fun K hK=>?_
       go_simp
       refine(eD.o _ (zaF lE.o)).mono ?_;rintro e w10 ⟨v10,rfl,o10,b10⟩;refine NxM hK fun hHeld=>?_
       clear hK K;refine OnM 9 true fun K hK=>?_
       go_simp
       refine NxM hK fun hHeld=>?_
       clear hK K;refine zaV Mcs ?_ _;clear hHeld;obtain⟨YA,yc,rfl,pI,_⟩:=o10.sl zai;have cQ:Qa W9 w10:=(zaF Qb).trans b10;have my:=qO.o.trans (cQ.mono (by have:=qO.o.size;omega));obtain⟨Bl,uT,ov,ca⟩:=yH4 (lE.o.trans (cQ.mono CH)) my (o10.base_le (show W6.heap.size<=W9.drew.heap.size by have:=lE.o.size;have:=HB.o.size;have:=wa;show W6.heap.size<=W9.heap.size;omega)) (fun W (h:Qa w10 W)=>zdN (za5 out nm mo) YA yc W (by have:=ak.o;omega) (pI.keep h));have JV:=cQ.size;clear o10 b10 pI cQ m0 m1 rW;clear xs0 xd0 xr0 s0 s1 s2 s3 s4 s5 s6 d0 d1 d2 d3 d4 d5 d6 r0 r1 r2 r3 r4 r5 r6 rf ls ld lr;obtain⟨⟨xs0,xd0,xr0⟩,⟨s0,s1,s2,s3,s4,s5,s6⟩,⟨d0,d1,d2,d3,d4,d5,d6⟩,⟨r0,r1,r2,r3,r4,r5,r6⟩,rf,ls,ld,lr⟩:=ddF (au.o w10 (my));clear my;have hx:=dW.o;cases hlg:zaG (za5 out nm mo)
       ·rw[hlg]at hx ca;have aA:=zHi (gX.o hlg);have iR:Hid (R=tpRes s i x.g (zb5 sh (l0.drop (k+1)) (za5 out nm mo))):=by show _=_;rw[hx,if_neg Mcv]
        clear hx hlg;generalize za5 out nm mo=out1 at*;go_wp2_with (go_at_call 124;go_must(refine(ca.o _ Bw).mono ?_);rintro e wq ⟨rfl,rfl⟩)
        go_round
        case rel=>exact⟨k+1,out1,ak.o,by go_num,iR,aA,by omega,ov.o,HB.o.trans (Bl.o.mono aW)⟩
        case measure=>have:=ak.o;simp only[intOf];omega
       ·rw[hlg]at hx ca;have HE:Hid (R=(s,8)):=by show _=_;rw[hx,if_pos rfl];rfl
        clear hx hlg;generalize za5 out nm mo=out1 at*;go_upto_region 26 with(go_at_call 124;go_must(refine(ca.o _ Bw).mono ?_);rintro e wq ⟨rfl,rfl⟩)
        have aZ:=uT.o;exact Mf
    ·have ar:¬(k:Int)<(d.to.length:Int):=Mcq;have hx:=HX.o;rw[List.drop_of_length_le (by have:=ot.o;omega)]at hx;have HE:Hid (R=(s.withGrave i {x.g with holders:=out},0)):=Md9;obtain⟨VB,vd,rfl,_,_⟩:=ac.sl zai;have g3f:=frz iw;have lO:=zHi iw;clear ac aa hB E4 hx;go_upto_region 28 with fail
     obtain⟨W8,wX⟩:=Qd (wr.setCell ⟨GB,3,none⟩ (.slice VB out.length vd))
     have gG6:W8.heap[GB]?=some (.cells #[.string x.g.place,.int .i64 x.g.cls,.int .i64 x.g.fin,.slice VB out.length vd,.slice x.D x.g.died.length x.dc] 161):=by
      rw[wX];have:=Joins.block_setCell (i:=3) lO.o (.slice VB out.length vd);simpa using this
     have me:Qa W0 W8:=by rw[wX];exact zaN aU.o iY _
     have qs:OwnS W8 W6.heap.size 59 3 zaa (.slice VB out.length vd) out:=by rw[wX];exact HO.o.kept (za2 _ _ _ _) lO.o Mcu
     rw[<-wX];clear wX g0 g1 g2 g3 g4 g3f q0 q1 iw;clear xs0 xd0 xr0 s0 s1 s2 s3 s4 s5 s6 d0 d1 d2 d3 d4 d5 d6 r0 r1 r2 r3 r4 r5 r6 rf ls ld lr;obtain⟨g0,g1,g2,g3,g4⟩:=zeg gG6;have bO:=zab gG6;have oE:=me.size;obtain⟨⟨xs0,xd0,xr0⟩,⟨s0,s1,s2,s3,s4,s5,s6⟩,⟨d0,d1,d2,d3,d4,d5,d6⟩,⟨r0,r1,r2,r3,r4,r5,r6⟩,rf,ls,ld,lr⟩:=ddF (au.o W8 (me));have lZ:=zHi (rL.o ({g:= {x.g with holders:=out},H:=VB,hc:=vd,D:=x.D,dc:=x.dc}:GX) W8 me);unfold GX.cells zgT at lZ;dsimp only at lZ;obtain⟨bR,fG⟩:=yH2 me qs;clear me qs gG6
     go_wp2_with (go_at_call 125
                  go_must(refine(lZ.o).mono ?_)
                  rintro e w5 ⟨ga,go,gc,rfl,aX,aq⟩;have bK:=bR.o.trans (aq.mono oE);obtain⟨_,_,xr5⟩:=au.o w5 bK;obtain⟨t0,t1,t2,t3,t4,t5,t6⟩:=zaK xr5;have tf:=frz xr5;obtain⟨bB,cr,lD⟩:=yH3 aX bK aq
                  clear aX aq bK)
     rw[HE.o];refine bodyPost_ret (zb8 rfl _ rfl rfl (zc9 xr5)) rfl ?_;have cy:=zcH (a0:=.slice LA laws.length c0) (a1:=.slice CA s.children.length c1) (a2:=.slice MA s.marriages.length c2) (a3:=.slice DA s.dead.length c3) (a4:=.slice WA wd.length c4) (a5:=.slice RA rd.length c5) (a6:=.slice (some ⟨ga,go,none⟩) s.graves.length gc) (aj.o.trans (cr.o.mono aw)) (show w.heap.size<=w.heap.size+2 by omega);obtain⟨A',c',oX,_,dZ⟩:=fG.o.ro;obtain⟨rfl,_,rfl⟩:VB=A'/\out.length=out.length/\vd=c':=by simpa using oX
     exact⟨_,_,_,_,_,_,_,rfl,rfl,cy,fun _=>km.o ({g:= {x.g with holders:=out},H:=VB,hc:=vd,D:=x.D,dc:=x.dc}:GX) _ ga go gc (H.o w Qb) HK.o cy (bB.o.ne7 (zmf bB.o xr5 Mcu)) ⟨(zjb (dZ.keep lD.o) xr5 Mcu).sl zai,(nw.keep cy).2⟩⟩
theorem zea{t:TypeId}{α:Type}{f:α->List Value}{size:Nat}(ae:∀x,(f x).length=size)(W:World)(base:Nat)(h:base<=W.heap.size):OwnS (W.alloc (.cells #[] t)) base t size f (.slice (some ⟨W.heap.size,0,none⟩) 0 0) []:=
 OwnS.of_own ae (World.ownsRow_made W #[] 0 h (Nat.zero_le _) Mcv)
theorem to_head{d:Deed}(h:d.to.length=1):∃y,d.to[0]?=some y/\zbh d=y.name:=by
 obtain⟨y,hy⟩:=List.length_eq_one_iff.1 h;exact⟨y,by rw[hy];rfl,by unfold zbh;rw[hy];rfl⟩
theorem znp{d:Deed}{W:World}{B:Option Addr}(h:d.to.length=1)(hS:Sl W 3 RPart.cells B d.to):∃b off,B=some ⟨b,off,none⟩/\b<W.heap.size/\W.cell? ⟨b,off,none⟩=some (.string (zbh d)):=by
 obtain⟨y,hy,he⟩:=to_head h;obtain⟨b,off,hA,hb,hc⟩:=hS Mcq;refine⟨b,off,hA,hb,?_⟩;rw[he];have:=hc 0 y hy 0 _ rfl;simpa using this
theorem zpl(laws:List Law)(s:St)(wd rd:List Deed)(LA CA MA DA WA RA GA:Option Addr)(c0 c1 c2 c3 c4 c5 c6:Nat)(d:Deed)(B:Option Addr)(c:Nat)(w:World)(h:StIn w laws s wd rd LA CA MA DA WA RA GA c0 c1 c2 c3 c4 c5 c6)(hk:StLink s wd rd)(hf:StFew s wd rd)(hd:OkD d)(hS:Sl w 3 RPart.cells B d.to)(cC:d.kind=7):Calls Tryz.prog 79 #[.agg #[.slice LA laws.length c0,.slice CA s.children.length c1,.slice MA s.marriages.length c2,.slice DA s.dead.length c3,.slice WA wd.length c4,.slice RA rd.length c5,.slice GA s.graves.length c6],d.v B c] w (zfR w laws (zdu s d)):=by
 obtain⟨R,hR⟩:=Qd (zdu s d)
 rw[<-hR];have aL:=(hd.one (.inr (.inr cC))).1;have tZ:=zHi (fun W (hS:Sl W 3 RPart.cells B d.to)=>znp aL hS);have fP:(0:Int)<(d.to.length:Int):=Mcq;unfold zdu at hR;generalize zbh d=tn at*;clear cC aL;obtain⟨H,HK,HF,HD,HS,HR⟩:=yH6 (fun W (hB:Qa w W)=>h.keep hB) hk hf hd (fun W (hB:Qa w W)=>hS.keep hB) hR;unfold Deed.v;clear h hk hf hd hS hR;go_enter Tryz.func79,Tryz.ntmps79
 go_upto_region 1 with fail
 generalize am:World.alloc (World.alloc (World.alloc w _) _) _=W0;obtain⟨aj,au⟩:=zeL am;clear am;have aw:=aj.o.size;obtain⟨⟨xs0,xd0,xr0⟩,⟨s0,s1,s2,s3,s4,s5,s6⟩,⟨d0,d1,d2,d3,d4,d5,d6⟩,⟨r0,r1,r2,r3,r4,r5,r6⟩,rf,ls,ld,lr⟩:=ddF (au.o W0 Qb);have tP:=zHi (fun x W (hB:Qa W0 W)=>sDead x W (H.o W (aj.o.trans (hB.mono aw))) HF.o);have fT:=zHi (fun x W (hB:Qa W0 W)=>sSpouse x W (H.o W (aj.o.trans (hB.mono aw))) HF.o);obtain⟨b,off,hA,hb,nP⟩:=tZ.o W0 (HS.o W0 aj.o);have hr:=HR.o;rw[hA]at d4;go_upto_region 2 with fail
 cases bS:zaP s d.frm;rotate_left 1
 ·have HE:Hid (R=(s,28)):=Mee;clear hr;go_upto_region 3 with(go_at_call 80;go_must(refine(tP.o _ _ Qb).mono ?_);rintro e wq ⟨rfl,z,rfl⟩;rw[bS])
  have aZ:=zaq W0 z;exact MbS
 cases dM:zaP s tn;rotate_left 1
 ·have HE:Hid (R=(s,28)):=by show _=_;rw[hr,bS,dM];rfl
  clear hr;go_upto_region 3 with(go_at_call 80;go_must(refine(tP.o _ _ Bw).mono ?_);rintro e wq ⟨rfl,zz,rfl⟩;first|(rw[bS];obtain⟨z,rfl⟩:=Qd zz)|(rw[dM];obtain⟨z2,rfl⟩:∃z,z=zz:=⟨_,rfl⟩))
  obtain⟨W1,aP⟩:=Qd ((W0.ext z).ext z2)
  have aO:Qa W0 W1:=by rw[aP];exact zaZ (zaq _ _) _
  rw[<-aP];clear aP;have aZ:=aO;exact MbS
 go_upto_region 4 with(go_at_call 80;go_must(refine(tP.o _ _ Bw).mono ?_);rintro e wq ⟨rfl,zz,rfl⟩;first|(rw[bS];obtain⟨z,rfl⟩:=Qd zz)|(rw[dM];obtain⟨z2,rfl⟩:∃z,z=zz:=⟨_,rfl⟩))
 rw[bS,dM,Bool.or_false,if_neg Mcv]at hr;obtain⟨W1,aP⟩:=Qd ((W0.ext z).ext z2)
 have aO:Qa W0 W1:=by rw[aP];exact zaZ (zaq _ _) _
 have im:=aO.size;rw[<-aP];have aE:=zHi aO;clear aP aO;clear xs0 xd0 xr0 s0 s1 s2 s3 s4 s5 s6 d0 d1 d2 d3 d4 d5 d6 r0 r1 r2 r3 r4 r5 r6 rf ls ld lr;obtain⟨⟨xs0,xd0,xr0⟩,⟨s0,s1,s2,s3,s4,s5,s6⟩,⟨d0,d1,d2,d3,d4,d5,d6⟩,⟨r0,r1,r2,r3,r4,r5,r6⟩,rf,ls,ld,lr⟩:=ddF (au.o W1 (aE.o));cases bD:noB (zaM s d.frm)
 ·have HE:Hid (R=(s,13)):=by show _=_;rw[hr,bD];rfl
  have w1:¬(zaM s d.frm).toList=[]:=by simpa using(show(zaM s d.frm).toList.isEmpty=false from bD)
  have y1:(zaM s d.frm).toList.isEmpty=false:=bD;clear hr bD;go_upto_region 5 with(go_at_call 130;go_must(refine(fT.o _ _ aE.o).mono ?_);rintro e wq ⟨rfl,z3,rfl⟩)
  have aZ:=zaZ aE.o z3;exact MbS
 have w1:(zaM s d.frm).toList=[]:=by simpa using(show(zaM s d.frm).toList.isEmpty=true from bD)
 have y1:(zaM s d.frm).toList.isEmpty=true:=bD;cases dY:noB (zaM s tn)
 ·have HE:Hid (R=(s,13)):=by show _=_;rw[hr,bD,dY];rfl
  have w2:¬(zaM s tn).toList=[]:=by simpa using(show(zaM s tn).toList.isEmpty=false from dY)
  have y2:(zaM s tn).toList.isEmpty=false:=dY;clear hr bD dY;go_upto_region 5 with(go_at_call 130;go_must(refine(fT.o _ _ Men).mono ?_);rintro e wq ⟨rfl,zz,rfl⟩;first|(rw[show zaM s tn=zaM s tn from rfl];obtain⟨z4,rfl⟩:∃z,z=zz:=⟨_,rfl⟩)|(obtain⟨z3,rfl⟩:∃z,z=zz:=⟨_,rfl⟩))
  obtain⟨W2,cF⟩:=Qd ((W1.ext z3).ext z4)
  have bC:Qa W0 W2:=by rw[cF];exact zaZ (zaZ aE.o _) _
  rw[<-cF];clear cF;have aZ:=bC;exact MbS
 have w2:(zaM s tn).toList=[]:=by simpa using(show(zaM s tn).toList.isEmpty=true from dY)
 have y2:(zaM s tn).toList.isEmpty=true:=dY;rw[bD,dY,Bool.not_true,Bool.or_false,if_neg Mcv]at hr;have HE:=zHi hr;clear hr bD dY;go_upto_region 6 with(go_at_call 130;go_must(refine(fT.o _ _ Men).mono ?_);rintro e wq ⟨rfl,zz,rfl⟩;first|(rw[show zaM s tn=zaM s tn from rfl];obtain⟨z4,rfl⟩:∃z,z=zz:=⟨_,rfl⟩)|(obtain⟨z3,rfl⟩:∃z,z=zz:=⟨_,rfl⟩))
 obtain⟨WX,ku⟩:=Qd ((W1.ext z3).ext z4)
 have fw:Qa W0 WX:=by rw[ku];exact zaZ (zaZ aE.o _) _
 rw[<-ku];have bw:=zHi fw;have dG:=fw.size;clear ku fw;clear xs0 xd0 xr0 s0 s1 s2 s3 s4 s5 s6 d0 d1 d2 d3 d4 d5 d6 r0 r1 r2 r3 r4 r5 r6 rf ls ld lr;obtain⟨⟨xs0,xd0,xr0⟩,⟨s0,s1,s2,s3,s4,s5,s6⟩,⟨d0,d1,d2,d3,d4,d5,d6⟩,⟨r0,r1,r2,r3,r4,r5,r6⟩,rf,ls,ld,lr⟩:=ddF (au.o WX (bw.o));have bp:Hid (s.marriages.length=(s.marriages).length):=zHi rfl;have u9:Hid ((s.marriages).length<=1000):=zHi HF.o.marr;have cd:=zHi (fun W (hB:Qa WX W)=>(H.o W (aj.o.trans ((bw.o.trans (hB.mono dG)).mono aw))).marr);have aB:=zHi (fun(W:World) (h:Qa WX W)=>(show W.cell? ⟨w.heap.size,2,none⟩=some (.slice MA s.marriages.length c2)/\W.cell? ⟨w.heap.size+1,3,none⟩=some (.string d.frm) from⟨(zah h ls).trans s2,(zah h ld).trans d3⟩));go_cut [5]from 34 to 45 (fun v wc=>v=.int .i64 0/\∃V c',wc.heap[w.heap.size]?=some (.cells #[.slice LA laws.length c0,.slice CA s.children.length c1,.slice V (s.marriages.length+1) c',.slice DA s.dead.length c3,.slice WA wd.length c4,.slice RA rd.length c5,.slice GA s.graves.length c6] 35)/\wc.heap[w.heap.size+2]?=some (.cells #[.slice none 0 0,.slice none 0 0,.slice none 0 0,.slice none 0 0,.slice none 0 0,.slice none 0 0,.slice none 0 0] 35)/\Ro wc 140 zaX V (s.marriages++[(d.frm,tn)])/\Qa w wc)
 case first=>
  refine zaJ 9 (fun bb w'=>bb=true\/(w'.cell? ⟨w.heap.size,2,none⟩=some (.slice MA s.marriages.length c2)/\w'.cell? ⟨w.heap.size+1,3,none⟩=some (.string d.frm))) Mcs (.inr (aB.o _ (zaF Qb))) ?hrest
  case hrest=>
   intro hHeld;clear xs0 xd0 xr0 s0 s1 s2 s3 s4 s5 s6 d0 d1 d2 d3 d4 d5 d6 r0 r1 r2 r3 r4 r5 r6 rf ls ld lr;refine TkM 1 ?_;refine TkM 2 ?_;refine TkM 4 ?_;refine TkM 5 ?_;refine TkM 6 ?_;refine TkM 7 ?_;refine TwM 0 8 (fun K hK=>?_) fun K hK=>?_
   ·go_simp
    have e0:Qa WX (WX.drew.alloc (.cells #[] 140)):=zad (zaF Qb) _;have m0:OwnS (WX.drew.alloc (.cells #[] 140)) WX.heap.size 140 2 zaX (.slice (some ⟨WX.heap.size,0,none⟩) 0 0) []:=zea zbn WX.drew WX.heap.size Qc;refine NxM hK (fun hHeld=>?_) (.inr (aB.o _ e0));clear hK K;refine TwM 3 8 (fun K hK=>?_) fun K hK=>?_
    ·refine zak (v:=.slice (some ⟨WX.heap.size,0,none⟩) 0 0) (n:=0) (m:=s.marriages.length) rfl _ _ rfl zg8 zbn zdJ rfl (xs:=[]) (ys:=s.marriages) (m0) rfl rfl bp.o (cd.o _ e0) Mcy McJ McC ?_;intro v4 w4 h1 h2 h3;rw[List.nil_append]at h1;obtain⟨V4,c4',aT,_,_⟩:=h1.sl zbn;rw[<-bp.o]at aT;subst aT;have ay:Qa WX w4:=Below.grown e0 h2 Mdr (fun j hj=>by simp[za6]at hj;omega);refine NxM hK (fun hHeld=>?_) (.inr (aB.o _ ay));clear hK K;refine OnM 8 false fun K hK=>?_
     go_simp
     have e1:Qa WX (w4.alloc (.cells #[.string d.frm,.string tn] 140)):=zad ay _;have n1:(w4.alloc (.cells #[.string d.frm,.string tn] 140)).heap[w4.heap.size]?=some (.cells #[.string d.frm,.string tn] 140):=zat _ _ _ rfl;have o1:OwnS (w4.alloc (.cells #[.string d.frm,.string tn] 140)) WX.heap.size 140 2 zaX (.slice V4 s.marriages.length c4') s.marriages:=h1.keep (n:=w4.heap.size) (zad Qb _);refine NxM hK (fun hHeld=>?_) (.inr (aB.o _ e1));clear hK K;have o9:=o1;have n9:=n1;have e9:=e1;exact Mp
    ·go_simp
     have e1:Qa WX ((WX.drew.alloc (.cells #[] 140)).alloc (.cells #[.string d.frm,.string tn] 140)):=zad e0 _;have n1:((WX.drew.alloc (.cells #[] 140)).alloc (.cells #[.string d.frm,.string tn] 140)).heap[WX.heap.size+1]?=some (.cells #[.string d.frm,.string tn] 140):=zat _ _ _ Mcv;have m1:OwnS ((WX.drew.alloc (.cells #[] 140)).alloc (.cells #[.string d.frm,.string tn] 140)) WX.heap.size 140 2 zaX (.slice (some ⟨WX.heap.size,0,none⟩) 0 0) []:=m0.keep (n:=(WX.drew.alloc (.cells #[] 140)).heap.size) (zad Qb _);refine NxM hK (fun hHeld=>?_) (.inr (aB.o _ e1));clear hK K;refine OnM 3 false fun K hK=>?_
     refine zak (v:=.slice (some ⟨WX.heap.size,0,none⟩) 0 0) (n:=0) (m:=s.marriages.length) rfl _ _ rfl zg8 zbn zdJ rfl (xs:=[]) (ys:=s.marriages) (m1) rfl rfl bp.o (cd.o _ e1) Mcy McJ Mcx ?_;intro v4 w4 h1 h2 h3;rw[List.nil_append]at h1;obtain⟨V4,c4',aT,_,_⟩:=h1.sl zbn;rw[<-bp.o]at aT;subst aT;have ay:Qa WX w4:=Below.grown e1 h2 McM (fun j hj=>by simp[za6]at hj;omega);have n2:w4.heap[WX.heap.size+1]?=some (.cells #[.string d.frm,.string tn] 140):=(h2.block _ McI Mde).trans n1;exact Mcd
   ·go_simp
    have e0:Qa WX (WX.drew.alloc (.cells #[.string d.frm,.string tn] 140)):=zad (zaF Qb) _;have n0:(WX.drew.alloc (.cells #[.string d.frm,.string tn] 140)).heap[WX.heap.size]?=some (.cells #[.string d.frm,.string tn] 140):=zat _ _ _ rfl;refine NxM hK (fun hHeld=>?_) (.inr (aB.o _ e0));clear hK K;refine OnM 0 false fun K hK=>?_
    go_simp
    have e1:Qa WX ((WX.drew.alloc (.cells #[.string d.frm,.string tn] 140)).alloc (.cells #[] 140)):=zad e0 _;have n1:((WX.drew.alloc (.cells #[.string d.frm,.string tn] 140)).alloc (.cells #[] 140)).heap[WX.heap.size]?=some (.cells #[.string d.frm,.string tn] 140):=zal n0;have m1:OwnS ((WX.drew.alloc (.cells #[.string d.frm,.string tn] 140)).alloc (.cells #[] 140)) WX.heap.size 140 2 zaX (.slice (some ⟨WX.heap.size+1,0,none⟩) 0 0) []:=by
     exact Mbb
    refine NxM hK (fun hHeld=>?_) (.inr (aB.o _ e1));clear hK K;refine OnM 3 false fun K hK=>?_
    refine zak (v:=.slice (some ⟨WX.heap.size+1,0,none⟩) 0 0) (n:=0) (m:=s.marriages.length) rfl _ _ rfl zg8 zbn zdJ rfl (xs:=[]) (ys:=s.marriages) (m1) rfl rfl bp.o (cd.o _ e1) Mcy McJ Mcx ?_;intro v4 w4 h1 h2 h3;rw[List.nil_append]at h1;obtain⟨V4,c4',aT,_,_⟩:=h1.sl zbn;rw[<-bp.o]at aT;subst aT;have ay:Qa WX w4:=Below.grown e1 h2 McM (fun j hj=>by simp[za6]at hj;omega);have n2:w4.heap[WX.heap.size]?=some (.cells #[.string d.frm,.string tn] 140):=(h2.block _ McI Mde).trans n1;exact Mcd
 case rest=>
  obtain⟨rfl,V,c',eb,cm,dZ,oF⟩:=hcut;clear xs0 xd0 xr0 s0 s1 s2 s3 s4 s5 s6 d0 d1 d2 d3 d4 d5 d6 r0 r1 r2 r3 r4 r5 r6 rf ls ld lr;obtain⟨s0,s1,s2,s3,s4,s5,s6⟩:=zaK eb;obtain⟨r0,r1,r2,r3,r4,r5,r6⟩:=zaK cm;have rf:=frz cm;have ls:=zab eb;have lr:=zab cm;go_wp2_with fail
  rw[HE.o];have cy:=zcH (a0:=.slice LA laws.length c0) (a1:=.slice CA s.children.length c1) (a2:=.slice V (s.marriages.length+1) c') (a3:=.slice DA s.dead.length c3) (a4:=.slice WA wd.length c4) (a5:=.slice RA rd.length c5) (a6:=.slice GA s.graves.length c6) oF (show w.heap.size<=w.heap.size+2 by omega);refine bodyPost_ret (zb8 rfl _ rfl rfl (zc9 cm)) rfl ?_;have h':=H.o _ cy;exact⟨_,_,_,_,_,_,_,rfl,rfl,cy,fun _=>⟨wd,rd,LA,CA,V,DA,WA,RA,GA,c0,c1,c',c3,c4,c5,c6,rfl,rfl,by rw[List.length_append];rfl,rfl,rfl,rfl,rfl,⟨h'.laws,h'.kids,(zjb dZ cm Mcu).sl zbn,h'.dead,h'.wills,h'.ren,h'.graves,h'.deadc⟩,⟨HK.o.wills,HK.o.shares,HK.o.ren,HK.o.tos⟩⟩⟩
