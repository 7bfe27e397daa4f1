import Derived.Test.YtegdimedhfafjaaGreatDoorXH
import Derived.Test.YtegdimedhfafjaaGreatDoorR2
set_option linter.all false
set_option maxRecDepth 100000
set_option maxHeartbeats 4000000
namespace Go.Proofs.YtegdimedhfafjaaGreatDoor
open Go.RowKit Go.Shelf
attribute [local go_sem] World.cell?_alloc_mark zaf za5 zao za8 zav zaw zax zay zaz za0 za1
attribute [local go_sem] zaq zad
theorem zps(w:World)(g:Nat)(a b:Value):w.grownBy ((w.setCell ⟨g,0,none⟩ a).setCell ⟨g,1,none⟩ b) (some g):=zbo (zar w g 0 a) (zar _ g 1 b)
theorem zja{α:Type}{W:World}{e t:TypeId}{f:α->List Value}{A:Option Addr}{xs:List α}{b:Nat}{cs:Array Value}{fr:Nat×Nat}{a0 a1 a2 a3 a4 a5 a6:Value}(h:Ro W e f A xs)(hb:W.heap[b]?=some (.cells cs t fr))(ai:t≠e):
 Ro (((((((W.setCell ⟨b,0,none⟩ a0).setCell ⟨b,1,none⟩ a1).setCell ⟨b,2,none⟩ a2).setCell ⟨b,3,none⟩ a3).setCell ⟨b,4,none⟩ a4).setCell ⟨b,5,none⟩ a5).setCell ⟨b,6,none⟩ a6) e f A xs:=
 h.same fun k cur fr' hk _=>by
  have mD:k≠b:=fun he=>by
   rw[he,hb]at hk;simp only[Option.some.injEq,Obj.cells.injEq]at hk;exact ai hk.2.1
  rw[hk];exact J_ne mD (J_ne mD (J_ne mD (J_ne mD (J_ne mD (J_ne mD (J_ne mD hk))))))
def surM(l:Parts)(frm:ByteArray)(q:Rat):Parts:=(zat l frm).map fun p=>(p.1,p.2/q)
theorem surM_snoc{l:Parts}{n:ByteArray}{q:Rat}{k:Nat}(h:k<l.length):surM (l.take (k+1)) n q=surM (l.take k) n q++(if zae l[k].1 n then[]else[(l[k].1,l[k].2/q)]):=by
 unfold surM;rw[zhz h,List.map_append];cases zae l[k].1 n<;>rfl
theorem zoo(l:Parts)(n:ByteArray)(q:Rat):(surM l n q).length<=l.length:=by
 unfold surM;rw[List.length_map];exact List.length_filter_le _ _
theorem zjp(laws:List Law)(s:St)(wd rd:List Deed)(LA CA MA DA WA RA GA:Option Addr)(c0 c1 c2 c3 c4 c5 c6:Nat)(d:Deed)(B:Option Addr)(c:Nat)(w:World)(h:StIn w laws s wd rd LA CA MA DA WA RA GA c0 c1 c2 c3 c4 c5 c6)(hk:StLink s wd rd)(hf:StFew s wd rd)(hd:OkD d)(hS:Sl w 3 RPart.cells B d.to)(bf:∀g∈s.graves,GoodG g/\g.holders.length<=50000):Calls Tryz.prog 106 #[.agg #[.slice LA laws.length c0,.slice CA s.children.length c1,.slice MA s.marriages.length c2,.slice DA s.dead.length c3,.slice WA wd.length c4,.slice RA rd.length c5,.slice GA s.graves.length c6],d.v B c] w (zeT w laws (zba s d)):=by
 obtain⟨R,hR⟩:∃R,R=zba s d:=⟨_,rfl⟩
 rw[<-hR];obtain⟨gxs,hm,bH,bu⟩:=gx_of h.graves;obtain⟨HM,dG,ca,eb⟩:=yH4 hm bH bu bf;clear hm bH bu bf;obtain⟨H,HK,HF,HD,HS,HR⟩:=yH6 (fun W (hB:Below w.heap.size w W)=>h.keep hB) hk hf hd (fun W (hB:Below w.heap.size w W)=>hS.keep hB) hR;unfold Deed.v;clear h hk hf hd hS hR;go_enter Tryz.func106,Tryz.ntmps106
 go_upto_region 1 with fail
 generalize ao:World.alloc (World.alloc (World.alloc w _) _) _=W0;obtain⟨ak,aw⟩:=zeN ao;clear ao;have ay:=ak.o.size;obtain⟨⟨xs0,xd0,xr0⟩,⟨s0,s1,s2,s3,s4,s5,s6⟩,⟨d0,d1,d2,d3,d4,d5,d6⟩,⟨r0,r1,r2,r3,r4,r5,r6⟩,rf,ls,ld,lr⟩:=ddF (aw.o W0 (Below.refl _ _));have eu:=zHi (fun W (hB:Below W0.heap.size W0 W)=>zmo d.place d.day W (H.o W (ak.o.trans (hB.mono ay))) HF.o);have hr:=HR.o;unfold zba at hr;cases aT:zaP s d.place d.day with
 |none=>
  exact Mci
 |some i=>
  rw[aT]at hr;rw[ze0 aT]at eu;obtain⟨g,cf,cw,An⟩:=zjO aT;simp only[cw]at hr;obtain⟨hi,p9⟩:=gx_at HM.o cf;have eU:i<s.graves.length:=MdV;have jJ:=dG.o _ (List.getElem_mem hi);have ri:=zHi (fun(y:GX) W (hB:Below W0.heap.size W0 W)=>ziX laws s wd rd LA CA MA DA WA RA GA c0 c1 c2 c3 c4 c5 c6 gxs i y W HM.o (ca.o.keep (ak.o.trans (hB.mono ay))) HF.o eU);obtain⟨kg,aH⟩:=yH2 (zn1 laws s wd rd LA CA MA DA WA RA GA c0 c1 c2 c3 c4 c5 c6 gxs i HM.o dG.o) (fun W (hB:Below W0.heap.size W0 W)=>H.o W (ak.o.trans (hB.mono ay)));go_upto_region 2 with(go_at_call 138;go_must(refine(eu.o _ (Below.refl _ _)).mono ?_);rintro e wq ⟨rfl,z1,rfl⟩)
  obtain⟨W1,aI⟩:∃W1,W1=W0.ext z1:=⟨_,rfl⟩
  have aU:Below W0.heap.size W0 W1:=Mdb;rw[<-aI];clear aI;clear xs0 xd0 xr0 s0 s1 s2 s3 s4 s5 s6 d0 d1 d2 d3 d4 d5 d6 r0 r1 r2 r3 r4 r5 r6 rf ls ld lr;obtain⟨⟨xs0,xd0,xr0⟩,⟨s0,s1,s2,s3,s4,s5,s6⟩,⟨d0,d1,d2,d3,d4,d5,d6⟩,⟨r0,r1,r2,r3,r4,r5,r6⟩,rf,ls,ld,lr⟩:=ddF (aw.o W1 (aU));have wM:=aU.size;have eR:=ak.o.trans (aU.mono ay);obtain⟨gb,gof,lX,dK,ah⟩:=(ca.o.keep eR).at hi;generalize gxs[i]=x at*;subst p9;subst lX;have i0:=ah 0 _ rfl;have i1:=ah 1 _ rfl;have i2:=ah 2 _ rfl;have i3:=ah 3 _ rfl;have i4:=ah 4 _ rfl;simp only[Nat.add_zero]at i0;have xt:(i:Int)<(s.graves.length:Int):=Mcm;have fk:(0:Int)<=(i:Int):=Mcm;have aQ:¬(i:Int)<0:=Mcm;clear ah;go_upto_region 5 with fail
  obtain⟨W2,cE⟩:∃W2,W2=W1.alloc (.cells #[.string x.g.place,.int .i64 x.g.cls,.int .i64 x.g.fin,.slice x.H x.g.holders.length x.hc,.slice x.D x.g.died.length x.dc] 189):=⟨_,rfl⟩
  have gG:W2.heap[W1.heap.size]?=some (.cells #[.string x.g.place,.int .i64 x.g.cls,.int .i64 x.g.fin,.slice x.H x.g.holders.length x.hc,.slice x.D x.g.died.length x.dc] 189):=Men;have aA:Hid (Below W0.heap.size W0 W2):=MdE;have kP:W1.heap.size<W2.heap.size:=zab gG;have uC:=zHi eR;obtain⟨GB,jl⟩:∃GB,GB=W1.heap.size:=⟨_,rfl⟩
  rw[<-cE,<-jl];rw[<-jl]at gG kP;have iU:W0.heap.size<=GB:=Mcm;clear cE jl aU eR i0 i1 i2 i3 i4;clear xs0 xd0 xr0 s0 s1 s2 s3 s4 s5 s6 d0 d1 d2 d3 d4 d5 d6 r0 r1 r2 r3 r4 r5 r6 rf ls ld lr;obtain⟨dh,cx⟩:=eb.o x.g An;have pa:=jJ.keep (ak.o.trans (aA.o.mono ay));have nt:=zHi (fun W (hB:Below W2.heap.size W2 W)=>zfp x.g.holders d.frm x.H x.hc W Mcm (pa.1.keep hB));have dt:=fun h=>zlv (frm:=d.frm) dh h
  change R=(if(zag x.g.holders d.frm==0)=true then(s,19)else if zaF (surM x.g.holders d.frm (1-zag x.g.holders d.frm))=true then(s,8)else(s.withGrave i {x.g with holders:=surM x.g.holders d.frm (1-zag x.g.holders d.frm)},0))at hr;generalize zag x.g.holders d.frm=sh at*;unfold zaC at nt;obtain⟨g0,g1,g2,g3,g4⟩:=zed gG;have rU:=aA.o.size;have GG:=zHi gG;obtain⟨⟨xs0,xd0,xr0⟩,⟨s0,s1,s2,s3,s4,s5,s6⟩,⟨d0,d1,d2,d3,d4,d5,d6⟩,⟨r0,r1,r2,r3,r4,r5,r6⟩,rf,ls,ld,lr⟩:=ddF (aw.o W2 (aA.o));go_upto_region 6 with(go_at_call 142;go_must(refine(nt.o _ (Below.refl _ _)).mono ?_);rintro e wq ⟨rfl,z2,rfl⟩)
  obtain⟨SB,jn⟩:∃SB,SB=W2.heap.size+z2.os.size:=⟨_,rfl⟩
  obtain⟨W3,bm⟩:∃W3,W3=(W2.ext z2).alloc (.cells #[.int .i64 (sh).num,.int .i64 (sh).den] 56):=⟨_,rfl⟩
  have gS:W3.heap[SB]?=some (.cells #[.int .i64 (sh).num,.int .i64 (sh).den] 56):=by rw[bm];exact zas _ _ _ (by rw[jn];simp[zaf])
  have aC:Below W2.heap.size W2 W3:=by rw[bm];exact zac (zap W2 z2) _
  rw[<-bm,<-jn];clear bm jn g0 g1 g2 g3 g4 gG;clear xs0 xd0 xr0 s0 s1 s2 s3 s4 s5 s6 d0 d1 d2 d3 d4 d5 d6 r0 r1 r2 r3 r4 r5 r6 rf ls ld lr;have jq:=aC.size;obtain⟨aL,G3,GS⟩:=yH3 (aA.o.trans (aC.mono rU)) ((aC.block GB kP).trans GG.o) gS;obtain⟨q0,q1⟩:=zbl gS;have rJ:=zab gS;obtain⟨⟨xs0,xd0,xr0⟩,⟨s0,s1,s2,s3,s4,s5,s6⟩,⟨d0,d1,d2,d3,d4,d5,d6⟩,⟨r0,r1,r2,r3,r4,r5,r6⟩,rf,ls,ld,lr⟩:=ddF (aw.o W3 (aL.o));by_cases hz:sh=0
  ·have mX:(sh.num==0)=true:=by rw[hz];rfl
   have HE:Hid (R=(s,19)):=by show _=_;rw[hr,if_pos Mdy]
   clear hr;go_upto_region 7 with fail
   have be:=aL.o;exact Mg
  ·have mX:(sh.num==0)=false:=by
    exact Ma9
   rw[if_neg Mdy]at hr;obtain⟨m1,m2,m3,m4⟩:=dt hz;obtain⟨eJ,nr,EQ⟩:=yH3 (fun W=>zhE 1 sh W ⟨by decide,by decide⟩ m1) m4 m2;unfold zaC at eJ;rw[show(1:Rat).num=1 from rfl,show((1:Rat).den:Int)=1 from rfl]at eJ;clear hz m1 m2 m3 m4 dt;go_upto_region 9 with fail
   refine zdB 3 _ _ (.cells #[.int .i64 0,.int .i64 0] 56) (.cells #[.int .i64 (1-sh).num,.int .i64 (1-sh).den] 56) Mcn Mcn rfl rfl ?hrun ?_
   case hrun=>intro a W;kernel_rfl
   simp only[List.take_succ_cons,List.take_zero];repeat(refine zeO (fun K hK=>?_);simp only[grow];go_simp;first|(refine hK _ ?_;clear hK K)|(apply Exists.intro;refine⟨fun _=>?_,hK _ ?_⟩;((first|(go_at_call 103;exact quietg (zhQ _))|(go_at_call 145;exact quietg (eJ.o _))));clear hK K))
   refine zfH ⟨?hstore,?hlast⟩
   case hstore=>
    exact MH
   case hlast=>
    rintro LB W4 ⟨z4,ir⟩ lY gL;obtain⟨lf,kX⟩:∃lf,lf=1-sh:=⟨_,rfl⟩
    rw[<-kX]at hr nr EQ gL;have aD:Below W3.heap.size W3 W4:=by rw[ir];exact zap _ _
    have F8:=aD.size;obtain⟨eo,G4,GL⟩:=yH3 (aL.o.trans (aD.mono Mcm)) ((aD.block GB Mcm).trans G3.o) gL;have fG:=zab gL;have Dv:GB<W4.heap.size:=Mcm;have Jd:=zHi ((jJ.keep (ak.o.trans (eo.o.mono ay))));clear ir kX gL aD gS q0 q1 rJ eJ mX;clear xs0 xd0 xr0 s0 s1 s2 s3 s4 s5 s6 d0 d1 d2 d3 d4 d5 d6 r0 r1 r2 r3 r4 r5 r6 rf ls ld lr;go_upto_region 11 with fail
    go_loopw [9,11] (fun v i wr=>∃k:Nat,k<=x.g.holders.length/\i=.int .i64 k/\OwnS wr W4.heap.size 62 3 zaa v (surM (x.g.holders.take k) d.frm lf)/\Below W4.heap.size W4 wr) (fun _ i _=>x.g.holders.length-(intOf i).toNat)
    case atStart=>exact⟨0,Nat.zero_le _,rfl,OwnS.nil,Below.refl _ _⟩
    case round=>
     obtain⟨k,hk,rfl,ae,hB⟩:=hrel;have aE:=hB.size;obtain⟨HO,HB⟩:=yH2 ae hB;have iz:=(hB.block GB Dv).trans G4.o;have Do:=(hB.block LB fG).trans GL.o;obtain⟨g0,g1,g2,g3,g4⟩:=zed iz;obtain⟨l0,l1⟩:=zbl Do;have Dw:=zab iz;have xF:=zab Do;have ct:=eo.o.trans (hB.mono Mcm);obtain⟨⟨xs0,xd0,xr0⟩,⟨s0,s1,s2,s3,s4,s5,s6⟩,⟨d0,d1,d2,d3,d4,d5,d6⟩,⟨r0,r1,r2,r3,r4,r5,r6⟩,rf,ls,ld,lr⟩:=ddF (aw.o wr (ct));have aW:=zHi ct;by_cases aa:k<x.g.holders.length
     ·obtain⟨b,off,hA,hb,ah⟩:=(Jd.o.1.keep hB).at aa;have aj:=surM_snoc (n:=d.frm) (q:=lf) aa;have bs:=Nat.le_trans (zoo (x.g.holders.take k) d.frm lf) (by rw[List.length_take];omega:(x.g.holders.take k).length<=k);have gN:=nr.o _ (List.getElem_mem aa);generalize surM (x.g.holders.take k) d.frm lf=xs at*;obtain⟨VA,vc,rfl,_,jV⟩:=ae.sl zan;have am:=zHi aa;generalize x.g.holders[k]=p at*;obtain⟨nm,q⟩:=p;rw[hA]at g3;have i0:wr.cell? ⟨b,off+k*3,none⟩=some (.string nm):=ah 0 _ rfl;have i1:wr.cell? ⟨b,off+k*3+1,none⟩=some (.int .i64 q.num):=ah 1 _ rfl;have i2:wr.cell? ⟨b,off+k*3+2,none⟩=some (.int .i64 q.den):=ah 2 _ rfl;have au:(k:Int)<(x.g.holders.length:Int):=Mcm;have aP:(0:Int)<=(k:Int):=Mcm;have eZ:Hid (xs.length<=100000):=by show _<=_;omega
      simp only at gN aj;have ax:=zHi (fun(W:World) (h:Below wr.heap.size wr W)=>(show W.cell? ⟨GB,3,none⟩=some (.slice (some ⟨b,off,none⟩) x.g.holders.length x.hc)/\W.cell? ⟨b,off+k*3,none⟩=some (.string nm)/\W.cell? ⟨b,off+k*3+1,none⟩=some (.int .i64 q.num)/\W.cell? ⟨b,off+k*3+2,none⟩=some (.int .i64 q.den)/\W.cell? ⟨LB,0,none⟩=some (.int .i64 lf.num)/\W.cell? ⟨LB,1,none⟩=some (.int .i64 lf.den) from⟨(zah h Dw).trans g3,(zah h hb).trans i0,(zah h hb).trans i1,(zah h hb).trans i2,(zah h xF).trans l0,(zah h xF).trans l1⟩));go_upto_region 13 with fail
      cases hs:zae nm d.frm
      ·have bo:(nm.toList==d.frm.toList)=false:=hs;have aH:Hid (surM (x.g.holders.take (k+1)) d.frm lf=xs++[(nm,q/lf)]):=by show _=_;rw[aj,hs];rfl
       obtain⟨jU,ye⟩:=gN hs;have ER:=zHi (fun W=>rQuo_any q lf W ye EQ.o jU);unfold zaC at ER;clear ah aa ae aj hs gN jU ye
       (refine zaj Mcn Mcn ?_
        repeat(first|go_big_quiet_skip|(go_big_quiet_want;go_big_quiet_op;first|go_big_quiet_on|(apply Exists.intro;refine⟨fun _=>?_,?_⟩;(fail);go_big_quiet_on)))
        refine wpQuiet_nil ?_
        rintro _ ⟨zq,rfl⟩)
       obtain⟨WQ,oy⟩:∃WQ,WQ=wr.ext zq:=⟨_,rfl⟩
       have me:Below wr.heap.size wr WQ:=Meq;rw[<-oy];clear oy g0 g1 g2 g3 g4 l0 l1 i0 i1 i2;clear xs0 xd0 xr0 s0 s1 s2 s3 s4 s5 s6 d0 d1 d2 d3 d4 d5 d6 r0 r1 r2 r3 r4 r5 r6 rf ls ld lr;have Kk:=me.size;go_upto_region 14 with fail
       refine zaB 17 (fun bb w'=>bb=true\/(w'.cell? ⟨GB,3,none⟩=some (.slice (some ⟨b,off,none⟩) x.g.holders.length x.hc)/\w'.cell? ⟨b,off+k*3,none⟩=some (.string nm)/\w'.cell? ⟨b,off+k*3+1,none⟩=some (.int .i64 q.num)/\w'.cell? ⟨b,off+k*3+2,none⟩=some (.int .i64 q.den)/\w'.cell? ⟨LB,0,none⟩=some (.int .i64 lf.num)/\w'.cell? ⟨LB,1,none⟩=some (.int .i64 lf.den))) Mcn (.inr (ax.o _ (zaH me))) ?hrest
       case hrest=>
        intro hHeld;refine TkM 0 ?_;refine TkM 1 ?_;refine TkM 2 ?_;refine TkM 3 ?_;refine TkM 4 ?_;refine TkM 5 ?_;refine TkM 6 ?_;refine TkM 7 ?_;refine TkM 8 ?_;refine TkM 9 ?_;refine TkM 10 ?_;refine TkM 11 ?_;refine TkM 12 ?_;refine TkM 13 ?_;refine OnM 14 false fun K hK=>?_
        go_simp
        refine(ER.o _).mono ?_;rintro e w5 ⟨rfl,z,rfl⟩;have aq:Below wr.heap.size wr (WQ.drew.ext z):=zbm (zaH me) z;refine NxM hK (fun hHeld=>?_) (.inr (ax.o _ aq));clear hK K;refine TkM 15 ?_;refine OnM 16 false fun K hK=>?_
        go_simp
        have aG:Below wr.heap.size wr ((WQ.drew.ext z).alloc (.cells #[.string nm,.int .i64 (q/lf).num,.int .i64 (q/lf).den] 62)):=zac aq _;refine NxM hK (fun hHeld=>?_) (.inr (ax.o _ aG));clear hK K;refine OnM 17 true fun K hK=>?_
        refine zal (v:=.slice VA xs.length vc) (n:=xs.length) (m:=1) rfl _ _ rfl zdQ zan zcd rfl (xs:=xs) (ys:=[(nm,q/lf)]) (HO.o.keep (n:=wr.heap.size) aG) rfl rfl rfl (zda (zas _ _ _ MdI)) MdU Mc3 MdH ?_;intro v7 w7 h1 h2 h3;obtain⟨A7,c7,ja,_,_⟩:=h1.sl zan;rw[List.length_append]at ja;subst ja;have aR:Below W4.heap.size W4 w7:=Below.grown (HB.o.trans (aG.mono aE)) h2 MdH (fun j hj=>(HO.o.ge j hj).1);refine NxM hK fun hHeld=>?_
        clear hK K;refine OnM 18 true fun K hK=>?_
        go_simp
        refine NxM hK fun hHeld=>?_
        clear hK K;refine zaI Mcn ?_ _;clear hHeld;obtain⟨H7,bC⟩:=yH2 h1 aR;clear h1 h2 h3 aR;go_wp2_with fail
        go_round
        case rel=>exact⟨k+1,am.o,by go_num,by rw[aH.o];exact H7.o,bC.o⟩
        case measure=>have:=am.o;simp only[intOf];omega
      ·have bo:(nm.toList==d.frm.toList)=true:=hs;have aH:Hid (surM (x.g.holders.take (k+1)) d.frm lf=xs):=by show _=_;rw[aj,hs];simp
       clear ah aa ae aj hs gN
       (refine zaj Mcn Mcn ?_
        repeat(first|go_big_quiet_skip|(go_big_quiet_want;go_big_quiet_op;first|go_big_quiet_on|(apply Exists.intro;refine⟨fun _=>?_,?_⟩;(fail);go_big_quiet_on)))
        refine wpQuiet_nil ?_
        rintro _ ⟨zq,rfl⟩)
       go_wp2_with fail
       go_round
       case rel=>exact⟨k+1,am.o,by go_num,by rw[aH.o];exact HO.o.keep (n:=wr.heap.size) (zap _ _),zbm HB.o zq⟩
       case measure=>have:=am.o;simp only[intOf];omega
     ·have au:¬(k:Int)<(x.g.holders.length:Int):=Mcm;rw[List.take_of_length_le Mcm]at HO ae;have iZ:=zoo x.g.holders d.frm lf;generalize surM x.g.holders d.frm lf=out at*;obtain⟨VA,vc,rfl,jo,_⟩:=ae.sl zan;have cr:=zHi (fun W (h:Below wr.heap.size wr W)=>zdH out VA vc W Mcm (jo.keep h));have g3f:=frz iz;have lE:=zHi iz;clear ae jo aa hB Do;cases hlg:zaF out
      ·rw[hlg]at cr hr;have HE:Hid (R=(s.withGrave i {x.g with holders:=out},0)):=by show _=_;rw[hr];rfl
       clear hr hlg aT;go_upto_region 18 with(go_at_call 146;go_must(refine(cr.o _ Bw).mono ?_);rintro e wq ⟨rfl,rfl⟩)
       obtain⟨W6,gB⟩:∃W6,W6=wr.setCell ⟨GB,3,none⟩ (.slice VA out.length vc):=⟨_,rfl⟩
       have gG6:W6.heap[GB]?=some (.cells #[.string x.g.place,.int .i64 x.g.cls,.int .i64 x.g.fin,.slice VA out.length vc,.slice x.D x.g.died.length x.dc] 189):=by
        rw[gB];have:=Joins.block_setCell (i:=3) lE.o (.slice VA out.length vc);simpa using this
       have lV:Below W0.heap.size W0 W6:=by rw[gB];exact zaL aW.o iU _
       have q9:OwnS W6 W4.heap.size 62 3 zaa (.slice VA out.length vc) out:=by rw[gB];exact HO.o.kept (zar _ _ _ _) lE.o Mco
       rw[<-gB];clear gB g0 g1 g2 g3 g4 g3f l0 l1 iz;clear xs0 xd0 xr0 s0 s1 s2 s3 s4 s5 s6 d0 d1 d2 d3 d4 d5 d6 r0 r1 r2 r3 r4 r5 r6 rf ls ld lr;obtain⟨g0,g1,g2,g3,g4⟩:=zed gG6;have bI:=zab gG6;have ol:=lV.size;obtain⟨⟨xs0,xd0,xr0⟩,⟨s0,s1,s2,s3,s4,s5,s6⟩,⟨d0,d1,d2,d3,d4,d5,d6⟩,⟨r0,r1,r2,r3,r4,r5,r6⟩,rf,ls,ld,lr⟩:=ddF (aw.o W6 (lV));have lS:=zHi (ri.o ({g:= {x.g with holders:=out},H:=VA,hc:=vc,D:=x.D,dc:=x.dc}:GX) W6 lV);unfold GX.cells zgM at lS;dsimp only at lS;obtain⟨cI,lK⟩:=yH2 lV q9;clear lV q9 gG6
       go_wp2_with (go_at_call 147
                    go_must(refine(lS.o).mono ?_)
                    rintro e w5 ⟨ga,go,gc,rfl,bh,aq⟩;have aR:=cI.o.trans (aq.mono ol);obtain⟨_,_,xr5⟩:=aw.o w5 aR;obtain⟨t0,t1,t2,t3,t4,t5,t6⟩:=zaG xr5;have tf:=frz xr5;obtain⟨bS,bC,ll⟩:=yH3 bh aR aq
                    clear bh aq aR)
       rw[HE.o];refine bodyPost_ret (zbD rfl _ rfl rfl (zc5 xr5)) rfl ?_;have df:=zcA (a0:=.slice LA laws.length c0) (a1:=.slice CA s.children.length c1) (a2:=.slice MA s.marriages.length c2) (a3:=.slice DA s.dead.length c3) (a4:=.slice WA wd.length c4) (a5:=.slice RA rd.length c5) (a6:=.slice (some ⟨ga,go,none⟩) s.graves.length gc) (ak.o.trans (bC.o.mono ay)) (show w.heap.size<=w.heap.size+2 by omega);obtain⟨A',c',mq,_,dX⟩:=lK.o.ro;obtain⟨rfl,_,rfl⟩:VA=A'/\out.length=out.length/\vc=c':=by simpa using mq
       exact⟨_,_,_,_,_,_,_,rfl,rfl,df,fun _=>kg.o ({g:= {x.g with holders:=out},H:=VA,hc:=vc,D:=x.D,dc:=x.dc}:GX) _ ga go gc (H.o w (Below.refl _ _)) HK.o df (bS.o.ne7 (zmq bS.o xr5 Mco)) ⟨(zja (dX.keep ll.o) xr5 Mco).sl zan,(jJ.keep df).2⟩⟩
      ·rw[hlg]at cr hr;have HE:Hid (R=(s,8)):=by show _=_;rw[hr];rfl
       clear hr hlg aT;go_upto_region 16 with(go_at_call 146;go_must(refine(cr.o _ Bw).mono ?_);rintro e wq ⟨rfl,rfl⟩)
       have be:=aW.o;exact Mg
structure GainSt (own:Rat) (out l:Parts):Prop where
 good:GoodParts out
 small:zaF out=false
 le:sumQ out+own*sumQ l<=1
 pos:∀p∈l,0<=p.2
theorem GainSt.parts{own:Rat}{out l:Parts}(h:GainSt own out l)(ho:0<=own):∀p∈out,zaJ p.2:=by
 have h1:=Rat.mul_nonneg ho (zbs h.pos);exact fun p hp=>(zdG (hs:=out) ⟨h.good,h.small,by have:=h.le;grind⟩ hp).2.2
theorem GainSt.next{own:Rat}{out l:Parts}{n:ByteArray}{q:Rat}(ho:0<=own)(h:GainSt own out ((n,q)::l))(hl:zaF (za4 out n (own*q))=false):GainSt own (za4 out n (own*q)) l:=by
 have hq:=h.pos (n,q) Mcp;have bG:=h.le;rw[sumQ]at bG;exact⟨zbx (Rat.mul_nonneg ho hq) h.good,hl,by rw[zbY];grind,fun p hp=>h.pos p McX⟩
theorem GainSt.more{own:Rat}{out l:Parts}{n:ByteArray}{q:Rat}(ho:0<=own)(h:GainSt own out ((n,q)::l)):0<=own*q/\own*q<=1:=by
 have hq:=h.pos (n,q) Mcp;have bG:=h.le;rw[sumQ]at bG;have h1:=Rat.mul_nonneg ho hq;have h2:=Rat.mul_nonneg ho (zbs (l:=l) fun p hp=>h.pos p McX);have h3:0<=sumQ out:=zbs fun p hp=>by have:=h.good.pos p hp;grind
 simp only at hq bG;exact⟨h1,by grind⟩
def tpRes(s:St)(i:Nat)(g:Grave):Option Parts->St×Int
 |none=>(s,8)
 |some o=>(s.withGrave i {g with holders:=o},0)
theorem zms(own:Rat)(n:ByteArray)(q:Rat)(l out:Parts):zb9 own ((n,q)::l) out=if bigQ (own*q)then none else if zaF (za4 out n (own*q))then none else zb9 own l (za4 out n (own*q)):=by rw[zb9]
theorem sum_isN{n:Nat}:∀ {l:Parts},(∀p∈l,IsN n p.2)->IsN n (sumQ l)
 | [],_=>zkj n
 |x::r,h=>zkh (h x Mcp) (sum_isN fun p hp=>h p McX)
theorem zkQ(laws:List Law)(s:St)(wd rd:List Deed)(LA CA MA DA WA RA GA:Option Addr)(c0 c1 c2 c3 c4 c5 c6:Nat)(d:Deed)(B:Option Addr)(c:Nat)(w:World)(h:StIn w laws s wd rd LA CA MA DA WA RA GA c0 c1 c2 c3 c4 c5 c6)(hk:StLink s wd rd)(hf:StFew s wd rd)(hd:OkD d)(hS:Sl w 3 RPart.cells B d.to)(bQ:d.kind=1)(bf:∀g∈s.graves,GoodG g/\g.holders.length<=50000):Calls Tryz.prog 105 #[.agg #[.slice LA laws.length c0,.slice CA s.children.length c1,.slice MA s.marriages.length c2,.slice DA s.dead.length c3,.slice WA wd.length c4,.slice RA rd.length c5,.slice GA s.graves.length c6],d.v B c] w (zeT w laws (zbr s d)):=by
 obtain⟨R,hR⟩:∃R,R=zbr s d:=⟨_,rfl⟩
 rw[<-hR];obtain⟨gxs,hm,bH,bu⟩:=gx_of h.graves;obtain⟨HM,dG,ca,eb⟩:=yH4 hm bH bu bf;have jN:=zHi (zea (hd.parts (.inr (.inl bQ))).2);have bA:=hd.len;clear hm bH bu bf bQ;obtain⟨H,HK,HF,HD,HS,HR⟩:=yH6 (fun W (hB:Below w.heap.size w W)=>h.keep hB) hk hf hd (fun W (hB:Below w.heap.size w W)=>hS.keep hB) hR;unfold Deed.v;clear h hk hf hd hS hR;go_enter Tryz.func105,Tryz.ntmps105
 go_upto_region 1 with fail
 generalize ao:World.alloc (World.alloc (World.alloc w _) _) _=W0;obtain⟨ak,aw⟩:=zeN ao;clear ao;have ay:=ak.o.size;obtain⟨⟨xs0,xd0,xr0⟩,⟨s0,s1,s2,s3,s4,s5,s6⟩,⟨d0,d1,d2,d3,d4,d5,d6⟩,⟨r0,r1,r2,r3,r4,r5,r6⟩,rf,ls,ld,lr⟩:=ddF (aw.o W0 (Below.refl _ _));have eu:=zHi (fun W (hB:Below W0.heap.size W0 W)=>zmo d.place d.day W (H.o W (ak.o.trans (hB.mono ay))) HF.o);have ke:=zHi (fun W (hB:Below W0.heap.size W0 W)=>zmp d.to B c W (H.o W (ak.o.trans (hB.mono ay))) HF.o Mcm (HS.o W (ak.o.trans (hB.mono ay))));have tD:=zHi (fun W (hB:Below W0.heap.size W0 W)=>zoj d.to B c W Mcm (HS.o W (ak.o.trans (hB.mono ay))));have hr:=HR.o;unfold zbr at hr;cases aT:zaP s d.place d.day with
 |none=>
  exact Mci
 |some i=>
  rw[aT]at hr;rw[ze0 aT]at eu;obtain⟨g,cf,cw,An⟩:=zjO aT;simp only[cw]at hr;obtain⟨hi,p9⟩:=gx_at HM.o cf;have eU:i<s.graves.length:=MdV;have jJ:=dG.o _ (List.getElem_mem hi);have ri:=zHi (fun(y:GX) W (hB:Below W0.heap.size W0 W)=>ziX laws s wd rd LA CA MA DA WA RA GA c0 c1 c2 c3 c4 c5 c6 gxs i y W HM.o (ca.o.keep (ak.o.trans (hB.mono ay))) HF.o eU);obtain⟨kg,aH⟩:=yH2 (zn1 laws s wd rd LA CA MA DA WA RA GA c0 c1 c2 c3 c4 c5 c6 gxs i HM.o dG.o) (fun W (hB:Below W0.heap.size W0 W)=>H.o W (ak.o.trans (hB.mono ay)));go_upto_region 2 with(go_at_call 138;go_must(refine(eu.o _ (Below.refl _ _)).mono ?_);rintro e wq ⟨rfl,z1,rfl⟩)
  obtain⟨W1,aI⟩:∃W1,W1=W0.ext z1:=⟨_,rfl⟩
  have aU:Below W0.heap.size W0 W1:=Mdb;rw[<-aI];clear aI;clear xs0 xd0 xr0 s0 s1 s2 s3 s4 s5 s6 d0 d1 d2 d3 d4 d5 d6 r0 r1 r2 r3 r4 r5 r6 rf ls ld lr;obtain⟨⟨xs0,xd0,xr0⟩,⟨s0,s1,s2,s3,s4,s5,s6⟩,⟨d0,d1,d2,d3,d4,d5,d6⟩,⟨r0,r1,r2,r3,r4,r5,r6⟩,rf,ls,ld,lr⟩:=ddF (aw.o W1 (aU));have wM:=aU.size;have eR:=ak.o.trans (aU.mono ay);obtain⟨gb,gof,lX,dK,ah⟩:=(ca.o.keep eR).at hi;generalize gxs[i]=x at*;subst p9;subst lX;have i0:=ah 0 _ rfl;have i1:=ah 1 _ rfl;have i2:=ah 2 _ rfl;have i3:=ah 3 _ rfl;have i4:=ah 4 _ rfl;simp only[Nat.add_zero]at i0;have xt:(i:Int)<(s.graves.length:Int):=Mcm;have fk:(0:Int)<=(i:Int):=Mcm;have aQ:¬(i:Int)<0:=Mcm;clear ah;go_upto_region 5 with fail
  obtain⟨W2,cE⟩:∃W2,W2=W1.alloc (.cells #[.string x.g.place,.int .i64 x.g.cls,.int .i64 x.g.fin,.slice x.H x.g.holders.length x.hc,.slice x.D x.g.died.length x.dc] 189):=⟨_,rfl⟩
  have gG:W2.heap[W1.heap.size]?=some (.cells #[.string x.g.place,.int .i64 x.g.cls,.int .i64 x.g.fin,.slice x.H x.g.holders.length x.hc,.slice x.D x.g.died.length x.dc] 189):=Men;have aA:Hid (Below W0.heap.size W0 W2):=MdE;have kP:W1.heap.size<W2.heap.size:=zab gG;have uC:=zHi eR;obtain⟨GB,jl⟩:∃GB,GB=W1.heap.size:=⟨_,rfl⟩
  rw[<-cE,<-jl];rw[<-jl]at gG kP;have iU:W0.heap.size<=GB:=Mcm;clear cE jl aU eR i0 i1 i2 i3 i4;clear xs0 xd0 xr0 s0 s1 s2 s3 s4 s5 s6 d0 d1 d2 d3 d4 d5 d6 r0 r1 r2 r3 r4 r5 r6 rf ls ld lr;obtain⟨dh,cx⟩:=eb.o x.g An;have pa:=jJ.keep (ak.o.trans (aA.o.mono ay));obtain⟨t1,t2,t3⟩:=zi5 (frm:=d.frm) dh (fun p hp=>jN.o.1 p hp) jN.o.2.1;have ql:=zcg (n:=d.frm) dh.good;have td:=zbK (n:=d.frm) dh.good;have ic:=zd7 d.frm dh.small;have kB:∀p∈zat x.g.holders d.frm,p.1≠d.frm:=zj1;have bW:=zdT x.g.holders d.frm;have aN:sumQ x.g.holders<=1:=by
   rcases dh.one with e|e
   ·rw[e];decide
   ·rw[e];exact Rat.le_refl
  obtain⟨nt,iQ⟩:=yH2 (fun W (hB:Below W2.heap.size W2 W)=>zfp x.g.holders d.frm x.H x.hc W Mcm (pa.1.keep hB)) (fun W (hB:Below W2.heap.size W2 W)=>zh0 x.g.holders d.frm x.H x.hc W Mcm (pa.1.keep hB));generalize zag x.g.holders d.frm=sh at*;generalize zat x.g.holders d.frm=wo at*;unfold zaC at nt tD;obtain⟨g0,g1,g2,g3,g4⟩:=zed gG;have rU:=aA.o.size;have GG:=zHi gG;obtain⟨⟨xs0,xd0,xr0⟩,⟨s0,s1,s2,s3,s4,s5,s6⟩,⟨d0,d1,d2,d3,d4,d5,d6⟩,⟨r0,r1,r2,r3,r4,r5,r6⟩,rf,ls,ld,lr⟩:=ddF (aw.o W2 (aA.o));by_cases iS:x.g.cls=4
  ·have mi:(x.g.cls==4)=true:=by rw[iS];rfl
   have HE:Hid (R=(s,15)):=by show _=_;rw[hr,if_pos mi]
   clear hr iS;go_upto_region 6 with fail
   have be:=aA.o;exact Mg
  have mi:(x.g.cls==4)=false:=by simpa using iS
  rw[if_neg (by rw[mi];simp)]at hr;go_upto_region 8 with(go_at_call 142;go_must(refine(nt.o _ (Below.refl _ _)).mono ?_);rintro e wq ⟨rfl,z2,rfl⟩)
  obtain⟨SB,jn⟩:∃SB,SB=W2.heap.size+z2.os.size:=⟨_,rfl⟩
  obtain⟨W3,bm⟩:∃W3,W3=(W2.ext z2).alloc (.cells #[.int .i64 (sh).num,.int .i64 (sh).den] 56):=⟨_,rfl⟩
  have gS:W3.heap[SB]?=some (.cells #[.int .i64 (sh).num,.int .i64 (sh).den] 56):=by rw[bm];exact zas _ _ _ (by rw[jn];simp[zaf])
  have aC:Below W2.heap.size W2 W3:=by rw[bm];exact zac (zap W2 z2) _
  rw[<-bm,<-jn];clear bm jn g0 g1 g2 g3 g4 gG iS mi;clear xs0 xd0 xr0 s0 s1 s2 s3 s4 s5 s6 d0 d1 d2 d3 d4 d5 d6 r0 r1 r2 r3 r4 r5 r6 rf ls ld lr;have jq:=aC.size;obtain⟨aL,AM,G3,GS⟩:=yH4 (aA.o.trans (aC.mono rU)) aC ((aC.block GB kP).trans GG.o) gS;obtain⟨q0,q1⟩:=zbl gS;have rJ:=zab gS;obtain⟨⟨xs0,xd0,xr0⟩,⟨s0,s1,s2,s3,s4,s5,s6⟩,⟨d0,d1,d2,d3,d4,d5,d6⟩,⟨r0,r1,r2,r3,r4,r5,r6⟩,rf,ls,ld,lr⟩:=ddF (aw.o W3 (aL.o));by_cases hz:sh=0
  ·have mX:(sh.num==0)=true:=by rw[hz];rfl
   have HE:Hid (R=(s,19)):=by show _=_;rw[hr,if_pos Mdy]
   clear hr;go_upto_region 9 with fail
   have be:=aL.o;exact Mg
  have mX:(sh.num==0)=false:=by
   exact Ma9
  rw[if_neg Mdy]at hr;cases fO:zdZ s d.to;rotate_left 1
  ·have HE:Hid (R=(s,28)):=by show _=_;rw[hr,fO];rfl
   rw[fO]at ke;clear hr hz aT;go_upto_region 11 with(go_at_call 139;go_must(refine(ke.o _ (by have:=aL.o;exact Bw)).mono ?_);rintro e wq ⟨rfl,z3,rfl⟩)
   have be:=zbm aL.o z3;exact MbR
  rw[fO,if_neg Mcp]at hr;rw[fO]at ke;have l7:=znt d.to 0;have b9:d.to.all zdV=true:=by
   rw[List.all_eq_true];intro p hp;have h1:=jN.o.1 p hp;have h2:=zbk h1.2.2;unfold zdV;rw[h1.2.2,Bool.true_and];have:p.num≠0:=fun e=>by
    have h3:=h1.1;have h4:=(zk9.1 h3)
    unfold RPart.rat at h4;rw[h2.1,e]at h4;exact absurd h4 Mco
   simpa using this
  rw[b9]at l7;have dP:=l7.2 rfl;rw[Rat.zero_add]at dP;have ua:∀p∈zam d.to,0<p.2:=fun p hp=>by
   obtain⟨q,hq,rfl⟩:=List.mem_map.1 hp;exact(jN.o.1 q hq).1
  have kU:IsN 720720 (sumQ (zam d.to)):=sum_isN (fun p hp=>by
   obtain⟨q,hq,rfl⟩:=List.mem_map.1 hp
   exact(jN.o.1 q hq).2.1)
  have oH:0<=sumQ (zam d.to):=zbs fun p hp=>by have:=ua p hp;grind
  have my:=jN.o.2.1;have aK:=zc4 Mco Mco kU oH my;have nK:=zc4 Mco Mco (zgX (zgY _) kU) (show 0<=1-sumQ (zam d.to) by grind) (show 1-sumQ (zam d.to)<=1 by grind);rw[l7.1,dP]at tD;have yh:∀p∈zam d.to,0<=p.2:=fun p hp=>by have:=ua p hp;grind
  have oO:(zam d.to).length=d.to.length:=List.length_map _;have gH:∀k (hk:k<d.to.length),(zam d.to).drop k=(d.to[k].name,d.to[k].rat)::(zam d.to).drop (k+1):=fun k hk=>by
   rw[List.drop_eq_getElem_cons Mcm];congr 1
   exact List.getElem_map _
  have BN:=zHi (fun p hp=>(jN.o.1 p hp).2.2);generalize zam d.to=l0 at*;have sD:0<=sh*(1-sumQ l0):=Rat.mul_nonneg t1 McG;have xz:sh*(1-sumQ l0)<=1:=by
   have:=Rat.mul_le_mul_of_nonneg_left (show 1-sumQ l0<=1 by grind) t1;grind
  have g9:=zHi (fun(hb:bigQ (sh*(1-sumQ l0))=false)=>(show zaJ (sh*(1-sumQ l0))/\GainSt sh (za4 wo d.frm (sh*(1-sumQ l0))) l0 from
   ⟨zcb sD xz hb,⟨zbx sD td,zfR hb kB ic,by rw[zbY];grind,yh⟩⟩))
  have vF:=zHi (show∀p∈wo,zaJ p.2 from fun p hp=>(zdG (hs:=wo) ⟨td,ic,by have:=ql;grind⟩ hp).2.2);obtain⟨q,hq⟩:∃q,q=sumQ l0:=⟨_,rfl⟩
  rw[<-hq]at hr tD aK nK g9;obtain⟨eJ,je⟩:=yH2 (fun W=>zhE 1 q W ⟨by decide,by decide⟩ aK) (fun W=>zgC sh (1-q) W t2 nK);unfold zaC at eJ je;rw[show(1:Rat).num=1 from rfl,show((1:Rat).den:Int)=1 from rfl]at eJ;obtain⟨kq,Gt⟩:∃kq,kq=sh*(1-q):=⟨_,rfl⟩
  rw[<-Gt]at hr g9 je;obtain⟨jh,lM,Id,Bo⟩:=yH4 t1 t2 gH oO;have yN:wo.length<=50000:=Mcm;have bD:=zHi hr;clear hr gH oO yh sD xz b9 l7 dP ua kU oH my aK nK t1 t2 t3 ql td ic kB bW aN hq Gt hz aT dh
  go_upto_region 13 with(first
   |(go_at_call 139;go_must(refine(ke.o _ (by have:=aL.o;exact Bw)).mono ?_);rintro e wq ⟨rfl,z3,rfl⟩)
   |(go_at_call 102;go_must(refine(tD.o _ (by have:=aL.o;exact Bw)).mono ?_);rintro e wq ⟨rfl,z5,rfl⟩))
  obtain⟨QB,rH⟩:∃QB,QB=W3.heap.size+z3.os.size+z5.os.size:=⟨_,rfl⟩
  obtain⟨W4,ir⟩:∃W4,W4=((W3.ext z3).ext z5).alloc (.cells #[.int .i64 (q).num,.int .i64 (q).den] 56):=⟨_,rfl⟩
  have gQ:W4.heap[QB]?=some (.cells #[.int .i64 (q).num,.int .i64 (q).den] 56):=by rw[ir];exact zas _ _ _ (by rw[rH];simp[zaf])
  have aD:Below W3.heap.size W3 W4:=by rw[ir];exact zac (zbm (zap W3 z3) z5) _
  rw[<-ir,<-rH];have F8:=aD.size;have rV:=aL.o.trans (aD.mono (by have:=aL.o.size;omega));obtain⟨G4,S4,Q4,rj⟩:=yH4 ((aD.block GB Mcm).trans G3.o) ((aD.block SB rJ).trans GS.o) gQ (iQ.o W4 (AM.o.trans (aD.mono jq)));have rK:SB<W4.heap.size:=Mcm;have Ck:GB<W4.heap.size:=Mcm;have Cx:=zab gQ;have eo:=zHi rV;have zD:=rV.size;clear ir rH gQ gS q0 q1 aD rV rJ aC;clear xs0 xd0 xr0 s0 s1 s2 s3 s4 s5 s6 d0 d1 d2 d3 d4 d5 d6 r0 r1 r2 r3 r4 r5 r6 rf ls ld lr;obtain⟨g0,g1,g2,g3,g4⟩:=zed G4.o;obtain⟨⟨xs0,xd0,xr0⟩,⟨s0,s1,s2,s3,s4,s5,s6⟩,⟨d0,d1,d2,d3,d4,d5,d6⟩,⟨r0,r1,r2,r3,r4,r5,r6⟩,rf,ls,ld,lr⟩:=ddF (aw.o W4 (eo.o));go_upto_region 14 with(go_at_call 143;go_must(refine(rj.o).mono ?_);rintro e w5 ⟨v5,rfl,o5,b5⟩)
  obtain⟨VA,vc,rfl,jo,_⟩:=o5.sl zan;have tF:=zHi jo;have C7:=b5.size;obtain⟨bl,G5,S5,Q5⟩:=yH4 (eo.o.trans (b5.mono zD)) ((b5.block GB Ck).trans G4.o) ((b5.block SB rK).trans S4.o) ((b5.block QB Cx).trans Q4.o);clear g0 g1 g2 g3 g4 o5 b5 jo;clear xs0 xd0 xr0 s0 s1 s2 s3 s4 s5 s6 d0 d1 d2 d3 d4 d5 d6 r0 r1 r2 r3 r4 r5 r6 rf ls ld lr;obtain⟨q0,q1⟩:=zbl Q5.o;obtain⟨e0,e1⟩:=zbl S5.o;have wB:=zab S5.o;have Cy:=zab Q5.o;have vT:=zab G5.o;refine zdB 5 _ _ (.cells #[.int .i64 0,.int .i64 0] 56) (.cells #[.int .i64 (kq).num,.int .i64 (kq).den] 56) Mcn Mcn rfl rfl ?hrun ?_
  case hrun=>intro a W;kernel_rfl
  simp only[List.take_succ_cons,List.take_zero];repeat(refine zeO (fun K hK=>?_);simp only[grow];go_simp;first|(refine hK _ ?_;clear hK K)|(apply Exists.intro;refine⟨fun _=>?_,hK _ ?_⟩;((first|(go_at_call 103;exact quietg (zhQ _))|(go_at_call 145;exact quietg (eJ.o _))|(go_at_call 144;exact quietg (je.o _))));clear hK K))
  refine zfH ⟨?hstore,?hlast⟩
  case hstore=>
   exact MH
  case hlast=>
   rintro LB W6 ⟨z6,gB⟩ lY gL;have aG:Below w5.heap.size w5 W6:=by rw[gB];exact zap _ _
   have ol:=aG.size;obtain⟨cI,G6,S6,J7⟩:=yH4 (bl.o.trans (aG.mono Mcm)) ((aG.block GB vT).trans G5.o) ((aG.block SB wB).trans S5.o) (tF.o.keep aG);have Cl:=zab G6.o;have CE:=zab S6.o;have JJ:=zab gL;obtain⟨l0',l1'⟩:=zbl gL;clear gB aG q0 q1 e0 e1 wB Cy vT;obtain⟨⟨xs0,xd0,xr0⟩,⟨s0,s1,s2,s3,s4,s5,s6⟩,⟨d0,d1,d2,d3,d4,d5,d6⟩,⟨r0,r1,r2,r3,r4,r5,r6⟩,rf,ls,ld,lr⟩:=ddF (aw.o W6 (cI.o));by_cases hs:1000000000<(kq.den:Int)
   ·have HE:Hid (R=(s,8)):=by show _=_;rw[bD.o,if_pos (by simp[bigQ,hs])]
    go_upto_region 16 with fail
    have be:=cI.o;exact Mg
   have be:bigQ kq=false:=by simpa[bigQ]using hs
   obtain⟨k5,aj⟩:=g9.o be;have hr:=bD.o;rw[be,if_neg Mcp]at hr;change R=tpRes s i x.g (zb9 sh l0 (za4 wo d.frm kq))at hr;have ew:=zHi (zcN wo d.frm kq VA vc W6 Mcm vF.o k5 J7.o);unfold zaC at ew;have iZ:=zcw d.frm kq wo;obtain⟨lQ,aH⟩:=yH2 hr aj;clear hr aj k5 g9 bD be;go_upto_region 18 with(go_at_call 141;go_must(refine(ew.o).mono ?_);rintro e w7 ⟨v7,rfl,o7,b7⟩)
   have vJ:=b7.size;have aR:=cI.o.trans (b7.mono (by have:=cI.o.size;omega));obtain⟨G7,S7⟩:=yH2 ((b7.block GB Cl).trans G6.o) ((b7.block SB CE).trans S6.o);have Cm:=zab G7.o;have CF:=zab S7.o;have bC:=zHi aR;have Jp:=aR.size;have o8:=zHi o7;clear o7 b7 l0' l1' ew aR hs;generalize za4 wo d.frm kq=out0 at*;clear xs0 xd0 xr0 s0 s1 s2 s3 s4 s5 s6 d0 d1 d2 d3 d4 d5 d6 r0 r1 r2 r3 r4 r5 r6 rf ls ld lr;go_upto_region 19 with fail
   go_loopw [11,13] (fun v n wr=>∃(k:Nat) (out:Parts),k<=d.to.length/\n=.int .i64 k/\Hid (R=tpRes s i x.g (zb9 sh (l0.drop k) out))/\Hid (GainSt sh out (l0.drop k))/\out.length<=50001+k/\OwnS wr W6.heap.size 62 3 zaa v out/\Below w7.heap.size w7 wr) (fun _ n _=>d.to.length-(intOf n).toNat)
   case atStart=>exact⟨0,out0,Nat.zero_le _,rfl,lQ,aH,by omega,o8.o,Below.refl _ _⟩
   case round=>
    obtain⟨k,out,hk,rfl,HX,HG,Lh,ae,hB⟩:=hrel;have aE:=hB.size;have iz:=(hB.block GB Cm).trans G7.o;have Dp:=(hB.block SB CF).trans S7.o;obtain⟨g0,g1,g2,g3,g4⟩:=zed iz;obtain⟨q0,q1⟩:=zbl Dp;have Jz:=zab iz;have JW:=zab Dp;have ct:=bC.o.trans (hB.mono Jp);obtain⟨⟨xs0,xd0,xr0⟩,⟨s0,s1,s2,s3,s4,s5,s6⟩,⟨d0,d1,d2,d3,d4,d5,d6⟩,⟨r0,r1,r2,r3,r4,r5,r6⟩,rf,ls,ld,lr⟩:=ddF (aw.o wr (ct));obtain⟨aW,HB,HO,vD⟩:=yH4 ct hB ae (HS.o wr (ak.o.trans (ct.mono ay)));by_cases aa:k<d.to.length
    ·obtain⟨b,off,hA,hb,ah⟩:=vD.o.at aa;have hx:=HX.o;have aj:=HG.o;rw[Id.o k aa]at hx aj;rw[zms]at hx;have bO:=BN.o _ (List.getElem_mem aa);have am:=zHi aa;generalize d.to[k]=y at*;obtain⟨nm,nu,de⟩:=y;simp only at bO hx aj;have i0:wr.cell? ⟨b,off+k*3,none⟩=some (.string nm):=ah 0 _ rfl;have i1:wr.cell? ⟨b,off+k*3+1,none⟩=some (.int .i64 nu):=ah 1 _ rfl;have i2:wr.cell? ⟨b,off+k*3+2,none⟩=some (.int .i64 de):=ah 2 _ rfl;have au:(k:Int)<(d.to.length:Int):=Mcm;have aP:(0:Int)<=(k:Int):=Mcm;have mP:(⟨nm,nu,de⟩:RPart).rat=Rat.divInt nu de:=rfl;rw[mP]at hx aj;obtain⟨r1,r2,r3,r4⟩:=zbk bO;have kJ:=zHi (fun W=>zgC sh (Rat.divInt nu de) W lM.o (zc4 Mco Mco (zep bO) r3 r4));unfold zaC at kJ;rw[r1,r2]at kJ;obtain⟨p1,p2⟩:=aj.more jh.o;obtain⟨dF,kM⟩:=yH2 (fun hl=>aj.next jh.o hl) (aj.parts jh.o);obtain⟨mo,xO⟩:∃mo,mo=sh*Rat.divInt nu de:=⟨_,rfl⟩
     rw[<-xO]at hx kJ p1 p2 dF;obtain⟨lO,av⟩:=yH2 (And.intro p1 p2) hx;rw[hA]at d4;obtain⟨HDW,AI,kE⟩:=yH3 xd0 hA (show wr.cell? ⟨b,off+k*3,none⟩=some (.string nm)/\b<wr.heap.size from⟨i0,hb⟩);clear ah hx aj bO aa mP r1 r2 r3 r4 p1 p2 xO ae hB hA;go_upto_region 21 with fail
     refine zdB 8 _ _ (.cells #[.int .i64 0,.int .i64 0] 56) (.cells #[.int .i64 (mo).num,.int .i64 (mo).den] 56) Mcn Mcn rfl rfl ?hrun ?_
     case hrun=>intro a W;kernel_rfl
     simp only[List.take_succ_cons,List.take_zero];repeat(refine zeO (fun K hK=>?_);simp only[grow];go_simp;first|(refine hK _ ?_;clear hK K)|(apply Exists.intro;refine⟨fun _=>?_,hK _ ?_⟩;((go_at_call 144;exact quietg (kJ.o _)));clear hK K))
     refine zfH ⟨?hstore,?hlast⟩
     case hstore=>
      exact MH
     case hlast=>
      rintro MB W9 ⟨z9,wI⟩ JK gM;have cP:Below wr.heap.size wr W9:=by rw[wI];exact zap _ _
      have Ca:=cP.size;have sd:=aW.o.trans (cP.mono Md9);obtain⟨ie,qt,GM⟩:=yH3 cP sd gM;obtain⟨m0,m1⟩:=zbl gM;have rB:=zab gM;clear wI cP i0 i1 i2 g0 g1 g2 g3 g4 q0 q1;clear xs0 xd0 xr0 s0 s1 s2 s3 s4 s5 s6 d0 d1 d2 d3 d4 d5 d6 r0 r1 r2 r3 r4 r5 r6 rf ls ld lr;obtain⟨⟨xs0,xd0,xr0⟩,⟨s0,s1,s2,s3,s4,s5,s6⟩,⟨d0,d1,d2,d3,d4,d5,d6⟩,⟨r0,r1,r2,r3,r4,r5,r6⟩,rf,ls,ld,lr⟩:=ddF (aw.o W9 (sd));clear sd;by_cases hs:1000000000<(mo.den:Int)
      ·have HE:Hid (R=(s,8)):=by show _=_;rw[av.o,if_pos (by simp[bigQ,hs])];rfl
       go_upto_region 23 with fail
       have be:=qt.o;exact Mg
      have be:bigQ mo=false:=by simpa[bigQ]using hs
      have hx:=av.o;rw[be,if_neg Mcp]at hx;have eM:=zHi hx;have mI:=zcb lO.o.1 lO.o.2 be;obtain⟨OV,oc,rfl,_,_⟩:=HO.o.sl zan;have ew:=zHi (fun W (hW:Below wr.heap.size wr W)=>zcN out nm mo OV oc W (by have:=am.o;omega) kM.o mI (ziQ zan (HO.o.keep hW)).1);unfold zaC at ew;have cx:=zcw nm mo out;go_upto_region 24 with fail
      have De:=d4;rw[AI.o]at De;have Cb:=fun(W:World) (h:Below W9.heap.size W9 W)=>(zah h ld).trans De
      have JC:=fun(W:World) (h:Below W9.heap.size W9 W)=>(zah h (show b<W9.heap.size by have:=kE.o.2;omega)).trans ((zah ie.o kE.o.2).trans kE.o.1)
      clear De;have ax:=zHi (fun(W:World) (h:Below W9.heap.size W9 W)=>(show W.cell? ⟨w.heap.size+1,4,none⟩=some (.slice (some ⟨b,off,none⟩) d.to.length c)/\W.cell? ⟨b,off+k*3,none⟩=some (.string nm)/\W.cell? ⟨MB,0,none⟩=some (.int .i64 mo.num)/\W.cell? ⟨MB,1,none⟩=some (.int .i64 mo.den) from⟨(Cb W h),(JC W h),(zah h rB).trans m0,(zah h rB).trans m1⟩));clear hx mI be hs;refine zaB 8 (fun bb w'=>bb=true\/(w'.cell? ⟨w.heap.size+1,4,none⟩=some (.slice (some ⟨b,off,none⟩) d.to.length c)/\w'.cell? ⟨b,off+k*3,none⟩=some (.string nm)/\w'.cell? ⟨MB,0,none⟩=some (.int .i64 mo.num)/\w'.cell? ⟨MB,1,none⟩=some (.int .i64 mo.den))) Mcn (.inr (ax.o _ (zaH (Below.refl _ _)))) ?hrest
      case hrest=>
       intro hHeld;refine TkM 0 ?_;refine TkM 1 ?_;refine TkM 2 ?_;refine TkM 3 ?_;refine TkM 4 ?_;refine TkM 5 ?_;refine TkM 6 ?_;refine TkM 7 ?_;refine OnM 8 true fun K hK=>?_
       go_simp
       refine(ew.o _ (zaH ie.o)).mono ?_;rintro e w10 ⟨v10,rfl,o10,b10⟩;refine NxM hK fun hHeld=>?_
       clear hK K;refine OnM 9 true fun K hK=>?_
       go_simp
       refine NxM hK fun hHeld=>?_
       clear hK K;refine zaI Mcn ?_ _;clear hHeld;obtain⟨YA,yc,rfl,pf,_⟩:=o10.sl zan;have jp:Below W9.heap.size W9 w10:=(zaH (Below.refl _ _)).trans b10;have mf:=qt.o.trans (jp.mono (by have:=qt.o.size;omega));obtain⟨AL,uD,nY,cr⟩:=yH4 (ie.o.trans (jp.mono Ca)) mf (o10.base_le (show W6.heap.size<=W9.drew.heap.size by have:=ie.o.size;have:=HB.o.size;have:=vJ;show W6.heap.size<=W9.heap.size;omega)) (fun W (h:Below w10.heap.size w10 W)=>zdH (za4 out nm mo) YA yc W (by have:=am.o;omega) (pf.keep h));have Jl:=jp.size;clear o10 b10 pf jp m0 m1 rB;clear xs0 xd0 xr0 s0 s1 s2 s3 s4 s5 s6 d0 d1 d2 d3 d4 d5 d6 r0 r1 r2 r3 r4 r5 r6 rf ls ld lr;obtain⟨⟨xs0,xd0,xr0⟩,⟨s0,s1,s2,s3,s4,s5,s6⟩,⟨d0,d1,d2,d3,d4,d5,d6⟩,⟨r0,r1,r2,r3,r4,r5,r6⟩,rf,ls,ld,lr⟩:=ddF (aw.o w10 (mf));clear mf;have hx:=eM.o;cases hlg:zaF (za4 out nm mo)
       ·rw[hlg]at hx cr;have aH:=zHi (dF.o hlg);have kh:Hid (R=tpRes s i x.g (zb9 sh (l0.drop (k+1)) (za4 out nm mo))):=by show _=_;rw[hx,if_neg Mcp]
        clear hx hlg;generalize za4 out nm mo=out1 at*;go_wp2_with (go_at_call 146;go_must(refine(cr.o _ Bw).mono ?_);rintro e wq ⟨rfl,rfl⟩)
        go_round
        case rel=>exact⟨k+1,out1,am.o,by go_num,kh,aH,by omega,nY.o,HB.o.trans (AL.o.mono aE)⟩
        case measure=>have:=am.o;simp only[intOf];omega
       ·rw[hlg]at hx cr;have HE:Hid (R=(s,8)):=by show _=_;rw[hx,if_pos rfl];rfl
        clear hx hlg;generalize za4 out nm mo=out1 at*;go_upto_region 26 with(go_at_call 146;go_must(refine(cr.o _ Bw).mono ?_);rintro e wq ⟨rfl,rfl⟩)
        have be:=uD.o;exact Mg
    ·have au:¬(k:Int)<(d.to.length:Int):=Mcm;have hx:=HX.o;rw[List.drop_of_length_le (by have:=Bo.o;omega)]at hx;have HE:Hid (R=(s.withGrave i {x.g with holders:=out},0)):=Md7;obtain⟨VB,vd,rfl,_,_⟩:=ae.sl zan;have g3f:=frz iz;have lE:=zHi iz;clear ae aa hB Dp hx;go_upto_region 28 with fail
     obtain⟨W8,wH⟩:∃W8,W8=wr.setCell ⟨GB,3,none⟩ (.slice VB out.length vd):=⟨_,rfl⟩
     have gG6:W8.heap[GB]?=some (.cells #[.string x.g.place,.int .i64 x.g.cls,.int .i64 x.g.fin,.slice VB out.length vd,.slice x.D x.g.died.length x.dc] 189):=by
      rw[wH];have:=Joins.block_setCell (i:=3) lE.o (.slice VB out.length vd);simpa using this
     have lV:Below W0.heap.size W0 W8:=by rw[wH];exact zaL aW.o iU _
     have q9:OwnS W8 W6.heap.size 62 3 zaa (.slice VB out.length vd) out:=by rw[wH];exact HO.o.kept (zar _ _ _ _) lE.o Mco
     rw[<-wH];clear wH g0 g1 g2 g3 g4 g3f q0 q1 iz;clear xs0 xd0 xr0 s0 s1 s2 s3 s4 s5 s6 d0 d1 d2 d3 d4 d5 d6 r0 r1 r2 r3 r4 r5 r6 rf ls ld lr;obtain⟨g0,g1,g2,g3,g4⟩:=zed gG6;have bI:=zab gG6;have ol:=lV.size;obtain⟨⟨xs0,xd0,xr0⟩,⟨s0,s1,s2,s3,s4,s5,s6⟩,⟨d0,d1,d2,d3,d4,d5,d6⟩,⟨r0,r1,r2,r3,r4,r5,r6⟩,rf,ls,ld,lr⟩:=ddF (aw.o W8 (lV));have lS:=zHi (ri.o ({g:= {x.g with holders:=out},H:=VB,hc:=vd,D:=x.D,dc:=x.dc}:GX) W8 lV);unfold GX.cells zgM at lS;dsimp only at lS;obtain⟨cI,lK⟩:=yH2 lV q9;clear lV q9 gG6
     go_wp2_with (go_at_call 147
                  go_must(refine(lS.o).mono ?_)
                  rintro e w5 ⟨ga,go,gc,rfl,bh,aq⟩;have aR:=cI.o.trans (aq.mono ol);obtain⟨_,_,xr5⟩:=aw.o w5 aR;obtain⟨t0,t1,t2,t3,t4,t5,t6⟩:=zaG xr5;have tf:=frz xr5;obtain⟨bS,bC,ll⟩:=yH3 bh aR aq
                  clear bh aq aR)
     rw[HE.o];refine bodyPost_ret (zbD rfl _ rfl rfl (zc5 xr5)) rfl ?_;have df:=zcA (a0:=.slice LA laws.length c0) (a1:=.slice CA s.children.length c1) (a2:=.slice MA s.marriages.length c2) (a3:=.slice DA s.dead.length c3) (a4:=.slice WA wd.length c4) (a5:=.slice RA rd.length c5) (a6:=.slice (some ⟨ga,go,none⟩) s.graves.length gc) (ak.o.trans (bC.o.mono ay)) (show w.heap.size<=w.heap.size+2 by omega);obtain⟨A',c',mq,_,dX⟩:=lK.o.ro;obtain⟨rfl,_,rfl⟩:VB=A'/\out.length=out.length/\vd=c':=by simpa using mq
     exact⟨_,_,_,_,_,_,_,rfl,rfl,df,fun _=>kg.o ({g:= {x.g with holders:=out},H:=VB,hc:=vd,D:=x.D,dc:=x.dc}:GX) _ ga go gc (H.o w (Below.refl _ _)) HK.o df (bS.o.ne7 (zmq bS.o xr5 Mco)) ⟨(zja (dX.keep ll.o) xr5 Mco).sl zan,(jJ.keep df).2⟩⟩
theorem zdW{t:TypeId}{α:Type}{f:α->List Value}{size:Nat}(ag:∀x,(f x).length=size)(W:World)(base:Nat)(h:base<=W.heap.size):OwnS (W.alloc (.cells #[] t)) base t size f (.slice (some ⟨W.heap.size,0,none⟩) 0 0) []:=
 OwnS.of_own ag (World.ownsRow_made W #[] 0 h (Nat.zero_le _) Mcp)
theorem to_head{d:Deed}(h:d.to.length=1):∃y,d.to[0]?=some y/\zbg d=y.name:=by
 obtain⟨y,hy⟩:=List.length_eq_one_iff.1 h;exact⟨y,by rw[hy];rfl,by unfold zbg;rw[hy];rfl⟩
theorem zn2{d:Deed}{W:World}{B:Option Addr}(h:d.to.length=1)(hS:Sl W 3 RPart.cells B d.to):∃b off,B=some ⟨b,off,none⟩/\b<W.heap.size/\W.cell? ⟨b,off,none⟩=some (.string (zbg d)):=by
 obtain⟨y,hy,he⟩:=to_head h;obtain⟨b,off,hA,hb,hc⟩:=hS Mcm;refine⟨b,off,hA,hb,?_⟩;rw[he];have:=hc 0 y hy 0 _ rfl;simpa using this
theorem zpt(laws:List Law)(s:St)(wd rd:List Deed)(LA CA MA DA WA RA GA:Option Addr)(c0 c1 c2 c3 c4 c5 c6:Nat)(d:Deed)(B:Option Addr)(c:Nat)(w:World)(h:StIn w laws s wd rd LA CA MA DA WA RA GA c0 c1 c2 c3 c4 c5 c6)(hk:StLink s wd rd)(hf:StFew s wd rd)(hd:OkD d)(hS:Sl w 3 RPart.cells B d.to)(bQ:d.kind=7):Calls Tryz.prog 110 #[.agg #[.slice LA laws.length c0,.slice CA s.children.length c1,.slice MA s.marriages.length c2,.slice DA s.dead.length c3,.slice WA wd.length c4,.slice RA rd.length c5,.slice GA s.graves.length c6],d.v B c] w (zeT w laws (zdn s d)):=by
 obtain⟨R,hR⟩:∃R,R=zdn s d:=⟨_,rfl⟩
 rw[<-hR];have aN:=(hd.one (.inr (.inr bQ))).1;have tE:=zHi (fun W (hS:Sl W 3 RPart.cells B d.to)=>zn2 aN hS);have nM:(0:Int)<(d.to.length:Int):=Mcm;unfold zdn at hR;generalize zbg d=tn at*;clear bQ aN;obtain⟨H,HK,HF,HD,HS,HR⟩:=yH6 (fun W (hB:Below w.heap.size w W)=>h.keep hB) hk hf hd (fun W (hB:Below w.heap.size w W)=>hS.keep hB) hR;unfold Deed.v;clear h hk hf hd hS hR;go_enter Tryz.func110,Tryz.ntmps110
 go_upto_region 1 with fail
 generalize ao:World.alloc (World.alloc (World.alloc w _) _) _=W0;obtain⟨ak,aw⟩:=zeN ao;clear ao;have ay:=ak.o.size;obtain⟨⟨xs0,xd0,xr0⟩,⟨s0,s1,s2,s3,s4,s5,s6⟩,⟨d0,d1,d2,d3,d4,d5,d6⟩,⟨r0,r1,r2,r3,r4,r5,r6⟩,rf,ls,ld,lr⟩:=ddF (aw.o W0 (Below.refl _ _));have tq:=zHi (fun x W (hB:Below W0.heap.size W0 W)=>sDead x W (H.o W (ak.o.trans (hB.mono ay))) HF.o);have im:=zHi (fun x W (hB:Below W0.heap.size W0 W)=>sSpouse x W (H.o W (ak.o.trans (hB.mono ay))) HF.o);obtain⟨b,off,hA,hb,kR⟩:=tE.o W0 (HS.o W0 ak.o);have hr:=HR.o;rw[hA]at d4;go_upto_region 2 with fail
 cases bY:zaM s d.frm;rotate_left 1
 ·have HE:Hid (R=(s,28)):=Mec;clear hr;go_upto_region 3 with(go_at_call 111;go_must(refine(tq.o _ _ (Below.refl _ _)).mono ?_);rintro e wq ⟨rfl,z,rfl⟩;rw[bY])
  have be:=zap W0 z;exact MbR
 cases dV:zaM s tn;rotate_left 1
 ·have HE:Hid (R=(s,28)):=by show _=_;rw[hr,bY,dV];rfl
  clear hr;go_upto_region 3 with(go_at_call 111;go_must(refine(tq.o _ _ Bw).mono ?_);rintro e wq ⟨rfl,zz,rfl⟩;first|(rw[bY];obtain⟨z,rfl⟩:∃z,z=zz:=⟨_,rfl⟩)|(rw[dV];obtain⟨z2,rfl⟩:∃z,z=zz:=⟨_,rfl⟩))
  obtain⟨W1,aI⟩:∃W1,W1=(W0.ext z).ext z2:=⟨_,rfl⟩
  have aU:Below W0.heap.size W0 W1:=by rw[aI];exact zbm (zap _ _) _
  rw[<-aI];clear aI;have be:=aU;exact MbR
 go_upto_region 4 with(go_at_call 111;go_must(refine(tq.o _ _ Bw).mono ?_);rintro e wq ⟨rfl,zz,rfl⟩;first|(rw[bY];obtain⟨z,rfl⟩:∃z,z=zz:=⟨_,rfl⟩)|(rw[dV];obtain⟨z2,rfl⟩:∃z,z=zz:=⟨_,rfl⟩))
 rw[bY,dV,Bool.or_false,if_neg Mcp]at hr;obtain⟨W1,aI⟩:∃W1,W1=(W0.ext z).ext z2:=⟨_,rfl⟩
 have aU:Below W0.heap.size W0 W1:=by rw[aI];exact zbm (zap _ _) _
 have gw:=aU.size;rw[<-aI];have aB:=zHi aU;clear aI aU;clear xs0 xd0 xr0 s0 s1 s2 s3 s4 s5 s6 d0 d1 d2 d3 d4 d5 d6 r0 r1 r2 r3 r4 r5 r6 rf ls ld lr;obtain⟨⟨xs0,xd0,xr0⟩,⟨s0,s1,s2,s3,s4,s5,s6⟩,⟨d0,d1,d2,d3,d4,d5,d6⟩,⟨r0,r1,r2,r3,r4,r5,r6⟩,rf,ls,ld,lr⟩:=ddF (aw.o W1 (aB.o));cases cA:noB (zaK s d.frm)
 ·have HE:Hid (R=(s,13)):=by show _=_;rw[hr,cA];rfl
  have w1:¬(zaK s d.frm).toList=[]:=by simpa using(show(zaK s d.frm).toList.isEmpty=false from cA)
  have y1:(zaK s d.frm).toList.isEmpty=false:=cA;clear hr cA;go_upto_region 5 with(go_at_call 152;go_must(refine(im.o _ _ aB.o).mono ?_);rintro e wq ⟨rfl,z3,rfl⟩)
  have be:=zbm aB.o z3;exact MbR
 have w1:(zaK s d.frm).toList=[]:=by simpa using(show(zaK s d.frm).toList.isEmpty=true from cA)
 have y1:(zaK s d.frm).toList.isEmpty=true:=cA;cases dW:noB (zaK s tn)
 ·have HE:Hid (R=(s,13)):=by show _=_;rw[hr,cA,dW];rfl
  have w2:¬(zaK s tn).toList=[]:=by simpa using(show(zaK s tn).toList.isEmpty=false from dW)
  have y2:(zaK s tn).toList.isEmpty=false:=dW;clear hr cA dW;go_upto_region 5 with(go_at_call 152;go_must(refine(im.o _ _ MdA).mono ?_);rintro e wq ⟨rfl,zz,rfl⟩;first|(rw[show zaK s tn=zaK s tn from rfl];obtain⟨z4,rfl⟩:∃z,z=zz:=⟨_,rfl⟩)|(obtain⟨z3,rfl⟩:∃z,z=zz:=⟨_,rfl⟩))
  obtain⟨W2,cE⟩:∃W2,W2=(W1.ext z3).ext z4:=⟨_,rfl⟩
  have bF:Below W0.heap.size W0 W2:=by rw[cE];exact zbm (zbm aB.o _) _
  rw[<-cE];clear cE;have be:=bF;exact MbR
 have w2:(zaK s tn).toList=[]:=by simpa using(show(zaK s tn).toList.isEmpty=true from dW)
 have y2:(zaK s tn).toList.isEmpty=true:=dW;rw[cA,dW,Bool.not_true,Bool.or_false,if_neg Mcp]at hr;have HE:=zHi hr;clear hr cA dW;go_upto_region 6 with(go_at_call 152;go_must(refine(im.o _ _ MdA).mono ?_);rintro e wq ⟨rfl,zz,rfl⟩;first|(rw[show zaK s tn=zaK s tn from rfl];obtain⟨z4,rfl⟩:∃z,z=zz:=⟨_,rfl⟩)|(obtain⟨z3,rfl⟩:∃z,z=zz:=⟨_,rfl⟩))
 obtain⟨WX,kj⟩:∃WX,WX=(W1.ext z3).ext z4:=⟨_,rfl⟩
 have fh:Below W0.heap.size W0 WX:=by rw[kj];exact zbm (zbm aB.o _) _
 rw[<-kj];have bv:=zHi fh;have fu:=fh.size;clear kj fh;clear xs0 xd0 xr0 s0 s1 s2 s3 s4 s5 s6 d0 d1 d2 d3 d4 d5 d6 r0 r1 r2 r3 r4 r5 r6 rf ls ld lr;obtain⟨⟨xs0,xd0,xr0⟩,⟨s0,s1,s2,s3,s4,s5,s6⟩,⟨d0,d1,d2,d3,d4,d5,d6⟩,⟨r0,r1,r2,r3,r4,r5,r6⟩,rf,ls,ld,lr⟩:=ddF (aw.o WX (bv.o));have bp:Hid (s.marriages.length=(s.marriages).length):=zHi rfl;have tH:Hid ((s.marriages).length<=1000):=zHi HF.o.marr;have ca:=zHi (fun W (hB:Below WX.heap.size WX W)=>(H.o W (ak.o.trans ((bv.o.trans (hB.mono fu)).mono ay))).marr);have ax:=zHi (fun(W:World) (h:Below WX.heap.size WX W)=>(show W.cell? ⟨w.heap.size,2,none⟩=some (.slice MA s.marriages.length c2)/\W.cell? ⟨w.heap.size+1,3,none⟩=some (.string d.frm) from⟨(zah h ls).trans s2,(zah h ld).trans d3⟩));go_cut [5]from 34 to 45 (fun v wc=>v=.int .i64 0/\∃V c',wc.heap[w.heap.size]?=some (.cells #[.slice LA laws.length c0,.slice CA s.children.length c1,.slice V (s.marriages.length+1) c',.slice DA s.dead.length c3,.slice WA wd.length c4,.slice RA rd.length c5,.slice GA s.graves.length c6] 41)/\wc.heap[w.heap.size+2]?=some (.cells #[.slice none 0 0,.slice none 0 0,.slice none 0 0,.slice none 0 0,.slice none 0 0,.slice none 0 0,.slice none 0 0] 41)/\Ro wc 122 zaR V (s.marriages++[(d.frm,tn)])/\Below w.heap.size w wc)
 case first=>
  refine zaB 9 (fun bb w'=>bb=true\/(w'.cell? ⟨w.heap.size,2,none⟩=some (.slice MA s.marriages.length c2)/\w'.cell? ⟨w.heap.size+1,3,none⟩=some (.string d.frm))) Mcn (.inr (ax.o _ (zaH (Below.refl _ _)))) ?hrest
  case hrest=>
   intro hHeld;clear xs0 xd0 xr0 s0 s1 s2 s3 s4 s5 s6 d0 d1 d2 d3 d4 d5 d6 r0 r1 r2 r3 r4 r5 r6 rf ls ld lr;refine TkM 1 ?_;refine TkM 2 ?_;refine TkM 4 ?_;refine TkM 5 ?_;refine TkM 6 ?_;refine TkM 7 ?_;refine TwM 0 8 (fun K hK=>?_) fun K hK=>?_
   ·go_simp
    have e0:Below WX.heap.size WX (WX.drew.alloc (.cells #[] 122)):=zac (zaH (Below.refl _ _)) _;have m0:OwnS (WX.drew.alloc (.cells #[] 122)) WX.heap.size 122 2 zaR (.slice (some ⟨WX.heap.size,0,none⟩) 0 0) []:=zdW zbj WX.drew WX.heap.size (Nat.le_refl _);refine NxM hK (fun hHeld=>?_) (.inr (ax.o _ e0));clear hK K;refine TwM 3 8 (fun K hK=>?_) fun K hK=>?_
    ·refine zal (v:=.slice (some ⟨WX.heap.size,0,none⟩) 0 0) (n:=0) (m:=s.marriages.length) rfl _ _ rfl zgv zbj zdA rfl (xs:=[]) (ys:=s.marriages) (m0) rfl rfl bp.o (ca.o _ e0) Mcu McF Mcx ?_;intro v4 w4 h1 h2 h3;rw[List.nil_append]at h1;obtain⟨V4,c4',aZ,_,_⟩:=h1.sl zbj;rw[<-bp.o]at aZ;subst aZ;have aD:Below WX.heap.size WX w4:=Below.grown e0 h2 Mdq (fun j hj=>by simp[za7]at hj;omega);refine NxM hK (fun hHeld=>?_) (.inr (ax.o _ aD));clear hK K;refine OnM 8 false fun K hK=>?_
     go_simp
     have e1:Below WX.heap.size WX (w4.alloc (.cells #[.string d.frm,.string tn] 122)):=zac aD _;have n1:(w4.alloc (.cells #[.string d.frm,.string tn] 122)).heap[w4.heap.size]?=some (.cells #[.string d.frm,.string tn] 122):=zas _ _ _ rfl;have o1:OwnS (w4.alloc (.cells #[.string d.frm,.string tn] 122)) WX.heap.size 122 2 zaR (.slice V4 s.marriages.length c4') s.marriages:=h1.keep (n:=w4.heap.size) (zac (Below.refl _ _) _);refine NxM hK (fun hHeld=>?_) (.inr (ax.o _ e1));clear hK K;have o9:=o1;have n9:=n1;have e9:=e1;exact Mq
    ·go_simp
     have e1:Below WX.heap.size WX ((WX.drew.alloc (.cells #[] 122)).alloc (.cells #[.string d.frm,.string tn] 122)):=zac e0 _;have n1:((WX.drew.alloc (.cells #[] 122)).alloc (.cells #[.string d.frm,.string tn] 122)).heap[WX.heap.size+1]?=some (.cells #[.string d.frm,.string tn] 122):=zas _ _ _ Mcp;have m1:OwnS ((WX.drew.alloc (.cells #[] 122)).alloc (.cells #[.string d.frm,.string tn] 122)) WX.heap.size 122 2 zaR (.slice (some ⟨WX.heap.size,0,none⟩) 0 0) []:=m0.keep (n:=(WX.drew.alloc (.cells #[] 122)).heap.size) (zac (Below.refl _ _) _);refine NxM hK (fun hHeld=>?_) (.inr (ax.o _ e1));clear hK K;refine OnM 3 false fun K hK=>?_
     refine zal (v:=.slice (some ⟨WX.heap.size,0,none⟩) 0 0) (n:=0) (m:=s.marriages.length) rfl _ _ rfl zgv zbj zdA rfl (xs:=[]) (ys:=s.marriages) (m1) rfl rfl bp.o (ca.o _ e1) Mcu McF Mct ?_;intro v4 w4 h1 h2 h3;rw[List.nil_append]at h1;obtain⟨V4,c4',aZ,_,_⟩:=h1.sl zbj;rw[<-bp.o]at aZ;subst aZ;have aD:Below WX.heap.size WX w4:=Below.grown e1 h2 McI (fun j hj=>by simp[za7]at hj;omega);have n2:w4.heap[WX.heap.size+1]?=some (.cells #[.string d.frm,.string tn] 122):=(h2.block _ McD Mdf).trans n1;exact Mb9
   ·go_simp
    have e0:Below WX.heap.size WX (WX.drew.alloc (.cells #[.string d.frm,.string tn] 122)):=zac (zaH (Below.refl _ _)) _;have n0:(WX.drew.alloc (.cells #[.string d.frm,.string tn] 122)).heap[WX.heap.size]?=some (.cells #[.string d.frm,.string tn] 122):=zas _ _ _ rfl;refine NxM hK (fun hHeld=>?_) (.inr (ax.o _ e0));clear hK K;refine OnM 0 false fun K hK=>?_
    go_simp
    have e1:Below WX.heap.size WX ((WX.drew.alloc (.cells #[.string d.frm,.string tn] 122)).alloc (.cells #[] 122)):=zac e0 _;have n1:((WX.drew.alloc (.cells #[.string d.frm,.string tn] 122)).alloc (.cells #[] 122)).heap[WX.heap.size]?=some (.cells #[.string d.frm,.string tn] 122):=zak n0;have m1:OwnS ((WX.drew.alloc (.cells #[.string d.frm,.string tn] 122)).alloc (.cells #[] 122)) WX.heap.size 122 2 zaR (.slice (some ⟨WX.heap.size+1,0,none⟩) 0 0) []:=by
     exact Ma7
    refine NxM hK (fun hHeld=>?_) (.inr (ax.o _ e1));clear hK K;refine OnM 3 false fun K hK=>?_
    refine zal (v:=.slice (some ⟨WX.heap.size+1,0,none⟩) 0 0) (n:=0) (m:=s.marriages.length) rfl _ _ rfl zgv zbj zdA rfl (xs:=[]) (ys:=s.marriages) (m1) rfl rfl bp.o (ca.o _ e1) Mcu McF Mct ?_;intro v4 w4 h1 h2 h3;rw[List.nil_append]at h1;obtain⟨V4,c4',aZ,_,_⟩:=h1.sl zbj;rw[<-bp.o]at aZ;subst aZ;have aD:Below WX.heap.size WX w4:=Below.grown e1 h2 McI (fun j hj=>by simp[za7]at hj;omega);have n2:w4.heap[WX.heap.size]?=some (.cells #[.string d.frm,.string tn] 122):=(h2.block _ McD Mdf).trans n1;exact Mb9
 case rest=>
  obtain⟨rfl,V,c',eG,cn,dX,om⟩:=hcut;clear xs0 xd0 xr0 s0 s1 s2 s3 s4 s5 s6 d0 d1 d2 d3 d4 d5 d6 r0 r1 r2 r3 r4 r5 r6 rf ls ld lr;obtain⟨s0,s1,s2,s3,s4,s5,s6⟩:=zaG eG;obtain⟨r0,r1,r2,r3,r4,r5,r6⟩:=zaG cn;have rf:=frz cn;have ls:=zab eG;have lr:=zab cn;go_wp2_with fail
  rw[HE.o];have df:=zcA (a0:=.slice LA laws.length c0) (a1:=.slice CA s.children.length c1) (a2:=.slice V (s.marriages.length+1) c') (a3:=.slice DA s.dead.length c3) (a4:=.slice WA wd.length c4) (a5:=.slice RA rd.length c5) (a6:=.slice GA s.graves.length c6) om (show w.heap.size<=w.heap.size+2 by omega);refine bodyPost_ret (zbD rfl _ rfl rfl (zc5 cn)) rfl ?_;have h':=H.o _ df;exact⟨_,_,_,_,_,_,_,rfl,rfl,df,fun _=>⟨wd,rd,LA,CA,V,DA,WA,RA,GA,c0,c1,c',c3,c4,c5,c6,rfl,rfl,by rw[List.length_append];rfl,rfl,rfl,rfl,rfl,⟨h'.laws,h'.kids,(zja dX cn Mco).sl zbj,h'.dead,h'.wills,h'.ren,h'.graves,h'.deadc⟩,⟨HK.o.wills,HK.o.shares,HK.o.ren,HK.o.tos⟩⟩⟩
def zjb(l:List (ByteArray×ByteArray))(n:ByteArray):Nat:=(l.filter fun c=>zae c.2 n).length
theorem zpu{l:List (ByteArray×ByteArray)}{n:ByteArray}{k:Nat}(h:k<l.length):zjb (l.take (k+1)) n=zjb (l.take k) n+if zae l[k].2 n then 1 else 0:=by
 unfold zjb;rw[List.take_add_one,List.getElem?_eq_getElem h,List.filter_append,List.length_append];simp only[Option.toList_some,List.filter_cons,List.filter_nil];cases zae l[k].2 n<;>rfl
theorem chCnt_le(l:List (ByteArray×ByteArray))(n:ByteArray):zjb l n<=l.length:=List.length_filter_le _ _
theorem any_desc{s:St}{ys:List ByteArray}{a b:ByteArray}(h:∀y,y∈ys↔Relation.TransGen (fun x y=>y∈zde s.children x) a y):ys.any (zae b)=true↔Desc s a b:=by
 rw[List.any_eq_true];constructor
 ·rintro⟨y,hy,he⟩;rw[za2.1 he];exact(h y).1 hy
 ·intro hd;exact⟨b,(h b).2 hd,za2.2 rfl⟩
theorem zpv(laws:List Law)(s:St)(wd rd:List Deed)(LA CA MA DA WA RA GA:Option Addr)(c0 c1 c2 c3 c4 c5 c6:Nat)(d:Deed)(B:Option Addr)(c:Nat)(w:World)(h:StIn w laws s wd rd LA CA MA DA WA RA GA c0 c1 c2 c3 c4 c5 c6)(hk:StLink s wd rd)(hf:StFew s wd rd)(hd:OkD d)(hS:Sl w 3 RPart.cells B d.to)(bQ:d.kind=6):Calls Tryz.prog 109 #[.agg #[.slice LA laws.length c0,.slice CA s.children.length c1,.slice MA s.marriages.length c2,.slice DA s.dead.length c3,.slice WA wd.length c4,.slice RA rd.length c5,.slice GA s.graves.length c6],d.v B c] w (zeT w laws (zc7 s d)):=by
 obtain⟨R,hR⟩:∃R,R=zc7 s d:=⟨_,rfl⟩
 rw[<-hR];have aN:=(hd.one (.inr (.inl bQ))).1;have tE:=zHi (fun W (hS:Sl W 3 RPart.cells B d.to)=>zn2 aN hS);have nM:(0:Int)<(d.to.length:Int):=Mcm;unfold zc7 at hR;generalize zbg d=tn at*;clear bQ aN;obtain⟨H,HK,HF,HD,HS,HR⟩:=yH6 (fun W (hB:Below w.heap.size w W)=>h.keep hB) hk hf hd (fun W (hB:Below w.heap.size w W)=>hS.keep hB) hR;unfold Deed.v;clear h hk hf hd hS hR;go_enter Tryz.func109,Tryz.ntmps109
 go_upto_region 1 with fail
 generalize ao:World.alloc (World.alloc (World.alloc w _) _) _=W0;obtain⟨ak,aw⟩:=zeN ao;clear ao;have ay:=ak.o.size;obtain⟨⟨xs0,xd0,xr0⟩,⟨s0,s1,s2,s3,s4,s5,s6⟩,⟨d0,d1,d2,d3,d4,d5,d6⟩,⟨r0,r1,r2,r3,r4,r5,r6⟩,rf,ls,ld,lr⟩:=ddF (aw.o W0 (Below.refl _ _));obtain⟨b,off,hA,hb,kR⟩:=tE.o W0 (HS.o W0 ak.o);have hr:=HR.o;have jM:=zHi (sKids d.frm W0 (H.o W0 ak.o) HF.o);have bV:=HF.o.kids;have bk:(zai s d.frm).length<=1000:=by
  unfold zai;rw[List.length_map];exact Nat.le_trans (List.length_filter_le _ _) bV
 generalize zai s d.frm=ks at*;rw[hA]at d4;go_upto_region 2 with fail
 cases bY:ks.any (zae tn);rotate_left 1
 ·have HE:Hid (R=(s,5)):=Mec;clear hr
  go_upto_region 3 with(first
   |(go_at_call 150
     go_must(refine(jM.o).mono ?_)
     rintro e w2 ⟨v2,rfl,o2,b2⟩;obtain⟨KA,kc,rfl,iV,fD⟩:=o2.sl zaD;have ii:=zHi iV
     clear o2 iV)
   |(go_at_call 149;go_must(refine(zdx ks tn KA kc _ Mcm fD ii.o).mono ?_);rintro e wq ⟨rfl,rfl⟩;rw[bY]))
  have be:=b2;exact MbR
 rw[bY,if_neg Mcp]at hr
 go_upto_region 6 with(first
  |(go_at_call 150
    go_must(refine(jM.o).mono ?_)
    rintro e w2 ⟨v2,rfl,o2,b2⟩;obtain⟨KA,kc,rfl,iV,fD⟩:=o2.sl zaD;have ii:=zHi iV;obtain⟨_,_,xr2⟩:=aw.o w2 b2
    clear o2 iV)
  |(go_at_call 149;go_must(refine(zdx ks tn KA kc _ Mcm fD ii.o).mono ?_);rintro e wq ⟨rfl,rfl⟩;rw[bY]))
 have kP:=b2.size;have aA:=zHi b2;clear fD ii b2 bY kR bk xr2;clear xs0 xd0 xr0 s0 s1 s2 s3 s4 s5 s6 d0 d1 d2 d3 d4 d5 d6 r0 r1 r2 r3 r4 r5 r6 rf ls ld lr;obtain⟨⟨xs0,xd0,xr0⟩,⟨s0,s1,s2,s3,s4,s5,s6⟩,⟨d0,d1,d2,d3,d4,d5,d6⟩,⟨r0,r1,r2,r3,r4,r5,r6⟩,rf,ls,ld,lr⟩:=ddF (aw.o w2 (aA.o));have Iu:=zHi (H.o w2 (ak.o.trans (aA.o.mono ay))).kids;go_loopw [7,8] (fun n i wr=>∃k:Nat,k<=s.children.length/\i=.int .i64 k/\n=.int .i64 (zjb (s.children.take k) tn)/\w2=wr) (fun _ i _=>s.children.length-(intOf i).toNat)
 case atStart=>exact⟨0,Nat.zero_le _,rfl,rfl,rfl⟩
 case round=>
  obtain⟨k,hk,rfl,rfl,rfl⟩:=hrel;have wY:=chCnt_le (s.children.take k) tn;rw[List.length_take]at wY;have Da:zjb (s.children.take k) tn<=1000:=Mcm;by_cases aa:k<s.children.length
  ·have bR:=zpu (n:=tn) aa;generalize zjb (s.children.take k) tn=m at*;obtain⟨cb,co,lU,kR,ah⟩:=Iu.o.at aa;have am:=zHi aa;generalize s.children[k]=y at*;obtain⟨y1,y2⟩:=y;simp only at bR;have i1:w2.cell? ⟨cb,co+k*2+1,none⟩=some (.string y2):=ah 1 _ rfl;have au:(k:Int)<(s.children.length:Int):=Mcm;have aP:(0:Int)<=(k:Int):=Mcm;rw[lU]at s1;clear ah aa;cases hs:zae y2 tn
   ·have bo:(y2.toList==tn.toList)=false:=hs;have ed:Hid (zjb (s.children.take (k+1)) tn=m):=by show _=_;rw[bR,hs];rfl
    clear bR hs;go_wp2_with fail
    go_round
    case rel=>exact⟨k+1,am.o,by go_num,by rw[ed.o],by first|exact True.intro|rfl⟩
    case measure=>have:=am.o;simp only[intOf];omega
   ·have bo:(y2.toList==tn.toList)=true:=hs;have ed:Hid (zjb (s.children.take (k+1)) tn=m+1):=by show _=_;rw[bR,hs];rfl
    clear bR hs;go_wp2_with fail
    go_round
    case rel=>exact⟨k+1,am.o,by go_num,by rw[ed.o];go_num,by first|exact True.intro|rfl⟩
    case measure=>have:=am.o;simp only[intOf];omega
  ·have au:¬(k:Int)<(s.children.length:Int):=Mcm;rw[List.take_of_length_le Mcm]at*;have oU:(zbR s tn).length=zjb s.children tn:=List.length_map _;rw[oU]at hr;clear oU wY aa;generalize zjb s.children tn=m at*;by_cases hs:(2:Int)<=(m:Int)
   ·have HE:Hid (R=(s,16)):=by show _=_;rw[hr,if_pos (by simpa using(show 2<=m by omega))]
    clear hr;go_upto_region 11 with fail
    have be:=aA.o;exact Mg
   rw[if_neg (by simpa using(show¬2<=m by omega))]at hr;have bD:=zHi hr;clear hr;go_upto_region 12 with fail
   clear hs Da au;have bT:=zHi (fun(W:World) (h:Below w2.heap.size w2 W)=>(show W.cell? ⟨w.heap.size,0,none⟩=some (.slice LA laws.length c0)/\W.cell? ⟨w.heap.size,1,none⟩=some (.slice CA s.children.length c1)/\W.cell? ⟨w.heap.size,2,none⟩=some (.slice MA s.marriages.length c2)/\W.cell? ⟨w.heap.size,3,none⟩=some (.slice DA s.dead.length c3)/\W.cell? ⟨w.heap.size,4,none⟩=some (.slice WA wd.length c4)/\W.cell? ⟨w.heap.size,5,none⟩=some (.slice RA rd.length c5)/\W.cell? ⟨w.heap.size,6,none⟩=some (.slice GA s.graves.length c6)/\W.cell? ⟨w.heap.size+1,3,none⟩=some (.string d.frm) from⟨(zah h ls).trans s0,(zah h ls).trans s1,(zah h ls).trans s2,(zah h ls).trans s3,(zah h ls).trans s4,(zah h ls).trans s5,(zah h ls).trans s6,(zah h ld).trans d3⟩));clear xs0 xd0 xr0 s0 s1 s2 s3 s4 s5 s6 d0 d1 d2 d3 d4 d5 d6 r0 r1 r2 r3 r4 r5 r6 rf ls ld lr;have cJ:=zHi (fun W (hB:Below w2.heap.size w2 W)=>sDesc tn W (H.o W (ak.o.trans ((aA.o.trans (hB.mono kP)).mono ay))) HF.o);unfold DescR at cJ
   refine zaB 5 (fun bb w'=>bb=true\/(w'.cell? ⟨w.heap.size,0,none⟩=some (.slice LA laws.length c0)/\w'.cell? ⟨w.heap.size,1,none⟩=some (.slice CA s.children.length c1)/\w'.cell? ⟨w.heap.size,2,none⟩=some (.slice MA s.marriages.length c2)/\w'.cell? ⟨w.heap.size,3,none⟩=some (.slice DA s.dead.length c3)/\w'.cell? ⟨w.heap.size,4,none⟩=some (.slice WA wd.length c4)/\w'.cell? ⟨w.heap.size,5,none⟩=some (.slice RA rd.length c5)/\w'.cell? ⟨w.heap.size,6,none⟩=some (.slice GA s.graves.length c6)/\w'.cell? ⟨w.heap.size+1,3,none⟩=some (.string d.frm))) Mcn (.inr (bT.o _ (zaH (Below.refl _ _)))) ?hrest
   case hrest=>
    intro hHeld;refine TkM 0 ?_;refine TkM 1 ?_;refine TkM 3 ?_;refine TkM 4 ?_;refine OnM 2 false fun K hK=>?_
    go_simp
    refine(cJ.o _ (zaH (Below.refl _ _))).mono ?_;rintro e w4 ⟨v4,ys,rfl,o4,bJ,_,pe,b4⟩;obtain⟨YA,yc,rfl,pf,ux⟩:=o4.sl zaD;have aD:Below w2.heap.size w2 w4:=(zaH (Below.refl _ _)).trans b4;obtain⟨rm,AK⟩:=yH2 pf (any_desc (s:=s) (b:=d.frm) bJ);refine NxM hK (fun hHeld=>?_) (.inr (bT.o _ aD));clear hK K;refine OnM 5 true fun K hK=>?_
    go_simp
    refine(zdx ys d.frm YA yc _ Mcm ux rm.o).mono ?_;rintro e wq ⟨rfl,rfl⟩;refine NxM hK fun hHeld=>?_
    clear hK K;refine zaI Mcn ?_ _;clear hHeld o4 bJ pf pe b4 ux cJ bT;have F8:=aD.size;have bv:=zHi (aA.o.trans (aD.mono kP));obtain⟨⟨xs0,xd0,xr0⟩,⟨s0,s1,s2,s3,s4,s5,s6⟩,⟨d0,d1,d2,d3,d4,d5,d6⟩,⟨r0,r1,r2,r3,r4,r5,r6⟩,rf,ls,ld,lr⟩:=ddF (aw.o w4 (bv.o));by_cases ix:Desc s tn d.frm
    ·have HE:Hid (R=(s,25)):=by show _=_;rw[bD.o,if_pos (by simpa using ix)]
     have dV:ys.any (zae d.frm)=true:=AK.o.2 ix;rw[dV];go_upto_region 13 with fail
     have be:=bv.o;exact Mg
    have HE:Hid (R=({s with children:=s.children++[(d.frm,tn)]},0)):=by show _=_;rw[bD.o,if_neg (by simpa using ix)]
    have dV:ys.any (zae d.frm)=false:=by
     rw[Bool.eq_false_iff];exact fun h=>ix (AK.o.1 h)
    rw[dV];clear ix dV AK bD;go_upto_region 14 with fail
    obtain⟨WX,kj⟩:∃WX,WX=w4:=⟨_,rfl⟩
    subst kj;have fu:=bv.o.size;have bp:Hid (s.children.length=(s.children).length):=zHi rfl;have tH:Hid ((s.children).length<=1000):=zHi HF.o.kids;have ca:=zHi (fun W (hB:Below WX.heap.size WX W)=>(H.o W (ak.o.trans ((bv.o.trans (hB.mono fu)).mono ay))).kids);have ax:=zHi (fun(W:World) (h:Below WX.heap.size WX W)=>(show W.cell? ⟨w.heap.size,1,none⟩=some (.slice CA s.children.length c1)/\W.cell? ⟨w.heap.size+1,3,none⟩=some (.string d.frm) from⟨(zah h ls).trans s1,(zah h ld).trans d3⟩));go_cut [5]from 48 to 59 (fun v wc=>v=.int .i64 0/\∃V c',wc.heap[w.heap.size]?=some (.cells #[.slice LA laws.length c0,.slice V (s.children.length+1) c',.slice MA s.marriages.length c2,.slice DA s.dead.length c3,.slice WA wd.length c4,.slice RA rd.length c5,.slice GA s.graves.length c6] 41)/\wc.heap[w.heap.size+2]?=some (.cells #[.slice none 0 0,.slice none 0 0,.slice none 0 0,.slice none 0 0,.slice none 0 0,.slice none 0 0,.slice none 0 0] 41)/\Ro wc 122 zaR V (s.children++[(d.frm,tn)])/\Below w.heap.size w wc)
    case first=>
     refine zaB 9 (fun bb w'=>bb=true\/(w'.cell? ⟨w.heap.size,1,none⟩=some (.slice CA s.children.length c1)/\w'.cell? ⟨w.heap.size+1,3,none⟩=some (.string d.frm))) Mcn (.inr (ax.o _ (zaH (Below.refl _ _)))) ?hrest
     case hrest=>
      intro hHeld;clear xs0 xd0 xr0 s0 s1 s2 s3 s4 s5 s6 d0 d1 d2 d3 d4 d5 d6 r0 r1 r2 r3 r4 r5 r6 rf ls ld lr;refine TkM 1 ?_;refine TkM 2 ?_;refine TkM 4 ?_;refine TkM 5 ?_;refine TkM 6 ?_;refine TkM 7 ?_;refine TwM 0 8 (fun K hK=>?_) fun K hK=>?_
      ·go_simp
       have e0:Below WX.heap.size WX (WX.drew.alloc (.cells #[] 122)):=zac (zaH (Below.refl _ _)) _;have m0:OwnS (WX.drew.alloc (.cells #[] 122)) WX.heap.size 122 2 zaR (.slice (some ⟨WX.heap.size,0,none⟩) 0 0) []:=zdW zbj WX.drew WX.heap.size (Nat.le_refl _);refine NxM hK (fun hHeld=>?_) (.inr (ax.o _ e0));clear hK K;refine TwM 3 8 (fun K hK=>?_) fun K hK=>?_
       ·refine zal (v:=.slice (some ⟨WX.heap.size,0,none⟩) 0 0) (n:=0) (m:=s.children.length) rfl _ _ rfl zgv zbj zdA rfl (xs:=[]) (ys:=s.children) (m0) rfl rfl bp.o (ca.o _ e0) Mcu McF Mcx ?_;intro v4 w4 h1 h2 h3;rw[List.nil_append]at h1;obtain⟨V4,c4',aZ,_,_⟩:=h1.sl zbj;rw[<-bp.o]at aZ;subst aZ;have aD:Below WX.heap.size WX w4:=Below.grown e0 h2 Mdq (fun j hj=>by simp[za7]at hj;omega);refine NxM hK (fun hHeld=>?_) (.inr (ax.o _ aD));clear hK K;refine OnM 8 false fun K hK=>?_
        go_simp
        have e1:Below WX.heap.size WX (w4.alloc (.cells #[.string d.frm,.string tn] 122)):=zac aD _;have n1:(w4.alloc (.cells #[.string d.frm,.string tn] 122)).heap[w4.heap.size]?=some (.cells #[.string d.frm,.string tn] 122):=zas _ _ _ rfl;have o1:OwnS (w4.alloc (.cells #[.string d.frm,.string tn] 122)) WX.heap.size 122 2 zaR (.slice V4 s.children.length c4') s.children:=h1.keep (n:=w4.heap.size) (zac (Below.refl _ _) _);refine NxM hK (fun hHeld=>?_) (.inr (ax.o _ e1));clear hK K;have o9:=o1;have n9:=n1;have e9:=e1;exact Mn
       ·go_simp
        have e1:Below WX.heap.size WX ((WX.drew.alloc (.cells #[] 122)).alloc (.cells #[.string d.frm,.string tn] 122)):=zac e0 _;have n1:((WX.drew.alloc (.cells #[] 122)).alloc (.cells #[.string d.frm,.string tn] 122)).heap[WX.heap.size+1]?=some (.cells #[.string d.frm,.string tn] 122):=zas _ _ _ Mcp;have m1:OwnS ((WX.drew.alloc (.cells #[] 122)).alloc (.cells #[.string d.frm,.string tn] 122)) WX.heap.size 122 2 zaR (.slice (some ⟨WX.heap.size,0,none⟩) 0 0) []:=m0.keep (n:=(WX.drew.alloc (.cells #[] 122)).heap.size) (zac (Below.refl _ _) _);refine NxM hK (fun hHeld=>?_) (.inr (ax.o _ e1));clear hK K;refine OnM 3 false fun K hK=>?_
        refine zal (v:=.slice (some ⟨WX.heap.size,0,none⟩) 0 0) (n:=0) (m:=s.children.length) rfl _ _ rfl zgv zbj zdA rfl (xs:=[]) (ys:=s.children) (m1) rfl rfl bp.o (ca.o _ e1) Mcu McF Mct ?_;intro v4 w4 h1 h2 h3;rw[List.nil_append]at h1;obtain⟨V4,c4',aZ,_,_⟩:=h1.sl zbj;rw[<-bp.o]at aZ;subst aZ;have aD:Below WX.heap.size WX w4:=Below.grown e1 h2 McI (fun j hj=>by simp[za7]at hj;omega);have n2:w4.heap[WX.heap.size+1]?=some (.cells #[.string d.frm,.string tn] 122):=(h2.block _ McD Mdf).trans n1;exact Mb6
      ·go_simp
       have e0:Below WX.heap.size WX (WX.drew.alloc (.cells #[.string d.frm,.string tn] 122)):=zac (zaH (Below.refl _ _)) _;have n0:(WX.drew.alloc (.cells #[.string d.frm,.string tn] 122)).heap[WX.heap.size]?=some (.cells #[.string d.frm,.string tn] 122):=zas _ _ _ rfl;refine NxM hK (fun hHeld=>?_) (.inr (ax.o _ e0));clear hK K;refine OnM 0 false fun K hK=>?_
       go_simp
       have e1:Below WX.heap.size WX ((WX.drew.alloc (.cells #[.string d.frm,.string tn] 122)).alloc (.cells #[] 122)):=zac e0 _;have n1:((WX.drew.alloc (.cells #[.string d.frm,.string tn] 122)).alloc (.cells #[] 122)).heap[WX.heap.size]?=some (.cells #[.string d.frm,.string tn] 122):=zak n0;have m1:OwnS ((WX.drew.alloc (.cells #[.string d.frm,.string tn] 122)).alloc (.cells #[] 122)) WX.heap.size 122 2 zaR (.slice (some ⟨WX.heap.size+1,0,none⟩) 0 0) []:=by
        exact Ma7
       refine NxM hK (fun hHeld=>?_) (.inr (ax.o _ e1));clear hK K;refine OnM 3 false fun K hK=>?_
       refine zal (v:=.slice (some ⟨WX.heap.size+1,0,none⟩) 0 0) (n:=0) (m:=s.children.length) rfl _ _ rfl zgv zbj zdA rfl (xs:=[]) (ys:=s.children) (m1) rfl rfl bp.o (ca.o _ e1) Mcu McF Mct ?_;intro v4 w4 h1 h2 h3;rw[List.nil_append]at h1;obtain⟨V4,c4',aZ,_,_⟩:=h1.sl zbj;rw[<-bp.o]at aZ;subst aZ;have aD:Below WX.heap.size WX w4:=Below.grown e1 h2 McI (fun j hj=>by simp[za7]at hj;omega);have n2:w4.heap[WX.heap.size]?=some (.cells #[.string d.frm,.string tn] 122):=(h2.block _ McD Mdf).trans n1;exact Mb6
    case rest=>
     obtain⟨rfl,V,c',eG,cn,dX,om⟩:=hcut;clear xs0 xd0 xr0 s0 s1 s2 s3 s4 s5 s6 d0 d1 d2 d3 d4 d5 d6 r0 r1 r2 r3 r4 r5 r6 rf ls ld lr;obtain⟨s0,s1,s2,s3,s4,s5,s6⟩:=zaG eG;obtain⟨r0,r1,r2,r3,r4,r5,r6⟩:=zaG cn;have rf:=frz cn;have ls:=zab eG;have lr:=zab cn;go_wp2_with fail
     rw[HE.o];have df:=zcA (a0:=.slice LA laws.length c0) (a1:=.slice V (s.children.length+1) c') (a2:=.slice MA s.marriages.length c2) (a3:=.slice DA s.dead.length c3) (a4:=.slice WA wd.length c4) (a5:=.slice RA rd.length c5) (a6:=.slice GA s.graves.length c6) om (show w.heap.size<=w.heap.size+2 by omega);refine bodyPost_ret (zbD rfl _ rfl rfl (zc5 cn)) rfl ?_;have h':=H.o _ df;exact⟨_,_,_,_,_,_,_,rfl,rfl,df,fun _=>⟨wd,rd,LA,V,MA,DA,WA,RA,GA,c0,c',c2,c3,c4,c5,c6,rfl,by rw[List.length_append];rfl,rfl,rfl,rfl,rfl,rfl,⟨h'.laws,(zja dX cn Mco).sl zbj,h'.marr,h'.dead,h'.wills,h'.ren,h'.graves,h'.deadc⟩,⟨HK.o.wills,HK.o.shares,HK.o.ren,HK.o.tos⟩⟩⟩
