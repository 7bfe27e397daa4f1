import Derived.Test.YtegdimedhfafjaaGreatDoorXS
import Derived.Test.YtegdimedhfafjaaGreatDoorWU
set_option linter.all false
set_option maxRecDepth 100000
set_option maxHeartbeats 4000000
namespace Go.Proofs.YtegdimedhfafjaaGreatDoor
open Go.RowKit Go.Shelf
attribute [local go_sem] World.cell?_alloc_mark zaf za5 zao za8 zav zaw zax zay zaz za0 za1
attribute [local go_sem] zaq zad
structure Told (k:Nat) (s:St):Prop where
 good:∃b,GoodSt s b
 few:FewS k s
 wills:s.wills.length<=k
theorem Told.up{k:Nat}{s:St}(h:Told k s):Told (k+1) s:=⟨h.good,h.few.up,by have:=h.wills;omega⟩
theorem told_go{laws:List Law}{upto:Int}(aY:zaA laws=0):∀ {ds:List Deed} {s told:St} {k:Nat} {last:Int},GoodSt s last->FewS k s->s.wills.length<=k->Told k told->(zaU laws upto ds s told k last).2.2=0->Told (k+ds.length) (zaU laws upto ds s told k last).1
 | [],s,told,k,last,_,_,_,ht,_=>ht
 |d::l,s,told,k,last,hg,hf,hw,ht,h=>by
  rw[zaU]at h⊢;split at h
  ·exact Maj
  ·rename_i hc
   rw[if_neg hc];have hn:=zdF (show(zbT laws s k last d).2=0 by simpa using hc);have hd:=zdN hn.1;have dR:zbp laws s d=((zbT laws s k last d).1,0):=by rw[<-hn.2.2.2];exact Prod.ext rfl Mdx
   have g:=zf3 hg hd hn.2.2.1 aY dR;have f:=zkF hf hn.2.1 hg hd hn.2.2.1 aY dR;have e:=zka dR
   have:=told_go (ds:=l) (told:=if decide (d.day<=upto)then(zbT laws s k last d).1 else told) aY g f Mcm (by
    split
    ·exact⟨⟨_,g⟩,f,by omega⟩
    ·exact ht.up) h
   rw[List.length_cons,show k+(l.length+1)=k+1+l.length by omega];exact this
theorem zop{laws:List Law}(aY:zaA laws=0):∀ {ds:List Deed} {s:St} {k:Nat} {last:Int},GoodSt s last->(zaU laws 200000 ds s s k last).2.2=0->∃b,GoodSt (zaU laws 200000 ds s s k last).1 b/\b=((ds.getLast?.map (·.day)).getD last)
 | [],s,k,last,hg,_=>⟨last,hg,rfl⟩
 |d::l,s,k,last,hg,h=>by
  rw[zaU]at h⊢;split at h
  ·exact Maj
  ·rename_i hc
   rw[if_neg hc];have hn:=zdF (show(zbT laws s k last d).2=0 by simpa using hc);have hd:=zdN hn.1;have dR:zbp laws s d=((zbT laws s k last d).1,0):=by rw[<-hn.2.2.2];exact Prod.ext rfl Mdx
   have Aj:decide (d.day<=200000)=true:=by simpa using hd.day.2
   rw[if_pos Aj]at h⊢;obtain⟨b,g,e⟩:=zop aY (zf3 hg hd hn.2.2.1 aY dR) h;refine⟨b,g,?_⟩;rw[e];cases l with
   |nil=>rfl
   |cons x r=>
    rw[List.getLast?_cons_cons];cases hh:(x::r).getLast? with
    |none=>simp at hh
    |some y=>rfl
theorem zgg{laws:List Law}{ds:List Deed}{u:Int}(h:(zaQ laws ds u).2.2=0):zaA laws=0:=by
 unfold zaQ at h;split at h
 ·rename_i h1
  exact absurd h McP
 ·rename_i h1
  simpa using h1
theorem zn4{laws:List Law}{ds:List Deed}{u:Int}(h:(zaQ laws ds u).2.2=0):Told ds.length (zaQ laws ds u).1:=by
 have aY:=zgg h;unfold zaQ at h⊢;rw[if_neg (by simp[aY])]at h⊢;have:=told_go aY (zdO 0) zfC (Nat.le_refl _) ⟨⟨_,zdO 0⟩,zfC,Nat.le_refl _⟩ h;rwa [Nat.zero_add]at this
theorem zn5{laws:List Law}{ds:List Deed}(h:(zaQ laws ds 200000).2.2=0):GoodSt (zaQ laws ds 200000).1 (zeJ ds):=by
 have aY:=zgg h;unfold zaQ at h⊢;rw[if_neg (by simp[aY])]at h⊢;obtain⟨b,g,e⟩:=zop aY (zdO 0) h;rw[e]at g;exact g
noncomputable def zkc (laws:List Law) (ds:List Deed) (d:Deed):Int:=if za3 d != 0 then za3 d else(zbT laws (zaQ laws ds 200000).1 ds.length (zeJ ds) d).2
theorem zp3(laws:List Law)(ds:List Deed)(d:Deed)(LA:Option Addr)(n nc:Nat)(DA:Option Addr)(m mc:Nat)(B:Option Addr)(c:Nat)(w:World)(hR:RightsIn w laws ds LA n nc DA m mc)(hO:∀x∈ds,zdt x)(bA:ds.length<=500)(hd:zdt d)(ar:d.to.length<=c)(hS:Sl w 3 RPart.cells B d.to)(h0:(zaQ laws ds 200000).2.2=0):
 Calls Tryz.prog 11 #[.agg #[.slice LA n nc,.slice DA m mc],d.v B c] w (Ret w (.int .i64 (zkc laws ds d))):=by
 obtain⟨iP,cJ,dD,HS⟩:=yH4 (fun W (hB:Below w.heap.size w W)=>zjc laws ds 200000 LA n nc DA m mc W (hR.keep hB) hO bA) (fun W (hB:Below w.heap.size w W)=>(hR.deeds.keep zb5 hB:SlW W 7 zdY DA ds)) (fun W (hB:Below w.heap.size w W)=>zfO d B c W hd (hS.keep hB)) (fun W (hB:Below w.heap.size w W)=>(hS.keep hB:Sl W 3 RPart.cells B d.to));obtain⟨rfl,rfl,_,_,_,_⟩:=hR;have yG:=zn4 h0;have dJ:=zn5 h0;have aY:=zgg h0;have DU:(zaQ laws ds 200000).2.2=0:=h0;unfold zkT at iP;obtain⟨R,wx⟩:∃R,R=zkc laws ds d:=⟨_,rfl⟩
 rw[<-wx];unfold zkc at wx;generalize zaQ laws ds 200000=Q at*;obtain⟨st,rk,re⟩:=Q;simp only at yG dJ DU wx iP;have IR:=zHi DU;have nK:=fun(hc:za3 d=0)=>zmt (laws:=laws) (s:=st) (ds:=ds) hc rfl
 have dF:=zHi (fun(hc:za3 d=0) (a0 a1 a2 a3 a4 a5 a6:Value) W (hB:Below w.heap.size w W) (hs:StAt W laws st a0 a1 a2 a3 a4 a5 a6)=>(by
  have:=zkb laws st (zeJ ds) ds.length d B c ds DA mc W hs dJ yG.few yG.wills Mcm aY hc ar (HS.o W hB) (cJ.o W hB) ds.length rfl;rw[nK hc]at this
  exact this:Calls Tryz.prog 28 #[.agg #[a0,a1,a2,a3,a4,a5,a6],.slice DA ds.length mc,d.v B c] W (zeT W laws (zbT laws st ds.length (zeJ ds) d))))
 unfold Deed.v at dF dD;unfold Deed.v zeT at*;have qT:=zHi wx;clear yG dJ aY nK hS hd ar wx h0 hO DU;generalize zbT laws st ds.length (zeJ ds) d=N at*;go_enter Tryz.func11,Tryz.ntmps11
 go_upto_region 1 with fail
 obtain⟨W0,ao⟩:∃W0,W0=(w.alloc (.cells #[.slice LA laws.length nc,.slice DA ds.length mc] 25)).alloc (.cells #[.int .i64 d.kind,.int .i64 d.day,.string d.place,.string d.frm,.slice B d.to.length c,.int .i64 d.cls,.int .i64 d.years] 28):=⟨_,rfl⟩
 have aO:Below w.heap.size w W0:=McW;have g0:W0.heap[w.heap.size]?=some (.cells #[.slice LA laws.length nc,.slice DA ds.length mc] 25):=Mdn;have g1:W0.heap[w.heap.size+1]?=some (.cells #[.int .i64 d.kind,.int .i64 d.day,.string d.place,.string d.frm,.slice B d.to.length c,.int .i64 d.cls,.int .i64 d.years] 28):=by rw[ao];exact zas _ _ _ Mcp
 rw[<-ao];have ak:=zHi aO;have ay:=aO.size;obtain⟨G0,G1⟩:=yH2 g0 g1;obtain⟨x0,x1⟩:=zbl g0;obtain⟨d0,d1,d2,d3,d4,d5,d6⟩:=zaG g1;have lx:=zab g0;have ld:=zab g1;clear ao aO g0 g1;by_cases gC:za3 d=0;rotate_left 1
 ·have kR:(za3 d != 0)=true:=Mer;have HE:Hid (R=za3 d):=by show _=_;rw[qT.o,if_pos kR]
  generalize za3 d=ce at*;clear gC;go_wp2_with (go_at_call 27;go_must(refine(dD.o _ ak.o).mono ?_);rintro e wq ⟨rfl,z,rfl⟩)
  go_ret
  exact Ret.of (zbC HE.o.symm) (ak.o.trans ((zap W0 z).mono ay))
 have HE:Hid (R=N.2):=by show _=_;rw[qT.o,if_neg (by simp[gC])]
 rw[gC]at dD;have I4:=zHi gC;clear gC qT;go_upto_region 4 with(go_at_call 27;go_must(refine(dD.o _ ak.o).mono ?_);rintro e wq ⟨rfl,z,rfl⟩)
 obtain⟨W1,aI⟩:∃W1,W1=W0.ext z:=⟨_,rfl⟩
 have aU:Below W0.heap.size W0 W1:=Mdb;have g0:=(aU.block _ lx).trans G0.o;have g1:=(aU.block _ ld).trans G1.o;obtain⟨aB,G0,G1⟩:=yH3 (ak.o.trans (aU.mono ay)) g0 g1;rw[<-aI];clear aI aU x0 x1 d0 d1 d2 d3 d4 d5 d6 lx ld;obtain⟨x0,x1⟩:=zbl g0;have lx:=zab g0;have ld:=zab g1;have gw:=aB.o.size;clear g0 g1
 go_upto_region 5 with(go_at_call 10
                       go_must(refine(iP.o _ aB.o).mono ?_)
                       rintro e w2 ⟨a0,a1,a2,a3,a4,a5,a6,rfl,aV,bF,aj⟩;obtain⟨⟨A0,m0,q0,rfl⟩,⟨A1,m1,q1,rfl⟩,⟨A2,m2,q2,rfl⟩,⟨A3,m3,q3,rfl⟩,⟨A4,m4,q4,rfl⟩,⟨A5,m5,q5,rfl⟩,⟨A6,m6,q6,rfl⟩⟩:=zc0 aV;have g0:=(bF.block _ lx).trans G0.o;have g1:=(bF.block _ ld).trans G1.o;obtain⟨aA,aH⟩:=yH2 (aB.o.trans (bF.mono gw)) (aj IR.o)
                       clear bF aj aV)
 obtain⟨SB,jn⟩:∃SB,SB=w2.heap.size:=⟨_,rfl⟩
 obtain⟨W3,bm⟩:∃W3,W3=w2.alloc (.cells #[.slice A0 m0 q0,.slice A1 m1 q1,.slice A2 m2 q2,.slice A3 m3 q3,.slice A4 m4 q4,.slice A5 m5 q5,.slice A6 m6 q6] 41):=⟨_,rfl⟩
 have aC:Below w2.heap.size w2 W3:=by rw[bm];exact zac (Below.refl _ _) _
 have g2:W3.heap[SB]?=some (.cells #[.slice A0 m0 q0,.slice A1 m1 q1,.slice A2 m2 q2,.slice A3 m3 q3,.slice A4 m4 q4,.slice A5 m5 q5,.slice A6 m6 q6] 41):=by rw[bm,jn];exact zas _ _ _ rfl
 have g0:=(aC.block _ (zab g0)).trans g0;have g1:=(aC.block _ (zab g1)).trans g1;have aL:=zHi (aA.o.trans (aC.mono aA.o.size));have mT:=aH.o.keep aC;rw[<-bm,<-jn];clear bm jn x0 x1 lx ld aH aC;obtain⟨x0,x1⟩:=zbl g0;obtain⟨d0,d1,d2,d3,d4,d5,d6⟩:=zaG g1;obtain⟨s0,s1,s2,s3,s4,s5,s6⟩:=zaG g2;have lx:=zab g0;have ld:=zab g1;have ls:=zab g2;have HN:=zHi (dF.o I4.o _ _ _ _ _ _ _ W3 aL.o mT);have rp:=aL.o.size;clear g0 g1 g2 mT dF
 go_wp2_with (go_at_call 28
              go_must(refine(HN.o).mono ?_)
              rintro e w5 ⟨b0,b1,b2,b3,b4,b5,b6,rfl,aV,aq,_⟩;obtain⟨⟨_,_,_,rfl⟩,⟨_,_,_,rfl⟩,⟨_,_,_,rfl⟩,⟨_,_,_,rfl⟩,⟨_,_,_,rfl⟩,⟨_,_,_,rfl⟩,⟨_,_,_,rfl⟩⟩:=zc0 aV;have bl:=zHi (aL.o.trans (aq.mono rp))
              clear aq aV)
 go_ret
 exact Ret.of (zbC HE.o.symm) (zac bl.o _ (by have:=bl.o.size;omega))
theorem zjq(xs:List RPart)(P Q:Option Addr)(pc qc:Nat)(w:World)(hp:Sl w 3 RPart.cells P xs)(hq:Sl w 3 RPart.cells Q xs)(hl:xs.length<=100000):
 Calls Tryz.prog 17 #[.slice P xs.length pc,.slice Q xs.length qc] w (Ret w (.bool true)):=by
 exact Mx
section
variable {laws:List Law} {s:St} {k:Nat} {w:World} {a0 a1 a2 a3 a4 a5 a6:Value}
end
theorem zmv(d:Deed)(B:Option Addr)(c:Nat)(B':Option Addr)(c':Nat)(w:World)(hp:Sl w 3 RPart.cells B d.to)(hq:Sl w 3 RPart.cells B' d.to)(hl:d.to.length<=100000):
 Calls Tryz.prog 29 #[d.v B c,d.v B' c'] w (Ret w (.bool true)):=by
 have im:=zHi (fun W (h:Below w.heap.size w W)=>zjq d.to B B' c c' W (hp.keep h) (hq.keep h) hl);unfold Deed.v;clear hp hq hl;go_enter Tryz.func29,Tryz.ntmps29
 go_upto_region 1 with fail
 obtain⟨W1,aI⟩:∃W1,W1=(w.alloc (.cells #[.int .i64 d.kind,.int .i64 d.day,.string d.place,.string d.frm,.slice B d.to.length c,.int .i64 d.cls,.int .i64 d.years] 28)).alloc (.cells #[.int .i64 d.kind,.int .i64 d.day,.string d.place,.string d.frm,.slice B' d.to.length c',.int .i64 d.cls,.int .i64 d.years] 28):=⟨_,rfl⟩
 have b0:W1.heap[w.heap.size]?=some (.cells #[.int .i64 d.kind,.int .i64 d.day,.string d.place,.string d.frm,.slice B d.to.length c,.int .i64 d.cls,.int .i64 d.years] 28):=Mda;have b1:W1.heap[w.heap.size+1]?=some (.cells #[.int .i64 d.kind,.int .i64 d.day,.string d.place,.string d.frm,.slice B' d.to.length c',.int .i64 d.cls,.int .i64 d.years] 28):=by rw[aI];exact zas _ _ _ Mcp
 have bE:Below w.heap.size w W1:=Mdz;rw[<-aI];have aB:=zHi bE;clear aI bE;obtain⟨p0,p1,p2,p3,p4,p5,p6⟩:=zaG b0;obtain⟨q0,q1,q2,q3,q4,q5,q6⟩:=zaG b1;have l0:=zab b0;have l1:=zab b1;clear b0 b1
 go_wp2_with (go_at_call 17
              go_must(refine(im.o _ aB.o).mono ?_)
              rintro e wq ⟨rfl,z,rfl⟩)
 go_ret
 exact Ret.of rfl (zbm aB.o z)
theorem zoq(ls:List Law)(ds:List Deed)(LA:Option Addr)(nc:Nat)(DA:Option Addr)(mc:Nat)(LB:Option Addr)(nd:Nat)(DB:Option Addr)(md:Nat)(w:World)(zV:Sl w 4 Law.cells LA ls)(zI:SlW w 7 zdY DA ds)(lY:Sl w 4 Law.cells LB ls)(zJ:SlW w 7 zdY DB ds)
 (hl:ls.length<=1000)(hd:ds.length<=1000)(ht:∀d∈ds,d.to.length<=100000):
 Calls Tryz.prog 12 #[.agg #[.slice LA ls.length nc,.slice DA ds.length mc],.agg #[.slice LB ls.length nd,.slice DB ds.length md]] w (Ret w (.bool true)):=by
 obtain⟨HT,cr,AW,qL,AX⟩:=yH5 ht zV zI lY zJ;clear ht zV zI lY zJ;go_enter Tryz.func12,Tryz.ntmps12
 go_upto_region 1 with fail
 obtain⟨W1,aI⟩:∃W1,W1=(w.alloc (.cells #[.slice LA ls.length nc,.slice DA ds.length mc] 25)).alloc (.cells #[.slice LB ls.length nd,.slice DB ds.length md] 25):=⟨_,rfl⟩
 have b0:W1.heap[w.heap.size]?=some (.cells #[.slice LA ls.length nc,.slice DA ds.length mc] 25):=Mda;have b1:W1.heap[w.heap.size+1]?=some (.cells #[.slice LB ls.length nd,.slice DB ds.length md] 25):=by rw[aI];exact zas _ _ _ Mcp
 have bE:Below w.heap.size w W1:=Mdz;rw[<-aI];have aB:=zHi bE;clear aI;obtain⟨p0,p1⟩:=zbl b0;obtain⟨q0,q1⟩:=zbl b1;have l0:=zab b0;have l1:=zab b1;have ic:=bE.size;clear b0 b1 bE;have cr:=zHi (cr.o.keep aB.o);have qL:=zHi (qL.o.keep aB.o);have AW:=zHi (AW.o.keep zb5 aB.o);have AX:=zHi (AX.o.keep zb5 aB.o);have HW:=zHi ic;clear ic;go_upto_region 4 with fail
 go_loopw [5] (fun i wr=>∃j:Nat,j<=ls.length/\i=.int .i64 j/\∃z,wr=W1.ext z) (fun i _=>ls.length-(intOf i).toNat)
 case atStart=>exact⟨0,Nat.zero_le _,rfl,zaV (Below.refl _ _)⟩
 case round=>
  obtain⟨j,hj,rfl,z,rfl⟩:=hrel;by_cases aa:j<ls.length
  ·obtain⟨b,off,rfl,hb,hc⟩:=cr.o.at aa;obtain⟨b',off',rfl,cC,aJ⟩:=qL.o.at aa;have br:(j:Int)<(ls.length:Int):=Mcm;have sB:(0:Int)<=(j:Int):=Mcm;generalize ls[j]=x at*;have x0:W1.cell? ⟨b,off+j*4,none⟩=some (.int .i64 x.frm):=hc 0 _ rfl;have y0:W1.cell? ⟨b',off'+j*4,none⟩=some (.int .i64 x.frm):=aJ 0 _ rfl;have x1:W1.cell? ⟨b,off+j*4+1,none⟩=some (.bool x.stems):=hc 1 _ rfl;have y1:W1.cell? ⟨b',off'+j*4+1,none⟩=some (.bool x.stems):=aJ 1 _ rfl;have x2:=hc 2 _ rfl;have y2:=aJ 2 _ rfl;have x3:=hc 3 _ rfl;have y3:=aJ 3 _ rfl;exact MD
  ·have q8:¬((j:Int)<(ls.length:Int)):=Mcm;go_upto_region 9 with fail
   go_loopw [6] (fun i wr=>∃k:Nat,k<=ds.length/\i=.int .i64 k/\∃z,wr=W1.ext z) (fun i _=>ds.length-(intOf i).toNat)
   case atStart=>exact⟨0,Nat.zero_le _,rfl,zaV Bw⟩
   case round=>
    obtain⟨k,hk,rfl,zk,rfl⟩:=hrel;by_cases oM:k<ds.length
    ·obtain⟨b,off,cs,rfl,hb,⟨B1,c1,oC,rfl,nB⟩,hc⟩:=AW.o.at oM;obtain⟨b',off',cs',rfl,cC,⟨B2,c2,cd,rfl,wy⟩,aJ⟩:=AX.o.at oM;have br:(k:Int)<(ds.length:Int):=Mcm;have aP:(0:Int)<=(k:Int):=Mcm;have pB:=zHi (fun W (h:Below W1.heap.size W1 W)=>zmv ds[k] B1 c1 B2 c2 W (nB.keep h) (wy.keep h) (HT.o _ (List.getElem_mem oM)));generalize ds[k]=x at*;unfold Deed.v at pB;have x0:=hc 0 _ rfl;have x1:=hc 1 _ rfl;have x2:=hc 2 _ rfl;have x3:=hc 3 _ rfl;have x4:=hc 4 _ rfl;have x5:=hc 5 _ rfl;have x6:=hc 6 _ rfl;have y0:=aJ 0 _ rfl;have y1:=aJ 1 _ rfl;have y2:=aJ 2 _ rfl;have y3:=aJ 3 _ rfl;have y4:=aJ 4 _ rfl;have y5:=aJ 5 _ rfl;have y6:=aJ 6 _ rfl;simp only[Nat.add_zero]at x0 y0;clear hc aJ nB wy;go_wp2_with fail
     (refine zaj Mcn Mcn ?_
      repeat(first|go_big_quiet_skip|(go_big_quiet_want;go_big_quiet_op;first|go_big_quiet_on|(apply Exists.intro;refine⟨fun _=>?_,?_⟩;(go_at_call 29;exact quietx (pB.o _ Bw));go_big_quiet_on)))
      refine wpQuiet_nil ?_
      rintro _ ⟨zq,rfl⟩)
     go_wp2_with fail
     go_roundw
     case rel=>exact⟨k+1,by omega,by go_num,zaV Bw⟩
     case measure=>simp[intOf];omega
    ·have GH:¬((k:Int)<(ds.length:Int)):=Mcm;go_wp2_with fail
     go_ret
     exact Ret.of rfl MdA
