import Derived.Test.YtcfheecahnnhjaaGreatDoorYS
set_option linter.all false
set_option maxRecDepth 100000
set_option maxHeartbeats 4000000
namespace Go.Proofs.YtcfheecahnnhjaaGreatDoor
open Go.RowKit Go.Shelf
attribute [local go_sem] World.cell?_alloc_mark zag za4 zar zaB zaw zax zay zaz za0 za1 za2
attribute [local go_sem] zas zad
theorem shareV_is(E:Int)(q:Rat):∃x y:Int,zjb E q=.agg #[.int .i64 x,.int .i64 y]/\(E≠0->x=0/\y=0)/\(E=0->x=q.num/\y=q.den):=by
 unfold zjb;by_cases h:E=0
 ·rw[if_pos h];exact⟨_,_,rfl,fun h1=>absurd h h1,fun _=>⟨rfl,rfl⟩⟩
 ·rw[if_neg h];exact⟨0,0,rfl,fun _=>⟨rfl,rfl⟩,fun h1=>absurd h1 h⟩
theorem zjl(ls:List Law)(ds:List Deed)(LA:Option Addr)(n nc:Nat)(DA:Option Addr)(m mc:Nat)(nm pl:ByteArray)(dy:Int)(w:World)(hL:Laid5 w)(hR:RightsIn w ls ds LA n nc DA m mc):
 Calls Tryz.prog 3 #[.agg #[.slice LA n nc,.slice DA m mc],.string nm,.agg #[.string pl,.int .i64 dy]] w (Ret w (.bool true)):=by
 obtain⟨HL,HR,qA⟩:=yH3 hL hR (fun W (h:Below w.heap.size w W)=>few_any ls ds LA n nc DA m mc W (hR.keep h));clear hL hR;go_enter Tryz.func3,Tryz.ntmps3
 go_upto_region 1 with fail
 obtain⟨W0,ak⟩:∃W0,W0=(w.alloc (.cells #[.slice LA n nc,.slice DA m mc] 25)).alloc (.cells #[.string pl,.int .i64 dy] 27):=⟨_,rfl⟩
 have b0:W0.heap[w.heap.size]?=some (.cells #[.slice LA n nc,.slice DA m mc] 25):=Mdr;have b1:W0.heap[w.heap.size+1]?=some (.cells #[.string pl,.int .i64 dy] 27):=by rw[ak];exact zaq _ _ _ Mcx
 have aE:Below w.heap.size w W0:=Mc5;rw[<-ak];have aj:=zHi aE;clear ak aE;go_upto_region 3 with(go_at_call 4;go_must(refine(zpm _ (HL.o.keep aj.o)).mono ?_);rintro e wq ⟨rfl,z0,rfl⟩)
 have c0:(W0.ext z0).heap[w.heap.size]?=some (.cells #[.slice LA n nc,.slice DA m mc] 25):=zb5 b0;have c1:(W0.ext z0).heap[w.heap.size+1]?=some (.cells #[.string pl,.int .i64 dy] 27):=zb5 b1;have cA:Below w.heap.size w (W0.ext z0):=zbg aj.o z0;generalize W0.ext z0=W1 at*;have aC:=zHi cA;clear b0 b1 aj cA;obtain⟨r0,r1⟩:=zby c0;obtain⟨x0,x1⟩:=zby c1;have l0:=zab c0;have l1:=zab c1;clear c0 c1;cases sr:fewP ls ds
 ·rw[sr]at qA;clear sr;exact M8
 have dQ:=few_lens sr;rw[sr]at qA;clear sr;by_cases oR:20<nm.size
 ·have iB:(20:Int)<(nm.size:Int):=Mcu;clear dQ;exact M8
 have cx:¬(20:Int)<(nm.size:Int):=Mcu;by_cases fK:20<pl.size
 ·have iB:(20:Int)<(pl.size:Int):=Mcu;clear dQ;exact M8
 have iB:¬(20:Int)<(pl.size:Int):=Mcu;obtain⟨bv,DC,D9,ze⟩:=dQ;obtain⟨jA,dh,tI,nj,pf,fB,dO,zO⟩:=yH8 (fun W (h:Below w.heap.size w W)=>zoM ls ds LA n nc DA m mc W (HR.o.keep h) Mcu Mcu (fun d hd=>by have:=ze d hd;omega)) (fun A1 n1 B1 n2 W (h:Below w.heap.size w W) (hr:RightsIn W ls ds A1 ls.length n1 B1 ds.length n2)=>zps ls ds pl nm dy A1 ls.length n1 B1 ds.length n2 W hr (HL.o.keep h).forms (HL.o.keep h).lens bv Mcu Mcu) (fun A1 n1 B1 n2 W (h:Below w.heap.size w W) (hr:RightsIn W ls ds A1 ls.length n1 B1 ds.length n2)=>held5_any ls ds nm dy A1 ls.length n1 B1 ds.length n2 W hr (HL.o.keep h).forms (HL.o.keep h).lens bv Mcu) (fun W (h:Below w.heap.size w W) NA (hS:Sl W 1 sC NA [nm])=>zkh ls ds [nm] dy LA n nc DA m mc NA 1 1 W (HR.o.keep h) bv Mcu rfl Mcx Mcz hS) (fun W (h:Below w.heap.size w W) NA (hS:Sl W 1 sC NA [pl,nm])=>zkh ls ds [pl,nm] dy LA n nc DA m mc NA 2 2 W (HR.o.keep h) bv Mcu rfl Mcx (by intro x hx;simp at hx;rcases hx with rfl|rfl<;>omega) hS) (fun W (h:Below w.heap.size w W)=>rOn_any ls ds dy LA n nc DA m mc W (HR.o.keep h) bv Mcu) (fun(h:zcs ls ds [nm] dy=0)=>And.intro (on_told h) (good_on h)) (fun(h:zcs ls ds [pl,nm] dy=0)=>on_told h);have ip:ds.length<=1000:=Mcu;unfold zn4 at fB;unfold HeldApi at tI;clear bv DC D9 ze fK oR HR HL;generalize zcs ls ds [nm] dy=E1 at*;generalize zcs ls ds [pl,nm] dy=E2 at*;generalize zaQ ls ds dy=Q at*
 obtain⟨q,hq⟩:∃q,q=zaf (zb3 Q.1 pl dy) nm:=⟨_,rfl⟩
 rw[<-hq]at dh;obtain⟨sx,sy,kC,au,dm⟩:=shareV_is E2 q;rw[kC]at dh;obtain⟨IT,fh,pB⟩:=yH3 hq au dm;clear hq kC au dm;go_upto_region 5 with(go_at_call 5;go_must(refine(qA.o _ Mem).mono ?_);rintro e wq ⟨rfl,z,rfl⟩)
 have bE:Below w.heap.size w (W1.ext z):=zbg aC.o z;have y0:(W1.ext z).cell? ⟨w.heap.size,0,none⟩=some (.slice LA n nc):=(za4 _ _ _ _ l0).trans r0;have y1:(W1.ext z).cell? ⟨w.heap.size,1,none⟩=some (.slice DA m mc):=(za4 _ _ _ _ l0).trans r1;have y2:(W1.ext z).cell? ⟨w.heap.size+1,0,none⟩=some (.string pl):=(za4 _ _ _ _ l1).trans x0;have y3:(W1.ext z).cell? ⟨w.heap.size+1,1,none⟩=some (.int .i64 dy):=(za4 _ _ _ _ l1).trans x1;have aY:W1.heap.size<=(W1.ext z).heap.size:=Mdk;have m0:w.heap.size<(W1.ext z).heap.size:=Mcu;have m1:w.heap.size+1<(W1.ext z).heap.size:=Mcu;clear l0 l1 r0 r1 x0 x1 qA aC aY;generalize W1.ext z=W2 at*;have aD:=zHi bE;have aY:=bE.size;clear bE;have aA:=zHi (fun(w':World) (h:Below W2.heap.size W2 w')=>(show w'.cell? ⟨w.heap.size,0,none⟩=some (.slice LA n nc)/\w'.cell? ⟨w.heap.size,1,none⟩=some (.slice DA m mc)/\w'.cell? ⟨w.heap.size+1,0,none⟩=some (.string pl)/\w'.cell? ⟨w.heap.size+1,1,none⟩=some (.int .i64 dy) from⟨(zah h m0).trans y0,(zah h m0).trans y1,(zah h m1).trans y2,(zah h m1).trans y3⟩));clear y0 y1 y2 y3;go_cut [7,8]from 29 to 115 (fun v7 v8 W=>∃B,v7=.pointer (some ⟨B,0,none⟩)/\v8=.int .i64 E2/\W.heap[B]?=some (.cells #[.int .i64 sx,.int .i64 sy] 31)/\Below W2.heap.size W2 W)
 case first=>
  refine za7 7 (fun bb w'=>bb=true\/(w'.cell? ⟨w.heap.size,0,none⟩=some (.slice LA n nc)/\w'.cell? ⟨w.heap.size,1,none⟩=some (.slice DA m mc)/\w'.cell? ⟨w.heap.size+1,0,none⟩=some (.string pl)/\w'.cell? ⟨w.heap.size+1,1,none⟩=some (.int .i64 dy))) Mcv (.inr (aA.o _ (zaE (Below.refl _ _)))) ?hrest
  case hrest=>
   intro hHeld;refine TkM 0 ?_;refine TkM 2 ?_;refine TkM 3 ?_;refine TkM 4 ?_;refine TkM 5 ?_;refine TkM 6 ?_;refine TwM 1 11 (fun K hK=>?_) fun K hK=>?_
   ·go_simp
    refine(jA.o _ (zaE aD.o)).mono ?_;rintro e w5 ⟨A1,n1,B1,n2,rfl,kw,aq⟩;have aX:Below W2.heap.size W2 w5:=(zaE (Below.refl _ _):Below W2.heap.size W2 _).trans (aq.mono Mcx);refine NxM hK (fun hHeld=>?_) (.inr (aA.o _ aX));clear hK K;refine zfn (rs:=[7,11]) Mcv Mcx (AllReadyM.cons (List.getElem?_toArray.trans rfl) true Mcv (fun K hK=>?_) (AllReadyM.cons (List.getElem?_toArray.trans rfl) false Mcv (fun K hK=>?_) AllReadyM.nil))
    ·go_simp
     refine(dh.o A1 n1 B1 n2 _ (aD.o.trans (aX.mono aY)) (kw)).mono ?_;rintro e w6 ⟨rfl,z6,rfl⟩;refine NxM hK fun hHeld=>?_
     clear hK K;refine FrM 8 true ?_;refine FrM 9 true ?_;refine FrM 10 true ?_;refine OnM 11 true fun K hK=>?_
     go_simp
     refine NxM hK fun hHeld=>?_
     clear hK K;have me:((w5.ext z6).alloc (.cells #[.int .i64 0,.int .i64 0] 31)).heap[w5.heap.size+z6.os.size]?=some (.cells #[.int .i64 0,.int .i64 0] 31):=zaq _ _ _ Mdk;have rq:Below W2.heap.size W2 ((w5.ext z6).alloc (.cells #[.int .i64 0,.int .i64 0] 31)):=zac (zbg aX _) _;have oC:W2.heap.size<=w5.heap.size+z6.os.size:=by have:=aX.size;omega
     exact MC
    ·go_simp
     have aS:Below W2.heap.size W2 (w5.alloc (.cells #[.int .i64 0,.int .i64 0] 31)):=zac aX _;refine NxM hK (fun hHeld=>?_) (.inr (aA.o _ aS));clear hK K;refine OnM 7 true fun K hK=>?_
     go_simp
     refine(dh.o A1 n1 B1 n2 _ (aD.o.trans (aS.mono aY)) (kw.keep (zac (Below.refl _ _) _))).mono ?_;rintro e w6 ⟨rfl,z6,rfl⟩;refine NxM hK fun hHeld=>?_
     clear hK K;refine FrM 8 true ?_;refine FrM 9 true ?_;refine FrM 10 true ?_;have me:((w5.alloc (.cells #[.int .i64 0,.int .i64 0] 31)).ext z6).heap[w5.heap.size]?=some (.cells #[.int .i64 0,.int .i64 0] 31):=zb5 (zaq _ _ _ rfl);have rq:Below W2.heap.size W2 ((w5.alloc (.cells #[.int .i64 0,.int .i64 0] 31)).ext z6):=zbg aS _;have oC:W2.heap.size<=w5.heap.size:=aX.size;exact MC
   ·go_simp
    have aB:Below W2.heap.size W2 (W2.drew.alloc (.cells #[.int .i64 0,.int .i64 0] 31)):=zac (zaE (Below.refl _ _)) _;refine NxM hK (fun hHeld=>?_) (.inr (aA.o _ aB));clear hK K;refine OnM 1 false fun K hK=>?_
    go_simp
    refine(jA.o _ (aD.o.trans (aB.mono aY))).mono ?_;rintro e w5 ⟨A1,n1,B1,n2,rfl,kw,aq⟩;have aX:Below W2.heap.size W2 w5:=(aB:Below W2.heap.size W2 _).trans (aq.mono Mcx);refine NxM hK (fun hHeld=>?_) (.inr (aA.o _ aX));clear hK K;refine OnM 7 true fun K hK=>?_
    go_simp
    refine(dh.o A1 n1 B1 n2 _ (aD.o.trans (aX.mono aY)) (kw)).mono ?_;rintro e w6 ⟨rfl,z6,rfl⟩;refine NxM hK fun hHeld=>?_
    clear hK K;refine FrM 8 true ?_;refine FrM 9 true ?_;refine FrM 10 true ?_;have me:(w5.ext z6).heap[W2.heap.size]?=some (.cells #[.int .i64 0,.int .i64 0] 31):=zb5 ((aq.block _ Mcx).trans (zaq _ _ _ Mcx));have rq:Below W2.heap.size W2 (w5.ext z6):=zbg aX _;have oC:W2.heap.size<=W2.heap.size:=Nat.le_refl _;exact MC
 case rest=>
  obtain⟨BB,rfl,rfl,jG,cV⟩:=hcut;have g8:=cV.size;obtain⟨W3,be⟩:∃W3,W3=wc:=⟨_,rfl⟩
  subst be;obtain⟨oe,uL,aH⟩:=yH3 (fun(w':World) (h:Below W3.heap.size W3 w')=>aA.o w' (cV.trans (h.mono g8))) (fun(w':World) (h:Below W3.heap.size W3 w')=>(h.block _ (zab jG)).trans jG) (aD.o.trans (cV.mono aY));have zi:=aH.o.size;clear aA dh jG cV g8 aD aY m0 m1;go_upto_region 6 with fail
  go_cut [9,10]from 40 to 115 (fun v9 v10 W=>Below W3.heap.size W3 W/\v10=.int .i64 E1/\((E1≠0/\v9=.slice none 0 0)\/(E1=0/\∃A c ys,v9=.slice A ys.length c/\Sl W 1 sC A ys/\ys.Perm (zbz nm dy Q.1.graves)/\ys.Pairwise fun a b=>zbb b a=false)))
  case first=>
   refine za7 5 (fun bb w'=>bb=true\/(w'.cell? ⟨w.heap.size,0,none⟩=some (.slice LA n nc)/\w'.cell? ⟨w.heap.size,1,none⟩=some (.slice DA m mc)/\w'.cell? ⟨w.heap.size+1,0,none⟩=some (.string pl)/\w'.cell? ⟨w.heap.size+1,1,none⟩=some (.int .i64 dy))) Mcv (.inr (oe.o _ (zaE (Below.refl _ _)))) ?hrest
   case hrest=>
    intro hHeld;refine TkM 0 ?_;refine TkM 2 ?_;refine TkM 3 ?_;refine TkM 4 ?_;refine OnM 1 false fun K hK=>?_
    go_simp
    refine(jA.o _ (zaE aH.o)).mono ?_;rintro e w5 ⟨A1,n1,B1,n2,rfl,kw,aq⟩;have aX:Below W3.heap.size W3 w5:=(zaE (Below.refl _ _):Below W3.heap.size W3 W3.drew).trans aq;refine NxM hK (fun hHeld=>?_) (.inr (oe.o _ aX));clear hK K;refine OnM 5 true fun K hK=>?_
    go_simp
    refine(tI.o A1 n1 B1 n2 _ (aH.o.trans (aX.mono zi)) kw).mono ?_;rintro e w6 ⟨aS,bh⟩;have xa:Below W3.heap.size W3 w6:=aX.trans (aS.mono aX.size);have bW:=zHi xa;clear kw aq aX aS xa;rcases bh with⟨hE,rfl⟩|⟨hE,A6,c6,ys,rfl,wb,tS,fQ⟩
    ·refine NxM hK fun hHeld=>?_
     clear hK K;refine FrM 6 true ?_;refine FrM 7 true ?_;refine FrM 8 true ?_;refine OnM 9 true fun K hK=>?_
     go_simp
     refine NxM hK fun hHeld=>?_
     clear hK K;refine OnM 10 true fun K hK=>?_
     go_simp
     refine NxM hK fun hHeld=>?_
     clear hK K;refine zaG Mcv ?_ _;clear hHeld;go_wp2_with fail
     go_meet
     exact⟨bW.o,rfl,.inl ⟨hE,rfl⟩⟩
    ·obtain⟨AN,Hq,Hr,pi⟩:=yH4 wb tS fQ hE;clear wb tS fQ hE;refine NxM hK fun hHeld=>?_
     clear hK K;refine FrM 6 true ?_;refine FrM 7 true ?_;refine FrM 8 true ?_;refine OnM 9 true fun K hK=>?_
     go_simp
     refine NxM hK fun hHeld=>?_
     clear hK K;refine OnM 10 true fun K hK=>?_
     go_simp
     refine NxM hK fun hHeld=>?_
     clear hK K;refine zaG Mcv ?_ _;clear hHeld;go_wp2_with fail
     go_meet
     exact⟨bW.o,by rw[pi.o],.inr ⟨pi.o,A6,c6,ys,rfl,AN.o,Hq.o,Hr.o⟩⟩
  case rest=>
   obtain⟨ka,rfl,yJ⟩:=hcut;have sV:=ka.size;obtain⟨W4,gF⟩:∃W4,W4=wc:=⟨_,rfl⟩
   subst gF;obtain⟨qT,uM,cm⟩:=yH3 (fun(w':World) (h:Below W4.heap.size W4 w')=>oe.o w' (ka.trans (h.mono sV))) (fun(w':World) (h:Below W4.heap.size W4 w')=>uL.o w' (ka.trans (h.mono sV))) (aH.o.trans (ka.mono zi));have zj:=cm.o.size;have vM:=zHi yJ;clear oe uL ka sV aH zi tI jA yJ;obtain⟨y0,y1,y2,y3⟩:=qT.o W4 (Below.refl _ _);have m1:=Nat.lt_of_lt_of_le (zdk y2) (Nat.le_refl _);have m0:=Nat.lt_of_lt_of_le (zdk y0) (Nat.le_refl _);go_upto_region 8 with(go_at_call 9;go_must(refine(nj.o _ (by have:=cm.o;exact Bw) _ (zcC (zaq _ _ _ Mcx))).mono ?_);rintro e wq ⟨rfl,z,rfl⟩)
   obtain⟨W5,CI⟩:∃W5,W5=((W4.alloc (.cells #[.string nm] 9)).ext z):=⟨_,rfl⟩
   have fk:Below W4.heap.size W4 W5:=by rw[CI];exact zbg (zac (Below.refl _ _) _) z
   rw[<-CI];obtain⟨lW,uN,bo⟩:=yH3 (fun(w':World) (h:Below W5.heap.size W5 w')=>qT.o w' (fk.trans (h.mono fk.size))) (fun(w':World) (h:Below W5.heap.size W5 w')=>uM.o w' (fk.trans (h.mono fk.size))) (cm.o.trans (fk.mono zj));have zk:=bo.o.size;have qk:=zHi fk;clear CI fk y0 y1 y2 y3 m0 m1 qT uM cm zj nj;go_upto_if 56 with fail
   go_cut [6]from 55 to 115 (fun v6 W=>v6=.bool false/\Below W5.heap.size W5 W)
   case first=>
    rcases vM.o with⟨hE,rfl⟩|⟨hE,A6,c6,ys,rfl,wb,tS,fQ⟩
    ·have Cd:(E1 != 0)=true:=by simpa using hE
     go_wp2_with fail
     go_meet
     exact⟨rfl,Below.refl _ _⟩
    ·obtain⟨⟨dL,hT⟩,last,hlast,jK⟩:=dO.o hE;have hsame:=zp9 jK hlast tS fQ;have tp:ys.length<=100000:=by
      rw[tS.length_eq];unfold zbz;rw[List.length_map];have h1:=List.length_filter_le (zcf nm dy) Q.1.graves;have h2:=hT.few.graves;omega
     have kU:=zHi tp;subst hE;obtain⟨oo,HT,vH,AN⟩:=yH4 hsame hT dL wb;clear wb tS fQ hsame hT dL jK;go_upto_region 11 with fail
     refine za7 12 (fun bb w'=>bb=true\/(w'.cell? ⟨w.heap.size,0,none⟩=some (.slice LA n nc)/\w'.cell? ⟨w.heap.size,1,none⟩=some (.slice DA m mc)/\w'.cell? ⟨w.heap.size+1,0,none⟩=some (.string pl)/\w'.cell? ⟨w.heap.size+1,1,none⟩=some (.int .i64 dy))) Mcv (.inr (lW.o _ (zaE (Below.refl _ _)))) ?hrest
     case hrest=>
      intro hHeld;refine TkM 0 ?_;refine TkM 1 ?_;refine TkM 2 ?_;refine TkM 3 ?_;refine TkM 4 ?_;refine TkM 5 ?_;refine TkM 6 ?_;refine TkM 8 ?_;refine TkM 9 ?_;refine TkM 10 ?_;refine OnM 7 false fun K hK=>?_
      go_simp
      refine(fB.o _ (zaE bo.o)).mono ?_;rintro e w9 ⟨a0,a1,a2,a3,a4,a5,a6,rfl,aQ,bD,ao⟩;obtain⟨⟨A0,m0,q0,rfl⟩,⟨A1,m1,q1,rfl⟩,⟨A2,m2,q2,rfl⟩,⟨A3,m3,q3,rfl⟩,⟨A4,m4,q4,rfl⟩,⟨A5,m5,q5,rfl⟩,⟨A7,m6,q6,rfl⟩⟩:=zct aQ;have gH:Below W5.heap.size W5 w9:=(zaE (Below.refl _ _):Below W5.heap.size W5 W5.drew).trans bD;refine NxM hK (fun hHeld=>?_) (.inr (lW.o _ gH));clear hK K;refine OnM 11 false fun K hK=>?_
      go_simp
      refine(tHeld (ao vH.o) HT.o ip nm dy).mono ?_;rintro e w11 ⟨v,rfl,aa,rS⟩;rw[<-oo.o]at aa;obtain⟨AI,ci,rfl,DX,_⟩:=aa.sl za9;have fV:Below W5.heap.size W5 w11:=gH.trans (rS.mono gH.size);refine NxM hK (fun hHeld=>?_) (.inr (lW.o _ fV));clear hK K;refine OnM 12 true fun K hK=>?_
      go_simp
      refine(texts_any ys A6 AI c6 ci _ (AN.o.keep (qk.o.trans (fV.mono qk.o.size))) DX kU.o).mono ?_;rintro e wz ⟨rfl,z3,rfl⟩;refine NxM hK fun hHeld=>?_
      clear hK K;refine FrM 13 true ?_;refine FrM 14 true ?_;refine zaG Mcv ?_ _;clear hHeld;go_wp2_with fail
      go_meet
      exact⟨rfl,zbg fV z3⟩
   case rest=>
    obtain⟨rfl,ij⟩:=hcut;have iD:=ij.size;obtain⟨W6,fC⟩:∃W6,W6=wc:=⟨_,rfl⟩
    subst fC;obtain⟨qU,uO,bW⟩:=yH3 (fun(w':World) (h:Below W6.heap.size W6 w')=>lW.o w' (ij.trans (h.mono iD))) (fun(w':World) (h:Below W6.heap.size W6 w')=>uN.o w' (ij.trans (h.mono iD))) (bo.o.trans (ij.mono zk));have tg:=bW.o.size;clear lW uN ij iD bo zk vM dO qk;obtain⟨y0,y1,y2,y3⟩:=qU.o W6 (Below.refl _ _);have m1:=zdk y2;have m0:=zdk y0;go_upto_region 14 with(go_at_call 9;go_must(refine(pf.o _ (by have:=bW.o;exact Bw) _ (sl_two (zaq _ _ _ Mcx))).mono ?_);rintro e wq ⟨rfl,z,rfl⟩)
    obtain⟨W7,CJ⟩:∃W7,W7=((W6.alloc (.cells #[.string pl,.string nm] 9)).ext z):=⟨_,rfl⟩
    have ou:Below W6.heap.size W6 W7:=by rw[CJ];exact zbg (zac (Below.refl _ _) _) z
    rw[<-CJ];have vR:=zHi (fun(w':World) (h:Below W7.heap.size W7 w')=>And.intro (qU.o w' (ou.trans (h.mono ou.size))) (zby (uO.o w' (ou.trans (h.mono ou.size)))));have bS:=zHi (bW.o.trans (ou.mono tg));have Ly:=bS.o.size;clear CJ ou y0 y1 y2 y3 m0 m1 qU uO bW tg pf;by_cases hE2:E2=0;rotate_left 1
    ·obtain⟨rfl,rfl⟩:=fh.o hE2;have Cd:(E2 != 0)=true:=by simpa using hE2
     obtain⟨⟨y0,y1,y2,y3⟩,g0,g1⟩:=vR.o W7 (Below.refl _ _);have m2:=zdk g0;clear y0 y1 y2 y3;go_wp2_with fail
     go_ret
     exact Ret.of rfl bS.o
    obtain⟨hx,hy⟩:=pB.o hE2;obtain⟨dL,hT⟩:=zO.o hE2;subst hE2;obtain⟨HT,vH,Jd⟩:=yH3 hT dL (And.intro hx hy);clear hT dL zO fh pB hx hy;go_upto_region 16 with fail
    refine za7 15 (fun bb w'=>bb=true\/((w'.cell? ⟨w.heap.size,0,none⟩=some (.slice LA n nc)/\w'.cell? ⟨w.heap.size,1,none⟩=some (.slice DA m mc)/\w'.cell? ⟨w.heap.size+1,0,none⟩=some (.string pl)/\w'.cell? ⟨w.heap.size+1,1,none⟩=some (.int .i64 dy))/\w'.cell? ⟨BB,0,none⟩=some (.int .i64 sx)/\w'.cell? ⟨BB,1,none⟩=some (.int .i64 sy))) Mcv (.inr (vR.o _ (zaE (Below.refl _ _)))) ?hrest
    case hrest=>
     intro hHeld;refine TkM 0 ?_;refine TkM 1 ?_;refine TkM 2 ?_;refine TkM 3 ?_;refine TkM 4 ?_;refine TkM 5 ?_;refine TkM 6 ?_;refine TkM 8 ?_;refine TkM 9 ?_;refine TkM 10 ?_;refine TkM 11 ?_;refine TkM 13 ?_;refine OnM 7 false fun K hK=>?_
     go_simp
     refine(fB.o _ (zaE bS.o)).mono ?_;rintro e w9 ⟨a0,a1,a2,a3,a4,a5,a6,rfl,aQ,bD,ao⟩;obtain⟨⟨A0,m0,q0,rfl⟩,⟨A1,m1,q1,rfl⟩,⟨A2,m2,q2,rfl⟩,⟨A3,m3,q3,rfl⟩,⟨A4,m4,q4,rfl⟩,⟨A5,m5,q5,rfl⟩,⟨A7,m6,q6,rfl⟩⟩:=zct aQ;have gH:Below W7.heap.size W7 w9:=(zaE (Below.refl _ _):Below W7.heap.size W7 W7.drew).trans bD;refine NxM hK (fun hHeld=>?_) (.inr (vR.o _ gH));clear hK K;refine OnM 12 false fun K hK=>?_
     go_simp
     refine(zoq ls Q.1 ds.length pl dy _ (ao vH.o) HT.o ip).mono ?_;rintro e w11 ⟨AI,ci,rfl,DX,rS⟩;have fV:Below W7.heap.size W7 w11:=gH.trans (rS.mono gH.size);refine NxM hK (fun hHeld=>?_) (.inr (vR.o _ fV));clear hK K;refine OnM 14 false fun K hK=>?_
     go_simp
     refine(zcX _ nm AI ci _ (by have:=HT.o.holders pl dy;omega) DX).mono ?_;rw[<-IT.o];unfold zaA;rintro e wz ⟨rfl,z3,rfl⟩;have x8:Below W7.heap.size W7 (w11.ext z3):=zbg fV z3;refine NxM hK (fun hHeld=>?_) (.inr (vR.o _ x8));clear hK K;obtain⟨rfl,rfl⟩:=Jd.o;refine OnM 15 true fun K hK=>?_
     go_simp
     refine NxM hK fun hHeld=>?_
     clear hK K;refine FrM 16 true ?_;refine OnM 17 true fun K hK=>?_
     go_simp
     refine NxM hK fun hHeld=>?_
     clear hK K;refine zaG Mcv ?_ _;clear hHeld;go_wp2_with fail
     go_ret
     exact Ret.of rfl (bS.o.trans (x8.mono Ly))
