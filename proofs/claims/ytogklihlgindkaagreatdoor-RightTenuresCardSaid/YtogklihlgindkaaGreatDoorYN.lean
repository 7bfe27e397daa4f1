import Derived.Test.YtogklihlgindkaaGreatDoorSF
set_option linter.all false
set_option maxRecDepth 100000
set_option maxHeartbeats 4000000
namespace Go.Proofs.YtogklihlgindkaaGreatDoor
open Go.RowKit Go.Shelf
attribute [local go_sem] World.cell?_alloc_mark zaf za3 zam za6 zat zau zav zaw zax zay zaz
attribute [local go_sem] zao zac
def ten_same{laws:List Law}{ds:List Deed}{place:ByteArray}{txs tys:List TX}{L M:List Int}(hL:L.Pairwise (· < ·))(hl:∀x,x∈L↔x∈zel laws ds place ds)(h:txs.map (λx=>(x.day,x.hs))=zfI (hOn laws ds place) L [])(hM:M.Pairwise (· <= ·))(hm:M.Perm (zfu laws ds ds))(k:tys.map txP=zhw (hOn laws ds place) M []):txs.map txP=tys.map txP:=by
 rw[k,zic,<-zm7 hL (zlf hM) hl (λx=>(zid M x).trans hm.mem_iff),<-h];rfl
def zhF(ls:List Law)(ds:List Deed)(LA:Option Addr)(n nc:Nat)(DA:Option Addr)(m mc:Nat)(pl:ByteArray)(w:World)(hL:Laid5 w)(hR:RightsIn w ls ds LA n nc DA m mc):
 Calls Tryz.prog 3 #[.agg #[.slice LA n nc,.slice DA m mc],.string pl] w (Ret w (.bool true)):=by
 obtain⟨HL,HR,qZ⟩:=yH3 hL hR (λW (h:Qa w W)=>few_any ls ds LA n nc DA m mc W (hR.keep h));clear hL hR;go_enter Tryz.func3,Tryz.ntmps3
 go_upto_region 1 with fail
 obtain⟨W0,am⟩:=Qd (w.alloc (.cells #[.slice LA n nc,.slice DA m mc] 25))
 obtain⟨b0,aO⟩:=boxed am.symm;rw[<-am];have ak:=zHi aO;clear am aO;go_upto_region 3 with(go_at_call 4;go_must(refine(zpX _ (HL.o.keep ak.o)).mono ?_);rintro e wq ⟨rfl,z0,rfl⟩)
 have c0:(W0.ext z0).heap[w.heap.size]?=some (.cells #[.slice LA n nc,.slice DA m mc] 25):=zbF b0;have cV:Qa w (W0.ext z0):=zb2 ak.o z0;generalize W0.ext z0=W1 at*;have aL:=zHi cV;clear b0 ak cV;obtain⟨r0,r1⟩:=zbx c0;have l0:=zab c0;clear c0;cases sN:fewP ls ds
 ·rw[sN]at qZ;clear sN;exact Mbd
 have dZ:=few_lens sN;rw[sN]at qZ;clear sN;by_cases kn:20<pl.size
 ·have ei:(20:Int)<(pl.size:Int):=McS;clear dZ;exact Mbd
 have ei:¬(20:Int)<(pl.size:Int):=McS;obtain⟨bE,Ei,DK,zt⟩:=dZ;obtain⟨jW,dW,jq,Ac⟩:=yH4 (λW (h:Qa w W)=>zpj ls ds LA n nc DA m mc W (HR.o.keep h) McS McS (λd hd=>by have:=zt d hd;omega)) (λA1 n1 B1 n2 W (h:Qa w W) (hr:RightsIn W ls ds A1 ls.length n1 B1 ds.length n2)=>zmC ls ds pl A1 ls.length n1 B1 ds.length n2 W hr (HL.o.keep h).forms (HL.o.keep h).lens bE McS McS) (λW (h:Qa w W) NA (hS:Sl W 1 sC NA [pl])=>zpW ls ds [pl] 0 LA n nc DA m mc NA 1 1 W (HR.o.keep h) bE McS rfl McV McX hS) (λ(h0:zce ls ds [pl] 0=0) W (h:Qa w W)=>zmG ls ds pl LA n nc DA m mc W (HR.o.keep h) bE McS h0);unfold zoz at jW;unfold TenApi at dW;unfold TenPost at Ac;clear bE Ei DK zt kn HR HL;generalize zce ls ds [pl] 0=E at*;go_upto_region 5 with(go_at_call 5;go_must(refine(qZ.o _ MeO).mono ?_);rintro e wq ⟨rfl,z,rfl⟩)
 have bV:Qa w (W1.ext z):=zb2 aL.o z;have y0:(W1.ext z).cell? ⟨w.heap.size,0,none⟩=some (.slice LA n nc):=(za3 _ _ _ _ l0).trans r0;have y1:(W1.ext z).cell? ⟨w.heap.size,1,none⟩=some (.slice DA m mc):=(za3 _ _ _ _ l0).trans r1;have jQ:W1.heap.size<=(W1.ext z).heap.size:=Mdu;have m0:w.heap.size<(W1.ext z).heap.size:=McS;clear l0 r0 r1 qZ aL jQ;generalize W1.ext z=W2 at*;have aN:=zHi bV;have bi:=bV.size;clear bV;have aJ:=zHi (λ(w':World) (h:Qa W2 w')=>(show w'.cell? ⟨w.heap.size,0,none⟩=some (.slice LA n nc)/\w'.cell? ⟨w.heap.size,1,none⟩=some (.slice DA m mc) from⟨(zai h m0).trans y0,(zai h m0).trans y1⟩));by_cases h0:E=0;rotate_left 1
 ·have K2:(E != 0)=true:=MdX;have HE:=zHi h0;clear h0 Ac
  go_upto_region 6 with(first
   |(go_at_call 7
     go_must(refine(jW.o _ (by have:=aN.o;exact Bw)).mono ?_)
     rintro e w5 ⟨A1,n1,B1,n2,rfl,nE,ar⟩;obtain⟨bf,tY⟩:=yH2 (ar:Qa W2 w5) nE
     clear nE ar)
   |(go_at_call 6
     go_must(refine(dW.o A1 n1 B1 n2 _ (aN.o.trans (bf.o.mono bi)) tY.o).mono ?_)
     rintro e w6 ⟨fW,⟨_,rfl⟩|⟨hz,_⟩⟩;rotate_left 1
     ·exact absurd hz HE.o
     have gH:=zHi fW
     clear fW))
  clear y0 y1 m0;have bs:=zHi (aN.o.trans ((bf.o.trans (gH.o.mono bf.o.size)).mono bi));obtain⟨y0,y1⟩:=aJ.o w6 (bf.o.trans (gH.o.mono bf.o.size));have m0:=zcs y0;have ii:=bs.o.size;go_wp2_with (go_at_call 8;go_must(refine(jq.o _ (by have:=bs.o;exact Bw) _ (zcU (zas _ _ _ McV))).mono ?_);rintro e wq ⟨rfl,z7,rfl⟩)
  go_ret
  exact Ret.of rfl (by have:=bs.o;exact Bw)
 obtain⟨HE,vU⟩:=yH2 h0 (Ac.o h0);subst h0;clear Ac
 go_upto_region 6 with(first
  |(go_at_call 7
    go_must(refine(jW.o _ (by have:=aN.o;exact Bw)).mono ?_)
    rintro e w5 ⟨A1,n1,B1,n2,rfl,nE,ar⟩;obtain⟨bf,tY⟩:=yH2 (ar:Qa W2 w5) nE
    clear nE ar)
  |(go_at_call 6
    go_must(refine(dW.o A1 n1 B1 n2 _ (aN.o.trans (bf.o.mono bi)) tY.o).mono ?_)
    rintro e w6 ⟨fW,⟨ai,_⟩|⟨_,A3,c3,txs,L,rfl,t1,t2,t3,t4,t5⟩⟩
    ·exact absurd rfl ai
    obtain⟨gH,T1,T2,T3,T4,T5⟩:=yH6 fW t1 t2 t3 t4 t5
    clear fW t1 t2 t3 t4 t5))
 clear y0 y1 m0 jW dW;have bs:=zHi (aN.o.trans ((bf.o.trans (gH.o.mono bf.o.size)).mono bi));obtain⟨y0,y1⟩:=aJ.o w6 (bf.o.trans (gH.o.mono bf.o.size));have m0:=zcs y0;have ii:=bs.o.size;go_upto_region 9 with(go_at_call 8;go_must(refine(jq.o _ (by have:=bs.o;exact Bw) _ (zcU (zas _ _ _ McV))).mono ?_);rintro e wq ⟨rfl,z7,rfl⟩)
 have bj:Qa w6 ((w6.alloc (.cells #[.string pl] 9)).ext z7):=zb2 (zad Qb _) z7;generalize((w6.alloc (.cells #[.string pl] 9)).ext z7)=W7 at*;obtain⟨qH,bT⟩:=yH2 bj (bs.o.trans (bj.mono ii));obtain⟨x0,x1⟩:=aJ.o W7 ((bf.o.trans (gH.o.mono bf.o.size)).trans (bj.mono (bf.o.trans (gH.o.mono bf.o.size)).size));have m7:=zcs x0;have jn:=bT.o.size;clear y0 y1 m0 bj aJ jq bf gH tY
 go_upto_region 10 with(go_at_call 9
                        go_must(refine(vU.o _ bT.o).mono ?_)
                        rintro e w8 ⟨A4,c4,tys,M,rfl,GT,u1,u2,u3,u4,ul,u5⟩;obtain⟨Bp,U1,U2⟩:=yH3 (GT:Qa W7 w8) u1 u2;have fE:=ten_same T3.o T4.o T5.o u3 u4 u5;have wj:=zHi fE
                        clear GT u1 u2 u3 u4 u5 fE)
 have su:Qa w6 w8:=qH.o.trans (Bp.o.mono qH.o.size);have HP:=zHi (T1.o.keep su:Sl w8 2 TX.cells A3 txs);have Js:Hid (∀x∈txs,Sl w8 3 zaa x.A x.hs):=zHi (λx hx=>(T2.o x hx).keep su);have gw:=zHi (bT.o.trans (Bp.o.mono jn));have ag:tys.length=txs.length:=by have:=congrArg List.length wj.o;simpa using this.symm
 have cF:txs.length<=100000:=McS
 have HU:Hid (∀(j:Nat) (h:j<txs.length) (h':j<tys.length),txP txs[j]=txP tys[j]):=zHi (λj h h'=>by
  have h1:(txs.map txP)[j]?=(tys.map txP)[j]?:=by rw[wj.o]
  rw[List.getElem?_map,List.getElem?_map,List.getElem?_eq_getElem h,List.getElem?_eq_getElem h']at h1
  simpa using h1)
 have vE:=zHi ag;rw[ag];clear ag su qH Bp bT jn x0 x1 m7 T1 T2 T3 T4 T5 wj bs ii vU aN bi;have IB:=gw.o.size;go_upto_block 0 with fail
 go_wp2_with fail
 go_loopw [9] (λi wr=>∃j:Nat,j<=txs.length/\i=.int .i64 j/\∃z,wr=w8.ext z) (λi _=>txs.length-(intOf i).toNat)
 case atStart=>exact⟨0,Nat.zero_le _,rfl,zaP Qb⟩
 case round=>
  obtain⟨j,hj,rfl,z,rfl⟩:=hrel;by_cases ae:j<txs.length
  ·have dF:j<tys.length:=by rw[vE.o];exact ae
   have hu:=HU.o j ae dF;have cP:=Js.o txs[j] (List.getElem_mem ae);have qG:=U2.o tys[j] (List.getElem_mem dF);obtain⟨b,off,hA,hb,hc⟩:=HP.o.at ae;obtain⟨b',off',rP,cA,aE⟩:=U1.o.at dF;subst hA rP;have bu:(j:Int)<(txs.length:Int):=McS;have oh:(0:Int)<=(j:Int):=McS;have aj:=zHi ae;generalize txs[j]=x at*;generalize tys[j]=y at*;obtain⟨day,hs,P,pc⟩:=x;obtain⟨day',dQ,Q,qc⟩:=y;simp only[txP,Prod.mk.injEq]at hu;obtain⟨rfl,rfl⟩:=hu;have i0:w8.cell? ⟨b,off+j*2,none⟩=some (.int .i64 day):=hc 0 _ rfl;have i1:w8.cell? ⟨b,off+j*2+1,none⟩=some (.slice P hs.length pc):=hc 1 _ rfl;have k0:w8.cell? ⟨b',off'+j*2,none⟩=some (.int .i64 day):=aE 0 _ rfl;have k1:w8.cell? ⟨b',off'+j*2+1,none⟩=some (.slice Q hs.length qc):=aE 1 _ rfl;obtain⟨aw,kG⟩:=yH2 cP qG;clear hc aE dF cP qG;have fG:=zHi (λW (h:Qa w8 W)=>sameP_any hs P Q pc qc W (aw.o.keep h) (kG.o.1.keep h) kG.o.2);go_upto_region 15 with fail
   (refine zag McT McT ?_
    repeat(first|go_big_quiet_skip|(go_big_quiet_want;go_big_quiet_op;first|go_big_quiet_on|(apply Exists.intro;refine⟨λ_=>?_,?_⟩;(go_at_call 10;exact quietx (fG.o _ Bw));go_big_quiet_on)))
    refine wpQuiet_nil ?_
    rintro _ ⟨zq,rfl⟩)
   go_wp2_with fail
   go_roundw
   case rel=>exact⟨j+1,by have:=aj.o;omega,by go_num,zaP Bw⟩
   case measure=>have:=aj.o;simp only[intOf];omega
  ·have kP:¬((j:Int)<(txs.length:Int)):=McS;go_wp2_with fail
   go_ret
   exact Ret.of rfl (zb2 gw.o z)
