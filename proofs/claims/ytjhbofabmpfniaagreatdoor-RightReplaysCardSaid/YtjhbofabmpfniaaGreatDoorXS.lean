/- Walk of the reference's Replay. -/
import Derived.Test.YtjhbofabmpfniaaGreatDoorXQ
import Derived.Test.YtjhbofabmpfniaaGreatDoorDQ
set_option linter.unusedSimpArgs false
set_option linter.unusedVariables false
set_option maxRecDepth 100000
set_option maxHeartbeats 4000000
namespace Go.Proofs.YtjhbofabmpfniaaGreatDoor
open Go.RowKit Go.Shelf
attribute [local go_sem] World.cell?_alloc_mark zae za3 zam za6 zas zat zau zav zaw zax zay
attribute [local go_sem] zaj zac
theorem zke {laws:List Law} {s s':St} {d:Deed} (ht:zbm laws s d=(s',0)):s'.wills.length<=s.wills.length+1:=by
 have key: ∀ {x:St×Int},x=(s',0)->x.1.wills.length<=s.wills.length+1->s'.wills.length<=s.wills.length+1:=fun e h=>by rw[e]at h;exact h
 refine key ht ?_;clear key ht;have h0:s.wills.length<=s.wills.length+1:=Nat.le_succ _;unfold zbm;split
 ·unfold zcN;repeat(first|split|exact h0)
 split
 ·unfold zbo;exact Mbj
 split
 ·unfold zaZ;exact Mbj
 split
 ·unfold zcY;exact Mbj
 split
 ·unfold zgT;split
  ·exact h0
  ·simp
 split
 ·unfold zb9;repeat(first|split|exact h0)
 split
 ·unfold zcD;repeat(first|split|exact h0)
 split
 ·unfold zdr;repeat(first|split|exact h0)
 ·unfold zdL;repeat(first|split|exact h0)
theorem stFew_of {k:Nat} {s:St} {wd rd:List Deed} (h:FewS k s) (hw:s.wills.length<=k) (hk:k<=1000) (hL:StLink s wd rd):StFew s wd rd:=
 ⟨by have:=h.kids;omega,by have:=h.marr;omega,by have:=h.dead;omega,by rw[hL.wills,List.length_map]at hw;omega,by have:=h.ren;rw[hL.ren,List.length_map]at this;omega,by have:=h.graves;omega⟩
theorem zmt {laws:List Law} {s:St} {ds:List Deed} {d:Deed} {k:Nat} (hc:za5 d=0) (hk:ds.length=k):nxP laws s ds d=zbT laws s k (zeB ds) d:=by
 subst hk;unfold nxP zbT;rw[if_neg (show¬(za5 d != 0)=true by rw[hc];decide)];split
 ·rfl
 ·cases hg:ds.getLast? with
  |none=>
   have h0:=(zdP hc).day.1;have hn: ¬d.day<0:=Mcn;simp[zeB,hg,hn]
  |some x=>simp[zeB,hg]
theorem est_heirs {laws:List Law} {s:St} {n:ByteArray} {day last:Int} {k:Nat} {hs:Parts} (hG:GoodSt s last) (hF:FewS k s) (hk:k<=900) (aU:za8 laws=0) (h:zct s (zaY laws day) n=some hs):hs.length<=1000/\GoodParts hs/\sumQ hs<=1/\zaF hs=false:=by
 have bO:=zes aU day;have bP:=ze6 (hG.wills n) bO h;have gF:=(zeA (s:=s) (n:=n) (hG.wills n) bO).1 hs h;have kW:=ziL (s:=s) (law:=zaY laws day) (n:=n) (by rw[gF];exact bP.1);rw[gF]at kW;have h1:=hF.wills n;have h2:=hF.kids;simp only at kW;exact⟨by omega,bP.1,by rw[bP.2.1];exact Rat.le_refl,bP.2.2⟩
theorem zkf (laws:List Law) (s:St) (last:Int) (k:Nat) (d:Deed) (B:Option Addr) (c:Nat) (ds:List Deed) (DB:Option Addr) (dc:Nat) (w:World) {a0 a1 a2 a3 a4 a5 a6:Value} (hs:StAt w laws s a0 a1 a2 a3 a4 a5 a6) (hG:GoodSt s last) (hF:FewS k s) (hw:s.wills.length<=k) (hk:k<=600) (aU:za8 laws=0)
 (hd:za5 d=0) (au:d.to.length<=c) (hS:Sl w 3 RPart.cells B d.to) (gy:SlW w 7 zfc DB ds) (n:Nat) (hn:n=ds.length):Calls Tryz.prog 62 #[.agg #[a0,a1,a2,a3,a4,a5,a6], .slice DB n dc,d.v B c] w (zeX w laws (nxP laws s ds d)):=by
 subst hn;obtain⟨wd,rd,LA,CA,MA,DA,WA,RA,GA,c0,c1,c2,c3,c4,c5,c6,rfl,rfl,rfl,rfl,rfl,rfl,rfl,hI,hL⟩:=hs;have hf:=stFew_of hF hw Mcn hL;refine rNext_of laws s wd rd LA CA MA DA WA RA GA c0 c1 c2 c3 c4 c5 c6 d B c w hI hL hf (zdP hd) hS ds DB dc gy au (fun g hg=>⟨hG.graves g hg,by have:=(hF.held g hg).1;omega⟩) (fun g hg=>(hF.held g hg).2.2) fun W hB=> ?_
 exact rDies_any laws s wd rd LA CA MA DA WA RA GA c0 c1 c2 c3 c4 c5 c6 d.frm d.day W (hI.keep hB) hL hf aU (hG.wills _) hG.acyc (hF.wills _) (fun g hg=>⟨hG.graves g hg,by have:=(hF.held g hg).1;omega⟩) (fun g hg=>by have:=(hF.held g hg).2.1;omega) fun hs h=>est_heirs hG hF Mcn aU h
def zhp (w:World) (laws:List Law) (R:St×Nat×Int) (e:Ending) (w':World):Prop:=
 ∃a0 a1 a2 a3 a4 a5 a6,e= .returned (.tuple #[.agg #[a0,a1,a2,a3,a4,a5,a6], .int .i64 (R.2.1:Int), .int .i64 R.2.2])/\([a0,a1,a2,a3,a4,a5,a6].all zcC)=true/\Below w.heap.size w w'/\(R.2.2=0->StAt w' laws R.1 a0 a1 a2 a3 a4 a5 a6)
theorem st_zero {w:World} {laws:List Law} {LA:Option Addr} {c:Nat} (h:Sl w 4 Law.cells LA laws):StAt w laws zbz (.slice LA laws.length c) (.slice none 0 0) (.slice none 0 0) (.slice none 0 0) (.slice none 0 0) (.slice none 0 0) (.slice none 0 0):=
 ⟨[],[],LA,none,none,none,none,none,none,c,0,0,0,0,0,0,rfl,rfl,rfl,rfl,rfl,rfl,rfl,⟨h,Sl.nil,Sl.nil,Sl.nil,fun h=>absurd h Mcq,fun h=>absurd h Mcq,fun h=>absurd h (by simp[zbz]),Nat.le_refl _⟩,⟨rfl,by simp,rfl,by simp⟩⟩
theorem zeQ {w:World} {B:Nat} {x0 x1 x2 x3 x4 x5 x6 y z:Value} {fn:Func} {p q r:Tmp} (h:fn.results= #[.cell p 36, .tmp q, .tmp r]) (tmps:Array Value) (hp:tmps.getD p undef= .pointer (some ⟨B,0,none⟩)) (hq:tmps.getD q undef=y) (hr:tmps.getD r undef=z)
 (hx:w.heap[B]?=some (.cells #[x0,x1,x2,x3,x4,x5,x6] 36)):(results fn tmps).run Tryz.prog w= .ok (.tuple #[.agg #[x0,x1,x2,x3,x4,x5,x6],y,z]) w:=by
 obtain⟨h0,h1,h2,h3,h4,h5,h6⟩:=zaG hx;clear hx;have hc:(results fn tmps).run Tryz.prog w=((asAddr (tmps.getD p undef)).run Tryz.prog w).andThen fun x w₁=>((loadVar 36 x).run Tryz.prog w₁).andThen fun v w₂=> .ok (.tuple #[v,tmps.getD q undef,tmps.getD r undef]) w₂:=by
  exact Mbr
 rw[hc,hp,hq,hr];go_simp
theorem drew_heap (W:World) (k:Nat):W.drew.heap[k]?=W.heap[k]?:=rfl
structure RepAt (base TB:Nat) (W:World) (laws:List Law) (ds:List Deed) (LA DA:Option Addr) (nc mc:Nat) (s told:St) (a0 a1 a2 a3 a4 a5 a6 b0 b1 b2 b3 b4 b5 b6:Value):Prop where
 box:W.heap[base]?=some (.cells #[.slice LA laws.length nc, .slice DA ds.length mc] 25)
 res:W.heap[base+1]?=some (.cells #[.slice none 0 0, .slice none 0 0, .slice none 0 0, .slice none 0 0, .slice none 0 0, .slice none 0 0, .slice none 0 0] 36)
 st:W.heap[base+2]?=some (.cells #[a0,a1,a2,a3,a4,a5,a6] 36)
 tcell:W.heap[TB]?=some (.cells #[b0,b1,b2,b3,b4,b5,b6] 36)
 tb:base+2<TB
 sl:([a0,a1,a2,a3,a4,a5,a6].all zcC)=true
 sl2:([b0,b1,b2,b3,b4,b5,b6].all zcC)=true
 sAt:StAt W laws s a0 a1 a2 a3 a4 a5 a6
 tAt:StAt W laws told b0 b1 b2 b3 b4 b5 b6
section
variable {base TB:Nat} {W W':World} {laws:List Law} {ds:List Deed} {LA DA:Option Addr} {nc mc:Nat} {s told s':St} {a0 a1 a2 a3 a4 a5 a6 b0 b1 b2 b3 b4 b5 b6 d0 d1 d2 d3 d4 d5 d6:Value}
theorem RepAt.keep (h:RepAt base TB W laws ds LA DA nc mc s told a0 a1 a2 a3 a4 a5 a6 b0 b1 b2 b3 b4 b5 b6) (hB:Below W.heap.size W W'):RepAt base TB W' laws ds LA DA nc mc s told a0 a1 a2 a3 a4 a5 a6 b0 b1 b2 b3 b4 b5 b6:=
 ⟨(hB.block _ (zab h.box)).trans h.box,(hB.block _ (zab h.res)).trans h.res,(hB.block _ (zab h.st)).trans h.st,(hB.block _ (zab h.tcell)).trans h.tcell,h.tb,h.sl,h.sl2,h.sAt.keep hB,h.tAt.keep hB⟩
theorem zpr {w:World} {b k:Nat} {x:Obj} {a0 a1 a2 a3 a4 a5 a6:Value} (ai:k≠b) (h:w.heap[k]?=some x):(((((((w.setCell ⟨b,0,none⟩ a0).setCell ⟨b,1,none⟩ a1).setCell ⟨b,2,none⟩ a2).setCell ⟨b,3,none⟩ a3).setCell ⟨b,4,none⟩ a4).setCell ⟨b,5,none⟩ a5).setCell ⟨b,6,none⟩ a6).heap[k]?=some x:=
 J_ne ai (J_ne ai (J_ne ai (J_ne ai (J_ne ai (J_ne ai (J_ne ai h))))))
theorem RepAt.setS (h:RepAt base TB W laws ds LA DA nc mc s told a0 a1 a2 a3 a4 a5 a6 b0 b1 b2 b3 b4 b5 b6) (aP:([d0,d1,d2,d3,d4,d5,d6].all zcC)=true) (hs:StAt W laws s' d0 d1 d2 d3 d4 d5 d6):
 RepAt base TB (((((((W.setCell ⟨base+2,0,none⟩ d0).setCell ⟨base+2,1,none⟩ d1).setCell ⟨base+2,2,none⟩ d2).setCell ⟨base+2,3,none⟩ d3).setCell ⟨base+2,4,none⟩ d4).setCell ⟨base+2,5,none⟩ d5).setCell ⟨base+2,6,none⟩ d6) laws ds LA DA nc mc s' told d0 d1 d2 d3 d4 d5 d6 b0 b1 b2 b3 b4 b5 b6:=
 ⟨zpr Mcn h.box,zpr Mcn h.res,zc0 h.st,zpr (by have:=h.tb;omega) h.tcell,h.tb,aP,h.sl2,(zc3 h.st h.sl).st hs,(zc3 h.st h.sl).st h.tAt⟩
theorem RepAt.setT (h:RepAt base TB W laws ds LA DA nc mc s told a0 a1 a2 a3 a4 a5 a6 b0 b1 b2 b3 b4 b5 b6):
 RepAt base TB (((((((W.setCell ⟨TB,0,none⟩ a0).setCell ⟨TB,1,none⟩ a1).setCell ⟨TB,2,none⟩ a2).setCell ⟨TB,3,none⟩ a3).setCell ⟨TB,4,none⟩ a4).setCell ⟨TB,5,none⟩ a5).setCell ⟨TB,6,none⟩ a6) laws ds LA DA nc mc s s a0 a1 a2 a3 a4 a5 a6 a0 a1 a2 a3 a4 a5 a6:=
 ⟨zpr (by have:=h.tb;omega) h.box,zpr (by have:=h.tb;omega) h.res,zpr (by have:=h.tb;omega) h.st,zc0 h.tcell,h.tb,h.sl,h.sl,(zc3 h.tcell h.sl2).st h.sAt,(zc3 h.tcell h.sl2).st h.sAt⟩
end
theorem zeR (laws:List Law) (ds:List Deed) (upto:Int) (LA:Option Addr) (n nc:Nat) (DA:Option Addr) (m mc:Nat) (w:World) (hR:RightsIn w laws ds LA n nc DA m mc) (hO: ∀d∈ds,zc8 d) (bu:ds.length<=500):
 Calls Tryz.prog 17 #[.agg #[.slice LA n nc, .slice DA m mc], .int .i64 upto] w (zhp w laws (zaL laws ds upto)):=by
 obtain⟨rfl,rfl,xi,kU,eH,gy⟩:=hR;obtain⟨R,hR⟩: ∃R,R=zaL laws ds upto:=⟨_,rfl⟩
 rw[<-hR];unfold zaL at hR;have cd:=zHi (fun W (hB:Below w.heap.size w W)=>zjr laws LA laws.length nc W rfl (eH.keep hB));have cE:=zHi (fun W (hB:Below w.heap.size w W)=>(eH.keep hB:Sl W 4 Law.cells LA laws));have dD:=zHi (fun W (hB:Below w.heap.size w W)=>(gy.keep zbM hB:SlW W 7 zfc DA ds));have HO:=zHi hO;have lQ:=zHi hR;unfold zhp;clear eH gy hO hR;go_enter Tryz.func17,Tryz.ntmps17
 go_upto_region 2 with fail
 obtain⟨W0,ao⟩: ∃W0,W0=((w.alloc (.cells #[.slice LA laws.length nc, .slice DA ds.length mc] 25)).alloc (.cells #[.slice none 0 0, .slice none 0 0, .slice none 0 0, .slice none 0 0, .slice none 0 0, .slice none 0 0, .slice none 0 0] 36)).alloc (.cells #[.slice LA laws.length nc, .slice none 0 0, .slice none 0 0, .slice none 0 0, .slice none 0 0, .slice none 0 0, .slice none 0 0] 36):=⟨_,rfl⟩
 have aJ:Below w.heap.size w W0:=McU;have g0:W0.heap[w.heap.size]?=some (.cells #[.slice LA laws.length nc, .slice DA ds.length mc] 25):=Mdq;have g1:W0.heap[w.heap.size+1]?=some (.cells #[.slice none 0 0, .slice none 0 0, .slice none 0 0, .slice none 0 0, .slice none 0 0, .slice none 0 0, .slice none 0 0] 36):=by rw[ao];exact zal (zar _ _ _ Mcq)
 have g2:W0.heap[w.heap.size+2]?=some (.cells #[.slice LA laws.length nc, .slice none 0 0, .slice none 0 0, .slice none 0 0, .slice none 0 0, .slice none 0 0, .slice none 0 0] 36):=by rw[ao];exact zar _ _ _ Mcq
 rw[<-ao];have ak:=zHi aJ;have aw:=aJ.size;clear ao aJ;obtain⟨x0,x1⟩:=zbu g0;have lx:=zab g0;go_upto_region 3 with(go_at_call 60;go_must(refine(cd.o _ ak.o).mono ?_);rintro e wq ⟨rfl,z,rfl⟩)
 obtain⟨W1,aM⟩: ∃W1,W1=W0.ext z:=⟨_,rfl⟩
 have aS:Below W0.heap.size W0 W1:=Mdb;rw[<-aM];have gw:=aS.size;have g0:=(aS.block _ (zab g0)).trans g0;have g1:=(aS.block _ (zab g1)).trans g1;have l2:=zab g2;have g2:=(aS.block _ (zab g2)).trans g2;have aA:=zHi (ak.o.trans (aS.mono aw));clear aM aS x0 x1 lx;obtain⟨s0,s1,s2,s3,s4,s5,s6⟩:=zaG g2;have ls:=zab g2;by_cases hce:za8 laws=0;rotate_left 1
 ·have HE:Hid (R=(zbz,0,za8 laws)):=by show _=_;rw[lQ.o,if_pos MdR]
  have jV:(za8 laws != 0)=true:=MdR;have iK:=zHi hce;obtain⟨r0,r1,r2,r3,r4,r5,r6⟩:=zaG g1;have rf:=frz g1;have lr:=zab g1;generalize za8 laws=ce at*;clear hce;go_wp2_with fail
  refine bodyPost_ret (zeQ rfl _ rfl rfl rfl (zc0 g1)) rfl ?_;rw[HE.o];exact⟨_,_,_,_,_,_,_,rfl,by first|rfl|exact⟨rfl,rfl,rfl,rfl,rfl,rfl,rfl⟩,zc9 aA.o (show w.heap.size<=w.heap.size+1 by omega),fun h=>absurd h iK.o⟩
 have BK:Hid (R=zaV laws upto (ds.drop 0) zbz zbz 0 0):=by show _=_;rw[lQ.o,if_neg (by simp[hce])];rfl
 rw[hce];have cM:=zHi hce;clear hce lQ;go_upto_region 6 with fail
 obtain⟨TB,Cq⟩: ∃TB,TB=W1.heap.size:=⟨_,rfl⟩
 obtain⟨W2,cF⟩: ∃W2,W2=W1.alloc (.cells #[.slice LA laws.length nc, .slice none 0 0, .slice none 0 0, .slice none 0 0, .slice none 0 0, .slice none 0 0, .slice none 0 0] 36):=⟨_,rfl⟩
 have bn:Below W1.heap.size W1 W2:=by rw[cF];exact zad (Below.refl _ _) _
 have ov:=aA.o.trans (bn.mono aA.o.size);have aB:=zHi ov;have uS:Hid (RepAt w.heap.size TB W2 laws ds LA DA nc mc zbz zbz (.slice LA laws.length nc) (.slice none 0 0) (.slice none 0 0) (.slice none 0 0) (.slice none 0 0) (.slice none 0 0) (.slice none 0 0) (.slice LA laws.length nc) (.slice none 0 0) (.slice none 0 0) (.slice none 0 0) (.slice none 0 0) (.slice none 0 0) (.slice none 0 0)):=zHi
  ⟨(bn.block _ (zab g0)).trans g0,(bn.block _ (zab g1)).trans g1,(bn.block _ (zab g2)).trans g2,by rw[cF,Cq];exact zar _ _ _ rfl,by omega,rfl,rfl,st_zero (cE.o _ ov),st_zero (cE.o _ ov)⟩
 rw[<-cF,<-Cq];clear cF Cq g0 g1 g2 bn ov s0 s1 s2 s3 s4 s5 s6 ls l2;go_upto_region 7 with fail
 go_loopw [10] (fun v wr=> ∃(k:Nat) (s told:St) (last:Int) (a0 a1 a2 a3 a4 a5 a6 b0 b1 b2 b3 b4 b5 b6:Value),k<=ds.length/\v= .int .i64 k/\Hid (RepAt w.heap.size TB wr laws ds LA DA nc mc s told a0 a1 a2 a3 a4 a5 a6 b0 b1 b2 b3 b4 b5 b6)/\Hid (GoodSt s last/\FewS k s/\s.wills.length<=k/\last=zeB (ds.take k))/\Hid (R=zaV laws upto (ds.drop k) s told k last)/\Below w.heap.size w wr) (fun v _=>ds.length-(intOf v).toNat)
 case atStart=>exact⟨0,zbz,zbz,0,_,_,_,_,_,_,_,_,_,_,_,_,_,_,Nat.zero_le _,rfl,uS,zHi ⟨zdQ 0,zfG,Nat.le_refl _,rfl⟩,BK,aB.o⟩
 case round=>
  obtain⟨k,s,told,last,a0,a1,a2,a3,a4,a5,a6,b0,b1,b2,b3,b4,b5,b6,hk,rfl,HA,HI,HX,hB⟩:=hrel;obtain⟨WR,oo⟩: ∃WR,WR=wr:=⟨_,rfl⟩
  subst oo;have aE:=hB.size;have HB:=zHi hB;by_cases aa:k<ds.length
  ·obtain⟨gb,go,cs,lY,dM,dl,ah⟩:=(dD.o WR hB).at aa;have gD:ds.drop k=ds[k]::ds.drop (k+1):=List.drop_eq_getElem_cons aa;have hx:=HX.o;rw[gD,zaV]at hx;have oE:=zjD aa;have iW:=HO.o ds[k] (List.getElem_mem aa);have cK:(ds.take k).length=k:=Mc7;have am:=zHi aa;generalize ds[k]=x at*;obtain⟨EB,ec,tI,rfl,hP⟩:=dl;have i0:WR.cell? ⟨gb,go+k*7,none⟩=some (.int .i64 x.kind):=McO;have i1:WR.cell? ⟨gb,go+k*7+1,none⟩=some (.int .i64 x.day):=ah 1 _ rfl;have i2:WR.cell? ⟨gb,go+k*7+2,none⟩=some (.string x.place):=ah 2 _ rfl;have i3:WR.cell? ⟨gb,go+k*7+3,none⟩=some (.string x.frm):=ah 3 _ rfl;have i4:WR.cell? ⟨gb,go+k*7+4,none⟩=some (.slice EB x.to.length ec):=ah 4 _ rfl;have i5:WR.cell? ⟨gb,go+k*7+5,none⟩=some (.int .i64 x.cls):=ah 5 _ rfl;have i6:WR.cell? ⟨gb,go+k*7+6,none⟩=some (.int .i64 x.years):=ah 6 _ rfl;have ar:(k:Int)<(ds.length:Int):=Mcn;have aT:(0:Int)<=(k:Int):=Mcn;have FY:(k:Int)<=(mc:Int):=Mcn;have Kv:k<=mc:=Mcn;subst lY;have kO:=zHi (fun W (h:Below WR.heap.size WR W)=>(hP.keep h:Sl W 3 RPart.cells EB x.to));have dH:=zHi (fun W (h:Below WR.heap.size WR W)=>zfR x EB ec W iW (hP.keep h));unfold Deed.v at dH;obtain⟨⟨A0,m0,q0,rfl⟩,⟨A1,m1,q1,rfl⟩,⟨A2,m2,q2,rfl⟩,⟨A3,m3,q3,rfl⟩,⟨A4,m4,q4,rfl⟩,⟨A5,m5,q5,rfl⟩,⟨A6,m6,q6,rfl⟩⟩:=zck (HA.o.sl);obtain⟨x0,x1⟩:=zbu (HA.o).box;obtain⟨s0,s1,s2,s3,s4,s5,s6⟩:=zaG (HA.o).st;obtain⟨t0,t1,t2,t3,t4,t5,t6⟩:=zaG (HA.o).tcell;obtain⟨r0,r1,r2,r3,r4,r5,r6⟩:=zaG (HA.o).res;have sf:=frz (HA.o).st;have tf:=frz (HA.o).tcell
   have rf:=frz (HA.o).res;have lx:=zab (HA.o).box;have ls:=zab (HA.o).st;have lt':=zab (HA.o).tcell;have lr:=zab (HA.o).res;by_cases gB:za5 x=0;rotate_left 1
   ·have cQ:zbT laws s k last x=(s,za5 x):=by unfold zbT;rw[if_pos Met]
    have HE:Hid (R=(told,k,za5 x)):=by show _=_;rw[hx,cQ,if_pos Met]
    have iK:=zHi gB;have jV:(za5 x==0)=false:=Met;have wF:(za5 x != 0)=true:=Met;clear hx cQ oE iW cK ah hP tI aa gD gB;generalize za5 x=ce at*;go_upto_region 10 with(go_at_call 61;go_must(refine(dH.o _ (Below.refl _ _)).mono ?_);rintro e wq ⟨rfl,z,rfl⟩)
    obtain⟨W3,aX⟩: ∃W3,W3=WR.ext z:=⟨_,rfl⟩
    have ay:Below WR.heap.size WR W3:=by rw[aX];exact zaq _ _
    rw[<-aX];have cD:=zHi (HA.o.keep ay);have aH:=zHi (hB.trans (ay.mono aE));clear x0 x1 s0 s1 s2 s3 s4 s5 s6 t0 t1 t2 t3 t4 t5 t6 r0 r1 r2 r3 r4 r5 r6 sf tf rf lx ls lt' lr;clear aX ay i0 i1 i2 i3 i4 i5 i6;obtain⟨⟨B0,k0,p0,rfl⟩,⟨B1,k1,p1,rfl⟩,⟨B2,k2,p2,rfl⟩,⟨B3,k3,p3,rfl⟩,⟨B4,k4,p4,rfl⟩,⟨B5,k5,p5,rfl⟩,⟨B6,k6,p6,rfl⟩⟩:=zck ((cD.o).sl2);obtain⟨x0,x1⟩:=zbu ((cD.o)).box;obtain⟨s0,s1,s2,s3,s4,s5,s6⟩:=zaG ((cD.o)).st;obtain⟨t0,t1,t2,t3,t4,t5,t6⟩:=zaG ((cD.o)).tcell;obtain⟨r0,r1,r2,r3,r4,r5,r6⟩:=zaG ((cD.o)).res;have sf:=frz ((cD.o)).st;have tf:=frz ((cD.o)).tcell;have rf:=frz ((cD.o)).res;have lx:=zab ((cD.o)).box;have ls:=zab ((cD.o)).st;have lt':=zab ((cD.o)).tcell;have lr:=zab ((cD.o)).res;go_wp2_with fail
    refine bodyPost_ret (zeQ rfl _ rfl rfl rfl (zc0 (cD.o).res)) rfl ?_;rw[HE.o];exact⟨_,_,_,_,_,_,_,rfl,by first|rfl|exact⟨rfl,rfl,rfl,rfl,rfl,rfl,rfl⟩,zc9 (aH.o) (show w.heap.size<=w.heap.size+1 by omega),fun h=>absurd h iK.o⟩
   rw[gB]at dH;have nE:=zmt (laws:=laws) (s:=s) gB cK;obtain⟨hG,hF,bS,Af⟩:=HI.o;rw[<-Af]at nE;have ig:=zHi (fun W (h:Below WR.heap.size WR W) (hL:k<=600)=>zkf laws s last k x EB ec (ds.take k) (some ⟨gb,go,none⟩) mc W (HA.o.sAt.keep h) hG hF bS hL cM.o gB tI (hP.keep h) ((dD.o W (hB.trans (h.mono aE))).take k) k cK.symm);rw[nE]at ig;have Gi:=zdH (laws:=laws) (s:=s) (k:=k) (last:=last) (d:=x);have dj:(zbT laws s k last x).2=0->GoodSt (zbT laws s k last x).1 x.day/\FewS (k+1) (zbT laws s k last x).1/\(zbT laws s k last x).1.wills.length<=k+1/\x.day=zeB (ds.take (k+1)):=fun h0=>by
    obtain⟨_,h2,h3,h4⟩:=Gi h0;have ht:zbm laws s x=((zbT laws s k last x).1,0):=by rw[<-h4];exact Prod.ext rfl h0
    exact⟨zf7 hG (zdP gB) h3 cM.o ht,zkJ hF h2 hG (zdP gB) h3 cM.o ht,by have:=zke ht;omega,oE.symm⟩
   have AN:=zHi dj;have av:=zHi hx;clear hx dj Gi nE hG hF bS Af oE iW ah hP gD aa gB;generalize zbT laws s k last x=N at*;obtain⟨s',er⟩:=N;simp only at AN av;go_upto_region 11 with(go_at_call 61;go_must(refine(dH.o _ (Below.refl _ _)).mono ?_);rintro e wq ⟨rfl,z,rfl⟩)
   obtain⟨W3,aX⟩: ∃W3,W3=WR.ext z:=⟨_,rfl⟩
   have ay:Below WR.heap.size WR W3:=by rw[aX];exact zaq _ _
   rw[<-aX];have qT:=ay.size;have ix:gb<W3.heap.size:=Mcn;have i0:=(zah ay dM).trans i0;have i1:=(zah ay dM).trans i1;have i2:=(zah ay dM).trans i2;have i3:=(zah ay dM).trans i3;have i4:=(zah ay dM).trans i4;have i5:=(zah ay dM).trans i5;have i6:=(zah ay dM).trans i6;have cD:=zHi (HA.o.keep ay);have aH:=zHi (hB.trans (ay.mono aE));have AC:=zHi ay;clear x0 x1 s0 s1 s2 s3 s4 s5 s6 t0 t1 t2 t3 t4 t5 t6 r0 r1 r2 r3 r4 r5 r6 sf tf rf lx ls lt' lr;clear aX ay hB;obtain⟨x0,x1⟩:=zbu (cD.o).box;obtain⟨s0,s1,s2,s3,s4,s5,s6⟩:=zaG (cD.o).st;obtain⟨t0,t1,t2,t3,t4,t5,t6⟩:=zaG (cD.o).tcell;obtain⟨r0,r1,r2,r3,r4,r5,r6⟩:=zaG (cD.o).res;have sf:=frz (cD.o).st;have tf:=frz (cD.o).tcell;have rf:=frz (cD.o).res;have lx:=zab (cD.o).box;have ls:=zab (cD.o).st;have lt':=zab (cD.o).tcell;have lr:=zab (cD.o).res
   have aG:=zHi (fun(W:World) (h:Below W3.heap.size W3 W)=>(show W.cell? ⟨w.heap.size,1,none⟩=some (.slice (some ⟨gb,go,none⟩) ds.length mc)/\W.cell? ⟨w.heap.size+2,0,none⟩=some (.slice A0 m0 q0)/\W.cell? ⟨w.heap.size+2,1,none⟩=some (.slice A1 m1 q1)/\W.cell? ⟨w.heap.size+2,2,none⟩=some (.slice A2 m2 q2)/\W.cell? ⟨w.heap.size+2,3,none⟩=some (.slice A3 m3 q3)/\W.cell? ⟨w.heap.size+2,4,none⟩=some (.slice A4 m4 q4)/\W.cell? ⟨w.heap.size+2,5,none⟩=some (.slice A5 m5 q5)/\W.cell? ⟨w.heap.size+2,6,none⟩=some (.slice A6 m6 q6)/\W.cell? ⟨gb,go+k*7,none⟩=some (.int .i64 x.kind)/\W.cell? ⟨gb,go+k*7+1,none⟩=some (.int .i64 x.day)/\W.cell? ⟨gb,go+k*7+2,none⟩=some (.string x.place)/\W.cell? ⟨gb,go+k*7+3,none⟩=some (.string x.frm)/\W.cell? ⟨gb,go+k*7+4,none⟩=some (.slice EB x.to.length ec)/\W.cell? ⟨gb,go+k*7+5,none⟩=some (.int .i64 x.cls)/\W.cell? ⟨gb,go+k*7+6,none⟩=some (.int .i64 x.years) from⟨(zah h lx).trans x1,(zah h ls).trans s0,(zah h ls).trans s1,(zah h ls).trans s2,(zah h ls).trans s3,(zah h ls).trans s4,(zah h ls).trans s5,(zah h ls).trans s6,(zah h ix).trans i0,(zah h ix).trans i1,(zah h ix).trans i2,(zah h ix).trans i3,(zah h ix).trans i4,(zah h ix).trans i5,(zah h ix).trans i6⟩));have nQ:=zHi (show k<=600 by omega)
   refine zaC 10 (fun bb w'=>bb=true\/(w'.cell? ⟨w.heap.size,1,none⟩=some (.slice (some ⟨gb,go,none⟩) ds.length mc)/\w'.cell? ⟨w.heap.size+2,0,none⟩=some (.slice A0 m0 q0)/\w'.cell? ⟨w.heap.size+2,1,none⟩=some (.slice A1 m1 q1)/\w'.cell? ⟨w.heap.size+2,2,none⟩=some (.slice A2 m2 q2)/\w'.cell? ⟨w.heap.size+2,3,none⟩=some (.slice A3 m3 q3)/\w'.cell? ⟨w.heap.size+2,4,none⟩=some (.slice A4 m4 q4)/\w'.cell? ⟨w.heap.size+2,5,none⟩=some (.slice A5 m5 q5)/\w'.cell? ⟨w.heap.size+2,6,none⟩=some (.slice A6 m6 q6)/\w'.cell? ⟨gb,go+k*7,none⟩=some (.int .i64 x.kind)/\w'.cell? ⟨gb,go+k*7+1,none⟩=some (.int .i64 x.day)/\w'.cell? ⟨gb,go+k*7+2,none⟩=some (.string x.place)/\w'.cell? ⟨gb,go+k*7+3,none⟩=some (.string x.frm)/\w'.cell? ⟨gb,go+k*7+4,none⟩=some (.slice EB x.to.length ec)/\w'.cell? ⟨gb,go+k*7+5,none⟩=some (.int .i64 x.cls)/\w'.cell? ⟨gb,go+k*7+6,none⟩=some (.int .i64 x.years))) Mco (.inr (aG.o _ (zaH (Below.refl _ _)))) ?hrest
   case hrest=>
    intro hHeld;clear x0 x1 s0 s1 s2 s3 s4 s5 s6 t0 t1 t2 t3 t4 t5 t6 r0 r1 r2 r3 r4 r5 r6 sf tf rf lx ls lt' lr;clear i0 i2 i3 i4 i5 i6;refine TkM 0 ?_;refine TkM 1 ?_;refine TkM 2 ?_;refine TkM 3 ?_;refine TkM 4 ?_;refine TkM 5 ?_;refine TkM 6 ?_;refine TkM 7 ?_;refine TkM 8 ?_;refine TkM 9 ?_;refine OnM 10 true fun K hK=> ?_
    go_simp
    refine(ig.o _ (zaH AC.o) nQ.o).mono ?_;rintro e w5 ⟨d0,d1,d2,d3,d4,d5,d6,rfl,aP,aq,aj⟩;have yh:=aP;obtain⟨⟨D0,e0,f0,rfl⟩,⟨D1,e1,f1,rfl⟩,⟨D2,e2,f2,rfl⟩,⟨D3,e3,f3,rfl⟩,⟨D4,e4,f4,rfl⟩,⟨D5,e5,f5,rfl⟩,⟨D6,e6,f6,rfl⟩⟩:=zck aP;have cH:Below W3.heap.size W3 w5:=(zaH (Below.refl _ _):Below W3.heap.size W3 W3.drew).trans aq;have fW:=zHi (cD.o.keep cH);have bi:=zHi (aH.o.trans (cH.mono aH.o.size));have aD:=zHi aj;have Bz:=zHi yh;have i1:=(zah cH ix).trans i1;have D8:gb<w5.heap.size:=by have:=cH.size;omega
    clear aq aj aP yh cH;obtain⟨x0,x1⟩:=zbu (fW.o).box;obtain⟨s0,s1,s2,s3,s4,s5,s6⟩:=zaG (fW.o).st;obtain⟨t0,t1,t2,t3,t4,t5,t6⟩:=zaG (fW.o).tcell;obtain⟨r0,r1,r2,r3,r4,r5,r6⟩:=zaG (fW.o).res;have sf:=frz (fW.o).st;have tf:=frz (fW.o).tcell;have rf:=frz (fW.o).res;have lx:=zab (fW.o).box;have ls:=zab (fW.o).st;have lt':=zab (fW.o).tcell;have lr:=zab (fW.o).res;refine NxM hK fun hHeld=> ?_
    clear hK K;refine FrM 11 true ?_;refine FrM 12 true ?_;refine FrM 13 true ?_;refine OnM 14 true fun K hK=> ?_
    go_simp
    refine NxM hK fun hHeld=> ?_
    clear hK K;refine OnM 15 true fun K hK=> ?_
    go_simp
    refine NxM hK fun hHeld=> ?_
    clear hK K;refine zaN Mco ?_ _;clear hHeld;obtain⟨W6,dF⟩: ∃W6,W6=((((((w5.setCell ⟨w.heap.size+2,0,none⟩ (.slice D0 e0 f0)).setCell ⟨w.heap.size+2,1,none⟩ (.slice D1 e1 f1)).setCell ⟨w.heap.size+2,2,none⟩ (.slice D2 e2 f2)).setCell ⟨w.heap.size+2,3,none⟩ (.slice D3 e3 f3)).setCell ⟨w.heap.size+2,4,none⟩ (.slice D4 e4 f4)).setCell ⟨w.heap.size+2,5,none⟩ (.slice D5 e5 f5)).setCell ⟨w.heap.size+2,6,none⟩ (.slice D6 e6 f6):=⟨_,rfl⟩
    have cR:OffS (w.heap.size+2) w5 W6:=by rw[dF];exact zc3 fW.o.st fW.o.sl
    have kR:Hid (W6.heap[TB]?=some (.cells #[b0,b1,b2,b3,b4,b5,b6] 36)):=by show _=_;rw[cR.same _ (by have:=fW.o.tb;omega)];exact fW.o.tcell
    have sZ:Hid (W6.heap[w.heap.size+1]?=some (.cells #[.slice none 0 0, .slice none 0 0, .slice none 0 0, .slice none 0 0, .slice none 0 0, .slice none 0 0, .slice none 0 0] 36)):=by show _=_;rw[cR.same _ Mcn];exact fW.o.res
    have Hc:Hid (W6.heap[w.heap.size]?=some (.cells #[.slice LA laws.length nc, .slice (some ⟨gb,go,none⟩) ds.length mc] 25)):=by show _=_;rw[cR.same _ Mcn];exact fW.o.box
    have s7:=cR.ne i1 rfl;have i1:=(cR.cell s7).trans i1;have mA:=cR.lt s7 D8;have wv:Below w.heap.size w W6:=by rw[dF];exact zc9 bi.o Mcn
    have GT:Hid (er=0->RepAt w.heap.size TB W6 laws ds LA (some ⟨gb,go,none⟩) nc mc s' told (.slice D0 e0 f0) (.slice D1 e1 f1) (.slice D2 e2 f2) (.slice D3 e3 f3) (.slice D4 e4 f4) (.slice D5 e5 f5) (.slice D6 e6 f6) b0 b1 b2 b3 b4 b5 b6):=zHi fun h0=>by
     rw[dF];exact fW.o.setS Bz.o (aD.o h0)
    rw[<-dF];have bV:=zHi wv;obtain⟨⟨B0,k0,p0,rfl⟩,⟨B1,k1,p1,rfl⟩,⟨B2,k2,p2,rfl⟩,⟨B3,k3,p3,rfl⟩,⟨B4,k4,p4,rfl⟩,⟨B5,k5,p5,rfl⟩,⟨B6,k6,p6,rfl⟩⟩:=zck (fW.o.sl2);clear x0 x1 s0 s1 s2 s3 s4 s5 s6 t0 t1 t2 t3 t4 t5 t6 r0 r1 r2 r3 r4 r5 r6 sf tf rf lx ls lt' lr;clear dF cR wv s7;by_cases iP:er=0
    ·subst iP;have HA:=zHi (GT.o rfl);have hx:=av.o;rw[if_neg Mcq]at hx;have dj:=AN.o rfl;obtain⟨x0,x1⟩:=zbu (HA.o).box;obtain⟨s0,s1,s2,s3,s4,s5,s6⟩:=zaG (HA.o).st;obtain⟨t0,t1,t2,t3,t4,t5,t6⟩:=zaG (HA.o).tcell;obtain⟨r0,r1,r2,r3,r4,r5,r6⟩:=zaG (HA.o).res;have sf:=frz (HA.o).st;have tf:=frz (HA.o).tcell;have rf:=frz (HA.o).res;have lx:=zab (HA.o).box;have ls:=zab (HA.o).st;have lt':=zab (HA.o).tcell;have lr:=zab (HA.o).res;by_cases zU:x.day<=upto
     ·rw[if_pos (by simpa using zU)]at hx;have eS:=zHi hx;have qw:=zHi dj;clear hx dj;go_wp2_with fail
      go_round
      case rel=>exact⟨k+1,s',s',x.day,_,_,_,_,_,_,_,_,_,_,_,_,_,_,am.o,by go_num,zHi HA.o.setT,qw,eS,zc9 bV.o (by have:=HA.o.tb;omega)⟩
      case measure=>have:=am.o;simp only[intOf];omega
     ·rw[if_neg (by simpa using zU)]at hx;have eS:=zHi hx;have qw:=zHi dj;clear hx dj;go_wp2_with fail
      go_round
      case rel=>exact⟨k+1,s',told,x.day,_,_,_,_,_,_,_,_,_,_,_,_,_,_,am.o,by go_num,HA,qw,eS,bV.o⟩
      case measure=>have:=am.o;simp only[intOf];omega
    ·have wF:(er != 0)=true:=by simpa using iP
     have HE:Hid (R=(told,k,er)):=by show _=_;rw[av.o,if_pos wF]
     have iK:=zHi iP;clear iP i1;obtain⟨t0,t1,t2,t3,t4,t5,t6⟩:=zaG kR.o;obtain⟨r0,r1,r2,r3,r4,r5,r6⟩:=zaG sZ.o;have rf:=frz sZ.o;have lr:=zab sZ.o;go_wp2_with fail
     refine bodyPost_ret (zeQ rfl _ rfl rfl rfl (zc0 sZ.o)) rfl ?_;rw[HE.o];exact⟨_,_,_,_,_,_,_,rfl,by first|rfl|exact⟨rfl,rfl,rfl,rfl,rfl,rfl,rfl⟩,zc9 bV.o (show w.heap.size<=w.heap.size+1 by omega),fun h=>absurd h iK.o⟩
  ·have ar: ¬(k:Int)<(ds.length:Int):=Mcn;have kx:k=ds.length:=Mcn;have HE:Hid (R=(told,ds.length,0)):=by show _=_;rw[HX.o,List.drop_of_length_le Mcn,zaV,kx]
   clear aa kx;obtain⟨⟨B0,k0,p0,rfl⟩,⟨B1,k1,p1,rfl⟩,⟨B2,k2,p2,rfl⟩,⟨B3,k3,p3,rfl⟩,⟨B4,k4,p4,rfl⟩,⟨B5,k5,p5,rfl⟩,⟨B6,k6,p6,rfl⟩⟩:=zck (HA.o.sl2);obtain⟨x0,x1⟩:=zbu (HA.o).box;obtain⟨s0,s1,s2,s3,s4,s5,s6⟩:=zaG (HA.o).st;obtain⟨t0,t1,t2,t3,t4,t5,t6⟩:=zaG (HA.o).tcell;obtain⟨r0,r1,r2,r3,r4,r5,r6⟩:=zaG (HA.o).res;have sf:=frz (HA.o).st;have tf:=frz (HA.o).tcell;have rf:=frz (HA.o).res;have lx:=zab (HA.o).box;have ls:=zab (HA.o).st;have lt':=zab (HA.o).tcell;have lr:=zab (HA.o).res;go_upto_region 16 with fail
   have aG:=zHi (fun(W:World) (h:Below WR.heap.size WR W)=>(show W.cell? ⟨w.heap.size,1,none⟩=some (.slice DA ds.length mc)/\W.cell? ⟨TB,0,none⟩=some (.slice B0 k0 p0)/\W.cell? ⟨TB,1,none⟩=some (.slice B1 k1 p1)/\W.cell? ⟨TB,2,none⟩=some (.slice B2 k2 p2)/\W.cell? ⟨TB,3,none⟩=some (.slice B3 k3 p3)/\W.cell? ⟨TB,4,none⟩=some (.slice B4 k4 p4)/\W.cell? ⟨TB,5,none⟩=some (.slice B5 k5 p5)/\W.cell? ⟨TB,6,none⟩=some (.slice B6 k6 p6) from⟨(zah h lx).trans x1,(zah h lt').trans t0,(zah h lt').trans t1,(zah h lt').trans t2,(zah h lt').trans t3,(zah h lt').trans t4,(zah h lt').trans t5,(zah h lt').trans t6⟩))
   have I7:Hid (∀a0 a1 a2 a3 a4 a5 a6:Value,((((((((WR.setCell ⟨w.heap.size+1,0,none⟩ a0).setCell ⟨w.heap.size+1,1,none⟩ a1).setCell ⟨w.heap.size+1,2,none⟩ a2).setCell ⟨w.heap.size+1,3,none⟩ a3).setCell ⟨w.heap.size+1,4,none⟩ a4).setCell ⟨w.heap.size+1,5,none⟩ a5).setCell ⟨w.heap.size+1,6,none⟩ a6).drew).cell? ⟨w.heap.size,1,none⟩=some (.slice DA ds.length mc)/\((((((((WR.setCell ⟨w.heap.size+1,0,none⟩ a0).setCell ⟨w.heap.size+1,1,none⟩ a1).setCell ⟨w.heap.size+1,2,none⟩ a2).setCell ⟨w.heap.size+1,3,none⟩ a3).setCell ⟨w.heap.size+1,4,none⟩ a4).setCell ⟨w.heap.size+1,5,none⟩ a5).setCell ⟨w.heap.size+1,6,none⟩ a6).drew).cell? ⟨TB,0,none⟩=some (.slice B0 k0 p0)/\((((((((WR.setCell ⟨w.heap.size+1,0,none⟩ a0).setCell ⟨w.heap.size+1,1,none⟩ a1).setCell ⟨w.heap.size+1,2,none⟩ a2).setCell ⟨w.heap.size+1,3,none⟩ a3).setCell ⟨w.heap.size+1,4,none⟩ a4).setCell ⟨w.heap.size+1,5,none⟩ a5).setCell ⟨w.heap.size+1,6,none⟩ a6).drew).cell? ⟨TB,1,none⟩=some (.slice B1 k1 p1)/\((((((((WR.setCell ⟨w.heap.size+1,0,none⟩ a0).setCell ⟨w.heap.size+1,1,none⟩ a1).setCell ⟨w.heap.size+1,2,none⟩ a2).setCell ⟨w.heap.size+1,3,none⟩ a3).setCell ⟨w.heap.size+1,4,none⟩ a4).setCell ⟨w.heap.size+1,5,none⟩ a5).setCell ⟨w.heap.size+1,6,none⟩ a6).drew).cell? ⟨TB,2,none⟩=some (.slice B2 k2 p2)/\((((((((WR.setCell ⟨w.heap.size+1,0,none⟩ a0).setCell ⟨w.heap.size+1,1,none⟩ a1).setCell ⟨w.heap.size+1,2,none⟩ a2).setCell ⟨w.heap.size+1,3,none⟩ a3).setCell ⟨w.heap.size+1,4,none⟩ a4).setCell ⟨w.heap.size+1,5,none⟩ a5).setCell ⟨w.heap.size+1,6,none⟩ a6).drew).cell? ⟨TB,3,none⟩=some (.slice B3 k3 p3)/\((((((((WR.setCell ⟨w.heap.size+1,0,none⟩ a0).setCell ⟨w.heap.size+1,1,none⟩ a1).setCell ⟨w.heap.size+1,2,none⟩ a2).setCell ⟨w.heap.size+1,3,none⟩ a3).setCell ⟨w.heap.size+1,4,none⟩ a4).setCell ⟨w.heap.size+1,5,none⟩ a5).setCell ⟨w.heap.size+1,6,none⟩ a6).drew).cell? ⟨TB,4,none⟩=some (.slice B4 k4 p4)/\((((((((WR.setCell ⟨w.heap.size+1,0,none⟩ a0).setCell ⟨w.heap.size+1,1,none⟩ a1).setCell ⟨w.heap.size+1,2,none⟩ a2).setCell ⟨w.heap.size+1,3,none⟩ a3).setCell ⟨w.heap.size+1,4,none⟩ a4).setCell ⟨w.heap.size+1,5,none⟩ a5).setCell ⟨w.heap.size+1,6,none⟩ a6).drew).cell? ⟨TB,5,none⟩=some (.slice B5 k5 p5)/\((((((((WR.setCell ⟨w.heap.size+1,0,none⟩ a0).setCell ⟨w.heap.size+1,1,none⟩ a1).setCell ⟨w.heap.size+1,2,none⟩ a2).setCell ⟨w.heap.size+1,3,none⟩ a3).setCell ⟨w.heap.size+1,4,none⟩ a4).setCell ⟨w.heap.size+1,5,none⟩ a5).setCell ⟨w.heap.size+1,6,none⟩ a6).drew).cell? ⟨TB,6,none⟩=some (.slice B6 k6 p6)):=zHi (fun a0 a1 a2 a3 a4 a5 a6=>by
    obtain⟨y0,y1,y2,y3,y4,y5,y6,y7⟩:=aG.o WR (Below.refl _ _);have ho:=zc3 (a0:=a0) (a1:=a1) (a2:=a2) (a3:=a3) (a4:=a4) (a5:=a5) (a6:=a6) HA.o.res rfl;have Gv:=HA.o.tb;have n0:w.heap.size≠w.heap.size+1:=Mcn;have nT:TB≠w.heap.size+1:=Mcn;simp only[World.cell?_drew]
    exact⟨(ho.cell n0).trans y0,(ho.cell nT).trans y1,(ho.cell nT).trans y2,(ho.cell nT).trans y3,(ho.cell nT).trans y4,(ho.cell nT).trans y5,(ho.cell nT).trans y6,(ho.cell nT).trans y7⟩)
   have zj:Hid (∀a0 a1 a2 a3 a4 a5 a6:Value,((((((((WR.setCell ⟨w.heap.size+1,0,none⟩ a0).setCell ⟨w.heap.size+1,1,none⟩ a1).setCell ⟨w.heap.size+1,2,none⟩ a2).setCell ⟨w.heap.size+1,3,none⟩ a3).setCell ⟨w.heap.size+1,4,none⟩ a4).setCell ⟨w.heap.size+1,5,none⟩ a5).setCell ⟨w.heap.size+1,6,none⟩ a6).drew).heap[w.heap.size+1]?=some (.cells #[a0,a1,a2,a3,a4,a5,a6] 36)):=zHi (fun a0 a1 a2 a3 a4 a5 a6=>(drew_heap _ _).trans (zc0 (a:=a0) (b:=a1) (c:=a2) (d:=a3) (e:=a4) (f:=a5) (h':=a6) HA.o.res));have BD:=zHi (fun a0 a1 a2 a3 a4 a5 a6=>(zc3 (a0:=a0) (a1:=a1) (a2:=a2) (a3:=a3) (a4:=a4) (a5:=a5) (a6:=a6) HA.o.res rfl).st HA.o.tAt);refine zaC 5 (fun bb w'=>bb=true\/(w'.cell? ⟨w.heap.size,1,none⟩=some (.slice DA ds.length mc)/\w'.cell? ⟨TB,0,none⟩=some (.slice B0 k0 p0)/\w'.cell? ⟨TB,1,none⟩=some (.slice B1 k1 p1)/\w'.cell? ⟨TB,2,none⟩=some (.slice B2 k2 p2)/\w'.cell? ⟨TB,3,none⟩=some (.slice B3 k3 p3)/\w'.cell? ⟨TB,4,none⟩=some (.slice B4 k4 p4)/\w'.cell? ⟨TB,5,none⟩=some (.slice B5 k5 p5)/\w'.cell? ⟨TB,6,none⟩=some (.slice B6 k6 p6))) Mco (.inr (aG.o _ (zaH (Below.refl _ _)))) ?hrest
   case hrest=>
    intro hHeld;clear x0 x1 s0 s1 s2 s3 s4 s5 s6 t0 t1 t2 t3 t4 t5 t6 r0 r1 r2 r3 r4 r5 r6 sf tf rf lx ls lt' lr;refine TkM 0 ?_;refine TkM 1 ?_;refine TkM 2 ?_;refine TkM 3 ?_;obtain⟨x0,x1⟩:=zbu (HA.o).box;obtain⟨s0,s1,s2,s3,s4,s5,s6⟩:=zaG (HA.o).st;obtain⟨t0,t1,t2,t3,t4,t5,t6⟩:=zaG (HA.o).tcell;obtain⟨r0,r1,r2,r3,r4,r5,r6⟩:=zaG (HA.o).res;have sf:=frz (HA.o).st;have tf:=frz (HA.o).tcell;have rf:=frz (HA.o).res;have lx:=zab (HA.o).box;have ls:=zab (HA.o).st;have lt':=zab (HA.o).tcell;have lr:=zab (HA.o).res;refine OnM 4 false fun K hK=> ?_
    go_simp
    refine NxM hK (fun hHeld=> ?_) (.inr (I7.o _ _ _ _ _ _ _));clear hK K;refine OnM 5 true fun K hK=> ?_
    go_simp
    refine NxM hK fun hHeld=> ?_
    clear hK K;refine OnM 6 true fun K hK=> ?_
    go_simp
    refine NxM hK fun hHeld=> ?_
    clear hK K;refine zaN Mco ?_ _;clear hHeld;go_wp2_with fail
    refine bodyPost_ret (zeQ rfl _ rfl rfl rfl (zj.o _ _ _ _ _ _ _)) rfl ?_;rw[HE.o];exact⟨_,_,_,_,_,_,_,rfl,by first|rfl|exact⟨rfl,rfl,rfl,rfl,rfl,rfl,rfl⟩,zaH (zc9 HB.o (show w.heap.size<=w.heap.size+1 by omega)),fun _=>(BD.o _ _ _ _ _ _ _).keep (zaH (Below.refl _ _))⟩
end Go.Proofs.YtjhbofabmpfniaaGreatDoor
