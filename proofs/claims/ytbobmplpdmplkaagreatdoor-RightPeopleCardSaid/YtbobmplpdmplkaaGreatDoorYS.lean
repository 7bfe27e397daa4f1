import Derived.Test.YtbobmplpdmplkaaGreatDoorXQ
set_option linter.all false
set_option maxRecDepth 100000
set_option maxHeartbeats 4000000
namespace Go.Proofs.YtbobmplpdmplkaaGreatDoor
open Go.RowKit Go.Shelf
attribute [local go_sem] World.cell?_alloc_mark zaf za4 zam za7 zaw zax zay zaz za0 za1 za2
attribute [local go_sem] zan zac
theorem zjW{laws:List Law}{s s':St}{d:Deed}(ht:zbq laws s d=(s',0)):s'.wills.length<=s.wills.length+1:=by
 have key:∀ {x:St×Int},x=(s',0)->x.1.wills.length<=s.wills.length+1->s'.wills.length<=s.wills.length+1:=fun e h=>by rw[e]at h;exact h
 refine key ht ?_;clear key ht;have h0:s.wills.length<=s.wills.length+1:=Nat.le_succ _;unfold zbq;split
 ·unfold zcO;repeat(first|split|exact h0)
 split
 ·unfold zbp;exact Mbn
 split
 ·unfold zaZ;exact Mbn
 split
 ·unfold zcZ;exact Mbn
 split
 ·unfold zgK;split
  ·exact h0
  ·simp
 split
 ·unfold zb7;repeat(first|split|exact h0)
 split
 ·unfold zcE;repeat(first|split|exact h0)
 split
 ·unfold zdq;repeat(first|split|exact h0)
 ·unfold zdH;repeat(first|split|exact h0)
theorem zok{k:Nat}{s:St}{wd rd:List Deed}(h:FewS k s)(hw:s.wills.length<=k)(hk:k<=1000)(hL:StLink s wd rd):StFew s wd rd:=
 ⟨by have:=h.kids;omega,by have:=h.marr;omega,by have:=h.dead;omega,by rw[hL.wills,List.length_map]at hw;omega,by have:=h.ren;rw[hL.ren,List.length_map]at this;omega,by have:=h.graves;omega⟩
theorem next_same{laws:List Law}{s:St}{ds:List Deed}{d:Deed}{k:Nat}(hc:zaH d=0)(hk:ds.length=k):nxP laws s ds d=zck laws s k (zmW ds) d:=by
 subst hk;unfold nxP zck;rw[if_neg (show¬(zaH d != 0)=true by rw[hc];decide)];split
 ·rfl
 ·cases hg:ds.getLast? with
  |none=>
   have h0:=(zeU hc).day.1;have hn:¬d.day<0:=Mcy;simp[zmW,hg,hn]
  |some x=>simp[zmW,hg]
theorem est_heirs{laws:List Law}{s:St}{n:ByteArray}{day last:Int}{k:Nat}{hs:Parts}(hG:GoodSt s last)(hF:FewS k s)(hk:k<=900)(bz:zaD laws=0)(h:zcK s (zba laws day) n=some hs):hs.length<=1000/\GoodParts hs/\sumQ hs<=1/\zaE hs=false:=by
 have bA:=zeW bz day;have bN:=ze3 (hG.wills n) bA h;have jo:=(zfN (s:=s) (n:=n) (hG.wills n) bA).1 hs h;have kZ:=ziK (s:=s) (law:=zba laws day) (n:=n) (by rw[jo];exact bN.1);rw[jo]at kZ;have h1:=hF.wills n;have h2:=hF.kids;simp only at kZ;exact⟨by omega,bN.1,by rw[bN.2.1];exact Rat.le_refl,bN.2.2⟩
theorem zp1(laws:List Law)(s:St)(last:Int)(k:Nat)(d:Deed)(B:Option Addr)(c:Nat)(ds:List Deed)(DB:Option Addr)(dc:Nat)(w:World){a0 a1 a2 a3 a4 a5 a6:Value}(hs:StAt w laws s a0 a1 a2 a3 a4 a5 a6)(hG:GoodSt s last)(hF:FewS k s)(hw:s.wills.length<=k)(hk:k<=600)(bz:zaD laws=0)
 (hd:zaH d=0)(ay:d.to.length<=c)(hS:Sl w 3 RPart.cells B d.to)(ke:SlW w 7 zf9 DB ds)(n:Nat)(hn:n=ds.length):Calls Tryz.prog 69 #[.agg #[a0,a1,a2,a3,a4,a5,a6],.slice DB n dc,d.v B c] w (zfE w laws (nxP laws s ds d)):=by
 subst hn;obtain⟨wd,rd,LA,CA,MA,DA,WA,RA,GA,c0,c1,c2,c3,c4,c5,c6,rfl,rfl,rfl,rfl,rfl,rfl,rfl,hI,hL⟩:=hs;have hf:=zok hF hw Mcy hL;refine rNext_of laws s wd rd LA CA MA DA WA RA GA c0 c1 c2 c3 c4 c5 c6 d B c w hI hL hf (zeU hd) hS ds DB dc ke ay (fun g hg=>⟨hG.graves g hg,by have:=(hF.held g hg).1;omega⟩) (fun g hg=>(hF.held g hg).2.2) fun W hB=>?_
 exact rDies_any laws s wd rd LA CA MA DA WA RA GA c0 c1 c2 c3 c4 c5 c6 d.frm d.day W (hI.keep hB) hL hf bz (hG.wills _) hG.acyc (hF.wills _) (fun g hg=>⟨hG.graves g hg,by have:=(hF.held g hg).1;omega⟩) (fun g hg=>by have:=(hF.held g hg).2.1;omega) fun hs h=>est_heirs hG hF Mcy bz h
def zkO(w:World)(laws:List Law)(R:St×Nat×Int)(e:Ending)(w':World):Prop:=
 ∃a0 a1 a2 a3 a4 a5 a6,e=.returned (.tuple #[.agg #[a0,a1,a2,a3,a4,a5,a6],.int .i64 (R.2.1:Int),.int .i64 R.2.2])/\([a0,a1,a2,a3,a4,a5,a6].all zcD)=true/\Below w.heap.size w w'/\(R.2.2=0->StAt w' laws R.1 a0 a1 a2 a3 a4 a5 a6)
theorem st_zero{w:World}{laws:List Law}{LA:Option Addr}{c:Nat}(h:Sl w 4 Law.cells LA laws):StAt w laws zb3 (.slice LA laws.length c) (.slice none 0 0) (.slice none 0 0) (.slice none 0 0) (.slice none 0 0) (.slice none 0 0) (.slice none 0 0):=
 ⟨[],[],LA,none,none,none,none,none,none,c,0,0,0,0,0,0,rfl,rfl,rfl,rfl,rfl,rfl,rfl,⟨h,Sl.nil,Sl.nil,Sl.nil,fun h=>absurd h McB,fun h=>absurd h McB,fun h=>absurd h (by simp[zb3]),Nat.le_refl _⟩,⟨rfl,by simp,rfl,by simp⟩⟩
theorem zeJ{w:World}{B:Nat}{x0 x1 x2 x3 x4 x5 x6 y z:Value}{fn:Func}{p q r:Tmp}(h:fn.results= #[.cell p 44,.tmp q,.tmp r])(tmps:Array Value)(hp:tmps.getD p undef=.pointer (some ⟨B,0,none⟩))(hq:tmps.getD q undef=y)(hr:tmps.getD r undef=z)
 (hx:w.heap[B]?=some (.cells #[x0,x1,x2,x3,x4,x5,x6] 44)):(results fn tmps).run Tryz.prog w=.ok (.tuple #[.agg #[x0,x1,x2,x3,x4,x5,x6],y,z]) w:=by
 obtain⟨h0,h1,h2,h3,h4,h5,h6⟩:=zaF hx;clear hx;have hc:(results fn tmps).run Tryz.prog w=((asAddr (tmps.getD p undef)).run Tryz.prog w).andThen fun x w₁=>((loadVar 44 x).run Tryz.prog w₁).andThen fun v w₂=> .ok (.tuple #[v,tmps.getD q undef,tmps.getD r undef]) w₂:=by
  simp only[results,h];simp[Sem.run_bind,Result.andThen]
 rw[hc,hp,hq,hr];go_simp
theorem drew_heap(W:World)(k:Nat):W.drew.heap[k]?=W.heap[k]?:=rfl
structure RepAt (base TB:Nat) (W:World) (laws:List Law) (ds:List Deed) (LA DA:Option Addr) (nc mc:Nat) (s told:St) (a0 a1 a2 a3 a4 a5 a6 b0 b1 b2 b3 b4 b5 b6:Value):Prop where
 box:W.heap[base]?=some (.cells #[.slice LA laws.length nc,.slice DA ds.length mc] 25)
 res:W.heap[base+1]?=some (.cells #[.slice none 0 0,.slice none 0 0,.slice none 0 0,.slice none 0 0,.slice none 0 0,.slice none 0 0,.slice none 0 0] 44)
 st:W.heap[base+2]?=some (.cells #[a0,a1,a2,a3,a4,a5,a6] 44)
 tcell:W.heap[TB]?=some (.cells #[b0,b1,b2,b3,b4,b5,b6] 44)
 tb:base+2<TB
 sl:([a0,a1,a2,a3,a4,a5,a6].all zcD)=true
 sl2:([b0,b1,b2,b3,b4,b5,b6].all zcD)=true
 sAt:StAt W laws s a0 a1 a2 a3 a4 a5 a6
 tAt:StAt W laws told b0 b1 b2 b3 b4 b5 b6
section
variable {base TB:Nat} {W W':World} {laws:List Law} {ds:List Deed} {LA DA:Option Addr} {nc mc:Nat} {s told s':St} {a0 a1 a2 a3 a4 a5 a6 b0 b1 b2 b3 b4 b5 b6 d0 d1 d2 d3 d4 d5 d6:Value}
theorem RepAt.keep(h:RepAt base TB W laws ds LA DA nc mc s told a0 a1 a2 a3 a4 a5 a6 b0 b1 b2 b3 b4 b5 b6)(hB:Below W.heap.size W W'):RepAt base TB W' laws ds LA DA nc mc s told a0 a1 a2 a3 a4 a5 a6 b0 b1 b2 b3 b4 b5 b6:=
 ⟨(hB.block _ (zab h.box)).trans h.box,(hB.block _ (zab h.res)).trans h.res,(hB.block _ (zab h.st)).trans h.st,(hB.block _ (zab h.tcell)).trans h.tcell,h.tb,h.sl,h.sl2,h.sAt.keep hB,h.tAt.keep hB⟩
theorem zp2{w:World}{b k:Nat}{x:Obj}{a0 a1 a2 a3 a4 a5 a6:Value}(ai:k≠b)(h:w.heap[k]?=some x):(((((((w.setCell ⟨b,0,none⟩ a0).setCell ⟨b,1,none⟩ a1).setCell ⟨b,2,none⟩ a2).setCell ⟨b,3,none⟩ a3).setCell ⟨b,4,none⟩ a4).setCell ⟨b,5,none⟩ a5).setCell ⟨b,6,none⟩ a6).heap[k]?=some x:=
 J_ne ai (J_ne ai (J_ne ai (J_ne ai (J_ne ai (J_ne ai (J_ne ai h))))))
theorem RepAt.setS(h:RepAt base TB W laws ds LA DA nc mc s told a0 a1 a2 a3 a4 a5 a6 b0 b1 b2 b3 b4 b5 b6)(aV:([d0,d1,d2,d3,d4,d5,d6].all zcD)=true)(hs:StAt W laws s' d0 d1 d2 d3 d4 d5 d6):
 RepAt base TB (((((((W.setCell ⟨base+2,0,none⟩ d0).setCell ⟨base+2,1,none⟩ d1).setCell ⟨base+2,2,none⟩ d2).setCell ⟨base+2,3,none⟩ d3).setCell ⟨base+2,4,none⟩ d4).setCell ⟨base+2,5,none⟩ d5).setCell ⟨base+2,6,none⟩ d6) laws ds LA DA nc mc s' told d0 d1 d2 d3 d4 d5 d6 b0 b1 b2 b3 b4 b5 b6:=
 ⟨zp2 Mcy h.box,zp2 Mcy h.res,zcy h.st,zp2 (by have:=h.tb;omega) h.tcell,h.tb,aV,h.sl2,(zc3 h.st h.sl).st hs,(zc3 h.st h.sl).st h.tAt⟩
theorem RepAt.setT(h:RepAt base TB W laws ds LA DA nc mc s told a0 a1 a2 a3 a4 a5 a6 b0 b1 b2 b3 b4 b5 b6):
 RepAt base TB (((((((W.setCell ⟨TB,0,none⟩ a0).setCell ⟨TB,1,none⟩ a1).setCell ⟨TB,2,none⟩ a2).setCell ⟨TB,3,none⟩ a3).setCell ⟨TB,4,none⟩ a4).setCell ⟨TB,5,none⟩ a5).setCell ⟨TB,6,none⟩ a6) laws ds LA DA nc mc s s a0 a1 a2 a3 a4 a5 a6 a0 a1 a2 a3 a4 a5 a6:=
 ⟨zp2 (by have:=h.tb;omega) h.box,zp2 (by have:=h.tb;omega) h.res,zp2 (by have:=h.tb;omega) h.st,zcy h.tcell,h.tb,h.sl,h.sl,(zc3 h.tcell h.sl2).st h.sAt,(zc3 h.tcell h.sl2).st h.sAt⟩
end
theorem zjc(laws:List Law)(ds:List Deed)(upto:Int)(LA:Option Addr)(n nc:Nat)(DA:Option Addr)(m mc:Nat)(w:World)(hR:RightsIn w laws ds LA n nc DA m mc)(hO:∀d∈ds,zdt d)(bu:ds.length<=500):
 Calls Tryz.prog 36 #[.agg #[.slice LA n nc,.slice DA m mc],.int .i64 upto] w (zkO w laws (zaL laws ds upto)):=by
 obtain⟨rfl,rfl,CZ,nE,ii,ke⟩:=hR;obtain⟨R,hR⟩:∃R,R=zaL laws ds upto:=⟨_,rfl⟩
 rw[<-hR];unfold zaL at hR;obtain⟨ct,eu,fU,HO,qG⟩:=yH5 (fun W (hB:Below w.heap.size w W)=>zjr laws LA laws.length nc W rfl (ii.keep hB)) (fun W (hB:Below w.heap.size w W)=>(ii.keep hB:Sl W 4 Law.cells LA laws)) (fun W (hB:Below w.heap.size w W)=>(ke.keep zcc hB:SlW W 7 zf9 DA ds)) hO hR;unfold zkO;clear ii ke hO hR;go_enter Tryz.func36,Tryz.ntmps36
 go_upto_region 2 with fail
 obtain⟨W0,am⟩:∃W0,W0=((w.alloc (.cells #[.slice LA laws.length nc,.slice DA ds.length mc] 25)).alloc (.cells #[.slice none 0 0,.slice none 0 0,.slice none 0 0,.slice none 0 0,.slice none 0 0,.slice none 0 0,.slice none 0 0] 44)).alloc (.cells #[.slice LA laws.length nc,.slice none 0 0,.slice none 0 0,.slice none 0 0,.slice none 0 0,.slice none 0 0,.slice none 0 0] 44):=⟨_,rfl⟩
 have aK:Below w.heap.size w W0:=Mdb;have g0:W0.heap[w.heap.size]?=some (.cells #[.slice LA laws.length nc,.slice DA ds.length mc] 25):=Mdy;have g1:W0.heap[w.heap.size+1]?=some (.cells #[.slice none 0 0,.slice none 0 0,.slice none 0 0,.slice none 0 0,.slice none 0 0,.slice none 0 0,.slice none 0 0] 44):=by rw[am];exact zal (zar _ _ _ McB)
 have g2:W0.heap[w.heap.size+2]?=some (.cells #[.slice LA laws.length nc,.slice none 0 0,.slice none 0 0,.slice none 0 0,.slice none 0 0,.slice none 0 0,.slice none 0 0] 44):=by rw[am];exact zar _ _ _ McB
 rw[<-am];have aj:=zHi aK;have aw:=aK.size;clear am aK;obtain⟨x0,x1⟩:=zbt g0;have lx:=zab g0;go_upto_region 3 with(go_at_call 67;go_must(refine(ct.o _ aj.o).mono ?_);rintro e wq ⟨rfl,z,rfl⟩)
 obtain⟨W1,aT⟩:∃W1,W1=W0.ext z:=⟨_,rfl⟩
 have aS:Below W0.heap.size W0 W1:=Mds;rw[<-aT];have ie:=aS.size;have g0:=(aS.block _ (zab g0)).trans g0;have g1:=(aS.block _ (zab g1)).trans g1;have l2:=zab g2;have g2:=(aS.block _ (zab g2)).trans g2;have aA:=zHi (aj.o.trans (aS.mono aw));clear aT aS x0 x1 lx;obtain⟨s0,s1,s2,s3,s4,s5,s6⟩:=zaF g2;have ls:=zab g2;by_cases hce:zaD laws=0;rotate_left 1
 ·have HE:Hid (R=(zb3,0,zaD laws)):=by show _=_;rw[qG.o,if_pos (by simpa using hce)]
  have kW:(zaD laws != 0)=true:=by simpa using hce
  have gI:=zHi hce;obtain⟨r0,r1,r2,r3,r4,r5,r6⟩:=zaF g1;have rf:=frz g1;have lr:=zab g1;generalize zaD laws=ce at*;clear hce;go_wp2_with fail
  refine bodyPost_ret (zeJ rfl _ rfl rfl rfl (zcy g1)) rfl ?_;rw[HE.o];exact⟨_,_,_,_,_,_,_,rfl,by first|rfl|exact⟨rfl,rfl,rfl,rfl,rfl,rfl,rfl⟩,zcA aA.o (show w.heap.size<=w.heap.size+1 by omega),fun h=>absurd h gI.o⟩
 have Bv:Hid (R=zaX laws upto (ds.drop 0) zb3 zb3 0 0):=by show _=_;rw[qG.o,if_neg (by simp[hce])];rfl
 rw[hce];have ew:=zHi hce;clear hce qG;go_upto_region 6 with fail
 obtain⟨TB,Cd⟩:∃TB,TB=W1.heap.size:=⟨_,rfl⟩
 obtain⟨W2,bP⟩:∃W2,W2=W1.alloc (.cells #[.slice LA laws.length nc,.slice none 0 0,.slice none 0 0,.slice none 0 0,.slice none 0 0,.slice none 0 0,.slice none 0 0] 44):=⟨_,rfl⟩
 have bs:Below W1.heap.size W1 W2:=by rw[bP];exact zad (Below.refl _ _) _
 have oB:=aA.o.trans (bs.mono aA.o.size);have aJ:=zHi oB;have uY:Hid (RepAt w.heap.size TB W2 laws ds LA DA nc mc zb3 zb3 (.slice LA laws.length nc) (.slice none 0 0) (.slice none 0 0) (.slice none 0 0) (.slice none 0 0) (.slice none 0 0) (.slice none 0 0) (.slice LA laws.length nc) (.slice none 0 0) (.slice none 0 0) (.slice none 0 0) (.slice none 0 0) (.slice none 0 0) (.slice none 0 0)):=zHi
  ⟨(bs.block _ (zab g0)).trans g0,(bs.block _ (zab g1)).trans g1,(bs.block _ (zab g2)).trans g2,by rw[bP,Cd];exact zar _ _ _ rfl,by omega,rfl,rfl,st_zero (eu.o _ oB),st_zero (eu.o _ oB)⟩
 rw[<-bP,<-Cd];clear bP Cd g0 g1 g2 bs oB s0 s1 s2 s3 s4 s5 s6 ls l2;go_upto_region 7 with fail
 go_loopw [10] (fun v wr=>∃(k:Nat) (s told:St) (last:Int) (a0 a1 a2 a3 a4 a5 a6 b0 b1 b2 b3 b4 b5 b6:Value),k<=ds.length/\v=.int .i64 k/\Hid (RepAt w.heap.size TB wr laws ds LA DA nc mc s told a0 a1 a2 a3 a4 a5 a6 b0 b1 b2 b3 b4 b5 b6)/\Hid (GoodSt s last/\FewS k s/\s.wills.length<=k/\last=zmW (ds.take k))/\Hid (R=zaX laws upto (ds.drop k) s told k last)/\Below w.heap.size w wr) (fun v _=>ds.length-(intOf v).toNat)
 case atStart=>exact⟨0,zb3,zb3,0,_,_,_,_,_,_,_,_,_,_,_,_,_,_,Nat.zero_le _,rfl,uY,zHi ⟨zeV 0,zg7,Nat.le_refl _,rfl⟩,Bv,aJ.o⟩
 case round=>
  obtain⟨k,s,told,last,a0,a1,a2,a3,a4,a5,a6,b0,b1,b2,b3,b4,b5,b6,hk,rfl,HA,HI,HX,hB⟩:=hrel;obtain⟨WR,oy⟩:∃WR,WR=wr:=⟨_,rfl⟩
  subst oy;have aG:=hB.size;have HB:=zHi hB;by_cases ae:k<ds.length
  ·obtain⟨gb,go,cs,lZ,dJ,dq,ah⟩:=(fU.o WR hB).at ae;have gy:ds.drop k=ds[k]::ds.drop (k+1):=List.drop_eq_getElem_cons ae;have hx:=HX.o;rw[gy,zaX]at hx;have oM:=zoW ae;have kp:=HO.o ds[k] (List.getElem_mem ae);have cn:(ds.take k).length=k:=Mdg;have ak:=zHi ae;generalize ds[k]=x at*;obtain⟨EB,ec,tP,rfl,hP⟩:=dq;have i0:WR.cell? ⟨gb,go+k*7,none⟩=some (.int .i64 x.kind):=McZ;have i1:WR.cell? ⟨gb,go+k*7+1,none⟩=some (.int .i64 x.day):=ah 1 _ rfl;have i2:WR.cell? ⟨gb,go+k*7+2,none⟩=some (.string x.place):=ah 2 _ rfl;have i3:WR.cell? ⟨gb,go+k*7+3,none⟩=some (.string x.frm):=ah 3 _ rfl;have i4:WR.cell? ⟨gb,go+k*7+4,none⟩=some (.slice EB x.to.length ec):=ah 4 _ rfl;have i5:WR.cell? ⟨gb,go+k*7+5,none⟩=some (.int .i64 x.cls):=ah 5 _ rfl;have i6:WR.cell? ⟨gb,go+k*7+6,none⟩=some (.int .i64 x.years):=ah 6 _ rfl;have ar:(k:Int)<(ds.length:Int):=Mcy;have aQ:(0:Int)<=(k:Int):=Mcy;have Kx:(k:Int)<=(mc:Int):=Mcy;have Ky:k<=mc:=Mcy;subst lZ;obtain⟨kP,lF⟩:=yH2 (fun W (h:Below WR.heap.size WR W)=>(hP.keep h:Sl W 3 RPart.cells EB x.to)) (fun W (h:Below WR.heap.size WR W)=>zjq x EB ec W kp (hP.keep h));unfold Deed.v at lF;obtain⟨⟨A0,m0,q0,rfl⟩,⟨A1,m1,q1,rfl⟩,⟨A2,m2,q2,rfl⟩,⟨A3,m3,q3,rfl⟩,⟨A4,m4,q4,rfl⟩,⟨A5,m5,q5,rfl⟩,⟨A6,m6,q6,rfl⟩⟩:=zc2 (HA.o.sl);obtain⟨x0,x1⟩:=zbt (HA.o).box;obtain⟨s0,s1,s2,s3,s4,s5,s6⟩:=zaF (HA.o).st;obtain⟨t0,t1,t2,t3,t4,t5,t6⟩:=zaF (HA.o).tcell;obtain⟨r0,r1,r2,r3,r4,r5,r6⟩:=zaF (HA.o).res;have sf:=frz (HA.o).st;have tf:=frz (HA.o).tcell
   have rf:=frz (HA.o).res;have lx:=zab (HA.o).box;have ls:=zab (HA.o).st;have lt':=zab (HA.o).tcell;have lr:=zab (HA.o).res;by_cases iE:zaH x=0;rotate_left 1
   ·have cW:zck laws s k last x=(s,zaH x):=by unfold zck;rw[if_pos (by simpa using iE)]
    have HE:Hid (R=(told,k,zaH x)):=by show _=_;rw[hx,cW,if_pos (by simpa using iE)]
    have gI:=zHi iE;have kW:(zaH x==0)=false:=by simpa using iE
    have wJ:(zaH x != 0)=true:=by simpa using iE
    clear hx cW oM kp cn ah hP tP ae gy iE;generalize zaH x=ce at*;go_upto_region 10 with(go_at_call 68;go_must(refine(lF.o _ (Below.refl _ _)).mono ?_);rintro e wq ⟨rfl,z,rfl⟩)
    obtain⟨W3,aY⟩:∃W3,W3=WR.ext z:=⟨_,rfl⟩
    have ax:Below WR.heap.size WR W3:=by rw[aY];exact zaq _ _
    rw[<-aY];obtain⟨cH,aD⟩:=yH2 (HA.o.keep ax) (hB.trans (ax.mono aG));clear x0 x1 s0 s1 s2 s3 s4 s5 s6 t0 t1 t2 t3 t4 t5 t6 r0 r1 r2 r3 r4 r5 r6 sf tf rf lx ls lt' lr;clear aY ax i0 i1 i2 i3 i4 i5 i6;obtain⟨⟨B0,k0,p0,rfl⟩,⟨B1,k1,p1,rfl⟩,⟨B2,k2,p2,rfl⟩,⟨B3,k3,p3,rfl⟩,⟨B4,k4,p4,rfl⟩,⟨B5,k5,p5,rfl⟩,⟨B6,k6,p6,rfl⟩⟩:=zc2 ((cH.o).sl2);obtain⟨x0,x1⟩:=zbt ((cH.o)).box;obtain⟨s0,s1,s2,s3,s4,s5,s6⟩:=zaF ((cH.o)).st;obtain⟨t0,t1,t2,t3,t4,t5,t6⟩:=zaF ((cH.o)).tcell;obtain⟨r0,r1,r2,r3,r4,r5,r6⟩:=zaF ((cH.o)).res;have sf:=frz ((cH.o)).st;have tf:=frz ((cH.o)).tcell;have rf:=frz ((cH.o)).res;have lx:=zab ((cH.o)).box;have ls:=zab ((cH.o)).st;have lt':=zab ((cH.o)).tcell;have lr:=zab ((cH.o)).res;go_wp2_with fail
    refine bodyPost_ret (zeJ rfl _ rfl rfl rfl (zcy (cH.o).res)) rfl ?_;rw[HE.o];exact⟨_,_,_,_,_,_,_,rfl,by first|rfl|exact⟨rfl,rfl,rfl,rfl,rfl,rfl,rfl⟩,zcA (aD.o) (show w.heap.size<=w.heap.size+1 by omega),fun h=>absurd h gI.o⟩
   rw[iE]at lF;have l8:=next_same (laws:=laws) (s:=s) iE cn;obtain⟨hG,hF,cG,G8⟩:=HI.o;rw[<-G8]at l8;have jV:=zHi (fun W (h:Below WR.heap.size WR W) (hL:k<=600)=>zp1 laws s last k x EB ec (ds.take k) (some ⟨gb,go,none⟩) mc W (HA.o.sAt.keep h) hG hF cG hL ew.o iE tP (hP.keep h) ((fU.o W (hB.trans (h.mono aG))).take k) k cn.symm);rw[l8]at jV;have Gh:=zeq (laws:=laws) (s:=s) (k:=k) (last:=last) (d:=x);have dp:(zck laws s k last x).2=0->GoodSt (zck laws s k last x).1 x.day/\FewS (k+1) (zck laws s k last x).1/\(zck laws s k last x).1.wills.length<=k+1/\x.day=zmW (ds.take (k+1)):=fun h0=>by
    obtain⟨_,h2,h3,h4⟩:=Gh h0;have ht:zbq laws s x=((zck laws s k last x).1,0):=by rw[<-h4];exact Prod.ext rfl h0
    exact⟨zgT hG (zeU iE) h3 ew.o ht,zkC hF h2 hG (zeU iE) h3 ew.o ht,by have:=zjW ht;omega,oM.symm⟩
   obtain⟨AC,au⟩:=yH2 dp hx;clear hx dp Gh l8 hG hF cG G8 oM kp ah hP gy ae iE;generalize zck laws s k last x=N at*;obtain⟨s',er⟩:=N;simp only at AC au;go_upto_region 11 with(go_at_call 68;go_must(refine(lF.o _ (Below.refl _ _)).mono ?_);rintro e wq ⟨rfl,z,rfl⟩)
   obtain⟨W3,aY⟩:∃W3,W3=WR.ext z:=⟨_,rfl⟩
   have ax:Below WR.heap.size WR W3:=by rw[aY];exact zaq _ _
   rw[<-aY];have vA:=ax.size;have ip:gb<W3.heap.size:=Mcy;have i0:=(zah ax dJ).trans i0;have i1:=(zah ax dJ).trans i1;have i2:=(zah ax dJ).trans i2;have i3:=(zah ax dJ).trans i3;have i4:=(zah ax dJ).trans i4;have i5:=(zah ax dJ).trans i5;have i6:=(zah ax dJ).trans i6;obtain⟨cH,aD,Ar⟩:=yH3 (HA.o.keep ax) (hB.trans (ax.mono aG)) ax;clear x0 x1 s0 s1 s2 s3 s4 s5 s6 t0 t1 t2 t3 t4 t5 t6 r0 r1 r2 r3 r4 r5 r6 sf tf rf lx ls lt' lr;clear aY ax hB;obtain⟨x0,x1⟩:=zbt (cH.o).box;obtain⟨s0,s1,s2,s3,s4,s5,s6⟩:=zaF (cH.o).st;obtain⟨t0,t1,t2,t3,t4,t5,t6⟩:=zaF (cH.o).tcell;obtain⟨r0,r1,r2,r3,r4,r5,r6⟩:=zaF (cH.o).res;have sf:=frz (cH.o).st;have tf:=frz (cH.o).tcell;have rf:=frz (cH.o).res;have lx:=zab (cH.o).box;have ls:=zab (cH.o).st;have lt':=zab (cH.o).tcell;have lr:=zab (cH.o).res
   have aE:=zHi (fun(W:World) (h:Below W3.heap.size W3 W)=>(show W.cell? ⟨w.heap.size,1,none⟩=some (.slice (some ⟨gb,go,none⟩) ds.length mc)/\W.cell? ⟨w.heap.size+2,0,none⟩=some (.slice A0 m0 q0)/\W.cell? ⟨w.heap.size+2,1,none⟩=some (.slice A1 m1 q1)/\W.cell? ⟨w.heap.size+2,2,none⟩=some (.slice A2 m2 q2)/\W.cell? ⟨w.heap.size+2,3,none⟩=some (.slice A3 m3 q3)/\W.cell? ⟨w.heap.size+2,4,none⟩=some (.slice A4 m4 q4)/\W.cell? ⟨w.heap.size+2,5,none⟩=some (.slice A5 m5 q5)/\W.cell? ⟨w.heap.size+2,6,none⟩=some (.slice A6 m6 q6)/\W.cell? ⟨gb,go+k*7,none⟩=some (.int .i64 x.kind)/\W.cell? ⟨gb,go+k*7+1,none⟩=some (.int .i64 x.day)/\W.cell? ⟨gb,go+k*7+2,none⟩=some (.string x.place)/\W.cell? ⟨gb,go+k*7+3,none⟩=some (.string x.frm)/\W.cell? ⟨gb,go+k*7+4,none⟩=some (.slice EB x.to.length ec)/\W.cell? ⟨gb,go+k*7+5,none⟩=some (.int .i64 x.cls)/\W.cell? ⟨gb,go+k*7+6,none⟩=some (.int .i64 x.years) from⟨(zah h lx).trans x1,(zah h ls).trans s0,(zah h ls).trans s1,(zah h ls).trans s2,(zah h ls).trans s3,(zah h ls).trans s4,(zah h ls).trans s5,(zah h ls).trans s6,(zah h ip).trans i0,(zah h ip).trans i1,(zah h ip).trans i2,(zah h ip).trans i3,(zah h ip).trans i4,(zah h ip).trans i5,(zah h ip).trans i6⟩));have nX:=zHi (show k<=600 by omega)
   refine zaB 10 (fun bb w'=>bb=true\/(w'.cell? ⟨w.heap.size,1,none⟩=some (.slice (some ⟨gb,go,none⟩) ds.length mc)/\w'.cell? ⟨w.heap.size+2,0,none⟩=some (.slice A0 m0 q0)/\w'.cell? ⟨w.heap.size+2,1,none⟩=some (.slice A1 m1 q1)/\w'.cell? ⟨w.heap.size+2,2,none⟩=some (.slice A2 m2 q2)/\w'.cell? ⟨w.heap.size+2,3,none⟩=some (.slice A3 m3 q3)/\w'.cell? ⟨w.heap.size+2,4,none⟩=some (.slice A4 m4 q4)/\w'.cell? ⟨w.heap.size+2,5,none⟩=some (.slice A5 m5 q5)/\w'.cell? ⟨w.heap.size+2,6,none⟩=some (.slice A6 m6 q6)/\w'.cell? ⟨gb,go+k*7,none⟩=some (.int .i64 x.kind)/\w'.cell? ⟨gb,go+k*7+1,none⟩=some (.int .i64 x.day)/\w'.cell? ⟨gb,go+k*7+2,none⟩=some (.string x.place)/\w'.cell? ⟨gb,go+k*7+3,none⟩=some (.string x.frm)/\w'.cell? ⟨gb,go+k*7+4,none⟩=some (.slice EB x.to.length ec)/\w'.cell? ⟨gb,go+k*7+5,none⟩=some (.int .i64 x.cls)/\w'.cell? ⟨gb,go+k*7+6,none⟩=some (.int .i64 x.years))) Mcz (.inr (aE.o _ (zaK (Below.refl _ _)))) ?hrest
   case hrest=>
    intro hHeld;clear x0 x1 s0 s1 s2 s3 s4 s5 s6 t0 t1 t2 t3 t4 t5 t6 r0 r1 r2 r3 r4 r5 r6 sf tf rf lx ls lt' lr;clear i0 i2 i3 i4 i5 i6;refine TkM 0 ?_;refine TkM 1 ?_;refine TkM 2 ?_;refine TkM 3 ?_;refine TkM 4 ?_;refine TkM 5 ?_;refine TkM 6 ?_;refine TkM 7 ?_;refine TkM 8 ?_;refine TkM 9 ?_;refine OnM 10 true fun K hK=>?_
    go_simp
    refine(jV.o _ (zaK Ar.o) nX.o).mono ?_;rintro e w5 ⟨d0,d1,d2,d3,d4,d5,d6,rfl,aV,ao,aq⟩;have yk:=aV;obtain⟨⟨D0,e0,f0,rfl⟩,⟨D1,e1,f1,rfl⟩,⟨D2,e2,f2,rfl⟩,⟨D3,e3,f3,rfl⟩,⟨D4,e4,f4,rfl⟩,⟨D5,e5,f5,rfl⟩,⟨D6,e6,f6,rfl⟩⟩:=zc2 aV;have ee:Below W3.heap.size W3 w5:=(zaK (Below.refl _ _):Below W3.heap.size W3 W3.drew).trans ao;obtain⟨fT,aR,aB,Bi⟩:=yH4 (cH.o.keep ee) (aD.o.trans (ee.mono aD.o.size)) aq yk;have i1:=(zah ee ip).trans i1;have CL:gb<w5.heap.size:=by have:=ee.size;omega
    clear ao aq aV yk ee;obtain⟨x0,x1⟩:=zbt (fT.o).box;obtain⟨s0,s1,s2,s3,s4,s5,s6⟩:=zaF (fT.o).st;obtain⟨t0,t1,t2,t3,t4,t5,t6⟩:=zaF (fT.o).tcell;obtain⟨r0,r1,r2,r3,r4,r5,r6⟩:=zaF (fT.o).res;have sf:=frz (fT.o).st;have tf:=frz (fT.o).tcell;have rf:=frz (fT.o).res;have lx:=zab (fT.o).box;have ls:=zab (fT.o).st;have lt':=zab (fT.o).tcell;have lr:=zab (fT.o).res;refine NxM hK fun hHeld=>?_
    clear hK K;refine FrM 11 true ?_;refine FrM 12 true ?_;refine FrM 13 true ?_;refine OnM 14 true fun K hK=>?_
    go_simp
    refine NxM hK fun hHeld=>?_
    clear hK K;refine OnM 15 true fun K hK=>?_
    go_simp
    refine NxM hK fun hHeld=>?_
    clear hK K;refine zaM Mcz ?_ _;clear hHeld;obtain⟨W6,gw⟩:∃W6,W6=((((((w5.setCell ⟨w.heap.size+2,0,none⟩ (.slice D0 e0 f0)).setCell ⟨w.heap.size+2,1,none⟩ (.slice D1 e1 f1)).setCell ⟨w.heap.size+2,2,none⟩ (.slice D2 e2 f2)).setCell ⟨w.heap.size+2,3,none⟩ (.slice D3 e3 f3)).setCell ⟨w.heap.size+2,4,none⟩ (.slice D4 e4 f4)).setCell ⟨w.heap.size+2,5,none⟩ (.slice D5 e5 f5)).setCell ⟨w.heap.size+2,6,none⟩ (.slice D6 e6 f6):=⟨_,rfl⟩
    have dt:OffS (w.heap.size+2) w5 W6:=by rw[gw];exact zc3 fT.o.st fT.o.sl
    have kQ:Hid (W6.heap[TB]?=some (.cells #[b0,b1,b2,b3,b4,b5,b6] 44)):=by show _=_;rw[dt.same _ (by have:=fT.o.tb;omega)];exact fT.o.tcell
    have pj:Hid (W6.heap[w.heap.size+1]?=some (.cells #[.slice none 0 0,.slice none 0 0,.slice none 0 0,.slice none 0 0,.slice none 0 0,.slice none 0 0,.slice none 0 0] 44)):=by show _=_;rw[dt.same _ Mcy];exact fT.o.res
    have Hi:Hid (W6.heap[w.heap.size]?=some (.cells #[.slice LA laws.length nc,.slice (some ⟨gb,go,none⟩) ds.length mc] 25)):=by show _=_;rw[dt.same _ Mcy];exact fT.o.box
    have sd:=dt.ne i1 rfl;have i1:=(dt.cell sd).trans i1;have mC:=dt.lt sd CL;have wy:Below w.heap.size w W6:=by rw[gw];exact zcA aR.o Mcy
    have H9:Hid (er=0->RepAt w.heap.size TB W6 laws ds LA (some ⟨gb,go,none⟩) nc mc s' told (.slice D0 e0 f0) (.slice D1 e1 f1) (.slice D2 e2 f2) (.slice D3 e3 f3) (.slice D4 e4 f4) (.slice D5 e5 f5) (.slice D6 e6 f6) b0 b1 b2 b3 b4 b5 b6):=zHi fun h0=>by
     rw[gw];exact fT.o.setS Bi.o (aB.o h0)
    rw[<-gw];have bj:=zHi wy;obtain⟨⟨B0,k0,p0,rfl⟩,⟨B1,k1,p1,rfl⟩,⟨B2,k2,p2,rfl⟩,⟨B3,k3,p3,rfl⟩,⟨B4,k4,p4,rfl⟩,⟨B5,k5,p5,rfl⟩,⟨B6,k6,p6,rfl⟩⟩:=zc2 (fT.o.sl2);clear x0 x1 s0 s1 s2 s3 s4 s5 s6 t0 t1 t2 t3 t4 t5 t6 r0 r1 r2 r3 r4 r5 r6 sf tf rf lx ls lt' lr;clear gw dt wy sd;by_cases kX:er=0
    ·subst kX;have HA:=zHi (H9.o rfl);have hx:=au.o;rw[if_neg McB]at hx;have dp:=AC.o rfl;obtain⟨x0,x1⟩:=zbt (HA.o).box;obtain⟨s0,s1,s2,s3,s4,s5,s6⟩:=zaF (HA.o).st;obtain⟨t0,t1,t2,t3,t4,t5,t6⟩:=zaF (HA.o).tcell;obtain⟨r0,r1,r2,r3,r4,r5,r6⟩:=zaF (HA.o).res;have sf:=frz (HA.o).st;have tf:=frz (HA.o).tcell;have rf:=frz (HA.o).res;have lx:=zab (HA.o).box;have ls:=zab (HA.o).st;have lt':=zab (HA.o).tcell;have lr:=zab (HA.o).res;by_cases hdu:x.day<=upto
     ·rw[if_pos (by simpa using hdu)]at hx;obtain⟨eL,qu⟩:=yH2 hx dp;clear hx dp;go_wp2_with fail
      go_round
      case rel=>exact⟨k+1,s',s',x.day,_,_,_,_,_,_,_,_,_,_,_,_,_,_,ak.o,by go_num,zHi HA.o.setT,qu,eL,zcA bj.o (by have:=HA.o.tb;omega)⟩
      case measure=>have:=ak.o;simp only[intOf];omega
     ·rw[if_neg (by simpa using hdu)]at hx;obtain⟨eL,qu⟩:=yH2 hx dp;clear hx dp;go_wp2_with fail
      go_round
      case rel=>exact⟨k+1,s',told,x.day,_,_,_,_,_,_,_,_,_,_,_,_,_,_,ak.o,by go_num,HA,qu,eL,bj.o⟩
      case measure=>have:=ak.o;simp only[intOf];omega
    ·have wJ:(er != 0)=true:=by simpa using kX
     have HE:Hid (R=(told,k,er)):=by show _=_;rw[au.o,if_pos wJ]
     have gI:=zHi kX;clear kX i1;obtain⟨t0,t1,t2,t3,t4,t5,t6⟩:=zaF kQ.o;obtain⟨r0,r1,r2,r3,r4,r5,r6⟩:=zaF pj.o;have rf:=frz pj.o;have lr:=zab pj.o;go_wp2_with fail
     refine bodyPost_ret (zeJ rfl _ rfl rfl rfl (zcy pj.o)) rfl ?_;rw[HE.o];exact⟨_,_,_,_,_,_,_,rfl,by first|rfl|exact⟨rfl,rfl,rfl,rfl,rfl,rfl,rfl⟩,zcA bj.o (show w.heap.size<=w.heap.size+1 by omega),fun h=>absurd h gI.o⟩
  ·have ar:¬(k:Int)<(ds.length:Int):=Mcy;have oJ:k=ds.length:=Mcy;have HE:Hid (R=(told,ds.length,0)):=by show _=_;rw[HX.o,List.drop_of_length_le Mcy,zaX,oJ]
   clear ae oJ;obtain⟨⟨B0,k0,p0,rfl⟩,⟨B1,k1,p1,rfl⟩,⟨B2,k2,p2,rfl⟩,⟨B3,k3,p3,rfl⟩,⟨B4,k4,p4,rfl⟩,⟨B5,k5,p5,rfl⟩,⟨B6,k6,p6,rfl⟩⟩:=zc2 (HA.o.sl2);obtain⟨x0,x1⟩:=zbt (HA.o).box;obtain⟨s0,s1,s2,s3,s4,s5,s6⟩:=zaF (HA.o).st;obtain⟨t0,t1,t2,t3,t4,t5,t6⟩:=zaF (HA.o).tcell;obtain⟨r0,r1,r2,r3,r4,r5,r6⟩:=zaF (HA.o).res;have sf:=frz (HA.o).st;have tf:=frz (HA.o).tcell;have rf:=frz (HA.o).res;have lx:=zab (HA.o).box;have ls:=zab (HA.o).st;have lt':=zab (HA.o).tcell;have lr:=zab (HA.o).res;go_upto_region 16 with fail
   have aE:=zHi (fun(W:World) (h:Below WR.heap.size WR W)=>(show W.cell? ⟨w.heap.size,1,none⟩=some (.slice DA ds.length mc)/\W.cell? ⟨TB,0,none⟩=some (.slice B0 k0 p0)/\W.cell? ⟨TB,1,none⟩=some (.slice B1 k1 p1)/\W.cell? ⟨TB,2,none⟩=some (.slice B2 k2 p2)/\W.cell? ⟨TB,3,none⟩=some (.slice B3 k3 p3)/\W.cell? ⟨TB,4,none⟩=some (.slice B4 k4 p4)/\W.cell? ⟨TB,5,none⟩=some (.slice B5 k5 p5)/\W.cell? ⟨TB,6,none⟩=some (.slice B6 k6 p6) from⟨(zah h lx).trans x1,(zah h lt').trans t0,(zah h lt').trans t1,(zah h lt').trans t2,(zah h lt').trans t3,(zah h lt').trans t4,(zah h lt').trans t5,(zah h lt').trans t6⟩))
   have I8:Hid (∀a0 a1 a2 a3 a4 a5 a6:Value,((((((((WR.setCell ⟨w.heap.size+1,0,none⟩ a0).setCell ⟨w.heap.size+1,1,none⟩ a1).setCell ⟨w.heap.size+1,2,none⟩ a2).setCell ⟨w.heap.size+1,3,none⟩ a3).setCell ⟨w.heap.size+1,4,none⟩ a4).setCell ⟨w.heap.size+1,5,none⟩ a5).setCell ⟨w.heap.size+1,6,none⟩ a6).drew).cell? ⟨w.heap.size,1,none⟩=some (.slice DA ds.length mc)/\((((((((WR.setCell ⟨w.heap.size+1,0,none⟩ a0).setCell ⟨w.heap.size+1,1,none⟩ a1).setCell ⟨w.heap.size+1,2,none⟩ a2).setCell ⟨w.heap.size+1,3,none⟩ a3).setCell ⟨w.heap.size+1,4,none⟩ a4).setCell ⟨w.heap.size+1,5,none⟩ a5).setCell ⟨w.heap.size+1,6,none⟩ a6).drew).cell? ⟨TB,0,none⟩=some (.slice B0 k0 p0)/\((((((((WR.setCell ⟨w.heap.size+1,0,none⟩ a0).setCell ⟨w.heap.size+1,1,none⟩ a1).setCell ⟨w.heap.size+1,2,none⟩ a2).setCell ⟨w.heap.size+1,3,none⟩ a3).setCell ⟨w.heap.size+1,4,none⟩ a4).setCell ⟨w.heap.size+1,5,none⟩ a5).setCell ⟨w.heap.size+1,6,none⟩ a6).drew).cell? ⟨TB,1,none⟩=some (.slice B1 k1 p1)/\((((((((WR.setCell ⟨w.heap.size+1,0,none⟩ a0).setCell ⟨w.heap.size+1,1,none⟩ a1).setCell ⟨w.heap.size+1,2,none⟩ a2).setCell ⟨w.heap.size+1,3,none⟩ a3).setCell ⟨w.heap.size+1,4,none⟩ a4).setCell ⟨w.heap.size+1,5,none⟩ a5).setCell ⟨w.heap.size+1,6,none⟩ a6).drew).cell? ⟨TB,2,none⟩=some (.slice B2 k2 p2)/\((((((((WR.setCell ⟨w.heap.size+1,0,none⟩ a0).setCell ⟨w.heap.size+1,1,none⟩ a1).setCell ⟨w.heap.size+1,2,none⟩ a2).setCell ⟨w.heap.size+1,3,none⟩ a3).setCell ⟨w.heap.size+1,4,none⟩ a4).setCell ⟨w.heap.size+1,5,none⟩ a5).setCell ⟨w.heap.size+1,6,none⟩ a6).drew).cell? ⟨TB,3,none⟩=some (.slice B3 k3 p3)/\((((((((WR.setCell ⟨w.heap.size+1,0,none⟩ a0).setCell ⟨w.heap.size+1,1,none⟩ a1).setCell ⟨w.heap.size+1,2,none⟩ a2).setCell ⟨w.heap.size+1,3,none⟩ a3).setCell ⟨w.heap.size+1,4,none⟩ a4).setCell ⟨w.heap.size+1,5,none⟩ a5).setCell ⟨w.heap.size+1,6,none⟩ a6).drew).cell? ⟨TB,4,none⟩=some (.slice B4 k4 p4)/\((((((((WR.setCell ⟨w.heap.size+1,0,none⟩ a0).setCell ⟨w.heap.size+1,1,none⟩ a1).setCell ⟨w.heap.size+1,2,none⟩ a2).setCell ⟨w.heap.size+1,3,none⟩ a3).setCell ⟨w.heap.size+1,4,none⟩ a4).setCell ⟨w.heap.size+1,5,none⟩ a5).setCell ⟨w.heap.size+1,6,none⟩ a6).drew).cell? ⟨TB,5,none⟩=some (.slice B5 k5 p5)/\((((((((WR.setCell ⟨w.heap.size+1,0,none⟩ a0).setCell ⟨w.heap.size+1,1,none⟩ a1).setCell ⟨w.heap.size+1,2,none⟩ a2).setCell ⟨w.heap.size+1,3,none⟩ a3).setCell ⟨w.heap.size+1,4,none⟩ a4).setCell ⟨w.heap.size+1,5,none⟩ a5).setCell ⟨w.heap.size+1,6,none⟩ a6).drew).cell? ⟨TB,6,none⟩=some (.slice B6 k6 p6)):=zHi (fun a0 a1 a2 a3 a4 a5 a6=>by
    obtain⟨y0,y1,y2,y3,y4,y5,y6,y7⟩:=aE.o WR (Below.refl _ _);have ho:=zc3 (a0:=a0) (a1:=a1) (a2:=a2) (a3:=a3) (a4:=a4) (a5:=a5) (a6:=a6) HA.o.res rfl;have Gy:=HA.o.tb;have n0:w.heap.size≠w.heap.size+1:=Mcy;have nT:TB≠w.heap.size+1:=Mcy;simp only[World.cell?_drew]
    exact⟨(ho.cell n0).trans y0,(ho.cell nT).trans y1,(ho.cell nT).trans y2,(ho.cell nT).trans y3,(ho.cell nT).trans y4,(ho.cell nT).trans y5,(ho.cell nT).trans y6,(ho.cell nT).trans y7⟩)
   have ze:Hid (∀a0 a1 a2 a3 a4 a5 a6:Value,((((((((WR.setCell ⟨w.heap.size+1,0,none⟩ a0).setCell ⟨w.heap.size+1,1,none⟩ a1).setCell ⟨w.heap.size+1,2,none⟩ a2).setCell ⟨w.heap.size+1,3,none⟩ a3).setCell ⟨w.heap.size+1,4,none⟩ a4).setCell ⟨w.heap.size+1,5,none⟩ a5).setCell ⟨w.heap.size+1,6,none⟩ a6).drew).heap[w.heap.size+1]?=some (.cells #[a0,a1,a2,a3,a4,a5,a6] 44)):=zHi (fun a0 a1 a2 a3 a4 a5 a6=>(drew_heap _ _).trans (zcy (a:=a0) (b:=a1) (c:=a2) (d:=a3) (e:=a4) (f:=a5) (h':=a6) HA.o.res));have Bn:=zHi (fun a0 a1 a2 a3 a4 a5 a6=>(zc3 (a0:=a0) (a1:=a1) (a2:=a2) (a3:=a3) (a4:=a4) (a5:=a5) (a6:=a6) HA.o.res rfl).st HA.o.tAt);refine zaB 5 (fun bb w'=>bb=true\/(w'.cell? ⟨w.heap.size,1,none⟩=some (.slice DA ds.length mc)/\w'.cell? ⟨TB,0,none⟩=some (.slice B0 k0 p0)/\w'.cell? ⟨TB,1,none⟩=some (.slice B1 k1 p1)/\w'.cell? ⟨TB,2,none⟩=some (.slice B2 k2 p2)/\w'.cell? ⟨TB,3,none⟩=some (.slice B3 k3 p3)/\w'.cell? ⟨TB,4,none⟩=some (.slice B4 k4 p4)/\w'.cell? ⟨TB,5,none⟩=some (.slice B5 k5 p5)/\w'.cell? ⟨TB,6,none⟩=some (.slice B6 k6 p6))) Mcz (.inr (aE.o _ (zaK (Below.refl _ _)))) ?hrest
   case hrest=>
    intro hHeld;clear x0 x1 s0 s1 s2 s3 s4 s5 s6 t0 t1 t2 t3 t4 t5 t6 r0 r1 r2 r3 r4 r5 r6 sf tf rf lx ls lt' lr;refine TkM 0 ?_;refine TkM 1 ?_;refine TkM 2 ?_;refine TkM 3 ?_;obtain⟨x0,x1⟩:=zbt (HA.o).box;obtain⟨s0,s1,s2,s3,s4,s5,s6⟩:=zaF (HA.o).st;obtain⟨t0,t1,t2,t3,t4,t5,t6⟩:=zaF (HA.o).tcell;obtain⟨r0,r1,r2,r3,r4,r5,r6⟩:=zaF (HA.o).res;have sf:=frz (HA.o).st;have tf:=frz (HA.o).tcell;have rf:=frz (HA.o).res;have lx:=zab (HA.o).box;have ls:=zab (HA.o).st;have lt':=zab (HA.o).tcell;have lr:=zab (HA.o).res;refine OnM 4 false fun K hK=>?_
    go_simp
    refine NxM hK (fun hHeld=>?_) (.inr (I8.o _ _ _ _ _ _ _));clear hK K;refine OnM 5 true fun K hK=>?_
    go_simp
    refine NxM hK fun hHeld=>?_
    clear hK K;refine OnM 6 true fun K hK=>?_
    go_simp
    refine NxM hK fun hHeld=>?_
    clear hK K;refine zaM Mcz ?_ _;clear hHeld;go_wp2_with fail
    refine bodyPost_ret (zeJ rfl _ rfl rfl rfl (ze.o _ _ _ _ _ _ _)) rfl ?_;rw[HE.o];exact⟨_,_,_,_,_,_,_,rfl,by first|rfl|exact⟨rfl,rfl,rfl,rfl,rfl,rfl,rfl⟩,zaK (zcA HB.o (show w.heap.size<=w.heap.size+1 by omega)),fun _=>(Bn.o _ _ _ _ _ _ _).keep (zaK (Below.refl _ _))⟩
structure Told (k:Nat) (s:St):Prop where
 good:∃b,GoodSt s b
 few:FewS k s
 wills:s.wills.length<=k
theorem Told.up{k:Nat}{s:St}(h:Told k s):Told (k+1) s:=⟨h.good,h.few.up,by have:=h.wills;omega⟩
theorem told_go{laws:List Law}{upto:Int}(bz:zaD laws=0):∀ {ds:List Deed} {s told:St} {k:Nat} {last:Int},GoodSt s last->FewS k s->s.wills.length<=k->Told k told->(zaX laws upto ds s told k last).2.2=0->Told (k+ds.length) (zaX laws upto ds s told k last).1
 | [],s,told,k,last,_,_,_,ht,_=>ht
 |d::l,s,told,k,last,hg,hf,hw,ht,h=>by
  rw[zaX]at h⊢;split at h
  ·exact MaH
  ·rename_i hc
   rw[if_neg hc];have hn:=zeq (show(zck laws s k last d).2=0 by simpa using hc);have hd:=zeU hn.1;have iQ:zbq laws s d=((zck laws s k last d).1,0):=by rw[<-hn.2.2.2];exact Prod.ext rfl Meh
   have g:=zgT hg hd hn.2.2.1 bz iQ;have f:=zkC hf hn.2.1 hg hd hn.2.2.1 bz iQ;have e:=zjW iQ
   have:=told_go (ds:=l) (told:=if decide (d.day<=upto)then(zck laws s k last d).1 else told) bz g f Mcy (by
    split
    ·exact⟨⟨_,g⟩,f,by omega⟩
    ·exact ht.up) h
   rw[List.length_cons,show k+(l.length+1)=k+1+l.length by omega];exact this
theorem zny{laws:List Law}{ds:List Deed}{u:Int}(h:(zaL laws ds u).2.2=0):zaD laws=0:=by
 unfold zaL at h;split at h
 ·rename_i h1
  exact absurd h Mc4
 ·rename_i h1
  simpa using h1
theorem znz{laws:List Law}{ds:List Deed}{u:Int}(h:(zaL laws ds u).2.2=0):Told ds.length (zaL laws ds u).1:=by
 have bz:=zny h;unfold zaL at h⊢;rw[if_neg (by simp[bz])]at h⊢;have:=told_go bz (zeV 0) zg7 (Nat.le_refl _) ⟨⟨_,zeV 0⟩,zg7,Nat.le_refl _⟩ h;rwa [Nat.zero_add]at this
theorem zp3(laws:List Law)(ds:List Deed)(u u':Int):(zaL laws ds u).2=(zaL laws ds u').2:=by
 unfold zaL;split
 ·rfl
 ·exact zhf laws u u' ds _ _ _ _ _
theorem zp4(laws:List Law)(ds:List Deed)(names:List ByteArray)(day:Int)(LA:Option Addr)(n nc:Nat)(DA:Option Addr)(m mc:Nat)(NA:Option Addr)(l c:Nat)(w:World)(hR:RightsIn w laws ds LA n nc DA m mc)(hO:∀d∈ds,zdt d)(bu:ds.length<=500)(hl:l=names.length)(sE:names.length<=1000)(hN:∀s∈names,s.size<=100000)(hS:Sl w 1 sC NA names):
 Calls Tryz.prog 10 #[.agg #[.slice LA n nc,.slice DA m mc],.slice NA l c,.int .i64 day] w (Ret w (.int .i64 (zc1 laws ds names day))):=by
 subst hl;obtain⟨lR,HS,HN⟩:=yH3 (fun W (hB:Below w.heap.size w W)=>zjc laws ds 200000 LA n nc DA m mc W (hR.keep hB) hO bu) (fun W (hB:Below w.heap.size w W)=>(hS.keep hB:Sl W 1 sC NA names)) hN;obtain⟨R,tJ⟩:∃R,R=zc1 laws ds names day:=⟨_,rfl⟩
 rw[<-tJ];unfold zc1 at tJ;rw[zdY]at tJ;unfold zkO at lR;generalize zaL laws ds 200000=Q at*;obtain⟨st,rk,re⟩:=Q;simp only at tJ lR;have qG:=zHi tJ;clear tJ hR hO hS hN;go_enter Tryz.func10,Tryz.ntmps10
 go_upto_region 1 with fail
 obtain⟨W0,am⟩:∃W0,W0=w.alloc (.cells #[.slice LA n nc,.slice DA m mc] 25):=⟨_,rfl⟩
 obtain⟨b0,aK⟩:=boxed am.symm;rw[<-am];have aj:=zHi aK;obtain⟨x0,x1⟩:=zbt b0;have lx:=zab b0;have aw:=aK.size;clear am aK b0
 go_upto_region 2 with(go_at_call 36
                       go_must(refine(lR.o _ aj.o).mono ?_)
                       rintro e w2 ⟨a0,a1,a2,a3,a4,a5,a6,rfl,aV,bs,_⟩;obtain⟨⟨A0,m0,q0,rfl⟩,⟨A1,m1,q1,rfl⟩,⟨A2,m2,q2,rfl⟩,⟨A3,m3,q3,rfl⟩,⟨A4,m4,q4,rfl⟩,⟨A5,m5,q5,rfl⟩,⟨A6,m6,q6,rfl⟩⟩:=zc2 aV;have aJ:=zHi (aj.o.trans (bs.mono aw))
                       clear bs aV)
 obtain⟨W3,aY⟩:∃W3,W3=w2.alloc (.cells #[.slice A0 m0 q0,.slice A1 m1 q1,.slice A2 m2 q2,.slice A3 m3 q3,.slice A4 m4 q4,.slice A5 m5 q5,.slice A6 m6 q6] 44):=⟨_,rfl⟩
 have ax:Below w.heap.size w W3:=by rw[aY];exact zad aJ.o _ (by have:=aJ.o.size;omega)
 rw[<-aY];have aD:=zHi ax;clear aY ax x0 x1 lx;by_cases hre:re=0;rotate_left 1
 ·have kW:(re != 0)=true:=by simpa using hre
  have HE:Hid (R=re):=by show _=_;rw[qG.o,if_pos kW]
  clear hre;go_wp2_with fail
  go_ret
  exact Ret.of (zb5 HE.o.symm) aD.o
 subst hre;have Bv:Hid (R=if(names.drop 0).any (fun s=>!zaS s)then 4 else if !zbn day then 2 else 0):=by show _=_;rw[qG.o,if_neg McB];rfl
 clear qG;go_upto_region 5 with fail
 go_loopw [10] (fun i wr=>∃k:Nat,k<=names.length/\i=.int .i64 k/\W3=wr/\Hid (R=if(names.drop k).any (fun s=>!zaS s)then 4 else if !zbn day then 2 else 0)) (fun i _=>names.length-(intOf i).toNat)
 case atStart=>exact⟨0,Nat.zero_le _,rfl,rfl,Bv⟩
 case round=>
  obtain⟨k,hk,rfl,rfl,HX⟩:=hrel;by_cases ae:k<names.length
  ·obtain⟨b,off,hA,hb,ah⟩:=(HS.o W3 aD.o).at ae;have hx:=HX.o;rw[List.drop_eq_getElem_cons ae,List.any_cons]at hx;have hsz:=HN.o _ (List.getElem_mem ae);obtain⟨au,ak⟩:=yH2 hx ae;generalize names[k]=x at*;have i0:W3.cell? ⟨b,off+k,none⟩=some (.string x):=McZ;have ar:(k:Int)<(names.length:Int):=Mcy;have aQ:(0:Int)<=(k:Int):=Mcy;subst hA;clear ah hx ae;cases hp3:zaS x
   ·have mR:zcB x=false:=Meo;have HE:Hid (R=4):=by show _=_;rw[au.o];simp[hp3]
    go_wp2_with (go_at_call 37;go_must(refine(zcM _ _ Mc8).mono ?_);rintro e wq ⟨rfl,rfl⟩;rw[mR])
    go_ret
    exact Ret.of (zb5 HE.o.symm) aD.o
   ·have mR:zcB x=true:=Meo;have HE:Hid (R=if(names.drop (k+1)).any (fun s=>!zaS s)then 4 else if !zbn day then 2 else 0):=by show _=_;rw[au.o,hp3];rfl
    go_wp2_with (go_at_call 37;go_must(refine(zcM _ _ Mc8).mono ?_);rintro e wq ⟨rfl,rfl⟩;rw[mR])
    go_round
    case rel=>exact⟨k+1,ak.o,by go_num,by first|exact True.intro|rfl,HE⟩
    case measure=>have:=ak.o;simp only[intOf];omega
  ·have ar:¬(k:Int)<(names.length:Int):=Mcy;have hx:=HX.o;rw[List.drop_of_length_le Mcy]at hx;cases hd:zbn day
   ·have HE:Hid (R=2):=by show _=_;rw[hx,hd];rfl
    exact MaN
   ·have HE:Hid (R=0):=by show _=_;rw[hx,hd];rfl
    exact MaN
def zn0(w:World)(laws:List Law)(R:St×Nat×Int)(e:Ending)(w':World):Prop:=
 ∃a0 a1 a2 a3 a4 a5 a6,e=.returned (.agg #[a0,a1,a2,a3,a4,a5,a6])/\([a0,a1,a2,a3,a4,a5,a6].all zcD)=true/\Below w.heap.size w w'/\(R.2.2=0->StAt w' laws R.1 a0 a1 a2 a3 a4 a5 a6)
theorem rOn_any(laws:List Law)(ds:List Deed)(day:Int)(LA:Option Addr)(n nc:Nat)(DA:Option Addr)(m mc:Nat)(w:World)(hR:RightsIn w laws ds LA n nc DA m mc)(hO:∀d∈ds,zdt d)(bu:ds.length<=500):
 Calls Tryz.prog 12 #[.agg #[.slice LA n nc,.slice DA m mc],.int .i64 day] w (zn0 w laws (zaL laws ds day)):=by
 have lR:=zHi (fun W (hB:Below w.heap.size w W)=>zjc laws ds day LA n nc DA m mc W (hR.keep hB) hO bu);unfold zkO at lR;unfold zn0;generalize zaL laws ds day=Q at*;clear hR hO;go_enter Tryz.func12,Tryz.ntmps12
 go_upto_region 1 with fail
 obtain⟨W0,am⟩:∃W0,W0=(w.alloc (.cells #[.slice LA n nc,.slice DA m mc] 25)).alloc (.cells #[.slice none 0 0,.slice none 0 0,.slice none 0 0,.slice none 0 0,.slice none 0 0,.slice none 0 0,.slice none 0 0] 44):=⟨_,rfl⟩
 have b0:W0.heap[w.heap.size]?=some (.cells #[.slice LA n nc,.slice DA m mc] 25):=MdT;have b1:W0.heap[w.heap.size+1]?=some (.cells #[.slice none 0 0,.slice none 0 0,.slice none 0 0,.slice none 0 0,.slice none 0 0,.slice none 0 0,.slice none 0 0] 44):=by rw[am];exact zar _ _ _ McB
 have aK:Below w.heap.size w W0:=Mdb;rw[<-am];obtain⟨aj,B1⟩:=yH2 aK b1;obtain⟨x0,x1⟩:=zbt b0;have lx:=zab b0;have lr:=zab b1;have aw:=aK.size;clear am aK b0 b1
 go_upto_region 2 with(go_at_call 36
                       go_must(refine(lR.o _ aj.o).mono ?_)
                       rintro e w2 ⟨a0,a1,a2,a3,a4,a5,a6,rfl,aV,bs,aq⟩;have vk:=zHi aV;obtain⟨⟨A0,m0,q0,rfl⟩,⟨A1,m1,q1,rfl⟩,⟨A2,m2,q2,rfl⟩,⟨A3,m3,q3,rfl⟩,⟨A4,m4,q4,rfl⟩,⟨A5,m5,q5,rfl⟩,⟨A6,m6,q6,rfl⟩⟩:=zc2 aV;have r2:=(bs.block _ lr).trans B1.o;obtain⟨aJ,aB⟩:=yH2 (aj.o.trans (bs.mono aw)) aq
                       clear bs aV aq)
 obtain⟨YB,rD⟩:∃YB,YB=w2.heap.size:=⟨_,rfl⟩
 obtain⟨W3,aY⟩:∃W3,W3=w2.alloc (.cells #[.slice A0 m0 q0,.slice A1 m1 q1,.slice A2 m2 q2,.slice A3 m3 q3,.slice A4 m4 q4,.slice A5 m5 q5,.slice A6 m6 q6] 44):=⟨_,rfl⟩
 have ax:Below w2.heap.size w2 W3:=by rw[aY];exact zad (Below.refl _ _) _
 have gY:W3.heap[YB]?=some (.cells #[.slice A0 m0 q0,.slice A1 m1 q1,.slice A2 m2 q2,.slice A3 m3 q3,.slice A4 m4 q4,.slice A5 m5 q5,.slice A6 m6 q6] 44):=by rw[aY,rD];exact zar _ _ _ rfl
 have r3:=(ax.block _ (zab r2)).trans r2;obtain⟨aD,bx⟩:=yH2 (aJ.o.trans (ax.mono aJ.o.size)) (fun h0=>(aB.o h0).keep ax);rw[<-aY,<-rD];clear aY rD ax x0 x1 lx lr r2;obtain⟨s0,s1,s2,s3,s4,s5,s6⟩:=zaF gY;obtain⟨r0,r1,r2,r3',r4,r5,r6⟩:=zaF r3;have rf:=frz r3;have ls:=zab gY;have lr:=zab r3;go_wp2_with fail
 refine bodyPost_ret (zjU rfl _ rfl (zcy r3)) rfl ?_;exact⟨_,_,_,_,_,_,_,rfl,vk.o,zcA aD.o (show w.heap.size<=w.heap.size+1 by omega),fun h0=>(zc3 r3 rfl).st (bx.o h0)⟩
theorem Told.stFew{k:Nat}{s:St}{wd rd:List Deed}(h:Told k s)(hk:k<=1000)(hL:StLink s wd rd):StFew s wd rd:=zok h.few h.wills hk hL
section
variable {laws:List Law} {s:St} {k:Nat} {w:World} {a0 a1 a2 a3 a4 a5 a6:Value}
theorem tDead(h:StAt w laws s a0 a1 a2 a3 a4 a5 a6)(hT:Told k s)(hk:k<=1000)(n:ByteArray):Calls Tryz.prog 19 #[.agg #[a0,a1,a2,a3,a4,a5,a6],.string n] w (Ret w (.bool (zaJ s n))):=by
 obtain⟨wd,rd,LA,CA,MA,DA,WA,RA,GA,c0,c1,c2,c3,c4,c5,c6,rfl,rfl,rfl,rfl,rfl,rfl,rfl,hI,hL⟩:=h;exact sDead n w hI (hT.stFew hk hL)
theorem tSpouse(h:StAt w laws s a0 a1 a2 a3 a4 a5 a6)(hT:Told k s)(hk:k<=1000)(n:ByteArray):Calls Tryz.prog 20 #[.agg #[a0,a1,a2,a3,a4,a5,a6],.string n] w (Ret w (.string (zaG s n))):=by
 obtain⟨wd,rd,LA,CA,MA,DA,WA,RA,GA,c0,c1,c2,c3,c4,c5,c6,rfl,rfl,rfl,rfl,rfl,rfl,rfl,hI,hL⟩:=h;exact znt n w hI (hT.stFew hk hL)
theorem tDesc(h:StAt w laws s a0 a1 a2 a3 a4 a5 a6)(hT:Told k s)(hk:k<=1000)(n:ByteArray):Calls Tryz.prog 21 #[.agg #[a0,a1,a2,a3,a4,a5,a6],.string n] w (zpo w s.children n):=by
 obtain⟨wd,rd,LA,CA,MA,DA,WA,RA,GA,c0,c1,c2,c3,c4,c5,c6,rfl,rfl,rfl,rfl,rfl,rfl,rfl,hI,hL⟩:=h;exact sDesc n w hI (hT.stFew hk hL)
end
theorem on_told{laws:List Law}{ds:List Deed}{names:List ByteArray}{day:Int}(h:zc1 laws ds names day=0):(zaL laws ds day).2.2=0/\Told ds.length (zaL laws ds day).1:=by
 have h1:=(on_stop h).1;rw[zdY,zp3 laws ds 200000 day]at h1;exact⟨h1,znz h1⟩
theorem texts_any(xs:List ByteArray)(P Q:Option Addr)(pc qc:Nat)(w:World)(hp:Sl w 1 sC P xs)(hq:Sl w 1 sC Q xs)(hl:xs.length<=100000):
 Calls Tryz.prog 11 #[.slice P xs.length pc,.slice Q xs.length qc] w (Ret w (.bool true)):=by
 go_enter Tryz.func11,Tryz.ntmps11
 go_wp2_with fail
 go_loopw [5] (fun i wr=>∃j:Nat,j<=xs.length/\i=.int .i64 j/\∃z,wr=w.ext z) (fun i _=>xs.length-(intOf i).toNat)
 case atStart=>exact⟨0,Nat.zero_le _,rfl,zaY (Below.refl _ _)⟩
 case round=>
  obtain⟨j,hj,rfl,z,rfl⟩:=hrel;by_cases ae:j<xs.length
  ·obtain⟨b,off,rfl,hb,hc⟩:=hp.at ae;obtain⟨b',off',rfl,cJ,aN⟩:=hq.at ae;have br:(j:Int)<(xs.length:Int):=Mcy;have sk:(0:Int)<=(j:Int):=Mcy;generalize xs[j]=x at*;have x0:w.cell? ⟨b,off+j,none⟩=some (.string x):=Mdr;have y0:w.cell? ⟨b',off'+j,none⟩=some (.string x):=by have:=aN 0 _ rfl;simpa using this
   exact MF
  ·exact Mco
