/- Walk of the reference's Replay. -/
import Derived.Test.YtckkbkdcdkhglaaGreatDoorXQ
set_option linter.unusedSimpArgs false
set_option linter.unusedVariables false
set_option maxRecDepth 100000
set_option maxHeartbeats 4000000
namespace Go.Proofs.YtckkbkdcdkhglaaGreatDoor
open Go.RowKit Go.Shelf
attribute [local go_sem] World.cell?_alloc_mark zag za5 zaq za8 zaw zax zay zaz za0 za1 za2
attribute [local go_sem] zap zad
theorem zke {laws:List Law} {s s':St} {d:Deed} (ht:zbq laws s d=(s',0)):s'.wills.length<=s.wills.length+1:=by
 have key: ∀ {x:St×Int},x=(s',0)->x.1.wills.length<=s.wills.length+1->s'.wills.length<=s.wills.length+1:=fun e h=>by rw[e]at h;exact h
 refine key ht ?_;clear key ht;have h0:s.wills.length<=s.wills.length+1:=Nat.le_succ _;unfold zbq;split
 ·unfold zcM;repeat(first|split|exact h0)
 split
 ·unfold zbp;exact Mbj
 split
 ·unfold zaZ;exact Mbj
 split
 ·unfold zcX;exact Mbj
 split
 ·unfold zgO;split
  ·exact h0
  ·simp
 split
 ·unfold zb7;repeat(first|split|exact h0)
 split
 ·unfold zcD;repeat(first|split|exact h0)
 split
 ·unfold zdp;repeat(first|split|exact h0)
 ·unfold zdJ;repeat(first|split|exact h0)
theorem zog {k:Nat} {s:St} {wd rd:List Deed} (h:FewS k s) (hw:s.wills.length<=k) (hk:k<=1000) (hL:StLink s wd rd):StFew s wd rd:=
 ⟨by have:=h.kids;omega,by have:=h.marr;omega,by have:=h.dead;omega,by rw[hL.wills,List.length_map]at hw;omega,by have:=h.ren;rw[hL.ren,List.length_map]at this;omega,by have:=h.graves;omega⟩
theorem next_same {laws:List Law} {s:St} {ds:List Deed} {d:Deed} {k:Nat} (hc:zaI d=0) (hk:ds.length=k):nxP laws s ds d=zch laws s k (zm3 ds) d:=by
 subst hk;unfold nxP zch;rw[if_neg (show¬(zaI d != 0)=true by rw[hc];decide)];split
 ·rfl
 ·cases hg:ds.getLast? with
  |none=>
   have h0:=(zeW hc).day.1;have hn: ¬d.day<0:=Mcl;simp[zm3,hg,hn]
  |some x=>simp[zm3,hg]
theorem est_heirs {laws:List Law} {s:St} {n:ByteArray} {day last:Int} {k:Nat} {hs:Parts} (hG:GoodSt s last) (hF:FewS k s) (hk:k<=900) (bh:zaA laws=0) (h:zbZ s (zaV laws day) n=some hs):hs.length<=1000/\GoodParts hs/\sumQ hs<=1/\zaE hs=false:=by
 have bn:=zeo bh day;have bT:=ze3 (hG.wills n) bn h;have gH:=(zeC (s:=s) (n:=n) (hG.wills n) bn).1 hs h;have jO:=ziM (s:=s) (law:=zaV laws day) (n:=n) (by rw[gH];exact bT.1);rw[gH]at jO;have h1:=hF.wills n;have h2:=hF.kids;simp only at jO;exact⟨by omega,bT.1,by rw[bT.2.1];exact Rat.le_refl,bT.2.2⟩
theorem zpp (laws:List Law) (s:St) (last:Int) (k:Nat) (d:Deed) (B:Option Addr) (c:Nat) (ds:List Deed) (DB:Option Addr) (dc:Nat) (w:World) {a0 a1 a2 a3 a4 a5 a6:Value} (hs:StAt w laws s a0 a1 a2 a3 a4 a5 a6) (hG:GoodSt s last) (hF:FewS k s) (hw:s.wills.length<=k) (hk:k<=600) (bh:zaA laws=0)
 (hd:zaI d=0) (ay:d.to.length<=c) (hS:Sl w 3 RPart.cells B d.to) (ke:SlW w 7 zfC DB ds) (n:Nat) (hn:n=ds.length):Calls Tryz.prog 64 #[.agg #[a0,a1,a2,a3,a4,a5,a6], .slice DB n dc,d.v B c] w (zfH w laws (nxP laws s ds d)):=by
 subst hn;obtain⟨wd,rd,LA,CA,MA,DA,WA,RA,GA,c0,c1,c2,c3,c4,c5,c6,rfl,rfl,rfl,rfl,rfl,rfl,rfl,hI,hL⟩:=hs;have hf:=zog hF hw Mcl hL;refine rNext_of laws s wd rd LA CA MA DA WA RA GA c0 c1 c2 c3 c4 c5 c6 d B c w hI hL hf (zeW hd) hS ds DB dc ke ay (fun g hg=>⟨hG.graves g hg,by have:=(hF.held g hg).1;omega⟩) (fun g hg=>(hF.held g hg).2.2) fun W hB=> ?_
 exact rDies_any laws s wd rd LA CA MA DA WA RA GA c0 c1 c2 c3 c4 c5 c6 d.frm d.day W (hI.keep hB) hL hf bh (hG.wills _) hG.acyc (hF.wills _) (fun g hg=>⟨hG.graves g hg,by have:=(hF.held g hg).1;omega⟩) (fun g hg=>by have:=(hF.held g hg).2.1;omega) fun hs h=>est_heirs hG hF Mcl bh h
def zkU (w:World) (laws:List Law) (R:St×Nat×Int) (e:Ending) (w':World):Prop:=
 ∃a0 a1 a2 a3 a4 a5 a6,e= .returned (.tuple #[.agg #[a0,a1,a2,a3,a4,a5,a6], .int .i64 (R.2.1:Int), .int .i64 R.2.2])/\([a0,a1,a2,a3,a4,a5,a6].all zcC)=true/\Below w.heap.size w w'/\(R.2.2=0->StAt w' laws R.1 a0 a1 a2 a3 a4 a5 a6)
theorem st_zero {w:World} {laws:List Law} {LA:Option Addr} {c:Nat} (h:Sl w 4 Law.cells LA laws):StAt w laws zb3 (.slice LA laws.length c) (.slice none 0 0) (.slice none 0 0) (.slice none 0 0) (.slice none 0 0) (.slice none 0 0) (.slice none 0 0):=
 ⟨[],[],LA,none,none,none,none,none,none,c,0,0,0,0,0,0,rfl,rfl,rfl,rfl,rfl,rfl,rfl,⟨h,Sl.nil,Sl.nil,Sl.nil,fun h=>absurd h Mco,fun h=>absurd h Mco,fun h=>absurd h (by simp[zb3]),Nat.le_refl _⟩,⟨rfl,by simp,rfl,by simp⟩⟩
theorem zeL {w:World} {B:Nat} {x0 x1 x2 x3 x4 x5 x6 y z:Value} {fn:Func} {p q r:Tmp} (h:fn.results= #[.cell p 40, .tmp q, .tmp r]) (tmps:Array Value) (hp:tmps.getD p undef= .pointer (some ⟨B,0,none⟩)) (hq:tmps.getD q undef=y) (hr:tmps.getD r undef=z)
 (hx:w.heap[B]?=some (.cells #[x0,x1,x2,x3,x4,x5,x6] 40)):(results fn tmps).run Tryz.prog w= .ok (.tuple #[.agg #[x0,x1,x2,x3,x4,x5,x6],y,z]) w:=by
 obtain⟨h0,h1,h2,h3,h4,h5,h6⟩:=zaG hx;clear hx;have hc:(results fn tmps).run Tryz.prog w=((asAddr (tmps.getD p undef)).run Tryz.prog w).andThen fun x w₁=>((loadVar 40 x).run Tryz.prog w₁).andThen fun v w₂=> .ok (.tuple #[v,tmps.getD q undef,tmps.getD r undef]) w₂:=by
  simp only[results,h];simp[Sem.run_bind,Result.andThen]
 rw[hc,hp,hq,hr];go_simp
theorem drew_heap (W:World) (k:Nat):W.drew.heap[k]?=W.heap[k]?:=rfl
structure RepAt (base TB:Nat) (W:World) (laws:List Law) (ds:List Deed) (LA DA:Option Addr) (nc mc:Nat) (s told:St) (a0 a1 a2 a3 a4 a5 a6 b0 b1 b2 b3 b4 b5 b6:Value):Prop where
 box:W.heap[base]?=some (.cells #[.slice LA laws.length nc, .slice DA ds.length mc] 25)
 res:W.heap[base+1]?=some (.cells #[.slice none 0 0, .slice none 0 0, .slice none 0 0, .slice none 0 0, .slice none 0 0, .slice none 0 0, .slice none 0 0] 40)
 st:W.heap[base+2]?=some (.cells #[a0,a1,a2,a3,a4,a5,a6] 40)
 tcell:W.heap[TB]?=some (.cells #[b0,b1,b2,b3,b4,b5,b6] 40)
 tb:base+2<TB
 sl:([a0,a1,a2,a3,a4,a5,a6].all zcC)=true
 sl2:([b0,b1,b2,b3,b4,b5,b6].all zcC)=true
 sAt:StAt W laws s a0 a1 a2 a3 a4 a5 a6
 tAt:StAt W laws told b0 b1 b2 b3 b4 b5 b6
section
variable {base TB:Nat} {W W':World} {laws:List Law} {ds:List Deed} {LA DA:Option Addr} {nc mc:Nat} {s told s':St} {a0 a1 a2 a3 a4 a5 a6 b0 b1 b2 b3 b4 b5 b6 d0 d1 d2 d3 d4 d5 d6:Value}
theorem RepAt.keep (h:RepAt base TB W laws ds LA DA nc mc s told a0 a1 a2 a3 a4 a5 a6 b0 b1 b2 b3 b4 b5 b6) (hB:Below W.heap.size W W'):RepAt base TB W' laws ds LA DA nc mc s told a0 a1 a2 a3 a4 a5 a6 b0 b1 b2 b3 b4 b5 b6:=
 ⟨(hB.block _ (zab h.box)).trans h.box,(hB.block _ (zab h.res)).trans h.res,(hB.block _ (zab h.st)).trans h.st,(hB.block _ (zab h.tcell)).trans h.tcell,h.tb,h.sl,h.sl2,h.sAt.keep hB,h.tAt.keep hB⟩
theorem zpq {w:World} {b k:Nat} {x:Obj} {a0 a1 a2 a3 a4 a5 a6:Value} (ai:k≠b) (h:w.heap[k]?=some x):(((((((w.setCell ⟨b,0,none⟩ a0).setCell ⟨b,1,none⟩ a1).setCell ⟨b,2,none⟩ a2).setCell ⟨b,3,none⟩ a3).setCell ⟨b,4,none⟩ a4).setCell ⟨b,5,none⟩ a5).setCell ⟨b,6,none⟩ a6).heap[k]?=some x:=
 J_ne ai (J_ne ai (J_ne ai (J_ne ai (J_ne ai (J_ne ai (J_ne ai h))))))
theorem RepAt.setS (h:RepAt base TB W laws ds LA DA nc mc s told a0 a1 a2 a3 a4 a5 a6 b0 b1 b2 b3 b4 b5 b6) (aP:([d0,d1,d2,d3,d4,d5,d6].all zcC)=true) (hs:StAt W laws s' d0 d1 d2 d3 d4 d5 d6):
 RepAt base TB (((((((W.setCell ⟨base+2,0,none⟩ d0).setCell ⟨base+2,1,none⟩ d1).setCell ⟨base+2,2,none⟩ d2).setCell ⟨base+2,3,none⟩ d3).setCell ⟨base+2,4,none⟩ d4).setCell ⟨base+2,5,none⟩ d5).setCell ⟨base+2,6,none⟩ d6) laws ds LA DA nc mc s' told d0 d1 d2 d3 d4 d5 d6 b0 b1 b2 b3 b4 b5 b6:=
 ⟨zpq Mcl h.box,zpq Mcl h.res,zc0 h.st,zpq (by have:=h.tb;omega) h.tcell,h.tb,aP,h.sl2,(zc4 h.st h.sl).st hs,(zc4 h.st h.sl).st h.tAt⟩
theorem RepAt.setT (h:RepAt base TB W laws ds LA DA nc mc s told a0 a1 a2 a3 a4 a5 a6 b0 b1 b2 b3 b4 b5 b6):
 RepAt base TB (((((((W.setCell ⟨TB,0,none⟩ a0).setCell ⟨TB,1,none⟩ a1).setCell ⟨TB,2,none⟩ a2).setCell ⟨TB,3,none⟩ a3).setCell ⟨TB,4,none⟩ a4).setCell ⟨TB,5,none⟩ a5).setCell ⟨TB,6,none⟩ a6) laws ds LA DA nc mc s s a0 a1 a2 a3 a4 a5 a6 a0 a1 a2 a3 a4 a5 a6:=
 ⟨zpq (by have:=h.tb;omega) h.box,zpq (by have:=h.tb;omega) h.res,zpq (by have:=h.tb;omega) h.st,zc0 h.tcell,h.tb,h.sl,h.sl,(zc4 h.tcell h.sl2).st h.sAt,(zc4 h.tcell h.sl2).st h.sAt⟩
end
theorem zjf (laws:List Law) (ds:List Deed) (upto:Int) (LA:Option Addr) (n nc:Nat) (DA:Option Addr) (m mc:Nat) (w:World) (hR:RightsIn w laws ds LA n nc DA m mc) (hO: ∀d∈ds,zdv d) (bz:ds.length<=500):
 Calls Tryz.prog 29 #[.agg #[.slice LA n nc, .slice DA m mc], .int .i64 upto] w (zkU w laws (zaF laws ds upto)):=by
 obtain⟨rfl,rfl,CX,nD,ir,ke⟩:=hR;obtain⟨R,hR⟩: ∃R,R=zaF laws ds upto:=⟨_,rfl⟩
 rw[<-hR];unfold zaF at hR;have bU:=zHi (fun W (hB:Below w.heap.size w W)=>zjr laws LA laws.length nc W rfl (ir.keep hB));have dU:=zHi (fun W (hB:Below w.heap.size w W)=>(ir.keep hB:Sl W 4 Law.cells LA laws));have g9:=zHi (fun W (hB:Below w.heap.size w W)=>(ke.keep zcf hB:SlW W 7 zfC DA ds));have HO:=zHi hO;have qA:=zHi hR;unfold zkU;clear ir ke hO hR;go_enter Tryz.func29,Tryz.ntmps29
 go_upto_region 2 with fail
 obtain⟨W0,ao⟩: ∃W0,W0=((w.alloc (.cells #[.slice LA laws.length nc, .slice DA ds.length mc] 25)).alloc (.cells #[.slice none 0 0, .slice none 0 0, .slice none 0 0, .slice none 0 0, .slice none 0 0, .slice none 0 0, .slice none 0 0] 40)).alloc (.cells #[.slice LA laws.length nc, .slice none 0 0, .slice none 0 0, .slice none 0 0, .slice none 0 0, .slice none 0 0, .slice none 0 0] 40):=⟨_,rfl⟩
 have aI:Below w.heap.size w W0:=McY;have g0:W0.heap[w.heap.size]?=some (.cells #[.slice LA laws.length nc, .slice DA ds.length mc] 25):=Mdo;have g1:W0.heap[w.heap.size+1]?=some (.cells #[.slice none 0 0, .slice none 0 0, .slice none 0 0, .slice none 0 0, .slice none 0 0, .slice none 0 0, .slice none 0 0] 40):=by rw[ao];exact zak (zar _ _ _ Mco)
 have g2:W0.heap[w.heap.size+2]?=some (.cells #[.slice LA laws.length nc, .slice none 0 0, .slice none 0 0, .slice none 0 0, .slice none 0 0, .slice none 0 0, .slice none 0 0] 40):=by rw[ao];exact zar _ _ _ Mco
 rw[<-ao];have ak:=zHi aI;have aw:=aI.size;clear ao aI;obtain⟨x0,x1⟩:=zba g0;have lx:=zab g0;go_upto_region 3 with(go_at_call 62;go_must(refine(bU.o _ ak.o).mono ?_);rintro e wq ⟨rfl,z,rfl⟩)
 obtain⟨W1,aV⟩: ∃W1,W1=W0.ext z:=⟨_,rfl⟩
 have aZ:Below W0.heap.size W0 W1:=Mdi;rw[<-aV];have im:=aZ.size;have g0:=(aZ.block _ (zab g0)).trans g0;have g1:=(aZ.block _ (zab g1)).trans g1;have l2:=zab g2;have g2:=(aZ.block _ (zab g2)).trans g2;have aG:=zHi (ak.o.trans (aZ.mono aw));clear aV aZ x0 x1 lx;obtain⟨s0,s1,s2,s3,s4,s5,s6⟩:=zaG g2;have ls:=zab g2;by_cases hce:zaA laws=0;rotate_left 1
 ·have HE:Hid (R=(zb3,0,zaA laws)):=by show _=_;rw[qA.o,if_pos (by simpa using hce)]
  have kU:(zaA laws != 0)=true:=by simpa using hce
  have iN:=zHi hce;obtain⟨r0,r1,r2,r3,r4,r5,r6⟩:=zaG g1;have rf:=frz g1;have lr:=zab g1;generalize zaA laws=ce at*;clear hce;go_wp2_with fail
  refine bodyPost_ret (zeL rfl _ rfl rfl rfl (zc0 g1)) rfl ?_;rw[HE.o];exact⟨_,_,_,_,_,_,_,rfl,by first|rfl|exact⟨rfl,rfl,rfl,rfl,rfl,rfl,rfl⟩,zc9 aG.o (show w.heap.size<=w.heap.size+1 by omega),fun h=>absurd h iN.o⟩
 have Bt:Hid (R=zaY laws upto (ds.drop 0) zb3 zb3 0 0):=by show _=_;rw[qA.o,if_neg (by simp[hce])];rfl
 rw[hce];have cZ:=zHi hce;clear hce qA;go_upto_region 6 with fail
 obtain⟨TB,Cc⟩: ∃TB,TB=W1.heap.size:=⟨_,rfl⟩
 obtain⟨W2,bM⟩: ∃W2,W2=W1.alloc (.cells #[.slice LA laws.length nc, .slice none 0 0, .slice none 0 0, .slice none 0 0, .slice none 0 0, .slice none 0 0, .slice none 0 0] 40):=⟨_,rfl⟩
 have bF:Below W1.heap.size W1 W2:=by rw[bM];exact zac (Below.refl _ _) _
 have ox:=aG.o.trans (bF.mono aG.o.size);have aS:=zHi ox;have uW:Hid (RepAt w.heap.size TB W2 laws ds LA DA nc mc zb3 zb3 (.slice LA laws.length nc) (.slice none 0 0) (.slice none 0 0) (.slice none 0 0) (.slice none 0 0) (.slice none 0 0) (.slice none 0 0) (.slice LA laws.length nc) (.slice none 0 0) (.slice none 0 0) (.slice none 0 0) (.slice none 0 0) (.slice none 0 0) (.slice none 0 0)):=zHi
  ⟨(bF.block _ (zab g0)).trans g0,(bF.block _ (zab g1)).trans g1,(bF.block _ (zab g2)).trans g2,by rw[bM,Cc];exact zar _ _ _ rfl,by omega,rfl,rfl,st_zero (dU.o _ ox),st_zero (dU.o _ ox)⟩
 rw[<-bM,<-Cc];clear bM Cc g0 g1 g2 bF ox s0 s1 s2 s3 s4 s5 s6 ls l2;go_upto_region 7 with fail
 go_loopw [10] (fun v wr=> ∃(k:Nat) (s told:St) (last:Int) (a0 a1 a2 a3 a4 a5 a6 b0 b1 b2 b3 b4 b5 b6:Value),k<=ds.length/\v= .int .i64 k/\Hid (RepAt w.heap.size TB wr laws ds LA DA nc mc s told a0 a1 a2 a3 a4 a5 a6 b0 b1 b2 b3 b4 b5 b6)/\Hid (GoodSt s last/\FewS k s/\s.wills.length<=k/\last=zm3 (ds.take k))/\Hid (R=zaY laws upto (ds.drop k) s told k last)/\Below w.heap.size w wr) (fun v _=>ds.length-(intOf v).toNat)
 case atStart=>exact⟨0,zb3,zb3,0,_,_,_,_,_,_,_,_,_,_,_,_,_,_,Nat.zero_le _,rfl,uW,zHi ⟨zeX 0,zgA,Nat.le_refl _,rfl⟩,Bt,aS.o⟩
 case round=>
  obtain⟨k,s,told,last,a0,a1,a2,a3,a4,a5,a6,b0,b1,b2,b3,b4,b5,b6,hk,rfl,HA,HI,HX,hB⟩:=hrel;obtain⟨WR,ov⟩: ∃WR,WR=wr:=⟨_,rfl⟩
  subst ov;have aK:=hB.size;have HB:=zHi hB;by_cases aa:k<ds.length
  ·obtain⟨gb,go,cs,kf,cL,dt,ah⟩:=(g9.o WR hB).at aa;have gF:ds.drop k=ds[k]::ds.drop (k+1):=List.drop_eq_getElem_cons aa;have hx:=HX.o;rw[gF,zaY]at hx;have oG:=zop aa;have kr:=HO.o ds[k] (List.getElem_mem aa);have cN:(ds.take k).length=k:=Mc6;have aq:=zHi aa;generalize ds[k]=x at*;obtain⟨EB,ec,tJ,rfl,hP⟩:=dt;have i0:WR.cell? ⟨gb,go+k*7,none⟩=some (.int .i64 x.kind):=McM;have i1:WR.cell? ⟨gb,go+k*7+1,none⟩=some (.int .i64 x.day):=ah 1 _ rfl;have i2:WR.cell? ⟨gb,go+k*7+2,none⟩=some (.string x.place):=ah 2 _ rfl;have i3:WR.cell? ⟨gb,go+k*7+3,none⟩=some (.string x.frm):=ah 3 _ rfl;have i4:WR.cell? ⟨gb,go+k*7+4,none⟩=some (.slice EB x.to.length ec):=ah 4 _ rfl;have i5:WR.cell? ⟨gb,go+k*7+5,none⟩=some (.int .i64 x.cls):=ah 5 _ rfl;have i6:WR.cell? ⟨gb,go+k*7+6,none⟩=some (.int .i64 x.years):=ah 6 _ rfl;have ar:(k:Int)<(ds.length:Int):=Mcl;have aT:(0:Int)<=(k:Int):=Mcl;have Kc:(k:Int)<=(mc:Int):=Mcl;have Kd:k<=mc:=Mcl;subst kf;have kN:=zHi (fun W (h:Below WR.heap.size WR W)=>(hP.keep h:Sl W 3 RPart.cells EB x.to));have lB:=zHi (fun W (h:Below WR.heap.size WR W)=>zju x EB ec W kr (hP.keep h));unfold Deed.v at lB;obtain⟨⟨A0,m0,q0,rfl⟩,⟨A1,m1,q1,rfl⟩,⟨A2,m2,q2,rfl⟩,⟨A3,m3,q3,rfl⟩,⟨A4,m4,q4,rfl⟩,⟨A5,m5,q5,rfl⟩,⟨A6,m6,q6,rfl⟩⟩:=zcd (HA.o.sl);obtain⟨x0,x1⟩:=zba (HA.o).box;obtain⟨s0,s1,s2,s3,s4,s5,s6⟩:=zaG (HA.o).st;obtain⟨t0,t1,t2,t3,t4,t5,t6⟩:=zaG (HA.o).tcell;obtain⟨r0,r1,r2,r3,r4,r5,r6⟩:=zaG (HA.o).res;have sf:=frz (HA.o).st;have tf:=frz (HA.o).tcell
   have rf:=frz (HA.o).res;have lx:=zab (HA.o).box;have ls:=zab (HA.o).st;have lt':=zab (HA.o).tcell;have lr:=zab (HA.o).res;by_cases iP:zaI x=0;rotate_left 1
   ·have cM:zch laws s k last x=(s,zaI x):=by unfold zch;rw[if_pos (by simpa using iP)]
    have HE:Hid (R=(told,k,zaI x)):=by show _=_;rw[hx,cM,if_pos (by simpa using iP)]
    have iN:=zHi iP;have kU:(zaI x==0)=false:=by simpa using iP
    have wI:(zaI x != 0)=true:=by simpa using iP
    clear hx cM oG kr cN ah hP tJ aa gF iP;generalize zaI x=ce at*;go_upto_region 10 with(go_at_call 63;go_must(refine(lB.o _ (Below.refl _ _)).mono ?_);rintro e wq ⟨rfl,z,rfl⟩)
    obtain⟨W3,aX⟩: ∃W3,W3=WR.ext z:=⟨_,rfl⟩
    have av:Below WR.heap.size WR W3:=by rw[aX];exact zam _ _
    rw[<-aX];have cG:=zHi (HA.o.keep av);have aJ:=zHi (hB.trans (av.mono aK));clear x0 x1 s0 s1 s2 s3 s4 s5 s6 t0 t1 t2 t3 t4 t5 t6 r0 r1 r2 r3 r4 r5 r6 sf tf rf lx ls lt' lr;clear aX av i0 i1 i2 i3 i4 i5 i6;obtain⟨⟨B0,k0,p0,rfl⟩,⟨B1,k1,p1,rfl⟩,⟨B2,k2,p2,rfl⟩,⟨B3,k3,p3,rfl⟩,⟨B4,k4,p4,rfl⟩,⟨B5,k5,p5,rfl⟩,⟨B6,k6,p6,rfl⟩⟩:=zcd ((cG.o).sl2);obtain⟨x0,x1⟩:=zba ((cG.o)).box;obtain⟨s0,s1,s2,s3,s4,s5,s6⟩:=zaG ((cG.o)).st;obtain⟨t0,t1,t2,t3,t4,t5,t6⟩:=zaG ((cG.o)).tcell;obtain⟨r0,r1,r2,r3,r4,r5,r6⟩:=zaG ((cG.o)).res;have sf:=frz ((cG.o)).st;have tf:=frz ((cG.o)).tcell;have rf:=frz ((cG.o)).res;have lx:=zab ((cG.o)).box;have ls:=zab ((cG.o)).st;have lt':=zab ((cG.o)).tcell;have lr:=zab ((cG.o)).res;go_wp2_with fail
    refine bodyPost_ret (zeL rfl _ rfl rfl rfl (zc0 (cG.o).res)) rfl ?_;rw[HE.o];exact⟨_,_,_,_,_,_,_,rfl,by first|rfl|exact⟨rfl,rfl,rfl,rfl,rfl,rfl,rfl⟩,zc9 (aJ.o) (show w.heap.size<=w.heap.size+1 by omega),fun h=>absurd h iN.o⟩
   rw[iP]at lB;have ss:=next_same (laws:=laws) (s:=s) iP cN;obtain⟨hG,hF,cx,FL⟩:=HI.o;rw[<-FL]at ss;have jW:=zHi (fun W (h:Below WR.heap.size WR W) (hL:k<=600)=>zpp laws s last k x EB ec (ds.take k) (some ⟨gb,go,none⟩) mc W (HA.o.sAt.keep h) hG hF cx hL cZ.o iP tJ (hP.keep h) ((g9.o W (hB.trans (h.mono aK))).take k) k cN.symm);rw[ss]at jW;have FW:=zeq (laws:=laws) (s:=s) (k:=k) (last:=last) (d:=x);have dr:(zch laws s k last x).2=0->GoodSt (zch laws s k last x).1 x.day/\FewS (k+1) (zch laws s k last x).1/\(zch laws s k last x).1.wills.length<=k+1/\x.day=zm3 (ds.take (k+1)):=fun h0=>by
    obtain⟨_,h2,h3,h4⟩:=FW h0;have ht:zbq laws s x=((zch laws s k last x).1,0):=by rw[<-h4];exact Prod.ext rfl h0
    exact⟨zgW hG (zeW iP) h3 cZ.o ht,zkL hF h2 hG (zeW iP) h3 cZ.o ht,by have:=zke ht;omega,oG.symm⟩
   have AB:=zHi dr;have au:=zHi hx;clear hx dr FW ss hG hF cx FL oG kr ah hP gF aa iP;generalize zch laws s k last x=N at*;obtain⟨s',er⟩:=N;simp only at AB au;go_upto_region 11 with(go_at_call 63;go_must(refine(lB.o _ (Below.refl _ _)).mono ?_);rintro e wq ⟨rfl,z,rfl⟩)
   obtain⟨W3,aX⟩: ∃W3,W3=WR.ext z:=⟨_,rfl⟩
   have av:Below WR.heap.size WR W3:=by rw[aX];exact zam _ _
   rw[<-aX];have vv:=av.size;have iA:gb<W3.heap.size:=Mcl;have i0:=(zah av cL).trans i0;have i1:=(zah av cL).trans i1;have i2:=(zah av cL).trans i2;have i3:=(zah av cL).trans i3;have i4:=(zah av cL).trans i4;have i5:=(zah av cL).trans i5;have i6:=(zah av cL).trans i6;have cG:=zHi (HA.o.keep av);have aJ:=zHi (hB.trans (av.mono aK));have Aq:=zHi av;clear x0 x1 s0 s1 s2 s3 s4 s5 s6 t0 t1 t2 t3 t4 t5 t6 r0 r1 r2 r3 r4 r5 r6 sf tf rf lx ls lt' lr;clear aX av hB;obtain⟨x0,x1⟩:=zba (cG.o).box;obtain⟨s0,s1,s2,s3,s4,s5,s6⟩:=zaG (cG.o).st;obtain⟨t0,t1,t2,t3,t4,t5,t6⟩:=zaG (cG.o).tcell;obtain⟨r0,r1,r2,r3,r4,r5,r6⟩:=zaG (cG.o).res;have sf:=frz (cG.o).st;have tf:=frz (cG.o).tcell;have rf:=frz (cG.o).res;have lx:=zab (cG.o).box;have ls:=zab (cG.o).st;have lt':=zab (cG.o).tcell;have lr:=zab (cG.o).res
   have aL:=zHi (fun(W:World) (h:Below W3.heap.size W3 W)=>(show W.cell? ⟨w.heap.size,1,none⟩=some (.slice (some ⟨gb,go,none⟩) ds.length mc)/\W.cell? ⟨w.heap.size+2,0,none⟩=some (.slice A0 m0 q0)/\W.cell? ⟨w.heap.size+2,1,none⟩=some (.slice A1 m1 q1)/\W.cell? ⟨w.heap.size+2,2,none⟩=some (.slice A2 m2 q2)/\W.cell? ⟨w.heap.size+2,3,none⟩=some (.slice A3 m3 q3)/\W.cell? ⟨w.heap.size+2,4,none⟩=some (.slice A4 m4 q4)/\W.cell? ⟨w.heap.size+2,5,none⟩=some (.slice A5 m5 q5)/\W.cell? ⟨w.heap.size+2,6,none⟩=some (.slice A6 m6 q6)/\W.cell? ⟨gb,go+k*7,none⟩=some (.int .i64 x.kind)/\W.cell? ⟨gb,go+k*7+1,none⟩=some (.int .i64 x.day)/\W.cell? ⟨gb,go+k*7+2,none⟩=some (.string x.place)/\W.cell? ⟨gb,go+k*7+3,none⟩=some (.string x.frm)/\W.cell? ⟨gb,go+k*7+4,none⟩=some (.slice EB x.to.length ec)/\W.cell? ⟨gb,go+k*7+5,none⟩=some (.int .i64 x.cls)/\W.cell? ⟨gb,go+k*7+6,none⟩=some (.int .i64 x.years) from⟨(zah h lx).trans x1,(zah h ls).trans s0,(zah h ls).trans s1,(zah h ls).trans s2,(zah h ls).trans s3,(zah h ls).trans s4,(zah h ls).trans s5,(zah h ls).trans s6,(zah h iA).trans i0,(zah h iA).trans i1,(zah h iA).trans i2,(zah h iA).trans i3,(zah h iA).trans i4,(zah h iA).trans i5,(zah h iA).trans i6⟩));have nW:=zHi (show k<=600 by omega)
   refine zaC 10 (fun bb w'=>bb=true\/(w'.cell? ⟨w.heap.size,1,none⟩=some (.slice (some ⟨gb,go,none⟩) ds.length mc)/\w'.cell? ⟨w.heap.size+2,0,none⟩=some (.slice A0 m0 q0)/\w'.cell? ⟨w.heap.size+2,1,none⟩=some (.slice A1 m1 q1)/\w'.cell? ⟨w.heap.size+2,2,none⟩=some (.slice A2 m2 q2)/\w'.cell? ⟨w.heap.size+2,3,none⟩=some (.slice A3 m3 q3)/\w'.cell? ⟨w.heap.size+2,4,none⟩=some (.slice A4 m4 q4)/\w'.cell? ⟨w.heap.size+2,5,none⟩=some (.slice A5 m5 q5)/\w'.cell? ⟨w.heap.size+2,6,none⟩=some (.slice A6 m6 q6)/\w'.cell? ⟨gb,go+k*7,none⟩=some (.int .i64 x.kind)/\w'.cell? ⟨gb,go+k*7+1,none⟩=some (.int .i64 x.day)/\w'.cell? ⟨gb,go+k*7+2,none⟩=some (.string x.place)/\w'.cell? ⟨gb,go+k*7+3,none⟩=some (.string x.frm)/\w'.cell? ⟨gb,go+k*7+4,none⟩=some (.slice EB x.to.length ec)/\w'.cell? ⟨gb,go+k*7+5,none⟩=some (.int .i64 x.cls)/\w'.cell? ⟨gb,go+k*7+6,none⟩=some (.int .i64 x.years))) Mcm (.inr (aL.o _ (zaM (Below.refl _ _)))) ?hrest
   case hrest=>
    intro hHeld;clear x0 x1 s0 s1 s2 s3 s4 s5 s6 t0 t1 t2 t3 t4 t5 t6 r0 r1 r2 r3 r4 r5 r6 sf tf rf lx ls lt' lr;clear i0 i2 i3 i4 i5 i6;refine TkM 0 ?_;refine TkM 1 ?_;refine TkM 2 ?_;refine TkM 3 ?_;refine TkM 4 ?_;refine TkM 5 ?_;refine TkM 6 ?_;refine TkM 7 ?_;refine TkM 8 ?_;refine TkM 9 ?_;refine OnM 10 true fun K hK=> ?_
    go_simp
    refine(jW.o _ (zaM Aq.o) nW.o).mono ?_;rintro e w5 ⟨d0,d1,d2,d3,d4,d5,d6,rfl,aP,aj,am⟩;have yh:=aP;obtain⟨⟨D0,e0,f0,rfl⟩,⟨D1,e1,f1,rfl⟩,⟨D2,e2,f2,rfl⟩,⟨D3,e3,f3,rfl⟩,⟨D4,e4,f4,rfl⟩,⟨D5,e5,f5,rfl⟩,⟨D6,e6,f6,rfl⟩⟩:=zcd aP;have ez:Below W3.heap.size W3 w5:=(zaM (Below.refl _ _):Below W3.heap.size W3 W3.drew).trans aj;have g8:=zHi (cG.o.keep ez);have aH:=zHi (aJ.o.trans (ez.mono aJ.o.size));have aB:=zHi am;have Bg:=zHi yh;have i1:=(zah ez iA).trans i1;have CJ:gb<w5.heap.size:=by have:=ez.size;omega
    clear aj am aP yh ez;obtain⟨x0,x1⟩:=zba (g8.o).box;obtain⟨s0,s1,s2,s3,s4,s5,s6⟩:=zaG (g8.o).st;obtain⟨t0,t1,t2,t3,t4,t5,t6⟩:=zaG (g8.o).tcell;obtain⟨r0,r1,r2,r3,r4,r5,r6⟩:=zaG (g8.o).res;have sf:=frz (g8.o).st;have tf:=frz (g8.o).tcell;have rf:=frz (g8.o).res;have lx:=zab (g8.o).box;have ls:=zab (g8.o).st;have lt':=zab (g8.o).tcell;have lr:=zab (g8.o).res;refine NxM hK fun hHeld=> ?_
    clear hK K;refine FrM 11 true ?_;refine FrM 12 true ?_;refine FrM 13 true ?_;refine OnM 14 true fun K hK=> ?_
    go_simp
    refine NxM hK fun hHeld=> ?_
    clear hK K;refine OnM 15 true fun K hK=> ?_
    go_simp
    refine NxM hK fun hHeld=> ?_
    clear hK K;refine zaQ Mcm ?_ _;clear hHeld;obtain⟨W6,eK⟩: ∃W6,W6=((((((w5.setCell ⟨w.heap.size+2,0,none⟩ (.slice D0 e0 f0)).setCell ⟨w.heap.size+2,1,none⟩ (.slice D1 e1 f1)).setCell ⟨w.heap.size+2,2,none⟩ (.slice D2 e2 f2)).setCell ⟨w.heap.size+2,3,none⟩ (.slice D3 e3 f3)).setCell ⟨w.heap.size+2,4,none⟩ (.slice D4 e4 f4)).setCell ⟨w.heap.size+2,5,none⟩ (.slice D5 e5 f5)).setCell ⟨w.heap.size+2,6,none⟩ (.slice D6 e6 f6):=⟨_,rfl⟩
    have cT:OffS (w.heap.size+2) w5 W6:=by rw[eK];exact zc4 g8.o.st g8.o.sl
    have kP:Hid (W6.heap[TB]?=some (.cells #[b0,b1,b2,b3,b4,b5,b6] 40)):=by show _=_;rw[cT.same _ (by have:=g8.o.tb;omega)];exact g8.o.tcell
    have sZ:Hid (W6.heap[w.heap.size+1]?=some (.cells #[.slice none 0 0, .slice none 0 0, .slice none 0 0, .slice none 0 0, .slice none 0 0, .slice none 0 0, .slice none 0 0] 40)):=by show _=_;rw[cT.same _ Mcl];exact g8.o.res
    have GJ:Hid (W6.heap[w.heap.size]?=some (.cells #[.slice LA laws.length nc, .slice (some ⟨gb,go,none⟩) ds.length mc] 25)):=by show _=_;rw[cT.same _ Mcl];exact g8.o.box
    have rX:=cT.ne i1 rfl;have i1:=(cT.cell rX).trans i1;have mD:=cT.lt rX CJ;have wx:Below w.heap.size w W6:=by rw[eK];exact zc9 aH.o Mcl
    have Gz:Hid (er=0->RepAt w.heap.size TB W6 laws ds LA (some ⟨gb,go,none⟩) nc mc s' told (.slice D0 e0 f0) (.slice D1 e1 f1) (.slice D2 e2 f2) (.slice D3 e3 f3) (.slice D4 e4 f4) (.slice D5 e5 f5) (.slice D6 e6 f6) b0 b1 b2 b3 b4 b5 b6):=zHi fun h0=>by
     rw[eK];exact g8.o.setS Bg.o (aB.o h0)
    rw[<-eK];have aC:=zHi wx;obtain⟨⟨B0,k0,p0,rfl⟩,⟨B1,k1,p1,rfl⟩,⟨B2,k2,p2,rfl⟩,⟨B3,k3,p3,rfl⟩,⟨B4,k4,p4,rfl⟩,⟨B5,k5,p5,rfl⟩,⟨B6,k6,p6,rfl⟩⟩:=zcd (g8.o.sl2);clear x0 x1 s0 s1 s2 s3 s4 s5 s6 t0 t1 t2 t3 t4 t5 t6 r0 r1 r2 r3 r4 r5 r6 sf tf rf lx ls lt' lr;clear eK cT wx rX;by_cases kV:er=0
    ·subst kV;have HA:=zHi (Gz.o rfl);have hx:=au.o;rw[if_neg Mco]at hx;have dr:=AB.o rfl;obtain⟨x0,x1⟩:=zba (HA.o).box;obtain⟨s0,s1,s2,s3,s4,s5,s6⟩:=zaG (HA.o).st;obtain⟨t0,t1,t2,t3,t4,t5,t6⟩:=zaG (HA.o).tcell;obtain⟨r0,r1,r2,r3,r4,r5,r6⟩:=zaG (HA.o).res;have sf:=frz (HA.o).st;have tf:=frz (HA.o).tcell;have rf:=frz (HA.o).res;have lx:=zab (HA.o).box;have ls:=zab (HA.o).st;have lt':=zab (HA.o).tcell;have lr:=zab (HA.o).res;by_cases hdu:x.day<=upto
     ·rw[if_pos (by simpa using hdu)]at hx;have eY:=zHi hx;have qo:=zHi dr;clear hx dr;go_wp2_with fail
      go_round
      case rel=>exact⟨k+1,s',s',x.day,_,_,_,_,_,_,_,_,_,_,_,_,_,_,aq.o,by go_num,zHi HA.o.setT,qo,eY,zc9 aC.o (by have:=HA.o.tb;omega)⟩
      case measure=>have:=aq.o;simp only[intOf];omega
     ·rw[if_neg (by simpa using hdu)]at hx;have eY:=zHi hx;have qo:=zHi dr;clear hx dr;go_wp2_with fail
      go_round
      case rel=>exact⟨k+1,s',told,x.day,_,_,_,_,_,_,_,_,_,_,_,_,_,_,aq.o,by go_num,HA,qo,eY,aC.o⟩
      case measure=>have:=aq.o;simp only[intOf];omega
    ·have wI:(er != 0)=true:=by simpa using kV
     have HE:Hid (R=(told,k,er)):=by show _=_;rw[au.o,if_pos wI]
     have iN:=zHi kV;clear kV i1;obtain⟨t0,t1,t2,t3,t4,t5,t6⟩:=zaG kP.o;obtain⟨r0,r1,r2,r3,r4,r5,r6⟩:=zaG sZ.o;have rf:=frz sZ.o;have lr:=zab sZ.o;go_wp2_with fail
     refine bodyPost_ret (zeL rfl _ rfl rfl rfl (zc0 sZ.o)) rfl ?_;rw[HE.o];exact⟨_,_,_,_,_,_,_,rfl,by first|rfl|exact⟨rfl,rfl,rfl,rfl,rfl,rfl,rfl⟩,zc9 aC.o (show w.heap.size<=w.heap.size+1 by omega),fun h=>absurd h iN.o⟩
  ·have ar: ¬(k:Int)<(ds.length:Int):=Mcl;have oE:k=ds.length:=Mcl;have HE:Hid (R=(told,ds.length,0)):=by show _=_;rw[HX.o,List.drop_of_length_le Mcl,zaY,oE]
   clear aa oE;obtain⟨⟨B0,k0,p0,rfl⟩,⟨B1,k1,p1,rfl⟩,⟨B2,k2,p2,rfl⟩,⟨B3,k3,p3,rfl⟩,⟨B4,k4,p4,rfl⟩,⟨B5,k5,p5,rfl⟩,⟨B6,k6,p6,rfl⟩⟩:=zcd (HA.o.sl2);obtain⟨x0,x1⟩:=zba (HA.o).box;obtain⟨s0,s1,s2,s3,s4,s5,s6⟩:=zaG (HA.o).st;obtain⟨t0,t1,t2,t3,t4,t5,t6⟩:=zaG (HA.o).tcell;obtain⟨r0,r1,r2,r3,r4,r5,r6⟩:=zaG (HA.o).res;have sf:=frz (HA.o).st;have tf:=frz (HA.o).tcell;have rf:=frz (HA.o).res;have lx:=zab (HA.o).box;have ls:=zab (HA.o).st;have lt':=zab (HA.o).tcell;have lr:=zab (HA.o).res;go_upto_region 16 with fail
   have aL:=zHi (fun(W:World) (h:Below WR.heap.size WR W)=>(show W.cell? ⟨w.heap.size,1,none⟩=some (.slice DA ds.length mc)/\W.cell? ⟨TB,0,none⟩=some (.slice B0 k0 p0)/\W.cell? ⟨TB,1,none⟩=some (.slice B1 k1 p1)/\W.cell? ⟨TB,2,none⟩=some (.slice B2 k2 p2)/\W.cell? ⟨TB,3,none⟩=some (.slice B3 k3 p3)/\W.cell? ⟨TB,4,none⟩=some (.slice B4 k4 p4)/\W.cell? ⟨TB,5,none⟩=some (.slice B5 k5 p5)/\W.cell? ⟨TB,6,none⟩=some (.slice B6 k6 p6) from⟨(zah h lx).trans x1,(zah h lt').trans t0,(zah h lt').trans t1,(zah h lt').trans t2,(zah h lt').trans t3,(zah h lt').trans t4,(zah h lt').trans t5,(zah h lt').trans t6⟩))
   have Hs:Hid (∀a0 a1 a2 a3 a4 a5 a6:Value,((((((((WR.setCell ⟨w.heap.size+1,0,none⟩ a0).setCell ⟨w.heap.size+1,1,none⟩ a1).setCell ⟨w.heap.size+1,2,none⟩ a2).setCell ⟨w.heap.size+1,3,none⟩ a3).setCell ⟨w.heap.size+1,4,none⟩ a4).setCell ⟨w.heap.size+1,5,none⟩ a5).setCell ⟨w.heap.size+1,6,none⟩ a6).drew).cell? ⟨w.heap.size,1,none⟩=some (.slice DA ds.length mc)/\((((((((WR.setCell ⟨w.heap.size+1,0,none⟩ a0).setCell ⟨w.heap.size+1,1,none⟩ a1).setCell ⟨w.heap.size+1,2,none⟩ a2).setCell ⟨w.heap.size+1,3,none⟩ a3).setCell ⟨w.heap.size+1,4,none⟩ a4).setCell ⟨w.heap.size+1,5,none⟩ a5).setCell ⟨w.heap.size+1,6,none⟩ a6).drew).cell? ⟨TB,0,none⟩=some (.slice B0 k0 p0)/\((((((((WR.setCell ⟨w.heap.size+1,0,none⟩ a0).setCell ⟨w.heap.size+1,1,none⟩ a1).setCell ⟨w.heap.size+1,2,none⟩ a2).setCell ⟨w.heap.size+1,3,none⟩ a3).setCell ⟨w.heap.size+1,4,none⟩ a4).setCell ⟨w.heap.size+1,5,none⟩ a5).setCell ⟨w.heap.size+1,6,none⟩ a6).drew).cell? ⟨TB,1,none⟩=some (.slice B1 k1 p1)/\((((((((WR.setCell ⟨w.heap.size+1,0,none⟩ a0).setCell ⟨w.heap.size+1,1,none⟩ a1).setCell ⟨w.heap.size+1,2,none⟩ a2).setCell ⟨w.heap.size+1,3,none⟩ a3).setCell ⟨w.heap.size+1,4,none⟩ a4).setCell ⟨w.heap.size+1,5,none⟩ a5).setCell ⟨w.heap.size+1,6,none⟩ a6).drew).cell? ⟨TB,2,none⟩=some (.slice B2 k2 p2)/\((((((((WR.setCell ⟨w.heap.size+1,0,none⟩ a0).setCell ⟨w.heap.size+1,1,none⟩ a1).setCell ⟨w.heap.size+1,2,none⟩ a2).setCell ⟨w.heap.size+1,3,none⟩ a3).setCell ⟨w.heap.size+1,4,none⟩ a4).setCell ⟨w.heap.size+1,5,none⟩ a5).setCell ⟨w.heap.size+1,6,none⟩ a6).drew).cell? ⟨TB,3,none⟩=some (.slice B3 k3 p3)/\((((((((WR.setCell ⟨w.heap.size+1,0,none⟩ a0).setCell ⟨w.heap.size+1,1,none⟩ a1).setCell ⟨w.heap.size+1,2,none⟩ a2).setCell ⟨w.heap.size+1,3,none⟩ a3).setCell ⟨w.heap.size+1,4,none⟩ a4).setCell ⟨w.heap.size+1,5,none⟩ a5).setCell ⟨w.heap.size+1,6,none⟩ a6).drew).cell? ⟨TB,4,none⟩=some (.slice B4 k4 p4)/\((((((((WR.setCell ⟨w.heap.size+1,0,none⟩ a0).setCell ⟨w.heap.size+1,1,none⟩ a1).setCell ⟨w.heap.size+1,2,none⟩ a2).setCell ⟨w.heap.size+1,3,none⟩ a3).setCell ⟨w.heap.size+1,4,none⟩ a4).setCell ⟨w.heap.size+1,5,none⟩ a5).setCell ⟨w.heap.size+1,6,none⟩ a6).drew).cell? ⟨TB,5,none⟩=some (.slice B5 k5 p5)/\((((((((WR.setCell ⟨w.heap.size+1,0,none⟩ a0).setCell ⟨w.heap.size+1,1,none⟩ a1).setCell ⟨w.heap.size+1,2,none⟩ a2).setCell ⟨w.heap.size+1,3,none⟩ a3).setCell ⟨w.heap.size+1,4,none⟩ a4).setCell ⟨w.heap.size+1,5,none⟩ a5).setCell ⟨w.heap.size+1,6,none⟩ a6).drew).cell? ⟨TB,6,none⟩=some (.slice B6 k6 p6)):=zHi (fun a0 a1 a2 a3 a4 a5 a6=>by
    obtain⟨y0,y1,y2,y3,y4,y5,y6,y7⟩:=aL.o WR (Below.refl _ _);have ho:=zc4 (a0:=a0) (a1:=a1) (a2:=a2) (a3:=a3) (a4:=a4) (a5:=a5) (a6:=a6) HA.o.res rfl;have Gi:=HA.o.tb;have n0:w.heap.size≠w.heap.size+1:=Mcl;have nT:TB≠w.heap.size+1:=Mcl;simp only[World.cell?_drew]
    exact⟨(ho.cell n0).trans y0,(ho.cell nT).trans y1,(ho.cell nT).trans y2,(ho.cell nT).trans y3,(ho.cell nT).trans y4,(ho.cell nT).trans y5,(ho.cell nT).trans y6,(ho.cell nT).trans y7⟩)
   have ze:Hid (∀a0 a1 a2 a3 a4 a5 a6:Value,((((((((WR.setCell ⟨w.heap.size+1,0,none⟩ a0).setCell ⟨w.heap.size+1,1,none⟩ a1).setCell ⟨w.heap.size+1,2,none⟩ a2).setCell ⟨w.heap.size+1,3,none⟩ a3).setCell ⟨w.heap.size+1,4,none⟩ a4).setCell ⟨w.heap.size+1,5,none⟩ a5).setCell ⟨w.heap.size+1,6,none⟩ a6).drew).heap[w.heap.size+1]?=some (.cells #[a0,a1,a2,a3,a4,a5,a6] 40)):=zHi (fun a0 a1 a2 a3 a4 a5 a6=>(drew_heap _ _).trans (zc0 (a:=a0) (b:=a1) (c:=a2) (d:=a3) (e:=a4) (f:=a5) (h':=a6) HA.o.res));have Bl:=zHi (fun a0 a1 a2 a3 a4 a5 a6=>(zc4 (a0:=a0) (a1:=a1) (a2:=a2) (a3:=a3) (a4:=a4) (a5:=a5) (a6:=a6) HA.o.res rfl).st HA.o.tAt);refine zaC 5 (fun bb w'=>bb=true\/(w'.cell? ⟨w.heap.size,1,none⟩=some (.slice DA ds.length mc)/\w'.cell? ⟨TB,0,none⟩=some (.slice B0 k0 p0)/\w'.cell? ⟨TB,1,none⟩=some (.slice B1 k1 p1)/\w'.cell? ⟨TB,2,none⟩=some (.slice B2 k2 p2)/\w'.cell? ⟨TB,3,none⟩=some (.slice B3 k3 p3)/\w'.cell? ⟨TB,4,none⟩=some (.slice B4 k4 p4)/\w'.cell? ⟨TB,5,none⟩=some (.slice B5 k5 p5)/\w'.cell? ⟨TB,6,none⟩=some (.slice B6 k6 p6))) Mcm (.inr (aL.o _ (zaM (Below.refl _ _)))) ?hrest
   case hrest=>
    intro hHeld;clear x0 x1 s0 s1 s2 s3 s4 s5 s6 t0 t1 t2 t3 t4 t5 t6 r0 r1 r2 r3 r4 r5 r6 sf tf rf lx ls lt' lr;refine TkM 0 ?_;refine TkM 1 ?_;refine TkM 2 ?_;refine TkM 3 ?_;obtain⟨x0,x1⟩:=zba (HA.o).box;obtain⟨s0,s1,s2,s3,s4,s5,s6⟩:=zaG (HA.o).st;obtain⟨t0,t1,t2,t3,t4,t5,t6⟩:=zaG (HA.o).tcell;obtain⟨r0,r1,r2,r3,r4,r5,r6⟩:=zaG (HA.o).res;have sf:=frz (HA.o).st;have tf:=frz (HA.o).tcell;have rf:=frz (HA.o).res;have lx:=zab (HA.o).box;have ls:=zab (HA.o).st;have lt':=zab (HA.o).tcell;have lr:=zab (HA.o).res;refine OnM 4 false fun K hK=> ?_
    go_simp
    refine NxM hK (fun hHeld=> ?_) (.inr (Hs.o _ _ _ _ _ _ _));clear hK K;refine OnM 5 true fun K hK=> ?_
    go_simp
    refine NxM hK fun hHeld=> ?_
    clear hK K;refine OnM 6 true fun K hK=> ?_
    go_simp
    refine NxM hK fun hHeld=> ?_
    clear hK K;refine zaQ Mcm ?_ _;clear hHeld;go_wp2_with fail
    refine bodyPost_ret (zeL rfl _ rfl rfl rfl (ze.o _ _ _ _ _ _ _)) rfl ?_;rw[HE.o];exact⟨_,_,_,_,_,_,_,rfl,by first|rfl|exact⟨rfl,rfl,rfl,rfl,rfl,rfl,rfl⟩,zaM (zc9 HB.o (show w.heap.size<=w.heap.size+1 by omega)),fun _=>(Bl.o _ _ _ _ _ _ _).keep (zaM (Below.refl _ _))⟩
end Go.Proofs.YtckkbkdcdkhglaaGreatDoor
