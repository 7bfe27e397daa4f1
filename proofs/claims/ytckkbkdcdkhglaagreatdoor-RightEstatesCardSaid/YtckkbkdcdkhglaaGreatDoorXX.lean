/- Walks of the reference's HoldersOf; parts that are the same. -/
import Derived.Test.YtckkbkdcdkhglaaGreatDoorXS
set_option linter.unusedSimpArgs false
set_option linter.unusedVariables false
set_option maxRecDepth 100000
set_option maxHeartbeats 4000000
namespace Go.Proofs.YtckkbkdcdkhglaaGreatDoor
open Go.RowKit Go.Shelf
attribute [local go_sem] World.cell?_alloc_mark zag za5 zaq za8 zaw zax zay zaz za0 za1 za2
attribute [local go_sem] zap zad
structure Told (k:Nat) (s:St):Prop where
 good: ∃b,GoodSt s b
 few:FewS k s
 wills:s.wills.length<=k
theorem Told.up {k:Nat} {s:St} (h:Told k s):Told (k+1) s:=⟨h.good,h.few.up,by have:=h.wills;omega⟩
theorem told_go {laws:List Law} {upto:Int} (bh:zaA laws=0): ∀ {ds:List Deed} {s told:St} {k:Nat} {last:Int},GoodSt s last->FewS k s->s.wills.length<=k->Told k told->(zaY laws upto ds s told k last).2.2=0->Told (k+ds.length) (zaY laws upto ds s told k last).1
 | [],s,told,k,last,_,_,_,ht,_=>ht
 |d::l,s,told,k,last,hg,hf,hw,ht,h=>by
  rw[zaY]at h⊢;split at h
  ·rename_i hc
   have h:(zch laws s k last d).2=0:=h;rw[h]at hc;exact absurd hc Mcn
  ·rename_i hc
   rw[if_neg hc];have hn:=zeq (show(zch laws s k last d).2=0 by simpa using hc);have hd:=zeW hn.1;have iZ:zbq laws s d=((zch laws s k last d).1,0):=by rw[<-hn.2.2.2];exact Prod.ext rfl Meo
   have g:=zgW hg hd hn.2.2.1 bh iZ;have f:=zkL hf hn.2.1 hg hd hn.2.2.1 bh iZ;have e:=zke iZ
   have:=told_go (ds:=l) (told:=if decide (d.day<=upto)then(zch laws s k last d).1 else told) bh g f Mcl (by
    split
    ·exact⟨⟨_,g⟩,f,by omega⟩
    ·exact ht.up) h
   rw[List.length_cons,show k+(l.length+1)=k+1+l.length by omega];exact this
theorem znv {laws:List Law} {ds:List Deed} {u:Int} (h:(zaF laws ds u).2.2=0):zaA laws=0:=by
 unfold zaF at h;split at h
 ·rename_i h1
  exact absurd h McR
 ·rename_i h1
  simpa using h1
theorem znw {laws:List Law} {ds:List Deed} {u:Int} (h:(zaF laws ds u).2.2=0):Told ds.length (zaF laws ds u).1:=by
 have bh:=znv h;unfold zaF at h⊢;rw[if_neg (by simp[bh])]at h⊢;have:=told_go bh (zeX 0) zgA (Nat.le_refl _) ⟨⟨_,zeX 0⟩,zgA,Nat.le_refl _⟩ h;rwa [Nat.zero_add]at this
theorem zpr (laws:List Law) (ds:List Deed) (u u':Int):(zaF laws ds u).2=(zaF laws ds u').2:=by
 unfold zaF;split
 ·rfl
 ·exact zhi laws u u' ds _ _ _ _ _
theorem zkf (laws:List Law) (ds:List Deed) (names:List ByteArray) (day:Int) (LA:Option Addr) (n nc:Nat) (DA:Option Addr) (m mc:Nat) (NA:Option Addr) (l c:Nat) (w:World) (hR:RightsIn w laws ds LA n nc DA m mc) (hO: ∀d∈ds,zdv d) (bz:ds.length<=500) (hl:l=names.length) (pL:names.length<=1000) (hN: ∀s∈names,s.size<=100000) (hS:Sl w 1 sC NA names):
 Calls Tryz.prog 11 #[.agg #[.slice LA n nc, .slice DA m mc], .slice NA l c, .int .i64 day] w (Ret w (.int .i64 (zbL laws ds names day))):=by
 subst hl;have lS:=zHi (fun W (hB:Below w.heap.size w W)=>zjf laws ds 200000 LA n nc DA m mc W (hR.keep hB) hO bz);have HS:=zHi (fun W (hB:Below w.heap.size w W)=>(hS.keep hB:Sl W 1 sC NA names));have HN:=zHi hN;obtain⟨R,me⟩: ∃R,R=zbL laws ds names day:=⟨_,rfl⟩
 rw[<-me];unfold zbL at me;rw[zea]at me;unfold zkU at lS;generalize zaF laws ds 200000=Q at*;obtain⟨st,rk,re⟩:=Q;simp only at me lS;have qA:=zHi me;clear me hR hO hS hN;go_enter Tryz.func11,Tryz.ntmps11
 go_upto_region 1 with fail
 obtain⟨W0,ao⟩: ∃W0,W0=w.alloc (.cells #[.slice LA n nc, .slice DA m mc] 25):=⟨_,rfl⟩
 obtain⟨b0,aI⟩:=boxed ao.symm;rw[<-ao];have ak:=zHi aI;obtain⟨x0,x1⟩:=zba b0;have lx:=zab b0;have aw:=aI.size;clear ao aI b0
 go_upto_region 2 with(go_at_call 29
                       go_must(refine(lS.o _ ak.o).mono ?_)
                       rintro e w2 ⟨a0,a1,a2,a3,a4,a5,a6,rfl,aP,bF,_⟩;obtain⟨⟨A0,m0,q0,rfl⟩,⟨A1,m1,q1,rfl⟩,⟨A2,m2,q2,rfl⟩,⟨A3,m3,q3,rfl⟩,⟨A4,m4,q4,rfl⟩,⟨A5,m5,q5,rfl⟩,⟨A6,m6,q6,rfl⟩⟩:=zcd aP;have aS:=zHi (ak.o.trans (bF.mono aw))
                       clear bF aP)
 obtain⟨W3,aX⟩: ∃W3,W3=w2.alloc (.cells #[.slice A0 m0 q0, .slice A1 m1 q1, .slice A2 m2 q2, .slice A3 m3 q3, .slice A4 m4 q4, .slice A5 m5 q5, .slice A6 m6 q6] 40):=⟨_,rfl⟩
 have av:Below w.heap.size w W3:=by rw[aX];exact zac aS.o _ (by have:=aS.o.size;omega)
 rw[<-aX];have aJ:=zHi av;clear aX av x0 x1 lx;by_cases g7:re=0;rotate_left 1
 ·have kU:(re != 0)=true:=by simpa using g7
  have HE:Hid (R=re):=by show _=_;rw[qA.o,if_pos kU]
  clear g7;go_wp2_with fail
  go_ret
  exact Ret.of (zb5 HE.o.symm) aJ.o
 subst g7;have Bt:Hid (R=if(names.drop 0).any (fun s=>!zaR s)then 4 else if !zbm day then 2 else 0):=by show _=_;rw[qA.o,if_neg Mco];rfl
 clear qA;go_upto_region 5 with fail
 go_loopw [10] (fun i wr=> ∃k:Nat,k<=names.length/\i= .int .i64 k/\W3=wr/\Hid (R=if(names.drop k).any (fun s=>!zaR s)then 4 else if !zbm day then 2 else 0)) (fun i _=>names.length-(intOf i).toNat)
 case atStart=>exact⟨0,Nat.zero_le _,rfl,rfl,Bt⟩
 case round=>
  obtain⟨k,hk,rfl,rfl,HX⟩:=hrel;by_cases aa:k<names.length
  ·obtain⟨b,off,hA,hb,ah⟩:=(HS.o W3 aJ.o).at aa;have hx:=HX.o;rw[List.drop_eq_getElem_cons aa,List.any_cons]at hx;have hsz:=HN.o _ (List.getElem_mem aa);have au:=zHi hx;have aq:=zHi aa;generalize names[k]=x at*;have i0:W3.cell? ⟨b,off+k,none⟩=some (.string x):=McM;have ar:(k:Int)<(names.length:Int):=Mcl;have aT:(0:Int)<=(k:Int):=Mcl;subst hA;clear ah hx aa;cases hp3:zaR x
   ·have nJ:zcA x=false:=Med;have HE:Hid (R=4):=by show _=_;rw[au.o];simp[hp3]
    go_wp2_with (go_at_call 30;go_must(refine(zcK _ _ McV).mono ?_);rintro e wq ⟨rfl,rfl⟩;rw[nJ])
    go_ret
    exact Ret.of (zb5 HE.o.symm) aJ.o
   ·have nJ:zcA x=true:=Med;have HE:Hid (R=if(names.drop (k+1)).any (fun s=>!zaR s)then 4 else if !zbm day then 2 else 0):=by show _=_;rw[au.o,hp3];rfl
    go_wp2_with (go_at_call 30;go_must(refine(zcK _ _ McV).mono ?_);rintro e wq ⟨rfl,rfl⟩;rw[nJ])
    go_round
    case rel=>exact⟨k+1,aq.o,by go_num,by first|exact True.intro|rfl,HE⟩
    case measure=>have:=aq.o;simp only[intOf];omega
  ·have ar: ¬(k:Int)<(names.length:Int):=Mcl;have hx:=HX.o;rw[List.drop_of_length_le Mcl]at hx;cases hd:zbm day
   ·have HE:Hid (R=2):=by show _=_;rw[hx,hd];rfl
    exact MaQ
   ·have HE:Hid (R=0):=by show _=_;rw[hx,hd];rfl
    exact MaQ
def zkV (w:World) (laws:List Law) (R:St×Nat×Int) (e:Ending) (w':World):Prop:=
 ∃a0 a1 a2 a3 a4 a5 a6,e= .returned (.agg #[a0,a1,a2,a3,a4,a5,a6])/\([a0,a1,a2,a3,a4,a5,a6].all zcC)=true/\Below w.heap.size w w'/\(R.2.2=0->StAt w' laws R.1 a0 a1 a2 a3 a4 a5 a6)
theorem rOn_any (laws:List Law) (ds:List Deed) (day:Int) (LA:Option Addr) (n nc:Nat) (DA:Option Addr) (m mc:Nat) (w:World) (hR:RightsIn w laws ds LA n nc DA m mc) (hO: ∀d∈ds,zdv d) (bz:ds.length<=500):
 Calls Tryz.prog 12 #[.agg #[.slice LA n nc, .slice DA m mc], .int .i64 day] w (zkV w laws (zaF laws ds day)):=by
 have lS:=zHi (fun W (hB:Below w.heap.size w W)=>zjf laws ds day LA n nc DA m mc W (hR.keep hB) hO bz);unfold zkU at lS;unfold zkV;generalize zaF laws ds day=Q at*;clear hR hO;go_enter Tryz.func12,Tryz.ntmps12
 go_upto_region 1 with fail
 obtain⟨W0,ao⟩: ∃W0,W0=(w.alloc (.cells #[.slice LA n nc, .slice DA m mc] 25)).alloc (.cells #[.slice none 0 0, .slice none 0 0, .slice none 0 0, .slice none 0 0, .slice none 0 0, .slice none 0 0, .slice none 0 0] 40):=⟨_,rfl⟩
 have b0:W0.heap[w.heap.size]?=some (.cells #[.slice LA n nc, .slice DA m mc] 25):=MdF;have b1:W0.heap[w.heap.size+1]?=some (.cells #[.slice none 0 0, .slice none 0 0, .slice none 0 0, .slice none 0 0, .slice none 0 0, .slice none 0 0, .slice none 0 0] 40):=by rw[ao];exact zar _ _ _ Mco
 have aI:Below w.heap.size w W0:=McY;rw[<-ao];have ak:=zHi aI;have B1:=zHi b1;obtain⟨x0,x1⟩:=zba b0;have lx:=zab b0;have lr:=zab b1;have aw:=aI.size;clear ao aI b0 b1
 go_upto_region 2 with(go_at_call 29
                       go_must(refine(lS.o _ ak.o).mono ?_)
                       rintro e w2 ⟨a0,a1,a2,a3,a4,a5,a6,rfl,aP,bF,am⟩;have vj:=zHi aP;obtain⟨⟨A0,m0,q0,rfl⟩,⟨A1,m1,q1,rfl⟩,⟨A2,m2,q2,rfl⟩,⟨A3,m3,q3,rfl⟩,⟨A4,m4,q4,rfl⟩,⟨A5,m5,q5,rfl⟩,⟨A6,m6,q6,rfl⟩⟩:=zcd aP;have r2:=(bF.block _ lr).trans B1.o;have aS:=zHi (ak.o.trans (bF.mono aw));have aB:=zHi am
                       clear bF aP am)
 obtain⟨YB,ry⟩: ∃YB,YB=w2.heap.size:=⟨_,rfl⟩
 obtain⟨W3,aX⟩: ∃W3,W3=w2.alloc (.cells #[.slice A0 m0 q0, .slice A1 m1 q1, .slice A2 m2 q2, .slice A3 m3 q3, .slice A4 m4 q4, .slice A5 m5 q5, .slice A6 m6 q6] 40):=⟨_,rfl⟩
 have av:Below w2.heap.size w2 W3:=by rw[aX];exact zac (Below.refl _ _) _
 have gY:W3.heap[YB]?=some (.cells #[.slice A0 m0 q0, .slice A1 m1 q1, .slice A2 m2 q2, .slice A3 m3 q3, .slice A4 m4 q4, .slice A5 m5 q5, .slice A6 m6 q6] 40):=by rw[aX,ry];exact zar _ _ _ rfl
 have r3:=(av.block _ (zab r2)).trans r2;have aJ:=zHi (aS.o.trans (av.mono aS.o.size));have bB:=zHi (fun h0=>(aB.o h0).keep av);rw[<-aX,<-ry];clear aX ry av x0 x1 lx lr r2;obtain⟨s0,s1,s2,s3,s4,s5,s6⟩:=zaG gY;obtain⟨r0,r1,r2,r3',r4,r5,r6⟩:=zaG r3;have rf:=frz r3;have ls:=zab gY;have lr:=zab r3;go_wp2_with fail
 refine bodyPost_ret (zkc rfl _ rfl (zc0 r3)) rfl ?_;exact⟨_,_,_,_,_,_,_,rfl,vj.o,zc9 aJ.o (show w.heap.size<=w.heap.size+1 by omega),fun h0=>(zc4 r3 rfl).st (bB.o h0)⟩
theorem Told.stFew {k:Nat} {s:St} {wd rd:List Deed} (h:Told k s) (hk:k<=1000) (hL:StLink s wd rd):StFew s wd rd:=zog h.few h.wills hk hL
theorem zjw (xs:List RPart) (P Q:Option Addr) (pc qc:Nat) (w:World) (hp:Sl w 3 RPart.cells P xs) (hq:Sl w 3 RPart.cells Q xs) (hl:xs.length<=100000):
 Calls Tryz.prog 14 #[.slice P xs.length pc, .slice Q xs.length qc] w (Ret w (.bool true)):=by
 exact Mw
theorem zjg (xs:Parts) (P Q:Option Addr) (pc qc:Nat) (w:World) (hp:Sl w 3 zaa P xs) (hq:Sl w 3 zaa Q xs) (hl:xs.length<=100000):Calls Tryz.prog 14 #[.slice P xs.length pc, .slice Q xs.length qc] w (Ret w (.bool true)):=by
 have h:=zjw (xs.map toR) P Q pc qc w (sl_map hp toR fun _=>rfl) (sl_map hq toR fun _=>rfl) (by rw[List.length_map];exact hl);rw[List.length_map]at h;exact h
def zfB (w:World) (xs:Parts) (e:Ending) (w':World):Prop:= ∃A c,e= .returned (.slice A xs.length c)/\Sl w' 3 zaa A xs/\Below w.heap.size w w'
theorem zoh (laws:List Law) (s:St) (k:Nat) (place:ByteArray) (day:Int) (w:World) {a0 a1 a2 a3 a4 a5 a6:Value} (h:StAt w laws s a0 a1 a2 a3 a4 a5 a6) (hT:Told k s) (hk:k<=1000):
 Calls Tryz.prog 15 #[.agg #[a0,a1,a2,a3,a4,a5,a6], .string place, .int .i64 day] w (zfB w (zcH s place day)):=by
 obtain⟨wd,rd,LA,CA,MA,DA,WA,RA,GA,c0,c1,c2,c3,c4,c5,c6,rfl,rfl,rfl,rfl,rfl,rfl,rfl,hI,hL⟩:=h;have hf:=hT.stFew hk hL;have HG:=zHi (fun W (hB:Below w.heap.size w W)=>ziW place day W (hI.keep hB) hf);obtain⟨gxs,hm,bp,bw⟩:=zns hI.graves;have HM:=zHi hm;have dm:=zHi (fun W (hB:Below w.heap.size w W) x hx=>(bp x hx).keep hB);have bZ:=zHi (fun W (hB:Below w.heap.size w W)=>(bw.keep hB:Sl W 5 GX.cells GA gxs));unfold zfB;obtain⟨R,hR⟩: ∃R,R=zcH s place day:=⟨_,rfl⟩
 rw[<-hR];unfold zcH at hR;have HR:=zHi hR;clear hI hL hT hf hm bp bw hR;go_enter Tryz.func15,Tryz.ntmps15
 go_upto_region 1 with fail
 obtain⟨W0,ao⟩: ∃W0,W0=w.alloc (.cells #[.slice LA laws.length c0, .slice CA s.children.length c1, .slice MA s.marriages.length c2, .slice DA s.dead.length c3, .slice WA wd.length c4, .slice RA rd.length c5, .slice GA s.graves.length c6] 40):=⟨_,rfl⟩
 obtain⟨b0,aI⟩:=boxed ao.symm;rw[<-ao];have ak:=zHi aI;have B0:=zHi b0;have aw:=aI.size;obtain⟨s0,s1,s2,s3,s4,s5,s6⟩:=zaG b0;have ls:=zab b0;clear ao aI b0;cases aA:zaJ s place day with
 |none=>
  rw[zfs aA]at HG;have HE:Hid (R=[]):=by show _=_;rw[HR.o,aA]
  clear HR aA;go_wp2_with (go_at_call 13;go_must(refine(HG.o _ ak.o).mono ?_);rintro e wq ⟨rfl,z,rfl⟩)
  go_ret
  rw[HE.o];exact⟨none,0,rfl,Sl.nil,ak.o.trans ((zam W0 z).mono aw)⟩
 |some i=>
  rw[zd3 aA]at HG;obtain⟨g,bO,bS,pA⟩:=zgB aA;obtain⟨hi,kE⟩:=gx_at HM.o bO;have hE:R=g.holders:=by rw[HR.o,aA];show(s.graves.getD i ze0).holders=_;rw[bS]
  have HE:=zHi hE;have eb:(i:Int)<(s.graves.length:Int):=by rw[<-HM.o,List.length_map];omega
  have eN:(0:Int)<=(i:Int):=Mcl;have aN: ¬(i:Int)<0:=Mcl;have ie:=dm.o _ ak.o _ (List.getElem_mem hi);obtain⟨gb,gof,kf,cL,ah⟩:=(bZ.o _ ak.o).at hi;generalize gxs[i]=x at*;subst kE;subst kf;have i3:W0.cell? ⟨gb,gof+i*5+3,none⟩=some (.slice x.H x.g.holders.length x.hc):=ah 3 _ rfl;have HX:=zHi ie.1;clear ah ie HR aA bO bS pA hE;go_wp2_with (go_at_call 13;go_must(refine(HG.o _ ak.o).mono ?_);rintro e wq ⟨rfl,z,rfl⟩)
  go_ret
  rw[HE.o];exact⟨x.H,x.hc,rfl,HX.o.keep (zam W0 z),ak.o.trans ((zam W0 z).mono aw)⟩
section
variable {laws:List Law} {s:St} {k:Nat} {w:World} {a0 a1 a2 a3 a4 a5 a6:Value}
theorem tGrave (h:StAt w laws s a0 a1 a2 a3 a4 a5 a6) (hT:Told k s) (hk:k<=1000) (place:ByteArray) (day:Int):Calls Tryz.prog 13 #[.agg #[a0,a1,a2,a3,a4,a5,a6], .string place, .int .i64 day] w (Ret w (.int .i64 (zjp s.graves place day))):=by
 obtain⟨wd,rd,LA,CA,MA,DA,WA,RA,GA,c0,c1,c2,c3,c4,c5,c6,rfl,rfl,rfl,rfl,rfl,rfl,rfl,hI,hL⟩:=h;exact ziW place day w hI (hT.stFew hk hL)
theorem tDead (h:StAt w laws s a0 a1 a2 a3 a4 a5 a6) (hT:Told k s) (hk:k<=1000) (n:ByteArray):Calls Tryz.prog 17 #[.agg #[a0,a1,a2,a3,a4,a5,a6], .string n] w (Ret w (.bool (zaH s n))):=by
 obtain⟨wd,rd,LA,CA,MA,DA,WA,RA,GA,c0,c1,c2,c3,c4,c5,c6,rfl,rfl,rfl,rfl,rfl,rfl,rfl,hI,hL⟩:=h;exact sDead n w hI (hT.stFew hk hL)
theorem StAt.grave (h:StAt w laws s a0 a1 a2 a3 a4 a5 a6) {i:Nat} {g:Grave} (hg:s.graves[i]?=some g): ∃b off c,a6= .slice (some ⟨b,off,none⟩) s.graves.length c/\i<s.graves.length/\b<w.heap.size/\w.cell? ⟨b,off+i*5+1,none⟩=some (.int .i64 g.cls)/\w.cell? ⟨b,off+i*5+2,none⟩=some (.int .i64 g.fin):=by
 obtain⟨wd,rd,LA,CA,MA,DA,WA,RA,GA,c0,c1,c2,c3,c4,c5,c6,rfl,rfl,rfl,rfl,rfl,rfl,rfl,hI,hL⟩:=h;obtain⟨gxs,hm,_,bw⟩:=zns hI.graves;obtain⟨hi,kE⟩:=gx_at hm hg;obtain⟨b,off,rfl,hb,ah⟩:=bw.at hi;subst kE;exact⟨b,off,c6,rfl,by rw[<-hm,List.length_map];exact hi,hb,ah 1 _ rfl,ah 2 _ rfl⟩
end
theorem on_told {laws:List Law} {ds:List Deed} {names:List ByteArray} {day:Int} (h:zbL laws ds names day=0):(zaF laws ds day).2.2=0/\Told ds.length (zaF laws ds day).1:=by
 have h1:=(on_stop h).1;rw[zea,zpr laws ds 200000 day]at h1;exact⟨h1,znw h1⟩
end Go.Proofs.YtckkbkdcdkhglaaGreatDoor
