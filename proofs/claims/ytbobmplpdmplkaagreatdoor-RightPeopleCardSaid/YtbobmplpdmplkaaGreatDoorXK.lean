import Derived.Test.YtbobmplpdmplkaaGreatDoorXG
set_option linter.all false
set_option maxRecDepth 100000
set_option maxHeartbeats 4000000
namespace Go.Proofs.YtbobmplpdmplkaaGreatDoor
open Go.RowKit Go.Shelf
attribute [local go_sem] World.cell?_alloc_mark zaf za4 zam za7 zaw zax zay zaz za0 za1 za2
attribute [local go_sem] zan zac
theorem zmn{W:World}{e t:TypeId}{g o size b:Nat}{css:List (List Value)}{cs:Array Value}{fr:Nat×Nat}(h:RowC W e g o size css)(hb:W.heap[b]?=some (.cells cs t fr))(ai:t≠e):g≠b:=fun he=>by
 obtain⟨cur,h1,_⟩:=h.row;rw[he,hb]at h1;simp only[Option.some.injEq,Obj.cells.injEq]at h1;exact ai h1.2.1
theorem znw(laws:List Law)(s:St)(wd rd:List Deed)(LA CA MA DA WA RA GA:Option Addr)(c0 c1 c2 c3 c4 c5 c6:Nat)(gxs:List GX)(i:Nat)(hm:gxs.map (·.g)=s.graves){w:World}(bE:∀x∈gxs,x.ok w)(y:GX)(W:World)(ga go c:Nat)(h:StIn w laws s wd rd LA CA MA DA WA RA GA c0 c1 c2 c3 c4 c5 c6)(hk:StLink s wd rd)(hB:Below w.heap.size w W)(hr:RowC W 100 ga go 5 ((gxs.set i y).map GX.cells))(hy:y.ok W):
 StAt W laws (s.withGrave i y.g) (.slice LA laws.length c0) (.slice CA s.children.length c1) (.slice MA s.marriages.length c2) (.slice DA s.dead.length c3) (.slice WA wd.length c4) (.slice RA rd.length c5) (.slice (some ⟨ga,go,none⟩) s.graves.length c):=by
 have h':=h.keep hB;refine⟨wd,rd,LA,CA,MA,DA,WA,RA,some ⟨ga,go,none⟩,c0,c1,c2,c3,c4,c5,c,rfl,rfl,rfl,rfl,rfl,rfl,?_,⟨h'.laws,h'.kids,h'.marr,h'.dead,h'.wills,h'.ren,?_,h'.deadc⟩,⟨hk.wills,hk.shares,hk.ren,hk.tos⟩⟩
 ·unfold St.withGrave;rw[List.length_set]
 ·refine slw_gx (hr.sl rfl) (by unfold St.withGrave;rw[List.map_set,hm]) fun x hx=>?_
  rcases List.mem_or_eq_of_mem_set hx with hx|rfl
  ·exact(bE x hx).keep hB
  ·exact hy
theorem ddF{W:World}{a b c:Nat}{x0 x1 x2 x3 x4 x5 x6 y0 y1 y2 y3 y4 y5 y6 z0 z1 z2 z3 z4 z5 z6:Value}{t t' u:TypeId}{f f':Nat×Nat}(h:W.heap[a]?=some (.cells #[x0,x1,x2,x3,x4,x5,x6] t f)/\W.heap[b]?=some (.cells #[y0,y1,y2,y3,y4,y5,y6] t' f')/\W.heap[c]?=some (.cells #[z0,z1,z2,z3,z4,z5,z6] u (0,0))):
 (W.heap[a]?=some (.cells #[x0,x1,x2,x3,x4,x5,x6] t f)/\W.heap[b]?=some (.cells #[y0,y1,y2,y3,y4,y5,y6] t' f')/\W.heap[c]?=some (.cells #[z0,z1,z2,z3,z4,z5,z6] u (0,0)))/\(W.cell? ⟨a,0,none⟩=some x0/\W.cell? ⟨a,1,none⟩=some x1/\W.cell? ⟨a,2,none⟩=some x2/\W.cell? ⟨a,3,none⟩=some x3/\W.cell? ⟨a,4,none⟩=some x4/\W.cell? ⟨a,5,none⟩=some x5/\W.cell? ⟨a,6,none⟩=some x6)/\(W.cell? ⟨b,0,none⟩=some y0/\W.cell? ⟨b,1,none⟩=some y1/\W.cell? ⟨b,2,none⟩=some y2/\W.cell? ⟨b,3,none⟩=some y3/\W.cell? ⟨b,4,none⟩=some y4/\W.cell? ⟨b,5,none⟩=some y5/\W.cell? ⟨b,6,none⟩=some y6)/\(W.cell? ⟨c,0,none⟩=some z0/\W.cell? ⟨c,1,none⟩=some z1/\W.cell? ⟨c,2,none⟩=some z2/\W.cell? ⟨c,3,none⟩=some z3/\W.cell? ⟨c,4,none⟩=some z4/\W.cell? ⟨c,5,none⟩=some z5/\W.cell? ⟨c,6,none⟩=some z6)/\(∀j,W.frozen? ⟨c,j,none⟩=false)/\a<W.heap.size/\b<W.heap.size/\c<W.heap.size:=
 ⟨h,zaF h.1,zaF h.2.1,zaF h.2.2,frz h.2.2,zab h.1,zab h.2.1,zab h.2.2⟩
theorem dd_boxes{w:World}(o0 o1 o2:Obj):Hid (Below w.heap.size w (((w.alloc o0).alloc o1).alloc o2))/\Hid (∀W,Below (((w.alloc o0).alloc o1).alloc o2).heap.size (((w.alloc o0).alloc o1).alloc o2) W->W.heap[w.heap.size]?=some o0/\W.heap[w.heap.size+1]?=some o1/\W.heap[w.heap.size+2]?=some o2):=by
 refine⟨by show Below _ _ _;exact Bw,fun W hB=>⟨?_,?_,?_⟩⟩
 ·exact(hB.block _ McD).trans (zal (zal (zar _ _ _ rfl)))
 ·exact(hB.block _ McB).trans (zal (zar _ _ _ McB))
 ·exact(hB.block _ McB).trans (zar _ _ _ McB)
theorem zeI{w W0:World}{o0 o1 o2:Obj}(h:((w.alloc o0).alloc o1).alloc o2=W0):Hid (Below w.heap.size w W0)/\Hid (∀W,Below W0.heap.size W0 W->W.heap[w.heap.size]?=some o0/\W.heap[w.heap.size+1]?=some o1/\W.heap[w.heap.size+2]?=some o2):=by
 subst h;exact dd_boxes _ _ _
theorem ziZ{s:St}{pl:ByteArray}{day:Int}(h:zaR s pl day=none):zk7 s.graves pl day= -1:=by rw[zob,h]
theorem zex{s:St}{pl:ByteArray}{day:Int}{i:Nat}(h:zaR s pl day=some i):zk7 s.graves pl day=i:=by rw[zob,h]
theorem gx_at{xs:List GX}{gs:List Grave}{i:Nat}{g:Grave}(hm:xs.map (·.g)=gs)(hg:gs[i]?=some g):∃(hi:i<xs.length),xs[i].g=g:=by
 rw[<-hm,List.getElem?_map]at hg;obtain⟨x,hx,rfl⟩:=Option.map_eq_some_iff.1 hg;obtain⟨hi,rfl⟩:=List.getElem?_eq_some_iff.1 hx;exact⟨hi,rfl⟩
theorem zpr(laws:List Law)(s:St)(wd rd:List Deed)(LA CA MA DA WA RA GA:Option Addr)(c0 c1 c2 c3 c4 c5 c6:Nat)(d:Deed)(B:Option Addr)(c:Nat)(w:World)(h:StIn w laws s wd rd LA CA MA DA WA RA GA c0 c1 c2 c3 c4 c5 c6)(hk:StLink s wd rd)(hf:StFew s wd rd)(hd:OkD d)(hS:Sl w 3 RPart.cells B d.to)(bJ:∀g∈s.graves,g.fin<=200000):Calls Tryz.prog 143 #[.agg #[.slice LA laws.length c0,.slice CA s.children.length c1,.slice MA s.marriages.length c2,.slice DA s.dead.length c3,.slice WA wd.length c4,.slice RA rd.length c5,.slice GA s.graves.length c6],d.v B c] w (zfE w laws (zcZ s d)):=by
 obtain⟨R,hR⟩:∃R,R=zcZ s d:=⟨_,rfl⟩
 rw[<-hR];obtain⟨gxs,hm,bE,bv⟩:=gx_of h.graves;obtain⟨HM,dG,bZ,qp⟩:=yH4 hm bE bv bJ;clear hm bE bv bJ;obtain⟨H,HK,HF,HD,HS,HR⟩:=yH6 (fun W (hB:Below w.heap.size w W)=>h.keep hB) hk hf hd (fun W (hB:Below w.heap.size w W)=>hS.keep hB) hR;unfold Deed.v;clear h hk hf hd hS hR;go_enter Tryz.func143,Tryz.ntmps143
 go_upto_region 1 with fail
 generalize am:World.alloc (World.alloc (World.alloc w _) _) _=W0;obtain⟨aj,av⟩:=zeI am;clear am;have aw:=aj.o.size;obtain⟨⟨xs0,xd0,xr0⟩,⟨s0,s1,s2,s3,s4,s5,s6⟩,⟨d0,d1,d2,d3,d4,d5,d6⟩,⟨r0,r1,r2,r3,r4,r5,r6⟩,rf,ls,ld,lr⟩:=ddF (av.o W0 (Below.refl _ _));have ej:=zHi (fun W (hB:Below W0.heap.size W0 W)=>zml d.place d.day W (H.o W (aj.o.trans (hB.mono aw))) HF.o);have hr:=HR.o;unfold zcZ at hr;cases aO:zaR s d.place d.day with
 |none=>
  exact Mcu
 |some i=>
  rw[aO]at hr;rw[zex aO]at ej;obtain⟨g,bB,cy,zS⟩:=zjK aO;simp only[cy]at hr;obtain⟨hi,oZ⟩:=gx_at HM.o bB;have eV:i<s.graves.length:=Md0;have jA:=dG.o _ (List.getElem_mem hi);have qQ:=zHi (fun(y:GX) W (hB:Below W0.heap.size W0 W)=>ziY laws s wd rd LA CA MA DA WA RA GA c0 c1 c2 c3 c4 c5 c6 gxs i y W HM.o (bZ.o.keep (aj.o.trans (hB.mono aw))) HF.o eV);obtain⟨jY,aB⟩:=yH2 (znw laws s wd rd LA CA MA DA WA RA GA c0 c1 c2 c3 c4 c5 c6 gxs i HM.o dG.o) (fun W (hB:Below W0.heap.size W0 W)=>H.o W (aj.o.trans (hB.mono aw)));go_upto_region 2 with(go_at_call 42;go_must(refine(ej.o _ (Below.refl _ _)).mono ?_);rintro e wq ⟨rfl,z1,rfl⟩)
  obtain⟨W1,aT⟩:∃W1,W1=W0.ext z1:=⟨_,rfl⟩
  have aS:Below W0.heap.size W0 W1:=Mds;rw[<-aT];clear aT;clear xs0 xd0 xr0 s0 s1 s2 s3 s4 s5 s6 d0 d1 d2 d3 d4 d5 d6 r0 r1 r2 r3 r4 r5 r6 rf ls ld lr;obtain⟨⟨xs0,xd0,xr0⟩,⟨s0,s1,s2,s3,s4,s5,s6⟩,⟨d0,d1,d2,d3,d4,d5,d6⟩,⟨r0,r1,r2,r3,r4,r5,r6⟩,rf,ls,ld,lr⟩:=ddF (av.o W1 (aS));have wx:=aS.size;have eP:=aj.o.trans (aS.mono aw);obtain⟨gb,gof,lZ,dJ,ah⟩:=(bZ.o.keep eP).at hi;generalize gxs[i]=x at*;subst oZ;subst lZ;have i0:=ah 0 _ rfl;have i1:=ah 1 _ rfl;have i2:=ah 2 _ rfl;have i3:=ah 3 _ rfl;have i4:=ah 4 _ rfl;simp only[Nat.add_zero]at i0;have xb:(i:Int)<(s.graves.length:Int):=Mcy;have fm:(0:Int)<=(i:Int):=Mcy;have aH:¬(i:Int)<0:=Mcy;clear ah;go_upto_region 5 with fail
  obtain⟨W2,bP⟩:∃W2,W2=W1.alloc (.cells #[.string x.g.place,.int .i64 x.g.cls,.int .i64 x.g.fin,.slice x.H x.g.holders.length x.hc,.slice x.D x.g.died.length x.dc] 100):=⟨_,rfl⟩
  have gG:W2.heap[W1.heap.size]?=some (.cells #[.string x.g.place,.int .i64 x.g.cls,.int .i64 x.g.fin,.slice x.H x.g.holders.length x.hc,.slice x.D x.g.died.length x.dc] 100):=Meu;have aJ:Hid (Below W0.heap.size W0 W2):=MdI;have kT:W1.heap.size<W2.heap.size:=zab gG;have us:=zHi eP;obtain⟨GB,j8⟩:∃GB,GB=W1.heap.size:=⟨_,rfl⟩
  rw[<-bP,<-j8];rw[<-j8]at gG kT;have iG:W0.heap.size<=GB:=Mcy;clear bP j8 aS eP i0 i1 i2 i3 i4;clear xs0 xd0 xr0 s0 s1 s2 s3 s4 s5 s6 d0 d1 d2 d3 d4 d5 d6 r0 r1 r2 r3 r4 r5 r6 rf ls ld lr;obtain⟨g0,g1,g2,g3,g4⟩:=zea gG;by_cases tQ:x.g.fin<0
  ·have HE:Hid (R=(s,15)):=by show _=_;rw[hr,if_pos (by simpa using tQ)]
   clear hr;go_upto_region 6 with fail
   obtain⟨⟨xs0,xd0,xr0⟩,⟨s0,s1,s2,s3,s4,s5,s6⟩,⟨d0,d1,d2,d3,d4,d5,d6⟩,⟨r0,r1,r2,r3,r4,r5,r6⟩,rf,ls,ld,lr⟩:=ddF (av.o W2 (aJ.o));have bm:=aJ.o;exact Mg
  ·rw[if_neg (by simpa using tQ)]at hr;have eS:=qp.o x.g (List.mem_of_getElem? bB);have Aj:=zHi (fun W=>zjR x.g.fin d.years W Mcy eS HD.o.years.1 HD.o.years.2);have g2f:=frz gG;obtain⟨⟨xs0,xd0,xr0⟩,⟨s0,s1,s2,s3,s4,s5,s6⟩,⟨d0,d1,d2,d3,d4,d5,d6⟩,⟨r0,r1,r2,r3,r4,r5,r6⟩,rf,ls,ld,lr⟩:=ddF (av.o W2 (aJ.o));have GG:=zHi gG;generalize zcd x.g.fin d.years=af at*;go_upto_region 8 with(go_at_call 165;go_must(refine(Aj.o _).mono ?_);rintro e wq ⟨rfl,z2,rfl⟩)
   clear xs0 xd0 xr0 s0 s1 s2 s3 s4 s5 s6 d0 d1 d2 d3 d4 d5 d6 r0 r1 r2 r3 r4 r5 r6 rf ls ld lr;obtain⟨W3,aY⟩:∃W3,W3=(W2.setCell ⟨GB,2,none⟩ (.int .i64 af)).ext z2:=⟨_,rfl⟩
   have gG3:W3.heap[GB]?=some (.cells #[.string x.g.place,.int .i64 x.g.cls,.int .i64 af,.slice x.H x.g.holders.length x.hc,.slice x.D x.g.died.length x.dc] 100):=by
    rw[aY];exact Mbw
   have dS:Below W0.heap.size W0 W3:=by rw[aY];exact zbv (zaP aJ.o iG _) z2
   rw[<-aY];clear aY g0 g1 g2 g3 g4 g2f;obtain⟨g0,g1,g2,g3,g4⟩:=zea gG3;have vA:=dS.size;have cz:=zab gG3;obtain⟨⟨xs0,xd0,xr0⟩,⟨s0,s1,s2,s3,s4,s5,s6⟩,⟨d0,d1,d2,d3,d4,d5,d6⟩,⟨r0,r1,r2,r3,r4,r5,r6⟩,rf,ls,ld,lr⟩:=ddF (av.o W3 (dS));by_cases oz:af<0
   ·have HE:Hid (R=(s,2)):=by show _=_;rw[hr,if_pos (by simpa using oz)]
    clear hr;go_upto_region 9 with fail
    have bm:=dS;exact Mg
   ·have HE:Hid (R=(s.withGrave i {x.g with fin:=af},0)):=by show _=_;rw[hr,if_neg (by simpa using oz)]
    have lU:=zHi (qQ.o {x with g:= {x.g with fin:=af}} W3 dS);unfold GX.cells zgE at lU;dsimp only at lU;have aD:=zHi dS;clear hr aO;go_upto_region 10 with fail
    go_wp2_with (go_at_call 171
                 go_must(refine(lU.o).mono ?_)
                 rintro e w5 ⟨ga,go,gc,rfl,bi,ao⟩;have aP:=aD.o.trans (ao.mono vA);obtain⟨_,_,xr5⟩:=av.o w5 aP;obtain⟨t0,t1,t2,t3,t4,t5,t6⟩:=zaF xr5;have tf:=frz xr5;obtain⟨bX,bj⟩:=yH2 bi aP
                 clear bi ao aP)
    rw[HE.o];refine bodyPost_ret (zbC rfl _ rfl rfl (zcy xr5)) rfl ?_;have dm:=zcA (a0:=.slice LA laws.length c0) (a1:=.slice CA s.children.length c1) (a2:=.slice MA s.marriages.length c2) (a3:=.slice DA s.dead.length c3) (a4:=.slice WA wd.length c4) (a5:=.slice RA rd.length c5) (a6:=.slice (some ⟨ga,go,none⟩) s.graves.length gc) (aj.o.trans (bj.o.mono aw)) (show w.heap.size<=w.heap.size+2 by omega);exact⟨_,_,_,_,_,_,_,rfl,rfl,dm,fun _=>jY.o {x with g:= {x.g with fin:=af}} _ ga go gc (H.o w (Below.refl _ _)) HK.o dm (bX.o.ne7 (zmn bX.o xr5 McA)) (jA.keep dm)⟩
theorem zps(w:World)(g:Nat)(a b:Value):w.grownBy ((w.setCell ⟨g,0,none⟩ a).setCell ⟨g,1,none⟩ b) (some g):=zbo (zav w g 0 a) (zav _ g 1 b)
theorem zja{α:Type}{W:World}{e t:TypeId}{f:α->List Value}{A:Option Addr}{xs:List α}{b:Nat}{cs:Array Value}{fr:Nat×Nat}{a0 a1 a2 a3 a4 a5 a6:Value}(h:Ro W e f A xs)(hb:W.heap[b]?=some (.cells cs t fr))(ai:t≠e):
 Ro (((((((W.setCell ⟨b,0,none⟩ a0).setCell ⟨b,1,none⟩ a1).setCell ⟨b,2,none⟩ a2).setCell ⟨b,3,none⟩ a3).setCell ⟨b,4,none⟩ a4).setCell ⟨b,5,none⟩ a5).setCell ⟨b,6,none⟩ a6) e f A xs:=
 h.same fun k cur fr' hk _=>by
  have mG:k≠b:=fun he=>by
   rw[he,hb]at hk;simp only[Option.some.injEq,Obj.cells.injEq]at hk;exact ai hk.2.1
  rw[hk];exact J_ne mG (J_ne mG (J_ne mG (J_ne mG (J_ne mG (J_ne mG (J_ne mG hk))))))
def surM(l:Parts)(frm:ByteArray)(q:Rat):Parts:=(zas l frm).map fun p=>(p.1,p.2/q)
theorem surM_snoc{l:Parts}{n:ByteArray}{q:Rat}{k:Nat}(h:k<l.length):surM (l.take (k+1)) n q=surM (l.take k) n q++(if zae l[k].1 n then[]else[(l[k].1,l[k].2/q)]):=by
 unfold surM;rw[zht h,List.map_append];cases zae l[k].1 n<;>rfl
theorem zoj(l:Parts)(n:ByteArray)(q:Rat):(surM l n q).length<=l.length:=by
 unfold surM;exact MbH
theorem zjt(laws:List Law)(s:St)(wd rd:List Deed)(LA CA MA DA WA RA GA:Option Addr)(c0 c1 c2 c3 c4 c5 c6:Nat)(d:Deed)(B:Option Addr)(c:Nat)(w:World)(h:StIn w laws s wd rd LA CA MA DA WA RA GA c0 c1 c2 c3 c4 c5 c6)(hk:StLink s wd rd)(hf:StFew s wd rd)(hd:OkD d)(hS:Sl w 3 RPart.cells B d.to)(bf:∀g∈s.graves,GoodG g/\g.holders.length<=50000):Calls Tryz.prog 142 #[.agg #[.slice LA laws.length c0,.slice CA s.children.length c1,.slice MA s.marriages.length c2,.slice DA s.dead.length c3,.slice WA wd.length c4,.slice RA rd.length c5,.slice GA s.graves.length c6],d.v B c] w (zfE w laws (zaZ s d)):=by
 obtain⟨R,hR⟩:∃R,R=zaZ s d:=⟨_,rfl⟩
 rw[<-hR];obtain⟨gxs,hm,bE,bv⟩:=gx_of h.graves;obtain⟨HM,dG,bZ,eb⟩:=yH4 hm bE bv bf;clear hm bE bv bf;obtain⟨H,HK,HF,HD,HS,HR⟩:=yH6 (fun W (hB:Below w.heap.size w W)=>h.keep hB) hk hf hd (fun W (hB:Below w.heap.size w W)=>hS.keep hB) hR;unfold Deed.v;clear h hk hf hd hS hR;go_enter Tryz.func142,Tryz.ntmps142
 go_upto_region 1 with fail
 generalize am:World.alloc (World.alloc (World.alloc w _) _) _=W0;obtain⟨aj,av⟩:=zeI am;clear am;have aw:=aj.o.size;obtain⟨⟨xs0,xd0,xr0⟩,⟨s0,s1,s2,s3,s4,s5,s6⟩,⟨d0,d1,d2,d3,d4,d5,d6⟩,⟨r0,r1,r2,r3,r4,r5,r6⟩,rf,ls,ld,lr⟩:=ddF (av.o W0 (Below.refl _ _));have ej:=zHi (fun W (hB:Below W0.heap.size W0 W)=>zml d.place d.day W (H.o W (aj.o.trans (hB.mono aw))) HF.o);have hr:=HR.o;unfold zaZ at hr;cases aO:zaR s d.place d.day with
 |none=>
  exact Mcu
 |some i=>
  rw[aO]at hr;rw[zex aO]at ej;obtain⟨g,bB,cy,zS⟩:=zjK aO;simp only[cy]at hr;obtain⟨hi,oZ⟩:=gx_at HM.o bB;have eV:i<s.graves.length:=Md0;have jA:=dG.o _ (List.getElem_mem hi);have qQ:=zHi (fun(y:GX) W (hB:Below W0.heap.size W0 W)=>ziY laws s wd rd LA CA MA DA WA RA GA c0 c1 c2 c3 c4 c5 c6 gxs i y W HM.o (bZ.o.keep (aj.o.trans (hB.mono aw))) HF.o eV);obtain⟨jY,aB⟩:=yH2 (znw laws s wd rd LA CA MA DA WA RA GA c0 c1 c2 c3 c4 c5 c6 gxs i HM.o dG.o) (fun W (hB:Below W0.heap.size W0 W)=>H.o W (aj.o.trans (hB.mono aw)));go_upto_region 2 with(go_at_call 42;go_must(refine(ej.o _ (Below.refl _ _)).mono ?_);rintro e wq ⟨rfl,z1,rfl⟩)
  obtain⟨W1,aT⟩:∃W1,W1=W0.ext z1:=⟨_,rfl⟩
  have aS:Below W0.heap.size W0 W1:=Mds;rw[<-aT];clear aT;clear xs0 xd0 xr0 s0 s1 s2 s3 s4 s5 s6 d0 d1 d2 d3 d4 d5 d6 r0 r1 r2 r3 r4 r5 r6 rf ls ld lr;obtain⟨⟨xs0,xd0,xr0⟩,⟨s0,s1,s2,s3,s4,s5,s6⟩,⟨d0,d1,d2,d3,d4,d5,d6⟩,⟨r0,r1,r2,r3,r4,r5,r6⟩,rf,ls,ld,lr⟩:=ddF (av.o W1 (aS));have wx:=aS.size;have eP:=aj.o.trans (aS.mono aw);obtain⟨gb,gof,lZ,dJ,ah⟩:=(bZ.o.keep eP).at hi;generalize gxs[i]=x at*;subst oZ;subst lZ;have i0:=ah 0 _ rfl;have i1:=ah 1 _ rfl;have i2:=ah 2 _ rfl;have i3:=ah 3 _ rfl;have i4:=ah 4 _ rfl;simp only[Nat.add_zero]at i0;have xb:(i:Int)<(s.graves.length:Int):=Mcy;have fm:(0:Int)<=(i:Int):=Mcy;have aH:¬(i:Int)<0:=Mcy;clear ah;go_upto_region 5 with fail
  obtain⟨W2,bP⟩:∃W2,W2=W1.alloc (.cells #[.string x.g.place,.int .i64 x.g.cls,.int .i64 x.g.fin,.slice x.H x.g.holders.length x.hc,.slice x.D x.g.died.length x.dc] 100):=⟨_,rfl⟩
  have gG:W2.heap[W1.heap.size]?=some (.cells #[.string x.g.place,.int .i64 x.g.cls,.int .i64 x.g.fin,.slice x.H x.g.holders.length x.hc,.slice x.D x.g.died.length x.dc] 100):=Meu;have aJ:Hid (Below W0.heap.size W0 W2):=MdI;have kT:W1.heap.size<W2.heap.size:=zab gG;have us:=zHi eP;obtain⟨GB,j8⟩:∃GB,GB=W1.heap.size:=⟨_,rfl⟩
  rw[<-bP,<-j8];rw[<-j8]at gG kT;have iG:W0.heap.size<=GB:=Mcy;clear bP j8 aS eP i0 i1 i2 i3 i4;clear xs0 xd0 xr0 s0 s1 s2 s3 s4 s5 s6 d0 d1 d2 d3 d4 d5 d6 r0 r1 r2 r3 r4 r5 r6 rf ls ld lr;obtain⟨dp,cz⟩:=eb.o x.g zS;have p8:=jA.keep (aj.o.trans (aJ.o.mono aw));have nr:=zHi (fun W (hB:Below W2.heap.size W2 W)=>zfg x.g.holders d.frm x.H x.hc W Mcy (p8.1.keep hB));have cR:=fun h=>zlt (frm:=d.frm) dp h
  change R=(if(zag x.g.holders d.frm==0)=true then(s,19)else if zaE (surM x.g.holders d.frm (1-zag x.g.holders d.frm))=true then(s,8)else(s.withGrave i {x.g with holders:=surM x.g.holders d.frm (1-zag x.g.holders d.frm)},0))at hr;generalize zag x.g.holders d.frm=sh at*;unfold zaA at nr;obtain⟨g0,g1,g2,g3,g4⟩:=zea gG;have oA:=aJ.o.size;have GG:=zHi gG;obtain⟨⟨xs0,xd0,xr0⟩,⟨s0,s1,s2,s3,s4,s5,s6⟩,⟨d0,d1,d2,d3,d4,d5,d6⟩,⟨r0,r1,r2,r3,r4,r5,r6⟩,rf,ls,ld,lr⟩:=ddF (av.o W2 (aJ.o));go_upto_region 6 with(go_at_call 14;go_must(refine(nr.o _ (Below.refl _ _)).mono ?_);rintro e wq ⟨rfl,z2,rfl⟩)
  obtain⟨SB,ja⟩:∃SB,SB=W2.heap.size+z2.os.size:=⟨_,rfl⟩
  obtain⟨W3,aY⟩:∃W3,W3=(W2.ext z2).alloc (.cells #[.int .i64 (sh).num,.int .i64 (sh).den] 31):=⟨_,rfl⟩
  have gS:W3.heap[SB]?=some (.cells #[.int .i64 (sh).num,.int .i64 (sh).den] 31):=by rw[aY];exact zar _ _ _ (by rw[ja];simp[zaf])
  have ax:Below W2.heap.size W2 W3:=by rw[aY];exact zad (zaq W2 z2) _
  rw[<-aY,<-ja];clear aY ja g0 g1 g2 g3 g4 gG;clear xs0 xd0 xr0 s0 s1 s2 s3 s4 s5 s6 d0 d1 d2 d3 d4 d5 d6 r0 r1 r2 r3 r4 r5 r6 rf ls ld lr;have je:=ax.size;obtain⟨aD,G3,GS⟩:=yH3 (aJ.o.trans (ax.mono oA)) ((ax.block GB kT).trans GG.o) gS;obtain⟨q0,q1⟩:=zbt gS;have ru:=zab gS;obtain⟨⟨xs0,xd0,xr0⟩,⟨s0,s1,s2,s3,s4,s5,s6⟩,⟨d0,d1,d2,d3,d4,d5,d6⟩,⟨r0,r1,r2,r3,r4,r5,r6⟩,rf,ls,ld,lr⟩:=ddF (av.o W3 (aD.o));by_cases hz:sh=0
  ·have mY:(sh.num==0)=true:=by rw[hz];rfl
   have HE:Hid (R=(s,19)):=by show _=_;rw[hr,if_pos MdD]
   clear hr;go_upto_region 7 with fail
   have bm:=aD.o;exact Mg
  ·have mY:(sh.num==0)=false:=by
    exact Mbe
   rw[if_neg MdD]at hr;obtain⟨m1,m2,m3,m4⟩:=cR hz;obtain⟨eH,nk,Eh⟩:=yH3 (fun W=>zhI 1 sh W ⟨by decide,by decide⟩ m1) m4 m2;unfold zaA at eH;rw[show(1:Rat).num=1 from rfl,show((1:Rat).den:Int)=1 from rfl]at eH;clear hz m1 m2 m3 m4 cR;go_upto_region 9 with fail
   refine zd8 3 _ _ (.cells #[.int .i64 0,.int .i64 0] 31) (.cells #[.int .i64 (1-sh).num,.int .i64 (1-sh).den] 31) Mcz Mcz rfl rfl ?hrun ?_
   case hrun=>intro a W;kernel_rfl
   simp only[List.take_succ_cons,List.take_zero];repeat(refine ze5 (fun K hK=>?_);simp only[grow];go_simp;first|(refine hK _ ?_;clear hK K)|(apply Exists.intro;refine⟨fun _=>?_,hK _ ?_⟩;((first|(go_at_call 139;exact quietg (zhM _))|(go_at_call 169;exact quietg (eH.o _))));clear hK K))
   refine zfw ⟨?hstore,?hlast⟩
   case hstore=>
    exact MD
   case hlast=>
    rintro LB W4 ⟨z4,ij⟩ tE gL;obtain⟨lf,ko⟩:∃lf,lf=1-sh:=⟨_,rfl⟩
    rw[<-ko]at hr nk Eh gL;have aC:Below W3.heap.size W3 W4:=by rw[ij];exact zaq _ _
    have EI:=aC.size;obtain⟨cM,G4,GL⟩:=yH3 (aD.o.trans (aC.mono Mcy)) ((aC.block GB Mcy).trans G3.o) gL;have fF:=zab gL;have CP:GB<W4.heap.size:=Mcy;have IQ:=zHi ((jA.keep (aj.o.trans (cM.o.mono aw))));clear ij ko gL aC gS q0 q1 ru eH mY;clear xs0 xd0 xr0 s0 s1 s2 s3 s4 s5 s6 d0 d1 d2 d3 d4 d5 d6 r0 r1 r2 r3 r4 r5 r6 rf ls ld lr;go_upto_region 11 with fail
    go_loopw [9,11] (fun v i wr=>∃k:Nat,k<=x.g.holders.length/\i=.int .i64 k/\OwnS wr W4.heap.size 71 3 zaa v (surM (x.g.holders.take k) d.frm lf)/\Below W4.heap.size W4 wr) (fun _ i _=>x.g.holders.length-(intOf i).toNat)
    case atStart=>exact⟨0,Nat.zero_le _,rfl,OwnS.nil,Below.refl _ _⟩
    case round=>
     obtain⟨k,hk,rfl,aa,hB⟩:=hrel;have aG:=hB.size;obtain⟨HO,HB⟩:=yH2 aa hB;have io:=(hB.block GB CP).trans G4.o;have CJ:=(hB.block LB fF).trans GL.o;obtain⟨g0,g1,g2,g3,g4⟩:=zea io;obtain⟨l0,l1⟩:=zbt CJ;have CQ:=zab io;have xp:=zab CJ;have cv:=cM.o.trans (hB.mono Mcy);obtain⟨⟨xs0,xd0,xr0⟩,⟨s0,s1,s2,s3,s4,s5,s6⟩,⟨d0,d1,d2,d3,d4,d5,d6⟩,⟨r0,r1,r2,r3,r4,r5,r6⟩,rf,ls,ld,lr⟩:=ddF (av.o wr (cv));have b8:=zHi cv;by_cases ae:k<x.g.holders.length
     ·obtain⟨b,off,hA,hb,ah⟩:=(IQ.o.1.keep hB).at ae;have aq:=surM_snoc (n:=d.frm) (q:=lf) ae;have bM:=Nat.le_trans (zoj (x.g.holders.take k) d.frm lf) (by rw[List.length_take];omega:(x.g.holders.take k).length<=k);have gB:=nk.o _ (List.getElem_mem ae);generalize surM (x.g.holders.take k) d.frm lf=xs at*;obtain⟨VA,vc,rfl,_,kB⟩:=aa.sl zap;have ak:=zHi ae;generalize x.g.holders[k]=p at*;obtain⟨nm,q⟩:=p;rw[hA]at g3;have i0:wr.cell? ⟨b,off+k*3,none⟩=some (.string nm):=ah 0 _ rfl;have i1:wr.cell? ⟨b,off+k*3+1,none⟩=some (.int .i64 q.num):=ah 1 _ rfl;have i2:wr.cell? ⟨b,off+k*3+2,none⟩=some (.int .i64 q.den):=ah 2 _ rfl;have ar:(k:Int)<(x.g.holders.length:Int):=Mcy;have aQ:(0:Int)<=(k:Int):=Mcy;have fN:Hid (xs.length<=100000):=by show _<=_;omega
      simp only at gB aq;have aE:=zHi (fun(W:World) (h:Below wr.heap.size wr W)=>(show W.cell? ⟨GB,3,none⟩=some (.slice (some ⟨b,off,none⟩) x.g.holders.length x.hc)/\W.cell? ⟨b,off+k*3,none⟩=some (.string nm)/\W.cell? ⟨b,off+k*3+1,none⟩=some (.int .i64 q.num)/\W.cell? ⟨b,off+k*3+2,none⟩=some (.int .i64 q.den)/\W.cell? ⟨LB,0,none⟩=some (.int .i64 lf.num)/\W.cell? ⟨LB,1,none⟩=some (.int .i64 lf.den) from⟨(zah h CQ).trans g3,(zah h hb).trans i0,(zah h hb).trans i1,(zah h hb).trans i2,(zah h xp).trans l0,(zah h xp).trans l1⟩));go_upto_region 13 with fail
      cases hs:zae nm d.frm
      ·have bn:(nm.toList==d.frm.toList)=false:=hs;have aB:Hid (surM (x.g.holders.take (k+1)) d.frm lf=xs++[(nm,q/lf)]):=by show _=_;rw[aq,hs];rfl
       obtain⟨iM,xP⟩:=gB hs;have Ei:=zHi (fun W=>rQuo_any q lf W xP Eh.o iM);unfold zaA at Ei;clear ah ae aa aq hs gB iM xP
       (refine zaj Mcz Mcz ?_
        repeat(first|go_big_quiet_skip|(go_big_quiet_want;go_big_quiet_op;first|go_big_quiet_on|(apply Exists.intro;refine⟨fun _=>?_,?_⟩;(fail);go_big_quiet_on)))
        refine wpQuiet_nil ?_
        rintro _ ⟨zq,rfl⟩)
       obtain⟨WQ,ox⟩:∃WQ,WQ=wr.ext zq:=⟨_,rfl⟩
       have mg:Below wr.heap.size wr WQ:=Mex;rw[<-ox];clear ox g0 g1 g2 g3 g4 l0 l1 i0 i1 i2;clear xs0 xd0 xr0 s0 s1 s2 s3 s4 s5 s6 d0 d1 d2 d3 d4 d5 d6 r0 r1 r2 r3 r4 r5 r6 rf ls ld lr;have JQ:=mg.size;go_upto_region 14 with fail
       refine zaB 17 (fun bb w'=>bb=true\/(w'.cell? ⟨GB,3,none⟩=some (.slice (some ⟨b,off,none⟩) x.g.holders.length x.hc)/\w'.cell? ⟨b,off+k*3,none⟩=some (.string nm)/\w'.cell? ⟨b,off+k*3+1,none⟩=some (.int .i64 q.num)/\w'.cell? ⟨b,off+k*3+2,none⟩=some (.int .i64 q.den)/\w'.cell? ⟨LB,0,none⟩=some (.int .i64 lf.num)/\w'.cell? ⟨LB,1,none⟩=some (.int .i64 lf.den))) Mcz (.inr (aE.o _ (zaK mg))) ?hrest
       case hrest=>
        intro hHeld;refine TkM 0 ?_;refine TkM 1 ?_;refine TkM 2 ?_;refine TkM 3 ?_;refine TkM 4 ?_;refine TkM 5 ?_;refine TkM 6 ?_;refine TkM 7 ?_;refine TkM 8 ?_;refine TkM 9 ?_;refine TkM 10 ?_;refine TkM 11 ?_;refine TkM 12 ?_;refine TkM 13 ?_;refine OnM 14 false fun K hK=>?_
        go_simp
        refine(Ei.o _).mono ?_;rintro e w5 ⟨rfl,z,rfl⟩;have ao:Below wr.heap.size wr (WQ.drew.ext z):=zbv (zaK mg) z;refine NxM hK (fun hHeld=>?_) (.inr (aE.o _ ao));clear hK K;refine TkM 15 ?_;refine OnM 16 false fun K hK=>?_
        go_simp
        have aP:Below wr.heap.size wr ((WQ.drew.ext z).alloc (.cells #[.string nm,.int .i64 (q/lf).num,.int .i64 (q/lf).den] 71)):=zad ao _;refine NxM hK (fun hHeld=>?_) (.inr (aE.o _ aP));clear hK K;refine OnM 17 true fun K hK=>?_
        refine zak (v:=.slice VA xs.length vc) (n:=xs.length) (m:=1) rfl _ _ rfl zdN zap zcb rfl (xs:=xs) (ys:=[(nm,q/lf)]) (HO.o.keep (n:=wr.heap.size) aP) rfl rfl rfl (zde (zar _ _ _ MdO)) (by have:=fN.o;simp only[maxLen];omega) Mdh MdM ?_;intro v7 w7 h1 h2 h3;obtain⟨A7,c7,kA,_,_⟩:=h1.sl zap;rw[List.length_append]at kA;subst kA;have bQ:Below W4.heap.size W4 w7:=Below.grown (HB.o.trans (aP.mono aG)) h2 MdM (fun j hj=>(HO.o.ge j hj).1);refine NxM hK fun hHeld=>?_
        clear hK K;refine OnM 18 true fun K hK=>?_
        go_simp
        refine NxM hK fun hHeld=>?_
        clear hK K;refine zaM Mcz ?_ _;clear hHeld;obtain⟨H7,cj⟩:=yH2 h1 bQ;clear h1 h2 h3 bQ;go_wp2_with fail
        go_round
        case rel=>exact⟨k+1,ak.o,by go_num,by rw[aB.o];exact H7.o,cj.o⟩
        case measure=>have:=ak.o;simp only[intOf];omega
      ·have bn:(nm.toList==d.frm.toList)=true:=hs;have aB:Hid (surM (x.g.holders.take (k+1)) d.frm lf=xs):=by show _=_;rw[aq,hs];simp
       clear ah ae aa aq hs gB
       (refine zaj Mcz Mcz ?_
        repeat(first|go_big_quiet_skip|(go_big_quiet_want;go_big_quiet_op;first|go_big_quiet_on|(apply Exists.intro;refine⟨fun _=>?_,?_⟩;(fail);go_big_quiet_on)))
        refine wpQuiet_nil ?_
        rintro _ ⟨zq,rfl⟩)
       go_wp2_with fail
       go_round
       case rel=>exact⟨k+1,ak.o,by go_num,by rw[aB.o];exact HO.o.keep (n:=wr.heap.size) (zaq _ _),zbv HB.o zq⟩
       case measure=>have:=ak.o;simp only[intOf];omega
     ·have ar:¬(k:Int)<(x.g.holders.length:Int):=Mcy;rw[List.take_of_length_le Mcy]at HO aa;have kp:=zoj x.g.holders d.frm lf;generalize surM x.g.holders d.frm lf=out at*;obtain⟨VA,vc,rfl,jb,_⟩:=aa.sl zap;have cS:=zHi (fun W (h:Below wr.heap.size wr W)=>zdE out VA vc W Mcy (jb.keep h));have g3f:=frz io;have lJ:=zHi io;clear aa jb ae hB CJ;cases hlg:zaE out
      ·rw[hlg]at cS hr;have HE:Hid (R=(s.withGrave i {x.g with holders:=out},0)):=by show _=_;rw[hr];rfl
       clear hr hlg aO;go_upto_region 18 with(go_at_call 170;go_must(refine(cS.o _ Bw).mono ?_);rintro e wq ⟨rfl,rfl⟩)
       obtain⟨W6,gw⟩:∃W6,W6=wr.setCell ⟨GB,3,none⟩ (.slice VA out.length vc):=⟨_,rfl⟩
       have gG6:W6.heap[GB]?=some (.cells #[.string x.g.place,.int .i64 x.g.cls,.int .i64 x.g.fin,.slice VA out.length vc,.slice x.D x.g.died.length x.dc] 100):=by
        rw[gw];have:=Joins.block_setCell (i:=3) lJ.o (.slice VA out.length vc);simpa using this
       have lX:Below W0.heap.size W0 W6:=by rw[gw];exact zaP b8.o iG _
       have pR:OwnS W6 W4.heap.size 71 3 zaa (.slice VA out.length vc) out:=by rw[gw];exact HO.o.kept (zav _ _ _ _) lJ.o McA
       rw[<-gw];clear gw g0 g1 g2 g3 g4 g3f l0 l1 io;clear xs0 xd0 xr0 s0 s1 s2 s3 s4 s5 s6 d0 d1 d2 d3 d4 d5 d6 r0 r1 r2 r3 r4 r5 r6 rf ls ld lr;obtain⟨g0,g1,g2,g3,g4⟩:=zea gG6;have bC:=zab gG6;have qU:=lX.size;obtain⟨⟨xs0,xd0,xr0⟩,⟨s0,s1,s2,s3,s4,s5,s6⟩,⟨d0,d1,d2,d3,d4,d5,d6⟩,⟨r0,r1,r2,r3,r4,r5,r6⟩,rf,ls,ld,lr⟩:=ddF (av.o W6 (lX));have lU:=zHi (qQ.o ({g:= {x.g with holders:=out},H:=VA,hc:=vc,D:=x.D,dc:=x.dc}:GX) W6 lX);unfold GX.cells zgE at lU;dsimp only at lU;obtain⟨bj,lM⟩:=yH2 lX pR;clear lX pR gG6
       go_wp2_with (go_at_call 171
                    go_must(refine(lU.o).mono ?_)
                    rintro e w5 ⟨ga,go,gc,rfl,bi,ao⟩;have bQ:=bj.o.trans (ao.mono qU);obtain⟨_,_,xr5⟩:=av.o w5 bQ;obtain⟨t0,t1,t2,t3,t4,t5,t6⟩:=zaF xr5;have tf:=frz xr5;obtain⟨bX,cj,lA⟩:=yH3 bi bQ ao
                    clear bi ao bQ)
       rw[HE.o];refine bodyPost_ret (zbC rfl _ rfl rfl (zcy xr5)) rfl ?_;have dm:=zcA (a0:=.slice LA laws.length c0) (a1:=.slice CA s.children.length c1) (a2:=.slice MA s.marriages.length c2) (a3:=.slice DA s.dead.length c3) (a4:=.slice WA wd.length c4) (a5:=.slice RA rd.length c5) (a6:=.slice (some ⟨ga,go,none⟩) s.graves.length gc) (aj.o.trans (cj.o.mono aw)) (show w.heap.size<=w.heap.size+2 by omega);obtain⟨A',c',my,_,dX⟩:=lM.o.ro;obtain⟨rfl,_,rfl⟩:VA=A'/\out.length=out.length/\vc=c':=by simpa using my
       exact⟨_,_,_,_,_,_,_,rfl,rfl,dm,fun _=>jY.o ({g:= {x.g with holders:=out},H:=VA,hc:=vc,D:=x.D,dc:=x.dc}:GX) _ ga go gc (H.o w (Below.refl _ _)) HK.o dm (bX.o.ne7 (zmn bX.o xr5 McA)) ⟨(zja (dX.keep lA.o) xr5 McA).sl zap,(jA.keep dm).2⟩⟩
      ·rw[hlg]at cS hr;have HE:Hid (R=(s,8)):=by show _=_;rw[hr];rfl
       clear hr hlg aO;go_upto_region 16 with(go_at_call 170;go_must(refine(cS.o _ Bw).mono ?_);rintro e wq ⟨rfl,rfl⟩)
       have bm:=b8.o;exact Mg
structure GainSt (own:Rat) (out l:Parts):Prop where
 good:GoodParts out
 small:zaE out=false
 le:sumQ out+own*sumQ l<=1
 pos:∀p∈l,0<=p.2
theorem GainSt.parts{own:Rat}{out l:Parts}(h:GainSt own out l)(ho:0<=own):∀p∈out,zaI p.2:=by
 have h1:=Rat.mul_nonneg ho (zbr h.pos);exact fun p hp=>(zdF (hs:=out) ⟨h.good,h.small,by have:=h.le;grind⟩ hp).2.2
theorem GainSt.next{own:Rat}{out l:Parts}{n:ByteArray}{q:Rat}(ho:0<=own)(h:GainSt own out ((n,q)::l))(hl:zaE (za3 out n (own*q))=false):GainSt own (za3 out n (own*q)) l:=by
 have hq:=h.pos (n,q) McB;have bI:=h.le;rw[sumQ]at bI;exact⟨zbx (Rat.mul_nonneg ho hq) h.good,hl,by rw[zbV];grind,fun p hp=>h.pos p Mdw⟩
theorem GainSt.more{own:Rat}{out l:Parts}{n:ByteArray}{q:Rat}(ho:0<=own)(h:GainSt own out ((n,q)::l)):0<=own*q/\own*q<=1:=by
 have hq:=h.pos (n,q) McB;have bI:=h.le;rw[sumQ]at bI;have h1:=Rat.mul_nonneg ho hq;have h2:=Rat.mul_nonneg ho (zbr (l:=l) fun p hp=>h.pos p Mdw);have h3:0<=sumQ out:=zbr fun p hp=>by have:=h.good.pos p hp;grind
 simp only at hq bI;exact⟨h1,by grind⟩
def tpRes(s:St)(i:Nat)(g:Grave):Option Parts->St×Int
 |none=>(s,8)
 |some o=>(s.withGrave i {g with holders:=o},0)
theorem zmo(own:Rat)(n:ByteArray)(q:Rat)(l out:Parts):zb6 own ((n,q)::l) out=if bigQ (own*q)then none else if zaE (za3 out n (own*q))then none else zb6 own l (za3 out n (own*q)):=by rw[zb6]
theorem sum_isN{n:Nat}:∀ {l:Parts},(∀p∈l,IsN n p.2)->IsN n (sumQ l)
 | [],_=>zkd n
 |x::r,h=>zkb (h x McB) (sum_isN fun p hp=>h p Mdw)
theorem zkL(laws:List Law)(s:St)(wd rd:List Deed)(LA CA MA DA WA RA GA:Option Addr)(c0 c1 c2 c3 c4 c5 c6:Nat)(d:Deed)(B:Option Addr)(c:Nat)(w:World)(h:StIn w laws s wd rd LA CA MA DA WA RA GA c0 c1 c2 c3 c4 c5 c6)(hk:StLink s wd rd)(hf:StFew s wd rd)(hd:OkD d)(hS:Sl w 3 RPart.cells B d.to)(bS:d.kind=1)(bf:∀g∈s.graves,GoodG g/\g.holders.length<=50000):Calls Tryz.prog 141 #[.agg #[.slice LA laws.length c0,.slice CA s.children.length c1,.slice MA s.marriages.length c2,.slice DA s.dead.length c3,.slice WA wd.length c4,.slice RA rd.length c5,.slice GA s.graves.length c6],d.v B c] w (zfE w laws (zbp s d)):=by
 obtain⟨R,hR⟩:∃R,R=zbp s d:=⟨_,rfl⟩
 rw[<-hR];obtain⟨gxs,hm,bE,bv⟩:=gx_of h.graves;obtain⟨HM,dG,bZ,eb⟩:=yH4 hm bE bv bf;have jE:=zHi (zdW (hd.parts (.inr (.inl bS))).2);have bu:=hd.len;clear hm bE bv bf bS;obtain⟨H,HK,HF,HD,HS,HR⟩:=yH6 (fun W (hB:Below w.heap.size w W)=>h.keep hB) hk hf hd (fun W (hB:Below w.heap.size w W)=>hS.keep hB) hR;unfold Deed.v;clear h hk hf hd hS hR;go_enter Tryz.func141,Tryz.ntmps141
 go_upto_region 1 with fail
 generalize am:World.alloc (World.alloc (World.alloc w _) _) _=W0;obtain⟨aj,av⟩:=zeI am;clear am;have aw:=aj.o.size;obtain⟨⟨xs0,xd0,xr0⟩,⟨s0,s1,s2,s3,s4,s5,s6⟩,⟨d0,d1,d2,d3,d4,d5,d6⟩,⟨r0,r1,r2,r3,r4,r5,r6⟩,rf,ls,ld,lr⟩:=ddF (av.o W0 (Below.refl _ _));have ej:=zHi (fun W (hB:Below W0.heap.size W0 W)=>zml d.place d.day W (H.o W (aj.o.trans (hB.mono aw))) HF.o);have iU:=zHi (fun W (hB:Below W0.heap.size W0 W)=>zmm d.to B c W (H.o W (aj.o.trans (hB.mono aw))) HF.o Mcy (HS.o W (aj.o.trans (hB.mono aw))));have jZ:=zHi (fun W (hB:Below W0.heap.size W0 W)=>zof d.to B c W Mcy (HS.o W (aj.o.trans (hB.mono aw))));have hr:=HR.o;unfold zbp at hr;cases aO:zaR s d.place d.day with
 |none=>
  exact Mcu
 |some i=>
  rw[aO]at hr;rw[zex aO]at ej;obtain⟨g,bB,cy,zS⟩:=zjK aO;simp only[cy]at hr;obtain⟨hi,oZ⟩:=gx_at HM.o bB;have eV:i<s.graves.length:=Md0;have jA:=dG.o _ (List.getElem_mem hi);have qQ:=zHi (fun(y:GX) W (hB:Below W0.heap.size W0 W)=>ziY laws s wd rd LA CA MA DA WA RA GA c0 c1 c2 c3 c4 c5 c6 gxs i y W HM.o (bZ.o.keep (aj.o.trans (hB.mono aw))) HF.o eV);obtain⟨jY,aB⟩:=yH2 (znw laws s wd rd LA CA MA DA WA RA GA c0 c1 c2 c3 c4 c5 c6 gxs i HM.o dG.o) (fun W (hB:Below W0.heap.size W0 W)=>H.o W (aj.o.trans (hB.mono aw)));go_upto_region 2 with(go_at_call 42;go_must(refine(ej.o _ (Below.refl _ _)).mono ?_);rintro e wq ⟨rfl,z1,rfl⟩)
  obtain⟨W1,aT⟩:∃W1,W1=W0.ext z1:=⟨_,rfl⟩
  have aS:Below W0.heap.size W0 W1:=Mds;rw[<-aT];clear aT;clear xs0 xd0 xr0 s0 s1 s2 s3 s4 s5 s6 d0 d1 d2 d3 d4 d5 d6 r0 r1 r2 r3 r4 r5 r6 rf ls ld lr;obtain⟨⟨xs0,xd0,xr0⟩,⟨s0,s1,s2,s3,s4,s5,s6⟩,⟨d0,d1,d2,d3,d4,d5,d6⟩,⟨r0,r1,r2,r3,r4,r5,r6⟩,rf,ls,ld,lr⟩:=ddF (av.o W1 (aS));have wx:=aS.size;have eP:=aj.o.trans (aS.mono aw);obtain⟨gb,gof,lZ,dJ,ah⟩:=(bZ.o.keep eP).at hi;generalize gxs[i]=x at*;subst oZ;subst lZ;have i0:=ah 0 _ rfl;have i1:=ah 1 _ rfl;have i2:=ah 2 _ rfl;have i3:=ah 3 _ rfl;have i4:=ah 4 _ rfl;simp only[Nat.add_zero]at i0;have xb:(i:Int)<(s.graves.length:Int):=Mcy;have fm:(0:Int)<=(i:Int):=Mcy;have aH:¬(i:Int)<0:=Mcy;clear ah;go_upto_region 5 with fail
  obtain⟨W2,bP⟩:∃W2,W2=W1.alloc (.cells #[.string x.g.place,.int .i64 x.g.cls,.int .i64 x.g.fin,.slice x.H x.g.holders.length x.hc,.slice x.D x.g.died.length x.dc] 100):=⟨_,rfl⟩
  have gG:W2.heap[W1.heap.size]?=some (.cells #[.string x.g.place,.int .i64 x.g.cls,.int .i64 x.g.fin,.slice x.H x.g.holders.length x.hc,.slice x.D x.g.died.length x.dc] 100):=Meu;have aJ:Hid (Below W0.heap.size W0 W2):=MdI;have kT:W1.heap.size<W2.heap.size:=zab gG;have us:=zHi eP;obtain⟨GB,j8⟩:∃GB,GB=W1.heap.size:=⟨_,rfl⟩
  rw[<-bP,<-j8];rw[<-j8]at gG kT;have iG:W0.heap.size<=GB:=Mcy;clear bP j8 aS eP i0 i1 i2 i3 i4;clear xs0 xd0 xr0 s0 s1 s2 s3 s4 s5 s6 d0 d1 d2 d3 d4 d5 d6 r0 r1 r2 r3 r4 r5 r6 rf ls ld lr;obtain⟨dp,cz⟩:=eb.o x.g zS;have p8:=jA.keep (aj.o.trans (aJ.o.mono aw));obtain⟨t1,t2,t3⟩:=zi2 (frm:=d.frm) dp (fun p hp=>jE.o.1 p hp) jE.o.2.1;have qb:=zcg (n:=d.frm) dp.good;have sQ:=zbK (n:=d.frm) dp.good;have iR:=zd7 d.frm dp.small;have lj:∀p∈zas x.g.holders d.frm,p.1≠d.frm:=zj0;have cG:=zdQ x.g.holders d.frm;have aM:sumQ x.g.holders<=1:=by
   rcases dp.one with e|e
   ·rw[e];decide
   ·rw[e];exact Rat.le_refl
  obtain⟨nr,lS⟩:=yH2 (fun W (hB:Below W2.heap.size W2 W)=>zfg x.g.holders d.frm x.H x.hc W Mcy (p8.1.keep hB)) (fun W (hB:Below W2.heap.size W2 W)=>zhu x.g.holders d.frm x.H x.hc W Mcy (p8.1.keep hB));generalize zag x.g.holders d.frm=sh at*;generalize zas x.g.holders d.frm=wo at*;unfold zaA at nr jZ;obtain⟨g0,g1,g2,g3,g4⟩:=zea gG;have oA:=aJ.o.size;have GG:=zHi gG;obtain⟨⟨xs0,xd0,xr0⟩,⟨s0,s1,s2,s3,s4,s5,s6⟩,⟨d0,d1,d2,d3,d4,d5,d6⟩,⟨r0,r1,r2,r3,r4,r5,r6⟩,rf,ls,ld,lr⟩:=ddF (av.o W2 (aJ.o));by_cases ki:x.g.cls=4
  ·have nD:(x.g.cls==4)=true:=by rw[ki];rfl
   have HE:Hid (R=(s,15)):=by show _=_;rw[hr,if_pos nD]
   clear hr ki;go_upto_region 6 with fail
   have bm:=aJ.o;exact Mg
  have nD:(x.g.cls==4)=false:=by simpa using ki
  rw[if_neg (by rw[nD];simp)]at hr;go_upto_region 8 with(go_at_call 14;go_must(refine(nr.o _ (Below.refl _ _)).mono ?_);rintro e wq ⟨rfl,z2,rfl⟩)
  obtain⟨SB,ja⟩:∃SB,SB=W2.heap.size+z2.os.size:=⟨_,rfl⟩
  obtain⟨W3,aY⟩:∃W3,W3=(W2.ext z2).alloc (.cells #[.int .i64 (sh).num,.int .i64 (sh).den] 31):=⟨_,rfl⟩
  have gS:W3.heap[SB]?=some (.cells #[.int .i64 (sh).num,.int .i64 (sh).den] 31):=by rw[aY];exact zar _ _ _ (by rw[ja];simp[zaf])
  have ax:Below W2.heap.size W2 W3:=by rw[aY];exact zad (zaq W2 z2) _
  rw[<-aY,<-ja];clear aY ja g0 g1 g2 g3 g4 gG ki nD;clear xs0 xd0 xr0 s0 s1 s2 s3 s4 s5 s6 d0 d1 d2 d3 d4 d5 d6 r0 r1 r2 r3 r4 r5 r6 rf ls ld lr;have je:=ax.size;obtain⟨aD,Am,G3,GS⟩:=yH4 (aJ.o.trans (ax.mono oA)) ax ((ax.block GB kT).trans GG.o) gS;obtain⟨q0,q1⟩:=zbt gS;have ru:=zab gS;obtain⟨⟨xs0,xd0,xr0⟩,⟨s0,s1,s2,s3,s4,s5,s6⟩,⟨d0,d1,d2,d3,d4,d5,d6⟩,⟨r0,r1,r2,r3,r4,r5,r6⟩,rf,ls,ld,lr⟩:=ddF (av.o W3 (aD.o));by_cases hz:sh=0
  ·have mY:(sh.num==0)=true:=by rw[hz];rfl
   have HE:Hid (R=(s,19)):=by show _=_;rw[hr,if_pos MdD]
   clear hr;go_upto_region 9 with fail
   have bm:=aD.o;exact Mg
  have mY:(sh.num==0)=false:=by
   exact Mbe
  rw[if_neg MdD]at hr;cases eR:zdU s d.to;rotate_left 1
  ·have HE:Hid (R=(s,28)):=by show _=_;rw[hr,eR];rfl
   rw[eR]at iU;clear hr hz aO;go_upto_region 11 with(go_at_call 164;go_must(refine(iU.o _ (by have:=aD.o;exact Bw)).mono ?_);rintro e wq ⟨rfl,z3,rfl⟩)
   have bm:=zbv aD.o z3;exact Mb1
  rw[eR,if_neg McB]at hr;rw[eR]at iU;have li:=znf d.to 0;have b9:d.to.all zdR=true:=by
   rw[List.all_eq_true];intro p hp;have h1:=jE.o.1 p hp;have h2:=zbm h1.2.2;unfold zdR;rw[h1.2.2,Bool.true_and];have:p.num≠0:=fun e=>by
    have h3:=h1.1;have h4:=(zkv.1 h3)
    unfold RPart.rat at h4;rw[h2.1,e]at h4;exact absurd h4 McA
   simpa using this
  rw[b9]at li;have dw:=li.2 rfl;rw[Rat.zero_add]at dw;have tS:∀p∈zao d.to,0<p.2:=fun p hp=>by
   obtain⟨q,hq,rfl⟩:=List.mem_map.1 hp;exact(jE.o.1 q hq).1
  have kY:IsN 720720 (sumQ (zao d.to)):=sum_isN (fun p hp=>by
   obtain⟨q,hq,rfl⟩:=List.mem_map.1 hp
   exact(jE.o.1 q hq).2.1)
  have oG:0<=sumQ (zao d.to):=zbr fun p hp=>by have:=tS p hp;grind
  have mB:=jE.o.2.1;have aI:=zc9 McA McA kY oG mB;have l8:=zc9 McA McA (zgQ (zgR _) kY) (show 0<=1-sumQ (zao d.to) by grind) (show 1-sumQ (zao d.to)<=1 by grind);rw[li.1,dw]at jZ;have xS:∀p∈zao d.to,0<=p.2:=fun p hp=>by have:=tS p hp;grind
  have oM:(zao d.to).length=d.to.length:=List.length_map _;have gy:∀k (hk:k<d.to.length),(zao d.to).drop k=(d.to[k].name,d.to[k].rat)::(zao d.to).drop (k+1):=fun k hk=>by
   rw[List.drop_eq_getElem_cons Mcy];congr 1
   exact List.getElem_map _
  have Bh:=zHi (fun p hp=>(jE.o.1 p hp).2.2);generalize zao d.to=l0 at*;have so:0<=sh*(1-sumQ l0):=Rat.mul_nonneg t1 Mc0;have xi:sh*(1-sumQ l0)<=1:=by
   have:=Rat.mul_le_mul_of_nonneg_left (show 1-sumQ l0<=1 by grind) t1;grind
  have g7:=zHi (fun(hb:bigQ (sh*(1-sumQ l0))=false)=>(show zaI (sh*(1-sumQ l0))/\GainSt sh (za3 wo d.frm (sh*(1-sumQ l0))) l0 from
   ⟨zbZ so xi hb,⟨zbx so sQ,zfH hb lj iR,by rw[zbV];grind,xS⟩⟩))
  have vr:=zHi (show∀p∈wo,zaI p.2 from fun p hp=>(zdF (hs:=wo) ⟨sQ,iR,by have:=qb;grind⟩ hp).2.2);obtain⟨q,hq⟩:∃q,q=sumQ l0:=⟨_,rfl⟩
  rw[<-hq]at hr jZ aI l8 g7;obtain⟨eH,iW⟩:=yH2 (fun W=>zhI 1 q W ⟨by decide,by decide⟩ aI) (fun W=>zg1 sh (1-q) W t2 l8);unfold zaA at eH iW;rw[show(1:Rat).num=1 from rfl,show((1:Rat).den:Int)=1 from rfl]at eH;obtain⟨kq,FY⟩:∃kq,kq=sh*(1-q):=⟨_,rfl⟩
  rw[<-FY]at hr g7 iW;obtain⟨iX,lP,Hs,AQ⟩:=yH4 t1 t2 gy oM;have yy:wo.length<=50000:=Mcy;have bF:=zHi hr;clear hr gy oM xS so xi b9 li dw tS kY oG mB aI l8 t1 t2 t3 qb sQ iR lj cG aM hq FY hz aO dp
  go_upto_region 13 with(first
   |(go_at_call 164;go_must(refine(iU.o _ (by have:=aD.o;exact Bw)).mono ?_);rintro e wq ⟨rfl,z3,rfl⟩)
   |(go_at_call 138;go_must(refine(jZ.o _ (by have:=aD.o;exact Bw)).mono ?_);rintro e wq ⟨rfl,z5,rfl⟩))
  obtain⟨QB,rp⟩:∃QB,QB=W3.heap.size+z3.os.size+z5.os.size:=⟨_,rfl⟩
  obtain⟨W4,ij⟩:∃W4,W4=((W3.ext z3).ext z5).alloc (.cells #[.int .i64 (q).num,.int .i64 (q).den] 31):=⟨_,rfl⟩
  have gQ:W4.heap[QB]?=some (.cells #[.int .i64 (q).num,.int .i64 (q).den] 31):=by rw[ij];exact zar _ _ _ (by rw[rp];simp[zaf])
  have aC:Below W3.heap.size W3 W4:=by rw[ij];exact zad (zbv (zaq W3 z3) z5) _
  rw[<-ij,<-rp];have EI:=aC.size;have rG:=aD.o.trans (aC.mono (by have:=aD.o.size;omega));obtain⟨G4,S4,Q4,qR⟩:=yH4 ((aC.block GB Mcy).trans G3.o) ((aC.block SB ru).trans GS.o) gQ (lS.o W4 (Am.o.trans (aC.mono je)));have rv:SB<W4.heap.size:=Mcy;have BQ:GB<W4.heap.size:=Mcy;have C4:=zab gQ;have cM:=zHi rG;have zg:=rG.size;clear ij rp gQ gS q0 q1 aC rG ru ax;clear xs0 xd0 xr0 s0 s1 s2 s3 s4 s5 s6 d0 d1 d2 d3 d4 d5 d6 r0 r1 r2 r3 r4 r5 r6 rf ls ld lr;obtain⟨g0,g1,g2,g3,g4⟩:=zea G4.o;obtain⟨⟨xs0,xd0,xr0⟩,⟨s0,s1,s2,s3,s4,s5,s6⟩,⟨d0,d1,d2,d3,d4,d5,d6⟩,⟨r0,r1,r2,r3,r4,r5,r6⟩,rf,ls,ld,lr⟩:=ddF (av.o W4 (cM.o));go_upto_region 14 with(go_at_call 167;go_must(refine(qR.o).mono ?_);rintro e w5 ⟨v5,rfl,o5,b5⟩)
  obtain⟨VA,vc,rfl,jb,_⟩:=o5.sl zap;have tp:=zHi jb;have BG:=b5.size;obtain⟨aR,G5,S5,Q5⟩:=yH4 (cM.o.trans (b5.mono zg)) ((b5.block GB BQ).trans G4.o) ((b5.block SB rv).trans S4.o) ((b5.block QB C4).trans Q4.o);clear g0 g1 g2 g3 g4 o5 b5 jb;clear xs0 xd0 xr0 s0 s1 s2 s3 s4 s5 s6 d0 d1 d2 d3 d4 d5 d6 r0 r1 r2 r3 r4 r5 r6 rf ls ld lr;obtain⟨q0,q1⟩:=zbt Q5.o;obtain⟨e0,e1⟩:=zbt S5.o;have wb:=zab S5.o;have C5:=zab Q5.o;have vI:=zab G5.o;refine zd8 5 _ _ (.cells #[.int .i64 0,.int .i64 0] 31) (.cells #[.int .i64 (kq).num,.int .i64 (kq).den] 31) Mcz Mcz rfl rfl ?hrun ?_
  case hrun=>intro a W;kernel_rfl
  simp only[List.take_succ_cons,List.take_zero];repeat(refine ze5 (fun K hK=>?_);simp only[grow];go_simp;first|(refine hK _ ?_;clear hK K)|(apply Exists.intro;refine⟨fun _=>?_,hK _ ?_⟩;((first|(go_at_call 139;exact quietg (zhM _))|(go_at_call 169;exact quietg (eH.o _))|(go_at_call 168;exact quietg (iW.o _))));clear hK K))
  refine zfw ⟨?hstore,?hlast⟩
  case hstore=>
   exact MD
  case hlast=>
   rintro LB W6 ⟨z6,gw⟩ tE gL;have aP:Below w5.heap.size w5 W6:=by rw[gw];exact zaq _ _
   have qU:=aP.size;obtain⟨bj,G6,S6,IN⟩:=yH4 (aR.o.trans (aP.mono Mcy)) ((aP.block GB vI).trans G5.o) ((aP.block SB wb).trans S5.o) (tp.o.keep aP);have BR:=zab G6.o;have Ca:=zab S6.o;have Jm:=zab gL;obtain⟨l0',l1'⟩:=zbt gL;clear gw aP q0 q1 e0 e1 wb C5 vI;obtain⟨⟨xs0,xd0,xr0⟩,⟨s0,s1,s2,s3,s4,s5,s6⟩,⟨d0,d1,d2,d3,d4,d5,d6⟩,⟨r0,r1,r2,r3,r4,r5,r6⟩,rf,ls,ld,lr⟩:=ddF (av.o W6 (bj.o));by_cases hs:1000000000<(kq.den:Int)
   ·have HE:Hid (R=(s,8)):=by show _=_;rw[bF.o,if_pos (by simp[bigQ,hs])]
    go_upto_region 16 with fail
    have bm:=bj.o;exact Mg
   have bm:bigQ kq=false:=by simpa[bigQ]using hs
   obtain⟨k5,aq⟩:=g7.o bm;have hr:=bF.o;rw[bm,if_neg McB]at hr;change R=tpRes s i x.g (zb6 sh l0 (za3 wo d.frm kq))at hr;have eo:=zHi (zcT wo d.frm kq VA vc W6 Mcy vr.o k5 IN.o);unfold zaA at eo;have kp:=zcx d.frm kq wo;obtain⟨iY,aB⟩:=yH2 hr aq;clear hr aq k5 g7 bF bm;go_upto_region 18 with(go_at_call 166;go_must(refine(eo.o).mono ?_);rintro e w7 ⟨v7,rfl,o7,b7⟩)
   have EJ:=b7.size;have bQ:=bj.o.trans (b7.mono (by have:=bj.o.size;omega));obtain⟨G7,S7⟩:=yH2 ((b7.block GB BR).trans G6.o) ((b7.block SB Ca).trans S6.o);have BS:=zab G7.o;have Cb:=zab S7.o;have cj:=zHi bQ;have J1:=bQ.size;have uV:=zHi o7;clear o7 b7 l0' l1' eo bQ hs;generalize za3 wo d.frm kq=out0 at*;clear xs0 xd0 xr0 s0 s1 s2 s3 s4 s5 s6 d0 d1 d2 d3 d4 d5 d6 r0 r1 r2 r3 r4 r5 r6 rf ls ld lr;go_upto_region 19 with fail
   go_loopw [11,13] (fun v n wr=>∃(k:Nat) (out:Parts),k<=d.to.length/\n=.int .i64 k/\Hid (R=tpRes s i x.g (zb6 sh (l0.drop k) out))/\Hid (GainSt sh out (l0.drop k))/\out.length<=50001+k/\OwnS wr W6.heap.size 71 3 zaa v out/\Below w7.heap.size w7 wr) (fun _ n _=>d.to.length-(intOf n).toNat)
   case atStart=>exact⟨0,out0,Nat.zero_le _,rfl,iY,aB,by omega,uV.o,Below.refl _ _⟩
   case round=>
    obtain⟨k,out,hk,rfl,HX,HG,KR,aa,hB⟩:=hrel;have aG:=hB.size;have io:=(hB.block GB BS).trans G7.o;have CK:=(hB.block SB Cb).trans S7.o;obtain⟨g0,g1,g2,g3,g4⟩:=zea io;obtain⟨q0,q1⟩:=zbt CK;have J8:=zab io;have JA:=zab CK;have cv:=cj.o.trans (hB.mono J1);obtain⟨⟨xs0,xd0,xr0⟩,⟨s0,s1,s2,s3,s4,s5,s6⟩,⟨d0,d1,d2,d3,d4,d5,d6⟩,⟨r0,r1,r2,r3,r4,r5,r6⟩,rf,ls,ld,lr⟩:=ddF (av.o wr (cv));obtain⟨b8,HB,HO,vn⟩:=yH4 cv hB aa (HS.o wr (aj.o.trans (cv.mono aw)));by_cases ae:k<d.to.length
    ·obtain⟨b,off,hA,hb,ah⟩:=vn.o.at ae;have hx:=HX.o;have aq:=HG.o;rw[Hs.o k ae]at hx aq;rw[zmo]at hx;have bA:=Bh.o _ (List.getElem_mem ae);have ak:=zHi ae;generalize d.to[k]=y at*;obtain⟨nm,nu,de⟩:=y;simp only at bA hx aq;have i0:wr.cell? ⟨b,off+k*3,none⟩=some (.string nm):=ah 0 _ rfl;have i1:wr.cell? ⟨b,off+k*3+1,none⟩=some (.int .i64 nu):=ah 1 _ rfl;have i2:wr.cell? ⟨b,off+k*3+2,none⟩=some (.int .i64 de):=ah 2 _ rfl;have ar:(k:Int)<(d.to.length:Int):=Mcy;have aQ:(0:Int)<=(k:Int):=Mcy;have mS:(⟨nm,nu,de⟩:RPart).rat=Rat.divInt nu de:=rfl;rw[mS]at hx aq;obtain⟨r1,r2,r3,r4⟩:=zbm bA;have kL:=zHi (fun W=>zg1 sh (Rat.divInt nu de) W lP.o (zc9 McA McA (zel bA) r3 r4));unfold zaA at kL;rw[r1,r2]at kL;obtain⟨p1,p2⟩:=aq.more iX.o;obtain⟨jV,kP⟩:=yH2 (fun hl=>aq.next iX.o hl) (aq.parts iX.o);obtain⟨mo,xB⟩:∃mo,mo=sh*Rat.divInt nu de:=⟨_,rfl⟩
     rw[<-xB]at hx kL p1 p2 jV;obtain⟨lQ,au⟩:=yH2 (And.intro p1 p2) hx;rw[hA]at d4;obtain⟨HDW,Ai,kE⟩:=yH3 xd0 hA (show wr.cell? ⟨b,off+k*3,none⟩=some (.string nm)/\b<wr.heap.size from⟨i0,hb⟩);clear ah hx aq bA ae mS r1 r2 r3 r4 p1 p2 xB aa hB hA;go_upto_region 21 with fail
     refine zd8 8 _ _ (.cells #[.int .i64 0,.int .i64 0] 31) (.cells #[.int .i64 (mo).num,.int .i64 (mo).den] 31) Mcz Mcz rfl rfl ?hrun ?_
     case hrun=>intro a W;kernel_rfl
     simp only[List.take_succ_cons,List.take_zero];repeat(refine ze5 (fun K hK=>?_);simp only[grow];go_simp;first|(refine hK _ ?_;clear hK K)|(apply Exists.intro;refine⟨fun _=>?_,hK _ ?_⟩;((go_at_call 168;exact quietg (kL.o _)));clear hK K))
     refine zfw ⟨?hstore,?hlast⟩
     case hstore=>
      exact MD
     case hlast=>
      rintro MB W9 ⟨z9,wn⟩ Jn gM;have cE:Below wr.heap.size wr W9:=by rw[wn];exact zaq _ _
      have BI:=cE.size;have rQ:=b8.o.trans (cE.mono Mec);obtain⟨fK,hJ,GM⟩:=yH3 cE rQ gM;obtain⟨m0,m1⟩:=zbt gM;have rh:=zab gM;clear wn cE i0 i1 i2 g0 g1 g2 g3 g4 q0 q1;clear xs0 xd0 xr0 s0 s1 s2 s3 s4 s5 s6 d0 d1 d2 d3 d4 d5 d6 r0 r1 r2 r3 r4 r5 r6 rf ls ld lr;obtain⟨⟨xs0,xd0,xr0⟩,⟨s0,s1,s2,s3,s4,s5,s6⟩,⟨d0,d1,d2,d3,d4,d5,d6⟩,⟨r0,r1,r2,r3,r4,r5,r6⟩,rf,ls,ld,lr⟩:=ddF (av.o W9 (rQ));clear rQ;by_cases hs:1000000000<(mo.den:Int)
      ·have HE:Hid (R=(s,8)):=by show _=_;rw[au.o,if_pos (by simp[bigQ,hs])];rfl
       go_upto_region 23 with fail
       have bm:=hJ.o;exact Mg
      have bm:bigQ mo=false:=by simpa[bigQ]using hs
      have hx:=au.o;rw[bm,if_neg McB]at hx;have eL:=zHi hx;have mM:=zbZ lQ.o.1 lQ.o.2 bm;obtain⟨OV,oc,rfl,_,_⟩:=HO.o.sl zap;have eo:=zHi (fun W (hW:Below wr.heap.size wr W)=>zcT out nm mo OV oc W (by have:=ak.o;omega) kP.o mM (ziO zap (HO.o.keep hW)).1);unfold zaA at eo;have cz:=zcx nm mo out;go_upto_region 24 with fail
      have Cz:=d4;rw[Ai.o]at Cz;have BJ:=fun(W:World) (h:Below W9.heap.size W9 W)=>(zah h ld).trans Cz
      have Jb:=fun(W:World) (h:Below W9.heap.size W9 W)=>(zah h (show b<W9.heap.size by have:=kE.o.2;omega)).trans ((zah fK.o kE.o.2).trans kE.o.1)
      clear Cz;have aE:=zHi (fun(W:World) (h:Below W9.heap.size W9 W)=>(show W.cell? ⟨w.heap.size+1,4,none⟩=some (.slice (some ⟨b,off,none⟩) d.to.length c)/\W.cell? ⟨b,off+k*3,none⟩=some (.string nm)/\W.cell? ⟨MB,0,none⟩=some (.int .i64 mo.num)/\W.cell? ⟨MB,1,none⟩=some (.int .i64 mo.den) from⟨(BJ W h),(Jb W h),(zah h rh).trans m0,(zah h rh).trans m1⟩));clear hx mM bm hs;refine zaB 8 (fun bb w'=>bb=true\/(w'.cell? ⟨w.heap.size+1,4,none⟩=some (.slice (some ⟨b,off,none⟩) d.to.length c)/\w'.cell? ⟨b,off+k*3,none⟩=some (.string nm)/\w'.cell? ⟨MB,0,none⟩=some (.int .i64 mo.num)/\w'.cell? ⟨MB,1,none⟩=some (.int .i64 mo.den))) Mcz (.inr (aE.o _ (zaK (Below.refl _ _)))) ?hrest
      case hrest=>
       intro hHeld;refine TkM 0 ?_;refine TkM 1 ?_;refine TkM 2 ?_;refine TkM 3 ?_;refine TkM 4 ?_;refine TkM 5 ?_;refine TkM 6 ?_;refine TkM 7 ?_;refine OnM 8 true fun K hK=>?_
       go_simp
       refine(eo.o _ (zaK fK.o)).mono ?_;rintro e w10 ⟨v10,rfl,o10,b10⟩;refine NxM hK fun hHeld=>?_
       clear hK K;refine OnM 9 true fun K hK=>?_
       go_simp
       refine NxM hK fun hHeld=>?_
       clear hK K;refine zaM Mcz ?_ _;clear hHeld;obtain⟨YA,yc,rfl,mX,_⟩:=o10.sl zap;have jd:Below W9.heap.size W9 w10:=(zaK (Below.refl _ _)).trans b10;have mh:=hJ.o.trans (jd.mono (by have:=hJ.o.size;omega));obtain⟨Al,ut,oa,cS⟩:=yH4 (fK.o.trans (jd.mono BI)) mh (o10.base_le (show W6.heap.size<=W9.drew.heap.size by have:=fK.o.size;have:=HB.o.size;have:=EJ;show W6.heap.size<=W9.heap.size;omega)) (fun W (h:Below w10.heap.size w10 W)=>zdE (za3 out nm mo) YA yc W (by have:=ak.o;omega) (mX.keep h));have IW:=jd.size;clear o10 b10 mX jd m0 m1 rh;clear xs0 xd0 xr0 s0 s1 s2 s3 s4 s5 s6 d0 d1 d2 d3 d4 d5 d6 r0 r1 r2 r3 r4 r5 r6 rf ls ld lr;obtain⟨⟨xs0,xd0,xr0⟩,⟨s0,s1,s2,s3,s4,s5,s6⟩,⟨d0,d1,d2,d3,d4,d5,d6⟩,⟨r0,r1,r2,r3,r4,r5,r6⟩,rf,ls,ld,lr⟩:=ddF (av.o w10 (mh));clear mh;have hx:=eL.o;cases hlg:zaE (za3 out nm mo)
       ·rw[hlg]at hx cS;have aB:=zHi (jV.o hlg);have ka:Hid (R=tpRes s i x.g (zb6 sh (l0.drop (k+1)) (za3 out nm mo))):=by show _=_;rw[hx,if_neg McB]
        clear hx hlg;generalize za3 out nm mo=out1 at*;go_wp2_with (go_at_call 170;go_must(refine(cS.o _ Bw).mono ?_);rintro e wq ⟨rfl,rfl⟩)
        go_round
        case rel=>exact⟨k+1,out1,ak.o,by go_num,ka,aB,by omega,oa.o,HB.o.trans (Al.o.mono aG)⟩
        case measure=>have:=ak.o;simp only[intOf];omega
       ·rw[hlg]at hx cS;have HE:Hid (R=(s,8)):=by show _=_;rw[hx,if_pos rfl];rfl
        clear hx hlg;generalize za3 out nm mo=out1 at*;go_upto_region 26 with(go_at_call 170;go_must(refine(cS.o _ Bw).mono ?_);rintro e wq ⟨rfl,rfl⟩)
        have bm:=ut.o;exact Mg
    ·have ar:¬(k:Int)<(d.to.length:Int):=Mcy;have hx:=HX.o;rw[List.drop_of_length_le (by have:=AQ.o;omega)]at hx;have HE:Hid (R=(s.withGrave i {x.g with holders:=out},0)):=Mea;obtain⟨VB,vd,rfl,_,_⟩:=aa.sl zap;have g3f:=frz io;have lJ:=zHi io;clear aa ae hB CK hx;go_upto_region 28 with fail
     obtain⟨W8,wk⟩:∃W8,W8=wr.setCell ⟨GB,3,none⟩ (.slice VB out.length vd):=⟨_,rfl⟩
     have gG6:W8.heap[GB]?=some (.cells #[.string x.g.place,.int .i64 x.g.cls,.int .i64 x.g.fin,.slice VB out.length vd,.slice x.D x.g.died.length x.dc] 100):=by
      rw[wk];have:=Joins.block_setCell (i:=3) lJ.o (.slice VB out.length vd);simpa using this
     have lX:Below W0.heap.size W0 W8:=by rw[wk];exact zaP b8.o iG _
     have pR:OwnS W8 W6.heap.size 71 3 zaa (.slice VB out.length vd) out:=by rw[wk];exact HO.o.kept (zav _ _ _ _) lJ.o McA
     rw[<-wk];clear wk g0 g1 g2 g3 g4 g3f q0 q1 io;clear xs0 xd0 xr0 s0 s1 s2 s3 s4 s5 s6 d0 d1 d2 d3 d4 d5 d6 r0 r1 r2 r3 r4 r5 r6 rf ls ld lr;obtain⟨g0,g1,g2,g3,g4⟩:=zea gG6;have bC:=zab gG6;have qU:=lX.size;obtain⟨⟨xs0,xd0,xr0⟩,⟨s0,s1,s2,s3,s4,s5,s6⟩,⟨d0,d1,d2,d3,d4,d5,d6⟩,⟨r0,r1,r2,r3,r4,r5,r6⟩,rf,ls,ld,lr⟩:=ddF (av.o W8 (lX));have lU:=zHi (qQ.o ({g:= {x.g with holders:=out},H:=VB,hc:=vd,D:=x.D,dc:=x.dc}:GX) W8 lX);unfold GX.cells zgE at lU;dsimp only at lU;obtain⟨bj,lM⟩:=yH2 lX pR;clear lX pR gG6
     go_wp2_with (go_at_call 171
                  go_must(refine(lU.o).mono ?_)
                  rintro e w5 ⟨ga,go,gc,rfl,bi,ao⟩;have bQ:=bj.o.trans (ao.mono qU);obtain⟨_,_,xr5⟩:=av.o w5 bQ;obtain⟨t0,t1,t2,t3,t4,t5,t6⟩:=zaF xr5;have tf:=frz xr5;obtain⟨bX,cj,lA⟩:=yH3 bi bQ ao
                  clear bi ao bQ)
     rw[HE.o];refine bodyPost_ret (zbC rfl _ rfl rfl (zcy xr5)) rfl ?_;have dm:=zcA (a0:=.slice LA laws.length c0) (a1:=.slice CA s.children.length c1) (a2:=.slice MA s.marriages.length c2) (a3:=.slice DA s.dead.length c3) (a4:=.slice WA wd.length c4) (a5:=.slice RA rd.length c5) (a6:=.slice (some ⟨ga,go,none⟩) s.graves.length gc) (aj.o.trans (cj.o.mono aw)) (show w.heap.size<=w.heap.size+2 by omega);obtain⟨A',c',my,_,dX⟩:=lM.o.ro;obtain⟨rfl,_,rfl⟩:VB=A'/\out.length=out.length/\vd=c':=by simpa using my
     exact⟨_,_,_,_,_,_,_,rfl,rfl,dm,fun _=>jY.o ({g:= {x.g with holders:=out},H:=VB,hc:=vd,D:=x.D,dc:=x.dc}:GX) _ ga go gc (H.o w (Below.refl _ _)) HK.o dm (bX.o.ne7 (zmn bX.o xr5 McA)) ⟨(zja (dX.keep lA.o) xr5 McA).sl zap,(jA.keep dm).2⟩⟩
theorem zdS{t:TypeId}{α:Type}{f:α->List Value}{size:Nat}(ag:∀x,(f x).length=size)(W:World)(base:Nat)(h:base<=W.heap.size):OwnS (W.alloc (.cells #[] t)) base t size f (.slice (some ⟨W.heap.size,0,none⟩) 0 0) []:=
 OwnS.of_own ag (World.ownsRow_made W #[] 0 h (Nat.zero_le _) McB)
theorem to_head{d:Deed}(h:d.to.length=1):∃y,d.to[0]?=some y/\zbf d=y.name:=by
 obtain⟨y,hy⟩:=List.length_eq_one_iff.1 h;exact⟨y,by rw[hy];rfl,by unfold zbf;rw[hy];rfl⟩
theorem znx{d:Deed}{W:World}{B:Option Addr}(h:d.to.length=1)(hS:Sl W 3 RPart.cells B d.to):∃b off,B=some ⟨b,off,none⟩/\b<W.heap.size/\W.cell? ⟨b,off,none⟩=some (.string (zbf d)):=by
 obtain⟨y,hy,he⟩:=to_head h;obtain⟨b,off,hA,hb,hc⟩:=hS Mcy;refine⟨b,off,hA,hb,?_⟩;rw[he];have:=hc 0 y hy 0 _ rfl;simpa using this
theorem zpt(laws:List Law)(s:St)(wd rd:List Deed)(LA CA MA DA WA RA GA:Option Addr)(c0 c1 c2 c3 c4 c5 c6:Nat)(d:Deed)(B:Option Addr)(c:Nat)(w:World)(h:StIn w laws s wd rd LA CA MA DA WA RA GA c0 c1 c2 c3 c4 c5 c6)(hk:StLink s wd rd)(hf:StFew s wd rd)(hd:OkD d)(hS:Sl w 3 RPart.cells B d.to)(bS:d.kind=7):Calls Tryz.prog 146 #[.agg #[.slice LA laws.length c0,.slice CA s.children.length c1,.slice MA s.marriages.length c2,.slice DA s.dead.length c3,.slice WA wd.length c4,.slice RA rd.length c5,.slice GA s.graves.length c6],d.v B c] w (zfE w laws (zdq s d)):=by
 obtain⟨R,hR⟩:∃R,R=zdq s d:=⟨_,rfl⟩
 rw[<-hR];have aM:=(hd.one (.inr (.inr bS))).1;have tk:=zHi (fun W (hS:Sl W 3 RPart.cells B d.to)=>znx aM hS);have nO:(0:Int)<(d.to.length:Int):=Mcy;unfold zdq at hR;generalize zbf d=tn at*;clear bS aM;obtain⟨H,HK,HF,HD,HS,HR⟩:=yH6 (fun W (hB:Below w.heap.size w W)=>h.keep hB) hk hf hd (fun W (hB:Below w.heap.size w W)=>hS.keep hB) hR;unfold Deed.v;clear h hk hf hd hS hR;go_enter Tryz.func146,Tryz.ntmps146
 go_upto_region 1 with fail
 generalize am:World.alloc (World.alloc (World.alloc w _) _) _=W0;obtain⟨aj,av⟩:=zeI am;clear am;have aw:=aj.o.size;obtain⟨⟨xs0,xd0,xr0⟩,⟨s0,s1,s2,s3,s4,s5,s6⟩,⟨d0,d1,d2,d3,d4,d5,d6⟩,⟨r0,r1,r2,r3,r4,r5,r6⟩,rf,ls,ld,lr⟩:=ddF (av.o W0 (Below.refl _ _));have ta:=zHi (fun x W (hB:Below W0.heap.size W0 W)=>sDead x W (H.o W (aj.o.trans (hB.mono aw))) HF.o);have ib:=zHi (fun x W (hB:Below W0.heap.size W0 W)=>znt x W (H.o W (aj.o.trans (hB.mono aw))) HF.o);obtain⟨b,off,hA,hb,kW⟩:=tk.o W0 (HS.o W0 aj.o);have hr:=HR.o;rw[hA]at d4;go_upto_region 2 with fail
 cases cf:zaJ s d.frm;rotate_left 1
 ·have HE:Hid (R=(s,28)):=Mef;clear hr;go_upto_region 3 with(go_at_call 19;go_must(refine(ta.o _ _ (Below.refl _ _)).mono ?_);rintro e wq ⟨rfl,z,rfl⟩;rw[cf])
  have bm:=zaq W0 z;exact Mb1
 cases dU:zaJ s tn;rotate_left 1
 ·have HE:Hid (R=(s,28)):=by show _=_;rw[hr,cf,dU];rfl
  clear hr;go_upto_region 3 with(go_at_call 19;go_must(refine(ta.o _ _ Bw).mono ?_);rintro e wq ⟨rfl,zz,rfl⟩;first|(rw[cf];obtain⟨z,rfl⟩:∃z,z=zz:=⟨_,rfl⟩)|(rw[dU];obtain⟨z2,rfl⟩:∃z,z=zz:=⟨_,rfl⟩))
  obtain⟨W1,aT⟩:∃W1,W1=(W0.ext z).ext z2:=⟨_,rfl⟩
  have aS:Below W0.heap.size W0 W1:=by rw[aT];exact zbv (zaq _ _) _
  rw[<-aT];clear aT;have bm:=aS;exact Mb1
 go_upto_region 4 with(go_at_call 19;go_must(refine(ta.o _ _ Bw).mono ?_);rintro e wq ⟨rfl,zz,rfl⟩;first|(rw[cf];obtain⟨z,rfl⟩:∃z,z=zz:=⟨_,rfl⟩)|(rw[dU];obtain⟨z2,rfl⟩:∃z,z=zz:=⟨_,rfl⟩))
 rw[cf,dU,Bool.or_false,if_neg McB]at hr;obtain⟨W1,aT⟩:∃W1,W1=(W0.ext z).ext z2:=⟨_,rfl⟩
 have aS:Below W0.heap.size W0 W1:=by rw[aT];exact zbv (zaq _ _) _
 have ie:=aS.size;rw[<-aT];have aA:=zHi aS;clear aT aS;clear xs0 xd0 xr0 s0 s1 s2 s3 s4 s5 s6 d0 d1 d2 d3 d4 d5 d6 r0 r1 r2 r3 r4 r5 r6 rf ls ld lr;obtain⟨⟨xs0,xd0,xr0⟩,⟨s0,s1,s2,s3,s4,s5,s6⟩,⟨d0,d1,d2,d3,d4,d5,d6⟩,⟨r0,r1,r2,r3,r4,r5,r6⟩,rf,ls,ld,lr⟩:=ddF (av.o W1 (aA.o));cases cC:noB (zaG s d.frm)
 ·have HE:Hid (R=(s,13)):=by show _=_;rw[hr,cC];rfl
  have w1:¬(zaG s d.frm).toList=[]:=by simpa using(show(zaG s d.frm).toList.isEmpty=false from cC)
  have y1:(zaG s d.frm).toList.isEmpty=false:=cC;clear hr cC;go_upto_region 5 with(go_at_call 20;go_must(refine(ib.o _ _ aA.o).mono ?_);rintro e wq ⟨rfl,z3,rfl⟩)
  have bm:=zbv aA.o z3;exact Mb1
 have w1:(zaG s d.frm).toList=[]:=by simpa using(show(zaG s d.frm).toList.isEmpty=true from cC)
 have y1:(zaG s d.frm).toList.isEmpty=true:=cC;cases dW:noB (zaG s tn)
 ·have HE:Hid (R=(s,13)):=by show _=_;rw[hr,cC,dW];rfl
  have w2:¬(zaG s tn).toList=[]:=by simpa using(show(zaG s tn).toList.isEmpty=false from dW)
  have y2:(zaG s tn).toList.isEmpty=false:=dW;clear hr cC dW;go_upto_region 5 with(go_at_call 20;go_must(refine(ib.o _ _ Meq).mono ?_);rintro e wq ⟨rfl,zz,rfl⟩;first|(rw[show zaG s tn=zaG s tn from rfl];obtain⟨z4,rfl⟩:∃z,z=zz:=⟨_,rfl⟩)|(obtain⟨z3,rfl⟩:∃z,z=zz:=⟨_,rfl⟩))
  obtain⟨W2,bP⟩:∃W2,W2=(W1.ext z3).ext z4:=⟨_,rfl⟩
  have bs:Below W0.heap.size W0 W2:=by rw[bP];exact zbv (zbv aA.o _) _
  rw[<-bP];clear bP;have bm:=bs;exact Mb1
 have w2:(zaG s tn).toList=[]:=by simpa using(show(zaG s tn).toList.isEmpty=true from dW)
 have y2:(zaG s tn).toList.isEmpty=true:=dW;rw[cC,dW,Bool.not_true,Bool.or_false,if_neg McB]at hr;have HE:=zHi hr;clear hr cC dW;go_upto_region 6 with(go_at_call 20;go_must(refine(ib.o _ _ Meq).mono ?_);rintro e wq ⟨rfl,zz,rfl⟩;first|(rw[show zaG s tn=zaG s tn from rfl];obtain⟨z4,rfl⟩:∃z,z=zz:=⟨_,rfl⟩)|(obtain⟨z3,rfl⟩:∃z,z=zz:=⟨_,rfl⟩))
 obtain⟨WX,kg⟩:∃WX,WX=(W1.ext z3).ext z4:=⟨_,rfl⟩
 have gV:Below W0.heap.size W0 WX:=by rw[kg];exact zbv (zbv aA.o _) _
 rw[<-kg];have bw:=zHi gV;have f9:=gV.size;clear kg gV;clear xs0 xd0 xr0 s0 s1 s2 s3 s4 s5 s6 d0 d1 d2 d3 d4 d5 d6 r0 r1 r2 r3 r4 r5 r6 rf ls ld lr;obtain⟨⟨xs0,xd0,xr0⟩,⟨s0,s1,s2,s3,s4,s5,s6⟩,⟨d0,d1,d2,d3,d4,d5,d6⟩,⟨r0,r1,r2,r3,r4,r5,r6⟩,rf,ls,ld,lr⟩:=ddF (av.o WX (bw.o));have bo:Hid (s.marriages.length=(s.marriages).length):=zHi rfl;have tt:Hid ((s.marriages).length<=1000):=zHi HF.o.marr;have bZ:=zHi (fun W (hB:Below WX.heap.size WX W)=>(H.o W (aj.o.trans ((bw.o.trans (hB.mono f9)).mono aw))).marr);have aE:=zHi (fun(W:World) (h:Below WX.heap.size WX W)=>(show W.cell? ⟨w.heap.size,2,none⟩=some (.slice MA s.marriages.length c2)/\W.cell? ⟨w.heap.size+1,3,none⟩=some (.string d.frm) from⟨(zah h ls).trans s2,(zah h ld).trans d3⟩));go_cut [5]from 34 to 45 (fun v wc=>v=.int .i64 0/\∃V c',wc.heap[w.heap.size]?=some (.cells #[.slice LA laws.length c0,.slice CA s.children.length c1,.slice V (s.marriages.length+1) c',.slice DA s.dead.length c3,.slice WA wd.length c4,.slice RA rd.length c5,.slice GA s.graves.length c6] 44)/\wc.heap[w.heap.size+2]?=some (.cells #[.slice none 0 0,.slice none 0 0,.slice none 0 0,.slice none 0 0,.slice none 0 0,.slice none 0 0,.slice none 0 0] 44)/\Ro wc 107 zaT V (s.marriages++[(d.frm,tn)])/\Below w.heap.size w wc)
 case first=>
  refine zaB 9 (fun bb w'=>bb=true\/(w'.cell? ⟨w.heap.size,2,none⟩=some (.slice MA s.marriages.length c2)/\w'.cell? ⟨w.heap.size+1,3,none⟩=some (.string d.frm))) Mcz (.inr (aE.o _ (zaK (Below.refl _ _)))) ?hrest
  case hrest=>
   intro hHeld;clear xs0 xd0 xr0 s0 s1 s2 s3 s4 s5 s6 d0 d1 d2 d3 d4 d5 d6 r0 r1 r2 r3 r4 r5 r6 rf ls ld lr;refine TkM 1 ?_;refine TkM 2 ?_;refine TkM 4 ?_;refine TkM 5 ?_;refine TkM 6 ?_;refine TkM 7 ?_;refine TwM 0 8 (fun K hK=>?_) fun K hK=>?_
   ·go_simp
    have e0:Below WX.heap.size WX (WX.drew.alloc (.cells #[] 107)):=zad (zaK (Below.refl _ _)) _;have m0:OwnS (WX.drew.alloc (.cells #[] 107)) WX.heap.size 107 2 zaT (.slice (some ⟨WX.heap.size,0,none⟩) 0 0) []:=zdS zbj WX.drew WX.heap.size (Nat.le_refl _);refine NxM hK (fun hHeld=>?_) (.inr (aE.o _ e0));clear hK K;refine TwM 3 8 (fun K hK=>?_) fun K hK=>?_
    ·refine zak (v:=.slice (some ⟨WX.heap.size,0,none⟩) 0 0) (n:=0) (m:=s.marriages.length) rfl _ _ rfl zgs zbj zdB rfl (xs:=[]) (ys:=s.marriages) (m0) rfl rfl bo.o (bZ.o _ e0) McG McR McJ ?_;intro v4 w4 h1 h2 h3;rw[List.nil_append]at h1;obtain⟨V4,c4',aX,_,_⟩:=h1.sl zbj;rw[<-bo.o]at aX;subst aX;have aC:Below WX.heap.size WX w4:=Below.grown e0 h2 Mdv (fun j hj=>by simp[za5]at hj;omega);refine NxM hK (fun hHeld=>?_) (.inr (aE.o _ aC));clear hK K;refine OnM 8 false fun K hK=>?_
     go_simp
     have e1:Below WX.heap.size WX (w4.alloc (.cells #[.string d.frm,.string tn] 107)):=zad aC _;have n1:(w4.alloc (.cells #[.string d.frm,.string tn] 107)).heap[w4.heap.size]?=some (.cells #[.string d.frm,.string tn] 107):=zar _ _ _ rfl;have o1:OwnS (w4.alloc (.cells #[.string d.frm,.string tn] 107)) WX.heap.size 107 2 zaT (.slice V4 s.marriages.length c4') s.marriages:=h1.keep (n:=w4.heap.size) (zad (Below.refl _ _) _);refine NxM hK (fun hHeld=>?_) (.inr (aE.o _ e1));clear hK K;have o9:=o1;have n9:=n1;have e9:=e1;exact Mq
    ·go_simp
     have e1:Below WX.heap.size WX ((WX.drew.alloc (.cells #[] 107)).alloc (.cells #[.string d.frm,.string tn] 107)):=zad e0 _;have n1:((WX.drew.alloc (.cells #[] 107)).alloc (.cells #[.string d.frm,.string tn] 107)).heap[WX.heap.size+1]?=some (.cells #[.string d.frm,.string tn] 107):=zar _ _ _ McB;have m1:OwnS ((WX.drew.alloc (.cells #[] 107)).alloc (.cells #[.string d.frm,.string tn] 107)) WX.heap.size 107 2 zaT (.slice (some ⟨WX.heap.size,0,none⟩) 0 0) []:=m0.keep (n:=(WX.drew.alloc (.cells #[] 107)).heap.size) (zad (Below.refl _ _) _);refine NxM hK (fun hHeld=>?_) (.inr (aE.o _ e1));clear hK K;refine OnM 3 false fun K hK=>?_
     refine zak (v:=.slice (some ⟨WX.heap.size,0,none⟩) 0 0) (n:=0) (m:=s.marriages.length) rfl _ _ rfl zgs zbj zdB rfl (xs:=[]) (ys:=s.marriages) (m1) rfl rfl bo.o (bZ.o _ e1) McG McR McF ?_;intro v4 w4 h1 h2 h3;rw[List.nil_append]at h1;obtain⟨V4,c4',aX,_,_⟩:=h1.sl zbj;rw[<-bo.o]at aX;subst aX;have aC:Below WX.heap.size WX w4:=Below.grown e1 h2 McU (fun j hj=>by simp[za5]at hj;omega);have n2:w4.heap[WX.heap.size+1]?=some (.cells #[.string d.frm,.string tn] 107):=(h2.block _ McP Mdn).trans n1;exact Mcj
   ·go_simp
    have e0:Below WX.heap.size WX (WX.drew.alloc (.cells #[.string d.frm,.string tn] 107)):=zad (zaK (Below.refl _ _)) _;have n0:(WX.drew.alloc (.cells #[.string d.frm,.string tn] 107)).heap[WX.heap.size]?=some (.cells #[.string d.frm,.string tn] 107):=zar _ _ _ rfl;refine NxM hK (fun hHeld=>?_) (.inr (aE.o _ e0));clear hK K;refine OnM 0 false fun K hK=>?_
    go_simp
    have e1:Below WX.heap.size WX ((WX.drew.alloc (.cells #[.string d.frm,.string tn] 107)).alloc (.cells #[] 107)):=zad e0 _;have n1:((WX.drew.alloc (.cells #[.string d.frm,.string tn] 107)).alloc (.cells #[] 107)).heap[WX.heap.size]?=some (.cells #[.string d.frm,.string tn] 107):=zal n0;have m1:OwnS ((WX.drew.alloc (.cells #[.string d.frm,.string tn] 107)).alloc (.cells #[] 107)) WX.heap.size 107 2 zaT (.slice (some ⟨WX.heap.size+1,0,none⟩) 0 0) []:=by
     exact Mbb
    refine NxM hK (fun hHeld=>?_) (.inr (aE.o _ e1));clear hK K;refine OnM 3 false fun K hK=>?_
    refine zak (v:=.slice (some ⟨WX.heap.size+1,0,none⟩) 0 0) (n:=0) (m:=s.marriages.length) rfl _ _ rfl zgs zbj zdB rfl (xs:=[]) (ys:=s.marriages) (m1) rfl rfl bo.o (bZ.o _ e1) McG McR McF ?_;intro v4 w4 h1 h2 h3;rw[List.nil_append]at h1;obtain⟨V4,c4',aX,_,_⟩:=h1.sl zbj;rw[<-bo.o]at aX;subst aX;have aC:Below WX.heap.size WX w4:=Below.grown e1 h2 McU (fun j hj=>by simp[za5]at hj;omega);have n2:w4.heap[WX.heap.size]?=some (.cells #[.string d.frm,.string tn] 107):=(h2.block _ McP Mdn).trans n1;exact Mcj
 case rest=>
  obtain⟨rfl,V,c',eD,cq,dX,oo⟩:=hcut;clear xs0 xd0 xr0 s0 s1 s2 s3 s4 s5 s6 d0 d1 d2 d3 d4 d5 d6 r0 r1 r2 r3 r4 r5 r6 rf ls ld lr;obtain⟨s0,s1,s2,s3,s4,s5,s6⟩:=zaF eD;obtain⟨r0,r1,r2,r3,r4,r5,r6⟩:=zaF cq;have rf:=frz cq;have ls:=zab eD;have lr:=zab cq;go_wp2_with fail
  rw[HE.o];have dm:=zcA (a0:=.slice LA laws.length c0) (a1:=.slice CA s.children.length c1) (a2:=.slice V (s.marriages.length+1) c') (a3:=.slice DA s.dead.length c3) (a4:=.slice WA wd.length c4) (a5:=.slice RA rd.length c5) (a6:=.slice GA s.graves.length c6) oo (show w.heap.size<=w.heap.size+2 by omega);refine bodyPost_ret (zbC rfl _ rfl rfl (zcy cq)) rfl ?_;have h':=H.o _ dm;exact⟨_,_,_,_,_,_,_,rfl,rfl,dm,fun _=>⟨wd,rd,LA,CA,V,DA,WA,RA,GA,c0,c1,c',c3,c4,c5,c6,rfl,rfl,by rw[List.length_append];rfl,rfl,rfl,rfl,rfl,⟨h'.laws,h'.kids,(zja dX cq McA).sl zbj,h'.dead,h'.wills,h'.ren,h'.graves,h'.deadc⟩,⟨HK.o.wills,HK.o.shares,HK.o.ren,HK.o.tos⟩⟩⟩
