/- Walk of the reference's surrender. -/
import Derived.Test.YtckkbkdcdkhglaaGreatDoorXG
set_option linter.unusedSimpArgs false
set_option linter.unusedVariables false
set_option maxRecDepth 100000
set_option maxHeartbeats 4000000
namespace Go.Proofs.YtckkbkdcdkhglaaGreatDoor
open Go.RowKit Go.Shelf
attribute [local go_sem] World.cell?_alloc_mark zag za5 zaq za8 zaw zax zay zaz za0 za1 za2
attribute [local go_sem] zap zad
theorem zmo {W:World} {e t:TypeId} {g o size b:Nat} {css:List (List Value)} {cs:Array Value} {fr:Nat×Nat} (h:RowC W e g o size css) (hb:W.heap[b]?=some (.cells cs t fr)) (ai:t≠e):g≠b:=fun he=>by
 obtain⟨cur,h1,_⟩:=h.row;rw[he,hb]at h1;simp only[Option.some.injEq,Obj.cells.injEq]at h1;exact ai h1.2.1
theorem znt (laws:List Law) (s:St) (wd rd:List Deed) (LA CA MA DA WA RA GA:Option Addr) (c0 c1 c2 c3 c4 c5 c6:Nat) (gxs:List GX) (i:Nat) (hm:gxs.map (·.g)=s.graves) {w:World} (bp: ∀x∈gxs,x.ok w) (y:GX) (W:World) (ga go c:Nat) (h:StIn w laws s wd rd LA CA MA DA WA RA GA c0 c1 c2 c3 c4 c5 c6) (hk:StLink s wd rd) (hB:Below w.heap.size w W) (hr:RowC W 46 ga go 5 ((gxs.set i y).map GX.cells)) (hy:y.ok W):
 StAt W laws (s.withGrave i y.g) (.slice LA laws.length c0) (.slice CA s.children.length c1) (.slice MA s.marriages.length c2) (.slice DA s.dead.length c3) (.slice WA wd.length c4) (.slice RA rd.length c5) (.slice (some ⟨ga,go,none⟩) s.graves.length c):=by
 have h':=h.keep hB;refine⟨wd,rd,LA,CA,MA,DA,WA,RA,some ⟨ga,go,none⟩,c0,c1,c2,c3,c4,c5,c,rfl,rfl,rfl,rfl,rfl,rfl,?_,⟨h'.laws,h'.kids,h'.marr,h'.dead,h'.wills,h'.ren,?_,h'.deadc⟩,⟨hk.wills,hk.shares,hk.ren,hk.tos⟩⟩
 ·unfold St.withGrave;rw[List.length_set]
 ·refine slw_gx (hr.sl rfl) (by unfold St.withGrave;rw[List.map_set,hm]) fun x hx=> ?_
  rcases List.mem_or_eq_of_mem_set hx with hx|rfl
  ·exact(bp x hx).keep hB
  ·exact hy
theorem ddF {W:World} {a b c:Nat} {x0 x1 x2 x3 x4 x5 x6 y0 y1 y2 y3 y4 y5 y6 z0 z1 z2 z3 z4 z5 z6:Value} {t t' u:TypeId} {f f':Nat×Nat} (h:W.heap[a]?=some (.cells #[x0,x1,x2,x3,x4,x5,x6] t f)/\W.heap[b]?=some (.cells #[y0,y1,y2,y3,y4,y5,y6] t' f')/\W.heap[c]?=some (.cells #[z0,z1,z2,z3,z4,z5,z6] u (0,0))):
 (W.heap[a]?=some (.cells #[x0,x1,x2,x3,x4,x5,x6] t f)/\W.heap[b]?=some (.cells #[y0,y1,y2,y3,y4,y5,y6] t' f')/\W.heap[c]?=some (.cells #[z0,z1,z2,z3,z4,z5,z6] u (0,0)))/\(W.cell? ⟨a,0,none⟩=some x0/\W.cell? ⟨a,1,none⟩=some x1/\W.cell? ⟨a,2,none⟩=some x2/\W.cell? ⟨a,3,none⟩=some x3/\W.cell? ⟨a,4,none⟩=some x4/\W.cell? ⟨a,5,none⟩=some x5/\W.cell? ⟨a,6,none⟩=some x6)/\(W.cell? ⟨b,0,none⟩=some y0/\W.cell? ⟨b,1,none⟩=some y1/\W.cell? ⟨b,2,none⟩=some y2/\W.cell? ⟨b,3,none⟩=some y3/\W.cell? ⟨b,4,none⟩=some y4/\W.cell? ⟨b,5,none⟩=some y5/\W.cell? ⟨b,6,none⟩=some y6)/\(W.cell? ⟨c,0,none⟩=some z0/\W.cell? ⟨c,1,none⟩=some z1/\W.cell? ⟨c,2,none⟩=some z2/\W.cell? ⟨c,3,none⟩=some z3/\W.cell? ⟨c,4,none⟩=some z4/\W.cell? ⟨c,5,none⟩=some z5/\W.cell? ⟨c,6,none⟩=some z6)/\(∀j,W.frozen? ⟨c,j,none⟩=false)/\a<W.heap.size/\b<W.heap.size/\c<W.heap.size:=
 ⟨h,zaG h.1,zaG h.2.1,zaG h.2.2,frz h.2.2,zab h.1,zab h.2.1,zab h.2.2⟩
theorem dd_boxes {w:World} (o0 o1 o2:Obj):Hid (Below w.heap.size w (((w.alloc o0).alloc o1).alloc o2))/\Hid (∀W,Below (((w.alloc o0).alloc o1).alloc o2).heap.size (((w.alloc o0).alloc o1).alloc o2) W->W.heap[w.heap.size]?=some o0/\W.heap[w.heap.size+1]?=some o1/\W.heap[w.heap.size+2]?=some o2):=by
 refine⟨by show Below _ _ _;exact Bw,fun W hB=>⟨?_,?_,?_⟩⟩
 ·exact(hB.block _ Mcq).trans (zak (zak (zar _ _ _ rfl)))
 ·exact(hB.block _ Mco).trans (zak (zar _ _ _ Mco))
 ·exact(hB.block _ Mco).trans (zar _ _ _ Mco)
theorem zeK {w W0:World} {o0 o1 o2:Obj} (h:((w.alloc o0).alloc o1).alloc o2=W0):Hid (Below w.heap.size w W0)/\Hid (∀W,Below W0.heap.size W0 W->W.heap[w.heap.size]?=some o0/\W.heap[w.heap.size+1]?=some o1/\W.heap[w.heap.size+2]?=some o2):=by
 subst h;exact dd_boxes _ _ _
theorem zfs {s:St} {pl:ByteArray} {day:Int} (h:zaJ s pl day=none):zjp s.graves pl day= -1:=by rw[znX,h]
theorem zd3 {s:St} {pl:ByteArray} {day:Int} {i:Nat} (h:zaJ s pl day=some i):zjp s.graves pl day=i:=by rw[znX,h]
theorem gx_at {xs:List GX} {gs:List Grave} {i:Nat} {g:Grave} (hm:xs.map (·.g)=gs) (hg:gs[i]?=some g): ∃(hi:i<xs.length),xs[i].g=g:=by
 rw[<-hm,List.getElem?_map]at hg;obtain⟨x,hx,rfl⟩:=Option.map_eq_some_iff.1 hg;obtain⟨hi,rfl⟩:=List.getElem?_eq_some_iff.1 hx;exact⟨hi,rfl⟩
theorem zpf (laws:List Law) (s:St) (wd rd:List Deed) (LA CA MA DA WA RA GA:Option Addr) (c0 c1 c2 c3 c4 c5 c6:Nat) (d:Deed) (B:Option Addr) (c:Nat) (w:World) (h:StIn w laws s wd rd LA CA MA DA WA RA GA c0 c1 c2 c3 c4 c5 c6) (hk:StLink s wd rd) (hf:StFew s wd rd) (hd:OkD d) (hS:Sl w 3 RPart.cells B d.to) (bN: ∀g∈s.graves,g.fin<=200000):Calls Tryz.prog 136 #[.agg #[.slice LA laws.length c0, .slice CA s.children.length c1, .slice MA s.marriages.length c2, .slice DA s.dead.length c3, .slice WA wd.length c4, .slice RA rd.length c5, .slice GA s.graves.length c6],d.v B c] w (zfH w laws (zcX s d)):=by
 obtain⟨R,hR⟩: ∃R,R=zcX s d:=⟨_,rfl⟩
 rw[<-hR];obtain⟨gxs,hm,bp,bw⟩:=zns h.graves;have HM:=zHi hm;have dm:=zHi bp;have bZ:=zHi bw;have qk:=zHi bN;clear hm bp bw bN;have H:=zHi (fun W (hB:Below w.heap.size w W)=>h.keep hB);have HK:=zHi hk;have HF:=zHi hf;have HD:=zHi hd;have HS:=zHi (fun W (hB:Below w.heap.size w W)=>hS.keep hB);have HR:=zHi hR;unfold Deed.v;clear h hk hf hd hS hR;go_enter Tryz.func136,Tryz.ntmps136
 go_upto_region 1 with fail
 generalize ao:World.alloc (World.alloc (World.alloc w _) _) _=W0;obtain⟨ak,ax⟩:=zeK ao;clear ao;have aw:=ak.o.size;obtain⟨⟨xs0,xd0,xr0⟩,⟨s0,s1,s2,s3,s4,s5,s6⟩,⟨d0,d1,d2,d3,d4,d5,d6⟩,⟨r0,r1,r2,r3,r4,r5,r6⟩,rf,ls,ld,lr⟩:=ddF (ax.o W0 (Below.refl _ _));have cP:=zHi (fun W (hB:Below W0.heap.size W0 W)=>ziW d.place d.day W (H.o W (ak.o.trans (hB.mono aw))) HF.o);have hr:=HR.o;unfold zcX at hr;cases aA:zaJ s d.place d.day with
 |none=>
  exact Mch
 |some i=>
  rw[aA]at hr;rw[zd3 aA]at cP;obtain⟨g,bO,bS,pA⟩:=zgB aA;simp only[bS]at hr;obtain⟨hi,kE⟩:=gx_at HM.o bO;have eb:i<s.graves.length:=MdO;have ie:=dm.o _ (List.getElem_mem hi);have qL:=zHi (fun(y:GX) W (hB:Below W0.heap.size W0 W)=>zjc laws s wd rd LA CA MA DA WA RA GA c0 c1 c2 c3 c4 c5 c6 gxs i y W HM.o (bZ.o.keep (ak.o.trans (hB.mono aw))) HF.o eb);have jZ:=zHi (znt laws s wd rd LA CA MA DA WA RA GA c0 c1 c2 c3 c4 c5 c6 gxs i HM.o dm.o);have aB:=zHi (fun W (hB:Below W0.heap.size W0 W)=>H.o W (ak.o.trans (hB.mono aw)));go_upto_region 2 with(go_at_call 13;go_must(refine(cP.o _ (Below.refl _ _)).mono ?_);rintro e wq ⟨rfl,z1,rfl⟩)
  obtain⟨W1,aV⟩: ∃W1,W1=W0.ext z1:=⟨_,rfl⟩
  have aZ:Below W0.heap.size W0 W1:=Mdi;rw[<-aV];clear aV;clear xs0 xd0 xr0 s0 s1 s2 s3 s4 s5 s6 d0 d1 d2 d3 d4 d5 d6 r0 r1 r2 r3 r4 r5 r6 rf ls ld lr;obtain⟨⟨xs0,xd0,xr0⟩,⟨s0,s1,s2,s3,s4,s5,s6⟩,⟨d0,d1,d2,d3,d4,d5,d6⟩,⟨r0,r1,r2,r3,r4,r5,r6⟩,rf,ls,ld,lr⟩:=ddF (ax.o W1 (aZ));have wv:=aZ.size;have fg:=ak.o.trans (aZ.mono aw);obtain⟨gb,gof,kf,cL,ah⟩:=(bZ.o.keep fg).at hi;generalize gxs[i]=x at*;subst kE;subst kf;have i0:=ah 0 _ rfl;have i1:=ah 1 _ rfl;have i2:=ah 2 _ rfl;have i3:=ah 3 _ rfl;have i4:=ah 4 _ rfl;simp only[Nat.add_zero]at i0;have tP:(i:Int)<(s.graves.length:Int):=Mcl;have eN:(0:Int)<=(i:Int):=Mcl;have aN: ¬(i:Int)<0:=Mcl;clear ah;go_upto_region 5 with fail
  obtain⟨W2,bM⟩: ∃W2,W2=W1.alloc (.cells #[.string x.g.place, .int .i64 x.g.cls, .int .i64 x.g.fin, .slice x.H x.g.holders.length x.hc, .slice x.D x.g.died.length x.dc] 46):=⟨_,rfl⟩
  have gG:W2.heap[W1.heap.size]?=some (.cells #[.string x.g.place, .int .i64 x.g.cls, .int .i64 x.g.fin, .slice x.H x.g.holders.length x.hc, .slice x.D x.g.died.length x.dc] 46):=Meh;have aS:Hid (Below W0.heap.size W0 W2):=Mdw;have kR:W1.heap.size<W2.heap.size:=zab gG;have un:=zHi fg;obtain⟨GB,jh⟩: ∃GB,GB=W1.heap.size:=⟨_,rfl⟩
  rw[<-bM,<-jh];rw[<-jh]at gG kR;have iR:W0.heap.size<=GB:=Mcl;clear bM jh aZ fg i0 i1 i2 i3 i4;clear xs0 xd0 xr0 s0 s1 s2 s3 s4 s5 s6 d0 d1 d2 d3 d4 d5 d6 r0 r1 r2 r3 r4 r5 r6 rf ls ld lr;obtain⟨g0,g1,g2,g3,g4⟩:=zec gG;by_cases zN:x.g.fin<0
  ·have HE:Hid (R=(s,15)):=by show _=_;rw[hr,if_pos (by simpa using zN)]
   clear hr;go_upto_region 6 with fail
   obtain⟨⟨xs0,xd0,xr0⟩,⟨s0,s1,s2,s3,s4,s5,s6⟩,⟨d0,d1,d2,d3,d4,d5,d6⟩,⟨r0,r1,r2,r3,r4,r5,r6⟩,rf,ls,ld,lr⟩:=ddF (ax.o W2 (aS.o));have bs:=aS.o;exact Mg
  ·rw[if_neg (by simpa using zN)]at hr;have fk:=qk.o x.g (List.mem_of_getElem? bO);have Aj:=zHi (fun W=>zjY x.g.fin d.years W Mcl fk HD.o.years.1 HD.o.years.2);have g2f:=frz gG;obtain⟨⟨xs0,xd0,xr0⟩,⟨s0,s1,s2,s3,s4,s5,s6⟩,⟨d0,d1,d2,d3,d4,d5,d6⟩,⟨r0,r1,r2,r3,r4,r5,r6⟩,rf,ls,ld,lr⟩:=ddF (ax.o W2 (aS.o));have GG:=zHi gG;generalize zci x.g.fin d.years=af at*;go_upto_region 8 with(go_at_call 164;go_must(refine(Aj.o _).mono ?_);rintro e wq ⟨rfl,z2,rfl⟩)
   clear xs0 xd0 xr0 s0 s1 s2 s3 s4 s5 s6 d0 d1 d2 d3 d4 d5 d6 r0 r1 r2 r3 r4 r5 r6 rf ls ld lr;obtain⟨W3,aX⟩: ∃W3,W3=(W2.setCell ⟨GB,2,none⟩ (.int .i64 af)).ext z2:=⟨_,rfl⟩
   have gG3:W3.heap[GB]?=some (.cells #[.string x.g.place, .int .i64 x.g.cls, .int .i64 af, .slice x.H x.g.holders.length x.hc, .slice x.D x.g.died.length x.dc] 46):=by
    rw[aX];exact Mbq
   have eZ:Below W0.heap.size W0 W3:=by rw[aX];exact zbc (zaO aS.o iR _) z2
   rw[<-aX];clear aX g0 g1 g2 g3 g4 g2f;obtain⟨g0,g1,g2,g3,g4⟩:=zec gG3;have vv:=eZ.size;have cB:=zab gG3;obtain⟨⟨xs0,xd0,xr0⟩,⟨s0,s1,s2,s3,s4,s5,s6⟩,⟨d0,d1,d2,d3,d4,d5,d6⟩,⟨r0,r1,r2,r3,r4,r5,r6⟩,rf,ls,ld,lr⟩:=ddF (ax.o W3 (eZ));by_cases ow:af<0
   ·have HE:Hid (R=(s,2)):=by show _=_;rw[hr,if_pos (by simpa using ow)]
    clear hr;go_upto_region 9 with fail
    have bs:=eZ;exact Mg
   ·have HE:Hid (R=(s.withGrave i {x.g with fin:=af},0)):=by show _=_;rw[hr,if_neg (by simpa using ow)]
    have lX:=zHi (qL.o {x with g:= {x.g with fin:=af}} W3 eZ);unfold GX.cells zgJ at lX;dsimp only at lX;have aJ:=zHi eZ;clear hr aA;go_upto_region 10 with fail
    go_wp2_with (go_at_call 167
                 go_must(refine(lX.o).mono ?_)
                 rintro e w5 ⟨ga,go,gc,rfl,bi,aj⟩;have aE:=aJ.o.trans (aj.mono vv);obtain⟨_,_,xr5⟩:=ax.o w5 aE;obtain⟨t0,t1,t2,t3,t4,t5,t6⟩:=zaG xr5;have tf:=frz xr5;have bX:=zHi bi;have aC:=zHi aE
                 clear bi aj aE)
    rw[HE.o];refine bodyPost_ret (zbA rfl _ rfl rfl (zc0 xr5)) rfl ?_;have dq:=zc9 (a0:= .slice LA laws.length c0) (a1:= .slice CA s.children.length c1) (a2:= .slice MA s.marriages.length c2) (a3:= .slice DA s.dead.length c3) (a4:= .slice WA wd.length c4) (a5:= .slice RA rd.length c5) (a6:= .slice (some ⟨ga,go,none⟩) s.graves.length gc) (ak.o.trans (aC.o.mono aw)) (show w.heap.size<=w.heap.size+2 by omega);exact⟨_,_,_,_,_,_,_,rfl,rfl,dq,fun _=>jZ.o {x with g:= {x.g with fin:=af}} _ ga go gc (H.o w (Below.refl _ _)) HK.o dq (bX.o.ne7 (zmo bX.o xr5 Mcn)) (ie.keep dq)⟩
theorem zpg (w:World) (g:Nat) (a b:Value):w.grownBy ((w.setCell ⟨g,0,none⟩ a).setCell ⟨g,1,none⟩ b) (some g):=zbn (zau w g 0 a) (zau _ g 1 b)
theorem zjd {α:Type} {W:World} {e t:TypeId} {f:α->List Value} {A:Option Addr} {xs:List α} {b:Nat} {cs:Array Value} {fr:Nat×Nat} {a0 a1 a2 a3 a4 a5 a6:Value} (h:Ro W e f A xs) (hb:W.heap[b]?=some (.cells cs t fr)) (ai:t≠e):
 Ro (((((((W.setCell ⟨b,0,none⟩ a0).setCell ⟨b,1,none⟩ a1).setCell ⟨b,2,none⟩ a2).setCell ⟨b,3,none⟩ a3).setCell ⟨b,4,none⟩ a4).setCell ⟨b,5,none⟩ a5).setCell ⟨b,6,none⟩ a6) e f A xs:=
 h.same fun k cur fr' hk _=>by
  have mH:k≠b:=fun he=>by
   rw[he,hb]at hk;simp only[Option.some.injEq,Obj.cells.injEq]at hk;exact ai hk.2.1
  rw[hk];exact J_ne mH (J_ne mH (J_ne mH (J_ne mH (J_ne mH (J_ne mH (J_ne mH hk))))))
def surM (l:Parts) (frm:ByteArray) (q:Rat):Parts:=(zas l frm).map fun p=>(p.1,p.2/q)
theorem surM_snoc {l:Parts} {n:ByteArray} {q:Rat} {k:Nat} (h:k<l.length):surM (l.take (k+1)) n q=surM (l.take k) n q++(if zae l[k].1 n then[]else[(l[k].1,l[k].2/q)]):=by
 unfold surM;rw[zhx h,List.map_append];cases zae l[k].1 n<;>rfl
theorem zof (l:Parts) (n:ByteArray) (q:Rat):(surM l n q).length<=l.length:=by
 unfold surM;rw[List.length_map];exact List.length_filter_le _ _
theorem zjv (laws:List Law) (s:St) (wd rd:List Deed) (LA CA MA DA WA RA GA:Option Addr) (c0 c1 c2 c3 c4 c5 c6:Nat) (d:Deed) (B:Option Addr) (c:Nat) (w:World) (h:StIn w laws s wd rd LA CA MA DA WA RA GA c0 c1 c2 c3 c4 c5 c6) (hk:StLink s wd rd) (hf:StFew s wd rd) (hd:OkD d) (hS:Sl w 3 RPart.cells B d.to) (b9: ∀g∈s.graves,GoodG g/\g.holders.length<=50000):Calls Tryz.prog 135 #[.agg #[.slice LA laws.length c0, .slice CA s.children.length c1, .slice MA s.marriages.length c2, .slice DA s.dead.length c3, .slice WA wd.length c4, .slice RA rd.length c5, .slice GA s.graves.length c6],d.v B c] w (zfH w laws (zaZ s d)):=by
 obtain⟨R,hR⟩: ∃R,R=zaZ s d:=⟨_,rfl⟩
 rw[<-hR];obtain⟨gxs,hm,bp,bw⟩:=zns h.graves;have HM:=zHi hm;have dm:=zHi bp;have bZ:=zHi bw;have ej:=zHi b9;clear hm bp bw b9;have H:=zHi (fun W (hB:Below w.heap.size w W)=>h.keep hB);have HK:=zHi hk;have HF:=zHi hf;have HD:=zHi hd;have HS:=zHi (fun W (hB:Below w.heap.size w W)=>hS.keep hB);have HR:=zHi hR;unfold Deed.v;clear h hk hf hd hS hR;go_enter Tryz.func135,Tryz.ntmps135
 go_upto_region 1 with fail
 generalize ao:World.alloc (World.alloc (World.alloc w _) _) _=W0;obtain⟨ak,ax⟩:=zeK ao;clear ao;have aw:=ak.o.size;obtain⟨⟨xs0,xd0,xr0⟩,⟨s0,s1,s2,s3,s4,s5,s6⟩,⟨d0,d1,d2,d3,d4,d5,d6⟩,⟨r0,r1,r2,r3,r4,r5,r6⟩,rf,ls,ld,lr⟩:=ddF (ax.o W0 (Below.refl _ _));have cP:=zHi (fun W (hB:Below W0.heap.size W0 W)=>ziW d.place d.day W (H.o W (ak.o.trans (hB.mono aw))) HF.o);have hr:=HR.o;unfold zaZ at hr;cases aA:zaJ s d.place d.day with
 |none=>
  exact Mch
 |some i=>
  rw[aA]at hr;rw[zd3 aA]at cP;obtain⟨g,bO,bS,pA⟩:=zgB aA;simp only[bS]at hr;obtain⟨hi,kE⟩:=gx_at HM.o bO;have eb:i<s.graves.length:=MdO;have ie:=dm.o _ (List.getElem_mem hi);have qL:=zHi (fun(y:GX) W (hB:Below W0.heap.size W0 W)=>zjc laws s wd rd LA CA MA DA WA RA GA c0 c1 c2 c3 c4 c5 c6 gxs i y W HM.o (bZ.o.keep (ak.o.trans (hB.mono aw))) HF.o eb);have jZ:=zHi (znt laws s wd rd LA CA MA DA WA RA GA c0 c1 c2 c3 c4 c5 c6 gxs i HM.o dm.o);have aB:=zHi (fun W (hB:Below W0.heap.size W0 W)=>H.o W (ak.o.trans (hB.mono aw)));go_upto_region 2 with(go_at_call 13;go_must(refine(cP.o _ (Below.refl _ _)).mono ?_);rintro e wq ⟨rfl,z1,rfl⟩)
  obtain⟨W1,aV⟩: ∃W1,W1=W0.ext z1:=⟨_,rfl⟩
  have aZ:Below W0.heap.size W0 W1:=Mdi;rw[<-aV];clear aV;clear xs0 xd0 xr0 s0 s1 s2 s3 s4 s5 s6 d0 d1 d2 d3 d4 d5 d6 r0 r1 r2 r3 r4 r5 r6 rf ls ld lr;obtain⟨⟨xs0,xd0,xr0⟩,⟨s0,s1,s2,s3,s4,s5,s6⟩,⟨d0,d1,d2,d3,d4,d5,d6⟩,⟨r0,r1,r2,r3,r4,r5,r6⟩,rf,ls,ld,lr⟩:=ddF (ax.o W1 (aZ));have wv:=aZ.size;have fg:=ak.o.trans (aZ.mono aw);obtain⟨gb,gof,kf,cL,ah⟩:=(bZ.o.keep fg).at hi;generalize gxs[i]=x at*;subst kE;subst kf;have i0:=ah 0 _ rfl;have i1:=ah 1 _ rfl;have i2:=ah 2 _ rfl;have i3:=ah 3 _ rfl;have i4:=ah 4 _ rfl;simp only[Nat.add_zero]at i0;have tP:(i:Int)<(s.graves.length:Int):=Mcl;have eN:(0:Int)<=(i:Int):=Mcl;have aN: ¬(i:Int)<0:=Mcl;clear ah;go_upto_region 5 with fail
  obtain⟨W2,bM⟩: ∃W2,W2=W1.alloc (.cells #[.string x.g.place, .int .i64 x.g.cls, .int .i64 x.g.fin, .slice x.H x.g.holders.length x.hc, .slice x.D x.g.died.length x.dc] 46):=⟨_,rfl⟩
  have gG:W2.heap[W1.heap.size]?=some (.cells #[.string x.g.place, .int .i64 x.g.cls, .int .i64 x.g.fin, .slice x.H x.g.holders.length x.hc, .slice x.D x.g.died.length x.dc] 46):=Meh;have aS:Hid (Below W0.heap.size W0 W2):=Mdw;have kR:W1.heap.size<W2.heap.size:=zab gG;have un:=zHi fg;obtain⟨GB,jh⟩: ∃GB,GB=W1.heap.size:=⟨_,rfl⟩
  rw[<-bM,<-jh];rw[<-jh]at gG kR;have iR:W0.heap.size<=GB:=Mcl;clear bM jh aZ fg i0 i1 i2 i3 i4;clear xs0 xd0 xr0 s0 s1 s2 s3 s4 s5 s6 d0 d1 d2 d3 d4 d5 d6 r0 r1 r2 r3 r4 r5 r6 rf ls ld lr;obtain⟨dr,cB⟩:=ej.o x.g pA;have oT:=ie.keep (ak.o.trans (aS.o.mono aw));have ni:=zHi (fun W (hB:Below W2.heap.size W2 W)=>zfk x.g.holders d.frm x.H x.hc W Mcl (oT.1.keep hB));have dD:=fun h=>zl2 (frm:=d.frm) dr h
  change R=(if(zaf x.g.holders d.frm==0)=true then(s,19)else if zaE (surM x.g.holders d.frm (1-zaf x.g.holders d.frm))=true then(s,8)else(s.withGrave i {x.g with holders:=surM x.g.holders d.frm (1-zaf x.g.holders d.frm)},0))at hr;generalize zaf x.g.holders d.frm=sh at*;unfold za9 at ni;obtain⟨g0,g1,g2,g3,g4⟩:=zec gG;have rB:=aS.o.size;have GG:=zHi gG;obtain⟨⟨xs0,xd0,xr0⟩,⟨s0,s1,s2,s3,s4,s5,s6⟩,⟨d0,d1,d2,d3,d4,d5,d6⟩,⟨r0,r1,r2,r3,r4,r5,r6⟩,rf,ls,ld,lr⟩:=ddF (ax.o W2 (aS.o));go_upto_region 6 with(go_at_call 165;go_must(refine(ni.o _ (Below.refl _ _)).mono ?_);rintro e wq ⟨rfl,z2,rfl⟩)
  obtain⟨SB,gD⟩: ∃SB,SB=W2.heap.size+z2.os.size:=⟨_,rfl⟩
  obtain⟨W3,aX⟩: ∃W3,W3=(W2.ext z2).alloc (.cells #[.int .i64 (sh).num, .int .i64 (sh).den] 58):=⟨_,rfl⟩
  have gS:W3.heap[SB]?=some (.cells #[.int .i64 (sh).num, .int .i64 (sh).den] 58):=by rw[aX];exact zar _ _ _ (by rw[gD];simp[zag])
  have av:Below W2.heap.size W2 W3:=by rw[aX];exact zac (zam W2 z2) _
  rw[<-aX,<-gD];clear aX gD g0 g1 g2 g3 g4 gG;clear xs0 xd0 xr0 s0 s1 s2 s3 s4 s5 s6 d0 d1 d2 d3 d4 d5 d6 r0 r1 r2 r3 r4 r5 r6 rf ls ld lr;have jl:=av.size;have aJ:=zHi (aS.o.trans (av.mono rB));have G3:=zHi ((av.block GB kR).trans GG.o);have GS:=zHi gS;obtain⟨q0,q1⟩:=zba gS;have ri:=zab gS;obtain⟨⟨xs0,xd0,xr0⟩,⟨s0,s1,s2,s3,s4,s5,s6⟩,⟨d0,d1,d2,d3,d4,d5,d6⟩,⟨r0,r1,r2,r3,r4,r5,r6⟩,rf,ls,ld,lr⟩:=ddF (ax.o W3 (aJ.o));by_cases hz:sh=0
  ·have mW:(sh.num==0)=true:=by rw[hz];rfl
   have HE:Hid (R=(s,19)):=by show _=_;rw[hr,if_pos Mds]
   clear hr;go_upto_region 7 with fail
   have bs:=aJ.o;exact Mg
  ·have mW:(sh.num==0)=false:=by
    exact Mbd
   rw[if_neg Mds]at hr;obtain⟨m1,m2,m3,m4⟩:=dD hz;have eU:=zHi (fun W=>zhL 1 sh W ⟨by decide,by decide⟩ m1);have pf:=zHi m4;have Ea:=zHi m2;unfold za9 at eU;rw[show(1:Rat).num=1 from rfl,show((1:Rat).den:Int)=1 from rfl]at eU;clear hz m1 m2 m3 m4 dD;go_upto_region 9 with fail
   refine zdC 3 _ _ (.cells #[.int .i64 0, .int .i64 0] 58) (.cells #[.int .i64 (1-sh).num, .int .i64 (1-sh).den] 58) Mcm Mcm rfl rfl ?hrun ?_
   case hrun=>intro a W;kernel_rfl
   simp only[List.take_succ_cons,List.take_zero];repeat(refine zeD (fun K hK=> ?_);simp only[grow];go_simp;first|(refine hK _ ?_;clear hK K)|(apply Exists.intro;refine⟨fun _=> ?_,hK _ ?_⟩;((first|(go_at_call 36;exact quietg (zhS _))|(go_at_call 39;exact quietg (eU.o _))));clear hK K))
   refine zf4 ⟨?hstore,?hlast⟩
   case hstore=>
    exact ME
   case hlast=>
    rintro LB W4 ⟨z4,iu⟩ tw gL;obtain⟨lf,kX⟩: ∃lf,lf=1-sh:=⟨_,rfl⟩
    rw[<-kX]at hr pf Ea gL;have aD:Below W3.heap.size W3 W4:=by rw[iu];exact zam _ _
    have Es:=aD.size;have eE:=zHi (aJ.o.trans (aD.mono Mcl));have G4:=zHi ((aD.block GB Mcl).trans G3.o);have GL:=zHi gL;have fq:=zab gL;have CN:GB<W4.heap.size:=Mcl;have Iw:=zHi ((ie.keep (ak.o.trans (eE.o.mono aw))));clear iu kX gL aD gS q0 q1 ri eU mW;clear xs0 xd0 xr0 s0 s1 s2 s3 s4 s5 s6 d0 d1 d2 d3 d4 d5 d6 r0 r1 r2 r3 r4 r5 r6 rf ls ld lr;go_upto_region 11 with fail
    go_loopw [9,11] (fun v i wr=> ∃k:Nat,k<=x.g.holders.length/\i= .int .i64 k/\OwnS wr W4.heap.size 63 3 zaa v (surM (x.g.holders.take k) d.frm lf)/\Below W4.heap.size W4 wr) (fun _ i _=>x.g.holders.length-(intOf i).toNat)
    case atStart=>exact⟨0,Nat.zero_le _,rfl,OwnS.nil,Below.refl _ _⟩
    case round=>
     obtain⟨k,hk,rfl,ae,hB⟩:=hrel;have aK:=hB.size;have HO:=zHi ae;have HB:=zHi hB;have iz:=(hB.block GB CN).trans G4.o;have CH:=(hB.block LB fq).trans GL.o;obtain⟨g0,g1,g2,g3,g4⟩:=zec iz;obtain⟨l0,l1⟩:=zba CH;have CO:=zab iz;have xo:=zab CH;have cy:=eE.o.trans (hB.mono Mcl);obtain⟨⟨xs0,xd0,xr0⟩,⟨s0,s1,s2,s3,s4,s5,s6⟩,⟨d0,d1,d2,d3,d4,d5,d6⟩,⟨r0,r1,r2,r3,r4,r5,r6⟩,rf,ls,ld,lr⟩:=ddF (ax.o wr (cy));have aW:=zHi cy;by_cases aa:k<x.g.holders.length
     ·obtain⟨b,off,hA,hb,ah⟩:=(Iw.o.1.keep hB).at aa;have am:=surM_snoc (n:=d.frm) (q:=lf) aa;have bK:=Nat.le_trans (zof (x.g.holders.take k) d.frm lf) (by rw[List.length_take];omega:(x.g.holders.take k).length<=k);have gK:=pf.o _ (List.getElem_mem aa);generalize surM (x.g.holders.take k) d.frm lf=xs at*;obtain⟨VA,vc,rfl,_,kC⟩:=ae.sl zan;have aq:=zHi aa;generalize x.g.holders[k]=p at*;obtain⟨nm,q⟩:=p;rw[hA]at g3;have i0:wr.cell? ⟨b,off+k*3,none⟩=some (.string nm):=ah 0 _ rfl;have i1:wr.cell? ⟨b,off+k*3+1,none⟩=some (.int .i64 q.num):=ah 1 _ rfl;have i2:wr.cell? ⟨b,off+k*3+2,none⟩=some (.int .i64 q.den):=ah 2 _ rfl;have ar:(k:Int)<(x.g.holders.length:Int):=Mcl;have aT:(0:Int)<=(k:Int):=Mcl;have fU:Hid (xs.length<=100000):=by show _<=_;omega
      simp only at gK am;have aL:=zHi (fun(W:World) (h:Below wr.heap.size wr W)=>(show W.cell? ⟨GB,3,none⟩=some (.slice (some ⟨b,off,none⟩) x.g.holders.length x.hc)/\W.cell? ⟨b,off+k*3,none⟩=some (.string nm)/\W.cell? ⟨b,off+k*3+1,none⟩=some (.int .i64 q.num)/\W.cell? ⟨b,off+k*3+2,none⟩=some (.int .i64 q.den)/\W.cell? ⟨LB,0,none⟩=some (.int .i64 lf.num)/\W.cell? ⟨LB,1,none⟩=some (.int .i64 lf.den) from⟨(zah h CO).trans g3,(zah h hb).trans i0,(zah h hb).trans i1,(zah h hb).trans i2,(zah h xo).trans l0,(zah h xo).trans l1⟩));go_upto_region 13 with fail
      cases hs:zae nm d.frm
      ·have br:(nm.toList==d.frm.toList)=false:=hs;have aB:Hid (surM (x.g.holders.take (k+1)) d.frm lf=xs++[(nm,q/lf)]):=by show _=_;rw[am,hs];rfl
       obtain⟨ib,xO⟩:=gK hs;have Eb:=zHi (fun W=>rQuo_any q lf W xO Ea.o ib);unfold za9 at Eb;clear ah aa ae am hs gK ib xO
       (refine zaj Mcm Mcm ?_
        repeat(first|go_big_quiet_skip|(go_big_quiet_want;go_big_quiet_op;first|go_big_quiet_on|(apply Exists.intro;refine⟨fun _=> ?_,?_⟩;(fail);go_big_quiet_on)))
        refine wpQuiet_nil ?_
        rintro _ ⟨zq,rfl⟩)
       obtain⟨WQ,ou⟩: ∃WQ,WQ=wr.ext zq:=⟨_,rfl⟩
       have mj:Below wr.heap.size wr WQ:=Mel;rw[<-ou];clear ou g0 g1 g2 g3 g4 l0 l1 i0 i1 i2;clear xs0 xd0 xr0 s0 s1 s2 s3 s4 s5 s6 d0 d1 d2 d3 d4 d5 d6 r0 r1 r2 r3 r4 r5 r6 rf ls ld lr;have Js:=mj.size;go_upto_region 14 with fail
       refine zaC 17 (fun bb w'=>bb=true\/(w'.cell? ⟨GB,3,none⟩=some (.slice (some ⟨b,off,none⟩) x.g.holders.length x.hc)/\w'.cell? ⟨b,off+k*3,none⟩=some (.string nm)/\w'.cell? ⟨b,off+k*3+1,none⟩=some (.int .i64 q.num)/\w'.cell? ⟨b,off+k*3+2,none⟩=some (.int .i64 q.den)/\w'.cell? ⟨LB,0,none⟩=some (.int .i64 lf.num)/\w'.cell? ⟨LB,1,none⟩=some (.int .i64 lf.den))) Mcm (.inr (aL.o _ (zaM mj))) ?hrest
       case hrest=>
        intro hHeld;refine TkM 0 ?_;refine TkM 1 ?_;refine TkM 2 ?_;refine TkM 3 ?_;refine TkM 4 ?_;refine TkM 5 ?_;refine TkM 6 ?_;refine TkM 7 ?_;refine TkM 8 ?_;refine TkM 9 ?_;refine TkM 10 ?_;refine TkM 11 ?_;refine TkM 12 ?_;refine TkM 13 ?_;refine OnM 14 false fun K hK=> ?_
        go_simp
        refine(Eb.o _).mono ?_;rintro e w5 ⟨rfl,z,rfl⟩;have aj:Below wr.heap.size wr (WQ.drew.ext z):=zbc (zaM mj) z;refine NxM hK (fun hHeld=> ?_) (.inr (aL.o _ aj));clear hK K;refine TkM 15 ?_;refine OnM 16 false fun K hK=> ?_
        go_simp
        have aE:Below wr.heap.size wr ((WQ.drew.ext z).alloc (.cells #[.string nm, .int .i64 (q/lf).num, .int .i64 (q/lf).den] 63)):=zac aj _;refine NxM hK (fun hHeld=> ?_) (.inr (aL.o _ aE));clear hK K;refine OnM 17 true fun K hK=> ?_
        refine zal (v:= .slice VA xs.length vc) (n:=xs.length) (m:=1) rfl _ _ rfl zdO zan zce rfl (xs:=xs) (ys:=[(nm,q/lf)]) (HO.o.keep (n:=wr.heap.size) aE) rfl rfl rfl (zdd (zar _ _ _ MdB)) (by have:=fU.o;simp only[maxLen];omega) Mc8 Mdz ?_;intro v7 w7 h1 h2 h3;obtain⟨A7,c7,kB,_,_⟩:=h1.sl zan;rw[List.length_append]at kB;subst kB;have bG:Below W4.heap.size W4 w7:=Below.grown (HB.o.trans (aE.mono aK)) h2 Mdz (fun j hj=>(HO.o.ge j hj).1);refine NxM hK fun hHeld=> ?_
        clear hK K;refine OnM 18 true fun K hK=> ?_
        go_simp
        refine NxM hK fun hHeld=> ?_
        clear hK K;refine zaQ Mcm ?_ _;clear hHeld;have H7:=zHi h1;have bR:=zHi bG;clear h1 h2 h3 bG;go_wp2_with fail
        go_round
        case rel=>exact⟨k+1,aq.o,by go_num,by rw[aB.o];exact H7.o,bR.o⟩
        case measure=>have:=aq.o;simp only[intOf];omega
      ·have br:(nm.toList==d.frm.toList)=true:=hs;have aB:Hid (surM (x.g.holders.take (k+1)) d.frm lf=xs):=by show _=_;rw[am,hs];simp
       clear ah aa ae am hs gK
       (refine zaj Mcm Mcm ?_
        repeat(first|go_big_quiet_skip|(go_big_quiet_want;go_big_quiet_op;first|go_big_quiet_on|(apply Exists.intro;refine⟨fun _=> ?_,?_⟩;(fail);go_big_quiet_on)))
        refine wpQuiet_nil ?_
        rintro _ ⟨zq,rfl⟩)
       go_wp2_with fail
       go_round
       case rel=>exact⟨k+1,aq.o,by go_num,by rw[aB.o];exact HO.o.keep (n:=wr.heap.size) (zam _ _),zbc HB.o zq⟩
       case measure=>have:=aq.o;simp only[intOf];omega
     ·have ar: ¬(k:Int)<(x.g.holders.length:Int):=Mcl;rw[List.take_of_length_le Mcl]at HO ae;have kr:=zof x.g.holders d.frm lf;generalize surM x.g.holders d.frm lf=out at*;obtain⟨VA,vc,rfl,jk,_⟩:=ae.sl zan;have dj:=zHi (fun W (h:Below wr.heap.size wr W)=>zdG out VA vc W Mcl (jk.keep h));have g3f:=frz iz;have lH:=zHi iz;clear ae jk aa hB CH;cases hlg:zaE out
      ·rw[hlg]at dj hr;have HE:Hid (R=(s.withGrave i {x.g with holders:=out},0)):=by show _=_;rw[hr];rfl
       clear hr hlg aA;go_upto_region 18 with(go_at_call 44;go_must(refine(dj.o _ Bw).mono ?_);rintro e wq ⟨rfl,rfl⟩)
       obtain⟨W6,eK⟩: ∃W6,W6=wr.setCell ⟨GB,3,none⟩ (.slice VA out.length vc):=⟨_,rfl⟩
       have gG6:W6.heap[GB]?=some (.cells #[.string x.g.place, .int .i64 x.g.cls, .int .i64 x.g.fin, .slice VA out.length vc, .slice x.D x.g.died.length x.dc] 46):=by
        rw[eK];have:=Joins.block_setCell (i:=3) lH.o (.slice VA out.length vc);simpa using this
       have m8:Below W0.heap.size W0 W6:=by rw[eK];exact zaO aW.o iR _
       have pM:OwnS W6 W4.heap.size 63 3 zaa (.slice VA out.length vc) out:=by rw[eK];exact HO.o.kept (zau _ _ _ _) lH.o Mcn
       rw[<-eK];clear eK g0 g1 g2 g3 g4 g3f l0 l1 iz;clear xs0 xd0 xr0 s0 s1 s2 s3 s4 s5 s6 d0 d1 d2 d3 d4 d5 d6 r0 r1 r2 r3 r4 r5 r6 rf ls ld lr;obtain⟨g0,g1,g2,g3,g4⟩:=zec gG6;have bH:=zab gG6;have qP:=m8.size;obtain⟨⟨xs0,xd0,xr0⟩,⟨s0,s1,s2,s3,s4,s5,s6⟩,⟨d0,d1,d2,d3,d4,d5,d6⟩,⟨r0,r1,r2,r3,r4,r5,r6⟩,rf,ls,ld,lr⟩:=ddF (ax.o W6 (m8));have lX:=zHi (qL.o ({g:= {x.g with holders:=out},H:=VA,hc:=vc,D:=x.D,dc:=x.dc}:GX) W6 m8);unfold GX.cells zgJ at lX;dsimp only at lX;have aC:=zHi m8;have lL:=zHi pM;clear m8 pM gG6
       go_wp2_with (go_at_call 167
                    go_must(refine(lX.o).mono ?_)
                    rintro e w5 ⟨ga,go,gc,rfl,bi,aj⟩;have bG:=aC.o.trans (aj.mono qP);obtain⟨_,_,xr5⟩:=ax.o w5 bG;obtain⟨t0,t1,t2,t3,t4,t5,t6⟩:=zaG xr5;have tf:=frz xr5;have bX:=zHi bi;have bR:=zHi bG;have lm:=zHi aj
                    clear bi aj bG)
       rw[HE.o];refine bodyPost_ret (zbA rfl _ rfl rfl (zc0 xr5)) rfl ?_;have dq:=zc9 (a0:= .slice LA laws.length c0) (a1:= .slice CA s.children.length c1) (a2:= .slice MA s.marriages.length c2) (a3:= .slice DA s.dead.length c3) (a4:= .slice WA wd.length c4) (a5:= .slice RA rd.length c5) (a6:= .slice (some ⟨ga,go,none⟩) s.graves.length gc) (ak.o.trans (bR.o.mono aw)) (show w.heap.size<=w.heap.size+2 by omega);obtain⟨A',c',mz,_,ee⟩:=lL.o.ro;obtain⟨rfl,_,rfl⟩:VA=A'/\out.length=out.length/\vc=c':=by simpa using mz
       exact⟨_,_,_,_,_,_,_,rfl,rfl,dq,fun _=>jZ.o ({g:= {x.g with holders:=out},H:=VA,hc:=vc,D:=x.D,dc:=x.dc}:GX) _ ga go gc (H.o w (Below.refl _ _)) HK.o dq (bX.o.ne7 (zmo bX.o xr5 Mcn)) ⟨(zjd (ee.keep lm.o) xr5 Mcn).sl zan,(ie.keep dq).2⟩⟩
      ·rw[hlg]at dj hr;have HE:Hid (R=(s,8)):=by show _=_;rw[hr];rfl
       clear hr hlg aA;go_upto_region 16 with(go_at_call 44;go_must(refine(dj.o _ Bw).mono ?_);rintro e wq ⟨rfl,rfl⟩)
       have bs:=aW.o;exact Mg
end Go.Proofs.YtckkbkdcdkhglaaGreatDoor
