/- Walk of the reference's surrender. -/
import Derived.Test.YtjhbofabmpfniaaGreatDoorXG
set_option linter.unusedSimpArgs false
set_option linter.unusedVariables false
set_option maxRecDepth 100000
set_option maxHeartbeats 4000000
namespace Go.Proofs.YtjhbofabmpfniaaGreatDoor
open Go.RowKit Go.Shelf
attribute [local go_sem] World.cell?_alloc_mark zae za3 zam za6 zas zat zau zav zaw zax zay
attribute [local go_sem] zaj zac
theorem zmq {W:World} {e t:TypeId} {g o size b:Nat} {css:List (List Value)} {cs:Array Value} {fr:Nat×Nat} (h:RowC W e g o size css) (hb:W.heap[b]?=some (.cells cs t fr)) (ai:t≠e):g≠b:=fun he=>by
 obtain⟨cur,h1,_⟩:=h.row;rw[he,hb]at h1;simp only[Option.some.injEq,Obj.cells.injEq]at h1;exact ai h1.2.1
theorem znz (laws:List Law) (s:St) (wd rd:List Deed) (LA CA MA DA WA RA GA:Option Addr) (c0 c1 c2 c3 c4 c5 c6:Nat) (gxs:List GX) (i:Nat) (hm:gxs.map (·.g)=s.graves) {w:World} (bJ: ∀x∈gxs,x.ok w) (y:GX) (W:World) (ga go c:Nat) (h:StIn w laws s wd rd LA CA MA DA WA RA GA c0 c1 c2 c3 c4 c5 c6) (hk:StLink s wd rd) (hB:Below w.heap.size w W) (hr:RowC W 49 ga go 5 ((gxs.set i y).map GX.cells)) (hy:y.ok W):
 StAt W laws (s.withGrave i y.g) (.slice LA laws.length c0) (.slice CA s.children.length c1) (.slice MA s.marriages.length c2) (.slice DA s.dead.length c3) (.slice WA wd.length c4) (.slice RA rd.length c5) (.slice (some ⟨ga,go,none⟩) s.graves.length c):=by
 have h':=h.keep hB;refine⟨wd,rd,LA,CA,MA,DA,WA,RA,some ⟨ga,go,none⟩,c0,c1,c2,c3,c4,c5,c,rfl,rfl,rfl,rfl,rfl,rfl,?_,⟨h'.laws,h'.kids,h'.marr,h'.dead,h'.wills,h'.ren,?_,h'.deadc⟩,⟨hk.wills,hk.shares,hk.ren,hk.tos⟩⟩
 ·unfold St.withGrave;rw[List.length_set]
 ·refine slw_gx (hr.sl rfl) (by unfold St.withGrave;rw[List.map_set,hm]) fun x hx=> ?_
  rcases List.mem_or_eq_of_mem_set hx with hx|rfl
  ·exact(bJ x hx).keep hB
  ·exact hy
theorem ddF {W:World} {a b c:Nat} {x0 x1 x2 x3 x4 x5 x6 y0 y1 y2 y3 y4 y5 y6 z0 z1 z2 z3 z4 z5 z6:Value} {t t' u:TypeId} {f f':Nat×Nat} (h:W.heap[a]?=some (.cells #[x0,x1,x2,x3,x4,x5,x6] t f)/\W.heap[b]?=some (.cells #[y0,y1,y2,y3,y4,y5,y6] t' f')/\W.heap[c]?=some (.cells #[z0,z1,z2,z3,z4,z5,z6] u (0,0))):
 (W.heap[a]?=some (.cells #[x0,x1,x2,x3,x4,x5,x6] t f)/\W.heap[b]?=some (.cells #[y0,y1,y2,y3,y4,y5,y6] t' f')/\W.heap[c]?=some (.cells #[z0,z1,z2,z3,z4,z5,z6] u (0,0)))/\(W.cell? ⟨a,0,none⟩=some x0/\W.cell? ⟨a,1,none⟩=some x1/\W.cell? ⟨a,2,none⟩=some x2/\W.cell? ⟨a,3,none⟩=some x3/\W.cell? ⟨a,4,none⟩=some x4/\W.cell? ⟨a,5,none⟩=some x5/\W.cell? ⟨a,6,none⟩=some x6)/\(W.cell? ⟨b,0,none⟩=some y0/\W.cell? ⟨b,1,none⟩=some y1/\W.cell? ⟨b,2,none⟩=some y2/\W.cell? ⟨b,3,none⟩=some y3/\W.cell? ⟨b,4,none⟩=some y4/\W.cell? ⟨b,5,none⟩=some y5/\W.cell? ⟨b,6,none⟩=some y6)/\(W.cell? ⟨c,0,none⟩=some z0/\W.cell? ⟨c,1,none⟩=some z1/\W.cell? ⟨c,2,none⟩=some z2/\W.cell? ⟨c,3,none⟩=some z3/\W.cell? ⟨c,4,none⟩=some z4/\W.cell? ⟨c,5,none⟩=some z5/\W.cell? ⟨c,6,none⟩=some z6)/\(∀j,W.frozen? ⟨c,j,none⟩=false)/\a<W.heap.size/\b<W.heap.size/\c<W.heap.size:=
 ⟨h,zaG h.1,zaG h.2.1,zaG h.2.2,frz h.2.2,zab h.1,zab h.2.1,zab h.2.2⟩
theorem dd_boxes {w:World} (o0 o1 o2:Obj):Hid (Below w.heap.size w (((w.alloc o0).alloc o1).alloc o2))/\Hid (∀W,Below (((w.alloc o0).alloc o1).alloc o2).heap.size (((w.alloc o0).alloc o1).alloc o2) W->W.heap[w.heap.size]?=some o0/\W.heap[w.heap.size+1]?=some o1/\W.heap[w.heap.size+2]?=some o2):=by
 refine⟨by show Below _ _ _;exact Bw,fun W hB=>⟨?_,?_,?_⟩⟩
 ·exact(hB.block _ Mcr).trans (zal (zal (zar _ _ _ rfl)))
 ·exact(hB.block _ Mcq).trans (zal (zar _ _ _ Mcq))
 ·exact(hB.block _ Mcq).trans (zar _ _ _ Mcq)
theorem zeP {w W0:World} {o0 o1 o2:Obj} (h:((w.alloc o0).alloc o1).alloc o2=W0):Hid (Below w.heap.size w W0)/\Hid (∀W,Below W0.heap.size W0 W->W.heap[w.heap.size]?=some o0/\W.heap[w.heap.size+1]?=some o1/\W.heap[w.heap.size+2]?=some o2):=by
 subst h;exact dd_boxes _ _ _
theorem zjg {s:St} {pl:ByteArray} {day:Int} (h:zaO s pl day=none):zk6 s.graves pl day= -1:=by rw[znY,h]
theorem ze0 {s:St} {pl:ByteArray} {day:Int} {i:Nat} (h:zaO s pl day=some i):zk6 s.graves pl day=i:=by rw[znY,h]
theorem gx_at {xs:List GX} {gs:List Grave} {i:Nat} {g:Grave} (hm:xs.map (·.g)=gs) (hg:gs[i]?=some g): ∃(hi:i<xs.length),xs[i].g=g:=by
 rw[<-hm,List.getElem?_map]at hg;obtain⟨x,hx,rfl⟩:=Option.map_eq_some_iff.1 hg;obtain⟨hi,rfl⟩:=List.getElem?_eq_some_iff.1 hx;exact⟨hi,rfl⟩
theorem zph (laws:List Law) (s:St) (wd rd:List Deed) (LA CA MA DA WA RA GA:Option Addr) (c0 c1 c2 c3 c4 c5 c6:Nat) (d:Deed) (B:Option Addr) (c:Nat) (w:World) (h:StIn w laws s wd rd LA CA MA DA WA RA GA c0 c1 c2 c3 c4 c5 c6) (hk:StLink s wd rd) (hf:StFew s wd rd) (hd:OkD d) (hS:Sl w 3 RPart.cells B d.to) (bL: ∀g∈s.graves,g.fin<=200000):Calls Tryz.prog 183 #[.agg #[.slice LA laws.length c0, .slice CA s.children.length c1, .slice MA s.marriages.length c2, .slice DA s.dead.length c3, .slice WA wd.length c4, .slice RA rd.length c5, .slice GA s.graves.length c6],d.v B c] w (zeX w laws (zcY s d)):=by
 obtain⟨R,hR⟩: ∃R,R=zcY s d:=⟨_,rfl⟩
 rw[<-hR];obtain⟨gxs,hm,bJ,bw⟩:=gx_of h.graves;have HM:=zHi hm;have dI:=zHi bJ;have cf:=zHi bw;have qs:=zHi bL;clear hm bJ bw bL;have H:=zHi (fun W (hB:Below w.heap.size w W)=>h.keep hB);have HK:=zHi hk;have HF:=zHi hf;have HD:=zHi hd;have HS:=zHi (fun W (hB:Below w.heap.size w W)=>hS.keep hB);have HR:=zHi hR;unfold Deed.v;clear h hk hf hd hS hR;go_enter Tryz.func183,Tryz.ntmps183
 go_upto_region 1 with fail
 generalize ao:World.alloc (World.alloc (World.alloc w _) _) _=W0;obtain⟨ak,ax⟩:=zeP ao;clear ao;have aw:=ak.o.size;obtain⟨⟨xs0,xd0,xr0⟩,⟨s0,s1,s2,s3,s4,s5,s6⟩,⟨d0,d1,d2,d3,d4,d5,d6⟩,⟨r0,r1,r2,r3,r4,r5,r6⟩,rf,ls,ld,lr⟩:=ddF (ax.o W0 (Below.refl _ _));have eC:=zHi (fun W (hB:Below W0.heap.size W0 W)=>zmo d.place d.day W (H.o W (ak.o.trans (hB.mono aw))) HF.o);have hr:=HR.o;unfold zcY at hr;cases aN:zaO s d.place d.day with
 |none=>
  exact Mcj
 |some i=>
  rw[aN]at hr;rw[ze0 aN]at eC;obtain⟨g,cj,cy,zX⟩:=zjS aN;simp only[cy]at hr;obtain⟨hi,oS⟩:=gx_at HM.o cj;have f9:i<s.graves.length:=MdU;have jM:=dI.o _ (List.getElem_mem hi);have qP:=zHi (fun(y:GX) W (hB:Below W0.heap.size W0 W)=>zjf laws s wd rd LA CA MA DA WA RA GA c0 c1 c2 c3 c4 c5 c6 gxs i y W HM.o (cf.o.keep (ak.o.trans (hB.mono aw))) HF.o f9);have km:=zHi (znz laws s wd rd LA CA MA DA WA RA GA c0 c1 c2 c3 c4 c5 c6 gxs i HM.o dI.o);have aD:=zHi (fun W (hB:Below W0.heap.size W0 W)=>H.o W (ak.o.trans (hB.mono aw)));go_upto_region 2 with(go_at_call 23;go_must(refine(eC.o _ (Below.refl _ _)).mono ?_);rintro e wq ⟨rfl,z1,rfl⟩)
  obtain⟨W1,aM⟩: ∃W1,W1=W0.ext z1:=⟨_,rfl⟩
  have aS:Below W0.heap.size W0 W1:=Mdb;rw[<-aM];clear aM;clear xs0 xd0 xr0 s0 s1 s2 s3 s4 s5 s6 d0 d1 d2 d3 d4 d5 d6 r0 r1 r2 r3 r4 r5 r6 rf ls ld lr;obtain⟨⟨xs0,xd0,xr0⟩,⟨s0,s1,s2,s3,s4,s5,s6⟩,⟨d0,d1,d2,d3,d4,d5,d6⟩,⟨r0,r1,r2,r3,r4,r5,r6⟩,rf,ls,ld,lr⟩:=ddF (ax.o W1 (aS));have wk:=aS.size;have eX:=ak.o.trans (aS.mono aw);obtain⟨gb,gof,lY,dM,ah⟩:=(cf.o.keep eX).at hi;generalize gxs[i]=x at*;subst oS;subst lY;have i0:=ah 0 _ rfl;have i1:=ah 1 _ rfl;have i2:=ah 2 _ rfl;have i3:=ah 3 _ rfl;have i4:=ah 4 _ rfl;simp only[Nat.add_zero]at i0;have x8:(i:Int)<(s.graves.length:Int):=Mcn;have fB:(0:Int)<=(i:Int):=Mcn;have aO: ¬(i:Int)<0:=Mcn;clear ah;go_upto_region 5 with fail
  obtain⟨W2,cF⟩: ∃W2,W2=W1.alloc (.cells #[.string x.g.place, .int .i64 x.g.cls, .int .i64 x.g.fin, .slice x.H x.g.holders.length x.hc, .slice x.D x.g.died.length x.dc] 49):=⟨_,rfl⟩
  have gG:W2.heap[W1.heap.size]?=some (.cells #[.string x.g.place, .int .i64 x.g.cls, .int .i64 x.g.fin, .slice x.H x.g.holders.length x.hc, .slice x.D x.g.died.length x.dc] 49):=Mep;have aB:Hid (Below W0.heap.size W0 W2):=MdB;have jk:W1.heap.size<W2.heap.size:=zab gG;have ui:=zHi eX;obtain⟨GB,jl⟩: ∃GB,GB=W1.heap.size:=⟨_,rfl⟩
  rw[<-cF,<-jl];rw[<-jl]at gG jk;have iQ:W0.heap.size<=GB:=Mcn;clear cF jl aS eX i0 i1 i2 i3 i4;clear xs0 xd0 xr0 s0 s1 s2 s3 s4 s5 s6 d0 d1 d2 d3 d4 d5 d6 r0 r1 r2 r3 r4 r5 r6 rf ls ld lr;obtain⟨g0,g1,g2,g3,g4⟩:=zef gG;by_cases pC:x.g.fin<0
  ·have HE:Hid (R=(s,15)):=by show _=_;rw[hr,if_pos (by simpa using pC)]
   clear hr;go_upto_region 6 with fail
   obtain⟨⟨xs0,xd0,xr0⟩,⟨s0,s1,s2,s3,s4,s5,s6⟩,⟨d0,d1,d2,d3,d4,d5,d6⟩,⟨r0,r1,r2,r3,r4,r5,r6⟩,rf,ls,ld,lr⟩:=ddF (ax.o W2 (aB.o));have bf:=aB.o;exact Mg
  ·rw[if_neg (by simpa using pC)]at hr;have dL:=qs.o x.g (List.mem_of_getElem? cj);have Au:=zHi (fun W=>zjZ x.g.fin d.years W Mcn dL HD.o.years.1 HD.o.years.2);have g2f:=frz gG;obtain⟨⟨xs0,xd0,xr0⟩,⟨s0,s1,s2,s3,s4,s5,s6⟩,⟨d0,d1,d2,d3,d4,d5,d6⟩,⟨r0,r1,r2,r3,r4,r5,r6⟩,rf,ls,ld,lr⟩:=ddF (ax.o W2 (aB.o));have GG:=zHi gG;generalize zcg x.g.fin d.years=af at*;go_upto_region 8 with(go_at_call 234;go_must(refine(Au.o _).mono ?_);rintro e wq ⟨rfl,z2,rfl⟩)
   clear xs0 xd0 xr0 s0 s1 s2 s3 s4 s5 s6 d0 d1 d2 d3 d4 d5 d6 r0 r1 r2 r3 r4 r5 r6 rf ls ld lr;obtain⟨W3,aX⟩: ∃W3,W3=(W2.setCell ⟨GB,2,none⟩ (.int .i64 af)).ext z2:=⟨_,rfl⟩
   have gG3:W3.heap[GB]?=some (.cells #[.string x.g.place, .int .i64 x.g.cls, .int .i64 af, .slice x.H x.g.holders.length x.hc, .slice x.D x.g.died.length x.dc] 49):=by
    rw[aX];exact Mbq
   have eT:Below W0.heap.size W0 W3:=by rw[aX];exact zb6 (zaM aB.o iQ _) z2
   rw[<-aX];clear aX g0 g1 g2 g3 g4 g2f;obtain⟨g0,g1,g2,g3,g4⟩:=zef gG3;have qT:=eT.size;have cz:=zab gG3;obtain⟨⟨xs0,xd0,xr0⟩,⟨s0,s1,s2,s3,s4,s5,s6⟩,⟨d0,d1,d2,d3,d4,d5,d6⟩,⟨r0,r1,r2,r3,r4,r5,r6⟩,rf,ls,ld,lr⟩:=ddF (ax.o W3 (eT));by_cases ou:af<0
   ·have HE:Hid (R=(s,2)):=by show _=_;rw[hr,if_pos (by simpa using ou)]
    clear hr;go_upto_region 9 with fail
    have bf:=eT;exact Mg
   ·have HE:Hid (R=(s.withGrave i {x.g with fin:=af},0)):=by show _=_;rw[hr,if_neg (by simpa using ou)]
    have lS:=zHi (qP.o {x with g:= {x.g with fin:=af}} W3 eT);unfold GX.cells zgO at lS;dsimp only at lS;have aH:=zHi eT;clear hr aN;go_upto_region 10 with fail
    go_wp2_with (go_at_call 235
                 go_must(refine(lS.o).mono ?_)
                 rintro e w5 ⟨ga,go,gc,rfl,bh,aq⟩;have aI:=aH.o.trans (aq.mono qT);obtain⟨_,_,xr5⟩:=ax.o w5 aI;obtain⟨t0,t1,t2,t3,t4,t5,t6⟩:=zaG xr5;have tf:=frz xr5;have bW:=zHi bh;have bV:=zHi aI
                 clear bh aq aI)
    rw[HE.o];refine bodyPost_ret (zbB rfl _ rfl rfl (zc0 xr5)) rfl ?_;have dh:=zc9 (a0:= .slice LA laws.length c0) (a1:= .slice CA s.children.length c1) (a2:= .slice MA s.marriages.length c2) (a3:= .slice DA s.dead.length c3) (a4:= .slice WA wd.length c4) (a5:= .slice RA rd.length c5) (a6:= .slice (some ⟨ga,go,none⟩) s.graves.length gc) (ak.o.trans (bV.o.mono aw)) (show w.heap.size<=w.heap.size+2 by omega);exact⟨_,_,_,_,_,_,_,rfl,rfl,dh,fun _=>km.o {x with g:= {x.g with fin:=af}} _ ga go gc (H.o w (Below.refl _ _)) HK.o dh (bW.o.ne7 (zmq bW.o xr5 Mcp)) (jM.keep dh)⟩
theorem zpi (w:World) (g:Nat) (a b:Value):w.grownBy ((w.setCell ⟨g,0,none⟩ a).setCell ⟨g,1,none⟩ b) (some g):=zbl (zaz w g 0 a) (zaz _ g 1 b)
theorem zjh {α:Type} {W:World} {e t:TypeId} {f:α->List Value} {A:Option Addr} {xs:List α} {b:Nat} {cs:Array Value} {fr:Nat×Nat} {a0 a1 a2 a3 a4 a5 a6:Value} (h:Ro W e f A xs) (hb:W.heap[b]?=some (.cells cs t fr)) (ai:t≠e):
 Ro (((((((W.setCell ⟨b,0,none⟩ a0).setCell ⟨b,1,none⟩ a1).setCell ⟨b,2,none⟩ a2).setCell ⟨b,3,none⟩ a3).setCell ⟨b,4,none⟩ a4).setCell ⟨b,5,none⟩ a5).setCell ⟨b,6,none⟩ a6) e f A xs:=
 h.same fun k cur fr' hk _=>by
  have mE:k≠b:=fun he=>by
   rw[he,hb]at hk;simp only[Option.some.injEq,Obj.cells.injEq]at hk;exact ai hk.2.1
  rw[hk];exact J_ne mE (J_ne mE (J_ne mE (J_ne mE (J_ne mE (J_ne mE (J_ne mE hk))))))
def surM (l:Parts) (frm:ByteArray) (q:Rat):Parts:=(za0 l frm).map fun p=>(p.1,p.2/q)
theorem surM_snoc {l:Parts} {n:ByteArray} {q:Rat} {k:Nat} (h:k<l.length):surM (l.take (k+1)) n q=surM (l.take k) n q++(if zaf l[k].1 n then[]else[(l[k].1,l[k].2/q)]):=by
 unfold surM;rw[zhz h,List.map_append];cases zaf l[k].1 n<;>rfl
theorem zoi (l:Parts) (n:ByteArray) (q:Rat):(surM l n q).length<=l.length:=by
 unfold surM;rw[List.length_map];exact List.length_filter_le _ _
theorem zjt (laws:List Law) (s:St) (wd rd:List Deed) (LA CA MA DA WA RA GA:Option Addr) (c0 c1 c2 c3 c4 c5 c6:Nat) (d:Deed) (B:Option Addr) (c:Nat) (w:World) (h:StIn w laws s wd rd LA CA MA DA WA RA GA c0 c1 c2 c3 c4 c5 c6) (hk:StLink s wd rd) (hf:StFew s wd rd) (hd:OkD d) (hS:Sl w 3 RPart.cells B d.to) (ba: ∀g∈s.graves,GoodG g/\g.holders.length<=50000):Calls Tryz.prog 182 #[.agg #[.slice LA laws.length c0, .slice CA s.children.length c1, .slice MA s.marriages.length c2, .slice DA s.dead.length c3, .slice WA wd.length c4, .slice RA rd.length c5, .slice GA s.graves.length c6],d.v B c] w (zeX w laws (zaZ s d)):=by
 obtain⟨R,hR⟩: ∃R,R=zaZ s d:=⟨_,rfl⟩
 rw[<-hR];obtain⟨gxs,hm,bJ,bw⟩:=gx_of h.graves;have HM:=zHi hm;have dI:=zHi bJ;have cf:=zHi bw;have ei:=zHi ba;clear hm bJ bw ba;have H:=zHi (fun W (hB:Below w.heap.size w W)=>h.keep hB);have HK:=zHi hk;have HF:=zHi hf;have HD:=zHi hd;have HS:=zHi (fun W (hB:Below w.heap.size w W)=>hS.keep hB);have HR:=zHi hR;unfold Deed.v;clear h hk hf hd hS hR;go_enter Tryz.func182,Tryz.ntmps182
 go_upto_region 1 with fail
 generalize ao:World.alloc (World.alloc (World.alloc w _) _) _=W0;obtain⟨ak,ax⟩:=zeP ao;clear ao;have aw:=ak.o.size;obtain⟨⟨xs0,xd0,xr0⟩,⟨s0,s1,s2,s3,s4,s5,s6⟩,⟨d0,d1,d2,d3,d4,d5,d6⟩,⟨r0,r1,r2,r3,r4,r5,r6⟩,rf,ls,ld,lr⟩:=ddF (ax.o W0 (Below.refl _ _));have eC:=zHi (fun W (hB:Below W0.heap.size W0 W)=>zmo d.place d.day W (H.o W (ak.o.trans (hB.mono aw))) HF.o);have hr:=HR.o;unfold zaZ at hr;cases aN:zaO s d.place d.day with
 |none=>
  exact Mcj
 |some i=>
  rw[aN]at hr;rw[ze0 aN]at eC;obtain⟨g,cj,cy,zX⟩:=zjS aN;simp only[cy]at hr;obtain⟨hi,oS⟩:=gx_at HM.o cj;have f9:i<s.graves.length:=MdU;have jM:=dI.o _ (List.getElem_mem hi);have qP:=zHi (fun(y:GX) W (hB:Below W0.heap.size W0 W)=>zjf laws s wd rd LA CA MA DA WA RA GA c0 c1 c2 c3 c4 c5 c6 gxs i y W HM.o (cf.o.keep (ak.o.trans (hB.mono aw))) HF.o f9);have km:=zHi (znz laws s wd rd LA CA MA DA WA RA GA c0 c1 c2 c3 c4 c5 c6 gxs i HM.o dI.o);have aD:=zHi (fun W (hB:Below W0.heap.size W0 W)=>H.o W (ak.o.trans (hB.mono aw)));go_upto_region 2 with(go_at_call 23;go_must(refine(eC.o _ (Below.refl _ _)).mono ?_);rintro e wq ⟨rfl,z1,rfl⟩)
  obtain⟨W1,aM⟩: ∃W1,W1=W0.ext z1:=⟨_,rfl⟩
  have aS:Below W0.heap.size W0 W1:=Mdb;rw[<-aM];clear aM;clear xs0 xd0 xr0 s0 s1 s2 s3 s4 s5 s6 d0 d1 d2 d3 d4 d5 d6 r0 r1 r2 r3 r4 r5 r6 rf ls ld lr;obtain⟨⟨xs0,xd0,xr0⟩,⟨s0,s1,s2,s3,s4,s5,s6⟩,⟨d0,d1,d2,d3,d4,d5,d6⟩,⟨r0,r1,r2,r3,r4,r5,r6⟩,rf,ls,ld,lr⟩:=ddF (ax.o W1 (aS));have wk:=aS.size;have eX:=ak.o.trans (aS.mono aw);obtain⟨gb,gof,lY,dM,ah⟩:=(cf.o.keep eX).at hi;generalize gxs[i]=x at*;subst oS;subst lY;have i0:=ah 0 _ rfl;have i1:=ah 1 _ rfl;have i2:=ah 2 _ rfl;have i3:=ah 3 _ rfl;have i4:=ah 4 _ rfl;simp only[Nat.add_zero]at i0;have x8:(i:Int)<(s.graves.length:Int):=Mcn;have fB:(0:Int)<=(i:Int):=Mcn;have aO: ¬(i:Int)<0:=Mcn;clear ah;go_upto_region 5 with fail
  obtain⟨W2,cF⟩: ∃W2,W2=W1.alloc (.cells #[.string x.g.place, .int .i64 x.g.cls, .int .i64 x.g.fin, .slice x.H x.g.holders.length x.hc, .slice x.D x.g.died.length x.dc] 49):=⟨_,rfl⟩
  have gG:W2.heap[W1.heap.size]?=some (.cells #[.string x.g.place, .int .i64 x.g.cls, .int .i64 x.g.fin, .slice x.H x.g.holders.length x.hc, .slice x.D x.g.died.length x.dc] 49):=Mep;have aB:Hid (Below W0.heap.size W0 W2):=MdB;have jk:W1.heap.size<W2.heap.size:=zab gG;have ui:=zHi eX;obtain⟨GB,jl⟩: ∃GB,GB=W1.heap.size:=⟨_,rfl⟩
  rw[<-cF,<-jl];rw[<-jl]at gG jk;have iQ:W0.heap.size<=GB:=Mcn;clear cF jl aS eX i0 i1 i2 i3 i4;clear xs0 xd0 xr0 s0 s1 s2 s3 s4 s5 s6 d0 d1 d2 d3 d4 d5 d6 r0 r1 r2 r3 r4 r5 r6 rf ls ld lr;obtain⟨dj,cz⟩:=ei.o x.g zX;have oT:=jM.keep (ak.o.trans (aB.o.mono aw));have ni:=zHi (fun W (hB:Below W2.heap.size W2 W)=>zfp x.g.holders d.frm x.H x.hc W Mcn (oT.1.keep hB));have dw:=fun h=>zl3 (frm:=d.frm) dj h
  change R=(if(zag x.g.holders d.frm==0)=true then(s,19)else if zaF (surM x.g.holders d.frm (1-zag x.g.holders d.frm))=true then(s,8)else(s.withGrave i {x.g with holders:=surM x.g.holders d.frm (1-zag x.g.holders d.frm)},0))at hr;generalize zag x.g.holders d.frm=sh at*;unfold zaB at ni;obtain⟨g0,g1,g2,g3,g4⟩:=zef gG;have rF:=aB.o.size;have GG:=zHi gG;obtain⟨⟨xs0,xd0,xr0⟩,⟨s0,s1,s2,s3,s4,s5,s6⟩,⟨d0,d1,d2,d3,d4,d5,d6⟩,⟨r0,r1,r2,r3,r4,r5,r6⟩,rf,ls,ld,lr⟩:=ddF (ax.o W2 (aB.o));go_upto_region 6 with(go_at_call 38;go_must(refine(ni.o _ (Below.refl _ _)).mono ?_);rintro e wq ⟨rfl,z2,rfl⟩)
  obtain⟨SB,jn⟩: ∃SB,SB=W2.heap.size+z2.os.size:=⟨_,rfl⟩
  obtain⟨W3,aX⟩: ∃W3,W3=(W2.ext z2).alloc (.cells #[.int .i64 (sh).num, .int .i64 (sh).den] 71):=⟨_,rfl⟩
  have gS:W3.heap[SB]?=some (.cells #[.int .i64 (sh).num, .int .i64 (sh).den] 71):=by rw[aX];exact zar _ _ _ (by rw[jn];simp[zae])
  have ay:Below W2.heap.size W2 W3:=by rw[aX];exact zad (zaq W2 z2) _
  rw[<-aX,<-jn];clear aX jn g0 g1 g2 g3 g4 gG;clear xs0 xd0 xr0 s0 s1 s2 s3 s4 s5 s6 d0 d1 d2 d3 d4 d5 d6 r0 r1 r2 r3 r4 r5 r6 rf ls ld lr;have jq:=ay.size;have aH:=zHi (aB.o.trans (ay.mono rF));have G3:=zHi ((ay.block GB jk).trans GG.o);have GS:=zHi gS;obtain⟨q0,q1⟩:=zbu gS;have rp:=zab gS;obtain⟨⟨xs0,xd0,xr0⟩,⟨s0,s1,s2,s3,s4,s5,s6⟩,⟨d0,d1,d2,d3,d4,d5,d6⟩,⟨r0,r1,r2,r3,r4,r5,r6⟩,rf,ls,ld,lr⟩:=ddF (ax.o W3 (aH.o));by_cases hz:sh=0
  ·have mV:(sh.num==0)=true:=by rw[hz];rfl
   have HE:Hid (R=(s,19)):=by show _=_;rw[hr,if_pos Mdu]
   clear hr;go_upto_region 7 with fail
   have bf:=aH.o;exact Mg
  ·have mV:(sh.num==0)=false:=by
    exact Mbc
   rw[if_neg Mdu]at hr;obtain⟨m1,m2,m3,m4⟩:=dw hz;have eP:=zHi (fun W=>zhQ 1 sh W ⟨by decide,by decide⟩ m1);have pe:=zHi m4;have Ep:=zHi m2;unfold zaB at eP;rw[show(1:Rat).num=1 from rfl,show((1:Rat).den:Int)=1 from rfl]at eP;clear hz m1 m2 m3 m4 dw;go_upto_region 9 with fail
   refine zdD 3 _ _ (.cells #[.int .i64 0, .int .i64 0] 71) (.cells #[.int .i64 (1-sh).num, .int .i64 (1-sh).den] 71) Mco Mco rfl rfl ?hrun ?_
   case hrun=>intro a W;kernel_rfl
   simp only[List.take_succ_cons,List.take_zero];repeat(refine zeD (fun K hK=> ?_);simp only[grow];go_simp;first|(refine hK _ ?_;clear hK K)|(apply Exists.intro;refine⟨fun _=> ?_,hK _ ?_⟩;((first|(go_at_call 85;exact quietg (zhS _))|(go_at_call 39;exact quietg (eP.o _))));clear hK K))
   refine zfC ⟨?hstore,?hlast⟩
   case hstore=>
    exact MF
   case hlast=>
    rintro LB W4 ⟨z4,ip⟩ tu gL;obtain⟨lf,kY⟩: ∃lf,lf=1-sh:=⟨_,rfl⟩
    rw[<-kY]at hr pe Ep gL;have aC:Below W3.heap.size W3 W4:=by rw[ip];exact zaq _ _
    have EO:=aC.size;have eB:=zHi (aH.o.trans (aC.mono Mcn));have G4:=zHi ((aC.block GB Mcn).trans G3.o);have GL:=zHi gL;have fg:=zab gL;have Dd:GB<W4.heap.size:=Mcn;have IL:=zHi ((jM.keep (ak.o.trans (eB.o.mono aw))));clear ip kY gL aC gS q0 q1 rp eP mV;clear xs0 xd0 xr0 s0 s1 s2 s3 s4 s5 s6 d0 d1 d2 d3 d4 d5 d6 r0 r1 r2 r3 r4 r5 r6 rf ls ld lr;go_upto_region 11 with fail
    go_loopw [9,11] (fun v i wr=> ∃k:Nat,k<=x.g.holders.length/\i= .int .i64 k/\OwnS wr W4.heap.size 75 3 zaa v (surM (x.g.holders.take k) d.frm lf)/\Below W4.heap.size W4 wr) (fun _ i _=>x.g.holders.length-(intOf i).toNat)
    case atStart=>exact⟨0,Nat.zero_le _,rfl,OwnS.nil,Below.refl _ _⟩
    case round=>
     obtain⟨k,hk,rfl,ae,hB⟩:=hrel;have aE:=hB.size;have HO:=zHi ae;have HB:=zHi hB;have iw:=(hB.block GB Dd).trans G4.o;have CZ:=(hB.block LB fg).trans GL.o;obtain⟨g0,g1,g2,g3,g4⟩:=zef iw;obtain⟨l0,l1⟩:=zbu CZ;have De:=zab iw;have xm:=zab CZ;have cw:=eB.o.trans (hB.mono Mcn);obtain⟨⟨xs0,xd0,xr0⟩,⟨s0,s1,s2,s3,s4,s5,s6⟩,⟨d0,d1,d2,d3,d4,d5,d6⟩,⟨r0,r1,r2,r3,r4,r5,r6⟩,rf,ls,ld,lr⟩:=ddF (ax.o wr (cw));have aW:=zHi cw;by_cases aa:k<x.g.holders.length
     ·obtain⟨b,off,hA,hb,ah⟩:=(IL.o.1.keep hB).at aa;have aj:=surM_snoc (n:=d.frm) (q:=lf) aa;have bv:=Nat.le_trans (zoi (x.g.holders.take k) d.frm lf) (by rw[List.length_take];omega:(x.g.holders.take k).length<=k);have gJ:=pe.o _ (List.getElem_mem aa);generalize surM (x.g.holders.take k) d.frm lf=xs at*;obtain⟨VA,vc,rfl,_,ka⟩:=ae.sl zao;have am:=zHi aa;generalize x.g.holders[k]=p at*;obtain⟨nm,q⟩:=p;rw[hA]at g3;have i0:wr.cell? ⟨b,off+k*3,none⟩=some (.string nm):=ah 0 _ rfl;have i1:wr.cell? ⟨b,off+k*3+1,none⟩=some (.int .i64 q.num):=ah 1 _ rfl;have i2:wr.cell? ⟨b,off+k*3+2,none⟩=some (.int .i64 q.den):=ah 2 _ rfl;have ar:(k:Int)<(x.g.holders.length:Int):=Mcn;have aT:(0:Int)<=(k:Int):=Mcn;have fP:Hid (xs.length<=100000):=by show _<=_;omega
      simp only at gJ aj;have aG:=zHi (fun(W:World) (h:Below wr.heap.size wr W)=>(show W.cell? ⟨GB,3,none⟩=some (.slice (some ⟨b,off,none⟩) x.g.holders.length x.hc)/\W.cell? ⟨b,off+k*3,none⟩=some (.string nm)/\W.cell? ⟨b,off+k*3+1,none⟩=some (.int .i64 q.num)/\W.cell? ⟨b,off+k*3+2,none⟩=some (.int .i64 q.den)/\W.cell? ⟨LB,0,none⟩=some (.int .i64 lf.num)/\W.cell? ⟨LB,1,none⟩=some (.int .i64 lf.den) from⟨(zah h De).trans g3,(zah h hb).trans i0,(zah h hb).trans i1,(zah h hb).trans i2,(zah h xm).trans l0,(zah h xm).trans l1⟩));go_upto_region 13 with fail
      cases hs:zaf nm d.frm
      ·have bp:(nm.toList==d.frm.toList)=false:=hs;have aD:Hid (surM (x.g.holders.take (k+1)) d.frm lf=xs++[(nm,q/lf)]):=by show _=_;rw[aj,hs];rfl
       obtain⟨jZ,xM⟩:=gJ hs;have Er:=zHi (fun W=>rQuo_any q lf W xM Ep.o jZ);unfold zaB at Er;clear ah aa ae aj hs gJ jZ xM
       (refine zan Mco Mco ?_
        repeat(first|go_big_quiet_skip|(go_big_quiet_want;go_big_quiet_op;first|go_big_quiet_on|(apply Exists.intro;refine⟨fun _=> ?_,?_⟩;(fail);go_big_quiet_on)))
        refine wpQuiet_nil ?_
        rintro _ ⟨zq,rfl⟩)
       obtain⟨WQ,om⟩: ∃WQ,WQ=wr.ext zq:=⟨_,rfl⟩
       have me:Below wr.heap.size wr WQ:=Mes;rw[<-om];clear om g0 g1 g2 g3 g4 l0 l1 i0 i1 i2;clear xs0 xd0 xr0 s0 s1 s2 s3 s4 s5 s6 d0 d1 d2 d3 d4 d5 d6 r0 r1 r2 r3 r4 r5 r6 rf ls ld lr;have JJ:=me.size;go_upto_region 14 with fail
       refine zaC 17 (fun bb w'=>bb=true\/(w'.cell? ⟨GB,3,none⟩=some (.slice (some ⟨b,off,none⟩) x.g.holders.length x.hc)/\w'.cell? ⟨b,off+k*3,none⟩=some (.string nm)/\w'.cell? ⟨b,off+k*3+1,none⟩=some (.int .i64 q.num)/\w'.cell? ⟨b,off+k*3+2,none⟩=some (.int .i64 q.den)/\w'.cell? ⟨LB,0,none⟩=some (.int .i64 lf.num)/\w'.cell? ⟨LB,1,none⟩=some (.int .i64 lf.den))) Mco (.inr (aG.o _ (zaH me))) ?hrest
       case hrest=>
        intro hHeld;refine TkM 0 ?_;refine TkM 1 ?_;refine TkM 2 ?_;refine TkM 3 ?_;refine TkM 4 ?_;refine TkM 5 ?_;refine TkM 6 ?_;refine TkM 7 ?_;refine TkM 8 ?_;refine TkM 9 ?_;refine TkM 10 ?_;refine TkM 11 ?_;refine TkM 12 ?_;refine TkM 13 ?_;refine OnM 14 false fun K hK=> ?_
        go_simp
        refine(Er.o _).mono ?_;rintro e w5 ⟨rfl,z,rfl⟩;have aq:Below wr.heap.size wr (WQ.drew.ext z):=zb6 (zaH me) z;refine NxM hK (fun hHeld=> ?_) (.inr (aG.o _ aq));clear hK K;refine TkM 15 ?_;refine OnM 16 false fun K hK=> ?_
        go_simp
        have aI:Below wr.heap.size wr ((WQ.drew.ext z).alloc (.cells #[.string nm, .int .i64 (q/lf).num, .int .i64 (q/lf).den] 75)):=zad aq _;refine NxM hK (fun hHeld=> ?_) (.inr (aG.o _ aI));clear hK K;refine OnM 17 true fun K hK=> ?_
        refine zak (v:= .slice VA xs.length vc) (n:=xs.length) (m:=1) rfl _ _ rfl zdU zao zce rfl (xs:=xs) (ys:=[(nm,q/lf)]) (HO.o.keep (n:=wr.heap.size) aI) rfl rfl rfl (zdd (zar _ _ _ MdG)) MdT Mc3 MdE ?_;intro v7 w7 h1 h2 h3;obtain⟨A7,c7,j8,_,_⟩:=h1.sl zao;rw[List.length_append]at j8;subst j8;have bj:Below W4.heap.size W4 w7:=Below.grown (HB.o.trans (aI.mono aE)) h2 MdE (fun j hj=>(HO.o.ge j hj).1);refine NxM hK fun hHeld=> ?_
        clear hK K;refine OnM 18 true fun K hK=> ?_
        go_simp
        refine NxM hK fun hHeld=> ?_
        clear hK K;refine zaN Mco ?_ _;clear hHeld;have H7:=zHi h1;have bT:=zHi bj;clear h1 h2 h3 bj;go_wp2_with fail
        go_round
        case rel=>exact⟨k+1,am.o,by go_num,by rw[aD.o];exact H7.o,bT.o⟩
        case measure=>have:=am.o;simp only[intOf];omega
      ·have bp:(nm.toList==d.frm.toList)=true:=hs;have aD:Hid (surM (x.g.holders.take (k+1)) d.frm lf=xs):=by show _=_;rw[aj,hs];simp
       clear ah aa ae aj hs gJ
       (refine zan Mco Mco ?_
        repeat(first|go_big_quiet_skip|(go_big_quiet_want;go_big_quiet_op;first|go_big_quiet_on|(apply Exists.intro;refine⟨fun _=> ?_,?_⟩;(fail);go_big_quiet_on)))
        refine wpQuiet_nil ?_
        rintro _ ⟨zq,rfl⟩)
       go_wp2_with fail
       go_round
       case rel=>exact⟨k+1,am.o,by go_num,by rw[aD.o];exact HO.o.keep (n:=wr.heap.size) (zaq _ _),zb6 HB.o zq⟩
       case measure=>have:=am.o;simp only[intOf];omega
     ·have ar: ¬(k:Int)<(x.g.holders.length:Int):=Mcn;rw[List.take_of_length_le Mcn]at HO ae;have iW:=zoi x.g.holders d.frm lf;generalize surM x.g.holders d.frm lf=out at*;obtain⟨VA,vc,rfl,jo,_⟩:=ae.sl zao;have cL:=zHi (fun W (h:Below wr.heap.size wr W)=>zdI out VA vc W Mcn (jo.keep h));have g3f:=frz iw;have lF:=zHi iw;clear ae jo aa hB CZ;cases hlg:zaF out
      ·rw[hlg]at cL hr;have HE:Hid (R=(s.withGrave i {x.g with holders:=out},0)):=by show _=_;rw[hr];rfl
       clear hr hlg aN;go_upto_region 18 with(go_at_call 90;go_must(refine(cL.o _ Bw).mono ?_);rintro e wq ⟨rfl,rfl⟩)
       obtain⟨W6,dF⟩: ∃W6,W6=wr.setCell ⟨GB,3,none⟩ (.slice VA out.length vc):=⟨_,rfl⟩
       have gG6:W6.heap[GB]?=some (.cells #[.string x.g.place, .int .i64 x.g.cls, .int .i64 x.g.fin, .slice VA out.length vc, .slice x.D x.g.died.length x.dc] 49):=by
        rw[dF];have:=Joins.block_setCell (i:=3) lF.o (.slice VA out.length vc);simpa using this
       have lW:Below W0.heap.size W0 W6:=by rw[dF];exact zaM aW.o iQ _
       have pO:OwnS W6 W4.heap.size 75 3 zaa (.slice VA out.length vc) out:=by rw[dF];exact HO.o.kept (zaz _ _ _ _) lF.o Mcp
       rw[<-dF];clear dF g0 g1 g2 g3 g4 g3f l0 l1 iw;clear xs0 xd0 xr0 s0 s1 s2 s3 s4 s5 s6 d0 d1 d2 d3 d4 d5 d6 r0 r1 r2 r3 r4 r5 r6 rf ls ld lr;obtain⟨g0,g1,g2,g3,g4⟩:=zef gG6;have bG:=zab gG6;have lU:=lW.size;obtain⟨⟨xs0,xd0,xr0⟩,⟨s0,s1,s2,s3,s4,s5,s6⟩,⟨d0,d1,d2,d3,d4,d5,d6⟩,⟨r0,r1,r2,r3,r4,r5,r6⟩,rf,ls,ld,lr⟩:=ddF (ax.o W6 (lW));have lS:=zHi (qP.o ({g:= {x.g with holders:=out},H:=VA,hc:=vc,D:=x.D,dc:=x.dc}:GX) W6 lW);unfold GX.cells zgO at lS;dsimp only at lS;have bV:=zHi lW;have lJ:=zHi pO;clear lW pO gG6
       go_wp2_with (go_at_call 235
                    go_must(refine(lS.o).mono ?_)
                    rintro e w5 ⟨ga,go,gc,rfl,bh,aq⟩;have bj:=bV.o.trans (aq.mono lU);obtain⟨_,_,xr5⟩:=ax.o w5 bj;obtain⟨t0,t1,t2,t3,t4,t5,t6⟩:=zaG xr5;have tf:=frz xr5;have bW:=zHi bh;have bT:=zHi bj;have lm:=zHi aq
                    clear bh aq bj)
       rw[HE.o];refine bodyPost_ret (zbB rfl _ rfl rfl (zc0 xr5)) rfl ?_;have dh:=zc9 (a0:= .slice LA laws.length c0) (a1:= .slice CA s.children.length c1) (a2:= .slice MA s.marriages.length c2) (a3:= .slice DA s.dead.length c3) (a4:= .slice WA wd.length c4) (a5:= .slice RA rd.length c5) (a6:= .slice (some ⟨ga,go,none⟩) s.graves.length gc) (ak.o.trans (bT.o.mono aw)) (show w.heap.size<=w.heap.size+2 by omega);obtain⟨A',c',mu,_,eb⟩:=lJ.o.ro;obtain⟨rfl,_,rfl⟩:VA=A'/\out.length=out.length/\vc=c':=by simpa using mu
       exact⟨_,_,_,_,_,_,_,rfl,rfl,dh,fun _=>km.o ({g:= {x.g with holders:=out},H:=VA,hc:=vc,D:=x.D,dc:=x.dc}:GX) _ ga go gc (H.o w (Below.refl _ _)) HK.o dh (bW.o.ne7 (zmq bW.o xr5 Mcp)) ⟨(zjh (eb.keep lm.o) xr5 Mcp).sl zao,(jM.keep dh).2⟩⟩
      ·rw[hlg]at cL hr;have HE:Hid (R=(s,8)):=by show _=_;rw[hr];rfl
       clear hr hlg aN;go_upto_region 16 with(go_at_call 90;go_must(refine(cL.o _ Bw).mono ?_);rintro e wq ⟨rfl,rfl⟩)
       have bf:=aW.o;exact Mg
end Go.Proofs.YtjhbofabmpfniaaGreatDoor
