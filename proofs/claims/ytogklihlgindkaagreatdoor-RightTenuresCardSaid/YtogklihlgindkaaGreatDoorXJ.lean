import Derived.Test.YtogklihlgindkaaGreatDoorXG
import Derived.Test.YtogklihlgindkaaGreatDoorR2
set_option linter.all false
set_option maxRecDepth 100000
set_option maxHeartbeats 4000000
namespace Go.Proofs.YtogklihlgindkaaGreatDoor
open Go.RowKit Go.Shelf
attribute [local go_sem] World.cell?_alloc_mark zaf za3 zam za6 zat zau zav zaw zax zay zaz
attribute [local go_sem] zao zac
variable{W:World}{e t:TypeId}{b:Nat}{cs:Array Value}{fr:Nat×Nat}
def zm3{g o size:Nat}{css:List (List Value)}(h:RowC W e g o size css)(hb:W.heap[b]?=some (.cells cs t fr))(ai:t≠e):g≠b:=λhe=>by
 obtain⟨cur,h1,_⟩:=h.row;rw[he,hb]at h1;simp only[Option.some.injEq,Obj.cells.injEq]at h1;exact ai h1.2.1
variable{w:World}
def znL(laws:List Law)(s:St)(wd rd:List Deed)(LA CA MA DA WA RA GA:Option Addr)(c0 c1 c2 c3 c4 c5 c6:Nat)(gxs:List GX)(i:Nat)(hm:gxs.map (·.g)=s.graves)(bE:∀x∈gxs,x.ok w)(y:GX)(W:World)(ga go c:Nat)(h:StIn w laws s wd rd LA CA MA DA WA RA GA c0 c1 c2 c3 c4 c5 c6)(hk:StLink s wd rd)(hB:Qa w W)(hr:RowC W 91 ga go 5 ((gxs.set i y).map GX.cells))(hy:y.ok W):
 StAt W laws (s.withGrave i y.g) (.slice LA laws.length c0) (.slice CA s.children.length c1) (.slice MA s.marriages.length c2) (.slice DA s.dead.length c3) (.slice WA wd.length c4) (.slice RA rd.length c5) (.slice (some ⟨ga,go,none⟩) s.graves.length c):=by
 have h':=h.keep hB;refine⟨wd,rd,LA,CA,MA,DA,WA,RA,some ⟨ga,go,none⟩,c0,c1,c2,c3,c4,c5,c,rfl,rfl,rfl,rfl,rfl,rfl,?_,⟨h'.laws,h'.kids,h'.marr,h'.dead,h'.wills,h'.ren,?_,h'.deadc⟩,⟨hk.wills,hk.shares,hk.ren,hk.tos⟩⟩
 ·unfold St.withGrave;rw[List.length_set]
 ·refine slw_gx (hr.sl rfl) (by unfold St.withGrave;rw[List.map_set,hm]) λx hx=>?_
  rcases List.mem_or_eq_of_mem_set hx with hx|rfl
  ·exact(bE x hx).keep hB
  ·exact hy
def ddF{a c:Nat}{x0 x1 x2 x3 x4 x5 x6 y0 y1 y2 y3 y4 y5 y6 z0 z1 z2 z3 z4 z5 z6:Value}{t' u:TypeId}{f f':Nat×Nat}(h:W.heap[a]?=some (.cells #[x0,x1,x2,x3,x4,x5,x6] t f)/\W.heap[b]?=some (.cells #[y0,y1,y2,y3,y4,y5,y6] t' f')/\W.heap[c]?=some (.cells #[z0,z1,z2,z3,z4,z5,z6] u (0,0))):
 (W.heap[a]?=some (.cells #[x0,x1,x2,x3,x4,x5,x6] t f)/\W.heap[b]?=some (.cells #[y0,y1,y2,y3,y4,y5,y6] t' f')/\W.heap[c]?=some (.cells #[z0,z1,z2,z3,z4,z5,z6] u (0,0)))/\(W.cell? ⟨a,0,none⟩=some x0/\W.cell? ⟨a,1,none⟩=some x1/\W.cell? ⟨a,2,none⟩=some x2/\W.cell? ⟨a,3,none⟩=some x3/\W.cell? ⟨a,4,none⟩=some x4/\W.cell? ⟨a,5,none⟩=some x5/\W.cell? ⟨a,6,none⟩=some x6)/\(W.cell? ⟨b,0,none⟩=some y0/\W.cell? ⟨b,1,none⟩=some y1/\W.cell? ⟨b,2,none⟩=some y2/\W.cell? ⟨b,3,none⟩=some y3/\W.cell? ⟨b,4,none⟩=some y4/\W.cell? ⟨b,5,none⟩=some y5/\W.cell? ⟨b,6,none⟩=some y6)/\(W.cell? ⟨c,0,none⟩=some z0/\W.cell? ⟨c,1,none⟩=some z1/\W.cell? ⟨c,2,none⟩=some z2/\W.cell? ⟨c,3,none⟩=some z3/\W.cell? ⟨c,4,none⟩=some z4/\W.cell? ⟨c,5,none⟩=some z5/\W.cell? ⟨c,6,none⟩=some z6)/\(∀j,W.frozen? ⟨c,j,none⟩=false)/\a<W.heap.size/\b<W.heap.size/\c<W.heap.size:=
 ⟨h,zaG h.1,zaG h.2.1,zaG h.2.2,frz h.2.2,zab h.1,zab h.2.1,zab h.2.2⟩
def dd_boxes(o0 o1 o2:Obj):Hid (Qa w (((w.alloc o0).alloc o1).alloc o2))/\Hid (∀W,Below (((w.alloc o0).alloc o1).alloc o2).heap.size (((w.alloc o0).alloc o1).alloc o2) W->W.heap[w.heap.size]?=some o0/\W.heap[w.heap.size+1]?=some o1/\W.heap[w.heap.size+2]?=some o2):=by
 refine⟨by show Below _ _ _;exact Bw,λW hB=>⟨?_,?_,?_⟩⟩
 ·exact(hB.block _ McX).trans (zal (zal (zas _ _ _ rfl)))
 ·exact(hB.block _ McV).trans (zal (zas _ _ _ McV))
 ·exact(hB.block _ McV).trans (zas _ _ _ McV)
def zeN{W0:World}{o0 o1 o2:Obj}(h:((w.alloc o0).alloc o1).alloc o2=W0):Hid (Qa w W0)/\Hid (∀W,Qa W0 W->W.heap[w.heap.size]?=some o0/\W.heap[w.heap.size+1]?=some o1/\W.heap[w.heap.size+2]?=some o2):=by
 subst h;exact dd_boxes _ _ _
variable{s:St}{pl:ByteArray}{day:Int}
def zgN(h:zaL s pl day=none):zkF s.graves pl day= -1:=by rw[zo1,h]
variable{i:Nat}
def zdW(h:zaL s pl day=some i):zkF s.graves pl day=i:=by rw[zo1,h]
def gx_at{xs:List GX}{gs:List Grave}{g:Grave}(hm:xs.map (·.g)=gs)(hg:gs[i]?=some g):∃(hi:i<xs.length),xs[i].g=g:=by
 rw[<-hm,List.getElem?_map]at hg;obtain⟨x,hx,rfl⟩:=Option.map_eq_some_iff.1 hg;obtain⟨hi,rfl⟩:=List.getElem?_eq_some_iff.1 hx;exact⟨hi,rfl⟩
def zpJ(laws:List Law)(s:St)(wd rd:List Deed)(LA CA MA DA WA RA GA:Option Addr)(c0 c1 c2 c3 c4 c5 c6:Nat)(d:Deed)(B:Option Addr)(c:Nat)(w:World)(h:StIn w laws s wd rd LA CA MA DA WA RA GA c0 c1 c2 c3 c4 c5 c6)(hk:StLink s wd rd)(hf:StFew s wd rd)(hd:OkD d)(hS:Sl w 3 RPart.cells B d.to)(bP:∀g∈s.graves,g.fin<=200000):Calls Tryz.prog 133 #[.agg #[.slice LA laws.length c0,.slice CA s.children.length c1,.slice MA s.marriages.length c2,.slice DA s.dead.length c3,.slice WA wd.length c4,.slice RA rd.length c5,.slice GA s.graves.length c6],d.v B c] w (zfM w laws (zdc s d)):=by
 obtain⟨R,hR⟩:=Qd (zdc s d)
 rw[<-hR];obtain⟨gxs,hm,bE,br⟩:=znK h.graves;obtain⟨HM,dt,bU,qY⟩:=yH4 hm bE br bP;clear hm bE br bP;obtain⟨H,HK,HF,HD,HS,HR⟩:=yH6 (λW (hB:Qa w W)=>h.keep hB) hk hf hd (λW (hB:Qa w W)=>hS.keep hB) hR;unfold Deed.v;clear h hk hf hd hS hR;go_enter Tryz.func133,Tryz.ntmps133
 go_upto_region 1 with fail
 generalize am:World.alloc (World.alloc (World.alloc w _) _) _=W0;obtain⟨ak,av⟩:=zeN am;clear am;have ay:=ak.o.size;obtain⟨⟨xs0,xd0,xr0⟩,⟨s0,s1,s2,s3,s4,s5,s6⟩,⟨d0,d1,d2,d3,d4,d5,d6⟩,⟨r0,r1,r2,r3,r4,r5,r6⟩,rf,ls,ld,lr⟩:=ddF (av.o W0 Qb);have eJ:=zHi (λW (hB:Qa W0 W)=>zki d.place d.day W (H.o W (ak.o.trans (hB.mono ay))) HF.o);have hr:=HR.o;unfold zdc at hr;cases aH:zaL s d.place d.day with
 |none=>
  exact McO
 |some i=>
  rw[aH]at hr;rw[zdW aH]at eJ;obtain⟨g,bX,cj,qh⟩:=zh7 aH;simp only[cj]at hr;obtain⟨hi,ko⟩:=gx_at HM.o bX;have eR:i<s.graves.length:=Mek;have iz:=dt.o _ (List.getElem_mem hi);have rJ:=zHi (λ(y:GX) W (hB:Qa W0 W)=>zjl laws s wd rd LA CA MA DA WA RA GA c0 c1 c2 c3 c4 c5 c6 gxs i y W HM.o (bU.o.keep (ak.o.trans (hB.mono ay))) HF.o eR);obtain⟨kD,aK⟩:=yH2 (znL laws s wd rd LA CA MA DA WA RA GA c0 c1 c2 c3 c4 c5 c6 gxs i HM.o dt.o) (λW (hB:Qa W0 W)=>H.o W (ak.o.trans (hB.mono ay)));go_upto_region 2 with(go_at_call 59;go_must(refine(eJ.o _ Qb).mono ?_);rintro e wq ⟨rfl,z1,rfl⟩)
  obtain⟨W1,aX⟩:=Qd (W0.ext z1)
  have aW:Qa W0 W1:=MdM;rw[<-aX];clear aX;clear xs0 xd0 xr0 s0 s1 s2 s3 s4 s5 s6 d0 d1 d2 d3 d4 d5 d6 r0 r1 r2 r3 r4 r5 r6 rf ls ld lr;obtain⟨⟨xs0,xd0,xr0⟩,⟨s0,s1,s2,s3,s4,s5,s6⟩,⟨d0,d1,d2,d3,d4,d5,d6⟩,⟨r0,r1,r2,r3,r4,r5,r6⟩,rf,ls,ld,lr⟩:=ddF (av.o W1 (aW));have xg:=aW.size;have fm:=ak.o.trans (aW.mono ay);obtain⟨gb,gof,jA,dB,ah⟩:=(bU.o.keep fm).at hi;generalize gxs[i]=x at*;subst ko;subst jA;have i0:=ah 0 _ rfl;have i1:=ah 1 _ rfl;have i2:=ah 2 _ rfl;have i3:=ah 3 _ rfl;have i4:=ah 4 _ rfl;simp only[Nat.add_zero]at i0;have xP:(i:Int)<(s.graves.length:Int):=McS;have eE:(0:Int)<=(i:Int):=McS;have aQ:¬(i:Int)<0:=McS;clear ah;go_upto_region 5 with fail
  obtain⟨W2,cN⟩:=Qd (W1.alloc (.cells #[.string x.g.place,.int .i64 x.g.cls,.int .i64 x.g.fin,.slice x.H x.g.holders.length x.hc,.slice x.D x.g.died.length x.dc] 91))
  have gG:W2.heap[W1.heap.size]?=some (.cells #[.string x.g.place,.int .i64 x.g.cls,.int .i64 x.g.fin,.slice x.H x.g.holders.length x.hc,.slice x.D x.g.died.length x.dc] 91):=MeS;have aN:Hid (Qa W0 W2):=Md3;have lD:W1.heap.size<W2.heap.size:=zab gG;have uW:=zHi fm;obtain⟨GB,jB⟩:=Qd W1.heap.size
  rw[<-cN,<-jB];rw[<-jB]at gG lD;have jd:W0.heap.size<=GB:=McS;clear cN jB aW fm i0 i1 i2 i3 i4;clear xs0 xd0 xr0 s0 s1 s2 s3 s4 s5 s6 d0 d1 d2 d3 d4 d5 d6 r0 r1 r2 r3 r4 r5 r6 rf ls ld lr;obtain⟨g0,g1,g2,g3,g4⟩:=zeg gG;by_cases sL:x.g.fin<0
  ·have HE:Hid (R=(s,15)):=by show _=_;rw[hr,if_pos (by simpa using sL)]
   clear hr;go_upto_region 6 with fail
   obtain⟨⟨xs0,xd0,xr0⟩,⟨s0,s1,s2,s3,s4,s5,s6⟩,⟨d0,d1,d2,d3,d4,d5,d6⟩,⟨r0,r1,r2,r3,r4,r5,r6⟩,rf,ls,ld,lr⟩:=ddF (av.o W2 (aN.o));have bl:=aN.o;exact Mg
  ·rw[if_neg (by simpa using sL)]at hr;have dZ:=qY.o x.g (List.mem_of_getElem? bX);have Bj:=zHi (λW=>zkh x.g.fin d.years W McS dZ HD.o.years.1 HD.o.years.2);have g2f:=frz gG;obtain⟨⟨xs0,xd0,xr0⟩,⟨s0,s1,s2,s3,s4,s5,s6⟩,⟨d0,d1,d2,d3,d4,d5,d6⟩,⟨r0,r1,r2,r3,r4,r5,r6⟩,rf,ls,ld,lr⟩:=ddF (av.o W2 (aN.o));have GG:=zHi gG;generalize zcf x.g.fin d.years=af at*;go_upto_region 8 with(go_at_call 159;go_must(refine(Bj.o _).mono ?_);rintro e wq ⟨rfl,z2,rfl⟩)
   clear xs0 xd0 xr0 s0 s1 s2 s3 s4 s5 s6 d0 d1 d2 d3 d4 d5 d6 r0 r1 r2 r3 r4 r5 r6 rf ls ld lr;obtain⟨W3,bv⟩:=Qd ((W2.setCell ⟨GB,2,none⟩ (.int .i64 af)).ext z2)
   have gG3:W3.heap[GB]?=some (.cells #[.string x.g.place,.int .i64 x.g.cls,.int .i64 af,.slice x.H x.g.holders.length x.hc,.slice x.D x.g.died.length x.dc] 91):=by
    rw[bv];exact MbN
   have fg:Qa W0 W3:=by rw[bv];exact zb2 (zaS aN.o jd _) z2
   rw[<-bv];clear bv g0 g1 g2 g3 g4 g2f;obtain⟨g0,g1,g2,g3,g4⟩:=zeg gG3;have wn:=fg.size;have bQ:=zab gG3;obtain⟨⟨xs0,xd0,xr0⟩,⟨s0,s1,s2,s3,s4,s5,s6⟩,⟨d0,d1,d2,d3,d4,d5,d6⟩,⟨r0,r1,r2,r3,r4,r5,r6⟩,rf,ls,ld,lr⟩:=ddF (av.o W3 (fg));by_cases oV:af<0
   ·have HE:Hid (R=(s,2)):=by show _=_;rw[hr,if_pos (by simpa using oV)]
    clear hr;go_upto_region 9 with fail
    have bl:=fg;exact Mg
   ·have HE:Hid (R=(s.withGrave i {x.g with fin:=af},0)):=by show _=_;rw[hr,if_neg (by simpa using oV)]
    have mH:=zHi (rJ.o {x with g:= {x.g with fin:=af}} W3 fg);unfold GX.cells zgM at mH;dsimp only at mH;have aG:=zHi fg;clear hr aH;go_upto_region 10 with fail
    go_wp2_with (go_at_call 166
                 go_must(refine(mH.o).mono ?_)
                 rintro e w5 ⟨ga,go,gc,rfl,b8,ar⟩;have aS:=aG.o.trans (ar.mono wn);obtain⟨_,_,xr5⟩:=av.o w5 aS;obtain⟨t0,t1,t2,t3,t4,t5,t6⟩:=zaG xr5;have tf:=frz xr5;obtain⟨bJ,bs⟩:=yH2 b8 aS
                 clear b8 ar aS)
    rw[HE.o];refine bodyPost_ret (zbB rfl _ rfl rfl (zc0 xr5)) rfl ?_;have cC:=zcC (a0:=.slice LA laws.length c0) (a1:=.slice CA s.children.length c1) (a2:=.slice MA s.marriages.length c2) (a3:=.slice DA s.dead.length c3) (a4:=.slice WA wd.length c4) (a5:=.slice RA rd.length c5) (a6:=.slice (some ⟨ga,go,none⟩) s.graves.length gc) (ak.o.trans (bs.o.mono ay)) (show w.heap.size<=w.heap.size+2 by omega);exact⟨_,_,_,_,_,_,_,rfl,rfl,cC,λ_=>kD.o {x with g:= {x.g with fin:=af}} _ ga go gc (H.o w Qb) HK.o cC (bJ.o.ne7 (zm3 bJ.o xr5 McU)) (iz.keep cC)⟩
def zpK(w:World)(g:Nat)(a b:Value):w.grownBy ((w.setCell ⟨g,0,none⟩ a).setCell ⟨g,1,none⟩ b) (some g):=zbm (za1 w g 0 a) (za1 _ g 1 b)
def zjm{α:Type}{f:α->List Value}{A:Option Addr}{xs:List α}{a0 a1 a2 a3 a4 a5 a6:Value}(h:Ro W e f A xs)(hb:W.heap[b]?=some (.cells cs t fr))(ai:t≠e):
 Ro (((((((W.setCell ⟨b,0,none⟩ a0).setCell ⟨b,1,none⟩ a1).setCell ⟨b,2,none⟩ a2).setCell ⟨b,3,none⟩ a3).setCell ⟨b,4,none⟩ a4).setCell ⟨b,5,none⟩ a5).setCell ⟨b,6,none⟩ a6) e f A xs:=
 h.same λk cur fr' hk _=>by
  have nk:k≠b:=λhe=>by
   rw[he,hb]at hk;simp only[Option.some.injEq,Obj.cells.injEq]at hk;exact ai hk.2.1
  rw[hk];exact J_ne nk (J_ne nk (J_ne nk (J_ne nk (J_ne nk (J_ne nk (J_ne nk hk))))))
def surM(l:Parts)(frm:ByteArray)(q:Rat):Parts:=(za0 l frm).map λp=>(p.1,p.2/q)
variable{l:Parts}{n:ByteArray}{q:Rat}
def surM_snoc{k:Nat}(h:k<l.length):surM (l.take (k+1)) n q=surM (l.take k) n q++(if zae l[k].1 n then[]else[(l[k].1,l[k].2/q)]):=by
 unfold surM;rw[zh4 h,List.map_append];cases zae l[k].1 n<;>rfl
def zoB(l:Parts)(n:ByteArray)(q:Rat):(surM l n q).length<=l.length:=by
 unfold surM;exact Mbw
def zj8(laws:List Law)(s:St)(wd rd:List Deed)(LA CA MA DA WA RA GA:Option Addr)(c0 c1 c2 c3 c4 c5 c6:Nat)(d:Deed)(B:Option Addr)(c:Nat)(w:World)(h:StIn w laws s wd rd LA CA MA DA WA RA GA c0 c1 c2 c3 c4 c5 c6)(hk:StLink s wd rd)(hf:StFew s wd rd)(hd:OkD d)(hS:Sl w 3 RPart.cells B d.to)(bh:∀g∈s.graves,GoodG g/\g.holders.length<=50000):Calls Tryz.prog 132 #[.agg #[.slice LA laws.length c0,.slice CA s.children.length c1,.slice MA s.marriages.length c2,.slice DA s.dead.length c3,.slice WA wd.length c4,.slice RA rd.length c5,.slice GA s.graves.length c6],d.v B c] w (zfM w laws (zbb s d)):=by
 obtain⟨R,hR⟩:=Qd (zbb s d)
 rw[<-hR];obtain⟨gxs,hm,bE,br⟩:=znK h.graves;obtain⟨HM,dt,bU,ez⟩:=yH4 hm bE br bh;clear hm bE br bh;obtain⟨H,HK,HF,HD,HS,HR⟩:=yH6 (λW (hB:Qa w W)=>h.keep hB) hk hf hd (λW (hB:Qa w W)=>hS.keep hB) hR;unfold Deed.v;clear h hk hf hd hS hR;go_enter Tryz.func132,Tryz.ntmps132
 go_upto_region 1 with fail
 generalize am:World.alloc (World.alloc (World.alloc w _) _) _=W0;obtain⟨ak,av⟩:=zeN am;clear am;have ay:=ak.o.size;obtain⟨⟨xs0,xd0,xr0⟩,⟨s0,s1,s2,s3,s4,s5,s6⟩,⟨d0,d1,d2,d3,d4,d5,d6⟩,⟨r0,r1,r2,r3,r4,r5,r6⟩,rf,ls,ld,lr⟩:=ddF (av.o W0 Qb);have eJ:=zHi (λW (hB:Qa W0 W)=>zki d.place d.day W (H.o W (ak.o.trans (hB.mono ay))) HF.o);have hr:=HR.o;unfold zbb at hr;cases aH:zaL s d.place d.day with
 |none=>
  exact McO
 |some i=>
  rw[aH]at hr;rw[zdW aH]at eJ;obtain⟨g,bX,cj,qh⟩:=zh7 aH;simp only[cj]at hr;obtain⟨hi,ko⟩:=gx_at HM.o bX;have eR:i<s.graves.length:=Mek;have iz:=dt.o _ (List.getElem_mem hi);have rJ:=zHi (λ(y:GX) W (hB:Qa W0 W)=>zjl laws s wd rd LA CA MA DA WA RA GA c0 c1 c2 c3 c4 c5 c6 gxs i y W HM.o (bU.o.keep (ak.o.trans (hB.mono ay))) HF.o eR);obtain⟨kD,aK⟩:=yH2 (znL laws s wd rd LA CA MA DA WA RA GA c0 c1 c2 c3 c4 c5 c6 gxs i HM.o dt.o) (λW (hB:Qa W0 W)=>H.o W (ak.o.trans (hB.mono ay)));go_upto_region 2 with(go_at_call 59;go_must(refine(eJ.o _ Qb).mono ?_);rintro e wq ⟨rfl,z1,rfl⟩)
  obtain⟨W1,aX⟩:=Qd (W0.ext z1)
  have aW:Qa W0 W1:=MdM;rw[<-aX];clear aX;clear xs0 xd0 xr0 s0 s1 s2 s3 s4 s5 s6 d0 d1 d2 d3 d4 d5 d6 r0 r1 r2 r3 r4 r5 r6 rf ls ld lr;obtain⟨⟨xs0,xd0,xr0⟩,⟨s0,s1,s2,s3,s4,s5,s6⟩,⟨d0,d1,d2,d3,d4,d5,d6⟩,⟨r0,r1,r2,r3,r4,r5,r6⟩,rf,ls,ld,lr⟩:=ddF (av.o W1 (aW));have xg:=aW.size;have fm:=ak.o.trans (aW.mono ay);obtain⟨gb,gof,jA,dB,ah⟩:=(bU.o.keep fm).at hi;generalize gxs[i]=x at*;subst ko;subst jA;have i0:=ah 0 _ rfl;have i1:=ah 1 _ rfl;have i2:=ah 2 _ rfl;have i3:=ah 3 _ rfl;have i4:=ah 4 _ rfl;simp only[Nat.add_zero]at i0;have xP:(i:Int)<(s.graves.length:Int):=McS;have eE:(0:Int)<=(i:Int):=McS;have aQ:¬(i:Int)<0:=McS;clear ah;go_upto_region 5 with fail
  obtain⟨W2,cN⟩:=Qd (W1.alloc (.cells #[.string x.g.place,.int .i64 x.g.cls,.int .i64 x.g.fin,.slice x.H x.g.holders.length x.hc,.slice x.D x.g.died.length x.dc] 91))
  have gG:W2.heap[W1.heap.size]?=some (.cells #[.string x.g.place,.int .i64 x.g.cls,.int .i64 x.g.fin,.slice x.H x.g.holders.length x.hc,.slice x.D x.g.died.length x.dc] 91):=MeS;have aN:Hid (Qa W0 W2):=Md3;have lD:W1.heap.size<W2.heap.size:=zab gG;have uW:=zHi fm;obtain⟨GB,jB⟩:=Qd W1.heap.size
  rw[<-cN,<-jB];rw[<-jB]at gG lD;have jd:W0.heap.size<=GB:=McS;clear cN jB aW fm i0 i1 i2 i3 i4;clear xs0 xd0 xr0 s0 s1 s2 s3 s4 s5 s6 d0 d1 d2 d3 d4 d5 d6 r0 r1 r2 r3 r4 r5 r6 rf ls ld lr;obtain⟨dC,bQ⟩:=ez.o x.g qh;have pL:=iz.keep (ak.o.trans (aN.o.mono ay));have nR:=zHi (λW (hB:Qa W2 W)=>zfm x.g.holders d.frm x.H x.hc W McS (pL.1.keep hB));have dJ:=λh=>zlE (frm:=d.frm) dC h
  change R=(if(zah x.g.holders d.frm==0)=true then(s,19)else if zaE (surM x.g.holders d.frm (1-zah x.g.holders d.frm))=true then(s,8)else(s.withGrave i {x.g with holders:=surM x.g.holders d.frm (1-zah x.g.holders d.frm)},0))at hr;generalize zah x.g.holders d.frm=sh at*;unfold zaA at nR;obtain⟨g0,g1,g2,g3,g4⟩:=zeg gG;have sr:=aN.o.size;have GG:=zHi gG;obtain⟨⟨xs0,xd0,xr0⟩,⟨s0,s1,s2,s3,s4,s5,s6⟩,⟨d0,d1,d2,d3,d4,d5,d6⟩,⟨r0,r1,r2,r3,r4,r5,r6⟩,rf,ls,ld,lr⟩:=ddF (av.o W2 (aN.o));go_upto_region 6 with(go_at_call 161;go_must(refine(nR.o _ Qb).mono ?_);rintro e wq ⟨rfl,z2,rfl⟩)
  obtain⟨SB,mM⟩:=Qd (W2.heap.size+z2.os.size)
  obtain⟨W3,bv⟩:=Qd ((W2.ext z2).alloc (.cells #[.int .i64 (sh).num,.int .i64 (sh).den] 50))
  have gS:W3.heap[SB]?=some (.cells #[.int .i64 (sh).num,.int .i64 (sh).den] 50):=by rw[bv];exact zas _ _ _ (by rw[mM];simp[zaf])
  have ax:Qa W2 W3:=by rw[bv];exact zad (zan W2 z2) _
  rw[<-bv,<-mM];clear bv mM g0 g1 g2 g3 g4 gG;clear xs0 xd0 xr0 s0 s1 s2 s3 s4 s5 s6 d0 d1 d2 d3 d4 d5 d6 r0 r1 r2 r3 r4 r5 r6 rf ls ld lr;have jD:=ax.size;obtain⟨aG,G3,GS⟩:=yH3 (aN.o.trans (ax.mono sr)) ((ax.block GB lD).trans GG.o) gS;obtain⟨q0,q1⟩:=zbx gS;have sb:=zab gS;obtain⟨⟨xs0,xd0,xr0⟩,⟨s0,s1,s2,s3,s4,s5,s6⟩,⟨d0,d1,d2,d3,d4,d5,d6⟩,⟨r0,r1,r2,r3,r4,r5,r6⟩,rf,ls,ld,lr⟩:=ddF (av.o W3 (aG.o));by_cases hz:sh=0
  ·have nM:(sh.num==0)=true:=by rw[hz];rfl
   have HE:Hid (R=(s,19)):=by show _=_;rw[hr,if_pos MdZ]
   clear hr;go_upto_region 7 with fail
   have bl:=aG.o;exact Mg
  ·have nM:(sh.num==0)=false:=by
    exact Mbx
   rw[if_neg MdZ]at hr;obtain⟨m1,m2,m3,m4⟩:=dJ hz;obtain⟨eY,fG,Fu⟩:=yH3 (λW=>zhU 1 sh W ⟨by decide,by decide⟩ m1) m4 m2;unfold zaA at eY;rw[show(1:Rat).num=1 from rfl,show((1:Rat).den:Int)=1 from rfl]at eY;clear hz m1 m2 m3 m4 dJ;go_upto_region 9 with fail
   refine zdE 3 _ _ (.cells #[.int .i64 0,.int .i64 0] 50) (.cells #[.int .i64 (1-sh).num,.int .i64 (1-sh).den] 50) McT McT rfl rfl ?hrun ?_
   case hrun=>intro a W;kernel_rfl
   simp only[List.take_succ_cons,List.take_zero];repeat(refine zeK (λK hK=>?_);simp only[grow];go_simp;first|(refine hK _ ?_;clear hK K)|(apply Exists.intro;refine⟨λ_=>?_,hK _ ?_⟩;((first|(go_at_call 129;exact quietg (zhY _))|(go_at_call 164;exact quietg (eY.o _))));clear hK K))
   refine zfE ⟨?hstore,?hlast⟩
   case hstore=>
    exact MG
   case hlast=>
    rintro LB W4 ⟨z4,gZ⟩ uk gL;obtain⟨lf,lP⟩:=Qd (1-sh)
    rw[<-lP]at hr fG Fu gL;have aB:Qa W3 W4:=by rw[gZ];exact zan _ _
    have FO:=aB.size;obtain⟨dL,G4,GL⟩:=yH3 (aG.o.trans (aB.mono McS)) ((aB.block GB McS).trans G3.o) gL;have g9:=zab gL;have E8:GB<W4.heap.size:=McS;have JM:=zHi ((iz.keep (ak.o.trans (dL.o.mono ay))));clear gZ lP gL aB gS q0 q1 sb eY nM;clear xs0 xd0 xr0 s0 s1 s2 s3 s4 s5 s6 d0 d1 d2 d3 d4 d5 d6 r0 r1 r2 r3 r4 r5 r6 rf ls ld lr;go_upto_region 11 with fail
    go_loopw [9,11] (λv i wr=>∃k:Nat,k<=x.g.holders.length/\i=.int .i64 k/\OwnS wr W4.heap.size 55 3 zaa v (surM (x.g.holders.take k) d.frm lf)/\Qa W4 wr) (λ_ i _=>x.g.holders.length-(intOf i).toNat)
    case atStart=>exact⟨0,Nat.zero_le _,rfl,OwnS.nil,Qb⟩
    case round=>
     obtain⟨k,hk,rfl,aa,hB⟩:=hrel;have aM:=hB.size;obtain⟨HO,HB⟩:=yH2 aa hB;have iN:=(hB.block GB E8).trans G4.o;have DU:=(hB.block LB g9).trans GL.o;obtain⟨g0,g1,g2,g3,g4⟩:=zeg iN;obtain⟨l0,l1⟩:=zbx DU;have E9:=zab iN;have ya:=zab DU;have cB:=dL.o.trans (hB.mono McS);obtain⟨⟨xs0,xd0,xr0⟩,⟨s0,s1,s2,s3,s4,s5,s6⟩,⟨d0,d1,d2,d3,d4,d5,d6⟩,⟨r0,r1,r2,r3,r4,r5,r6⟩,rf,ls,ld,lr⟩:=ddF (av.o wr (cB));have bk:=zHi cB;by_cases ae:k<x.g.holders.length
     ·obtain⟨b,off,hA,hb,ah⟩:=(JM.o.1.keep hB).at ae;have aq:=surM_snoc (n:=d.frm) (q:=lf) ae;have bx:=Nat.le_trans (zoB (x.g.holders.take k) d.frm lf) (by rw[List.length_take];omega:(x.g.holders.take k).length<=k);have ie:=fG.o _ (List.getElem_mem ae);generalize surM (x.g.holders.take k) d.frm lf=xs at*;obtain⟨VA,vc,rfl,_,gu⟩:=aa.sl zak;have aj:=zHi ae;generalize x.g.holders[k]=p at*;obtain⟨nm,q⟩:=p;rw[hA]at g3;have i0:wr.cell? ⟨b,off+k*3,none⟩=some (.string nm):=ah 0 _ rfl;have i1:wr.cell? ⟨b,off+k*3+1,none⟩=some (.int .i64 q.num):=ah 1 _ rfl;have i2:wr.cell? ⟨b,off+k*3+2,none⟩=some (.int .i64 q.den):=ah 2 _ rfl;have au:(k:Int)<(x.g.holders.length:Int):=McS;have aR:(0:Int)<=(k:Int):=McS;have dw:Hid (xs.length<=100000):=by show _<=_;omega
      simp only at ie aq;have aJ:=zHi (λ(W:World) (h:Qa wr W)=>(show W.cell? ⟨GB,3,none⟩=some (.slice (some ⟨b,off,none⟩) x.g.holders.length x.hc)/\W.cell? ⟨b,off+k*3,none⟩=some (.string nm)/\W.cell? ⟨b,off+k*3+1,none⟩=some (.int .i64 q.num)/\W.cell? ⟨b,off+k*3+2,none⟩=some (.int .i64 q.den)/\W.cell? ⟨LB,0,none⟩=some (.int .i64 lf.num)/\W.cell? ⟨LB,1,none⟩=some (.int .i64 lf.den) from⟨(zai h E9).trans g3,(zai h hb).trans i0,(zai h hb).trans i1,(zai h hb).trans i2,(zai h ya).trans l0,(zai h ya).trans l1⟩));go_upto_region 13 with fail
      cases hs:zae nm d.frm
      ·have bi:(nm.toList==d.frm.toList)=false:=hs;have aK:Hid (surM (x.g.holders.take (k+1)) d.frm lf=xs++[(nm,q/lf)]):=by show _=_;rw[aq,hs];rfl
       obtain⟨ei,yM⟩:=ie hs;have Fv:=zHi (λW=>rQuo_any q lf W yM Fu.o ei);unfold zaA at Fv;clear ah ae aa aq hs ie ei yM
       (refine zag McT McT ?_
        repeat(first|go_big_quiet_skip|(go_big_quiet_want;go_big_quiet_op;first|go_big_quiet_on|(apply Exists.intro;refine⟨λ_=>?_,?_⟩;(fail);go_big_quiet_on)))
        refine wpQuiet_nil ?_
        rintro _ ⟨zq,rfl⟩)
       obtain⟨WQ,oU⟩:=Qd (wr.ext zq)
       have mQ:Qa wr WQ:=MeV;rw[<-oU];clear oU g0 g1 g2 g3 g4 l0 l1 i0 i1 i2;clear xs0 xd0 xr0 s0 s1 s2 s3 s4 s5 s6 d0 d1 d2 d3 d4 d5 d6 r0 r1 r2 r3 r4 r5 r6 rf ls ld lr;have KN:=mQ.size;go_upto_region 14 with fail
       refine za9 17 (λbb w'=>bb=true\/(w'.cell? ⟨GB,3,none⟩=some (.slice (some ⟨b,off,none⟩) x.g.holders.length x.hc)/\w'.cell? ⟨b,off+k*3,none⟩=some (.string nm)/\w'.cell? ⟨b,off+k*3+1,none⟩=some (.int .i64 q.num)/\w'.cell? ⟨b,off+k*3+2,none⟩=some (.int .i64 q.den)/\w'.cell? ⟨LB,0,none⟩=some (.int .i64 lf.num)/\w'.cell? ⟨LB,1,none⟩=some (.int .i64 lf.den))) McT (.inr (aJ.o _ (zaF mQ))) ?hrest
       case hrest=>
        intro hHeld;refine TkM 0 ?_;refine TkM 1 ?_;refine TkM 2 ?_;refine TkM 3 ?_;refine TkM 4 ?_;refine TkM 5 ?_;refine TkM 6 ?_;refine TkM 7 ?_;refine TkM 8 ?_;refine TkM 9 ?_;refine TkM 10 ?_;refine TkM 11 ?_;refine TkM 12 ?_;refine TkM 13 ?_;refine OnM 14 false λK hK=>?_
        go_simp
        refine(Fv.o _).mono ?_;rintro e w5 ⟨rfl,z,rfl⟩;have ar:Qa wr (WQ.drew.ext z):=zb2 (zaF mQ) z;refine NxM hK (λhHeld=>?_) (.inr (aJ.o _ ar));clear hK K;refine TkM 15 ?_;refine OnM 16 false λK hK=>?_
        go_simp
        have aS:Qa wr ((WQ.drew.ext z).alloc (.cells #[.string nm,.int .i64 (q/lf).num,.int .i64 (q/lf).den] 55)):=zad ar _;refine NxM hK (λhHeld=>?_) (.inr (aJ.o _ aS));clear hK K;refine OnM 17 true λK hK=>?_
        refine zap (v:=.slice VA xs.length vc) (n:=xs.length) (m:=1) rfl _ _ rfl zdR zak zcc rfl (xs:=xs) (ys:=[(nm,q/lf)]) (HO.o.keep (n:=wr.heap.size) aS) rfl rfl rfl (zdf (zas _ _ _ Md8)) (by have:=dw.o;simp only[maxLen];omega) Mdw Md6 ?_;intro v7 w7 h1 h2 h3;obtain⟨A7,c7,kU,_,_⟩:=h1.sl zak;rw[List.length_append]at kU;subst kU;have bj:Qa W4 w7:=Below.grown (HB.o.trans (aS.mono aM)) h2 Md6 (λj hj=>(HO.o.ge j hj).1);refine NxM hK λhHeld=>?_
        clear hK K;refine OnM 18 true λK hK=>?_
        go_simp
        refine NxM hK λhHeld=>?_
        clear hK K;refine zaO McT ?_ _;clear hHeld;obtain⟨H7,bT⟩:=yH2 h1 bj;clear h1 h2 h3 bj;go_wp2_with fail
        go_round
        case rel=>exact⟨k+1,aj.o,by go_num,by rw[aK.o];exact H7.o,bT.o⟩
        case measure=>have:=aj.o;simp only[intOf];omega
      ·have bi:(nm.toList==d.frm.toList)=true:=hs;have aK:Hid (surM (x.g.holders.take (k+1)) d.frm lf=xs):=by show _=_;rw[aq,hs];simp
       clear ah ae aa aq hs ie
       (refine zag McT McT ?_
        repeat(first|go_big_quiet_skip|(go_big_quiet_want;go_big_quiet_op;first|go_big_quiet_on|(apply Exists.intro;refine⟨λ_=>?_,?_⟩;(fail);go_big_quiet_on)))
        refine wpQuiet_nil ?_
        rintro _ ⟨zq,rfl⟩)
       go_wp2_with fail
       go_round
       case rel=>exact⟨k+1,aj.o,by go_num,by rw[aK.o];exact HO.o.keep (n:=wr.heap.size) (zan _ _),zb2 HB.o zq⟩
       case measure=>have:=aj.o;simp only[intOf];omega
     ·have au:¬(k:Int)<(x.g.holders.length:Int):=McS;rw[List.take_of_length_le McS]at HO aa;have kQ:=zoB x.g.holders d.frm lf;generalize surM x.g.holders d.frm lf=out at*;obtain⟨VA,vc,rfl,fk,_⟩:=aa.sl zak;have dr:=zHi (λW (h:Qa wr W)=>zdJ out VA vc W McS (fk.keep h));have g3f:=frz iN;have mx:=zHi iN;clear aa fk ae hB DU;cases hlg:zaE out
      ·rw[hlg]at dr hr;have HE:Hid (R=(s.withGrave i {x.g with holders:=out},0)):=by show _=_;rw[hr];rfl
       clear hr hlg aH;go_upto_region 18 with(go_at_call 165;go_must(refine(dr.o _ Bw).mono ?_);rintro e wq ⟨rfl,rfl⟩)
       obtain⟨W6,fU⟩:=Qd (wr.setCell ⟨GB,3,none⟩ (.slice VA out.length vc))
       have gG6:W6.heap[GB]?=some (.cells #[.string x.g.place,.int .i64 x.g.cls,.int .i64 x.g.fin,.slice VA out.length vc,.slice x.D x.g.died.length x.dc] 91):=by
        rw[fU];have:=Joins.block_setCell (i:=3) mx.o (.slice VA out.length vc);simpa using this
       have mK:Qa W0 W6:=by rw[fU];exact zaS bk.o jd _
       have qt:OwnS W6 W4.heap.size 55 3 zaa (.slice VA out.length vc) out:=by rw[fU];exact HO.o.kept (za1 _ _ _ _) mx.o McU
       rw[<-fU];clear fU g0 g1 g2 g3 g4 g3f l0 l1 iN;clear xs0 xd0 xr0 s0 s1 s2 s3 s4 s5 s6 d0 d1 d2 d3 d4 d5 d6 r0 r1 r2 r3 r4 r5 r6 rf ls ld lr;obtain⟨g0,g1,g2,g3,g4⟩:=zeg gG6;have bF:=zab gG6;have rO:=mK.size;obtain⟨⟨xs0,xd0,xr0⟩,⟨s0,s1,s2,s3,s4,s5,s6⟩,⟨d0,d1,d2,d3,d4,d5,d6⟩,⟨r0,r1,r2,r3,r4,r5,r6⟩,rf,ls,ld,lr⟩:=ddF (av.o W6 (mK));have mH:=zHi (rJ.o ({g:= {x.g with holders:=out},H:=VA,hc:=vc,D:=x.D,dc:=x.dc}:GX) W6 mK);unfold GX.cells zgM at mH;dsimp only at mH;obtain⟨bs,eA⟩:=yH2 mK qt;clear mK qt gG6
       go_wp2_with (go_at_call 166
                    go_must(refine(mH.o).mono ?_)
                    rintro e w5 ⟨ga,go,gc,rfl,b8,ar⟩;have bj:=bs.o.trans (ar.mono rO);obtain⟨_,_,xr5⟩:=av.o w5 bj;obtain⟨t0,t1,t2,t3,t4,t5,t6⟩:=zaG xr5;have tf:=frz xr5;obtain⟨bJ,bT,m9⟩:=yH3 b8 bj ar
                    clear b8 ar bj)
       rw[HE.o];refine bodyPost_ret (zbB rfl _ rfl rfl (zc0 xr5)) rfl ?_;have cC:=zcC (a0:=.slice LA laws.length c0) (a1:=.slice CA s.children.length c1) (a2:=.slice MA s.marriages.length c2) (a3:=.slice DA s.dead.length c3) (a4:=.slice WA wd.length c4) (a5:=.slice RA rd.length c5) (a6:=.slice (some ⟨ga,go,none⟩) s.graves.length gc) (ak.o.trans (bT.o.mono ay)) (show w.heap.size<=w.heap.size+2 by omega);obtain⟨A',c',oY,_,ej⟩:=eA.o.ro;obtain⟨rfl,_,rfl⟩:VA=A'/\out.length=out.length/\vc=c':=by simpa using oY
       exact⟨_,_,_,_,_,_,_,rfl,rfl,cC,λ_=>kD.o ({g:= {x.g with holders:=out},H:=VA,hc:=vc,D:=x.D,dc:=x.dc}:GX) _ ga go gc (H.o w Qb) HK.o cC (bJ.o.ne7 (zm3 bJ.o xr5 McU)) ⟨(zjm (ej.keep m9.o) xr5 McU).sl zak,(iz.keep cC).2⟩⟩
      ·rw[hlg]at dr hr;have HE:Hid (R=(s,8)):=by show _=_;rw[hr];rfl
       clear hr hlg aH;go_upto_region 16 with(go_at_call 165;go_must(refine(dr.o _ Bw).mono ?_);rintro e wq ⟨rfl,rfl⟩)
       have bl:=bk.o;exact Mg
structure GainSt (own:Rat) (out l:Parts):Prop where
 good:GoodParts out
 small:zaE out=false
 le:sumQ out+own*sumQ l<=1
 pos:∀p∈l,0<=p.2
variable{own:Rat}{out:Parts}
def GainSt.parts(h:GainSt own out l)(ho:0<=own):∀p∈out,zaJ p.2:=by
 have h1:=Rat.mul_nonneg ho (zbq h.pos);exact λp hp=>(zdK (hs:=out) ⟨h.good,h.small,by have:=h.le;grind⟩ hp).2.2
def GainSt.next(ho:0<=own)(h:GainSt own out ((n,q)::l))(hl:zaE (za5 out n (own*q))=false):GainSt own (za5 out n (own*q)) l:=by
 have hq:=h.pos (n,q) McV;have bG:=h.le;rw[sumQ]at bG;exact⟨zby (Rat.mul_nonneg ho hq) h.good,hl,by rw[zbW];grind,λp hp=>h.pos p MdQ⟩
def GainSt.more(ho:0<=own)(h:GainSt own out ((n,q)::l)):0<=own*q/\own*q<=1:=by
 have hq:=h.pos (n,q) McV;have bG:=h.le;rw[sumQ]at bG;have h1:=Rat.mul_nonneg ho hq;have h2:=Rat.mul_nonneg ho (zbq (l:=l) λp hp=>h.pos p MdQ);have h3:0<=sumQ out:=zbq λp hp=>by have:=h.good.pos p hp;grind
 simp only at hq bG;exact⟨h1,by grind⟩
def tpRes(s:St)(i:Nat)(g:Grave):Option Parts->St×Int
 |none=>(s,8)
 |some o=>(s.withGrave i {g with holders:=o},0)
def zm4(own:Rat)(n:ByteArray)(q:Rat)(l out:Parts):zb8 own ((n,q)::l) out=if bigQ (own*q)then none else if zaE (za5 out n (own*q))then none else zb8 own l (za5 out n (own*q)):=by rw[zb8]
def sum_isN{n:Nat}:∀ {l:Parts},(∀p∈l,IsN n p.2)->IsN n (sumQ l)
 | [],_=>zkv n
 |x::r,h=>zkt (h x McV) (sum_isN λp hp=>h p MdQ)
def zlb(laws:List Law)(s:St)(wd rd:List Deed)(LA CA MA DA WA RA GA:Option Addr)(c0 c1 c2 c3 c4 c5 c6:Nat)(d:Deed)(B:Option Addr)(c:Nat)(w:World)(h:StIn w laws s wd rd LA CA MA DA WA RA GA c0 c1 c2 c3 c4 c5 c6)(hk:StLink s wd rd)(hf:StFew s wd rd)(hd:OkD d)(hS:Sl w 3 RPart.cells B d.to)(ck:d.kind=1)(bh:∀g∈s.graves,GoodG g/\g.holders.length<=50000):Calls Tryz.prog 131 #[.agg #[.slice LA laws.length c0,.slice CA s.children.length c1,.slice MA s.marriages.length c2,.slice DA s.dead.length c3,.slice WA wd.length c4,.slice RA rd.length c5,.slice GA s.graves.length c6],d.v B c] w (zfM w laws (zbo s d)):=by
 obtain⟨R,hR⟩:=Qd (zbo s d)
 rw[<-hR];obtain⟨gxs,hm,bE,br⟩:=znK h.graves;obtain⟨HM,dt,bU,ez⟩:=yH4 hm bE br bh;have ka:=zHi (zea (hd.parts (.inr (.inl ck))).2);have bA:=hd.len;clear hm bE br bh ck;obtain⟨H,HK,HF,HD,HS,HR⟩:=yH6 (λW (hB:Qa w W)=>h.keep hB) hk hf hd (λW (hB:Qa w W)=>hS.keep hB) hR;unfold Deed.v;clear h hk hf hd hS hR;go_enter Tryz.func131,Tryz.ntmps131
 go_upto_region 1 with fail
 generalize am:World.alloc (World.alloc (World.alloc w _) _) _=W0;obtain⟨ak,av⟩:=zeN am;clear am;have ay:=ak.o.size;obtain⟨⟨xs0,xd0,xr0⟩,⟨s0,s1,s2,s3,s4,s5,s6⟩,⟨d0,d1,d2,d3,d4,d5,d6⟩,⟨r0,r1,r2,r3,r4,r5,r6⟩,rf,ls,ld,lr⟩:=ddF (av.o W0 Qb);have eJ:=zHi (λW (hB:Qa W0 W)=>zki d.place d.day W (H.o W (ak.o.trans (hB.mono ay))) HF.o);have kw:=zHi (λW (hB:Qa W0 W)=>zm2 d.to B c W (H.o W (ak.o.trans (hB.mono ay))) HF.o McS (HS.o W (ak.o.trans (hB.mono ay))));have u7:=zHi (λW (hB:Qa W0 W)=>zo9 d.to B c W McS (HS.o W (ak.o.trans (hB.mono ay))));have hr:=HR.o;unfold zbo at hr;cases aH:zaL s d.place d.day with
 |none=>
  exact McO
 |some i=>
  rw[aH]at hr;rw[zdW aH]at eJ;obtain⟨g,bX,cj,qh⟩:=zh7 aH;simp only[cj]at hr;obtain⟨hi,ko⟩:=gx_at HM.o bX;have eR:i<s.graves.length:=Mek;have iz:=dt.o _ (List.getElem_mem hi);have rJ:=zHi (λ(y:GX) W (hB:Qa W0 W)=>zjl laws s wd rd LA CA MA DA WA RA GA c0 c1 c2 c3 c4 c5 c6 gxs i y W HM.o (bU.o.keep (ak.o.trans (hB.mono ay))) HF.o eR);obtain⟨kD,aK⟩:=yH2 (znL laws s wd rd LA CA MA DA WA RA GA c0 c1 c2 c3 c4 c5 c6 gxs i HM.o dt.o) (λW (hB:Qa W0 W)=>H.o W (ak.o.trans (hB.mono ay)));go_upto_region 2 with(go_at_call 59;go_must(refine(eJ.o _ Qb).mono ?_);rintro e wq ⟨rfl,z1,rfl⟩)
  obtain⟨W1,aX⟩:=Qd (W0.ext z1)
  have aW:Qa W0 W1:=MdM;rw[<-aX];clear aX;clear xs0 xd0 xr0 s0 s1 s2 s3 s4 s5 s6 d0 d1 d2 d3 d4 d5 d6 r0 r1 r2 r3 r4 r5 r6 rf ls ld lr;obtain⟨⟨xs0,xd0,xr0⟩,⟨s0,s1,s2,s3,s4,s5,s6⟩,⟨d0,d1,d2,d3,d4,d5,d6⟩,⟨r0,r1,r2,r3,r4,r5,r6⟩,rf,ls,ld,lr⟩:=ddF (av.o W1 (aW));have xg:=aW.size;have fm:=ak.o.trans (aW.mono ay);obtain⟨gb,gof,jA,dB,ah⟩:=(bU.o.keep fm).at hi;generalize gxs[i]=x at*;subst ko;subst jA;have i0:=ah 0 _ rfl;have i1:=ah 1 _ rfl;have i2:=ah 2 _ rfl;have i3:=ah 3 _ rfl;have i4:=ah 4 _ rfl;simp only[Nat.add_zero]at i0;have xP:(i:Int)<(s.graves.length:Int):=McS;have eE:(0:Int)<=(i:Int):=McS;have aQ:¬(i:Int)<0:=McS;clear ah;go_upto_region 5 with fail
  obtain⟨W2,cN⟩:=Qd (W1.alloc (.cells #[.string x.g.place,.int .i64 x.g.cls,.int .i64 x.g.fin,.slice x.H x.g.holders.length x.hc,.slice x.D x.g.died.length x.dc] 91))
  have gG:W2.heap[W1.heap.size]?=some (.cells #[.string x.g.place,.int .i64 x.g.cls,.int .i64 x.g.fin,.slice x.H x.g.holders.length x.hc,.slice x.D x.g.died.length x.dc] 91):=MeS;have aN:Hid (Qa W0 W2):=Md3;have lD:W1.heap.size<W2.heap.size:=zab gG;have uW:=zHi fm;obtain⟨GB,jB⟩:=Qd W1.heap.size
  rw[<-cN,<-jB];rw[<-jB]at gG lD;have jd:W0.heap.size<=GB:=McS;clear cN jB aW fm i0 i1 i2 i3 i4;clear xs0 xd0 xr0 s0 s1 s2 s3 s4 s5 s6 d0 d1 d2 d3 d4 d5 d6 r0 r1 r2 r3 r4 r5 r6 rf ls ld lr;obtain⟨dC,bQ⟩:=ez.o x.g qh;have pL:=iz.keep (ak.o.trans (aN.o.mono ay));obtain⟨t1,t2,t3⟩:=ziH (frm:=d.frm) dC (λp hp=>ka.o.1 p hp) ka.o.2.1;have qE:=zci (n:=d.frm) dC.good;have tF:=zbJ (n:=d.frm) dC.good;have jV:=zdA d.frm dC.small;have lV:∀p∈za0 x.g.holders d.frm,p.1≠d.frm:=zjI;have cK:=zdU x.g.holders d.frm;have aU:sumQ x.g.holders<=1:=by
   rcases dC.one with e|e
   ·rw[e];decide
   ·rw[e];exact Rat.le_refl
  obtain⟨nR,mF⟩:=yH2 (λW (hB:Qa W2 W)=>zfm x.g.holders d.frm x.H x.hc W McS (pL.1.keep hB)) (λW (hB:Qa W2 W)=>zh5 x.g.holders d.frm x.H x.hc W McS (pL.1.keep hB));generalize zah x.g.holders d.frm=sh at*;generalize za0 x.g.holders d.frm=wo at*;unfold zaA at nR u7;obtain⟨g0,g1,g2,g3,g4⟩:=zeg gG;have sr:=aN.o.size;have GG:=zHi gG;obtain⟨⟨xs0,xd0,xr0⟩,⟨s0,s1,s2,s3,s4,s5,s6⟩,⟨d0,d1,d2,d3,d4,d5,d6⟩,⟨r0,r1,r2,r3,r4,r5,r6⟩,rf,ls,ld,lr⟩:=ddF (av.o W2 (aN.o));by_cases kL:x.g.cls=4
  ·have oa:(x.g.cls==4)=true:=by rw[kL];rfl
   have HE:Hid (R=(s,15)):=by show _=_;rw[hr,if_pos oa]
   clear hr kL;go_upto_region 6 with fail
   have bl:=aN.o;exact Mg
  have oa:(x.g.cls==4)=false:=by simpa using kL
  rw[if_neg (by rw[oa];simp)]at hr;go_upto_region 8 with(go_at_call 161;go_must(refine(nR.o _ Qb).mono ?_);rintro e wq ⟨rfl,z2,rfl⟩)
  obtain⟨SB,mM⟩:=Qd (W2.heap.size+z2.os.size)
  obtain⟨W3,bv⟩:=Qd ((W2.ext z2).alloc (.cells #[.int .i64 (sh).num,.int .i64 (sh).den] 50))
  have gS:W3.heap[SB]?=some (.cells #[.int .i64 (sh).num,.int .i64 (sh).den] 50):=by rw[bv];exact zas _ _ _ (by rw[mM];simp[zaf])
  have ax:Qa W2 W3:=by rw[bv];exact zad (zan W2 z2) _
  rw[<-bv,<-mM];clear bv mM g0 g1 g2 g3 g4 gG kL oa;clear xs0 xd0 xr0 s0 s1 s2 s3 s4 s5 s6 d0 d1 d2 d3 d4 d5 d6 r0 r1 r2 r3 r4 r5 r6 rf ls ld lr;have jD:=ax.size;obtain⟨aG,Bo,G3,GS⟩:=yH4 (aN.o.trans (ax.mono sr)) ax ((ax.block GB lD).trans GG.o) gS;obtain⟨q0,q1⟩:=zbx gS;have sb:=zab gS;obtain⟨⟨xs0,xd0,xr0⟩,⟨s0,s1,s2,s3,s4,s5,s6⟩,⟨d0,d1,d2,d3,d4,d5,d6⟩,⟨r0,r1,r2,r3,r4,r5,r6⟩,rf,ls,ld,lr⟩:=ddF (av.o W3 (aG.o));by_cases hz:sh=0
  ·have nM:(sh.num==0)=true:=by rw[hz];rfl
   have HE:Hid (R=(s,19)):=by show _=_;rw[hr,if_pos MdZ]
   clear hr;go_upto_region 9 with fail
   have bl:=aG.o;exact Mg
  have nM:(sh.num==0)=false:=by
   exact Mbx
  rw[if_neg MdZ]at hr;cases ft:zdZ s d.to;rotate_left 1
  ·have HE:Hid (R=(s,28)):=by show _=_;rw[hr,ft];rfl
   rw[ft]at kw;clear hr hz aH;go_upto_region 11 with(go_at_call 158;go_must(refine(kw.o _ (by have:=aG.o;exact Bw)).mono ?_);rintro e wq ⟨rfl,z3,rfl⟩)
   have bl:=zb2 aG.o z3;exact Mcd
  rw[ft,if_neg McV]at hr;rw[ft]at kw;have lU:=zn5 d.to 0;have aV:d.to.all zdV=true:=by
   rw[List.all_eq_true];intro p hp;have h1:=ka.o.1 p hp;have h2:=zbl h1.2.2;unfold zdV;rw[h1.2.2,Bool.true_and];have:p.num≠0:=λe=>by
    have h3:=h1.1;have h4:=(zkN.1 h3)
    unfold RPart.rat at h4;rw[h2.1,e]at h4;exact absurd h4 McU
   simpa using this
  rw[aV]at lU;have dR:=lU.2 rfl;rw[Rat.zero_add]at dR;have uC:∀p∈zaq d.to,0<p.2:=λp hp=>by
   obtain⟨q,hq,rfl⟩:=List.mem_map.1 hp;exact(ka.o.1 q hq).1
  have lK:IsN 720720 (sumQ (zaq d.to)):=sum_isN (λp hp=>by
   obtain⟨q,hq,rfl⟩:=List.mem_map.1 hp
   exact(ka.o.1 q hq).2.1)
  have pa:0<=sumQ (zaq d.to):=zbq λp hp=>by have:=uC p hp;grind
  have mY:=ka.o.2.1;have aI:=zcB McU McU lK pa mY;have lQ:=zcB McU McU (zgZ (zha _) lK) (show 0<=1-sumQ (zaq d.to) by grind) (show 1-sumQ (zaq d.to)<=1 by grind);rw[lU.1,dR]at u7;have uI:∀p∈zaq d.to,0<=p.2:=λp hp=>by have:=uC p hp;grind
  have pm:(zaq d.to).length=d.to.length:=List.length_map _;have i8:∀k (hk:k<d.to.length),(zaq d.to).drop k=(d.to[k].name,d.to[k].rat)::(zaq d.to).drop (k+1):=λk hk=>by
   rw[List.drop_eq_getElem_cons McS];congr 1
   exact List.getElem_map _
  have Cg:=zHi (λp hp=>(ka.o.1 p hp).2.2);generalize zaq d.to=l0 at*;have sW:0<=sh*(1-sumQ l0):=Rat.mul_nonneg t1 Mdl;have xV:sh*(1-sumQ l0)<=1:=by
   have:=Rat.mul_le_mul_of_nonneg_left (show 1-sumQ l0<=1 by grind) t1;grind
  have gR:=zHi (λ(hb:bigQ (sh*(1-sumQ l0))=false)=>(show zaJ (sh*(1-sumQ l0))/\GainSt sh (za5 wo d.frm (sh*(1-sumQ l0))) l0 from
   ⟨zca sW xV hb,⟨zby sW tF,zfQ hb lV jV,by rw[zbW];grind,uI⟩⟩))
  have wf:=zHi (show∀p∈wo,zaJ p.2 from λp hp=>(zdK (hs:=wo) ⟨tF,jV,by have:=qE;grind⟩ hp).2.2);obtain⟨q,hq⟩:=Qd (sumQ l0)
  rw[<-hq]at hr u7 aI lQ gR;obtain⟨eY,jt⟩:=yH2 (λW=>zhU 1 q W ⟨by decide,by decide⟩ aI) (λW=>zg0 sh (1-q) W t2 lQ);unfold zaA at eY jt;rw[show(1:Rat).num=1 from rfl,show((1:Rat).den:Int)=1 from rfl]at eY;obtain⟨kq,Hu⟩:=Qd (sh*(1-q))
  rw[<-Hu]at hr gR jt;obtain⟨ju,mC,zS,BV⟩:=yH4 t1 t2 i8 pm;have zE:wo.length<=50000:=McS;have bK:=zHi hr;clear hr i8 pm uI sW xV aV lU dR uC lK pa mY aI lQ t1 t2 t3 qE tF jV lV cK aU hq Hu hz aH dC
  go_upto_region 13 with(first
   |(go_at_call 158;go_must(refine(kw.o _ (by have:=aG.o;exact Bw)).mono ?_);rintro e wq ⟨rfl,z3,rfl⟩)
   |(go_at_call 128;go_must(refine(u7.o _ (by have:=aG.o;exact Bw)).mono ?_);rintro e wq ⟨rfl,z5,rfl⟩))
  obtain⟨QB,s8⟩:=Qd (W3.heap.size+z3.os.size+z5.os.size)
  obtain⟨W4,gZ⟩:=Qd (((W3.ext z3).ext z5).alloc (.cells #[.int .i64 (q).num,.int .i64 (q).den] 50))
  have gQ:W4.heap[QB]?=some (.cells #[.int .i64 (q).num,.int .i64 (q).den] 50):=by rw[gZ];exact zas _ _ _ (by rw[s8];simp[zaf])
  have aB:Qa W3 W4:=by rw[gZ];exact zad (zb2 (zan W3 z3) z5) _
  rw[<-gZ,<-s8];have FO:=aB.size;have ss:=aG.o.trans (aB.mono (by have:=aG.o.size;omega));obtain⟨G4,S4,Q4,rK⟩:=yH4 ((aB.block GB McS).trans G3.o) ((aB.block SB sb).trans GS.o) gQ (mF.o W4 (Bo.o.trans (aB.mono jD)));have sd:SB<W4.heap.size:=McS;have CL:GB<W4.heap.size:=McS;have CX:=zab gQ;have dL:=zHi ss;have Ak:=ss.size;clear gZ s8 gQ gS q0 q1 aB ss sb ax;clear xs0 xd0 xr0 s0 s1 s2 s3 s4 s5 s6 d0 d1 d2 d3 d4 d5 d6 r0 r1 r2 r3 r4 r5 r6 rf ls ld lr;obtain⟨g0,g1,g2,g3,g4⟩:=zeg G4.o;obtain⟨⟨xs0,xd0,xr0⟩,⟨s0,s1,s2,s3,s4,s5,s6⟩,⟨d0,d1,d2,d3,d4,d5,d6⟩,⟨r0,r1,r2,r3,r4,r5,r6⟩,rf,ls,ld,lr⟩:=ddF (av.o W4 (dL.o));go_upto_region 14 with(go_at_call 162;go_must(refine(rK.o).mono ?_);rintro e w5 ⟨v5,rfl,o5,b5⟩)
  obtain⟨VA,vc,rfl,fk,_⟩:=o5.sl zak;have kg:=zHi fk;have CC:=b5.size;obtain⟨bf,G5,S5,Q5⟩:=yH4 (dL.o.trans (b5.mono Ak)) ((b5.block GB CL).trans G4.o) ((b5.block SB sd).trans S4.o) ((b5.block QB CX).trans Q4.o);clear g0 g1 g2 g3 g4 o5 b5 fk;clear xs0 xd0 xr0 s0 s1 s2 s3 s4 s5 s6 d0 d1 d2 d3 d4 d5 d6 r0 r1 r2 r3 r4 r5 r6 rf ls ld lr;obtain⟨q0,q1⟩:=zbx Q5.o;obtain⟨e0,e1⟩:=zbx S5.o;have wU:=zab S5.o;have CY:=zab Q5.o;have wA:=zab G5.o;refine zdE 5 _ _ (.cells #[.int .i64 0,.int .i64 0] 50) (.cells #[.int .i64 (kq).num,.int .i64 (kq).den] 50) McT McT rfl rfl ?hrun ?_
  case hrun=>intro a W;kernel_rfl
  simp only[List.take_succ_cons,List.take_zero];repeat(refine zeK (λK hK=>?_);simp only[grow];go_simp;first|(refine hK _ ?_;clear hK K)|(apply Exists.intro;refine⟨λ_=>?_,hK _ ?_⟩;((first|(go_at_call 129;exact quietg (zhY _))|(go_at_call 164;exact quietg (eY.o _))|(go_at_call 163;exact quietg (jt.o _))));clear hK K))
  refine zfE ⟨?hstore,?hlast⟩
  case hstore=>
   exact MG
  case hlast=>
   rintro LB W6 ⟨z6,fU⟩ uk gL;have aS:Qa w5 W6:=by rw[fU];exact zan _ _
   have rO:=aS.size;obtain⟨bs,G6,S6,we⟩:=yH4 (bf.o.trans (aS.mono McS)) ((aS.block GB wA).trans G5.o) ((aS.block SB wU).trans S5.o) (kg.o.keep aS);have CM:=zab G6.o;have Db:=zab S6.o;have Kk:=zab gL;obtain⟨l0',l1'⟩:=zbx gL;clear fU aS q0 q1 e0 e1 wU CY wA;obtain⟨⟨xs0,xd0,xr0⟩,⟨s0,s1,s2,s3,s4,s5,s6⟩,⟨d0,d1,d2,d3,d4,d5,d6⟩,⟨r0,r1,r2,r3,r4,r5,r6⟩,rf,ls,ld,lr⟩:=ddF (av.o W6 (bs.o));by_cases hs:1000000000<(kq.den:Int)
   ·have HE:Hid (R=(s,8)):=by show _=_;rw[bK.o,if_pos (by simp[bigQ,hs])]
    go_upto_region 16 with fail
    have bl:=bs.o;exact Mg
   have bl:bigQ kq=false:=by simpa[bigQ]using hs
   obtain⟨k5,aq⟩:=gR.o bl;have hr:=bK.o;rw[bl,if_neg McV]at hr;change R=tpRes s i x.g (zb8 sh l0 (za5 wo d.frm kq))at hr;have eK:=zHi (zcW wo d.frm kq VA vc W6 McS wf.o k5 we.o);unfold zaA at eK;have kQ:=zcz d.frm kq wo;obtain⟨mE,aK⟩:=yH2 hr aq;clear hr aq k5 gR bK bl;go_upto_region 18 with(go_at_call 160;go_must(refine(eK.o).mono ?_);rintro e w7 ⟨v7,rfl,o7,b7⟩)
   have FQ:=b7.size;have bj:=bs.o.trans (b7.mono (by have:=bs.o.size;omega));obtain⟨G7,S7⟩:=yH2 ((b7.block GB CM).trans G6.o) ((b7.block SB Db).trans S6.o);have CN:=zab G7.o;have Dc:=zab S7.o;have bT:=zHi bj;have JW:=bj.size;have vM:=zHi o7;clear o7 b7 l0' l1' eK bj hs;generalize za5 wo d.frm kq=out0 at*;clear xs0 xd0 xr0 s0 s1 s2 s3 s4 s5 s6 d0 d1 d2 d3 d4 d5 d6 r0 r1 r2 r3 r4 r5 r6 rf ls ld lr;go_upto_region 19 with fail
   go_loopw [11,13] (λv n wr=>∃(k:Nat) (out:Parts),k<=d.to.length/\n=.int .i64 k/\Hid (R=tpRes s i x.g (zb8 sh (l0.drop k) out))/\Hid (GainSt sh out (l0.drop k))/\out.length<=50001+k/\OwnS wr W6.heap.size 55 3 zaa v out/\Qa w7 wr) (λ_ n _=>d.to.length-(intOf n).toNat)
   case atStart=>exact⟨0,out0,Nat.zero_le _,rfl,mE,aK,by omega,vM.o,Qb⟩
   case round=>
    obtain⟨k,out,hk,rfl,HX,HG,LO,aa,hB⟩:=hrel;have aM:=hB.size;have iN:=(hB.block GB CN).trans G7.o;have DW:=(hB.block SB Dc).trans S7.o;obtain⟨g0,g1,g2,g3,g4⟩:=zeg iN;obtain⟨q0,q1⟩:=zbx DW;have Ka:=zab iN;have Kw:=zab DW;have cB:=bT.o.trans (hB.mono JW);obtain⟨⟨xs0,xd0,xr0⟩,⟨s0,s1,s2,s3,s4,s5,s6⟩,⟨d0,d1,d2,d3,d4,d5,d6⟩,⟨r0,r1,r2,r3,r4,r5,r6⟩,rf,ls,ld,lr⟩:=ddF (av.o wr (cB));obtain⟨bk,HB,HO,wa⟩:=yH4 cB hB aa (HS.o wr (ak.o.trans (cB.mono ay)));by_cases ae:k<d.to.length
    ·obtain⟨b,off,hA,hb,ah⟩:=wa.o.at ae;have hx:=HX.o;have aq:=HG.o;rw[zS.o k ae]at hx aq;rw[zm4]at hx;have bS:=Cg.o _ (List.getElem_mem ae);have aj:=zHi ae;generalize d.to[k]=y at*;obtain⟨nm,nu,de⟩:=y;simp only at bS hx aq;have i0:wr.cell? ⟨b,off+k*3,none⟩=some (.string nm):=ah 0 _ rfl;have i1:wr.cell? ⟨b,off+k*3+1,none⟩=some (.int .i64 nu):=ah 1 _ rfl;have i2:wr.cell? ⟨b,off+k*3+2,none⟩=some (.int .i64 de):=ah 2 _ rfl;have au:(k:Int)<(d.to.length:Int):=McS;have aR:(0:Int)<=(k:Int):=McS;have nF:(⟨nm,nu,de⟩:RPart).rat=Rat.divInt nu de:=rfl;rw[nF]at hx aq;obtain⟨r1,r2,r3,r4⟩:=zbl bS;have l9:=zHi (λW=>zg0 sh (Rat.divInt nu de) W mC.o (zcB McU McU (zes bS) r3 r4));unfold zaA at l9;rw[r1,r2]at l9;obtain⟨p1,p2⟩:=aq.more ju.o;obtain⟨kA,lq⟩:=yH2 (λhl=>aq.next ju.o hl) (aq.parts ju.o);obtain⟨mo,yq⟩:=Qd (sh*Rat.divInt nu de)
     rw[<-yq]at hx l9 p1 p2 kA;obtain⟨mD,aw⟩:=yH2 (And.intro p1 p2) hx;rw[hA]at d4;obtain⟨HDW,Bi,kY⟩:=yH3 xd0 hA (show wr.cell? ⟨b,off+k*3,none⟩=some (.string nm)/\b<wr.heap.size from⟨i0,hb⟩);clear ah hx aq bS ae nF r1 r2 r3 r4 p1 p2 yq aa hB hA;go_upto_region 21 with fail
     refine zdE 8 _ _ (.cells #[.int .i64 0,.int .i64 0] 50) (.cells #[.int .i64 (mo).num,.int .i64 (mo).den] 50) McT McT rfl rfl ?hrun ?_
     case hrun=>intro a W;kernel_rfl
     simp only[List.take_succ_cons,List.take_zero];repeat(refine zeK (λK hK=>?_);simp only[grow];go_simp;first|(refine hK _ ?_;clear hK K)|(apply Exists.intro;refine⟨λ_=>?_,hK _ ?_⟩;((go_at_call 163;exact quietg (l9.o _)));clear hK K))
     refine zfE ⟨?hstore,?hlast⟩
     case hstore=>
      exact MG
     case hlast=>
      rintro MB W9 ⟨z9,xa⟩ Kl gM;have bW:Qa wr W9:=by rw[xa];exact zan _ _
      have CE:=bW.size;have sE:=bk.o.trans (bW.mono MeA);obtain⟨gw,qN,GM⟩:=yH3 bW sE gM;obtain⟨m0,m1⟩:=zbx gM;have rV:=zab gM;clear xa bW i0 i1 i2 g0 g1 g2 g3 g4 q0 q1;clear xs0 xd0 xr0 s0 s1 s2 s3 s4 s5 s6 d0 d1 d2 d3 d4 d5 d6 r0 r1 r2 r3 r4 r5 r6 rf ls ld lr;obtain⟨⟨xs0,xd0,xr0⟩,⟨s0,s1,s2,s3,s4,s5,s6⟩,⟨d0,d1,d2,d3,d4,d5,d6⟩,⟨r0,r1,r2,r3,r4,r5,r6⟩,rf,ls,ld,lr⟩:=ddF (av.o W9 (sE));clear sE;by_cases hs:1000000000<(mo.den:Int)
      ·have HE:Hid (R=(s,8)):=by show _=_;rw[aw.o,if_pos (by simp[bigQ,hs])];rfl
       go_upto_region 23 with fail
       have bl:=qN.o;exact Mg
      have bl:bigQ mo=false:=by simpa[bigQ]using hs
      have hx:=aw.o;rw[bl,if_neg McV]at hx;have du:=zHi hx;have ny:=zca mD.o.1 mD.o.2 bl;obtain⟨OV,oc,rfl,_,_⟩:=HO.o.sl zak;have eK:=zHi (λW (hW:Qa wr W)=>zcW out nm mo OV oc W (by have:=aj.o;omega) lq.o ny (zja zak (HO.o.keep hW)).1);unfold zaA at eK;have bQ:=zcz nm mo out;go_upto_region 24 with fail
      have DM:=d4;rw[Bi.o]at DM;have CF:=λ(W:World) (h:Qa W9 W)=>(zai h ld).trans DM
      have Kd:=λ(W:World) (h:Qa W9 W)=>(zai h (show b<W9.heap.size by have:=kY.o.2;omega)).trans ((zai gw.o kY.o.2).trans kY.o.1)
      clear DM;have aJ:=zHi (λ(W:World) (h:Qa W9 W)=>(show W.cell? ⟨w.heap.size+1,4,none⟩=some (.slice (some ⟨b,off,none⟩) d.to.length c)/\W.cell? ⟨b,off+k*3,none⟩=some (.string nm)/\W.cell? ⟨MB,0,none⟩=some (.int .i64 mo.num)/\W.cell? ⟨MB,1,none⟩=some (.int .i64 mo.den) from⟨(CF W h),(Kd W h),(zai h rV).trans m0,(zai h rV).trans m1⟩));clear hx ny bl hs;refine za9 8 (λbb w'=>bb=true\/(w'.cell? ⟨w.heap.size+1,4,none⟩=some (.slice (some ⟨b,off,none⟩) d.to.length c)/\w'.cell? ⟨b,off+k*3,none⟩=some (.string nm)/\w'.cell? ⟨MB,0,none⟩=some (.int .i64 mo.num)/\w'.cell? ⟨MB,1,none⟩=some (.int .i64 mo.den))) McT (.inr (aJ.o _ (zaF Qb))) ?hrest
      case hrest=>
       intro hHeld;refine TkM 0 ?_;refine TkM 1 ?_;refine TkM 2 ?_;refine TkM 3 ?_;refine TkM 4 ?_;refine TkM 5 ?_;refine TkM 6 ?_;refine TkM 7 ?_;refine OnM 8 true λK hK=>?_
       go_simp
       refine(eK.o _ (zaF gw.o)).mono ?_;rintro e w10 ⟨v10,rfl,o10,b10⟩;refine NxM hK λhHeld=>?_
       clear hK K;refine OnM 9 true λK hK=>?_
       go_simp
       refine NxM hK λhHeld=>?_
       clear hK K;refine zaO McT ?_ _;clear hHeld;obtain⟨YA,yc,rfl,pM,_⟩:=o10.sl zak;have hJ:Qa W9 w10:=(zaF Qb).trans b10;have mR:=qN.o.trans (hJ.mono (by have:=qN.o.size;omega));obtain⟨Bn,uX,oI,dr⟩:=yH4 (gw.o.trans (hJ.mono CE)) mR (o10.base_le (show W6.heap.size<=W9.drew.heap.size by have:=gw.o.size;have:=HB.o.size;have:=FQ;show W6.heap.size<=W9.heap.size;omega)) (λW (h:Qa w10 W)=>zdJ (za5 out nm mo) YA yc W (by have:=aj.o;omega) (pM.keep h));have JS:=hJ.size;clear o10 b10 pM hJ m0 m1 rV;clear xs0 xd0 xr0 s0 s1 s2 s3 s4 s5 s6 d0 d1 d2 d3 d4 d5 d6 r0 r1 r2 r3 r4 r5 r6 rf ls ld lr;obtain⟨⟨xs0,xd0,xr0⟩,⟨s0,s1,s2,s3,s4,s5,s6⟩,⟨d0,d1,d2,d3,d4,d5,d6⟩,⟨r0,r1,r2,r3,r4,r5,r6⟩,rf,ls,ld,lr⟩:=ddF (av.o w10 (mR));clear mR;have hx:=du.o;cases hlg:zaE (za5 out nm mo)
       ·rw[hlg]at hx dr;have aK:=zHi (kA.o hlg);have kF:Hid (R=tpRes s i x.g (zb8 sh (l0.drop (k+1)) (za5 out nm mo))):=by show _=_;rw[hx,if_neg McV]
        clear hx hlg;generalize za5 out nm mo=out1 at*;go_wp2_with (go_at_call 165;go_must(refine(dr.o _ Bw).mono ?_);rintro e wq ⟨rfl,rfl⟩)
        go_round
        case rel=>exact⟨k+1,out1,aj.o,by go_num,kF,aK,by omega,oI.o,HB.o.trans (Bn.o.mono aM)⟩
        case measure=>have:=aj.o;simp only[intOf];omega
       ·rw[hlg]at hx dr;have HE:Hid (R=(s,8)):=by show _=_;rw[hx,if_pos rfl];rfl
        clear hx hlg;generalize za5 out nm mo=out1 at*;go_upto_region 26 with(go_at_call 165;go_must(refine(dr.o _ Bw).mono ?_);rintro e wq ⟨rfl,rfl⟩)
        have bl:=uX.o;exact Mg
    ·have au:¬(k:Int)<(d.to.length:Int):=McS;have hx:=HX.o;rw[List.drop_of_length_le (by have:=BV.o;omega)]at hx;have HE:Hid (R=(s.withGrave i {x.g with holders:=out},0)):=Mex;obtain⟨VB,vd,rfl,_,_⟩:=aa.sl zak;have g3f:=frz iN;have mx:=zHi iN;clear aa ae hB DW hx;go_upto_region 28 with fail
     obtain⟨W8,x9⟩:=Qd (wr.setCell ⟨GB,3,none⟩ (.slice VB out.length vd))
     have gG6:W8.heap[GB]?=some (.cells #[.string x.g.place,.int .i64 x.g.cls,.int .i64 x.g.fin,.slice VB out.length vd,.slice x.D x.g.died.length x.dc] 91):=by
      rw[x9];have:=Joins.block_setCell (i:=3) mx.o (.slice VB out.length vd);simpa using this
     have mK:Qa W0 W8:=by rw[x9];exact zaS bk.o jd _
     have qt:OwnS W8 W6.heap.size 55 3 zaa (.slice VB out.length vd) out:=by rw[x9];exact HO.o.kept (za1 _ _ _ _) mx.o McU
     rw[<-x9];clear x9 g0 g1 g2 g3 g4 g3f q0 q1 iN;clear xs0 xd0 xr0 s0 s1 s2 s3 s4 s5 s6 d0 d1 d2 d3 d4 d5 d6 r0 r1 r2 r3 r4 r5 r6 rf ls ld lr;obtain⟨g0,g1,g2,g3,g4⟩:=zeg gG6;have bF:=zab gG6;have rO:=mK.size;obtain⟨⟨xs0,xd0,xr0⟩,⟨s0,s1,s2,s3,s4,s5,s6⟩,⟨d0,d1,d2,d3,d4,d5,d6⟩,⟨r0,r1,r2,r3,r4,r5,r6⟩,rf,ls,ld,lr⟩:=ddF (av.o W8 (mK));have mH:=zHi (rJ.o ({g:= {x.g with holders:=out},H:=VB,hc:=vd,D:=x.D,dc:=x.dc}:GX) W8 mK);unfold GX.cells zgM at mH;dsimp only at mH;obtain⟨bs,eA⟩:=yH2 mK qt;clear mK qt gG6
     go_wp2_with (go_at_call 166
                  go_must(refine(mH.o).mono ?_)
                  rintro e w5 ⟨ga,go,gc,rfl,b8,ar⟩;have bj:=bs.o.trans (ar.mono rO);obtain⟨_,_,xr5⟩:=av.o w5 bj;obtain⟨t0,t1,t2,t3,t4,t5,t6⟩:=zaG xr5;have tf:=frz xr5;obtain⟨bJ,bT,m9⟩:=yH3 b8 bj ar
                  clear b8 ar bj)
     rw[HE.o];refine bodyPost_ret (zbB rfl _ rfl rfl (zc0 xr5)) rfl ?_;have cC:=zcC (a0:=.slice LA laws.length c0) (a1:=.slice CA s.children.length c1) (a2:=.slice MA s.marriages.length c2) (a3:=.slice DA s.dead.length c3) (a4:=.slice WA wd.length c4) (a5:=.slice RA rd.length c5) (a6:=.slice (some ⟨ga,go,none⟩) s.graves.length gc) (ak.o.trans (bT.o.mono ay)) (show w.heap.size<=w.heap.size+2 by omega);obtain⟨A',c',oY,_,ej⟩:=eA.o.ro;obtain⟨rfl,_,rfl⟩:VB=A'/\out.length=out.length/\vd=c':=by simpa using oY
     exact⟨_,_,_,_,_,_,_,rfl,rfl,cC,λ_=>kD.o ({g:= {x.g with holders:=out},H:=VB,hc:=vd,D:=x.D,dc:=x.dc}:GX) _ ga go gc (H.o w Qb) HK.o cC (bJ.o.ne7 (zm3 bJ.o xr5 McU)) ⟨(zjm (ej.keep m9.o) xr5 McU).sl zak,(iz.keep cC).2⟩⟩
