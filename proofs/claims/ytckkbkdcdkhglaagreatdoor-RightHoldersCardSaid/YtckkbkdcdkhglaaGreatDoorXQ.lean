/- Walk of the reference's dies. -/
import Derived.Test.YtckkbkdcdkhglaaGreatDoorXP
set_option linter.unusedSimpArgs false
set_option linter.unusedVariables false
set_option maxRecDepth 100000
set_option maxHeartbeats 4000000
namespace Go.Proofs.YtckkbkdcdkhglaaGreatDoor
open Go.RowKit Go.Shelf
attribute [local go_sem] World.cell?_alloc_mark zag za5 zaq za8 zaw zax zay zaz za0 za1 za2
attribute [local go_sem] zap zad
theorem zpm {s:St} {n:ByteArray} {day:Int} {H:Option Parts} {k:Nat} {g:Grave} {l pre:List Grave} (h:zdq s n day k g=false):(zbz s n day H k (g::l)).map (pre++ ·)=(zbz s n day H (k+1) l).map ((pre++[g])++ ·):=by
 rw[zbz.eq_def];simp only[h];cases zbz s n day H (k+1) l<;>simp
theorem zpn {s:St} {n:ByteArray} {day:Int} {hs out:Parts} {k:Nat} {g:Grave} {l pre:List Grave} (h:zdq s n day k g=true) (hg:zb6 (zaf g.holders n) hs (zas g.holders n)=some out):
 (zbz s n day (some hs) k (g::l)).map (pre++ ·)=(zbz s n day (some hs) (k+1) l).map ((pre++[{g with holders:=out,died:=g.died++[n]}])++ ·):=by
 rw[zbz.eq_def];simp only[h,if_true,hg,Option.bind_some];cases zbz s n day (some hs) (k+1) l<;>simp
theorem zpo {s:St} {n:ByteArray} {day:Int} {H:Option Parts} {k:Nat} {g:Grave} {l pre:List Grave} (h:zdq s n day k g=true) (hg: ∀hs,H=some hs->zb6 (zaf g.holders n) hs (zas g.holders n)=none):
 (zbz s n day H k (g::l)).map (pre++ ·)=none:=by
 rw[zbz.eq_def];simp only[h,if_true];cases H with
 |none=>rfl
 |some hs=>
  simp only[hg hs rfl];rfl
def okR (gxs:List GX) (W:World) (x:GX):Prop:=x∈gxs\/(Ro W 63 zaa x.H x.g.holders/\Ro W 9 sC x.D x.g.died)
theorem okR.keep {gxs:List GX} {W W':World} {x:GX} {n:Nat} (h:okR gxs W x) (hB:Below n W W') (hn:W.heap.size<=n:=by first|exact Nat.le_refl _|omega):okR gxs W' x:=
 h.imp id fun⟨a,b⟩=>⟨a.keep hB hn,b.keep hB hn⟩
theorem okR.kept {gxs:List GX} {W W':World} {x:GX} {g:Nat} {cs:Array Value} {fr:Nat×Nat} (h:okR gxs W x) (hg:W.grownBy W' (some g)) (hx:W.heap[g]?=some (.cells cs 46 fr)):okR gxs W' x:=
 h.imp id fun⟨a,b⟩=>⟨a.kept hg hx Mcn,b.kept hg hx Mcn⟩
theorem grav_ne {s:St} {pl:ByteArray} {day:Int} {k:Nat} (h: ¬zaJ s pl day=some k):zjp s.graves pl day≠(k:Int):=by
 cases hx:zaJ s pl day with
 |none=>rw[zfs hx];omega
 |some i=>
  rw[zd3 hx];intro e;have:i=k:=by omega
  subst this;exact h hx
theorem set_mid {α:Type} (a:List α) (x y:α) (l:List α) {k:Nat} (h:a.length=k):(a++x::l).set k y=a++y::l:=by
 subst h;induction a with
 |nil=>rfl
 |cons b a ih=>simp only[List.cons_append,List.length_cons,List.set_cons_succ,ih]
theorem row_two {W:World} {ga go k:Nat} {dx rest:List GX} {x:GX} {out:Parts} {n:ByteArray} {OV A5:Option Addr} {oc c5:Nat} (hk:dx.length=k) (h:RowC W 46 ga go 5 (((dx++x::rest).map GX.cells).set k (x.cells.set 3 (.slice OV out.length oc)))):
 RowC (W.setCell ⟨ga,go+k*5+4,none⟩ (.slice A5 (x.g.died.length+1) c5)) 46 ga go 5 ((dx++[(⟨{x.g with holders:=out,died:=x.g.died++[n]},OV,oc,A5,c5⟩:GX)]++rest).map GX.cells):=by
 have e1:((dx++x::rest).map GX.cells).set k (x.cells.set 3 (.slice OV out.length oc))=dx.map GX.cells++(x.cells.set 3 (.slice OV out.length oc))::rest.map GX.cells:=by
  rw[List.map_append,List.map_cons,set_mid _ _ _ _ (by rw[List.length_map];exact hk)]
 rw[e1]at h;have h2:=h.set (i:=k) (j:=4) (c:=x.cells.set 3 (.slice OV out.length oc)) (u:= .slice A5 (x.g.died.length+1) c5) (by rw[List.getElem?_append_right (by rw[List.length_map];omega),List.length_map,hk,Nat.sub_self];rfl) Mcn;rw[set_mid _ _ _ _ (by rw[List.length_map];exact hk)]at h2;have e2:(dx++[(⟨{x.g with holders:=out,died:=x.g.died++[n]},OV,oc,A5,c5⟩:GX)]++rest).map GX.cells=dx.map GX.cells++((x.cells.set 3 (.slice OV out.length oc)).set 4 (.slice A5 (x.g.died.length+1) c5))::rest.map GX.cells:=by
  rw[List.append_assoc,List.map_append];congr 1
  simp[GX.cells]
 rw[e2];exact h2
theorem hxd5 {W:World} {ga go k:Nat} {css:List (List Value)} {x:GX} {u:Value} (h:RowC W 46 ga go 5 (css.set k (x.cells.set 3 u))) (hc:css[k]?=some x.cells):W.cell? ⟨ga,go+k*5+4,none⟩=some (.slice x.D x.g.died.length x.dc):=by
 have hk:k<css.length:=(List.getElem?_eq_some_iff.1 hc).1;exact h.at (k:=k) (c:=x.cells.set 3 u) (by rw[List.getElem?_set_self hk]) (j:=4) rfl
theorem okR.keptS {gxs:List GX} {W W':World} {x:GX} {g:Nat} {cs:Array Value} {fr:Nat×Nat} (h:okR gxs W x) (hg:W.grownBy W' (some g)) (hx:W.heap[g]?=some (.cells cs 40 fr)):okR gxs W' x:=
 h.imp id fun⟨a,b⟩=>⟨a.kept hg hx Mcn,b.kept hg hx Mcn⟩
theorem dsF {W:World} {a c:Nat} {x0 x1 x2 x3 x4 x5 x6 z0 z1 z2 z3 z4 z5 z6:Value} {t u:TypeId} {f:Nat×Nat} (h:W.heap[a]?=some (.cells #[x0,x1,x2,x3,x4,x5,x6] t f)/\W.heap[c]?=some (.cells #[z0,z1,z2,z3,z4,z5,z6] u (0,0))):
 (W.heap[a]?=some (.cells #[x0,x1,x2,x3,x4,x5,x6] t f)/\W.heap[c]?=some (.cells #[z0,z1,z2,z3,z4,z5,z6] u (0,0)))/\(W.cell? ⟨a,0,none⟩=some x0/\W.cell? ⟨a,1,none⟩=some x1/\W.cell? ⟨a,2,none⟩=some x2/\W.cell? ⟨a,3,none⟩=some x3/\W.cell? ⟨a,4,none⟩=some x4/\W.cell? ⟨a,5,none⟩=some x5/\W.cell? ⟨a,6,none⟩=some x6)/\(W.cell? ⟨c,0,none⟩=some z0/\W.cell? ⟨c,1,none⟩=some z1/\W.cell? ⟨c,2,none⟩=some z2/\W.cell? ⟨c,3,none⟩=some z3/\W.cell? ⟨c,4,none⟩=some z4/\W.cell? ⟨c,5,none⟩=some z5/\W.cell? ⟨c,6,none⟩=some z6)/\(∀j,W.frozen? ⟨c,j,none⟩=false)/\a<W.heap.size/\c<W.heap.size:=
 ⟨h,zaG h.1,zaG h.2,frz h.2,zab h.1,zab h.2⟩
theorem ds_boxes {w:World} (o0 o1:Obj):Hid (Below w.heap.size w ((w.alloc o0).alloc o1))/\Hid (∀W,Below ((w.alloc o0).alloc o1).heap.size ((w.alloc o0).alloc o1) W->W.heap[w.heap.size]?=some o0/\W.heap[w.heap.size+1]?=some o1):=by
 refine⟨by show Below _ _ _;exact Bw,fun W hB=>⟨?_,?_⟩⟩
 ·exact(hB.block _ Mcq).trans (zak (zar _ _ _ rfl))
 ·exact(hB.block _ Mco).trans (zar _ _ _ Mco)
theorem rDies_any (laws:List Law) (s:St) (wd rd:List Deed) (LA CA MA DA WA RA GA:Option Addr) (c0 c1 c2 c3 c4 c5 c6:Nat) (n:ByteArray) (day:Int) (w:World) (h:StIn w laws s wd rd LA CA MA DA WA RA GA c0 c1 c2 c3 c4 c5 c6) (hk:StLink s wd rd) (hf:StFew s wd rd) (bh:zaA laws=0) (hW:WillOk (zbu s n)) (pk: ∀a,¬Desc s a a) (cx:(zbu s n).length<=8)
 (b9: ∀g∈s.graves,GoodG g/\g.holders.length<=50000) (iQ: ∀g∈s.graves,g.died.length<=1000) (hel: ∀hs,zbZ s (zaV laws day) n=some hs->hs.length<=1000/\GoodParts hs/\sumQ hs<=1/\zaE hs=false):
 Calls Tryz.prog 140 #[.agg #[.slice LA laws.length c0, .slice CA s.children.length c1, .slice MA s.marriages.length c2, .slice DA s.dead.length c3, .slice WA wd.length c4, .slice RA rd.length c5, .slice GA s.graves.length c6], .string n, .int .i64 day] w (zkT w laws (zpl laws s n day)):=by
 obtain⟨R,hR⟩: ∃R,R=zpl laws s n day:=⟨_,rfl⟩
 rw[<-hR];unfold zpl at hR;obtain⟨gxs,hm,bp,bw⟩:=zns h.graves;have HM:=zHi hm;have dm:=zHi bp;have bZ:=zHi bw;have ej:=zHi b9;have ig:=zHi iQ;have H:=zHi (fun W (hB:Below w.heap.size w W)=>h.keep hB);have HK:=zHi hk;have HF:=zHi hf;have fJ:=zHi (fun W (hB:Below w.heap.size w W)=>zjb laws s wd rd LA CA MA DA WA RA GA c0 c1 c2 c3 c4 c5 c6 n day W (H.o W hB) hk hf bh hW pk cx);obtain⟨HH,tu⟩: ∃HH,HH=zbZ s (zaV laws day) n:=⟨_,rfl⟩
 rw[<-tu]at hR fJ hel;have eT:=zHi hel;have oD:=hf.graves;have x8:gxs.length=s.graves.length:=by rw[<-hm,List.length_map]
 obtain⟨D0,oh⟩: ∃D0,D0=zbz s n day HH 0 s.graves:=⟨_,rfl⟩
 rw[<-oh]at hR;have GU:=zHi oh;have HR:=zHi hR;unfold zgI at fJ;clear h hk hf bh hW pk cx b9 iQ hel hm bp bw tu oh hR;go_enter Tryz.func140,Tryz.ntmps140
 go_upto_region 1 with fail
 obtain⟨W0,ao⟩: ∃W0,W0=(w.alloc (.cells #[.slice LA laws.length c0, .slice CA s.children.length c1, .slice MA s.marriages.length c2, .slice DA s.dead.length c3, .slice WA wd.length c4, .slice RA rd.length c5, .slice GA s.graves.length c6] 40)).alloc (.cells #[.slice none 0 0, .slice none 0 0, .slice none 0 0, .slice none 0 0, .slice none 0 0, .slice none 0 0, .slice none 0 0] 40):=⟨_,rfl⟩
 obtain⟨ak,ax⟩:Hid (Below w.heap.size w W0)/\Hid (∀W,Below W0.heap.size W0 W->W.heap[w.heap.size]?=some (.cells #[.slice LA laws.length c0, .slice CA s.children.length c1, .slice MA s.marriages.length c2, .slice DA s.dead.length c3, .slice WA wd.length c4, .slice RA rd.length c5, .slice GA s.graves.length c6] 40)/\W.heap[w.heap.size+1]?=some (.cells #[.slice none 0 0, .slice none 0 0, .slice none 0 0, .slice none 0 0, .slice none 0 0, .slice none 0 0, .slice none 0 0] 40)):=by
  rw[ao];exact ds_boxes _ _
 rw[<-ao];clear ao;have aw:=ak.o.size;obtain⟨⟨xs0,xr0⟩,⟨s0,s1,s2,s3,s4,s5,s6⟩,⟨r0,r1,r2,r3,r4,r5,r6⟩,rf,ls,lr⟩:=dsF (ax.o W0 (Below.refl _ _));go_upto_region 2 with(go_at_call 18;go_must(refine(fJ.o _ ak.o).mono ?_);rintro e w1 ⟨EA,ec,hs,lg,rfl,Fd,b1,_,hE⟩)
 have yY:=zHi Fd;have HE:=zHi hE;have aG:=zHi b1;have im:=b1.size;clear Fd hE b1;clear xs0 xr0 s0 s1 s2 s3 s4 s5 s6 r0 r1 r2 r3 r4 r5 r6 rf ls lr;obtain⟨⟨xs0,xr0⟩,⟨s0,s1,s2,s3,s4,s5,s6⟩,⟨r0,r1,r2,r3,r4,r5,r6⟩,rf,ls,lr⟩:=dsF (ax.o w1 (aG.o))
 go_upto_region 4 with(at_builtin
                       go_loud(refine zav (v:= .slice (some ⟨w1.heap.size,0,none⟩) 0 0) (n:=0) (m:=s.graves.length) rfl _ _ rfl zhl zcS zkb rfl (xs:=[]) (ys:=gxs) (zkd w1 w1.heap.size (Nat.le_refl _)) rfl rfl x8.symm (bZ.o.keep (ak.o.trans ((aG.o.trans (Below.mono (B:=w1.heap.size) Bw im)).mono aw))) McT Mcl Mco ?_)
                       intro v2 w2 h1 h2 h3;rw[List.nil_append]at h1;have bF:Below w1.heap.size w1 w2:=Below.grown (zac (Below.refl _ _) _) h2 Mco McZ;have dl:=zHi h1;have aS:=zHi bF;obtain⟨V2,c2',rfl,_,_⟩:=h1.sl zcS
                       clear h1 h2 h3 bF)
 obtain⟨ga,go,hV⟩: ∃ga go,s.graves≠[]->V2=some ⟨ga,go,none⟩/\w1.heap.size<=ga/\RowC w2 46 ga go 5 (gxs.map GX.cells):=by
  by_cases ai:s.graves=[]
  ·exact⟨0,0,fun h=>absurd ai h⟩
  ·have hl:0<s.graves.length:=List.length_pos_iff.2 ai;have ho:=dl.o;have fF:=ho.ge;obtain⟨A,c9,e9,hS,_⟩:=ho.sl zcS;obtain⟨rfl,rfl⟩:V2=A/\c2'=c9:=by simpa[x8]using e9
   obtain⟨gb,gof,rfl,_⟩:=hS Mcl;exact⟨gb,gof,fun _=>⟨rfl,(fF gb rfl).1,ho.row zcS⟩⟩
 have HV:=zHi hV;have kR:=aS.o.size;have GW:Hid (D0=(zbz s n day HH 0 (s.graves.drop 0)).map (([]:List GX).map (·.g)++ ·)):=by
  show _=_;rw[GU.o,List.drop_zero];cases zbz s n day HH 0 s.graves<;>rfl
 have EQ:HH=if lg then none else some hs:=by rcases HE.o with⟨h1,rfl⟩|⟨h1,rfl⟩<;>rw[h1]<;>rfl
 have yR:=zHi EQ;clear hV EQ;clear xs0 xr0 s0 s1 s2 s3 s4 s5 s6 r0 r1 r2 r3 r4 r5 r6 rf ls lr;go_upto_region 5 with fail
 go_loopw [9,10,12] (fun v9 v10 i wr=> ∃(k:Nat) (l f:Bool) (dx:List GX),k<=s.graves.length/\i= .int .i64 k/\v9= .bool l/\v10= .bool f/\dx.length=k/\Hid (s.graves≠[]->RowC wr 46 ga go 5 ((dx++gxs.drop k).map GX.cells))/\Hid (∀x∈dx,okR gxs wr x)/\Hid ((f&&l)=true->D0=none)/\Hid ((f&&l)=false->D0=(zbz s n day HH k (s.graves.drop k)).map (dx.map (·.g)++ ·)/\HH=if l then none else some hs)/\Below w1.heap.size w1 wr/\w2.heap.size<=wr.heap.size) (fun _ _ i _=>s.graves.length-(intOf i).toNat)
 case atStart=>exact⟨0,lg,false,[],Nat.zero_le _,rfl,rfl,rfl,rfl,zHi fun ai=>(HV.o ai).2.2,zHi Mco,zHi Mco,zHi fun _=>⟨GW.o,yR.o⟩,aS.o,Nat.le_refl _⟩
 case round=>
  obtain⟨k,l,f,dx,hk,rfl,rfl,rfl,iy,Bc,gn,nS,kL,hB,jE⟩:=hrel;obtain⟨WR,ov⟩: ∃WR,WR=wr:=⟨_,rfl⟩
  subst ov;have aK:=hB.size;have cy:=aG.o.trans (hB.mono im);have HB:=zHi hB;have aW:=zHi cy;obtain⟨⟨xs0,xr0⟩,⟨s0,s1,s2,s3,s4,s5,s6⟩,⟨r0,r1,r2,r3,r4,r5,r6⟩,rf,ls,lr⟩:=dsF (ax.o WR (cy));by_cases aa:k<s.graves.length
  ·have ai:s.graves≠[]:=fun e=>by rw[e]at aa;simp at aa
   obtain⟨rfl,zS,_⟩:=HV.o ai;have bX:=zHi (Bc.o ai);have kW:k<gxs.length:=Mcl;have bm:((dx++gxs.drop k).map GX.cells)[k]?=some gxs[k].cells:=by
    rw[List.getElem?_map,List.getElem?_append_right Mcl,iy,Nat.sub_self,List.getElem?_drop,Nat.add_zero,List.getElem?_eq_getElem kW];rfl
   have pB:gxs[k].g=s.graves[k]:=by
    have:s.graves[k]?=some gxs[k].g:=by rw[<-HM.o,List.getElem?_map,List.getElem?_eq_getElem kW];rfl
    rw[List.getElem?_eq_getElem aa]at this;exact(Option.some.inj this).symm
   have ug:gxs[k]∈gxs:=List.getElem_mem kW;have kE:gxs[k].g∈s.graves:=by rw[pB];exact List.getElem_mem aa
   have Fs:s.graves.drop k=gxs[k].g::s.graves.drop (k+1):=by rw[pB];exact List.drop_eq_getElem_cons aa
   have Fr:gxs.drop k=gxs[k]::gxs.drop (k+1):=List.drop_eq_getElem_cons kW;have aq:=zHi aa;generalize gxs[k]=x at*;have ie:=dm.o x ug;obtain⟨dr,cB⟩:=ej.o x.g kE;have bz:=ig.o x.g kE;have AB:=zHi dr;have th:=zHi (fun W (hB:Below w.heap.size w W)=>ie.keep hB);have bu:=zHi ug;have yK:=zHi Fs;have At:=zHi Fr;have dK:=zHi bm;have i0:WR.cell? ⟨ga,go+k*5,none⟩=some (.string x.g.place):=by have:=bX.o.at bm (j:=0) rfl;simpa using this
   have i3:WR.cell? ⟨ga,go+k*5+3,none⟩=some (.slice x.H x.g.holders.length x.hc):=bX.o.at bm (j:=3) rfl;have i4:WR.cell? ⟨ga,go+k*5+4,none⟩=some (.slice x.D x.g.died.length x.dc):=bX.o.at bm (j:=4) rfl;have Di:ga<WR.heap.size:=bX.o.lt;have ar:(k:Int)<(s.graves.length:Int):=Mcl;have aT:(0:Int)<=(k:Int):=Mcl;have bj:=ak.o.trans (cy.mono aw);have ni:=zHi (zfk x.g.holders n x.H x.hc WR Mcl (th.o WR bj).1);have cx:=zdQ x.g.holders n;have lV:=zHi (fun W (hB:Below w.heap.size w W)=>zhy x.g.holders n x.H x.hc W Mcl (th.o W hB).1);have ho:=zb8 dr.good n;have pP:=zcJ n dr.small;have aP:=zdw dr.good n;have pX:=zck (n:=n) dr.good;have Gq:=zbH (n:=n) dr.good;have yx:=zd7 n dr.small;have FA: ∀b,zaJ s x.g.place day=some k->(zaf x.g.holders n==0)=b->zdq s n day k x.g=!b:=by
    intro b e1 e2;unfold zdq;rw[e1,bne,e2];simp
   have tM: ¬zaJ s x.g.place day=some k->zdq s n day k x.g=false:=by
    intro e1;unfold zdq;cases hx:zaJ s x.g.place day==some k
    ·rw[Bool.and_false]
    ·exact absurd (by simpa using hx) e1
   have zU:zaf x.g.holders n=0->zdq s n day k x.g=false:=by
    intro e1;unfold zdq;rw[e1];rfl
   have g9:=zHi (fun(pre:List Grave) (hh:zdq s n day k x.g=false)=>zpm (H:=HH) (l:=s.graves.drop (k+1)) (pre:=pre) hh);have Hb:=zHi (fun(pre:List Grave) hs out (hh:zdq s n day k x.g=true) hg=>zpn (s:=s) (n:=n) (day:=day) (hs:=hs) (out:=out) (l:=s.graves.drop (k+1)) (pre:=pre) hh hg);have H8:=zHi (fun(pre:List Grave) (hh:zdq s n day k x.g=true) hg=>zpo (H:=HH) (l:=s.graves.drop (k+1)) (pre:=pre) hh hg);have AE:=zHi (show(zaJ s x.g.place day=some k->zaf x.g.holders n≠0->zdq s n day k x.g=true) from fun e1 e2=>by rw[FA false e1 (by simpa using e2)];rfl);have rO:sumQ x.g.holders<=1:=by
    rcases dr.one with e|e
    ·rw[e];decide
    ·rw[e];exact Rat.le_refl
   generalize zaf x.g.holders n=sh at*;generalize zas x.g.holders n=wo at*;have jP:zaK sh:=zcb ho McO pP;unfold za9 at ni;clear bm pB kE Fs Fr ug ie dr aa ai FA cy Bc;go_upto_region 8 with(go_at_call 165;go_must(refine(ni.o).mono ?_);rintro e wq ⟨rfl,z2,rfl⟩)
   obtain⟨SB,gD⟩: ∃SB,SB=WR.heap.size+z2.os.size:=⟨_,rfl⟩
   obtain⟨W3,aX⟩: ∃W3,W3=(WR.ext z2).alloc (.cells #[.int .i64 (sh).num, .int .i64 (sh).den] 58):=⟨_,rfl⟩
   have gS:W3.heap[SB]?=some (.cells #[.int .i64 (sh).num, .int .i64 (sh).den] 58):=by rw[aX];exact zar _ _ _ (by rw[gD];simp[zag])
   have av:Below WR.heap.size WR W3:=by rw[aX];exact zac (zam WR z2) _
   rw[<-aX,<-gD];clear aX gD i0 i3 i4;clear xs0 xr0 s0 s1 s2 s3 s4 s5 s6 r0 r1 r2 r3 r4 r5 r6 rf ls lr;have jl:=av.size;have aJ:=zHi av;have rH:=aW.o.trans (av.mono Md2);have uq:=zHi rH;have lR:=zHi (bX.o.keep av);obtain⟨q0,q1⟩:=zba gS;have ri:=zab gS;have GS:=zHi gS;obtain⟨⟨xs0,xr0⟩,⟨s0,s1,s2,s3,s4,s5,s6⟩,⟨r0,r1,r2,r3,r4,r5,r6⟩,rf,ls,lr⟩:=dsF (ax.o W3 (rH));clear rH av gS;have i0:W3.cell? ⟨ga,go+k*5,none⟩=some (.string x.g.place):=by have:=lR.o.at dK.o (j:=0) rfl;simpa using this
   have Dj:ga<W3.heap.size:=lR.o.lt;by_cases hz:sh=0
   ·have mW:(sh.num==0)=true:=by rw[hz];rfl
    have dg:=g9.o (dx.map (·.g)) (zU hz);rw[<-yK.o]at dg;have Ef:=zHi dg;clear hz zU tM dg ho pP aP pX jP
    (refine zaj Mcm Mcm ?_
     repeat(first|go_big_quiet_skip|(go_big_quiet_want;go_big_quiet_op;first|go_big_quiet_on|(apply Exists.intro;refine⟨fun _=> ?_,?_⟩;(fail);go_big_quiet_on)))
     refine wpQuiet_nil ?_
     rintro _ ⟨zq,rfl⟩)
    exact MG
   have mW:(sh.num==0)=false:=by
    exact Mbd
   have cP:=zHi (fun W (hB:Below W3.heap.size W3 W)=>ziW x.g.place day W (H.o W (ak.o.trans ((uq.o.trans (hB.mono (by have:=uq.o.size;omega))).mono aw))) HF.o);by_cases aA:zaJ s x.g.place day=some k;rotate_left 1
   ·have dg:=g9.o (dx.map (·.g)) (tM aA);rw[<-yK.o]at dg;have Ef:=zHi dg;have i8:=grav_ne aA;generalize zjp s.graves x.g.place day=gi at*;have JO:(gi==(k:Int))=false:=by simpa using i8
    have JP:(gi != (k:Int))=true:=by simpa using i8
    clear hz zU tM dg aA i8 ho pP aP pX jP
    (refine zaj Mcm Mcm ?_
     repeat(first|go_big_quiet_skip|(go_big_quiet_want;go_big_quiet_op;first|go_big_quiet_on|(apply Exists.intro;refine⟨fun _=> ?_,?_⟩;((go_at_call 13;exact quietx (cP.o _ Bw)));go_big_quiet_on)))
     refine wpQuiet_nil ?_
     rintro _ ⟨zq,rfl⟩)
    exact MG
   have pD:=AE.o aA hz;rw[zd3 aA]at cP;have DS:=zHi pD;clear zU tM aA pD
   (refine zaj Mcm Mcm ?_
    repeat(first|go_big_quiet_skip|(go_big_quiet_want;go_big_quiet_op;first|go_big_quiet_on|(apply Exists.intro;refine⟨fun _=> ?_,?_⟩;((go_at_call 13;exact quietx (cP.o _ Bw)));go_big_quiet_on)))
    refine wpQuiet_nil ?_
    rintro _ ⟨zq,rfl⟩)
   obtain⟨W4,iu⟩: ∃W4,W4=W3.ext zq:=⟨_,rfl⟩
   have aD:Below W3.heap.size W3 W4:=by rw[iu];exact zam _ _
   rw[<-iu];have Jq:=aD.size;have eE:=zHi (aJ.o.trans (aD.mono jl));have GS4:=zHi ((aD.block SB ri).trans GS.o);have rI:=aW.o.trans (eE.o.mono Md2);have GI:=zHi rI;have i3:W4.cell? ⟨ga,go+k*5+3,none⟩=some (.slice x.H x.g.holders.length x.hc):=(bX.o.keep eE.o).at dK.o (j:=3) rfl;have Kz:ga<W4.heap.size:=(bX.o.keep eE.o).lt;have rj:SB<W4.heap.size:=Mcl;have qM:=zHi (lV.o W4 (ak.o.trans (rI.mono aw)));have qq:Hid (l=false->HH=some hs/\hs.length<=1000/\GainSt sh wo hs):=zHi fun hl=>by
    have tu:=(kL.o (by rw[hl,Bool.and_false])).2;rw[hl]at tu;obtain⟨e1,e2,e3,e4⟩:=eT.o hs tu;have hp: ∀p∈hs,0<=p.2:=fun p hp=>by have:=e2.pos p hp;grind
    have:=Rat.mul_le_mul_of_nonneg_left e3 ho;exact⟨tu,e1,Gq,yx,by grind,hp⟩
   have jc:=zHi ho;have lO:=zHi jP;clear iu i0 q0 q1 ri rI aD hz mW ho pP aP pX Gq yx jP rO Dj Di;clear xs0 xr0 s0 s1 s2 s3 s4 s5 s6 r0 r1 r2 r3 r4 r5 r6 rf ls lr;go_upto_region 11 with(go_at_call 166;go_must(refine(qM.o).mono ?_);rintro e w5 ⟨v5,rfl,o5,b5⟩)
   have kM:=zHi o5;have aH:=zHi b5;have BE:=b5.size;clear i3 o5 b5;go_upto_region 12 with fail
   go_loopw [9,14,15] (fun v9 v14 j wr=> ∃(i:Nat) (l':Bool) (out:Parts),i<=hs.length/\j= .int .i64 i/\v9= .bool l'/\OwnS wr W4.heap.size 63 3 zaa v14 out/\out.length<=50000+i/\Below w5.heap.size w5 wr/\Hid (l'=false->l=false/\zb6 sh hs wo=zb6 sh (hs.drop i) out/\GainSt sh out (hs.drop i))/\Hid (l'=true->l=true\/zb6 sh hs wo=none)) (fun _ _ j _=>hs.length-(intOf j).toNat)
   case atStart=>exact⟨0,l,wo,Nat.zero_le _,rfl,rfl,kM.o,by omega,Below.refl _ _,zHi fun e=>⟨e,rfl,(qq.o e).2.2⟩,zHi fun e=> .inl e⟩
   case round=>
    obtain⟨i,l',out,hi,rfl,rfl,ae,kr,vA,yU,qu⟩:=hrel;have rD:=vA.size;have cO:=zHi (aH.o.trans (vA.mono BE));have pZ:=zHi vA;have yH:=zHi vA;have HO:=zHi ae;have Ca:wr.heap[SB]?=_:=(cO.o.block SB rj).trans GS4.o;obtain⟨q0,q1⟩:=zba Ca;have Jc:=zab Ca;have wy:Below w1.heap.size w1 wr:=HB.o.trans ((eE.o.trans (cO.o.mono (by have:=eE.o.size;omega))).mono aK);have vl:=zHi (yY.o.keep wy);clear vA wy Ca;by_cases hlti:i<hs.length
    ·have tP:(i:Int)<(hs.length:Int):=Mcl;have eN:(0:Int)<=(i:Int):=Mcl;cases l'
     ·obtain⟨jw,gI,aM⟩:=yU.o rfl;obtain⟨b,off,hA,hb,ah⟩:=vl.o.at hlti;have gF:hs.drop i=hs[i]::hs.drop (i+1):=List.drop_eq_getElem_cons hlti;rw[gF]at aM gI;have jO:=(qq.o jw).2.1;have cY:=zHi hlti;have su:0<hs[i].2/\hs[i].2<=1/\zaK hs[i].2:=by
       obtain⟨_,e2,e3,e4⟩:=eT.o hs (qq.o jw).1;exact zdH (hs:=hs) ⟨e2,e4,e3⟩ (List.getElem_mem hlti)
      clear gF;generalize hs[i]=y at*;obtain⟨nm,q⟩:=y;simp only at su;have i0:wr.cell? ⟨b,off+i*3,none⟩=some (.string nm):=ah 0 _ rfl;have i1:wr.cell? ⟨b,off+i*3+1,none⟩=some (.int .i64 q.num):=ah 1 _ rfl;have i2:wr.cell? ⟨b,off+i*3+2,none⟩=some (.int .i64 q.den):=ah 2 _ rfl;have kJ:=zHi (fun W=>zg6 sh q W lO.o su.2.2);unfold za9 at kJ;obtain⟨p1,p2⟩:=aM.more jc.o;have jW:=zHi (fun hl=>aM.next jc.o hl);have kN:=zHi (aM.parts jc.o);rw[zmp]at gI;obtain⟨mo,xA⟩: ∃mo,mo=sh*q:=⟨_,rfl⟩
      rw[<-xA]at gI kJ p1 p2 jW;have lP:=zHi (And.intro p1 p2);have uE:=zHi gI;have p8:=zHi jw;clear ah aM gI hlti su p1 p2 xA ae jw;subst hA;go_upto_region 14 with fail
      refine zdC 7 _ _ (.cells #[.int .i64 0, .int .i64 0] 58) (.cells #[.int .i64 (mo).num, .int .i64 (mo).den] 58) Mcm Mcm rfl rfl ?hrun ?_
      case hrun=>intro a W;kernel_rfl
      simp only[List.take_succ_cons,List.take_zero];repeat(refine zeD (fun K hK=> ?_);simp only[grow];go_simp;first|(refine hK _ ?_;clear hK K)|(apply Exists.intro;refine⟨fun _=> ?_,hK _ ?_⟩;((go_at_call 42;exact quietg (kJ.o _)));clear hK K))
      refine zf4 ⟨?hstore,?hlast⟩
      case hstore=>
       exact ME
      case hlast=>
       rintro MB W9 ⟨z9,wj⟩ J0 gM;have bf:Below wr.heap.size wr W9:=by rw[wj];exact zam _ _
       have BG:=bf.size;have qw:=zHi bf;obtain⟨m0,m1⟩:=zba gM;have qX:=zab gM;have i9:W9.cell? ⟨b,off+i*3,none⟩=some (.string nm):=(zah bf hb).trans i0;have Cp:b<W9.heap.size:=Mcl;clear wj bf i0 i1 i2 q0 q1;by_cases y8:1000000000<(mo.den:Int)
       ·have i8:zb6 sh hs wo=none:=by rw[uE.o,if_pos (by simp[bigQ,y8])]
        have Hk:=zHi i8;clear i8;go_wp2_with fail
        go_round
        case rel=>exact⟨i+1,true,out,cY.o,by go_num,rfl,HO.o.keep qw.o,by omega,(pZ.o).trans (qw.o.mono rD),zHi Mco,zHi fun _=> .inr Hk.o⟩
        case measure=>have:=cY.o;simp only[intOf];omega
       ·have bs:bigQ mo=false:=by simpa[bigQ]using y8
        have b9:=uE.o;rw[bs,if_neg Mco]at b9;have AA:=zHi b9;have mN:=zcb lP.o.1 lP.o.2 bs;obtain⟨OV,oc,rfl,_,_⟩:=HO.o.sl zan;have eF:=zHi (fun W (hW:Below wr.heap.size wr W)=>zcR out nm mo OV oc W (by have:=cY.o;omega) kN.o mN (ziT zan (HO.o.keep hW)).1);unfold za9 at eF;have cB:=zcy nm mo out;go_upto_region 17 with fail
        have aL:=zHi (fun(W:World) (h:Below W9.heap.size W9 W)=>(show W.cell? ⟨b,off+i*3,none⟩=some (.string nm)/\W.cell? ⟨MB,0,none⟩=some (.int .i64 mo.num)/\W.cell? ⟨MB,1,none⟩=some (.int .i64 mo.den) from⟨(zah h Cp).trans i9,(zah h qX).trans m0,(zah h qX).trans m1⟩));clear b9 mN bs y8 i9 m0 m1;refine zaC 7 (fun bb w'=>bb=true\/(w'.cell? ⟨b,off+i*3,none⟩=some (.string nm)/\w'.cell? ⟨MB,0,none⟩=some (.int .i64 mo.num)/\w'.cell? ⟨MB,1,none⟩=some (.int .i64 mo.den))) Mcm (.inr (aL.o _ (zaM (Below.refl _ _)))) ?hrest
        case hrest=>
         intro hHeld;refine TkM 0 ?_;refine TkM 1 ?_;refine TkM 2 ?_;refine TkM 3 ?_;refine TkM 4 ?_;refine TkM 5 ?_;refine TkM 6 ?_;refine OnM 7 true fun K hK=> ?_
         go_simp
         refine(eF.o _ (zaM qw.o)).mono ?_;rintro e w10 ⟨v10,rfl,o10,b10⟩;refine NxM hK fun hHeld=> ?_
         clear hK K;refine OnM 8 true fun K hK=> ?_
         go_simp
         refine NxM hK fun hHeld=> ?_
         clear hK K;refine zaQ Mcm ?_ _;clear hHeld;obtain⟨YA,yc,rfl,oU,_⟩:=o10.sl zan;have fL:Below W9.heap.size W9 w10:=(zaM (Below.refl _ _)).trans b10;have uO:=zHi (qw.o.trans (fL.mono BG));have nZ:=zHi (o10.base_le (show W4.heap.size<=W9.drew.heap.size by show W4.heap.size<=W9.heap.size;omega));have dj:=zHi (fun W (h:Below w10.heap.size w10 W)=>zdG (za3 out nm mo) YA yc W (by have:=cY.o;omega) (oU.keep h));clear o10 b10 oU fL qX;have hx:=AA.o;cases hlg:zaE (za3 out nm mo)
         ·rw[hlg]at hx dj;have aB:=zHi (jW.o hlg);rw[if_neg Mco]at hx;have ka:=zHi hx;clear hx hlg;generalize za3 out nm mo=out1 at*;go_wp2_with (go_at_call 44;go_must(refine(dj.o _ Bw).mono ?_);rintro e wq ⟨rfl,rfl⟩)
          go_round
          case rel=>exact⟨i+1,false,out1,cY.o,by go_num,rfl,nZ.o,by omega,(pZ.o).trans (uO.o.mono rD),zHi fun _=>⟨p8.o,ka.o,aB.o⟩,zHi Mco⟩
          case measure=>have:=cY.o;simp only[intOf];omega
         ·rw[hlg]at hx dj;rw[if_pos rfl]at hx;have ka:=zHi hx;clear hx hlg;generalize za3 out nm mo=out1 at*;go_wp2_with (go_at_call 44;go_must(refine(dj.o _ Bw).mono ?_);rintro e wq ⟨rfl,rfl⟩)
          go_round
          case rel=>exact⟨i+1,true,out1,cY.o,by go_num,rfl,nZ.o,by omega,(pZ.o).trans (uO.o.mono rD),zHi Mco,zHi fun _=> .inr ka.o⟩
          case measure=>have:=cY.o;simp only[intOf];omega
     ·exact Mj
    ·have tP: ¬(i:Int)<(hs.length:Int):=Mcl;cases l'
     ·obtain⟨jw,gI,_⟩:=yU.o rfl;rw[List.drop_of_length_le Mcl,zb6]at gI;have oh:D0=(zbz s n day HH (k+1) (s.graves.drop (k+1))).map ((dx.map (·.g)++[{x.g with holders:=out,died:=x.g.died++[n]}])++ ·):=by
       obtain⟨h1,h2⟩:=kL.o (by rw[jw,Bool.and_false]);rw[jw]at h2;have h2:HH=some hs:=h2;rw[h1,yK.o,h2];exact Hb.o _ hs out DS.o gI
      have EP:HH=some hs:=by
       obtain⟨_,h2⟩:=kL.o (by rw[jw,Bool.and_false]);rw[jw]at h2;exact h2
      have HN:=zHi oh;have kK:=zHi EP;clear oh EP gI jw;obtain⟨OV,oc,rfl,_,xI⟩:=HO.o.ro;have jm:=eE.o.trans (cO.o.mono eE.o.size);have bi:=bX.o.keep jm;obtain⟨gcur,cL,_⟩:=bi.row;have j3:wr.cell? ⟨ga,go+k*5+3,none⟩=some (.slice x.H x.g.holders.length x.hc):=bi.at dK.o (j:=3) rfl;have jf:=bi.frz;have oD:=bi.lt;have qB:=zHi bi;have lG:=zHi cL;have AZ:=zHi xI;have jS:=zHi jm;clear xI jm bi cL;go_upto_region 20 with fail
      obtain⟨V1,nA⟩: ∃V1,V1=wr.setCell ⟨ga,go+k*5+3,none⟩ (.slice OV out.length oc):=⟨_,rfl⟩
      have gJ:wr.grownBy V1 (some ga):=by rw[nA];exact zau _ _ _ _
      have fR:RowC V1 46 ga go 5 (((dx++gxs.drop k).map GX.cells).set k (x.cells.set 3 (.slice OV out.length oc))):=by rw[nA];exact qB.o.set dK.o Mcn
      have rG:Below w1.heap.size w1 V1:=MdE;rw[<-nA];have Ce:WR.heap.size<=V1.heap.size:=Nat.le_trans jS.o.size gJ.size;clear nA j3 jf oD;have KY:=hxd5 fR dK.o;have jI:=zHi fR;have um:=zHi rG;have JK:=fR.lt;have uU:=zHi (AZ.o.kept gJ lG.o Mcn);have uu:=zHi (fun y hy=>(((gn.o y hy).keep jS.o).kept gJ lG.o:okR gxs V1 y));have Bv:=zHi (th.o V1 (ak.o.trans ((aG.o.trans (rG.mono im)).mono aw))).2;clear fR rG gJ
      go_wp2_with (first
       |(at_builtin
         go_loud(refine zav (v:= .slice (some ⟨V1.heap.size,0,none⟩) 0 0) (n:=0) (m:=x.g.died.length) rfl _ _ rfl zbK zaB zbJ rfl (xs:=[]) (ys:=x.g.died) (zdT zaB V1 V1.heap.size (Nat.le_refl _)) rfl rfl rfl (Bv.o.keep (zac (Below.refl _ _) _)) McT Mcl Mco ?_)
         intro v3 w3 h1 h2 h3;rw[List.nil_append]at h1;have av:Below V1.heap.size V1 w3:=Below.grown (zac (Below.refl _ _) _) h2 Mco McZ;obtain⟨V3,vc3,rfl,_,_⟩:=h1.sl zaB;have nh:=zHi h1;have ll:=zHi av;have vv:=av.size
         clear h1 h2 h3 av)
       |(at_builtin
         go_loud(refine zav (v:= .slice V3 x.g.died.length vc3) (n:=x.g.died.length) (m:=1) rfl _ _ rfl zbK zaB zbJ rfl (xs:=x.g.died) (ys:=[n]) (nh.o.keep (n:=w3.heap.size) (zac (Below.refl _ _) _)) rfl rfl rfl (zcx (zar _ _ _ rfl)) McT Mcl Mcq ?_)
         intro v6 w6 h1 h2 h3;have aE:Below V1.heap.size V1 w6:=Below.grown (zac ll.o _) h2 Mcq (fun j hj=>(nh.o.ge j hj).1);obtain⟨A6,vc6,dE,_,_⟩:=h1.sl zaB;rw[List.length_append]at dE;subst dE;have lL:=zHi h1;have eS:=zHi aE;have eP:=jI.o.keep aE;have i4:w6.cell? ⟨ga,go+k*5+4,none⟩=some (.slice x.D x.g.died.length x.dc):=hxd5 eP dK.o;have jf6:=eP.frz;have CM:=eP.lt;have Co:=aE.size
         clear h1 h2 h3 aE eP))
      go_round
      case rel=>
       have eP:=jI.o.keep eS.o;rw[At.o]at eP;obtain⟨gcur6,mD,_⟩:=eP.row;refine⟨k+1,false,true,dx++[(⟨{x.g with holders:=out,died:=x.g.died++[n]},OV,oc,A6,vc6⟩:GX)],aq.o,by go_num,rfl,rfl,by rw[List.length_append,iy];rfl,zHi fun _=>row_two iy eP,zHi fun y hy=> ?_,zHi Mco,zHi fun _=>⟨by rw[HN.o,List.map_append];rfl,kK.o⟩,zaO (um.o.trans (eS.o.mono um.o.size)) zS _,by simp;omega⟩;exact Mb0
      case measure=>have:=aq.o;simp only[intOf];omega
     ·exact Mj
  ·have ar: ¬(k:Int)<(s.graves.length:Int):=Mcl;have oE:k=s.graves.length:=Mcl;have CP:gxs.drop k=[]:=List.drop_of_length_le Mcl;have yg:s.graves.drop k=[]:=List.drop_of_length_le Mcl;have HG:Hid ((f&&l)=false->R=({s with graves:=dx.map (·.g),dead:=s.dead++[n]},0)):=zHi fun fk=>by
    obtain⟨h1,_⟩:=kL.o fk;rw[yg,zbz]at h1;rw[HR.o,h1];simp
   have dh:Hid ((f&&l)=true->R=(s,8)):=zHi fun fk=>by rw[HR.o,nS.o fk]
   clear yg aa hB cy;cases f
   ·exact Me
   ·cases l
    ·exact Me
    ·have HE:=zHi (dh.o rfl);clear HG dh;go_wp2_with fail
     refine bodyPost_ret (zbA rfl _ rfl rfl (zc0 xr0)) rfl ?_;exact⟨_,_,_,_,_,_,_,false,rfl,rfl,zc9 (ak.o.trans (aW.o.mono aw)) (show w.heap.size<=w.heap.size+1 by omega), .inr ⟨rfl,by rw[HE.o]⟩⟩
end Go.Proofs.YtckkbkdcdkhglaaGreatDoor
