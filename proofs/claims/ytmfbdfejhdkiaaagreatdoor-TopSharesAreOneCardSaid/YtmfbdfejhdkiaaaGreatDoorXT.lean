/- Walk of the reference's Next; what holds behind a replay. -/
import Derived.Test.YtmfbdfejhdkiaaaGreatDoorXP
set_option linter.all false
set_option maxRecDepth 100000
set_option maxHeartbeats 4000000
namespace Go.Proofs.YtmfbdfejhdkiaaaGreatDoor
open Go.RowKit Go.Shelf
attribute [local go_sem] World.cell?_alloc_mark zae za4 zao za8 zav zaw zax zay zaz za0 za1
attribute [local go_sem] zap zac
theorem zpq{s:St}{n:ByteArray}{day:Int}{H:Option Parts}{k:Nat}{g:Grave}{l pre:List Grave}(h:zdv s n day k g=false):(zb2 s n day H k (g::l)).map (pre++ ·)=(zb2 s n day H (k+1) l).map ((pre++[g])++ ·):=by
 rw[zb2.eq_def];simp only[h];cases zb2 s n day H (k+1) l<;>simp
theorem zpr{s:St}{n:ByteArray}{day:Int}{hs out:Parts}{k:Nat}{g:Grave}{l pre:List Grave}(h:zdv s n day k g=true)(hg:zb5 (zag g.holders n) hs (zar g.holders n)=some out):
 (zb2 s n day (some hs) k (g::l)).map (pre++ ·)=(zb2 s n day (some hs) (k+1) l).map ((pre++[{g with holders:=out,died:=g.died++[n]}])++ ·):=by
 rw[zb2.eq_def];simp only[h,if_true,hg,Option.bind_some];cases zb2 s n day (some hs) (k+1) l<;>simp
theorem zps{s:St}{n:ByteArray}{day:Int}{H:Option Parts}{k:Nat}{g:Grave}{l pre:List Grave}(h:zdv s n day k g=true)(hg:∀hs,H=some hs->zb5 (zag g.holders n) hs (zar g.holders n)=none):
 (zb2 s n day H k (g::l)).map (pre++ ·)=none:=by
 rw[zb2.eq_def];simp only[h,if_true];cases H with
 |none=>rfl
 |some hs=>
  simp only[hg hs rfl];rfl
def okR(gxs:List GX)(W:World)(x:GX):Prop:=x∈gxs\/(Ro W 59 zaa x.H x.g.holders/\Ro W 9 sC x.D x.g.died)
theorem okR.keep{gxs:List GX}{W W':World}{x:GX}{n:Nat}(h:okR gxs W x)(hB:Below n W W')(hn:W.heap.size<=n:=by first|exact Qc|omega):okR gxs W' x:=
 h.imp id fun⟨a,b⟩=>⟨a.keep hB hn,b.keep hB hn⟩
theorem okR.kept{gxs:List GX}{W W':World}{x:GX}{g:Nat}{cs:Array Value}{fr:Nat×Nat}(h:okR gxs W x)(hg:W.grownBy W' (some g))(hx:W.heap[g]?=some (.cells cs 161 fr)):okR gxs W' x:=
 h.imp id fun⟨a,b⟩=>⟨a.kept hg hx Mcu,b.kept hg hx Mcu⟩
theorem grav_ne{s:St}{pl:ByteArray}{day:Int}{k:Nat}(h:¬zaS s pl day=some k):zk1 s.graves pl day≠(k:Int):=by
 cases hx:zaS s pl day with
 |none=>rw[ziZ hx];omega
 |some i=>
  rw[zez hx];intro e;have:i=k:=by omega
  subst this;exact h hx
theorem set_mid{α:Type}(a:List α)(x y:α)(l:List α){k:Nat}(h:a.length=k):(a++x::l).set k y=a++y::l:=by
 subst h;induction a with
 |nil=>rfl
 |cons b a ih=>simp only[List.cons_append,List.length_cons,List.set_cons_succ,ih]
theorem row_two{W:World}{ga go k:Nat}{dx rest:List GX}{x:GX}{out:Parts}{n:ByteArray}{OV A5:Option Addr}{oc c5:Nat}(hk:dx.length=k)(h:RowC W 161 ga go 5 (((dx++x::rest).map GX.cells).set k (x.cells.set 3 (.slice OV out.length oc)))):
 RowC (W.setCell ⟨ga,go+k*5+4,none⟩ (.slice A5 (x.g.died.length+1) c5)) 161 ga go 5 ((dx++[(⟨{x.g with holders:=out,died:=x.g.died++[n]},OV,oc,A5,c5⟩:GX)]++rest).map GX.cells):=by
 have e1:((dx++x::rest).map GX.cells).set k (x.cells.set 3 (.slice OV out.length oc))=dx.map GX.cells++(x.cells.set 3 (.slice OV out.length oc))::rest.map GX.cells:=by
  rw[List.map_append,List.map_cons,set_mid _ _ _ _ (by rw[List.length_map];exact hk)]
 rw[e1]at h;have h2:=h.set (i:=k) (j:=4) (c:=x.cells.set 3 (.slice OV out.length oc)) (u:=.slice A5 (x.g.died.length+1) c5) (by rw[List.getElem?_append_right (by rw[List.length_map];omega),List.length_map,hk,Nat.sub_self];rfl) Mcu;rw[set_mid _ _ _ _ (by rw[List.length_map];exact hk)]at h2;have e2:(dx++[(⟨{x.g with holders:=out,died:=x.g.died++[n]},OV,oc,A5,c5⟩:GX)]++rest).map GX.cells=dx.map GX.cells++((x.cells.set 3 (.slice OV out.length oc)).set 4 (.slice A5 (x.g.died.length+1) c5))::rest.map GX.cells:=by
  rw[List.append_assoc,List.map_append];congr 1
  simp[GX.cells]
 rw[e2];exact h2
theorem hxd5{W:World}{ga go k:Nat}{css:List (List Value)}{x:GX}{u:Value}(h:RowC W 161 ga go 5 (css.set k (x.cells.set 3 u)))(hc:css[k]?=some x.cells):W.cell? ⟨ga,go+k*5+4,none⟩=some (.slice x.D x.g.died.length x.dc):=by
 have hk:k<css.length:=(List.getElem?_eq_some_iff.1 hc).1;exact h.at (k:=k) (c:=x.cells.set 3 u) (by rw[List.getElem?_set_self hk]) (j:=4) rfl
theorem okR.keptS{gxs:List GX}{W W':World}{x:GX}{g:Nat}{cs:Array Value}{fr:Nat×Nat}(h:okR gxs W x)(hg:W.grownBy W' (some g))(hx:W.heap[g]?=some (.cells cs 35 fr)):okR gxs W' x:=
 h.imp id fun⟨a,b⟩=>⟨a.kept hg hx Mcu,b.kept hg hx Mcu⟩
theorem dsF{W:World}{a c:Nat}{x0 x1 x2 x3 x4 x5 x6 z0 z1 z2 z3 z4 z5 z6:Value}{t u:TypeId}{f:Nat×Nat}(h:W.heap[a]?=some (.cells #[x0,x1,x2,x3,x4,x5,x6] t f)/\W.heap[c]?=some (.cells #[z0,z1,z2,z3,z4,z5,z6] u (0,0))):
 (W.heap[a]?=some (.cells #[x0,x1,x2,x3,x4,x5,x6] t f)/\W.heap[c]?=some (.cells #[z0,z1,z2,z3,z4,z5,z6] u (0,0)))/\(W.cell? ⟨a,0,none⟩=some x0/\W.cell? ⟨a,1,none⟩=some x1/\W.cell? ⟨a,2,none⟩=some x2/\W.cell? ⟨a,3,none⟩=some x3/\W.cell? ⟨a,4,none⟩=some x4/\W.cell? ⟨a,5,none⟩=some x5/\W.cell? ⟨a,6,none⟩=some x6)/\(W.cell? ⟨c,0,none⟩=some z0/\W.cell? ⟨c,1,none⟩=some z1/\W.cell? ⟨c,2,none⟩=some z2/\W.cell? ⟨c,3,none⟩=some z3/\W.cell? ⟨c,4,none⟩=some z4/\W.cell? ⟨c,5,none⟩=some z5/\W.cell? ⟨c,6,none⟩=some z6)/\(∀j,W.frozen? ⟨c,j,none⟩=false)/\a<W.heap.size/\c<W.heap.size:=
 ⟨h,zaK h.1,zaK h.2,frz h.2,zab h.1,zab h.2⟩
theorem ds_boxes{w:World}(o0 o1:Obj):Hid (Qa w ((w.alloc o0).alloc o1))/\Hid (∀W,Below ((w.alloc o0).alloc o1).heap.size ((w.alloc o0).alloc o1) W->W.heap[w.heap.size]?=some o0/\W.heap[w.heap.size+1]?=some o1):=by
 refine⟨by show Below _ _ _;exact Bw,fun W hB=>⟨?_,?_⟩⟩
 ·exact(hB.block _ Mcw).trans (zal (zat _ _ _ rfl))
 ·exact(hB.block _ Mcv).trans (zat _ _ _ Mcv)
theorem rDies_any(laws:List Law)(s:St)(wd rd:List Deed)(LA CA MA DA WA RA GA:Option Addr)(c0 c1 c2 c3 c4 c5 c6:Nat)(n:ByteArray)(day:Int)(w:World)(h:StIn w laws s wd rd LA CA MA DA WA RA GA c0 c1 c2 c3 c4 c5 c6)(hk:StLink s wd rd)(hf:StFew s wd rd)(bc:za9 laws=0)(hW:WillOk (zbx s n))(pX:∀a,¬Desc s a a)(bY:(zbx s n).length<=8)
 (bl:∀g∈s.graves,GoodG g/\g.holders.length<=50000)(jU:∀g∈s.graves,g.died.length<=1000)(fY:∀hs,zcO s (zbc laws day) n=some hs->hs.length<=1000/\GoodParts hs/\sumQ hs<=1/\zaG hs=false):
 Calls Tryz.prog 81 #[.agg #[.slice LA laws.length c0,.slice CA s.children.length c1,.slice MA s.marriages.length c2,.slice DA s.dead.length c3,.slice WA wd.length c4,.slice RA rd.length c5,.slice GA s.graves.length c6],.string n,.int .i64 day] w (zkP w laws (zpp laws s n day)):=by
 obtain⟨R,hR⟩:=Qd (zpp laws s n day)
 rw[<-hR];unfold zpp at hR;obtain⟨gxs,hm,bs,bv⟩:=zpf h.graves;obtain⟨HM,cY,cd,ej,ie,H,HK,HF⟩:=yH8 hm bs bv bl jU (fun W (hB:Qa w W)=>h.keep hB) hk hf;have gW:=zHi (fun W (hB:Qa w W)=>znm laws s wd rd LA CA MA DA WA RA GA c0 c1 c2 c3 c4 c5 c6 n day W (H.o W hB) hk hf bc hW pX bY);obtain⟨HH,ug⟩:=Qd (zcO s (zbc laws day) n)
 rw[<-ug]at hR gW fY;have gw:=zHi fY;have jw:=hf.graves;have xz:gxs.length=s.graves.length:=by rw[<-hm,List.length_map]
 obtain⟨D0,oH⟩:=Qd (zb2 s n day HH 0 s.graves)
 rw[<-oH]at hR;obtain⟨IL,HR⟩:=yH2 oH hR;unfold zkL at gW;clear h hk hf bc hW pX bY bl jU fY hm bs bv ug oH hR;go_enter Tryz.func81,Tryz.ntmps81
 go_upto_region 1 with fail
 obtain⟨W0,am⟩:=Qd ((w.alloc (.cells #[.slice LA laws.length c0,.slice CA s.children.length c1,.slice MA s.marriages.length c2,.slice DA s.dead.length c3,.slice WA wd.length c4,.slice RA rd.length c5,.slice GA s.graves.length c6] 35)).alloc (.cells #[.slice none 0 0,.slice none 0 0,.slice none 0 0,.slice none 0 0,.slice none 0 0,.slice none 0 0,.slice none 0 0] 35))
 obtain⟨aj,au⟩:Hid (Qa w W0)/\Hid (∀W,Qa W0 W->W.heap[w.heap.size]?=some (.cells #[.slice LA laws.length c0,.slice CA s.children.length c1,.slice MA s.marriages.length c2,.slice DA s.dead.length c3,.slice WA wd.length c4,.slice RA rd.length c5,.slice GA s.graves.length c6] 35)/\W.heap[w.heap.size+1]?=some (.cells #[.slice none 0 0,.slice none 0 0,.slice none 0 0,.slice none 0 0,.slice none 0 0,.slice none 0 0,.slice none 0 0] 35)):=by
  rw[am];exact ds_boxes _ _
 rw[<-am];clear am;have aw:=aj.o.size;obtain⟨⟨xs0,xr0⟩,⟨s0,s1,s2,s3,s4,s5,s6⟩,⟨r0,r1,r2,r3,r4,r5,r6⟩,rf,ls,lr⟩:=dsF (au.o W0 Qb);go_upto_region 2 with(go_at_call 131;go_must(refine(gW.o _ aj.o).mono ?_);rintro e w1 ⟨EA,ec,hs,lg,rfl,Gw,b1,_,hE⟩)
 obtain⟨zR,HE,aE⟩:=yH3 Gw hE b1;have im:=b1.size;clear Gw hE b1;clear xs0 xr0 s0 s1 s2 s3 s4 s5 s6 r0 r1 r2 r3 r4 r5 r6 rf ls lr;obtain⟨⟨xs0,xr0⟩,⟨s0,s1,s2,s3,s4,s5,s6⟩,⟨r0,r1,r2,r3,r4,r5,r6⟩,rf,ls,lr⟩:=dsF (au.o w1 (aE.o))
 go_upto_region 4 with(at_builtin
                       go_loud(refine zas (v:=.slice (some ⟨w1.heap.size,0,none⟩) 0 0) (n:=0) (m:=s.graves.length) rfl _ _ rfl zhw zcX zjW rfl (xs:=[]) (ys:=gxs) (zjX w1 w1.heap.size Qc) rfl rfl xz.symm (cd.o.keep (aj.o.trans ((aE.o.trans (Below.mono (B:=w1.heap.size) Bw im)).mono aw))) Mc9 Mcq Mcv ?_)
                       intro v2 w2 h1 h2 h3;rw[List.nil_append]at h1;have bC:Qa w1 w2:=Below.grown (zad Qb _) h2 Mcv Mdj;obtain⟨dm,aC⟩:=yH2 h1 bC;obtain⟨V2,c2',rfl,_,_⟩:=h1.sl zcX
                       clear h1 h2 h3 bC)
 obtain⟨ga,go,hV⟩:∃ga go,s.graves≠[]->V2=some ⟨ga,go,none⟩/\w1.heap.size<=ga/\RowC w2 161 ga go 5 (gxs.map GX.cells):=by
  by_cases ag:s.graves=[]
  ·exact⟨0,0,fun h=>absurd ag h⟩
  ·have hl:0<s.graves.length:=List.length_pos_iff.2 ag;have ho:=dm.o;have fA:=ho.ge;obtain⟨A,c9,e9,hS,_⟩:=ho.sl zcX;obtain⟨rfl,rfl⟩:V2=A/\c2'=c9:=by simpa[xz]using e9
   obtain⟨gb,gof,rfl,_⟩:=hS Mcq;exact⟨gb,gof,fun _=>⟨rfl,(fA gb rfl).1,ho.row zcX⟩⟩
 have HV:=zHi hV;have l8:=aC.o.size;have Bv:Hid (D0=(zb2 s n day HH 0 (s.graves.drop 0)).map (([]:List GX).map (·.g)++ ·)):=by
  show _=_;rw[IL.o,List.drop_zero];cases zb2 s n day HH 0 s.graves<;>rfl
 have Gb:HH=if lg then none else some hs:=by rcases HE.o with⟨h1,rfl⟩|⟨h1,rfl⟩<;>rw[h1]<;>rfl
 have zG:=zHi Gb;clear hV Gb;clear xs0 xr0 s0 s1 s2 s3 s4 s5 s6 r0 r1 r2 r3 r4 r5 r6 rf ls lr;go_upto_region 5 with fail
 go_loopw [9,10,12] (fun v9 v10 i wr=>∃(k:Nat) (l f:Bool) (dx:List GX),k<=s.graves.length/\i=.int .i64 k/\v9=.bool l/\v10=.bool f/\dx.length=k/\Hid (s.graves≠[]->RowC wr 161 ga go 5 ((dx++gxs.drop k).map GX.cells))/\Hid (∀x∈dx,okR gxs wr x)/\Hid ((f&&l)=true->D0=none)/\Hid ((f&&l)=false->D0=(zb2 s n day HH k (s.graves.drop k)).map (dx.map (·.g)++ ·)/\HH=if l then none else some hs)/\Qa w1 wr/\w2.heap.size<=wr.heap.size) (fun _ _ i _=>s.graves.length-(intOf i).toNat)
 case atStart=>exact⟨0,lg,false,[],Nat.zero_le _,rfl,rfl,rfl,rfl,zHi fun ag=>(HV.o ag).2.2,zHi Mcv,zHi Mcv,zHi fun _=>⟨Bv.o,zG.o⟩,aC.o,Qc⟩
 case round=>
  obtain⟨k,l,f,dx,hk,rfl,rfl,rfl,iu,Cg,gu,oh,kW,hB,jJ⟩:=hrel;obtain⟨WR,mn⟩:=Qd wr
  subst mn;have aW:=hB.size;have cw:=aE.o.trans (hB.mono im);obtain⟨HB,aU⟩:=yH2 hB cw;obtain⟨⟨xs0,xr0⟩,⟨s0,s1,s2,s3,s4,s5,s6⟩,⟨r0,r1,r2,r3,r4,r5,r6⟩,rf,ls,lr⟩:=dsF (au.o WR (cw));by_cases aa:k<s.graves.length
  ·have ag:s.graves≠[]:=fun e=>by rw[e]at aa;simp at aa
   obtain⟨rfl,AC,_⟩:=HV.o ag;have bB:=zHi (Cg.o ag);have lk:k<gxs.length:=Mcq;have aQ:((dx++gxs.drop k).map GX.cells)[k]?=some gxs[k].cells:=by
    rw[List.getElem?_map,List.getElem?_append_right Mcq,iu,Nat.sub_self,List.getElem?_drop,Nat.add_zero,List.getElem?_eq_getElem lk];rfl
   have jW:gxs[k].g=s.graves[k]:=by
    have:s.graves[k]?=some gxs[k].g:=by rw[<-HM.o,List.getElem?_map,List.getElem?_eq_getElem lk];rfl
    rw[List.getElem?_eq_getElem aa]at this;exact(Option.some.inj this).symm
   have nv:gxs[k]∈gxs:=List.getElem_mem lk;have ns:gxs[k].g∈s.graves:=by rw[jW];exact List.getElem_mem aa
   have jt:s.graves.drop k=gxs[k].g::s.graves.drop (k+1):=by rw[jW];exact List.drop_eq_getElem_cons aa
   have GN:gxs.drop k=gxs[k]::gxs.drop (k+1):=List.drop_eq_getElem_cons lk;have ak:=zHi aa;generalize gxs[k]=x at*;have nw:=cY.o x nv;obtain⟨dq,cg⟩:=ej.o x.g ns;have br:=ie.o x.g ns;obtain⟨BI,pR,bp,zB,Bz,iI⟩:=yH6 dq (fun W (hB:Qa w W)=>nw.keep hB) nv jt GN aQ;have i0:WR.cell? ⟨ga,go+k*5,none⟩=some (.string x.g.place):=by have:=bB.o.at aQ (j:=0) rfl;simpa using this
   have i3:WR.cell? ⟨ga,go+k*5+3,none⟩=some (.slice x.H x.g.holders.length x.hc):=bB.o.at aQ (j:=3) rfl;have i4:WR.cell? ⟨ga,go+k*5+4,none⟩=some (.slice x.D x.g.died.length x.dc):=bB.o.at aQ (j:=4) rfl;have Ew:ga<WR.heap.size:=bB.o.lt;have ar:(k:Int)<(s.graves.length:Int):=Mcq;have aR:(0:Int)<=(k:Int):=Mcq;have aY:=aj.o.trans (cw.mono aw);have nH:=zHi (zfm x.g.holders n x.H x.hc WR Mcq (pR.o WR aY).1);have bY:=zdY x.g.holders n;have iP:=zHi (fun W (hB:Qa w W)=>zh4 x.g.holders n x.H x.hc W Mcq (pR.o W hB).1);have ho:=zb7 dq.good n;have qu:=zcQ n dq.small;have be:=zdz dq.good n;have uL:=zcj (n:=n) dq.good;have Io:=zbE (n:=n) dq.good;have zh:=zdG n dq.small;have Ha:∀b,zaS s x.g.place day=some k->(zag x.g.holders n==0)=b->zdv s n day k x.g=!b:=by
    intro b e1 e2;unfold zdv;rw[e1,bne,e2];simp
   have ux:¬zaS s x.g.place day=some k->zdv s n day k x.g=false:=by
    intro e1;unfold zdv;cases hx:zaS s x.g.place day==some k
    ·rw[Bool.and_false]
    ·exact absurd (by simpa using hx) e1
   have AD:zag x.g.holders n=0->zdv s n day k x.g=false:=by
    intro e1;unfold zdv;rw[e1];rfl
   obtain⟨dj,IQ,IO,BL⟩:=yH4 (fun(pre:List Grave) (hh:zdv s n day k x.g=false)=>zpq (H:=HH) (l:=s.graves.drop (k+1)) (pre:=pre) hh) (fun(pre:List Grave) hs out (hh:zdv s n day k x.g=true) hg=>zpr (s:=s) (n:=n) (day:=day) (hs:=hs) (out:=out) (l:=s.graves.drop (k+1)) (pre:=pre) hh hg) (fun(pre:List Grave) (hh:zdv s n day k x.g=true) hg=>zps (H:=HH) (l:=s.graves.drop (k+1)) (pre:=pre) hh hg) (show(zaS s x.g.place day=some k->zag x.g.holders n≠0->zdv s n day k x.g=true) from fun e1 e2=>by rw[Ha false e1 (by simpa using e2)];rfl);have sH:sumQ x.g.holders<=1:=by
    rcases dq.one with e|e
    ·rw[e];decide
    ·rw[e];exact Rat.le_refl
   generalize zag x.g.holders n=sh at*;generalize zar x.g.holders n=wo at*;have ke:zaL sh:=zbZ ho McN qu;unfold zaD at nH;clear aQ jW ns jt GN nv nw dq aa ag Ha cw Cg;go_upto_region 8 with(go_at_call 120;go_must(refine(nH.o).mono ?_);rintro e wq ⟨rfl,z2,rfl⟩)
   obtain⟨SB,mi⟩:=Qd (WR.heap.size+z2.os.size)
   obtain⟨W3,bo⟩:=Qd ((WR.ext z2).alloc (.cells #[.int .i64 (sh).num,.int .i64 (sh).den] 57))
   have gS:W3.heap[SB]?=some (.cells #[.int .i64 (sh).num,.int .i64 (sh).den] 57):=by rw[bo];exact zat _ _ _ (by rw[mi];simp[zae])
   have av:Qa WR W3:=by rw[bo];exact zad (zaq WR z2) _
   rw[<-bo,<-mi];clear bo mi i0 i3 i4;clear xs0 xr0 s0 s1 s2 s3 s4 s5 s6 r0 r1 r2 r3 r4 r5 r6 rf ls lr;have jn:=av.size;have aJ:=zHi av;have sA:=aU.o.trans (av.mono Meb);obtain⟨uU,lW⟩:=yH2 sA (bB.o.keep av);obtain⟨q0,q1⟩:=zbj gS;have sb:=zab gS;have GS:=zHi gS;obtain⟨⟨xs0,xr0⟩,⟨s0,s1,s2,s3,s4,s5,s6⟩,⟨r0,r1,r2,r3,r4,r5,r6⟩,rf,ls,lr⟩:=dsF (au.o W3 (sA));clear sA av gS;have i0:W3.cell? ⟨ga,go+k*5,none⟩=some (.string x.g.place):=by have:=lW.o.at iI.o (j:=0) rfl;simpa using this
   have Ex:ga<W3.heap.size:=lW.o.lt;by_cases hz:sh=0
   ·have nA:(sh.num==0)=true:=by rw[hz];rfl
    have dF:=dj.o (dx.map (·.g)) (AD hz);rw[<-zB.o]at dF;have FD:=zHi dF;clear hz AD ux dF ho qu be uL ke
    (refine zam Mcs Mcs ?_
     repeat(first|go_big_quiet_skip|(go_big_quiet_want;go_big_quiet_op;first|go_big_quiet_on|(apply Exists.intro;refine⟨fun _=>?_,?_⟩;(fail);go_big_quiet_on)))
     refine wpQuiet_nil ?_
     rintro _ ⟨zq,rfl⟩)
    exact MI
   have nA:(sh.num==0)=false:=by
    exact Mbd
   have eC:=zHi (fun W (hB:Qa W3 W)=>zlZ x.g.place day W (H.o W (aj.o.trans ((uU.o.trans (hB.mono (by have:=uU.o.size;omega))).mono aw))) HF.o);by_cases aK:zaS s x.g.place day=some k;rotate_left 1
   ·have dF:=dj.o (dx.map (·.g)) (ux aK);rw[<-zB.o]at dF;have FD:=zHi dF;have li:=grav_ne aK;generalize zk1 s.graves x.g.place day=gi at*;have Lr:(gi==(k:Int))=false:=by simpa using li
    have Ls:(gi != (k:Int))=true:=by simpa using li
    clear hz AD ux dF aK li ho qu be uL ke
    (refine zam Mcs Mcs ?_
     repeat(first|go_big_quiet_skip|(go_big_quiet_want;go_big_quiet_op;first|go_big_quiet_on|(apply Exists.intro;refine⟨fun _=>?_,?_⟩;((go_at_call 116;exact quietx (eC.o _ Bw)));go_big_quiet_on)))
     refine wpQuiet_nil ?_
     rintro _ ⟨zq,rfl⟩)
    exact MI
   have qf:=BL.o aK hz;rw[zez aK]at eC;have Fe:=zHi qf;clear AD ux aK qf
   (refine zam Mcs Mcs ?_
    repeat(first|go_big_quiet_skip|(go_big_quiet_want;go_big_quiet_op;first|go_big_quiet_on|(apply Exists.intro;refine⟨fun _=>?_,?_⟩;((go_at_call 116;exact quietx (eC.o _ Bw)));go_big_quiet_on)))
    refine wpQuiet_nil ?_
    rintro _ ⟨zq,rfl⟩)
   obtain⟨W4,fu⟩:=Qd (W3.ext zq)
   have ay:Qa W3 W4:=by rw[fu];exact zaq _ _
   rw[<-fu];have KX:=ay.size;obtain⟨eB,GS4⟩:=yH2 (aJ.o.trans (ay.mono jn)) ((ay.block SB sb).trans GS.o);have sB:=aU.o.trans (eB.o.mono Meb);have IE:=zHi sB;have i3:W4.cell? ⟨ga,go+k*5+3,none⟩=some (.slice x.H x.g.holders.length x.hc):=(bB.o.keep eB.o).at iI.o (j:=3) rfl;have Nf:ga<W4.heap.size:=(bB.o.keep eB.o).lt;have sd:SB<W4.heap.size:=Mcq;have rM:=zHi (iP.o W4 (aj.o.trans (sB.mono aw)));have ri:Hid (l=false->HH=some hs/\hs.length<=1000/\GainSt sh wo hs):=zHi fun hl=>by
    have ug:=(kW.o (by rw[hl,Bool.and_false])).2;rw[hl]at ug;obtain⟨e1,e2,e3,e4⟩:=gw.o hs ug;have hp:∀p∈hs,0<=p.2:=fun p hp=>by have:=e2.pos p hp;grind
    have:=Rat.mul_le_mul_of_nonneg_left e3 ho;exact⟨ug,e1,Io,zh,by grind,hp⟩
   obtain⟨jg,lT⟩:=yH2 ho ke;clear fu i0 q0 q1 sb sB ay hz nA ho qu be uL Io zh ke sH Ex Ew;clear xs0 xr0 s0 s1 s2 s3 s4 s5 s6 r0 r1 r2 r3 r4 r5 r6 rf ls lr;go_upto_region 11 with(go_at_call 121;go_must(refine(rM.o).mono ?_);rintro e w5 ⟨v5,rfl,o5,b5⟩)
   obtain⟨kX,bn⟩:=yH2 o5 b5;have CF:=b5.size;clear i3 o5 b5;go_upto_region 12 with fail
   go_loopw [9,14,15] (fun v9 v14 j wr=>∃(i:Nat) (l':Bool) (out:Parts),i<=hs.length/\j=.int .i64 i/\v9=.bool l'/\OwnS wr W4.heap.size 59 3 zaa v14 out/\out.length<=50000+i/\Qa w5 wr/\Hid (l'=false->l=false/\zb5 sh hs wo=zb5 sh (hs.drop i) out/\GainSt sh out (hs.drop i))/\Hid (l'=true->l=true\/zb5 sh hs wo=none)) (fun _ _ j _=>hs.length-(intOf j).toNat)
   case atStart=>exact⟨0,l,wo,Nat.zero_le _,rfl,rfl,kX.o,by omega,Qb,zHi fun e=>⟨e,rfl,(ri.o e).2.2⟩,zHi fun e=> .inl e⟩
   case round=>
    obtain⟨i,l',out,hi,rfl,rfl,ac,nV,wf,zI,BZ⟩:=hrel;have sw:=wf.size;obtain⟨lE,qK,tM,HO⟩:=yH4 (bn.o.trans (wf.mono CF)) wf wf ac;have Dm:wr.heap[SB]?=_:=(lE.o.block SB sd).trans GS4.o;obtain⟨q0,q1⟩:=zbj Dm;have KE:=zab Dm;have xf:Qa w1 wr:=HB.o.trans ((eB.o.trans (lE.o.mono (by have:=eB.o.size;omega))).mono aW);have vR:=zHi (zR.o.keep xf);clear wf xf Dm;by_cases hlti:i<hs.length
    ·have xE:(i:Int)<(hs.length:Int):=Mcq;have eG:(0:Int)<=(i:Int):=Mcq;cases l'
     ·obtain⟨jA,gJ,aD⟩:=zI.o rfl;obtain⟨b,off,hA,hb,ah⟩:=vR.o.at hlti;have gI:hs.drop i=hs[i]::hs.drop (i+1):=List.drop_eq_getElem_cons hlti;rw[gI]at aD gJ;have qg:=(ri.o jA).2.1;have cX:=zHi hlti;have tq:0<hs[i].2/\hs[i].2<=1/\zaL hs[i].2:=by
       obtain⟨_,e2,e3,e4⟩:=gw.o hs (ri.o jA).1;exact zdO (hs:=hs) ⟨e2,e4,e3⟩ (List.getElem_mem hlti)
      clear gI;generalize hs[i]=y at*;obtain⟨nm,q⟩:=y;simp only at tq;have i0:wr.cell? ⟨b,off+i*3,none⟩=some (.string nm):=ah 0 _ rfl;have i1:wr.cell? ⟨b,off+i*3+1,none⟩=some (.int .i64 q.num):=ah 1 _ rfl;have i2:wr.cell? ⟨b,off+i*3+2,none⟩=some (.int .i64 q.den):=ah 2 _ rfl;have kU:=zHi (fun W=>zgB sh q W lT.o tq.2.2);unfold zaD at kU;obtain⟨p1,p2⟩:=aD.more jg.o;obtain⟨gX,kY⟩:=yH2 (fun hl=>aD.next jg.o hl) (aD.parts jg.o);rw[zmh]at gJ;obtain⟨mo,y9⟩:=Qd (sh*q)
      rw[<-y9]at gJ kU p1 p2 gX;obtain⟨lU,vm,pL⟩:=yH3 (And.intro p1 p2) gJ jA;clear ah aD gJ hlti tq p1 p2 y9 ac jA;subst hA;go_upto_region 14 with fail
      refine zdK 7 _ _ (.cells #[.int .i64 0,.int .i64 0] 57) (.cells #[.int .i64 (mo).num,.int .i64 (mo).den] 57) Mcs Mcs rfl rfl ?hrun ?_
      case hrun=>intro a W;kernel_rfl
      simp only[List.take_succ_cons,List.take_zero];repeat(refine zeM (fun K hK=>?_);simp only[grow];go_simp;first|(refine hK _ ?_;clear hK K)|(apply Exists.intro;refine⟨fun _=>?_,hK _ ?_⟩;((go_at_call 122;exact quietg (kU.o _)));clear hK K))
      refine zfH ⟨?hstore,?hlast⟩
      case hstore=>
       exact MF
      case hlast=>
       rintro MB W9 ⟨z9,wY⟩ Ko gM;have eV:Qa wr W9:=by rw[wY];exact zaq _ _
       have CH:=eV.size;have zM:=zHi eV;obtain⟨m0,m1⟩:=zbj gM;have rW:=zab gM;have i9:W9.cell? ⟨b,off+i*3,none⟩=some (.string nm):=(zah eV hb).trans i0;have DG:b<W9.heap.size:=Mcq;clear wY eV i0 i1 i2 q0 q1;by_cases pE:1000000000<(mo.den:Int)
       ·have li:zb5 sh hs wo=none:=by rw[vm.o,if_pos (by simp[bigQ,pE])]
        have IY:=zHi li;clear li;go_wp2_with fail
        go_round
        case rel=>exact⟨i+1,true,out,cX.o,by go_num,rfl,HO.o.keep zM.o,by omega,(qK.o).trans (zM.o.mono sw),zHi Mcv,zHi fun _=> .inr IY.o⟩
        case measure=>have:=cX.o;simp only[intOf];omega
       ·have aZ:bigQ mo=false:=by simpa[bigQ]using pE
        have bl:=vm.o;rw[aZ,if_neg Mcv]at bl;have BG:=zHi bl;have qo:=zbZ lU.o.1 lU.o.2 aZ;obtain⟨OV,oc,rfl,_,_⟩:=HO.o.sl zai;have eD:=zHi (fun W (hW:Qa wr W)=>zcW out nm mo OV oc W (by have:=cX.o;omega) kY.o qo (ziM zai (HO.o.keep hW)).1);unfold zaD at eD;have cg:=zc0 nm mo out;go_upto_region 17 with fail
        have aB:=zHi (fun(W:World) (h:Qa W9 W)=>(show W.cell? ⟨b,off+i*3,none⟩=some (.string nm)/\W.cell? ⟨MB,0,none⟩=some (.int .i64 mo.num)/\W.cell? ⟨MB,1,none⟩=some (.int .i64 mo.den) from⟨(zah h DG).trans i9,(zah h rW).trans m0,(zah h rW).trans m1⟩));clear bl qo aZ pE i9 m0 m1;refine zaJ 7 (fun bb w'=>bb=true\/(w'.cell? ⟨b,off+i*3,none⟩=some (.string nm)/\w'.cell? ⟨MB,0,none⟩=some (.int .i64 mo.num)/\w'.cell? ⟨MB,1,none⟩=some (.int .i64 mo.den))) Mcs (.inr (aB.o _ (zaF Qb))) ?hrest
        case hrest=>
         intro hHeld;refine TkM 0 ?_;refine TkM 1 ?_;refine TkM 2 ?_;refine TkM 3 ?_;refine TkM 4 ?_;refine TkM 5 ?_;refine TkM 6 ?_;refine OnM 7 true fun K hK=>?_
         go_simp
         refine(eD.o _ (zaF zM.o)).mono ?_;rintro e w10 ⟨v10,rfl,o10,b10⟩;refine NxM hK fun hHeld=>?_
         clear hK K;refine OnM 8 true fun K hK=>?_
         go_simp
         refine NxM hK fun hHeld=>?_
         clear hK K;refine zaV Mcs ?_ _;clear hHeld;obtain⟨YA,yc,rfl,pI,_⟩:=o10.sl zai;have cQ:Qa W9 w10:=(zaF Qb).trans b10;obtain⟨vD,ov,ca⟩:=yH3 (zM.o.trans (cQ.mono CH)) (o10.base_le (show W4.heap.size<=W9.drew.heap.size by show W4.heap.size<=W9.heap.size;omega)) (fun W (h:Qa w10 W)=>zdN (za5 out nm mo) YA yc W (by have:=cX.o;omega) (pI.keep h));clear o10 b10 pI cQ rW;have hx:=BG.o;cases hlg:zaG (za5 out nm mo)
         ·rw[hlg]at hx ca;have aA:=zHi (gX.o hlg);rw[if_neg Mcv]at hx;have iR:=zHi hx;clear hx hlg;generalize za5 out nm mo=out1 at*;go_wp2_with (go_at_call 124;go_must(refine(ca.o _ Bw).mono ?_);rintro e wq ⟨rfl,rfl⟩)
          go_round
          case rel=>exact⟨i+1,false,out1,cX.o,by go_num,rfl,ov.o,by omega,(qK.o).trans (vD.o.mono sw),zHi fun _=>⟨pL.o,iR.o,aA.o⟩,zHi Mcv⟩
          case measure=>have:=cX.o;simp only[intOf];omega
         ·rw[hlg]at hx ca;rw[if_pos rfl]at hx;have iR:=zHi hx;clear hx hlg;generalize za5 out nm mo=out1 at*;go_wp2_with (go_at_call 124;go_must(refine(ca.o _ Bw).mono ?_);rintro e wq ⟨rfl,rfl⟩)
          go_round
          case rel=>exact⟨i+1,true,out1,cX.o,by go_num,rfl,ov.o,by omega,(qK.o).trans (vD.o.mono sw),zHi Mcv,zHi fun _=> .inr iR.o⟩
          case measure=>have:=cX.o;simp only[intOf];omega
     ·exact Mh
    ·have xE:¬(i:Int)<(hs.length:Int):=Mcq;cases l'
     ·obtain⟨jA,gJ,_⟩:=zI.o rfl;rw[List.drop_of_length_le Mcq,zb5]at gJ;have oH:D0=(zb2 s n day HH (k+1) (s.graves.drop (k+1))).map ((dx.map (·.g)++[{x.g with holders:=out,died:=x.g.died++[n]}])++ ·):=by
       obtain⟨h1,h2⟩:=kW.o (by rw[jA,Bool.and_false]);rw[jA]at h2;have h2:HH=some hs:=h2;rw[h1,zB.o,h2];exact IQ.o _ hs out Fe.o gJ
      have Ga:HH=some hs:=by
       obtain⟨_,h2⟩:=kW.o (by rw[jA,Bool.and_false]);rw[jA]at h2;exact h2
      obtain⟨HN,kV⟩:=yH2 oH Ga;clear oH Ga gJ jA;obtain⟨OV,oc,rfl,_,yw⟩:=HO.o.ro;have jp:=eB.o.trans (lE.o.mono eB.o.size);have aX:=bB.o.keep jp;obtain⟨gcur,cL,_⟩:=aX.row;have j3:wr.cell? ⟨ga,go+k*5+3,none⟩=some (.slice x.H x.g.holders.length x.hc):=aX.at iI.o (j:=3) rfl;have jf:=aX.frz;have jw:=aX.lt;obtain⟨ry,lM,C9,kh⟩:=yH4 aX cL yw jp;clear yw jp aX cL;go_upto_region 20 with fail
      obtain⟨V1,nN⟩:=Qd (wr.setCell ⟨ga,go+k*5+3,none⟩ (.slice OV out.length oc))
      have gK:wr.grownBy V1 (some ga):=by rw[nN];exact za2 _ _ _ _
      have fk:RowC V1 161 ga go 5 (((dx++gxs.drop k).map GX.cells).set k (x.cells.set 3 (.slice OV out.length oc))):=by rw[nN];exact ry.o.set iI.o Mcu
      have sz:Qa w1 V1:=MdL;rw[<-nN];have Dr:WR.heap.size<=V1.heap.size:=Nat.le_trans kh.o.size gK.size;clear nN j3 jf jw;have ND:=hxd5 fk iI.o;obtain⟨iN,kR⟩:=yH2 fk sz;have Ll:=fk.lt;have vJ:=zHi (C9.o.kept gK lM.o Mcu);have uX:=zHi (fun y hy=>(((gu.o y hy).keep kh.o).kept gK lM.o:okR gxs V1 y));have Cz:=zHi (pR.o V1 (aj.o.trans ((aE.o.trans (sz.mono im)).mono aw))).2;clear fk sz gK
      go_wp2_with (first
       |(at_builtin
         go_loud(refine zas (v:=.slice (some ⟨V1.heap.size,0,none⟩) 0 0) (n:=0) (m:=x.g.died.length) rfl _ _ rfl zbJ zaH zbI rfl (xs:=[]) (ys:=x.g.died) (zea zaH V1 V1.heap.size Qc) rfl rfl rfl (Cz.o.keep (zad Qb _)) Mc9 Mcq Mcv ?_)
         intro v3 w3 h1 h2 h3;rw[List.nil_append]at h1;have av:Qa V1 w3:=Below.grown (zad Qb _) h2 Mcv Mdj;obtain⟨V3,vc3,rfl,_,_⟩:=h1.sl zaH;obtain⟨nE,lC⟩:=yH2 h1 av;have vZ:=av.size
         clear h1 h2 h3 av)
       |(at_builtin
         go_loud(refine zas (v:=.slice V3 x.g.died.length vc3) (n:=x.g.died.length) (m:=1) rfl _ _ rfl zbJ zaH zbI rfl (xs:=x.g.died) (ys:=[n]) (nE.o.keep (n:=w3.heap.size) (zad Qb _)) rfl rfl rfl (zdX (zat _ _ _ rfl)) Mc9 Mcq Mcw ?_)
         intro v6 w6 h1 h2 h3;have aV:Qa V1 w6:=Below.grown (zad lC.o _) h2 Mcw (fun j hj=>(nE.o.ge j hj).1);obtain⟨A6,vc6,ei,_,_⟩:=h1.sl zaH;rw[List.length_append]at ei;subst ei;obtain⟨fG,eL⟩:=yH2 h1 aV;have g8:=iN.o.keep aV;have i4:w6.cell? ⟨ga,go+k*5+4,none⟩=some (.slice x.D x.g.died.length x.dc):=hxd5 g8 iI.o;have jf6:=g8.frz;have E8:=g8.lt;have DF:=aV.size
         clear h1 h2 h3 aV g8))
      go_round
      case rel=>
       have g8:=iN.o.keep eL.o;rw[Bz.o]at g8;obtain⟨gcur6,mL,_⟩:=g8.row;refine⟨k+1,false,true,dx++[(⟨{x.g with holders:=out,died:=x.g.died++[n]},OV,oc,A6,vc6⟩:GX)],ak.o,by go_num,rfl,rfl,by rw[List.length_append,iu];rfl,zHi fun _=>row_two iu g8,zHi fun y hy=>?_,zHi Mcv,zHi fun _=>⟨by rw[HN.o,List.map_append];rfl,kV.o⟩,zaN (kR.o.trans (eL.o.mono kR.o.size)) AC _,by simp;omega⟩;exact Mb5
      case measure=>have:=ak.o;simp only[intOf];omega
     ·exact Mh
  ·have ar:¬(k:Int)<(s.graves.length:Int):=Mcq;have kE:k=s.graves.length:=Mcq;have Eb:gxs.drop k=[]:=List.drop_of_length_le Mcq;have yU:s.graves.drop k=[]:=List.drop_of_length_le Mcq;have HG:Hid ((f&&l)=false->R=({s with graves:=dx.map (·.g),dead:=s.dead++[n]},0)):=zHi fun f9=>by
    obtain⟨h1,_⟩:=kW.o f9;rw[yU,zb2]at h1;rw[HR.o,h1];simp
   have dh:Hid ((f&&l)=true->R=(s,8)):=zHi fun f9=>by rw[HR.o,oh.o f9]
   clear yU aa hB cw;cases f
   ·exact Me
   ·cases l
    ·exact Me
    ·have HE:=zHi (dh.o rfl);clear HG dh;go_wp2_with fail
     refine bodyPost_ret (zb8 rfl _ rfl rfl (zc9 xr0)) rfl ?_;exact⟨_,_,_,_,_,_,_,false,rfl,rfl,zcH (aj.o.trans (aU.o.mono aw)) (show w.heap.size<=w.heap.size+1 by omega),.inr ⟨rfl,by rw[HE.o]⟩⟩
theorem zjY{laws:List Law}{s s':St}{d:Deed}(ht:zbk laws s d=(s',0)):s'.wills.length<=s.wills.length+1:=by
 have key:∀ {x:St×Int},x=(s',0)->x.1.wills.length<=s.wills.length+1->s'.wills.length<=s.wills.length+1:=fun e h=>by rw[e]at h;exact h
 refine key ht ?_;clear key ht;have h0:s.wills.length<=s.wills.length+1:=Nat.le_succ _;unfold zbk;split
 ·unfold zcT;repeat(first|split|exact h0)
 split
 ·unfold zbs;exact Mbm
 split
 ·unfold zba;exact Mbm
 split
 ·unfold zdb;exact Mbm
 split
 ·unfold zgZ;split
  ·exact h0
  ·simp
 split
 ·unfold zb6;repeat(first|split|exact h0)
 split
 ·unfold zcD;repeat(first|split|exact h0)
 split
 ·unfold zdu;repeat(first|split|exact h0)
 ·unfold zdP;repeat(first|split|exact h0)
theorem stFew_of{k:Nat}{s:St}{wd rd:List Deed}(h:FewS k s)(hw:s.wills.length<=k)(hk:k<=1000)(hL:StLink s wd rd):StFew s wd rd:=
 ⟨by have:=h.kids;omega,by have:=h.marr;omega,by have:=h.dead;omega,by rw[hL.wills,List.length_map]at hw;omega,by have:=h.ren;rw[hL.ren,List.length_map]at this;omega,by have:=h.graves;omega⟩
theorem next_same{laws:List Law}{s:St}{ds:List Deed}{d:Deed}{k:Nat}(hc:zaC d=0)(hk:ds.length=k):nxP laws s ds d=zbt laws s k (zeS ds) d:=by
 subst hk;unfold nxP zbt;rw[if_neg (show¬(zaC d != 0)=true by rw[hc];decide)];split
 ·rfl
 ·cases hg:ds.getLast? with
  |none=>
   have h0:=(zcP hc).day.1;have hn:¬d.day<0:=Mcq;simp[zeS,hg,hn]
  |some x=>simp[zeS,hg]
theorem est_heirs{laws:List Law}{s:St}{n:ByteArray}{day last:Int}{k:Nat}{hs:Parts}(hG:GoodSt s last)(hF:FewS k s)(hk:k<=900)(bc:za9 laws=0)(h:zcO s (zbc laws day) n=some hs):hs.length<=1000/\GoodParts hs/\sumQ hs<=1/\zaG hs=false:=by
 have bJ:=zfc bc day;have bL:=ze5 (hG.wills n) bJ h;have eZ:=(zgd (s:=s) (n:=n) (hG.wills n) bJ).1 hs h;have qg:=ziF (s:=s) (law:=zbc laws day) (n:=n) (by rw[eZ];exact bL.1);rw[eZ]at qg;have h1:=hF.wills n;have h2:=hF.kids;simp only at qg;exact⟨by omega,bL.1,by rw[bL.2.1];exact Rat.le_refl,bL.2.2⟩
theorem zpt(laws:List Law)(s:St)(last:Int)(k:Nat)(d:Deed)(B:Option Addr)(c:Nat)(ds:List Deed)(DB:Option Addr)(dc:Nat)(w:World){a0 a1 a2 a3 a4 a5 a6:Value}(hs:StAt w laws s a0 a1 a2 a3 a4 a5 a6)(hG:GoodSt s last)(hF:FewS k s)(hw:s.wills.length<=k)(hk:k<=600)(bc:za9 laws=0)
 (hd:zaC d=0)(ao:d.to.length<=c)(hS:Sl w 3 RPart.cells B d.to)(gC:SlW w 7 zfL DB ds)(n:Nat)(hn:n=ds.length):Calls Tryz.prog 18 #[.agg #[a0,a1,a2,a3,a4,a5,a6],.slice DB n dc,d.v B c] w (zfR w laws (nxP laws s ds d)):=by
 subst hn;obtain⟨wd,rd,LA,CA,MA,DA,WA,RA,GA,c0,c1,c2,c3,c4,c5,c6,rfl,rfl,rfl,rfl,rfl,rfl,rfl,hI,hL⟩:=hs;have hf:=stFew_of hF hw Mcq hL;refine rNext_of laws s wd rd LA CA MA DA WA RA GA c0 c1 c2 c3 c4 c5 c6 d B c w hI hL hf (zcP hd) hS ds DB dc gC ao (fun g hg=>⟨hG.graves g hg,by have:=(hF.held g hg).1;omega⟩) (fun g hg=>(hF.held g hg).2.2) fun W hB=>?_
 exact rDies_any laws s wd rd LA CA MA DA WA RA GA c0 c1 c2 c3 c4 c5 c6 d.frm d.day W (hI.keep hB) hL hf bc (hG.wills _) hG.acyc (hF.wills _) (fun g hg=>⟨hG.graves g hg,by have:=(hF.held g hg).1;omega⟩) (fun g hg=>by have:=(hF.held g hg).2.1;omega) fun hs h=>est_heirs hG hF Mcq bc h
def znq(w:World)(laws:List Law)(R:St×Nat×Int)(e:Ending)(w':World):Prop:=
 ∃a0 a1 a2 a3 a4 a5 a6,e=.returned (.tuple #[.agg #[a0,a1,a2,a3,a4,a5,a6],.int .i64 (R.2.1:Int),.int .i64 R.2.2])/\([a0,a1,a2,a3,a4,a5,a6].all zcR)=true/\Qa w w'/\(R.2.2=0->StAt w' laws R.1 a0 a1 a2 a3 a4 a5 a6)
theorem st_zero{w:World}{laws:List Law}{LA:Option Addr}{c:Nat}(h:Sl w 4 Law.cells LA laws):StAt w laws zbb (.slice LA laws.length c) (.slice none 0 0) (.slice none 0 0) (.slice none 0 0) (.slice none 0 0) (.slice none 0 0) (.slice none 0 0):=
 ⟨[],[],LA,none,none,none,none,none,none,c,0,0,0,0,0,0,rfl,rfl,rfl,rfl,rfl,rfl,rfl,⟨h,Sl.nil,Sl.nil,Sl.nil,fun h=>absurd h Mcv,fun h=>absurd h Mcv,fun h=>absurd h (by simp[zbb]),Qc⟩,⟨rfl,by simp,rfl,by simp⟩⟩
theorem zeN{w:World}{B:Nat}{x0 x1 x2 x3 x4 x5 x6 y z:Value}{fn:Func}{p q r:Tmp}(h:fn.results= #[.cell p 35,.tmp q,.tmp r])(tmps:Array Value)(hp:tmps.getD p undef=.pointer (some ⟨B,0,none⟩))(hq:tmps.getD q undef=y)(hr:tmps.getD r undef=z)
 (hx:w.heap[B]?=some (.cells #[x0,x1,x2,x3,x4,x5,x6] 35)):(results fn tmps).run Tryz.prog w=.ok (.tuple #[.agg #[x0,x1,x2,x3,x4,x5,x6],y,z]) w:=by
 obtain⟨h0,h1,h2,h3,h4,h5,h6⟩:=zaK hx;clear hx;have hc:(results fn tmps).run Tryz.prog w=((asAddr (tmps.getD p undef)).run Tryz.prog w).andThen fun x w₁=>((loadVar 35 x).run Tryz.prog w₁).andThen fun v w₂=> .ok (.tuple #[v,tmps.getD q undef,tmps.getD r undef]) w₂:=by
  exact Mbu
 rw[hc,hp,hq,hr];go_simp
theorem drew_heap(W:World)(k:Nat):W.drew.heap[k]?=W.heap[k]?:=rfl
structure RepAt (base TB:Nat) (W:World) (laws:List Law) (ds:List Deed) (LA DA:Option Addr) (nc mc:Nat) (s told:St) (a0 a1 a2 a3 a4 a5 a6 b0 b1 b2 b3 b4 b5 b6:Value):Prop where
 box:W.heap[base]?=some (.cells #[.slice LA laws.length nc,.slice DA ds.length mc] 25)
 res:W.heap[base+1]?=some (.cells #[.slice none 0 0,.slice none 0 0,.slice none 0 0,.slice none 0 0,.slice none 0 0,.slice none 0 0,.slice none 0 0] 35)
 st:W.heap[base+2]?=some (.cells #[a0,a1,a2,a3,a4,a5,a6] 35)
 tcell:W.heap[TB]?=some (.cells #[b0,b1,b2,b3,b4,b5,b6] 35)
 tb:base+2<TB
 sl:([a0,a1,a2,a3,a4,a5,a6].all zcR)=true
 sl2:([b0,b1,b2,b3,b4,b5,b6].all zcR)=true
 sAt:StAt W laws s a0 a1 a2 a3 a4 a5 a6
 tAt:StAt W laws told b0 b1 b2 b3 b4 b5 b6
section
variable {base TB:Nat} {W W':World} {laws:List Law} {ds:List Deed} {LA DA:Option Addr} {nc mc:Nat} {s told s':St} {a0 a1 a2 a3 a4 a5 a6 b0 b1 b2 b3 b4 b5 b6 d0 d1 d2 d3 d4 d5 d6:Value}
theorem RepAt.keep(h:RepAt base TB W laws ds LA DA nc mc s told a0 a1 a2 a3 a4 a5 a6 b0 b1 b2 b3 b4 b5 b6)(hB:Qa W W'):RepAt base TB W' laws ds LA DA nc mc s told a0 a1 a2 a3 a4 a5 a6 b0 b1 b2 b3 b4 b5 b6:=
 ⟨(hB.block _ (zab h.box)).trans h.box,(hB.block _ (zab h.res)).trans h.res,(hB.block _ (zab h.st)).trans h.st,(hB.block _ (zab h.tcell)).trans h.tcell,h.tb,h.sl,h.sl2,h.sAt.keep hB,h.tAt.keep hB⟩
theorem zpu{w:World}{b k:Nat}{x:Obj}{a0 a1 a2 a3 a4 a5 a6:Value}(ag:k≠b)(h:w.heap[k]?=some x):(((((((w.setCell ⟨b,0,none⟩ a0).setCell ⟨b,1,none⟩ a1).setCell ⟨b,2,none⟩ a2).setCell ⟨b,3,none⟩ a3).setCell ⟨b,4,none⟩ a4).setCell ⟨b,5,none⟩ a5).setCell ⟨b,6,none⟩ a6).heap[k]?=some x:=
 J_ne ag (J_ne ag (J_ne ag (J_ne ag (J_ne ag (J_ne ag (J_ne ag h))))))
theorem RepAt.setS(h:RepAt base TB W laws ds LA DA nc mc s told a0 a1 a2 a3 a4 a5 a6 b0 b1 b2 b3 b4 b5 b6)(be:([d0,d1,d2,d3,d4,d5,d6].all zcR)=true)(hs:StAt W laws s' d0 d1 d2 d3 d4 d5 d6):
 RepAt base TB (((((((W.setCell ⟨base+2,0,none⟩ d0).setCell ⟨base+2,1,none⟩ d1).setCell ⟨base+2,2,none⟩ d2).setCell ⟨base+2,3,none⟩ d3).setCell ⟨base+2,4,none⟩ d4).setCell ⟨base+2,5,none⟩ d5).setCell ⟨base+2,6,none⟩ d6) laws ds LA DA nc mc s' told d0 d1 d2 d3 d4 d5 d6 b0 b1 b2 b3 b4 b5 b6:=
 ⟨zpu Mcq h.box,zpu Mcq h.res,zc9 h.st,zpu (by have:=h.tb;omega) h.tcell,h.tb,be,h.sl2,(zcI h.st h.sl).st hs,(zcI h.st h.sl).st h.tAt⟩
theorem RepAt.setT(h:RepAt base TB W laws ds LA DA nc mc s told a0 a1 a2 a3 a4 a5 a6 b0 b1 b2 b3 b4 b5 b6):
 RepAt base TB (((((((W.setCell ⟨TB,0,none⟩ a0).setCell ⟨TB,1,none⟩ a1).setCell ⟨TB,2,none⟩ a2).setCell ⟨TB,3,none⟩ a3).setCell ⟨TB,4,none⟩ a4).setCell ⟨TB,5,none⟩ a5).setCell ⟨TB,6,none⟩ a6) laws ds LA DA nc mc s s a0 a1 a2 a3 a4 a5 a6 a0 a1 a2 a3 a4 a5 a6:=
 ⟨zpu (by have:=h.tb;omega) h.box,zpu (by have:=h.tb;omega) h.res,zpu (by have:=h.tb;omega) h.st,zc9 h.tcell,h.tb,h.sl,h.sl,(zcI h.tcell h.sl2).st h.sAt,(zcI h.tcell h.sl2).st h.sAt⟩
end
theorem znr(laws:List Law)(ds:List Deed)(upto:Int)(LA:Option Addr)(n nc:Nat)(DA:Option Addr)(m mc:Nat)(w:World)(hR:RightsIn w laws ds LA n nc DA m mc)(hO:∀d∈ds,zdE d)(br:ds.length<=500):
 Calls Tryz.prog 6 #[.agg #[.slice LA n nc,.slice DA m mc],.int .i64 upto] w (znq w laws (zaB laws ds upto)):=by
 obtain⟨rfl,rfl,uz,kA,eT,gC⟩:=hR;obtain⟨R,hR⟩:=Qd (zaB laws ds upto)
 rw[<-hR];unfold zaB at hR;obtain⟨bZ,dB,dj,HO,Cf⟩:=yH5 (fun W (hB:Qa w W)=>zjp laws LA laws.length nc W rfl (eT.keep hB)) (fun W (hB:Qa w W)=>(eT.keep hB:Sl W 4 Law.cells LA laws)) (fun W (hB:Qa w W)=>(gC.keep zbP hB:SlW W 7 zfL DA ds)) hO hR;unfold znq;clear eT gC hO hR;go_enter Tryz.func6,Tryz.ntmps6
 go_upto_region 2 with fail
 obtain⟨W0,am⟩:=Qd (((w.alloc (.cells #[.slice LA laws.length nc,.slice DA ds.length mc] 25)).alloc (.cells #[.slice none 0 0,.slice none 0 0,.slice none 0 0,.slice none 0 0,.slice none 0 0,.slice none 0 0,.slice none 0 0] 35)).alloc (.cells #[.slice LA laws.length nc,.slice none 0 0,.slice none 0 0,.slice none 0 0,.slice none 0 0,.slice none 0 0,.slice none 0 0] 35))
 have aS:Qa w W0:=Mc1;have g0:W0.heap[w.heap.size]?=some (.cells #[.slice LA laws.length nc,.slice DA ds.length mc] 25):=Mdv;have g1:W0.heap[w.heap.size+1]?=some (.cells #[.slice none 0 0,.slice none 0 0,.slice none 0 0,.slice none 0 0,.slice none 0 0,.slice none 0 0,.slice none 0 0] 35):=by rw[am];exact zal (zat _ _ _ Mcv)
 have g2:W0.heap[w.heap.size+2]?=some (.cells #[.slice LA laws.length nc,.slice none 0 0,.slice none 0 0,.slice none 0 0,.slice none 0 0,.slice none 0 0,.slice none 0 0] 35):=by rw[am];exact zat _ _ _ Mcv
 rw[<-am];have aj:=zHi aS;have aw:=aS.size;clear am aS;obtain⟨x0,x1⟩:=zbj g0;have lx:=zab g0;go_upto_region 3 with(go_at_call 16;go_must(refine(bZ.o _ aj.o).mono ?_);rintro e wq ⟨rfl,z,rfl⟩)
 obtain⟨W1,aP⟩:=Qd (W0.ext z)
 have aO:Qa W0 W1:=Mdk;rw[<-aP];have im:=aO.size;have g0:=(aO.block _ (zab g0)).trans g0;have g1:=(aO.block _ (zab g1)).trans g1;have l2:=zab g2;have g2:=(aO.block _ (zab g2)).trans g2;have aE:=zHi (aj.o.trans (aO.mono aw));clear aP aO x0 x1 lx;obtain⟨s0,s1,s2,s3,s4,s5,s6⟩:=zaK g2;have ls:=zab g2;by_cases hce:za9 laws=0;rotate_left 1
 ·have HE:Hid (R=(zbb,0,za9 laws)):=by show _=_;rw[Cf.o,if_pos MdS]
  have nP:(za9 laws != 0)=true:=MdS;have iL:=zHi hce;obtain⟨r0,r1,r2,r3,r4,r5,r6⟩:=zaK g1;have rf:=frz g1;have lr:=zab g1;generalize za9 laws=ce at*;clear hce;go_wp2_with fail
  refine bodyPost_ret (zeN rfl _ rfl rfl rfl (zc9 g1)) rfl ?_;rw[HE.o];exact⟨_,_,_,_,_,_,_,rfl,by first|rfl|exact⟨rfl,rfl,rfl,rfl,rfl,rfl,rfl⟩,zcH aE.o (show w.heap.size<=w.heap.size+1 by omega),fun h=>absurd h iL.o⟩
 have u7:Hid (R=zau laws upto (ds.drop 0) zbb zbb 0 0):=by show _=_;rw[Cf.o,if_neg (by simp[hce])];rfl
 rw[hce];have dU:=zHi hce;clear hce Cf;go_upto_region 6 with fail
 obtain⟨TB,Do⟩:=Qd W1.heap.size
 obtain⟨W2,cF⟩:=Qd (W1.alloc (.cells #[.slice LA laws.length nc,.slice none 0 0,.slice none 0 0,.slice none 0 0,.slice none 0 0,.slice none 0 0,.slice none 0 0] 35))
 have bC:Qa W1 W2:=by rw[cF];exact zad Qb _
 have oU:=aE.o.trans (bC.mono aE.o.size);have aC:=zHi oU;have vM:Hid (RepAt w.heap.size TB W2 laws ds LA DA nc mc zbb zbb (.slice LA laws.length nc) (.slice none 0 0) (.slice none 0 0) (.slice none 0 0) (.slice none 0 0) (.slice none 0 0) (.slice none 0 0) (.slice LA laws.length nc) (.slice none 0 0) (.slice none 0 0) (.slice none 0 0) (.slice none 0 0) (.slice none 0 0) (.slice none 0 0)):=zHi
  ⟨(bC.block _ (zab g0)).trans g0,(bC.block _ (zab g1)).trans g1,(bC.block _ (zab g2)).trans g2,by rw[cF,Do];exact zat _ _ _ rfl,by omega,rfl,rfl,st_zero (dB.o _ oU),st_zero (dB.o _ oU)⟩
 rw[<-cF,<-Do];clear cF Do g0 g1 g2 bC oU s0 s1 s2 s3 s4 s5 s6 ls l2;go_upto_region 7 with fail
 go_loopw [10] (fun v wr=>∃(k:Nat) (s told:St) (last:Int) (a0 a1 a2 a3 a4 a5 a6 b0 b1 b2 b3 b4 b5 b6:Value),k<=ds.length/\v=.int .i64 k/\Hid (RepAt w.heap.size TB wr laws ds LA DA nc mc s told a0 a1 a2 a3 a4 a5 a6 b0 b1 b2 b3 b4 b5 b6)/\Hid (GoodSt s last/\FewS k s/\s.wills.length<=k/\last=zeS (ds.take k))/\Hid (R=zau laws upto (ds.drop k) s told k last)/\Qa w wr) (fun v _=>ds.length-(intOf v).toNat)
 case atStart=>exact⟨0,zbb,zbb,0,_,_,_,_,_,_,_,_,_,_,_,_,_,_,Nat.zero_le _,rfl,vM,zHi ⟨zdT 0,zfD,Qc,rfl⟩,u7,aC.o⟩
 case round=>
  obtain⟨k,s,told,last,a0,a1,a2,a3,a4,a5,a6,b0,b1,b2,b3,b4,b5,b6,hk,rfl,HA,HI,HX,hB⟩:=hrel;obtain⟨WR,mn⟩:=Qd wr
  subst mn;have aW:=hB.size;have HB:=zHi hB;by_cases aa:k<ds.length
  ·obtain⟨gb,go,cs,mg,cL,dr,ah⟩:=(dj.o WR hB).at aa;have gI:ds.drop k=ds[k]::ds.drop (k+1):=List.drop_eq_getElem_cons aa;have hx:=HX.o;rw[gI,zau]at hx;have pg:=zjP aa;have nV:=HO.o ds[k] (List.getElem_mem aa);have bT:(ds.take k).length=k:=Mdm;have ak:=zHi aa;generalize ds[k]=x at*;obtain⟨EB,ec,uq,rfl,hP⟩:=dr;have i0:WR.cell? ⟨gb,go+k*7,none⟩=some (.int .i64 x.kind):=Mc7;have i1:WR.cell? ⟨gb,go+k*7+1,none⟩=some (.int .i64 x.day):=ah 1 _ rfl;have i2:WR.cell? ⟨gb,go+k*7+2,none⟩=some (.string x.place):=ah 2 _ rfl;have i3:WR.cell? ⟨gb,go+k*7+3,none⟩=some (.string x.frm):=ah 3 _ rfl;have i4:WR.cell? ⟨gb,go+k*7+4,none⟩=some (.slice EB x.to.length ec):=ah 4 _ rfl;have i5:WR.cell? ⟨gb,go+k*7+5,none⟩=some (.int .i64 x.cls):=ah 5 _ rfl;have i6:WR.cell? ⟨gb,go+k*7+6,none⟩=some (.int .i64 x.years):=ah 6 _ rfl;have ar:(k:Int)<(ds.length:Int):=Mcq;have aR:(0:Int)<=(k:Int):=Mcq;have Hp:(k:Int)<=(mc:Int):=Mcq;have LM:k<=mc:=Mcq;subst mg;obtain⟨kY,fq⟩:=yH2 (fun W (h:Qa WR W)=>(hP.keep h:Sl W 3 RPart.cells EB x.to)) (fun W (h:Qa WR W)=>zjs x EB ec W nV (hP.keep h));unfold Deed.v at fq;obtain⟨⟨A0,m0,q0,rfl⟩,⟨A1,m1,q1,rfl⟩,⟨A2,m2,q2,rfl⟩,⟨A3,m3,q3,rfl⟩,⟨A4,m4,q4,rfl⟩,⟨A5,m5,q5,rfl⟩,⟨A6,m6,q6,rfl⟩⟩:=zcS (HA.o.sl);obtain⟨x0,x1⟩:=zbj (HA.o).box;obtain⟨s0,s1,s2,s3,s4,s5,s6⟩:=zaK (HA.o).st;obtain⟨t0,t1,t2,t3,t4,t5,t6⟩:=zaK (HA.o).tcell;obtain⟨r0,r1,r2,r3,r4,r5,r6⟩:=zaK (HA.o).res;have sf:=frz (HA.o).st;have tf:=frz (HA.o).tcell
   have rf:=frz (HA.o).res;have lx:=zab (HA.o).box;have ls:=zab (HA.o).st;have lt':=zab (HA.o).tcell;have lr:=zab (HA.o).res;by_cases iU:zaC x=0;rotate_left 1
   ·have cR:zbt laws s k last x=(s,zaC x):=by unfold zbt;rw[if_pos (by simpa using iU)]
    have HE:Hid (R=(told,k,zaC x)):=by show _=_;rw[hx,cR,if_pos (by simpa using iU)]
    have iL:=zHi iU;have nP:(zaC x==0)=false:=by simpa using iU
    have xj:(zaC x != 0)=true:=by simpa using iU
    clear hx cR pg nV bT ah hP uq aa gI iU;generalize zaC x=ce at*;go_upto_region 10 with(go_at_call 17;go_must(refine(fq.o _ Qb).mono ?_);rintro e wq ⟨rfl,z,rfl⟩)
    obtain⟨W3,bo⟩:=Qd (WR.ext z)
    have av:Qa WR W3:=by rw[bo];exact zaq _ _
    rw[<-bo];obtain⟨cD,aJ⟩:=yH2 (HA.o.keep av) (hB.trans (av.mono aW));clear x0 x1 s0 s1 s2 s3 s4 s5 s6 t0 t1 t2 t3 t4 t5 t6 r0 r1 r2 r3 r4 r5 r6 sf tf rf lx ls lt' lr;clear bo av i0 i1 i2 i3 i4 i5 i6;obtain⟨⟨B0,k0,p0,rfl⟩,⟨B1,k1,p1,rfl⟩,⟨B2,k2,p2,rfl⟩,⟨B3,k3,p3,rfl⟩,⟨B4,k4,p4,rfl⟩,⟨B5,k5,p5,rfl⟩,⟨B6,k6,p6,rfl⟩⟩:=zcS ((cD.o).sl2);obtain⟨x0,x1⟩:=zbj ((cD.o)).box;obtain⟨s0,s1,s2,s3,s4,s5,s6⟩:=zaK ((cD.o)).st;obtain⟨t0,t1,t2,t3,t4,t5,t6⟩:=zaK ((cD.o)).tcell;obtain⟨r0,r1,r2,r3,r4,r5,r6⟩:=zaK ((cD.o)).res;have sf:=frz ((cD.o)).st;have tf:=frz ((cD.o)).tcell;have rf:=frz ((cD.o)).res;have lx:=zab ((cD.o)).box;have ls:=zab ((cD.o)).st;have lt':=zab ((cD.o)).tcell;have lr:=zab ((cD.o)).res;go_wp2_with fail
    refine bodyPost_ret (zeN rfl _ rfl rfl rfl (zc9 (cD.o).res)) rfl ?_;rw[HE.o];exact⟨_,_,_,_,_,_,_,rfl,by first|rfl|exact⟨rfl,rfl,rfl,rfl,rfl,rfl,rfl⟩,zcH (aJ.o) (show w.heap.size<=w.heap.size+1 by omega),fun h=>absurd h iL.o⟩
   rw[iU]at fq;have nU:=next_same (laws:=laws) (s:=s) iU bT;obtain⟨hG,hF,bY,AL⟩:=HI.o;rw[<-AL]at nU;have gX:=zHi (fun W (h:Qa WR W) (hL:k<=600)=>zpt laws s last k x EB ec (ds.take k) (some ⟨gb,go,none⟩) mc W (HA.o.sAt.keep h) hG hF bY hL dU.o iU uq (hP.keep h) ((dj.o W (hB.trans (h.mono aW))).take k) k bT.symm);rw[nU]at gX;have I4:=zcr (laws:=laws) (s:=s) (k:=k) (last:=last) (d:=x);have dq:(zbt laws s k last x).2=0->GoodSt (zbt laws s k last x).1 x.day/\FewS (k+1) (zbt laws s k last x).1/\(zbt laws s k last x).1.wills.length<=k+1/\x.day=zeS (ds.take (k+1)):=fun h0=>by
    obtain⟨_,h2,h3,h4⟩:=I4 h0;have ht:zbk laws s x=((zbt laws s k last x).1,0):=by rw[<-h4];exact Prod.ext rfl h0
    exact⟨zf6 hG (zcP iU) h3 dU.o ht,zkD hF h2 hG (zcP iU) h3 dU.o ht,by have:=zjY ht;omega,pg.symm⟩
   obtain⟨BI,ax⟩:=yH2 dq hx;clear hx dq I4 nU hG hF bY AL pg nV ah hP gI aa iU;generalize zbt laws s k last x=N at*;obtain⟨s',er⟩:=N;simp only at BI ax;go_upto_region 11 with(go_at_call 17;go_must(refine(fq.o _ Qb).mono ?_);rintro e wq ⟨rfl,z,rfl⟩)
   obtain⟨W3,bo⟩:=Qd (WR.ext z)
   have av:Qa WR W3:=by rw[bo];exact zaq _ _
   rw[<-bo];have vZ:=av.size;have ix:gb<W3.heap.size:=Mcq;have i0:=(zah av cL).trans i0;have i1:=(zah av cL).trans i1;have i2:=(zah av cL).trans i2;have i3:=(zah av cL).trans i3;have i4:=(zah av cL).trans i4;have i5:=(zah av cL).trans i5;have i6:=(zah av cL).trans i6;obtain⟨cD,aJ,Bq⟩:=yH3 (HA.o.keep av) (hB.trans (av.mono aW)) av;clear x0 x1 s0 s1 s2 s3 s4 s5 s6 t0 t1 t2 t3 t4 t5 t6 r0 r1 r2 r3 r4 r5 r6 sf tf rf lx ls lt' lr;clear bo av hB;obtain⟨x0,x1⟩:=zbj (cD.o).box;obtain⟨s0,s1,s2,s3,s4,s5,s6⟩:=zaK (cD.o).st;obtain⟨t0,t1,t2,t3,t4,t5,t6⟩:=zaK (cD.o).tcell;obtain⟨r0,r1,r2,r3,r4,r5,r6⟩:=zaK (cD.o).res;have sf:=frz (cD.o).st;have tf:=frz (cD.o).tcell;have rf:=frz (cD.o).res;have lx:=zab (cD.o).box;have ls:=zab (cD.o).st;have lt':=zab (cD.o).tcell;have lr:=zab (cD.o).res
   have aB:=zHi (fun(W:World) (h:Qa W3 W)=>(show W.cell? ⟨w.heap.size,1,none⟩=some (.slice (some ⟨gb,go,none⟩) ds.length mc)/\W.cell? ⟨w.heap.size+2,0,none⟩=some (.slice A0 m0 q0)/\W.cell? ⟨w.heap.size+2,1,none⟩=some (.slice A1 m1 q1)/\W.cell? ⟨w.heap.size+2,2,none⟩=some (.slice A2 m2 q2)/\W.cell? ⟨w.heap.size+2,3,none⟩=some (.slice A3 m3 q3)/\W.cell? ⟨w.heap.size+2,4,none⟩=some (.slice A4 m4 q4)/\W.cell? ⟨w.heap.size+2,5,none⟩=some (.slice A5 m5 q5)/\W.cell? ⟨w.heap.size+2,6,none⟩=some (.slice A6 m6 q6)/\W.cell? ⟨gb,go+k*7,none⟩=some (.int .i64 x.kind)/\W.cell? ⟨gb,go+k*7+1,none⟩=some (.int .i64 x.day)/\W.cell? ⟨gb,go+k*7+2,none⟩=some (.string x.place)/\W.cell? ⟨gb,go+k*7+3,none⟩=some (.string x.frm)/\W.cell? ⟨gb,go+k*7+4,none⟩=some (.slice EB x.to.length ec)/\W.cell? ⟨gb,go+k*7+5,none⟩=some (.int .i64 x.cls)/\W.cell? ⟨gb,go+k*7+6,none⟩=some (.int .i64 x.years) from⟨(zah h lx).trans x1,(zah h ls).trans s0,(zah h ls).trans s1,(zah h ls).trans s2,(zah h ls).trans s3,(zah h ls).trans s4,(zah h ls).trans s5,(zah h ls).trans s6,(zah h ix).trans i0,(zah h ix).trans i1,(zah h ix).trans i2,(zah h ix).trans i3,(zah h ix).trans i4,(zah h ix).trans i5,(zah h ix).trans i6⟩));have oo:=zHi (show k<=600 by omega)
   refine zaJ 10 (fun bb w'=>bb=true\/(w'.cell? ⟨w.heap.size,1,none⟩=some (.slice (some ⟨gb,go,none⟩) ds.length mc)/\w'.cell? ⟨w.heap.size+2,0,none⟩=some (.slice A0 m0 q0)/\w'.cell? ⟨w.heap.size+2,1,none⟩=some (.slice A1 m1 q1)/\w'.cell? ⟨w.heap.size+2,2,none⟩=some (.slice A2 m2 q2)/\w'.cell? ⟨w.heap.size+2,3,none⟩=some (.slice A3 m3 q3)/\w'.cell? ⟨w.heap.size+2,4,none⟩=some (.slice A4 m4 q4)/\w'.cell? ⟨w.heap.size+2,5,none⟩=some (.slice A5 m5 q5)/\w'.cell? ⟨w.heap.size+2,6,none⟩=some (.slice A6 m6 q6)/\w'.cell? ⟨gb,go+k*7,none⟩=some (.int .i64 x.kind)/\w'.cell? ⟨gb,go+k*7+1,none⟩=some (.int .i64 x.day)/\w'.cell? ⟨gb,go+k*7+2,none⟩=some (.string x.place)/\w'.cell? ⟨gb,go+k*7+3,none⟩=some (.string x.frm)/\w'.cell? ⟨gb,go+k*7+4,none⟩=some (.slice EB x.to.length ec)/\w'.cell? ⟨gb,go+k*7+5,none⟩=some (.int .i64 x.cls)/\w'.cell? ⟨gb,go+k*7+6,none⟩=some (.int .i64 x.years))) Mcs (.inr (aB.o _ (zaF Qb))) ?hrest
   case hrest=>
    intro hHeld;clear x0 x1 s0 s1 s2 s3 s4 s5 s6 t0 t1 t2 t3 t4 t5 t6 r0 r1 r2 r3 r4 r5 r6 sf tf rf lx ls lt' lr;clear i0 i2 i3 i4 i5 i6;refine TkM 0 ?_;refine TkM 1 ?_;refine TkM 2 ?_;refine TkM 3 ?_;refine TkM 4 ?_;refine TkM 5 ?_;refine TkM 6 ?_;refine TkM 7 ?_;refine TkM 8 ?_;refine TkM 9 ?_;refine OnM 10 true fun K hK=>?_
    go_simp
    refine(gX.o _ (zaF Bq.o) oo.o).mono ?_;rintro e w5 ⟨d0,d1,d2,d3,d4,d5,d6,rfl,be,aq,ai⟩;have yV:=be;obtain⟨⟨D0,e0,f0,rfl⟩,⟨D1,e1,f1,rfl⟩,⟨D2,e2,f2,rfl⟩,⟨D3,e3,f3,rfl⟩,⟨D4,e4,f4,rfl⟩,⟨D5,e5,f5,rfl⟩,⟨D6,e6,f6,rfl⟩⟩:=zcS be;have dL:Qa W3 w5:=(zaF Qb:Qa W3 W3.drew).trans aq;obtain⟨gq,bn,aA,Cl⟩:=yH4 (cD.o.keep dL) (aJ.o.trans (dL.mono aJ.o.size)) ai yV;have i1:=(zah dL ix).trans i1;have E5:gb<w5.heap.size:=by have:=dL.size;omega
    clear aq ai be yV dL;obtain⟨x0,x1⟩:=zbj (gq.o).box;obtain⟨s0,s1,s2,s3,s4,s5,s6⟩:=zaK (gq.o).st;obtain⟨t0,t1,t2,t3,t4,t5,t6⟩:=zaK (gq.o).tcell;obtain⟨r0,r1,r2,r3,r4,r5,r6⟩:=zaK (gq.o).res;have sf:=frz (gq.o).st;have tf:=frz (gq.o).tcell;have rf:=frz (gq.o).res;have lx:=zab (gq.o).box;have ls:=zab (gq.o).st;have lt':=zab (gq.o).tcell;have lr:=zab (gq.o).res;refine NxM hK fun hHeld=>?_
    clear hK K;refine FrM 11 true ?_;refine FrM 12 true ?_;refine FrM 13 true ?_;refine OnM 14 true fun K hK=>?_
    go_simp
    refine NxM hK fun hHeld=>?_
    clear hK K;refine OnM 15 true fun K hK=>?_
    go_simp
    refine NxM hK fun hHeld=>?_
    clear hK K;refine zaV Mcs ?_ _;clear hHeld;obtain⟨W6,eF⟩:=Qd (((((((w5.setCell ⟨w.heap.size+2,0,none⟩ (.slice D0 e0 f0)).setCell ⟨w.heap.size+2,1,none⟩ (.slice D1 e1 f1)).setCell ⟨w.heap.size+2,2,none⟩ (.slice D2 e2 f2)).setCell ⟨w.heap.size+2,3,none⟩ (.slice D3 e3 f3)).setCell ⟨w.heap.size+2,4,none⟩ (.slice D4 e4 f4)).setCell ⟨w.heap.size+2,5,none⟩ (.slice D5 e5 f5)).setCell ⟨w.heap.size+2,6,none⟩ (.slice D6 e6 f6))
    have du:OffS (w.heap.size+2) w5 W6:=by rw[eF];exact zcI gq.o.st gq.o.sl
    have kZ:Hid (W6.heap[TB]?=some (.cells #[b0,b1,b2,b3,b4,b5,b6] 35)):=by show _=_;rw[du.same _ (by have:=gq.o.tb;omega)];exact gq.o.tcell
    have tV:Hid (W6.heap[w.heap.size+1]?=some (.cells #[.slice none 0 0,.slice none 0 0,.slice none 0 0,.slice none 0 0,.slice none 0 0,.slice none 0 0,.slice none 0 0] 35)):=by show _=_;rw[du.same _ Mcq];exact gq.o.res
    have IF:Hid (W6.heap[w.heap.size]?=some (.cells #[.slice LA laws.length nc,.slice (some ⟨gb,go,none⟩) ds.length mc] 25)):=by show _=_;rw[du.same _ Mcq];exact gq.o.box
    have sP:=du.ne i1 rfl;have i1:=(du.cell sP).trans i1;have mL:=du.lt sP E5;have xe:Qa w W6:=by rw[eF];exact zcH bn.o Mcq
    have Ix:Hid (er=0->RepAt w.heap.size TB W6 laws ds LA (some ⟨gb,go,none⟩) nc mc s' told (.slice D0 e0 f0) (.slice D1 e1 f1) (.slice D2 e2 f2) (.slice D3 e3 f3) (.slice D4 e4 f4) (.slice D5 e5 f5) (.slice D6 e6 f6) b0 b1 b2 b3 b4 b5 b6):=zHi fun h0=>by
     rw[eF];exact gq.o.setS Cl.o (aA.o h0)
    rw[<-eF];have bR:=zHi xe;obtain⟨⟨B0,k0,p0,rfl⟩,⟨B1,k1,p1,rfl⟩,⟨B2,k2,p2,rfl⟩,⟨B3,k3,p3,rfl⟩,⟨B4,k4,p4,rfl⟩,⟨B5,k5,p5,rfl⟩,⟨B6,k6,p6,rfl⟩⟩:=zcS (gq.o.sl2);clear x0 x1 s0 s1 s2 s3 s4 s5 s6 t0 t1 t2 t3 t4 t5 t6 r0 r1 r2 r3 r4 r5 r6 sf tf rf lx ls lt' lr;clear eF du xe sP;by_cases fx:er=0
    ·subst fx;have HA:=zHi (Ix.o rfl);have hx:=ax.o;rw[if_neg Mcv]at hx;have dq:=BI.o rfl;obtain⟨x0,x1⟩:=zbj (HA.o).box;obtain⟨s0,s1,s2,s3,s4,s5,s6⟩:=zaK (HA.o).st;obtain⟨t0,t1,t2,t3,t4,t5,t6⟩:=zaK (HA.o).tcell;obtain⟨r0,r1,r2,r3,r4,r5,r6⟩:=zaK (HA.o).res;have sf:=frz (HA.o).st;have tf:=frz (HA.o).tcell;have rf:=frz (HA.o).res;have lx:=zab (HA.o).box;have ls:=zab (HA.o).st;have lt':=zab (HA.o).tcell;have lr:=zab (HA.o).res;by_cases hdu:x.day<=upto
     ·rw[if_pos (by simpa using hdu)]at hx;obtain⟨dW,rg⟩:=yH2 hx dq;clear hx dq;go_wp2_with fail
      go_round
      case rel=>exact⟨k+1,s',s',x.day,_,_,_,_,_,_,_,_,_,_,_,_,_,_,ak.o,by go_num,zHi HA.o.setT,rg,dW,zcH bR.o (by have:=HA.o.tb;omega)⟩
      case measure=>have:=ak.o;simp only[intOf];omega
     ·rw[if_neg (by simpa using hdu)]at hx;obtain⟨dW,rg⟩:=yH2 hx dq;clear hx dq;go_wp2_with fail
      go_round
      case rel=>exact⟨k+1,s',told,x.day,_,_,_,_,_,_,_,_,_,_,_,_,_,_,ak.o,by go_num,HA,rg,dW,bR.o⟩
      case measure=>have:=ak.o;simp only[intOf];omega
    ·have xj:(er != 0)=true:=by simpa using fx
     have HE:Hid (R=(told,k,er)):=by show _=_;rw[ax.o,if_pos xj]
     have iL:=zHi fx;clear fx i1;obtain⟨t0,t1,t2,t3,t4,t5,t6⟩:=zaK kZ.o;obtain⟨r0,r1,r2,r3,r4,r5,r6⟩:=zaK tV.o;have rf:=frz tV.o;have lr:=zab tV.o;go_wp2_with fail
     refine bodyPost_ret (zeN rfl _ rfl rfl rfl (zc9 tV.o)) rfl ?_;rw[HE.o];exact⟨_,_,_,_,_,_,_,rfl,by first|rfl|exact⟨rfl,rfl,rfl,rfl,rfl,rfl,rfl⟩,zcH bR.o (show w.heap.size<=w.heap.size+1 by omega),fun h=>absurd h iL.o⟩
  ·have ar:¬(k:Int)<(ds.length:Int):=Mcq;have kE:k=ds.length:=Mcq;have HE:Hid (R=(told,ds.length,0)):=by show _=_;rw[HX.o,List.drop_of_length_le Mcq,zau,kE]
   clear aa kE;obtain⟨⟨B0,k0,p0,rfl⟩,⟨B1,k1,p1,rfl⟩,⟨B2,k2,p2,rfl⟩,⟨B3,k3,p3,rfl⟩,⟨B4,k4,p4,rfl⟩,⟨B5,k5,p5,rfl⟩,⟨B6,k6,p6,rfl⟩⟩:=zcS (HA.o.sl2);obtain⟨x0,x1⟩:=zbj (HA.o).box;obtain⟨s0,s1,s2,s3,s4,s5,s6⟩:=zaK (HA.o).st;obtain⟨t0,t1,t2,t3,t4,t5,t6⟩:=zaK (HA.o).tcell;obtain⟨r0,r1,r2,r3,r4,r5,r6⟩:=zaK (HA.o).res;have sf:=frz (HA.o).st;have tf:=frz (HA.o).tcell;have rf:=frz (HA.o).res;have lx:=zab (HA.o).box;have ls:=zab (HA.o).st;have lt':=zab (HA.o).tcell;have lr:=zab (HA.o).res;go_upto_region 16 with fail
   have aB:=zHi (fun(W:World) (h:Qa WR W)=>(show W.cell? ⟨w.heap.size,1,none⟩=some (.slice DA ds.length mc)/\W.cell? ⟨TB,0,none⟩=some (.slice B0 k0 p0)/\W.cell? ⟨TB,1,none⟩=some (.slice B1 k1 p1)/\W.cell? ⟨TB,2,none⟩=some (.slice B2 k2 p2)/\W.cell? ⟨TB,3,none⟩=some (.slice B3 k3 p3)/\W.cell? ⟨TB,4,none⟩=some (.slice B4 k4 p4)/\W.cell? ⟨TB,5,none⟩=some (.slice B5 k5 p5)/\W.cell? ⟨TB,6,none⟩=some (.slice B6 k6 p6) from⟨(zah h lx).trans x1,(zah h lt').trans t0,(zah h lt').trans t1,(zah h lt').trans t2,(zah h lt').trans t3,(zah h lt').trans t4,(zah h lt').trans t5,(zah h lt').trans t6⟩))
   have J7:Hid (∀a0 a1 a2 a3 a4 a5 a6:Value,((((((((WR.setCell ⟨w.heap.size+1,0,none⟩ a0).setCell ⟨w.heap.size+1,1,none⟩ a1).setCell ⟨w.heap.size+1,2,none⟩ a2).setCell ⟨w.heap.size+1,3,none⟩ a3).setCell ⟨w.heap.size+1,4,none⟩ a4).setCell ⟨w.heap.size+1,5,none⟩ a5).setCell ⟨w.heap.size+1,6,none⟩ a6).drew).cell? ⟨w.heap.size,1,none⟩=some (.slice DA ds.length mc)/\((((((((WR.setCell ⟨w.heap.size+1,0,none⟩ a0).setCell ⟨w.heap.size+1,1,none⟩ a1).setCell ⟨w.heap.size+1,2,none⟩ a2).setCell ⟨w.heap.size+1,3,none⟩ a3).setCell ⟨w.heap.size+1,4,none⟩ a4).setCell ⟨w.heap.size+1,5,none⟩ a5).setCell ⟨w.heap.size+1,6,none⟩ a6).drew).cell? ⟨TB,0,none⟩=some (.slice B0 k0 p0)/\((((((((WR.setCell ⟨w.heap.size+1,0,none⟩ a0).setCell ⟨w.heap.size+1,1,none⟩ a1).setCell ⟨w.heap.size+1,2,none⟩ a2).setCell ⟨w.heap.size+1,3,none⟩ a3).setCell ⟨w.heap.size+1,4,none⟩ a4).setCell ⟨w.heap.size+1,5,none⟩ a5).setCell ⟨w.heap.size+1,6,none⟩ a6).drew).cell? ⟨TB,1,none⟩=some (.slice B1 k1 p1)/\((((((((WR.setCell ⟨w.heap.size+1,0,none⟩ a0).setCell ⟨w.heap.size+1,1,none⟩ a1).setCell ⟨w.heap.size+1,2,none⟩ a2).setCell ⟨w.heap.size+1,3,none⟩ a3).setCell ⟨w.heap.size+1,4,none⟩ a4).setCell ⟨w.heap.size+1,5,none⟩ a5).setCell ⟨w.heap.size+1,6,none⟩ a6).drew).cell? ⟨TB,2,none⟩=some (.slice B2 k2 p2)/\((((((((WR.setCell ⟨w.heap.size+1,0,none⟩ a0).setCell ⟨w.heap.size+1,1,none⟩ a1).setCell ⟨w.heap.size+1,2,none⟩ a2).setCell ⟨w.heap.size+1,3,none⟩ a3).setCell ⟨w.heap.size+1,4,none⟩ a4).setCell ⟨w.heap.size+1,5,none⟩ a5).setCell ⟨w.heap.size+1,6,none⟩ a6).drew).cell? ⟨TB,3,none⟩=some (.slice B3 k3 p3)/\((((((((WR.setCell ⟨w.heap.size+1,0,none⟩ a0).setCell ⟨w.heap.size+1,1,none⟩ a1).setCell ⟨w.heap.size+1,2,none⟩ a2).setCell ⟨w.heap.size+1,3,none⟩ a3).setCell ⟨w.heap.size+1,4,none⟩ a4).setCell ⟨w.heap.size+1,5,none⟩ a5).setCell ⟨w.heap.size+1,6,none⟩ a6).drew).cell? ⟨TB,4,none⟩=some (.slice B4 k4 p4)/\((((((((WR.setCell ⟨w.heap.size+1,0,none⟩ a0).setCell ⟨w.heap.size+1,1,none⟩ a1).setCell ⟨w.heap.size+1,2,none⟩ a2).setCell ⟨w.heap.size+1,3,none⟩ a3).setCell ⟨w.heap.size+1,4,none⟩ a4).setCell ⟨w.heap.size+1,5,none⟩ a5).setCell ⟨w.heap.size+1,6,none⟩ a6).drew).cell? ⟨TB,5,none⟩=some (.slice B5 k5 p5)/\((((((((WR.setCell ⟨w.heap.size+1,0,none⟩ a0).setCell ⟨w.heap.size+1,1,none⟩ a1).setCell ⟨w.heap.size+1,2,none⟩ a2).setCell ⟨w.heap.size+1,3,none⟩ a3).setCell ⟨w.heap.size+1,4,none⟩ a4).setCell ⟨w.heap.size+1,5,none⟩ a5).setCell ⟨w.heap.size+1,6,none⟩ a6).drew).cell? ⟨TB,6,none⟩=some (.slice B6 k6 p6)):=zHi (fun a0 a1 a2 a3 a4 a5 a6=>by
    obtain⟨y0,y1,y2,y3,y4,y5,y6,y7⟩:=aB.o WR Qb;have ho:=zcI (a0:=a0) (a1:=a1) (a2:=a2) (a3:=a3) (a4:=a4) (a5:=a5) (a6:=a6) HA.o.res rfl;have Ij:=HA.o.tb;have n0:w.heap.size≠w.heap.size+1:=Mcq;have nT:TB≠w.heap.size+1:=Mcq;simp only[World.cell?_drew]
    exact⟨(ho.cell n0).trans y0,(ho.cell nT).trans y1,(ho.cell nT).trans y2,(ho.cell nT).trans y3,(ho.cell nT).trans y4,(ho.cell nT).trans y5,(ho.cell nT).trans y6,(ho.cell nT).trans y7⟩)
   have zV:Hid (∀a0 a1 a2 a3 a4 a5 a6:Value,((((((((WR.setCell ⟨w.heap.size+1,0,none⟩ a0).setCell ⟨w.heap.size+1,1,none⟩ a1).setCell ⟨w.heap.size+1,2,none⟩ a2).setCell ⟨w.heap.size+1,3,none⟩ a3).setCell ⟨w.heap.size+1,4,none⟩ a4).setCell ⟨w.heap.size+1,5,none⟩ a5).setCell ⟨w.heap.size+1,6,none⟩ a6).drew).heap[w.heap.size+1]?=some (.cells #[a0,a1,a2,a3,a4,a5,a6] 35)):=zHi (fun a0 a1 a2 a3 a4 a5 a6=>(drew_heap _ _).trans (zc9 (a:=a0) (b:=a1) (c:=a2) (d:=a3) (e:=a4) (f:=a5) (h':=a6) HA.o.res));have Cp:=zHi (fun a0 a1 a2 a3 a4 a5 a6=>(zcI (a0:=a0) (a1:=a1) (a2:=a2) (a3:=a3) (a4:=a4) (a5:=a5) (a6:=a6) HA.o.res rfl).st HA.o.tAt);refine zaJ 5 (fun bb w'=>bb=true\/(w'.cell? ⟨w.heap.size,1,none⟩=some (.slice DA ds.length mc)/\w'.cell? ⟨TB,0,none⟩=some (.slice B0 k0 p0)/\w'.cell? ⟨TB,1,none⟩=some (.slice B1 k1 p1)/\w'.cell? ⟨TB,2,none⟩=some (.slice B2 k2 p2)/\w'.cell? ⟨TB,3,none⟩=some (.slice B3 k3 p3)/\w'.cell? ⟨TB,4,none⟩=some (.slice B4 k4 p4)/\w'.cell? ⟨TB,5,none⟩=some (.slice B5 k5 p5)/\w'.cell? ⟨TB,6,none⟩=some (.slice B6 k6 p6))) Mcs (.inr (aB.o _ (zaF Qb))) ?hrest
   case hrest=>
    intro hHeld;clear x0 x1 s0 s1 s2 s3 s4 s5 s6 t0 t1 t2 t3 t4 t5 t6 r0 r1 r2 r3 r4 r5 r6 sf tf rf lx ls lt' lr;refine TkM 0 ?_;refine TkM 1 ?_;refine TkM 2 ?_;refine TkM 3 ?_;obtain⟨x0,x1⟩:=zbj (HA.o).box;obtain⟨s0,s1,s2,s3,s4,s5,s6⟩:=zaK (HA.o).st;obtain⟨t0,t1,t2,t3,t4,t5,t6⟩:=zaK (HA.o).tcell;obtain⟨r0,r1,r2,r3,r4,r5,r6⟩:=zaK (HA.o).res;have sf:=frz (HA.o).st;have tf:=frz (HA.o).tcell;have rf:=frz (HA.o).res;have lx:=zab (HA.o).box;have ls:=zab (HA.o).st;have lt':=zab (HA.o).tcell;have lr:=zab (HA.o).res;refine OnM 4 false fun K hK=>?_
    go_simp
    refine NxM hK (fun hHeld=>?_) (.inr (J7.o _ _ _ _ _ _ _));clear hK K;refine OnM 5 true fun K hK=>?_
    go_simp
    refine NxM hK fun hHeld=>?_
    clear hK K;refine OnM 6 true fun K hK=>?_
    go_simp
    refine NxM hK fun hHeld=>?_
    clear hK K;refine zaV Mcs ?_ _;clear hHeld;go_wp2_with fail
    refine bodyPost_ret (zeN rfl _ rfl rfl rfl (zV.o _ _ _ _ _ _ _)) rfl ?_;rw[HE.o];exact⟨_,_,_,_,_,_,_,rfl,by first|rfl|exact⟨rfl,rfl,rfl,rfl,rfl,rfl,rfl⟩,zaF (zcH HB.o (show w.heap.size<=w.heap.size+1 by omega)),fun _=>(Cp.o _ _ _ _ _ _ _).keep (zaF Qb)⟩
structure Told (k:Nat) (s:St):Prop where
 good:∃b,GoodSt s b
 few:FewS k s
 wills:s.wills.length<=k
theorem Told.up{k:Nat}{s:St}(h:Told k s):Told (k+1) s:=⟨h.good,h.few.up,by have:=h.wills;omega⟩
theorem told_go{laws:List Law}{upto:Int}(bc:za9 laws=0):∀ {ds:List Deed} {s told:St} {k:Nat} {last:Int},GoodSt s last->FewS k s->s.wills.length<=k->Told k told->(zau laws upto ds s told k last).2.2=0->Told (k+ds.length) (zau laws upto ds s told k last).1
 | [],s,told,k,last,_,_,_,ht,_=>ht
 |d::l,s,told,k,last,hg,hf,hw,ht,h=>by
  rw[zau]at h⊢;split at h
  ·exact MaP
  ·rename_i hc
   rw[if_neg hc];have hn:=zcr (show(zbt laws s k last d).2=0 by simpa using hc);have hd:=zcP hn.1;have dw:zbk laws s d=((zbt laws s k last d).1,0):=by rw[<-hn.2.2.2];exact Prod.ext rfl Mdt
   have g:=zf6 hg hd hn.2.2.1 bc dw;have f:=zkD hf hn.2.1 hg hd hn.2.2.1 bc dw;have e:=zjY dw
   have:=told_go (ds:=l) (told:=if decide (d.day<=upto)then(zbt laws s k last d).1 else told) bc g f Mcq (by
    split
    ·exact⟨⟨_,g⟩,f,by omega⟩
    ·exact ht.up) h
   rw[List.length_cons,show k+(l.length+1)=k+1+l.length by omega];exact this
theorem zgn{laws:List Law}{ds:List Deed}{u:Int}(h:(zaB laws ds u).2.2=0):za9 laws=0:=by
 unfold zaB at h;split at h
 ·rename_i h1
  exact absurd h McZ
 ·rename_i h1
  simpa using h1
theorem zgo{laws:List Law}{ds:List Deed}{u:Int}(h:(zaB laws ds u).2.2=0):Told ds.length (zaB laws ds u).1:=by
 have bc:=zgn h;unfold zaB at h⊢;rw[if_neg Mef]at h⊢;have:=told_go bc (zdT 0) zfD Qc ⟨⟨_,zdT 0⟩,zfD,Qc⟩ h;rwa [Nat.zero_add]at this
theorem zfJ(laws:List Law)(ds:List Deed)(u u':Int):(zaB laws ds u).2=(zaB laws ds u').2:=by
 unfold zaB;split
 ·rfl
 ·exact zhu laws u u' ds _ _ _ _ _
