import Derived.Test.YtcfheecahnnhjaaGreatDoorXP
import Derived.Test.YtcfheecahnnhjaaGreatDoorDQ
set_option linter.all false
set_option maxRecDepth 100000
set_option maxHeartbeats 4000000
namespace Go.Proofs.YtcfheecahnnhjaaGreatDoor
open Go.RowKit Go.Shelf
attribute [local go_sem] World.cell?_alloc_mark zag za4 zar zaB zaw zax zay zaz za0 za1 za2
attribute [local go_sem] zas zad
theorem zp3{s:St}{n:ByteArray}{day:Int}{H:Option Parts}{k:Nat}{g:Grave}{l pre:List Grave}(h:zdw s n day k g=false):(zb2 s n day H k (g::l)).map (pre++ ·)=(zb2 s n day H (k+1) l).map ((pre++[g])++ ·):=by
 rw[zb2.eq_def];simp only[h];cases zb2 s n day H (k+1) l<;>simp
theorem zp4{s:St}{n:ByteArray}{day:Int}{hs out:Parts}{k:Nat}{g:Grave}{l pre:List Grave}(h:zdw s n day k g=true)(hg:zbC (zaf g.holders n) hs (zau g.holders n)=some out):
 (zb2 s n day (some hs) k (g::l)).map (pre++ ·)=(zb2 s n day (some hs) (k+1) l).map ((pre++[{g with holders:=out,died:=g.died++[n]}])++ ·):=by
 rw[zb2.eq_def];simp only[h,if_true,hg,Option.bind_some];cases zb2 s n day (some hs) (k+1) l<;>simp
theorem zp5{s:St}{n:ByteArray}{day:Int}{H:Option Parts}{k:Nat}{g:Grave}{l pre:List Grave}(h:zdw s n day k g=true)(hg:∀hs,H=some hs->zbC (zaf g.holders n) hs (zau g.holders n)=none):
 (zb2 s n day H k (g::l)).map (pre++ ·)=none:=by
 rw[zb2.eq_def];simp only[h,if_true];cases H with
 |none=>rfl
 |some hs=>
  simp only[hg hs rfl];rfl
def okR(gxs:List GX)(W:World)(x:GX):Prop:=x∈gxs\/(Ro W 64 zaa x.H x.g.holders/\Ro W 9 sC x.D x.g.died)
theorem okR.keep{gxs:List GX}{W W':World}{x:GX}{n:Nat}(h:okR gxs W x)(hB:Below n W W')(hn:W.heap.size<=n:=by first|exact Nat.le_refl _|omega):okR gxs W' x:=
 h.imp id fun⟨a,b⟩=>⟨a.keep hB hn,b.keep hB hn⟩
theorem okR.kept{gxs:List GX}{W W':World}{x:GX}{g:Nat}{cs:Array Value}{fr:Nat×Nat}(h:okR gxs W x)(hg:W.grownBy W' (some g))(hx:W.heap[g]?=some (.cells cs 94 fr)):okR gxs W' x:=
 h.imp id fun⟨a,b⟩=>⟨a.kept hg hx Mcw,b.kept hg hx Mcw⟩
theorem grav_ne{s:St}{pl:ByteArray}{day:Int}{k:Nat}(h:¬zaL s pl day=some k):zkK s.graves pl day≠(k:Int):=by
 cases hx:zaL s pl day with
 |none=>rw[zgJ hx];omega
 |some i=>
  rw[zeb hx];intro e;have:i=k:=by omega
  subst this;exact h hx
theorem set_mid{α:Type}(a:List α)(x y:α)(l:List α){k:Nat}(h:a.length=k):(a++x::l).set k y=a++y::l:=by
 subst h;induction a with
 |nil=>rfl
 |cons b a ih=>simp only[List.cons_append,List.length_cons,List.set_cons_succ,ih]
theorem row_two{W:World}{ga go k:Nat}{dx rest:List GX}{x:GX}{out:Parts}{n:ByteArray}{OV A5:Option Addr}{oc c5:Nat}(hk:dx.length=k)(h:RowC W 94 ga go 5 (((dx++x::rest).map GX.cells).set k (x.cells.set 3 (.slice OV out.length oc)))):
 RowC (W.setCell ⟨ga,go+k*5+4,none⟩ (.slice A5 (x.g.died.length+1) c5)) 94 ga go 5 ((dx++[(⟨{x.g with holders:=out,died:=x.g.died++[n]},OV,oc,A5,c5⟩:GX)]++rest).map GX.cells):=by
 have e1:((dx++x::rest).map GX.cells).set k (x.cells.set 3 (.slice OV out.length oc))=dx.map GX.cells++(x.cells.set 3 (.slice OV out.length oc))::rest.map GX.cells:=by
  rw[List.map_append,List.map_cons,set_mid _ _ _ _ (by rw[List.length_map];exact hk)]
 rw[e1]at h;have h2:=h.set (i:=k) (j:=4) (c:=x.cells.set 3 (.slice OV out.length oc)) (u:=.slice A5 (x.g.died.length+1) c5) (by rw[List.getElem?_append_right (by rw[List.length_map];omega),List.length_map,hk,Nat.sub_self];rfl) Mcw;rw[set_mid _ _ _ _ (by rw[List.length_map];exact hk)]at h2;have e2:(dx++[(⟨{x.g with holders:=out,died:=x.g.died++[n]},OV,oc,A5,c5⟩:GX)]++rest).map GX.cells=dx.map GX.cells++((x.cells.set 3 (.slice OV out.length oc)).set 4 (.slice A5 (x.g.died.length+1) c5))::rest.map GX.cells:=by
  rw[List.append_assoc,List.map_append];congr 1
  simp[GX.cells]
 rw[e2];exact h2
theorem hxd5{W:World}{ga go k:Nat}{css:List (List Value)}{x:GX}{u:Value}(h:RowC W 94 ga go 5 (css.set k (x.cells.set 3 u)))(hc:css[k]?=some x.cells):W.cell? ⟨ga,go+k*5+4,none⟩=some (.slice x.D x.g.died.length x.dc):=by
 have hk:k<css.length:=(List.getElem?_eq_some_iff.1 hc).1;exact h.at (k:=k) (c:=x.cells.set 3 u) (by rw[List.getElem?_set_self hk]) (j:=4) rfl
theorem okR.keptS{gxs:List GX}{W W':World}{x:GX}{g:Nat}{cs:Array Value}{fr:Nat×Nat}(h:okR gxs W x)(hg:W.grownBy W' (some g))(hx:W.heap[g]?=some (.cells cs 44 fr)):okR gxs W' x:=
 h.imp id fun⟨a,b⟩=>⟨a.kept hg hx Mcw,b.kept hg hx Mcw⟩
theorem dsF{W:World}{a c:Nat}{x0 x1 x2 x3 x4 x5 x6 z0 z1 z2 z3 z4 z5 z6:Value}{t u:TypeId}{f:Nat×Nat}(h:W.heap[a]?=some (.cells #[x0,x1,x2,x3,x4,x5,x6] t f)/\W.heap[c]?=some (.cells #[z0,z1,z2,z3,z4,z5,z6] u (0,0))):
 (W.heap[a]?=some (.cells #[x0,x1,x2,x3,x4,x5,x6] t f)/\W.heap[c]?=some (.cells #[z0,z1,z2,z3,z4,z5,z6] u (0,0)))/\(W.cell? ⟨a,0,none⟩=some x0/\W.cell? ⟨a,1,none⟩=some x1/\W.cell? ⟨a,2,none⟩=some x2/\W.cell? ⟨a,3,none⟩=some x3/\W.cell? ⟨a,4,none⟩=some x4/\W.cell? ⟨a,5,none⟩=some x5/\W.cell? ⟨a,6,none⟩=some x6)/\(W.cell? ⟨c,0,none⟩=some z0/\W.cell? ⟨c,1,none⟩=some z1/\W.cell? ⟨c,2,none⟩=some z2/\W.cell? ⟨c,3,none⟩=some z3/\W.cell? ⟨c,4,none⟩=some z4/\W.cell? ⟨c,5,none⟩=some z5/\W.cell? ⟨c,6,none⟩=some z6)/\(∀j,W.frozen? ⟨c,j,none⟩=false)/\a<W.heap.size/\c<W.heap.size:=
 ⟨h,zaH h.1,zaH h.2,frz h.2,zab h.1,zab h.2⟩
theorem ds_boxes{w:World}(o0 o1:Obj):Hid (Below w.heap.size w ((w.alloc o0).alloc o1))/\Hid (∀W,Below ((w.alloc o0).alloc o1).heap.size ((w.alloc o0).alloc o1) W->W.heap[w.heap.size]?=some o0/\W.heap[w.heap.size+1]?=some o1):=by
 refine⟨by show Below _ _ _;exact Bw,fun W hB=>⟨?_,?_⟩⟩
 ·exact(hB.block _ Mcz).trans (zal (zaq _ _ _ rfl))
 ·exact(hB.block _ Mcx).trans (zaq _ _ _ Mcx)
theorem rDies_any(laws:List Law)(s:St)(wd rd:List Deed)(LA CA MA DA WA RA GA:Option Addr)(c0 c1 c2 c3 c4 c5 c6:Nat)(n:ByteArray)(day:Int)(w:World)(h:StIn w laws s wd rd LA CA MA DA WA RA GA c0 c1 c2 c3 c4 c5 c6)(hk:StLink s wd rd)(hf:StFew s wd rd)(bp:zaC laws=0)(hW:WillOk (zbx s n))(kY:∀a,¬Desc s a a)(cG:(zbx s n).length<=8)
 (aW:∀g∈s.graves,GoodG g/\g.holders.length<=50000)(nI:∀g∈s.graves,g.died.length<=1000)(hel:∀hs,zcP s (zbc laws day) n=some hs->hs.length<=1000/\GoodParts hs/\sumQ hs<=1/\zaF hs=false):
 Calls Tryz.prog 136 #[.agg #[.slice LA laws.length c0,.slice CA s.children.length c1,.slice MA s.marriages.length c2,.slice DA s.dead.length c3,.slice WA wd.length c4,.slice RA rd.length c5,.slice GA s.graves.length c6],.string n,.int .i64 day] w (zkX w laws (zp2 laws s n day)):=by
 obtain⟨R,hR⟩:∃R,R=zp2 laws s n day:=⟨_,rfl⟩
 rw[<-hR];unfold zp2 at hR;obtain⟨gxs,hm,bv,bn⟩:=znz h.graves;obtain⟨HM,dr,bL,eh,ic,H,HK,HF⟩:=yH8 hm bv bn aW nI (fun W (hB:Below w.heap.size w W)=>h.keep hB) hk hf;have kH:=zHi (fun W (hB:Below w.heap.size w W)=>zny laws s wd rd LA CA MA DA WA RA GA c0 c1 c2 c3 c4 c5 c6 n day W (H.o W hB) hk hf bp hW kY cG);obtain⟨HH,tY⟩:∃HH,HH=zcP s (zbc laws day) n:=⟨_,rfl⟩
 rw[<-tY]at hR kH hel;have eL:=zHi hel;have oL:=hf.graves;have xD:gxs.length=s.graves.length:=Md8;obtain⟨D0,ow⟩:∃D0,D0=zb2 s n day HH 0 s.graves:=⟨_,rfl⟩
 rw[<-ow]at hR;obtain⟨I4,HR⟩:=yH2 ow hR;unfold zkU at kH;clear h hk hf bp hW kY cG aW nI hel hm bv bn tY ow hR;go_enter Tryz.func136,Tryz.ntmps136
 go_upto_region 1 with fail
 obtain⟨W0,ak⟩:∃W0,W0=(w.alloc (.cells #[.slice LA laws.length c0,.slice CA s.children.length c1,.slice MA s.marriages.length c2,.slice DA s.dead.length c3,.slice WA wd.length c4,.slice RA rd.length c5,.slice GA s.graves.length c6] 44)).alloc (.cells #[.slice none 0 0,.slice none 0 0,.slice none 0 0,.slice none 0 0,.slice none 0 0,.slice none 0 0,.slice none 0 0] 44):=⟨_,rfl⟩
 obtain⟨aj,aw⟩:Hid (Below w.heap.size w W0)/\Hid (∀W,Below W0.heap.size W0 W->W.heap[w.heap.size]?=some (.cells #[.slice LA laws.length c0,.slice CA s.children.length c1,.slice MA s.marriages.length c2,.slice DA s.dead.length c3,.slice WA wd.length c4,.slice RA rd.length c5,.slice GA s.graves.length c6] 44)/\W.heap[w.heap.size+1]?=some (.cells #[.slice none 0 0,.slice none 0 0,.slice none 0 0,.slice none 0 0,.slice none 0 0,.slice none 0 0,.slice none 0 0] 44)):=by
  rw[ak];exact ds_boxes _ _
 rw[<-ak];clear ak;have au:=aj.o.size;obtain⟨⟨xs0,xr0⟩,⟨s0,s1,s2,s3,s4,s5,s6⟩,⟨r0,r1,r2,r3,r4,r5,r6⟩,rf,ls,lr⟩:=dsF (aw.o W0 (Below.refl _ _));go_upto_region 2 with(go_at_call 167;go_must(refine(kH.o _ aj.o).mono ?_);rintro e w1 ⟨EA,ec,hs,lg,rfl,FL,b1,_,hE⟩)
 obtain⟨od,HE,aC⟩:=yH3 FL hE b1;have ii:=b1.size;clear FL hE b1;clear xs0 xr0 s0 s1 s2 s3 s4 s5 s6 r0 r1 r2 r3 r4 r5 r6 rf ls lr;obtain⟨⟨xs0,xr0⟩,⟨s0,s1,s2,s3,s4,s5,s6⟩,⟨r0,r1,r2,r3,r4,r5,r6⟩,rf,ls,lr⟩:=dsF (aw.o w1 (aC.o))
 go_upto_region 4 with(at_builtin
                       go_loud(refine zat (v:=.slice (some ⟨w1.heap.size,0,none⟩) 0 0) (n:=0) (m:=s.graves.length) rfl _ _ rfl zhn zda zkd rfl (xs:=[]) (ys:=gxs) (zkf w1 w1.heap.size (Nat.le_refl _)) rfl rfl xD.symm (bL.o.keep (aj.o.trans ((aC.o.trans (Below.mono (B:=w1.heap.size) Bw ii)).mono au))) Mc3 Mcu Mcx ?_)
                       intro v2 w2 h1 h2 h3;rw[List.nil_append]at h1;have bs:Below w1.heap.size w1 w2:=Below.grown (zac (Below.refl _ _) _) h2 Mcx Mc8;obtain⟨dq,aD⟩:=yH2 h1 bs;obtain⟨V2,c2',rfl,_,_⟩:=h1.sl zda
                       clear h1 h2 h3 bs)
 obtain⟨ga,go,hV⟩:∃ga go,s.graves≠[]->V2=some ⟨ga,go,none⟩/\w1.heap.size<=ga/\RowC w2 94 ga go 5 (gxs.map GX.cells):=by
  by_cases ai:s.graves=[]
  ·exact⟨0,0,fun h=>absurd ai h⟩
  ·have hl:0<s.graves.length:=List.length_pos_iff.2 ai;have ho:=dq.o;have eV:=ho.ge;obtain⟨A,c9,e9,hS,_⟩:=ho.sl zda;obtain⟨rfl,rfl⟩:V2=A/\c2'=c9:=by simpa[xD]using e9
   obtain⟨gb,gof,rfl,_⟩:=hS Mcu;exact⟨gb,gof,fun _=>⟨rfl,(eV gb rfl).1,ho.row zda⟩⟩
 have HV:=zHi hV;have kV:=aD.o.size;have I5:Hid (D0=(zb2 s n day HH 0 (s.graves.drop 0)).map (([]:List GX).map (·.g)++ ·)):=by
  show _=_;rw[I4.o,List.drop_zero];cases zb2 s n day HH 0 s.graves<;>rfl
 have Fo:HH=if lg then none else some hs:=by rcases HE.o with⟨h1,rfl⟩|⟨h1,rfl⟩<;>rw[h1]<;>rfl
 have zJ:=zHi Fo;clear hV Fo;clear xs0 xr0 s0 s1 s2 s3 s4 s5 s6 r0 r1 r2 r3 r4 r5 r6 rf ls lr;go_upto_region 5 with fail
 go_loopw [9,10,12] (fun v9 v10 i wr=>∃(k:Nat) (l f:Bool) (dx:List GX),k<=s.graves.length/\i=.int .i64 k/\v9=.bool l/\v10=.bool f/\dx.length=k/\Hid (s.graves≠[]->RowC wr 94 ga go 5 ((dx++gxs.drop k).map GX.cells))/\Hid (∀x∈dx,okR gxs wr x)/\Hid ((f&&l)=true->D0=none)/\Hid ((f&&l)=false->D0=(zb2 s n day HH k (s.graves.drop k)).map (dx.map (·.g)++ ·)/\HH=if l then none else some hs)/\Below w1.heap.size w1 wr/\w2.heap.size<=wr.heap.size) (fun _ _ i _=>s.graves.length-(intOf i).toNat)
 case atStart=>exact⟨0,lg,false,[],Nat.zero_le _,rfl,rfl,rfl,rfl,zHi fun ai=>(HV.o ai).2.2,zHi Mcx,zHi Mcx,zHi fun _=>⟨I5.o,zJ.o⟩,aD.o,Nat.le_refl _⟩
 case round=>
  obtain⟨k,l,f,dx,hk,rfl,rfl,rfl,ir,vO,gq,nV,kN,hB,jz⟩:=hrel;obtain⟨WR,oA⟩:∃WR,WR=wr:=⟨_,rfl⟩
  subst oA;have aI:=hB.size;have cB:=aC.o.trans (hB.mono ii);obtain⟨HB,b8⟩:=yH2 hB cB;obtain⟨⟨xs0,xr0⟩,⟨s0,s1,s2,s3,s4,s5,s6⟩,⟨r0,r1,r2,r3,r4,r5,r6⟩,rf,ls,lr⟩:=dsF (aw.o WR (cB));by_cases ae:k<s.graves.length
  ·have ai:s.graves≠[]:=fun e=>by rw[e]at ae;simp at ae
   obtain⟨rfl,Az,_⟩:=HV.o ai;have bY:=zHi (vO.o ai);have l9:k<gxs.length:=Mcu;have bh:((dx++gxs.drop k).map GX.cells)[k]?=some gxs[k].cells:=by
    rw[List.getElem?_map,List.getElem?_append_right Mcu,ir,Nat.sub_self,List.getElem?_drop,Nat.add_zero,List.getElem?_eq_getElem l9];rfl
   have kn:gxs[k].g=s.graves[k]:=by
    have:s.graves[k]?=some gxs[k].g:=by rw[<-HM.o,List.getElem?_map,List.getElem?_eq_getElem l9];rfl
    rw[List.getElem?_eq_getElem ae]at this;exact(Option.some.inj this).symm
   have uF:gxs[k]∈gxs:=List.getElem_mem l9;have jO:gxs[k].g∈s.graves:=by rw[kn];exact List.getElem_mem ae
   have G8:s.graves.drop k=gxs[k].g::s.graves.drop (k+1):=by rw[kn];exact List.drop_eq_getElem_cons ae
   have FZ:gxs.drop k=gxs[k]::gxs.drop (k+1):=List.drop_eq_getElem_cons l9;have am:=zHi ae;generalize gxs[k]=x at*;have ib:=dr.o x uF;obtain⟨dA,cq⟩:=eh.o x.g jO;have bx:=ic.o x.g jO;obtain⟨Be,tQ,br,zF,AZ,ee⟩:=yH6 dA (fun W (hB:Below w.heap.size w W)=>ib.keep hB) uF G8 FZ bh;have i0:WR.cell? ⟨ga,go+k*5,none⟩=some (.string x.g.place):=by have:=bY.o.at bh (j:=0) rfl;simpa using this
   have i3:WR.cell? ⟨ga,go+k*5+3,none⟩=some (.slice x.H x.g.holders.length x.hc):=bY.o.at bh (j:=3) rfl;have i4:WR.cell? ⟨ga,go+k*5+4,none⟩=some (.slice x.D x.g.died.length x.dc):=bY.o.at bh (j:=4) rfl;have DQ:ga<WR.heap.size:=bY.o.lt;have ar:(k:Int)<(s.graves.length:Int):=Mcu;have aT:(0:Int)<=(k:Int):=Mcu;have bl:=aj.o.trans (cB.mono au);have kR:=zHi (zcX x.g.holders n x.H x.hc WR Mcu (tQ.o WR bl).1);have cG:=zdY x.g.holders n;have lX:=zHi (fun W (hB:Below w.heap.size w W)=>zh0 x.g.holders n x.H x.hc W Mcu (tQ.o W hB).1);have ho:=zbF dA.good n;have q9:=zcQ n dA.small;have aQ:=zd2 dA.good n;have qj:=zcm (n:=n) dA.good;have He:=zbN (n:=n) dA.good;have zp:=zdE n dA.small;have Gf:∀b,zaL s x.g.place day=some k->(zaf x.g.holders n==0)=b->zdw s n day k x.g=!b:=by
    intro b e1 e2;unfold zdw;rw[e1,bne,e2];simp
   have un:¬zaL s x.g.place day=some k->zdw s n day k x.g=false:=by
    intro e1;unfold zdw;cases hx:zaL s x.g.place day==some k
    ·rw[Bool.and_false]
    ·exact absurd (by simpa using hx) e1
   have AA:zaf x.g.holders n=0->zdw s n day k x.g=false:=by
    intro e1;unfold zdw;rw[e1];rfl
   obtain⟨gn,Ia,I8,vo⟩:=yH4 (fun(pre:List Grave) (hh:zdw s n day k x.g=false)=>zp3 (H:=HH) (l:=s.graves.drop (k+1)) (pre:=pre) hh) (fun(pre:List Grave) hs out (hh:zdw s n day k x.g=true) hg=>zp4 (s:=s) (n:=n) (day:=day) (hs:=hs) (out:=out) (l:=s.graves.drop (k+1)) (pre:=pre) hh hg) (fun(pre:List Grave) (hh:zdw s n day k x.g=true) hg=>zp5 (H:=HH) (l:=s.graves.drop (k+1)) (pre:=pre) hh hg) (show(zaL s x.g.place day=some k->zaf x.g.holders n≠0->zdw s n day k x.g=true) from fun e1 e2=>by rw[Gf false e1 (by simpa using e2)];rfl);have se:sumQ x.g.holders<=1:=by
    rcases dA.one with e|e
    ·rw[e];decide
    ·rw[e];exact Rat.le_refl
   generalize zaf x.g.holders n=sh at*;generalize zau x.g.holders n=wo at*;have jL:zaJ sh:=zcd ho McX q9;unfold zaA at kR;clear bh kn jO G8 FZ uF ib dA ae ai Gf cB vO;go_upto_region 8 with(go_at_call 13;go_must(refine(kR.o).mono ?_);rintro e wq ⟨rfl,z2,rfl⟩)
   obtain⟨SB,mg⟩:∃SB,SB=WR.heap.size+z2.os.size:=⟨_,rfl⟩
   obtain⟨W3,be⟩:∃W3,W3=(WR.ext z2).alloc (.cells #[.int .i64 (sh).num,.int .i64 (sh).den] 31):=⟨_,rfl⟩
   have gS:W3.heap[SB]?=some (.cells #[.int .i64 (sh).num,.int .i64 (sh).den] 31):=by rw[be];exact zaq _ _ _ (by rw[mg];simp[zag])
   have ay:Below WR.heap.size WR W3:=by rw[be];exact zac (zao WR z2) _
   rw[<-be,<-mg];clear be mg i0 i3 i4;clear xs0 xr0 s0 s1 s2 s3 s4 s5 s6 r0 r1 r2 r3 r4 r5 r6 rf ls lr;have jd:=ay.size;have aH:=zHi ay;have rZ:=b8.o.trans (ay.mono Md9);obtain⟨uS,iX⟩:=yH2 rZ (bY.o.keep ay);obtain⟨q0,q1⟩:=zby gS;have rH:=zab gS;have GS:=zHi gS;obtain⟨⟨xs0,xr0⟩,⟨s0,s1,s2,s3,s4,s5,s6⟩,⟨r0,r1,r2,r3,r4,r5,r6⟩,rf,ls,lr⟩:=dsF (aw.o W3 (rZ));clear rZ ay gS;have i0:W3.cell? ⟨ga,go+k*5,none⟩=some (.string x.g.place):=by have:=iX.o.at ee.o (j:=0) rfl;simpa using this
   have DR:ga<W3.heap.size:=iX.o.lt;by_cases hz:sh=0
   ·have nh:(sh.num==0)=true:=by rw[hz];rfl
    have eb:=gn.o (dx.map (·.g)) (AA hz);rw[<-zF.o]at eb;have EV:=zHi eb;clear hz AA un eb ho q9 aQ qj jL
    (refine zaj Mcv Mcv ?_
     repeat(first|go_big_quiet_skip|(go_big_quiet_want;go_big_quiet_op;first|go_big_quiet_on|(apply Exists.intro;refine⟨fun _=>?_,?_⟩;(fail);go_big_quiet_on)))
     refine wpQuiet_nil ?_
     rintro _ ⟨zq,rfl⟩)
    exact MH
   have nh:(sh.num==0)=false:=by
    exact Mbd
   have ew:=zHi (fun W (hB:Below W3.heap.size W3 W)=>zkb x.g.place day W (H.o W (aj.o.trans ((uS.o.trans (hB.mono (by have:=uS.o.size;omega))).mono au))) HF.o);by_cases aG:zaL s x.g.place day=some k;rotate_left 1
   ·have eb:=gn.o (dx.map (·.g)) (un aG);rw[<-zF.o]at eb;have EV:=zHi eb;have l8:=grav_ne aG;generalize zkK s.graves x.g.place day=gi at*;have Kz:(gi==(k:Int))=false:=by simpa using l8
    have KB:(gi != (k:Int))=true:=by simpa using l8
    clear hz AA un eb aG l8 ho q9 aQ qj jL
    (refine zaj Mcv Mcv ?_
     repeat(first|go_big_quiet_skip|(go_big_quiet_want;go_big_quiet_op;first|go_big_quiet_on|(apply Exists.intro;refine⟨fun _=>?_,?_⟩;((go_at_call 35;exact quietx (ew.o _ Bw)));go_big_quiet_on)))
     refine wpQuiet_nil ?_
     rintro _ ⟨zq,rfl⟩)
    exact MH
   have pQ:=vo.o aG hz;rw[zeb aG]at ew;have tI:=zHi pQ;clear AA un aG pQ
   (refine zaj Mcv Mcv ?_
    repeat(first|go_big_quiet_skip|(go_big_quiet_want;go_big_quiet_op;first|go_big_quiet_on|(apply Exists.intro;refine⟨fun _=>?_,?_⟩;((go_at_call 35;exact quietx (ew.o _ Bw)));go_big_quiet_on)))
    refine wpQuiet_nil ?_
    rintro _ ⟨zq,rfl⟩)
   obtain⟨W4,gF⟩:∃W4,W4=W3.ext zq:=⟨_,rfl⟩
   have aB:Below W3.heap.size W3 W4:=by rw[gF];exact zao _ _
   rw[<-gF];have Ke:=aB.size;obtain⟨cm,GS4⟩:=yH2 (aH.o.trans (aB.mono jd)) ((aB.block SB rH).trans GS.o);have s7:=b8.o.trans (cm.o.mono Md9);have Hy:=zHi s7;have i3:W4.cell? ⟨ga,go+k*5+3,none⟩=some (.slice x.H x.g.holders.length x.hc):=(bY.o.keep cm.o).at ee.o (j:=3) rfl;have Li:ga<W4.heap.size:=(bY.o.keep cm.o).lt;have rI:SB<W4.heap.size:=Mcu;have ri:=zHi (lX.o W4 (aj.o.trans (s7.mono au)));have qF:Hid (l=false->HH=some hs/\hs.length<=1000/\GainSt sh wo hs):=zHi fun hl=>by
    have tY:=(kN.o (by rw[hl,Bool.and_false])).2;rw[hl]at tY;obtain⟨e1,e2,e3,e4⟩:=eL.o hs tY;have hp:∀p∈hs,0<=p.2:=fun p hp=>by have:=e2.pos p hp;grind
    have:=Rat.mul_le_mul_of_nonneg_left e3 ho;exact⟨tY,e1,He,zp,by grind,hp⟩
   obtain⟨iW,lS⟩:=yH2 ho jL;clear gF i0 q0 q1 rH s7 aB hz nh ho q9 aQ qj He zp jL se DR DQ;clear xs0 xr0 s0 s1 s2 s3 s4 s5 s6 r0 r1 r2 r3 r4 r5 r6 rf ls lr;go_upto_region 11 with(go_at_call 157;go_must(refine(ri.o).mono ?_);rintro e w5 ⟨v5,rfl,o5,b5⟩)
   obtain⟨kO,bo⟩:=yH2 o5 b5;have C6:=b5.size;clear i3 o5 b5;go_upto_region 12 with fail
   go_loopw [9,14,15] (fun v9 v14 j wr=>∃(i:Nat) (l':Bool) (out:Parts),i<=hs.length/\j=.int .i64 i/\v9=.bool l'/\OwnS wr W4.heap.size 64 3 zaa v14 out/\out.length<=50000+i/\Below w5.heap.size w5 wr/\Hid (l'=false->l=false/\zbC sh hs wo=zbC sh (hs.drop i) out/\GainSt sh out (hs.drop i))/\Hid (l'=true->l=true\/zbC sh hs wo=none)) (fun _ _ j _=>hs.length-(intOf j).toNat)
   case atStart=>exact⟨0,l,wo,Nat.zero_le _,rfl,rfl,kO.o,by omega,Below.refl _ _,zHi fun e=>⟨e,rfl,(qF.o e).2.2⟩,zHi fun e=> .inl e⟩
   case round=>
    obtain⟨i,l',out,hi,rfl,rfl,aa,kv,me,zM,qK⟩:=hrel;have rV:=me.size;obtain⟨eo,ql,zC,HO⟩:=yH4 (bo.o.trans (me.mono C6)) me me aa;have CC:wr.heap[SB]?=_:=(eo.o.block SB rI).trans GS4.o;obtain⟨q0,q1⟩:=zby CC;have JW:=zab CC;have xe:Below w1.heap.size w1 wr:=HB.o.trans ((cm.o.trans (eo.o.mono (by have:=cm.o.size;omega))).mono aI);have vT:=zHi (od.o.keep xe);clear me xe CC;by_cases hlti:i<hs.length
    ·have xH:(i:Int)<(hs.length:Int):=Mcu;have eX:(0:Int)<=(i:Int):=Mcu;cases l'
     ·obtain⟨jr,gK,aL⟩:=zM.o rfl;obtain⟨b,off,hA,hb,ah⟩:=vT.o.at hlti;have gJ:hs.drop i=hs[i]::hs.drop (i+1):=List.drop_eq_getElem_cons hlti;rw[gJ]at aL gK;have ko:=(qF.o jr).2.1;have df:=zHi hlti;have sR:0<hs[i].2/\hs[i].2<=1/\zaJ hs[i].2:=by
       obtain⟨_,e2,e3,e4⟩:=eL.o hs (qF.o jr).1;exact zdO (hs:=hs) ⟨e2,e4,e3⟩ (List.getElem_mem hlti)
      clear gJ;generalize hs[i]=y at*;obtain⟨nm,q⟩:=y;simp only at sR;have i0:wr.cell? ⟨b,off+i*3,none⟩=some (.string nm):=ah 0 _ rfl;have i1:wr.cell? ⟨b,off+i*3+1,none⟩=some (.int .i64 q.num):=ah 1 _ rfl;have i2:wr.cell? ⟨b,off+i*3+2,none⟩=some (.int .i64 q.den):=ah 2 _ rfl;have kL:=zHi (fun W=>zgz sh q W lS.o sR.2.2);unfold zaA at kL;obtain⟨p1,p2⟩:=aL.more iW.o;obtain⟨jV,kQ⟩:=yH2 (fun hl=>aL.next iW.o hl) (aL.parts iW.o);rw[zmw]at gK;obtain⟨mo,ye⟩:∃mo,mo=sh*q:=⟨_,rfl⟩
      rw[<-ye]at gK kL p1 p2 jV;obtain⟨lT,vk,pj⟩:=yH3 (And.intro p1 p2) gK jr;clear ah aL gK hlti sR p1 p2 ye aa jr;subst hA;go_upto_region 14 with fail
      refine zdI 7 _ _ (.cells #[.int .i64 0,.int .i64 0] 31) (.cells #[.int .i64 (mo).num,.int .i64 (mo).den] 31) Mcv Mcv rfl rfl ?hrun ?_
      case hrun=>intro a W;kernel_rfl
      simp only[List.take_succ_cons,List.take_zero];repeat(refine zeN (fun K hK=>?_);simp only[grow];go_simp;first|(refine hK _ ?_;clear hK K)|(apply Exists.intro;refine⟨fun _=>?_,hK _ ?_⟩;((go_at_call 158;exact quietg (kL.o _)));clear hK K))
      refine zfB ⟨?hstore,?hlast⟩
      case hstore=>
       exact ME
      case hlast=>
       rintro MB W9 ⟨z9,wW⟩ JJ gM;have bD:Below wr.heap.size wr W9:=by rw[wW];exact zao _ _
       have C8:=bD.size;have qM:=zHi bD;obtain⟨m0,m1⟩:=zby gM;have rA:=zab gM;have i9:W9.cell? ⟨b,off+i*3,none⟩=some (.string nm):=(zah bD hb).trans i0;have gH:b<W9.heap.size:=Mcu;clear wW bD i0 i1 i2 q0 q1;by_cases sW:1000000000<(mo.den:Int)
       ·have l8:zbC sh hs wo=none:=by rw[vk.o,if_pos (by simp[bigQ,sW])]
        have Ij:=zHi l8;clear l8;go_wp2_with fail
        go_round
        case rel=>exact⟨i+1,true,out,df.o,by go_num,rfl,HO.o.keep qM.o,by omega,(ql.o).trans (qM.o.mono rV),zHi Mcx,zHi fun _=> .inr Ij.o⟩
        case measure=>have:=df.o;simp only[intOf];omega
       ·have bk:bigQ mo=false:=by simpa[bigQ]using sW
        have aW:=vk.o;rw[bk,if_neg Mcx]at aW;have Bc:=zHi aW;have mN:=zcd lT.o.1 lT.o.2 bk;obtain⟨OV,oc,rfl,_,_⟩:=HO.o.sl zam;have ez:=zHi (fun W (hW:Below wr.heap.size wr W)=>zcZ out nm mo OV oc W (by have:=df.o;omega) kQ.o mN (ziT zam (HO.o.keep hW)).1);unfold zaA at ez;have cq:=zc1 nm mo out;go_upto_region 17 with fail
        have aA:=zHi (fun(W:World) (h:Below W9.heap.size W9 W)=>(show W.cell? ⟨b,off+i*3,none⟩=some (.string nm)/\W.cell? ⟨MB,0,none⟩=some (.int .i64 mo.num)/\W.cell? ⟨MB,1,none⟩=some (.int .i64 mo.den) from⟨(zah h gH).trans i9,(zah h rA).trans m0,(zah h rA).trans m1⟩));clear aW mN bk sW i9 m0 m1;refine za7 7 (fun bb w'=>bb=true\/(w'.cell? ⟨b,off+i*3,none⟩=some (.string nm)/\w'.cell? ⟨MB,0,none⟩=some (.int .i64 mo.num)/\w'.cell? ⟨MB,1,none⟩=some (.int .i64 mo.den))) Mcv (.inr (aA.o _ (zaE (Below.refl _ _)))) ?hrest
        case hrest=>
         intro hHeld;refine TkM 0 ?_;refine TkM 1 ?_;refine TkM 2 ?_;refine TkM 3 ?_;refine TkM 4 ?_;refine TkM 5 ?_;refine TkM 6 ?_;refine OnM 7 true fun K hK=>?_
         go_simp
         refine(ez.o _ (zaE qM.o)).mono ?_;rintro e w10 ⟨v10,rfl,o10,b10⟩;refine NxM hK fun hHeld=>?_
         clear hK K;refine OnM 8 true fun K hK=>?_
         go_simp
         refine NxM hK fun hHeld=>?_
         clear hK K;refine zaG Mcv ?_ _;clear hHeld;obtain⟨YA,yc,rfl,ng,_⟩:=o10.sl zam;have jc:Below W9.heap.size W9 w10:=(zaE (Below.refl _ _)).trans b10;obtain⟨vB,o8,cU⟩:=yH3 (qM.o.trans (jc.mono C8)) (o10.base_le (show W4.heap.size<=W9.drew.heap.size by show W4.heap.size<=W9.heap.size;omega)) (fun W (h:Below w10.heap.size w10 W)=>zdN (za3 out nm mo) YA yc W (by have:=df.o;omega) (ng.keep h));clear o10 b10 ng jc rA;have hx:=Bc.o;cases hlg:zaF (za3 out nm mo)
         ·rw[hlg]at hx cU;have aK:=zHi (jV.o hlg);rw[if_neg Mcx]at hx;have jZ:=zHi hx;clear hx hlg;generalize za3 out nm mo=out1 at*;go_wp2_with (go_at_call 160;go_must(refine(cU.o _ Bw).mono ?_);rintro e wq ⟨rfl,rfl⟩)
          go_round
          case rel=>exact⟨i+1,false,out1,df.o,by go_num,rfl,o8.o,by omega,(ql.o).trans (vB.o.mono rV),zHi fun _=>⟨pj.o,jZ.o,aK.o⟩,zHi Mcx⟩
          case measure=>have:=df.o;simp only[intOf];omega
         ·rw[hlg]at hx cU;rw[if_pos rfl]at hx;have jZ:=zHi hx;clear hx hlg;generalize za3 out nm mo=out1 at*;go_wp2_with (go_at_call 160;go_must(refine(cU.o _ Bw).mono ?_);rintro e wq ⟨rfl,rfl⟩)
          go_round
          case rel=>exact⟨i+1,true,out1,df.o,by go_num,rfl,o8.o,by omega,(ql.o).trans (vB.o.mono rV),zHi Mcx,zHi fun _=> .inr jZ.o⟩
          case measure=>have:=df.o;simp only[intOf];omega
     ·exact Mj
    ·have xH:¬(i:Int)<(hs.length:Int):=Mcu;cases l'
     ·obtain⟨jr,gK,_⟩:=zM.o rfl;rw[List.drop_of_length_le Mcu,zbC]at gK;have ow:D0=(zb2 s n day HH (k+1) (s.graves.drop (k+1))).map ((dx.map (·.g)++[{x.g with holders:=out,died:=x.g.died++[n]}])++ ·):=by
       obtain⟨h1,h2⟩:=kN.o (by rw[jr,Bool.and_false]);rw[jr]at h2;have h2:HH=some hs:=h2;rw[h1,zF.o,h2];exact Ia.o _ hs out tI.o gK
      have Fn:HH=some hs:=by
       obtain⟨_,h2⟩:=kN.o (by rw[jr,Bool.and_false]);rw[jr]at h2;exact h2
      obtain⟨HN,kM⟩:=yH2 ow Fn;clear ow Fn gK jr;obtain⟨OV,oc,rfl,_,yo⟩:=HO.o.ro;have je:=cm.o.trans (eo.o.mono cm.o.size);have bj:=bY.o.keep je;obtain⟨gcur,dj,_⟩:=bj.row;have j3:wr.cell? ⟨ga,go+k*5+3,none⟩=some (.slice x.H x.g.holders.length x.hc):=bj.at ee.o (j:=3) rfl;have jf:=bj.frz;have oL:=bj.lt;obtain⟨qS,lL,BC,jQ⟩:=yH4 bj dj yo je;clear yo je bj dj;go_upto_region 20 with fail
      obtain⟨V1,nE⟩:∃V1,V1=wr.setCell ⟨ga,go+k*5+3,none⟩ (.slice OV out.length oc):=⟨_,rfl⟩
      have gN:wr.grownBy V1 (some ga):=by rw[nE];exact zav _ _ _ _
      have fL:RowC V1 94 ga go 5 (((dx++gxs.drop k).map GX.cells).set k (x.cells.set 3 (.slice OV out.length oc))):=by rw[nE];exact qS.o.set ee.o Mcw
      have rY:Below w1.heap.size w1 V1:=MdM;rw[<-nE];have CH:WR.heap.size<=V1.heap.size:=Nat.le_trans jQ.o.size gN.size;clear nE j3 jf oL;have LJ:=hxd5 fL ee.o;obtain⟨gV,uP⟩:=yH2 fL rY;have Kw:=fL.lt;have vG:=zHi (BC.o.kept gN lL.o Mcw);have uV:=zHi (fun y hy=>(((gq.o y hy).keep jQ.o).kept gN lL.o:okR gxs V1 y));have BZ:=zHi (tQ.o V1 (aj.o.trans ((aC.o.trans (rY.mono ii)).mono au))).2;clear fL rY gN
      go_wp2_with (first
       |(at_builtin
         go_loud(refine zat (v:=.slice (some ⟨V1.heap.size,0,none⟩) 0 0) (n:=0) (m:=x.g.died.length) rfl _ _ rfl zb9 za9 zb8 rfl (xs:=[]) (ys:=x.g.died) (zec za9 V1 V1.heap.size (Nat.le_refl _)) rfl rfl rfl (BZ.o.keep (zac (Below.refl _ _) _)) Mc3 Mcu Mcx ?_)
         intro v3 w3 h1 h2 h3;rw[List.nil_append]at h1;have ay:Below V1.heap.size V1 w3:=Below.grown (zac (Below.refl _ _) _) h2 Mcx Mc8;obtain⟨V3,vc3,rfl,_,_⟩:=h1.sl za9;obtain⟨nw,lA⟩:=yH2 h1 ay;have wa:=ay.size
         clear h1 h2 h3 ay)
       |(at_builtin
         go_loud(refine zat (v:=.slice V3 x.g.died.length vc3) (n:=x.g.died.length) (m:=1) rfl _ _ rfl zb9 za9 zb8 rfl (xs:=x.g.died) (ys:=[n]) (nw.o.keep (n:=w3.heap.size) (zac (Below.refl _ _) _)) rfl rfl rfl (zcC (zaq _ _ _ rfl)) Mc3 Mcu Mcz ?_)
         intro v6 w6 h1 h2 h3;have aS:Below V1.heap.size V1 w6:=Below.grown (zac lA.o _) h2 Mcz (fun j hj=>(nw.o.ge j hj).1);obtain⟨A6,vc6,dG,_,_⟩:=h1.sl za9;rw[List.length_append]at dG;subst dG;obtain⟨lQ,eK⟩:=yH2 h1 aS;have eH:=gV.o.keep aS;have i4:w6.cell? ⟨ga,go+k*5+4,none⟩=some (.slice x.D x.g.died.length x.dc):=hxd5 eH ee.o;have jf6:=eH.frz;have Do:=eH.lt;have CS:=aS.size
         clear h1 h2 h3 aS eH))
      go_round
      case rel=>
       have eH:=gV.o.keep eK.o;rw[AZ.o]at eH;obtain⟨gcur6,mD,_⟩:=eH.row;refine⟨k+1,false,true,dx++[(⟨{x.g with holders:=out,died:=x.g.died++[n]},OV,oc,A6,vc6⟩:GX)],am.o,by go_num,rfl,rfl,by rw[List.length_append,ir];rfl,zHi fun _=>row_two ir eH,zHi fun y hy=>?_,zHi Mcx,zHi fun _=>⟨by rw[HN.o,List.map_append];rfl,kM.o⟩,zaM (uP.o.trans (eK.o.mono uP.o.size)) Az _,by simp;omega⟩;exact Mb9
      case measure=>have:=am.o;simp only[intOf];omega
     ·exact Mj
  ·have ar:¬(k:Int)<(s.graves.length:Int):=Mcu;have oM:k=s.graves.length:=Mcu;have Dr:gxs.drop k=[]:=List.drop_of_length_le Mcu;have yY:s.graves.drop k=[]:=List.drop_of_length_le Mcu;have HG:Hid ((f&&l)=false->R=({s with graves:=dx.map (·.g),dead:=s.dead++[n]},0)):=zHi fun dQ=>by
    obtain⟨h1,_⟩:=kN.o dQ;rw[yY,zb2]at h1;rw[HR.o,h1];simp
   have dp:Hid ((f&&l)=true->R=(s,8)):=zHi fun dQ=>by rw[HR.o,nV.o dQ]
   clear yY ae hB cB;cases f
   ·exact Me
   ·cases l
    ·exact Me
    ·have HE:=zHi (dp.o rfl);clear HG dp;go_wp2_with fail
     refine bodyPost_ret (zbG rfl _ rfl rfl (zc2 xr0)) rfl ?_;exact⟨_,_,_,_,_,_,_,false,rfl,rfl,zcD (aj.o.trans (b8.o.mono au)) (show w.heap.size<=w.heap.size+1 by omega),.inr ⟨rfl,by rw[HE.o]⟩⟩
theorem zkg{laws:List Law}{s s':St}{d:Deed}(ht:zbr laws s d=(s',0)):s'.wills.length<=s.wills.length+1:=by
 have key:∀ {x:St×Int},x=(s',0)->x.1.wills.length<=s.wills.length+1->s'.wills.length<=s.wills.length+1:=fun e h=>by rw[e]at h;exact h
 refine key ht ?_;clear key ht;have h0:s.wills.length<=s.wills.length+1:=Nat.le_succ _;unfold zbr;split
 ·unfold zcT;repeat(first|split|exact h0)
 split
 ·unfold zbs;exact Mbl
 split
 ·unfold zba;exact Mbl
 split
 ·unfold zdf;exact Mbl
 split
 ·unfold zgP;split
  ·exact h0
  ·simp
 split
 ·unfold zbD;repeat(first|split|exact h0)
 split
 ·unfold zcI;repeat(first|split|exact h0)
 split
 ·unfold zdv;repeat(first|split|exact h0)
 ·unfold zdQ;repeat(first|split|exact h0)
theorem zop{k:Nat}{s:St}{wd rd:List Deed}(h:FewS k s)(hw:s.wills.length<=k)(hk:k<=1000)(hL:StLink s wd rd):StFew s wd rd:=
 ⟨by have:=h.kids;omega,by have:=h.marr;omega,by have:=h.dead;omega,by rw[hL.wills,List.length_map]at hw;omega,by have:=h.ren;rw[hL.ren,List.length_map]at this;omega,by have:=h.graves;omega⟩
theorem next_same{laws:List Law}{s:St}{ds:List Deed}{d:Deed}{k:Nat}(hc:zaI d=0)(hk:ds.length=k):nxP laws s ds d=zci laws s k (znk ds) d:=by
 subst hk;unfold nxP zci;rw[if_neg (show¬(zaI d != 0)=true by rw[hc];decide)];split
 ·rfl
 ·cases hg:ds.getLast? with
  |none=>
   have h0:=(zeA hc).day.1;have hn:¬d.day<0:=Mcu;simp[znk,hg,hn]
  |some x=>simp[znk,hg]
theorem est_heirs{laws:List Law}{s:St}{n:ByteArray}{day last:Int}{k:Nat}{hs:Parts}(hG:GoodSt s last)(hF:FewS k s)(hk:k<=900)(bp:zaC laws=0)(h:zcP s (zbc laws day) n=some hs):hs.length<=1000/\GoodParts hs/\sumQ hs<=1/\zaF hs=false:=by
 have bQ:=zfe bp day;have bG:=ze9 (hG.wills n) bQ h;have jn:=(zfS (s:=s) (n:=n) (hG.wills n) bQ).1 hs h;have ko:=ziN (s:=s) (law:=zbc laws day) (n:=n) (by rw[jn];exact bG.1);rw[jn]at ko;have h1:=hF.wills n;have h2:=hF.kids;simp only at ko;exact⟨by omega,bG.1,by rw[bG.2.1];exact Rat.le_refl,bG.2.2⟩
theorem zp6(laws:List Law)(s:St)(last:Int)(k:Nat)(d:Deed)(B:Option Addr)(c:Nat)(ds:List Deed)(DB:Option Addr)(dc:Nat)(w:World){a0 a1 a2 a3 a4 a5 a6:Value}(hs:StAt w laws s a0 a1 a2 a3 a4 a5 a6)(hG:GoodSt s last)(hF:FewS k s)(hw:s.wills.length<=k)(hk:k<=600)(bp:zaC laws=0)
 (hd:zaI d=0)(ax:d.to.length<=c)(hS:Sl w 3 RPart.cells B d.to)(ke:SlW w 7 zfE DB ds)(n:Nat)(hn:n=ds.length):Calls Tryz.prog 58 #[.agg #[a0,a1,a2,a3,a4,a5,a6],.slice DB n dc,d.v B c] w (zfJ w laws (nxP laws s ds d)):=by
 subst hn;obtain⟨wd,rd,LA,CA,MA,DA,WA,RA,GA,c0,c1,c2,c3,c4,c5,c6,rfl,rfl,rfl,rfl,rfl,rfl,rfl,hI,hL⟩:=hs;have hf:=zop hF hw Mcu hL;refine rNext_of laws s wd rd LA CA MA DA WA RA GA c0 c1 c2 c3 c4 c5 c6 d B c w hI hL hf (zeA hd) hS ds DB dc ke ax (fun g hg=>⟨hG.graves g hg,by have:=(hF.held g hg).1;omega⟩) (fun g hg=>(hF.held g hg).2.2) fun W hB=>?_
 exact rDies_any laws s wd rd LA CA MA DA WA RA GA c0 c1 c2 c3 c4 c5 c6 d.frm d.day W (hI.keep hB) hL hf bp (hG.wills _) hG.acyc (hF.wills _) (fun g hg=>⟨hG.graves g hg,by have:=(hF.held g hg).1;omega⟩) (fun g hg=>by have:=(hF.held g hg).2.1;omega) fun hs h=>est_heirs hG hF Mcu bp h
def zkY(w:World)(laws:List Law)(R:St×Nat×Int)(e:Ending)(w':World):Prop:=
 ∃a0 a1 a2 a3 a4 a5 a6,e=.returned (.tuple #[.agg #[a0,a1,a2,a3,a4,a5,a6],.int .i64 (R.2.1:Int),.int .i64 R.2.2])/\([a0,a1,a2,a3,a4,a5,a6].all zcH)=true/\Below w.heap.size w w'/\(R.2.2=0->StAt w' laws R.1 a0 a1 a2 a3 a4 a5 a6)
theorem st_zero{w:World}{laws:List Law}{LA:Option Addr}{c:Nat}(h:Sl w 4 Law.cells LA laws):StAt w laws zb4 (.slice LA laws.length c) (.slice none 0 0) (.slice none 0 0) (.slice none 0 0) (.slice none 0 0) (.slice none 0 0) (.slice none 0 0):=
 ⟨[],[],LA,none,none,none,none,none,none,c,0,0,0,0,0,0,rfl,rfl,rfl,rfl,rfl,rfl,rfl,⟨h,Sl.nil,Sl.nil,Sl.nil,fun h=>absurd h Mcx,fun h=>absurd h Mcx,fun h=>absurd h (by simp[zb4]),Nat.le_refl _⟩,⟨rfl,by simp,rfl,by simp⟩⟩
theorem zeS{w:World}{B:Nat}{x0 x1 x2 x3 x4 x5 x6 y z:Value}{fn:Func}{p q r:Tmp}(h:fn.results= #[.cell p 44,.tmp q,.tmp r])(tmps:Array Value)(hp:tmps.getD p undef=.pointer (some ⟨B,0,none⟩))(hq:tmps.getD q undef=y)(hr:tmps.getD r undef=z)
 (hx:w.heap[B]?=some (.cells #[x0,x1,x2,x3,x4,x5,x6] 44)):(results fn tmps).run Tryz.prog w=.ok (.tuple #[.agg #[x0,x1,x2,x3,x4,x5,x6],y,z]) w:=by
 obtain⟨h0,h1,h2,h3,h4,h5,h6⟩:=zaH hx;clear hx;have hc:(results fn tmps).run Tryz.prog w=((asAddr (tmps.getD p undef)).run Tryz.prog w).andThen fun x w₁=>((loadVar 44 x).run Tryz.prog w₁).andThen fun v w₂=> .ok (.tuple #[v,tmps.getD q undef,tmps.getD r undef]) w₂:=by
  simp only[results,h];simp[Sem.run_bind,Result.andThen]
 rw[hc,hp,hq,hr];go_simp
theorem drew_heap(W:World)(k:Nat):W.drew.heap[k]?=W.heap[k]?:=rfl
structure RepAt (base TB:Nat) (W:World) (laws:List Law) (ds:List Deed) (LA DA:Option Addr) (nc mc:Nat) (s told:St) (a0 a1 a2 a3 a4 a5 a6 b0 b1 b2 b3 b4 b5 b6:Value):Prop where
 box:W.heap[base]?=some (.cells #[.slice LA laws.length nc,.slice DA ds.length mc] 25)
 res:W.heap[base+1]?=some (.cells #[.slice none 0 0,.slice none 0 0,.slice none 0 0,.slice none 0 0,.slice none 0 0,.slice none 0 0,.slice none 0 0] 44)
 st:W.heap[base+2]?=some (.cells #[a0,a1,a2,a3,a4,a5,a6] 44)
 tcell:W.heap[TB]?=some (.cells #[b0,b1,b2,b3,b4,b5,b6] 44)
 tb:base+2<TB
 sl:([a0,a1,a2,a3,a4,a5,a6].all zcH)=true
 sl2:([b0,b1,b2,b3,b4,b5,b6].all zcH)=true
 sAt:StAt W laws s a0 a1 a2 a3 a4 a5 a6
 tAt:StAt W laws told b0 b1 b2 b3 b4 b5 b6
section
variable {base TB:Nat} {W W':World} {laws:List Law} {ds:List Deed} {LA DA:Option Addr} {nc mc:Nat} {s told s':St} {a0 a1 a2 a3 a4 a5 a6 b0 b1 b2 b3 b4 b5 b6 d0 d1 d2 d3 d4 d5 d6:Value}
theorem RepAt.keep(h:RepAt base TB W laws ds LA DA nc mc s told a0 a1 a2 a3 a4 a5 a6 b0 b1 b2 b3 b4 b5 b6)(hB:Below W.heap.size W W'):RepAt base TB W' laws ds LA DA nc mc s told a0 a1 a2 a3 a4 a5 a6 b0 b1 b2 b3 b4 b5 b6:=
 ⟨(hB.block _ (zab h.box)).trans h.box,(hB.block _ (zab h.res)).trans h.res,(hB.block _ (zab h.st)).trans h.st,(hB.block _ (zab h.tcell)).trans h.tcell,h.tb,h.sl,h.sl2,h.sAt.keep hB,h.tAt.keep hB⟩
theorem zp7{w:World}{b k:Nat}{x:Obj}{a0 a1 a2 a3 a4 a5 a6:Value}(ai:k≠b)(h:w.heap[k]?=some x):(((((((w.setCell ⟨b,0,none⟩ a0).setCell ⟨b,1,none⟩ a1).setCell ⟨b,2,none⟩ a2).setCell ⟨b,3,none⟩ a3).setCell ⟨b,4,none⟩ a4).setCell ⟨b,5,none⟩ a5).setCell ⟨b,6,none⟩ a6).heap[k]?=some x:=
 J_ne ai (J_ne ai (J_ne ai (J_ne ai (J_ne ai (J_ne ai (J_ne ai h))))))
theorem RepAt.setS(h:RepAt base TB W laws ds LA DA nc mc s told a0 a1 a2 a3 a4 a5 a6 b0 b1 b2 b3 b4 b5 b6)(aQ:([d0,d1,d2,d3,d4,d5,d6].all zcH)=true)(hs:StAt W laws s' d0 d1 d2 d3 d4 d5 d6):
 RepAt base TB (((((((W.setCell ⟨base+2,0,none⟩ d0).setCell ⟨base+2,1,none⟩ d1).setCell ⟨base+2,2,none⟩ d2).setCell ⟨base+2,3,none⟩ d3).setCell ⟨base+2,4,none⟩ d4).setCell ⟨base+2,5,none⟩ d5).setCell ⟨base+2,6,none⟩ d6) laws ds LA DA nc mc s' told d0 d1 d2 d3 d4 d5 d6 b0 b1 b2 b3 b4 b5 b6:=
 ⟨zp7 Mcu h.box,zp7 Mcu h.res,zc2 h.st,zp7 (by have:=h.tb;omega) h.tcell,h.tb,aQ,h.sl2,(zc6 h.st h.sl).st hs,(zc6 h.st h.sl).st h.tAt⟩
theorem RepAt.setT(h:RepAt base TB W laws ds LA DA nc mc s told a0 a1 a2 a3 a4 a5 a6 b0 b1 b2 b3 b4 b5 b6):
 RepAt base TB (((((((W.setCell ⟨TB,0,none⟩ a0).setCell ⟨TB,1,none⟩ a1).setCell ⟨TB,2,none⟩ a2).setCell ⟨TB,3,none⟩ a3).setCell ⟨TB,4,none⟩ a4).setCell ⟨TB,5,none⟩ a5).setCell ⟨TB,6,none⟩ a6) laws ds LA DA nc mc s s a0 a1 a2 a3 a4 a5 a6 a0 a1 a2 a3 a4 a5 a6:=
 ⟨zp7 (by have:=h.tb;omega) h.box,zp7 (by have:=h.tb;omega) h.res,zp7 (by have:=h.tb;omega) h.st,zc2 h.tcell,h.tb,h.sl,h.sl,(zc6 h.tcell h.sl2).st h.sAt,(zc6 h.tcell h.sl2).st h.sAt⟩
end
theorem zjk(laws:List Law)(ds:List Deed)(upto:Int)(LA:Option Addr)(n nc:Nat)(DA:Option Addr)(m mc:Nat)(w:World)(hR:RightsIn w laws ds LA n nc DA m mc)(hO:∀d∈ds,zdB d)(bx:ds.length<=500):
 Calls Tryz.prog 29 #[.agg #[.slice LA n nc,.slice DA m mc],.int .i64 upto] w (zkY w laws (zaQ laws ds upto)):=by
 obtain⟨rfl,rfl,DD,nH,il,ke⟩:=hR;obtain⟨R,hR⟩:∃R,R=zaQ laws ds upto:=⟨_,rfl⟩
 rw[<-hR];unfold zaQ at hR;obtain⟨cN,eA,gn,HO,qR⟩:=yH5 (fun W (hB:Below w.heap.size w W)=>zjz laws LA laws.length nc W rfl (il.keep hB)) (fun W (hB:Below w.heap.size w W)=>(il.keep hB:Sl W 4 Law.cells LA laws)) (fun W (hB:Below w.heap.size w W)=>(ke.keep zch hB:SlW W 7 zfE DA ds)) hO hR;unfold zkY;clear il ke hO hR;go_enter Tryz.func29,Tryz.ntmps29
 go_upto_region 2 with fail
 obtain⟨W0,ak⟩:∃W0,W0=((w.alloc (.cells #[.slice LA laws.length nc,.slice DA ds.length mc] 25)).alloc (.cells #[.slice none 0 0,.slice none 0 0,.slice none 0 0,.slice none 0 0,.slice none 0 0,.slice none 0 0,.slice none 0 0] 44)).alloc (.cells #[.slice LA laws.length nc,.slice none 0 0,.slice none 0 0,.slice none 0 0,.slice none 0 0,.slice none 0 0,.slice none 0 0] 44):=⟨_,rfl⟩
 have aE:Below w.heap.size w W0:=Mc5;have g0:W0.heap[w.heap.size]?=some (.cells #[.slice LA laws.length nc,.slice DA ds.length mc] 25):=Mdv;have g1:W0.heap[w.heap.size+1]?=some (.cells #[.slice none 0 0,.slice none 0 0,.slice none 0 0,.slice none 0 0,.slice none 0 0,.slice none 0 0,.slice none 0 0] 44):=by rw[ak];exact zal (zaq _ _ _ Mcx)
 have g2:W0.heap[w.heap.size+2]?=some (.cells #[.slice LA laws.length nc,.slice none 0 0,.slice none 0 0,.slice none 0 0,.slice none 0 0,.slice none 0 0,.slice none 0 0] 44):=by rw[ak];exact zaq _ _ _ Mcx
 rw[<-ak];have aj:=zHi aE;have au:=aE.size;clear ak aE;obtain⟨x0,x1⟩:=zby g0;have lx:=zab g0;go_upto_region 3 with(go_at_call 56;go_must(refine(cN.o _ aj.o).mono ?_);rintro e wq ⟨rfl,z,rfl⟩)
 obtain⟨W1,aV⟩:∃W1,W1=W0.ext z:=⟨_,rfl⟩
 have aR:Below W0.heap.size W0 W1:=Mdp;rw[<-aV];have ii:=aR.size;have g0:=(aR.block _ (zab g0)).trans g0;have g1:=(aR.block _ (zab g1)).trans g1;have l2:=zab g2;have g2:=(aR.block _ (zab g2)).trans g2;have aC:=zHi (aj.o.trans (aR.mono au));clear aV aR x0 x1 lx;obtain⟨s0,s1,s2,s3,s4,s5,s6⟩:=zaH g2;have ls:=zab g2;by_cases hce:zaC laws=0;rotate_left 1
 ·have HE:Hid (R=(zb4,0,zaC laws)):=by show _=_;rw[qR.o,if_pos (by simpa using hce)]
  have kZ:(zaC laws != 0)=true:=by simpa using hce
  have gU:=zHi hce;obtain⟨r0,r1,r2,r3,r4,r5,r6⟩:=zaH g1;have rf:=frz g1;have lr:=zab g1;generalize zaC laws=ce at*;clear hce;go_wp2_with fail
  refine bodyPost_ret (zeS rfl _ rfl rfl rfl (zc2 g1)) rfl ?_;rw[HE.o];exact⟨_,_,_,_,_,_,_,rfl,by first|rfl|exact⟨rfl,rfl,rfl,rfl,rfl,rfl,rfl⟩,zcD aC.o (show w.heap.size<=w.heap.size+1 by omega),fun h=>absurd h gU.o⟩
 have BX:Hid (R=zaY laws upto (ds.drop 0) zb4 zb4 0 0):=by show _=_;rw[qR.o,if_neg (by simp[hce])];rfl
 rw[hce];have eB:=zHi hce;clear hce qR;go_upto_region 6 with fail
 obtain⟨TB,CD⟩:∃TB,TB=W1.heap.size:=⟨_,rfl⟩
 obtain⟨W2,cI⟩:∃W2,W2=W1.alloc (.cells #[.slice LA laws.length nc,.slice none 0 0,.slice none 0 0,.slice none 0 0,.slice none 0 0,.slice none 0 0,.slice none 0 0] 44):=⟨_,rfl⟩
 have bs:Below W1.heap.size W1 W2:=by rw[cI];exact zac (Below.refl _ _) _
 have oD:=aC.o.trans (bs.mono aC.o.size);have aD:=zHi oD;have vI:Hid (RepAt w.heap.size TB W2 laws ds LA DA nc mc zb4 zb4 (.slice LA laws.length nc) (.slice none 0 0) (.slice none 0 0) (.slice none 0 0) (.slice none 0 0) (.slice none 0 0) (.slice none 0 0) (.slice LA laws.length nc) (.slice none 0 0) (.slice none 0 0) (.slice none 0 0) (.slice none 0 0) (.slice none 0 0) (.slice none 0 0)):=zHi
  ⟨(bs.block _ (zab g0)).trans g0,(bs.block _ (zab g1)).trans g1,(bs.block _ (zab g2)).trans g2,by rw[cI,CD];exact zaq _ _ _ rfl,by omega,rfl,rfl,st_zero (eA.o _ oD),st_zero (eA.o _ oD)⟩
 rw[<-cI,<-CD];clear cI CD g0 g1 g2 bs oD s0 s1 s2 s3 s4 s5 s6 ls l2;go_upto_region 7 with fail
 go_loopw [10] (fun v wr=>∃(k:Nat) (s told:St) (last:Int) (a0 a1 a2 a3 a4 a5 a6 b0 b1 b2 b3 b4 b5 b6:Value),k<=ds.length/\v=.int .i64 k/\Hid (RepAt w.heap.size TB wr laws ds LA DA nc mc s told a0 a1 a2 a3 a4 a5 a6 b0 b1 b2 b3 b4 b5 b6)/\Hid (GoodSt s last/\FewS k s/\s.wills.length<=k/\last=znk (ds.take k))/\Hid (R=zaY laws upto (ds.drop k) s told k last)/\Below w.heap.size w wr) (fun v _=>ds.length-(intOf v).toNat)
 case atStart=>exact⟨0,zb4,zb4,0,_,_,_,_,_,_,_,_,_,_,_,_,_,_,Nat.zero_le _,rfl,vI,zHi ⟨zeu 0,zg8,Nat.le_refl _,rfl⟩,BX,aD.o⟩
 case round=>
  obtain⟨k,s,told,last,a0,a1,a2,a3,a4,a5,a6,b0,b1,b2,b3,b4,b5,b6,hk,rfl,HA,HI,HX,hB⟩:=hrel;obtain⟨WR,oA⟩:∃WR,WR=wr:=⟨_,rfl⟩
  subst oA;have aI:=hB.size;have HB:=zHi hB;by_cases ae:k<ds.length
  ·obtain⟨gb,go,cs,j8,dj,dB,ah⟩:=(gn.o WR hB).at ae;have gJ:ds.drop k=ds[k]::ds.drop (k+1):=List.drop_eq_getElem_cons ae;have hx:=HX.o;rw[gJ,zaY]at hx;have oO:=zpe ae;have kv:=HO.o ds[k] (List.getElem_mem ae);have cw:(ds.take k).length=k:=Mdd;have am:=zHi ae;generalize ds[k]=x at*;obtain⟨EB,ec,uh,rfl,hP⟩:=dB;have i0:WR.cell? ⟨gb,go+k*7,none⟩=some (.int .i64 x.kind):=McW;have i1:WR.cell? ⟨gb,go+k*7+1,none⟩=some (.int .i64 x.day):=ah 1 _ rfl;have i2:WR.cell? ⟨gb,go+k*7+2,none⟩=some (.string x.place):=ah 2 _ rfl;have i3:WR.cell? ⟨gb,go+k*7+3,none⟩=some (.string x.frm):=ah 3 _ rfl;have i4:WR.cell? ⟨gb,go+k*7+4,none⟩=some (.slice EB x.to.length ec):=ah 4 _ rfl;have i5:WR.cell? ⟨gb,go+k*7+5,none⟩=some (.int .i64 x.cls):=ah 5 _ rfl;have i6:WR.cell? ⟨gb,go+k*7+6,none⟩=some (.int .i64 x.years):=ah 6 _ rfl;have ar:(k:Int)<(ds.length:Int):=Mcu;have aT:(0:Int)<=(k:Int):=Mcu;have KT:(k:Int)<=(mc:Int):=Mcu;have KU:k<=mc:=Mcu;subst j8;obtain⟨kQ,lG⟩:=yH2 (fun W (h:Below WR.heap.size WR W)=>(hP.keep h:Sl W 3 RPart.cells EB x.to)) (fun W (h:Below WR.heap.size WR W)=>zj0 x EB ec W kv (hP.keep h));unfold Deed.v at lG;obtain⟨⟨A0,m0,q0,rfl⟩,⟨A1,m1,q1,rfl⟩,⟨A2,m2,q2,rfl⟩,⟨A3,m3,q3,rfl⟩,⟨A4,m4,q4,rfl⟩,⟨A5,m5,q5,rfl⟩,⟨A6,m6,q6,rfl⟩⟩:=zct (HA.o.sl);obtain⟨x0,x1⟩:=zby (HA.o).box;obtain⟨s0,s1,s2,s3,s4,s5,s6⟩:=zaH (HA.o).st;obtain⟨t0,t1,t2,t3,t4,t5,t6⟩:=zaH (HA.o).tcell;obtain⟨r0,r1,r2,r3,r4,r5,r6⟩:=zaH (HA.o).res;have sf:=frz (HA.o).st;have tf:=frz (HA.o).tcell
   have rf:=frz (HA.o).res;have lx:=zab (HA.o).box;have ls:=zab (HA.o).st;have lt':=zab (HA.o).tcell;have lr:=zab (HA.o).res;by_cases iJ:zaI x=0;rotate_left 1
   ·have cZ:zci laws s k last x=(s,zaI x):=by unfold zci;rw[if_pos (by simpa using iJ)]
    have HE:Hid (R=(told,k,zaI x)):=by show _=_;rw[hx,cZ,if_pos (by simpa using iJ)]
    have gU:=zHi iJ;have kZ:(zaI x==0)=false:=by simpa using iJ
    have xm:(zaI x != 0)=true:=by simpa using iJ
    clear hx cZ oO kv cw ah hP uh ae gJ iJ;generalize zaI x=ce at*;go_upto_region 10 with(go_at_call 57;go_must(refine(lG.o _ (Below.refl _ _)).mono ?_);rintro e wq ⟨rfl,z,rfl⟩)
    obtain⟨W3,be⟩:∃W3,W3=WR.ext z:=⟨_,rfl⟩
    have ay:Below WR.heap.size WR W3:=by rw[be];exact zao _ _
    rw[<-be];obtain⟨cH,aH⟩:=yH2 (HA.o.keep ay) (hB.trans (ay.mono aI));clear x0 x1 s0 s1 s2 s3 s4 s5 s6 t0 t1 t2 t3 t4 t5 t6 r0 r1 r2 r3 r4 r5 r6 sf tf rf lx ls lt' lr;clear be ay i0 i1 i2 i3 i4 i5 i6;obtain⟨⟨B0,k0,p0,rfl⟩,⟨B1,k1,p1,rfl⟩,⟨B2,k2,p2,rfl⟩,⟨B3,k3,p3,rfl⟩,⟨B4,k4,p4,rfl⟩,⟨B5,k5,p5,rfl⟩,⟨B6,k6,p6,rfl⟩⟩:=zct ((cH.o).sl2);obtain⟨x0,x1⟩:=zby ((cH.o)).box;obtain⟨s0,s1,s2,s3,s4,s5,s6⟩:=zaH ((cH.o)).st;obtain⟨t0,t1,t2,t3,t4,t5,t6⟩:=zaH ((cH.o)).tcell;obtain⟨r0,r1,r2,r3,r4,r5,r6⟩:=zaH ((cH.o)).res;have sf:=frz ((cH.o)).st;have tf:=frz ((cH.o)).tcell;have rf:=frz ((cH.o)).res;have lx:=zab ((cH.o)).box;have ls:=zab ((cH.o)).st;have lt':=zab ((cH.o)).tcell;have lr:=zab ((cH.o)).res;go_wp2_with fail
    refine bodyPost_ret (zeS rfl _ rfl rfl rfl (zc2 (cH.o).res)) rfl ?_;rw[HE.o];exact⟨_,_,_,_,_,_,_,rfl,by first|rfl|exact⟨rfl,rfl,rfl,rfl,rfl,rfl,rfl⟩,zcD (aH.o) (show w.heap.size<=w.heap.size+1 by omega),fun h=>absurd h gU.o⟩
   rw[iJ]at lG;have lh:=next_same (laws:=laws) (s:=s) iJ cw;obtain⟨hG,hF,cG,Gs⟩:=HI.o;rw[<-Gs]at lh;have jV:=zHi (fun W (h:Below WR.heap.size WR W) (hL:k<=600)=>zp6 laws s last k x EB ec (ds.take k) (some ⟨gb,go,none⟩) mc W (HA.o.sAt.keep h) hG hF cG hL eB.o iJ uh (hP.keep h) ((gn.o W (hB.trans (h.mono aI))).take k) k cw.symm);rw[lh]at jV;have GD:=zdL (laws:=laws) (s:=s) (k:=k) (last:=last) (d:=x);have dA:(zci laws s k last x).2=0->GoodSt (zci laws s k last x).1 x.day/\FewS (k+1) (zci laws s k last x).1/\(zci laws s k last x).1.wills.length<=k+1/\x.day=znk (ds.take (k+1)):=fun h0=>by
    obtain⟨_,h2,h3,h4⟩:=GD h0;have ht:zbr laws s x=((zci laws s k last x).1,0):=by rw[<-h4];exact Prod.ext rfl h0
    exact⟨zf2 hG (zeA iJ) h3 eB.o ht,zkI hF h2 hG (zeA iJ) h3 eB.o ht,by have:=zkg ht;omega,oO.symm⟩
   obtain⟨Be,av⟩:=yH2 dA hx;clear hx dA GD lh hG hF cG Gs oO kv ah hP gJ ae iJ;generalize zci laws s k last x=N at*;obtain⟨s',er⟩:=N;simp only at Be av;go_upto_region 11 with(go_at_call 57;go_must(refine(lG.o _ (Below.refl _ _)).mono ?_);rintro e wq ⟨rfl,z,rfl⟩)
   obtain⟨W3,be⟩:∃W3,W3=WR.ext z:=⟨_,rfl⟩
   have ay:Below WR.heap.size WR W3:=by rw[be];exact zao _ _
   rw[<-be];have wa:=ay.size;have iv:gb<W3.heap.size:=Mcu;have i0:=(zah ay dj).trans i0;have i1:=(zah ay dj).trans i1;have i2:=(zah ay dj).trans i2;have i3:=(zah ay dj).trans i3;have i4:=(zah ay dj).trans i4;have i5:=(zah ay dj).trans i5;have i6:=(zah ay dj).trans i6;obtain⟨cH,aH,AX⟩:=yH3 (HA.o.keep ay) (hB.trans (ay.mono aI)) ay;clear x0 x1 s0 s1 s2 s3 s4 s5 s6 t0 t1 t2 t3 t4 t5 t6 r0 r1 r2 r3 r4 r5 r6 sf tf rf lx ls lt' lr;clear be ay hB;obtain⟨x0,x1⟩:=zby (cH.o).box;obtain⟨s0,s1,s2,s3,s4,s5,s6⟩:=zaH (cH.o).st;obtain⟨t0,t1,t2,t3,t4,t5,t6⟩:=zaH (cH.o).tcell;obtain⟨r0,r1,r2,r3,r4,r5,r6⟩:=zaH (cH.o).res;have sf:=frz (cH.o).st;have tf:=frz (cH.o).tcell;have rf:=frz (cH.o).res;have lx:=zab (cH.o).box;have ls:=zab (cH.o).st;have lt':=zab (cH.o).tcell;have lr:=zab (cH.o).res
   have aA:=zHi (fun(W:World) (h:Below W3.heap.size W3 W)=>(show W.cell? ⟨w.heap.size,1,none⟩=some (.slice (some ⟨gb,go,none⟩) ds.length mc)/\W.cell? ⟨w.heap.size+2,0,none⟩=some (.slice A0 m0 q0)/\W.cell? ⟨w.heap.size+2,1,none⟩=some (.slice A1 m1 q1)/\W.cell? ⟨w.heap.size+2,2,none⟩=some (.slice A2 m2 q2)/\W.cell? ⟨w.heap.size+2,3,none⟩=some (.slice A3 m3 q3)/\W.cell? ⟨w.heap.size+2,4,none⟩=some (.slice A4 m4 q4)/\W.cell? ⟨w.heap.size+2,5,none⟩=some (.slice A5 m5 q5)/\W.cell? ⟨w.heap.size+2,6,none⟩=some (.slice A6 m6 q6)/\W.cell? ⟨gb,go+k*7,none⟩=some (.int .i64 x.kind)/\W.cell? ⟨gb,go+k*7+1,none⟩=some (.int .i64 x.day)/\W.cell? ⟨gb,go+k*7+2,none⟩=some (.string x.place)/\W.cell? ⟨gb,go+k*7+3,none⟩=some (.string x.frm)/\W.cell? ⟨gb,go+k*7+4,none⟩=some (.slice EB x.to.length ec)/\W.cell? ⟨gb,go+k*7+5,none⟩=some (.int .i64 x.cls)/\W.cell? ⟨gb,go+k*7+6,none⟩=some (.int .i64 x.years) from⟨(zah h lx).trans x1,(zah h ls).trans s0,(zah h ls).trans s1,(zah h ls).trans s2,(zah h ls).trans s3,(zah h ls).trans s4,(zah h ls).trans s5,(zah h ls).trans s6,(zah h iv).trans i0,(zah h iv).trans i1,(zah h iv).trans i2,(zah h iv).trans i3,(zah h iv).trans i4,(zah h iv).trans i5,(zah h iv).trans i6⟩));have nX:=zHi (show k<=600 by omega)
   refine za7 10 (fun bb w'=>bb=true\/(w'.cell? ⟨w.heap.size,1,none⟩=some (.slice (some ⟨gb,go,none⟩) ds.length mc)/\w'.cell? ⟨w.heap.size+2,0,none⟩=some (.slice A0 m0 q0)/\w'.cell? ⟨w.heap.size+2,1,none⟩=some (.slice A1 m1 q1)/\w'.cell? ⟨w.heap.size+2,2,none⟩=some (.slice A2 m2 q2)/\w'.cell? ⟨w.heap.size+2,3,none⟩=some (.slice A3 m3 q3)/\w'.cell? ⟨w.heap.size+2,4,none⟩=some (.slice A4 m4 q4)/\w'.cell? ⟨w.heap.size+2,5,none⟩=some (.slice A5 m5 q5)/\w'.cell? ⟨w.heap.size+2,6,none⟩=some (.slice A6 m6 q6)/\w'.cell? ⟨gb,go+k*7,none⟩=some (.int .i64 x.kind)/\w'.cell? ⟨gb,go+k*7+1,none⟩=some (.int .i64 x.day)/\w'.cell? ⟨gb,go+k*7+2,none⟩=some (.string x.place)/\w'.cell? ⟨gb,go+k*7+3,none⟩=some (.string x.frm)/\w'.cell? ⟨gb,go+k*7+4,none⟩=some (.slice EB x.to.length ec)/\w'.cell? ⟨gb,go+k*7+5,none⟩=some (.int .i64 x.cls)/\w'.cell? ⟨gb,go+k*7+6,none⟩=some (.int .i64 x.years))) Mcv (.inr (aA.o _ (zaE (Below.refl _ _)))) ?hrest
   case hrest=>
    intro hHeld;clear x0 x1 s0 s1 s2 s3 s4 s5 s6 t0 t1 t2 t3 t4 t5 t6 r0 r1 r2 r3 r4 r5 r6 sf tf rf lx ls lt' lr;clear i0 i2 i3 i4 i5 i6;refine TkM 0 ?_;refine TkM 1 ?_;refine TkM 2 ?_;refine TkM 3 ?_;refine TkM 4 ?_;refine TkM 5 ?_;refine TkM 6 ?_;refine TkM 7 ?_;refine TkM 8 ?_;refine TkM 9 ?_;refine OnM 10 true fun K hK=>?_
    go_simp
    refine(jV.o _ (zaE AX.o) nX.o).mono ?_;rintro e w5 ⟨d0,d1,d2,d3,d4,d5,d6,rfl,aQ,aq,ao⟩;have yZ:=aQ;obtain⟨⟨D0,e0,f0,rfl⟩,⟨D1,e1,f1,rfl⟩,⟨D2,e2,f2,rfl⟩,⟨D3,e3,f3,rfl⟩,⟨D4,e4,f4,rfl⟩,⟨D5,e5,f5,rfl⟩,⟨D6,e6,f6,rfl⟩⟩:=zct aQ;have aX:Below W3.heap.size W3 w5:=(zaE (Below.refl _ _):Below W3.heap.size W3 W3.drew).trans aq;obtain⟨g9,bo,aK,BM⟩:=yH4 (cH.o.keep aX) (aH.o.trans (aX.mono aH.o.size)) ao yZ;have i1:=(zah aX iv).trans i1;have Dl:gb<w5.heap.size:=by have:=aX.size;omega
    clear aq ao aQ yZ aX;obtain⟨x0,x1⟩:=zby (g9.o).box;obtain⟨s0,s1,s2,s3,s4,s5,s6⟩:=zaH (g9.o).st;obtain⟨t0,t1,t2,t3,t4,t5,t6⟩:=zaH (g9.o).tcell;obtain⟨r0,r1,r2,r3,r4,r5,r6⟩:=zaH (g9.o).res;have sf:=frz (g9.o).st;have tf:=frz (g9.o).tcell;have rf:=frz (g9.o).res;have lx:=zab (g9.o).box;have ls:=zab (g9.o).st;have lt':=zab (g9.o).tcell;have lr:=zab (g9.o).res;refine NxM hK fun hHeld=>?_
    clear hK K;refine FrM 11 true ?_;refine FrM 12 true ?_;refine FrM 13 true ?_;refine OnM 14 true fun K hK=>?_
    go_simp
    refine NxM hK fun hHeld=>?_
    clear hK K;refine OnM 15 true fun K hK=>?_
    go_simp
    refine NxM hK fun hHeld=>?_
    clear hK K;refine zaG Mcv ?_ _;clear hHeld;obtain⟨W6,fC⟩:∃W6,W6=((((((w5.setCell ⟨w.heap.size+2,0,none⟩ (.slice D0 e0 f0)).setCell ⟨w.heap.size+2,1,none⟩ (.slice D1 e1 f1)).setCell ⟨w.heap.size+2,2,none⟩ (.slice D2 e2 f2)).setCell ⟨w.heap.size+2,3,none⟩ (.slice D3 e3 f3)).setCell ⟨w.heap.size+2,4,none⟩ (.slice D4 e4 f4)).setCell ⟨w.heap.size+2,5,none⟩ (.slice D5 e5 f5)).setCell ⟨w.heap.size+2,6,none⟩ (.slice D6 e6 f6):=⟨_,rfl⟩
    have dD:OffS (w.heap.size+2) w5 W6:=by rw[fC];exact zc6 g9.o.st g9.o.sl
    have kS:Hid (W6.heap[TB]?=some (.cells #[b0,b1,b2,b3,b4,b5,b6] 44)):=by show _=_;rw[dD.same _ (by have:=g9.o.tb;omega)];exact g9.o.tcell
    have py:Hid (W6.heap[w.heap.size+1]?=some (.cells #[.slice none 0 0,.slice none 0 0,.slice none 0 0,.slice none 0 0,.slice none 0 0,.slice none 0 0,.slice none 0 0] 44)):=by show _=_;rw[dD.same _ Mcu];exact g9.o.res
    have Hz:Hid (W6.heap[w.heap.size]?=some (.cells #[.slice LA laws.length nc,.slice (some ⟨gb,go,none⟩) ds.length mc] 25)):=by show _=_;rw[dD.same _ Mcu];exact g9.o.box
    have sw:=dD.ne i1 rfl;have i1:=(dD.cell sw).trans i1;have mD:=dD.lt sw Dl;have xd:Below w.heap.size w W6:=by rw[fC];exact zcD bo.o Mcu
    have Hs:Hid (er=0->RepAt w.heap.size TB W6 laws ds LA (some ⟨gb,go,none⟩) nc mc s' told (.slice D0 e0 f0) (.slice D1 e1 f1) (.slice D2 e2 f2) (.slice D3 e3 f3) (.slice D4 e4 f4) (.slice D5 e5 f5) (.slice D6 e6 f6) b0 b1 b2 b3 b4 b5 b6):=zHi fun h0=>by
     rw[fC];exact g9.o.setS BM.o (aK.o h0)
    rw[<-fC];have bW:=zHi xd;obtain⟨⟨B0,k0,p0,rfl⟩,⟨B1,k1,p1,rfl⟩,⟨B2,k2,p2,rfl⟩,⟨B3,k3,p3,rfl⟩,⟨B4,k4,p4,rfl⟩,⟨B5,k5,p5,rfl⟩,⟨B6,k6,p6,rfl⟩⟩:=zct (g9.o.sl2);clear x0 x1 s0 s1 s2 s3 s4 s5 s6 t0 t1 t2 t3 t4 t5 t6 r0 r1 r2 r3 r4 r5 r6 sf tf rf lx ls lt' lr;clear fC dD xd sw;by_cases l7:er=0
    ·subst l7;have HA:=zHi (Hs.o rfl);have hx:=av.o;rw[if_neg Mcx]at hx;have dA:=Be.o rfl;obtain⟨x0,x1⟩:=zby (HA.o).box;obtain⟨s0,s1,s2,s3,s4,s5,s6⟩:=zaH (HA.o).st;obtain⟨t0,t1,t2,t3,t4,t5,t6⟩:=zaH (HA.o).tcell;obtain⟨r0,r1,r2,r3,r4,r5,r6⟩:=zaH (HA.o).res;have sf:=frz (HA.o).st;have tf:=frz (HA.o).tcell;have rf:=frz (HA.o).res;have lx:=zab (HA.o).box;have ls:=zab (HA.o).st;have lt':=zab (HA.o).tcell;have lr:=zab (HA.o).res;by_cases hdu:x.day<=upto
     ·rw[if_pos (by simpa using hdu)]at hx;obtain⟨eQ,qD⟩:=yH2 hx dA;clear hx dA;go_wp2_with fail
      go_round
      case rel=>exact⟨k+1,s',s',x.day,_,_,_,_,_,_,_,_,_,_,_,_,_,_,am.o,by go_num,zHi HA.o.setT,qD,eQ,zcD bW.o (by have:=HA.o.tb;omega)⟩
      case measure=>have:=am.o;simp only[intOf];omega
     ·rw[if_neg (by simpa using hdu)]at hx;obtain⟨eQ,qD⟩:=yH2 hx dA;clear hx dA;go_wp2_with fail
      go_round
      case rel=>exact⟨k+1,s',told,x.day,_,_,_,_,_,_,_,_,_,_,_,_,_,_,am.o,by go_num,HA,qD,eQ,bW.o⟩
      case measure=>have:=am.o;simp only[intOf];omega
    ·have xm:(er != 0)=true:=by simpa using l7
     have HE:Hid (R=(told,k,er)):=by show _=_;rw[av.o,if_pos xm]
     have gU:=zHi l7;clear l7 i1;obtain⟨t0,t1,t2,t3,t4,t5,t6⟩:=zaH kS.o;obtain⟨r0,r1,r2,r3,r4,r5,r6⟩:=zaH py.o;have rf:=frz py.o;have lr:=zab py.o;go_wp2_with fail
     refine bodyPost_ret (zeS rfl _ rfl rfl rfl (zc2 py.o)) rfl ?_;rw[HE.o];exact⟨_,_,_,_,_,_,_,rfl,by first|rfl|exact⟨rfl,rfl,rfl,rfl,rfl,rfl,rfl⟩,zcD bW.o (show w.heap.size<=w.heap.size+1 by omega),fun h=>absurd h gU.o⟩
  ·have ar:¬(k:Int)<(ds.length:Int):=Mcu;have oM:k=ds.length:=Mcu;have HE:Hid (R=(told,ds.length,0)):=by show _=_;rw[HX.o,List.drop_of_length_le Mcu,zaY,oM]
   clear ae oM;obtain⟨⟨B0,k0,p0,rfl⟩,⟨B1,k1,p1,rfl⟩,⟨B2,k2,p2,rfl⟩,⟨B3,k3,p3,rfl⟩,⟨B4,k4,p4,rfl⟩,⟨B5,k5,p5,rfl⟩,⟨B6,k6,p6,rfl⟩⟩:=zct (HA.o.sl2);obtain⟨x0,x1⟩:=zby (HA.o).box;obtain⟨s0,s1,s2,s3,s4,s5,s6⟩:=zaH (HA.o).st;obtain⟨t0,t1,t2,t3,t4,t5,t6⟩:=zaH (HA.o).tcell;obtain⟨r0,r1,r2,r3,r4,r5,r6⟩:=zaH (HA.o).res;have sf:=frz (HA.o).st;have tf:=frz (HA.o).tcell;have rf:=frz (HA.o).res;have lx:=zab (HA.o).box;have ls:=zab (HA.o).st;have lt':=zab (HA.o).tcell;have lr:=zab (HA.o).res;go_upto_region 16 with fail
   have aA:=zHi (fun(W:World) (h:Below WR.heap.size WR W)=>(show W.cell? ⟨w.heap.size,1,none⟩=some (.slice DA ds.length mc)/\W.cell? ⟨TB,0,none⟩=some (.slice B0 k0 p0)/\W.cell? ⟨TB,1,none⟩=some (.slice B1 k1 p1)/\W.cell? ⟨TB,2,none⟩=some (.slice B2 k2 p2)/\W.cell? ⟨TB,3,none⟩=some (.slice B3 k3 p3)/\W.cell? ⟨TB,4,none⟩=some (.slice B4 k4 p4)/\W.cell? ⟨TB,5,none⟩=some (.slice B5 k5 p5)/\W.cell? ⟨TB,6,none⟩=some (.slice B6 k6 p6) from⟨(zah h lx).trans x1,(zah h lt').trans t0,(zah h lt').trans t1,(zah h lt').trans t2,(zah h lt').trans t3,(zah h lt').trans t4,(zah h lt').trans t5,(zah h lt').trans t6⟩))
   have Is:Hid (∀a0 a1 a2 a3 a4 a5 a6:Value,((((((((WR.setCell ⟨w.heap.size+1,0,none⟩ a0).setCell ⟨w.heap.size+1,1,none⟩ a1).setCell ⟨w.heap.size+1,2,none⟩ a2).setCell ⟨w.heap.size+1,3,none⟩ a3).setCell ⟨w.heap.size+1,4,none⟩ a4).setCell ⟨w.heap.size+1,5,none⟩ a5).setCell ⟨w.heap.size+1,6,none⟩ a6).drew).cell? ⟨w.heap.size,1,none⟩=some (.slice DA ds.length mc)/\((((((((WR.setCell ⟨w.heap.size+1,0,none⟩ a0).setCell ⟨w.heap.size+1,1,none⟩ a1).setCell ⟨w.heap.size+1,2,none⟩ a2).setCell ⟨w.heap.size+1,3,none⟩ a3).setCell ⟨w.heap.size+1,4,none⟩ a4).setCell ⟨w.heap.size+1,5,none⟩ a5).setCell ⟨w.heap.size+1,6,none⟩ a6).drew).cell? ⟨TB,0,none⟩=some (.slice B0 k0 p0)/\((((((((WR.setCell ⟨w.heap.size+1,0,none⟩ a0).setCell ⟨w.heap.size+1,1,none⟩ a1).setCell ⟨w.heap.size+1,2,none⟩ a2).setCell ⟨w.heap.size+1,3,none⟩ a3).setCell ⟨w.heap.size+1,4,none⟩ a4).setCell ⟨w.heap.size+1,5,none⟩ a5).setCell ⟨w.heap.size+1,6,none⟩ a6).drew).cell? ⟨TB,1,none⟩=some (.slice B1 k1 p1)/\((((((((WR.setCell ⟨w.heap.size+1,0,none⟩ a0).setCell ⟨w.heap.size+1,1,none⟩ a1).setCell ⟨w.heap.size+1,2,none⟩ a2).setCell ⟨w.heap.size+1,3,none⟩ a3).setCell ⟨w.heap.size+1,4,none⟩ a4).setCell ⟨w.heap.size+1,5,none⟩ a5).setCell ⟨w.heap.size+1,6,none⟩ a6).drew).cell? ⟨TB,2,none⟩=some (.slice B2 k2 p2)/\((((((((WR.setCell ⟨w.heap.size+1,0,none⟩ a0).setCell ⟨w.heap.size+1,1,none⟩ a1).setCell ⟨w.heap.size+1,2,none⟩ a2).setCell ⟨w.heap.size+1,3,none⟩ a3).setCell ⟨w.heap.size+1,4,none⟩ a4).setCell ⟨w.heap.size+1,5,none⟩ a5).setCell ⟨w.heap.size+1,6,none⟩ a6).drew).cell? ⟨TB,3,none⟩=some (.slice B3 k3 p3)/\((((((((WR.setCell ⟨w.heap.size+1,0,none⟩ a0).setCell ⟨w.heap.size+1,1,none⟩ a1).setCell ⟨w.heap.size+1,2,none⟩ a2).setCell ⟨w.heap.size+1,3,none⟩ a3).setCell ⟨w.heap.size+1,4,none⟩ a4).setCell ⟨w.heap.size+1,5,none⟩ a5).setCell ⟨w.heap.size+1,6,none⟩ a6).drew).cell? ⟨TB,4,none⟩=some (.slice B4 k4 p4)/\((((((((WR.setCell ⟨w.heap.size+1,0,none⟩ a0).setCell ⟨w.heap.size+1,1,none⟩ a1).setCell ⟨w.heap.size+1,2,none⟩ a2).setCell ⟨w.heap.size+1,3,none⟩ a3).setCell ⟨w.heap.size+1,4,none⟩ a4).setCell ⟨w.heap.size+1,5,none⟩ a5).setCell ⟨w.heap.size+1,6,none⟩ a6).drew).cell? ⟨TB,5,none⟩=some (.slice B5 k5 p5)/\((((((((WR.setCell ⟨w.heap.size+1,0,none⟩ a0).setCell ⟨w.heap.size+1,1,none⟩ a1).setCell ⟨w.heap.size+1,2,none⟩ a2).setCell ⟨w.heap.size+1,3,none⟩ a3).setCell ⟨w.heap.size+1,4,none⟩ a4).setCell ⟨w.heap.size+1,5,none⟩ a5).setCell ⟨w.heap.size+1,6,none⟩ a6).drew).cell? ⟨TB,6,none⟩=some (.slice B6 k6 p6)):=zHi (fun a0 a1 a2 a3 a4 a5 a6=>by
    obtain⟨y0,y1,y2,y3,y4,y5,y6,y7⟩:=aA.o WR (Below.refl _ _);have ho:=zc6 (a0:=a0) (a1:=a1) (a2:=a2) (a3:=a3) (a4:=a4) (a5:=a5) (a6:=a6) HA.o.res rfl;have H8:=HA.o.tb;have n0:w.heap.size≠w.heap.size+1:=Mcu;have nT:TB≠w.heap.size+1:=Mcu;simp only[World.cell?_drew]
    exact⟨(ho.cell n0).trans y0,(ho.cell nT).trans y1,(ho.cell nT).trans y2,(ho.cell nT).trans y3,(ho.cell nT).trans y4,(ho.cell nT).trans y5,(ho.cell nT).trans y6,(ho.cell nT).trans y7⟩)
   have zV:Hid (∀a0 a1 a2 a3 a4 a5 a6:Value,((((((((WR.setCell ⟨w.heap.size+1,0,none⟩ a0).setCell ⟨w.heap.size+1,1,none⟩ a1).setCell ⟨w.heap.size+1,2,none⟩ a2).setCell ⟨w.heap.size+1,3,none⟩ a3).setCell ⟨w.heap.size+1,4,none⟩ a4).setCell ⟨w.heap.size+1,5,none⟩ a5).setCell ⟨w.heap.size+1,6,none⟩ a6).drew).heap[w.heap.size+1]?=some (.cells #[a0,a1,a2,a3,a4,a5,a6] 44)):=zHi (fun a0 a1 a2 a3 a4 a5 a6=>(drew_heap _ _).trans (zc2 (a:=a0) (b:=a1) (c:=a2) (d:=a3) (e:=a4) (f:=a5) (h':=a6) HA.o.res));have BQ:=zHi (fun a0 a1 a2 a3 a4 a5 a6=>(zc6 (a0:=a0) (a1:=a1) (a2:=a2) (a3:=a3) (a4:=a4) (a5:=a5) (a6:=a6) HA.o.res rfl).st HA.o.tAt);refine za7 5 (fun bb w'=>bb=true\/(w'.cell? ⟨w.heap.size,1,none⟩=some (.slice DA ds.length mc)/\w'.cell? ⟨TB,0,none⟩=some (.slice B0 k0 p0)/\w'.cell? ⟨TB,1,none⟩=some (.slice B1 k1 p1)/\w'.cell? ⟨TB,2,none⟩=some (.slice B2 k2 p2)/\w'.cell? ⟨TB,3,none⟩=some (.slice B3 k3 p3)/\w'.cell? ⟨TB,4,none⟩=some (.slice B4 k4 p4)/\w'.cell? ⟨TB,5,none⟩=some (.slice B5 k5 p5)/\w'.cell? ⟨TB,6,none⟩=some (.slice B6 k6 p6))) Mcv (.inr (aA.o _ (zaE (Below.refl _ _)))) ?hrest
   case hrest=>
    intro hHeld;clear x0 x1 s0 s1 s2 s3 s4 s5 s6 t0 t1 t2 t3 t4 t5 t6 r0 r1 r2 r3 r4 r5 r6 sf tf rf lx ls lt' lr;refine TkM 0 ?_;refine TkM 1 ?_;refine TkM 2 ?_;refine TkM 3 ?_;obtain⟨x0,x1⟩:=zby (HA.o).box;obtain⟨s0,s1,s2,s3,s4,s5,s6⟩:=zaH (HA.o).st;obtain⟨t0,t1,t2,t3,t4,t5,t6⟩:=zaH (HA.o).tcell;obtain⟨r0,r1,r2,r3,r4,r5,r6⟩:=zaH (HA.o).res;have sf:=frz (HA.o).st;have tf:=frz (HA.o).tcell;have rf:=frz (HA.o).res;have lx:=zab (HA.o).box;have ls:=zab (HA.o).st;have lt':=zab (HA.o).tcell;have lr:=zab (HA.o).res;refine OnM 4 false fun K hK=>?_
    go_simp
    refine NxM hK (fun hHeld=>?_) (.inr (Is.o _ _ _ _ _ _ _));clear hK K;refine OnM 5 true fun K hK=>?_
    go_simp
    refine NxM hK fun hHeld=>?_
    clear hK K;refine OnM 6 true fun K hK=>?_
    go_simp
    refine NxM hK fun hHeld=>?_
    clear hK K;refine zaG Mcv ?_ _;clear hHeld;go_wp2_with fail
    refine bodyPost_ret (zeS rfl _ rfl rfl rfl (zV.o _ _ _ _ _ _ _)) rfl ?_;rw[HE.o];exact⟨_,_,_,_,_,_,_,rfl,by first|rfl|exact⟨rfl,rfl,rfl,rfl,rfl,rfl,rfl⟩,zaE (zcD HB.o (show w.heap.size<=w.heap.size+1 by omega)),fun _=>(BQ.o _ _ _ _ _ _ _).keep (zaE (Below.refl _ _))⟩
structure Told (k:Nat) (s:St):Prop where
 good:∃b,GoodSt s b
 few:FewS k s
 wills:s.wills.length<=k
theorem Told.up{k:Nat}{s:St}(h:Told k s):Told (k+1) s:=⟨h.good,h.few.up,by have:=h.wills;omega⟩
theorem told_go{laws:List Law}{upto:Int}(bp:zaC laws=0):∀ {ds:List Deed} {s told:St} {k:Nat} {last:Int},GoodSt s last->FewS k s->s.wills.length<=k->Told k told->(zaY laws upto ds s told k last).2.2=0->Told (k+ds.length) (zaY laws upto ds s told k last).1
 | [],s,told,k,last,_,_,_,ht,_=>ht
 |d::l,s,told,k,last,hg,hf,hw,ht,h=>by
  rw[zaY]at h⊢;split at h
  ·exact MaJ
  ·rename_i hc
   rw[if_neg hc];have hn:=zdL (show(zci laws s k last d).2=0 by simpa using hc);have hd:=zeA hn.1;have iS:zbr laws s d=((zci laws s k last d).1,0):=by rw[<-hn.2.2.2];exact Prod.ext rfl MdY
   have g:=zf2 hg hd hn.2.2.1 bp iS;have f:=zkI hf hn.2.1 hg hd hn.2.2.1 bp iS;have e:=zkg iS
   have:=told_go (ds:=l) (told:=if decide (d.day<=upto)then(zci laws s k last d).1 else told) bp g f Mcu (by
    split
    ·exact⟨⟨_,g⟩,f,by omega⟩
    ·exact ht.up) h
   rw[List.length_cons,show k+(l.length+1)=k+1+l.length by omega];exact this
theorem zn2{laws:List Law}{ds:List Deed}{u:Int}(h:(zaQ laws ds u).2.2=0):zaC laws=0:=by
 unfold zaQ at h;split at h
 ·rename_i h1
  exact absurd h Mc1
 ·rename_i h1
  simpa using h1
theorem zn3{laws:List Law}{ds:List Deed}{u:Int}(h:(zaQ laws ds u).2.2=0):Told ds.length (zaQ laws ds u).1:=by
 have bp:=zn2 h;unfold zaQ at h⊢;rw[if_neg (by simp[bp])]at h⊢;have:=told_go bp (zeu 0) zg8 (Nat.le_refl _) ⟨⟨_,zeu 0⟩,zg8,Nat.le_refl _⟩ h;rwa [Nat.zero_add]at this
theorem zp8(laws:List Law)(ds:List Deed)(u u':Int):(zaQ laws ds u).2=(zaQ laws ds u').2:=by
 unfold zaQ;split
 ·rfl
 ·exact zhj laws u u' ds _ _ _ _ _
theorem zkh(laws:List Law)(ds:List Deed)(names:List ByteArray)(day:Int)(LA:Option Addr)(n nc:Nat)(DA:Option Addr)(m mc:Nat)(NA:Option Addr)(l c:Nat)(w:World)(hR:RightsIn w laws ds LA n nc DA m mc)(hO:∀d∈ds,zdB d)(bx:ds.length<=500)(hl:l=names.length)(oR:names.length<=1000)(hN:∀s∈names,s.size<=100000)(hS:Sl w 1 sC NA names):
 Calls Tryz.prog 9 #[.agg #[.slice LA n nc,.slice DA m mc],.slice NA l c,.int .i64 day] w (Ret w (.int .i64 (zcs laws ds names day))):=by
 subst hl;obtain⟨lV,HS,HN⟩:=yH3 (fun W (hB:Below w.heap.size w W)=>zjk laws ds 200000 LA n nc DA m mc W (hR.keep hB) hO bx) (fun W (hB:Below w.heap.size w W)=>(hS.keep hB:Sl W 1 sC NA names)) hN;obtain⟨R,ub⟩:∃R,R=zcs laws ds names day:=⟨_,rfl⟩
 rw[<-ub];unfold zcs at ub;rw[zeh]at ub;unfold zkY at lV;generalize zaQ laws ds 200000=Q at*;obtain⟨st,rk,re⟩:=Q;simp only at ub lV;have qR:=zHi ub;clear ub hR hO hS hN;go_enter Tryz.func9,Tryz.ntmps9
 go_upto_region 1 with fail
 obtain⟨W0,ak⟩:∃W0,W0=w.alloc (.cells #[.slice LA n nc,.slice DA m mc] 25):=⟨_,rfl⟩
 obtain⟨b0,aE⟩:=boxed ak.symm;rw[<-ak];have aj:=zHi aE;obtain⟨x0,x1⟩:=zby b0;have lx:=zab b0;have au:=aE.size;clear ak aE b0
 go_upto_region 2 with(go_at_call 29
                       go_must(refine(lV.o _ aj.o).mono ?_)
                       rintro e w2 ⟨a0,a1,a2,a3,a4,a5,a6,rfl,aQ,bs,_⟩;obtain⟨⟨A0,m0,q0,rfl⟩,⟨A1,m1,q1,rfl⟩,⟨A2,m2,q2,rfl⟩,⟨A3,m3,q3,rfl⟩,⟨A4,m4,q4,rfl⟩,⟨A5,m5,q5,rfl⟩,⟨A6,m6,q6,rfl⟩⟩:=zct aQ;have aD:=zHi (aj.o.trans (bs.mono au))
                       clear bs aQ)
 obtain⟨W3,be⟩:∃W3,W3=w2.alloc (.cells #[.slice A0 m0 q0,.slice A1 m1 q1,.slice A2 m2 q2,.slice A3 m3 q3,.slice A4 m4 q4,.slice A5 m5 q5,.slice A6 m6 q6] 44):=⟨_,rfl⟩
 have ay:Below w.heap.size w W3:=by rw[be];exact zac aD.o _ (by have:=aD.o.size;omega)
 rw[<-be];have aH:=zHi ay;clear be ay x0 x1 lx;by_cases hre:re=0;rotate_left 1
 ·have kZ:(re != 0)=true:=by simpa using hre
  have HE:Hid (R=re):=by show _=_;rw[qR.o,if_pos kZ]
  clear hre;go_wp2_with fail
  go_ret
  exact Ret.of (zbB HE.o.symm) aH.o
 subst hre;have BX:Hid (R=if(names.drop 0).any (fun s=>!zaT s)then 4 else if !zbl day then 2 else 0):=by show _=_;rw[qR.o,if_neg Mcx];rfl
 clear qR;go_upto_region 5 with fail
 go_loopw [10] (fun i wr=>∃k:Nat,k<=names.length/\i=.int .i64 k/\W3=wr/\Hid (R=if(names.drop k).any (fun s=>!zaT s)then 4 else if !zbl day then 2 else 0)) (fun i _=>names.length-(intOf i).toNat)
 case atStart=>exact⟨0,Nat.zero_le _,rfl,rfl,BX⟩
 case round=>
  obtain⟨k,hk,rfl,rfl,HX⟩:=hrel;by_cases ae:k<names.length
  ·obtain⟨b,off,hA,hb,ah⟩:=(HS.o W3 aH.o).at ae;have hx:=HX.o;rw[List.drop_eq_getElem_cons ae,List.any_cons]at hx;have hsz:=HN.o _ (List.getElem_mem ae);obtain⟨av,am⟩:=yH2 hx ae;generalize names[k]=x at*;have i0:W3.cell? ⟨b,off+k,none⟩=some (.string x):=McW;have ar:(k:Int)<(names.length:Int):=Mcu;have aT:(0:Int)<=(k:Int):=Mcu;subst hA;clear ah hx ae;cases hp3:zaT x
   ·have mT:zcE x=false:=Mel;have HE:Hid (R=4):=by show _=_;rw[av.o];simp[hp3]
    go_wp2_with (go_at_call 30;go_must(refine(zcR _ _ Mc6).mono ?_);rintro e wq ⟨rfl,rfl⟩;rw[mT])
    go_ret
    exact Ret.of (zbB HE.o.symm) aH.o
   ·have mT:zcE x=true:=Mel;have HE:Hid (R=if(names.drop (k+1)).any (fun s=>!zaT s)then 4 else if !zbl day then 2 else 0):=by show _=_;rw[av.o,hp3];rfl
    go_wp2_with (go_at_call 30;go_must(refine(zcR _ _ Mc6).mono ?_);rintro e wq ⟨rfl,rfl⟩;rw[mT])
    go_round
    case rel=>exact⟨k+1,am.o,by go_num,by first|exact True.intro|rfl,HE⟩
    case measure=>have:=am.o;simp only[intOf];omega
  ·have ar:¬(k:Int)<(names.length:Int):=Mcu;have hx:=HX.o;rw[List.drop_of_length_le Mcu]at hx;cases hd:zbl day
   ·have HE:Hid (R=2):=by show _=_;rw[hx,hd];rfl
    exact MaN
   ·have HE:Hid (R=0):=by show _=_;rw[hx,hd];rfl
    exact MaN
def zn4(w:World)(laws:List Law)(R:St×Nat×Int)(e:Ending)(w':World):Prop:=
 ∃a0 a1 a2 a3 a4 a5 a6,e=.returned (.agg #[a0,a1,a2,a3,a4,a5,a6])/\([a0,a1,a2,a3,a4,a5,a6].all zcH)=true/\Below w.heap.size w w'/\(R.2.2=0->StAt w' laws R.1 a0 a1 a2 a3 a4 a5 a6)
theorem rOn_any(laws:List Law)(ds:List Deed)(day:Int)(LA:Option Addr)(n nc:Nat)(DA:Option Addr)(m mc:Nat)(w:World)(hR:RightsIn w laws ds LA n nc DA m mc)(hO:∀d∈ds,zdB d)(bx:ds.length<=500):
 Calls Tryz.prog 11 #[.agg #[.slice LA n nc,.slice DA m mc],.int .i64 day] w (zn4 w laws (zaQ laws ds day)):=by
 have lV:=zHi (fun W (hB:Below w.heap.size w W)=>zjk laws ds day LA n nc DA m mc W (hR.keep hB) hO bx);unfold zkY at lV;unfold zn4;generalize zaQ laws ds day=Q at*;clear hR hO;go_enter Tryz.func11,Tryz.ntmps11
 go_upto_region 1 with fail
 obtain⟨W0,ak⟩:∃W0,W0=(w.alloc (.cells #[.slice LA n nc,.slice DA m mc] 25)).alloc (.cells #[.slice none 0 0,.slice none 0 0,.slice none 0 0,.slice none 0 0,.slice none 0 0,.slice none 0 0,.slice none 0 0] 44):=⟨_,rfl⟩
 have b0:W0.heap[w.heap.size]?=some (.cells #[.slice LA n nc,.slice DA m mc] 25):=Mdr;have b1:W0.heap[w.heap.size+1]?=some (.cells #[.slice none 0 0,.slice none 0 0,.slice none 0 0,.slice none 0 0,.slice none 0 0,.slice none 0 0,.slice none 0 0] 44):=by rw[ak];exact zaq _ _ _ Mcx
 have aE:Below w.heap.size w W0:=Mc5;rw[<-ak];obtain⟨aj,B1⟩:=yH2 aE b1;obtain⟨x0,x1⟩:=zby b0;have lx:=zab b0;have lr:=zab b1;have au:=aE.size;clear ak aE b0 b1
 go_upto_region 2 with(go_at_call 29
                       go_must(refine(lV.o _ aj.o).mono ?_)
                       rintro e w2 ⟨a0,a1,a2,a3,a4,a5,a6,rfl,aQ,bs,ao⟩;have og:=zHi aQ;obtain⟨⟨A0,m0,q0,rfl⟩,⟨A1,m1,q1,rfl⟩,⟨A2,m2,q2,rfl⟩,⟨A3,m3,q3,rfl⟩,⟨A4,m4,q4,rfl⟩,⟨A5,m5,q5,rfl⟩,⟨A6,m6,q6,rfl⟩⟩:=zct aQ;have r2:=(bs.block _ lr).trans B1.o;obtain⟨aD,aK⟩:=yH2 (aj.o.trans (bs.mono au)) ao
                       clear bs aQ ao)
 obtain⟨YB,rP⟩:∃YB,YB=w2.heap.size:=⟨_,rfl⟩
 obtain⟨W3,be⟩:∃W3,W3=w2.alloc (.cells #[.slice A0 m0 q0,.slice A1 m1 q1,.slice A2 m2 q2,.slice A3 m3 q3,.slice A4 m4 q4,.slice A5 m5 q5,.slice A6 m6 q6] 44):=⟨_,rfl⟩
 have ay:Below w2.heap.size w2 W3:=by rw[be];exact zac (Below.refl _ _) _
 have gY:W3.heap[YB]?=some (.cells #[.slice A0 m0 q0,.slice A1 m1 q1,.slice A2 m2 q2,.slice A3 m3 q3,.slice A4 m4 q4,.slice A5 m5 q5,.slice A6 m6 q6] 44):=by rw[be,rP];exact zaq _ _ _ rfl
 have r3:=(ay.block _ (zab r2)).trans r2;obtain⟨aH,bB⟩:=yH2 (aD.o.trans (ay.mono aD.o.size)) (fun h0=>(aK.o h0).keep ay);rw[<-be,<-rP];clear be rP ay x0 x1 lx lr r2;obtain⟨s0,s1,s2,s3,s4,s5,s6⟩:=zaH gY;obtain⟨r0,r1,r2,r3',r4,r5,r6⟩:=zaH r3;have rf:=frz r3;have ls:=zab gY;have lr:=zab r3;go_wp2_with fail
 refine bodyPost_ret (zke rfl _ rfl (zc2 r3)) rfl ?_;exact⟨_,_,_,_,_,_,_,rfl,og.o,zcD aH.o (show w.heap.size<=w.heap.size+1 by omega),fun h0=>(zc6 r3 rfl).st (bB.o h0)⟩
theorem Told.stFew{k:Nat}{s:St}{wd rd:List Deed}(h:Told k s)(hk:k<=1000)(hL:StLink s wd rd):StFew s wd rd:=zop h.few h.wills hk hL
def zho(w:World)(xs:Parts)(e:Ending)(w':World):Prop:= ∃A c,e=.returned (.slice A xs.length c)/\Sl w' 3 zaa A xs/\Below w.heap.size w w'
theorem zoq(laws:List Law)(s:St)(k:Nat)(place:ByteArray)(day:Int)(w:World){a0 a1 a2 a3 a4 a5 a6:Value}(h:StAt w laws s a0 a1 a2 a3 a4 a5 a6)(hT:Told k s)(hk:k<=1000):
 Calls Tryz.prog 14 #[.agg #[a0,a1,a2,a3,a4,a5,a6],.string place,.int .i64 day] w (zho w (zb3 s place day)):=by
 obtain⟨wd,rd,LA,CA,MA,DA,WA,RA,GA,c0,c1,c2,c3,c4,c5,c6,rfl,rfl,rfl,rfl,rfl,rfl,rfl,hI,hL⟩:=h;have hf:=hT.stFew hk hL;have HG:=zHi (fun W (hB:Below w.heap.size w W)=>zkb place day W (hI.keep hB) hf);obtain⟨gxs,hm,bv,bn⟩:=znz hI.graves;obtain⟨HM,dr,bL⟩:=yH3 hm (fun W (hB:Below w.heap.size w W) x hx=>(bv x hx).keep hB) (fun W (hB:Below w.heap.size w W)=>(bn.keep hB:Sl W 5 GX.cells GA gxs));unfold zho;obtain⟨R,hR⟩:∃R,R=zb3 s place day:=⟨_,rfl⟩
 rw[<-hR];unfold zb3 at hR;have HR:=zHi hR;clear hI hL hT hf hm bv bn hR;go_enter Tryz.func14,Tryz.ntmps14
 go_upto_region 1 with fail
 obtain⟨W0,ak⟩:∃W0,W0=w.alloc (.cells #[.slice LA laws.length c0,.slice CA s.children.length c1,.slice MA s.marriages.length c2,.slice DA s.dead.length c3,.slice WA wd.length c4,.slice RA rd.length c5,.slice GA s.graves.length c6] 44):=⟨_,rfl⟩
 obtain⟨b0,aE⟩:=boxed ak.symm;rw[<-ak];obtain⟨aj,B0⟩:=yH2 aE b0;have au:=aE.size;obtain⟨s0,s1,s2,s3,s4,s5,s6⟩:=zaH b0;have ls:=zab b0;clear ak aE b0;cases aG:zaL s place day with
 |none=>
  rw[zgJ aG]at HG;have HE:Hid (R=[]):=by show _=_;rw[HR.o,aG]
  clear HR aG;go_wp2_with (go_at_call 35;go_must(refine(HG.o _ aj.o).mono ?_);rintro e wq ⟨rfl,z,rfl⟩)
  go_ret
  rw[HE.o];exact⟨none,0,rfl,Sl.nil,aj.o.trans ((zao W0 z).mono au)⟩
 |some i=>
  rw[zeb aG]at HG;obtain⟨g,bz,cj,uk⟩:=zh1 aG;obtain⟨hi,jO⟩:=gx_at HM.o bz;have hE:R=g.holders:=by rw[HR.o,aG];show(s.graves.getD i zfa).holders=_;rw[cj]
  have HE:=zHi hE;have eF:(i:Int)<(s.graves.length:Int):=by rw[<-HM.o,List.length_map];omega
  have eX:(0:Int)<=(i:Int):=Mcu;have aJ:¬(i:Int)<0:=Mcu;have ib:=dr.o _ aj.o _ (List.getElem_mem hi);obtain⟨gb,gof,j8,dj,ah⟩:=(bL.o _ aj.o).at hi;generalize gxs[i]=x at*;subst jO;subst j8;have i3:W0.cell? ⟨gb,gof+i*5+3,none⟩=some (.slice x.H x.g.holders.length x.hc):=ah 3 _ rfl;have HX:=zHi ib.1;clear ah ib HR aG bz cj uk hE;go_wp2_with (go_at_call 35;go_must(refine(HG.o _ aj.o).mono ?_);rintro e wq ⟨rfl,z,rfl⟩)
  go_ret
  rw[HE.o];exact⟨x.H,x.hc,rfl,HX.o.keep (zao W0 z),aj.o.trans ((zao W0 z).mono au)⟩
section
variable {laws:List Law} {s:St} {k:Nat} {w:World} {a0 a1 a2 a3 a4 a5 a6:Value}
end
theorem on_told{laws:List Law}{ds:List Deed}{names:List ByteArray}{day:Int}(h:zcs laws ds names day=0):(zaQ laws ds day).2.2=0/\Told ds.length (zaQ laws ds day).1:=by
 have h1:=(on_stop h).1;rw[zeh,zp8 laws ds 200000 day]at h1;exact⟨h1,zn3 h1⟩
theorem Told.holders{k:Nat}{s:St}(h:Told k s)(pl:ByteArray)(dy:Int):(zb3 s pl dy).length<=80*k:=by
 unfold zb3;cases hg:zaL s pl dy with
 |none=>simp
 |some i=>
  obtain⟨g,_,h2,h3⟩:=zh1 hg;simp only[h2];exact(h.few.held g h3).1
theorem texts_any(xs:List ByteArray)(P Q:Option Addr)(pc qc:Nat)(w:World)(hp:Sl w 1 sC P xs)(hq:Sl w 1 sC Q xs)(hl:xs.length<=100000):
 Calls Tryz.prog 10 #[.slice P xs.length pc,.slice Q xs.length qc] w (Ret w (.bool true)):=by
 go_enter Tryz.func10,Tryz.ntmps10
 go_wp2_with fail
 go_loopw [5] (fun i wr=>∃j:Nat,j<=xs.length/\i=.int .i64 j/\∃z,wr=w.ext z) (fun i _=>xs.length-(intOf i).toNat)
 case atStart=>exact⟨0,Nat.zero_le _,rfl,zaZ (Below.refl _ _)⟩
 case round=>
  obtain⟨j,hj,rfl,z,rfl⟩:=hrel;by_cases ae:j<xs.length
  ·obtain⟨b,off,rfl,hb,hc⟩:=hp.at ae;obtain⟨b',off',rfl,cK,aM⟩:=hq.at ae;have bu:(j:Int)<(xs.length:Int):=Mcu;have pT:(0:Int)<=(j:Int):=Mcu;generalize xs[j]=x at*;have x0:w.cell? ⟨b,off+j,none⟩=some (.string x):=Mdo;have y0:w.cell? ⟨b',off'+j,none⟩=some (.string x):=by have:=aM 0 _ rfl;simpa using this
   exact MG
  ·exact Mcj
def zca(s:St)(nm:ByteArray)(day:Int)(gs:List Grave):List ByteArray:=(gs.filter fun g=>decide (0<(zaf (zb3 s g.place day) nm).num)).map (·.place)
theorem ref_snoc(s:St)(nm:ByteArray)(day:Int)(gs:List Grave){k:Nat}(h:k<gs.length):zca s nm day (gs.take (k+1))=zca s nm day (gs.take k)++if 0<(zaf (zb3 s gs[k].place day) nm).num then[gs[k].place]else[]:=by
 unfold zca;rw[List.take_succ_eq_append_getElem h,List.filter_append,List.map_append];by_cases hq:0<(zaf (zb3 s gs[k].place day) nm).num<;>simp[hq]
theorem good_on{laws:List Law}{ds:List Deed}{names:List ByteArray}{day:Int}(h:zcs laws ds names day=0):∃last,last<=day/\GoodSt (zaQ laws ds day).1 last:=by
 have bp:=on_laws h;obtain⟨h1,h2⟩:=on_stop h;have h0:0<=day:=by
  unfold zbl inR at h2;simp at h2;omega
 obtain⟨b,hb,hg⟩:=zlu (laws:=laws) (upto:=day) bp (ds:=ds) (s:=zb4) (k:=0) (last:=0) (zeu 0) h0;refine⟨b,hb,?_⟩;rw[<-(zjU h1 day).1];unfold zdZ;rw[if_neg (by simp[bp])];exact hg
theorem held_at{s:St}{last day:Int}(hG:GoodSt s last)(hl:last<=day){g:Grave}(hg:g∈s.graves)(hf:zaR g day=true):zb3 s g.place day=g.holders:=by
 unfold zb3;cases hx:zaL s g.place day with
 |none=>
  unfold zaL at hx;rw[List.findIdx?_eq_none_iff]at hx;have:=hx g hg;rw[hf,Bool.and_true]at this;exact absurd rfl (zcl.1 this)
 |some i=>
  obtain⟨g',h1,h2,h3⟩:=zbO hx;obtain⟨j,hj,Gk⟩:=List.mem_iff_getElem.1 hg;have e:=hG.force i j g' g h1 (by rw[<-Gk];exact List.getElem?_eq_getElem hj) h2 day hl h3 hf;subst e;have:g'=g:=by
   rw[List.getElem?_eq_getElem hj,Gk]at h1;exact(Option.some.inj h1).symm
  subst this;show(s.graves.getD i zfa).holders=_;rw[List.getD_eq_getElem?_getD,h1];rfl
theorem zn5{s:St}{last day:Int}(hG:GoodSt s last)(hl:last<=day)(nm:ByteArray):(zbz nm day s.graves).Nodup:=by
 unfold zbz;rw[List.Nodup,List.pairwise_map,List.pairwise_filter,List.pairwise_iff_getElem];intro i j hi hj cP h1 h2 he;have f:∀ {g:Grave},zcf nm day g=true->zaR g day=true:=fun h=>by
  unfold zcf at h;simp only[Bool.and_eq_true]at h;exact h.1
 have:=hG.force i j s.graves[i] s.graves[j] (List.getElem?_eq_getElem hi) (List.getElem?_eq_getElem hj) he day hl (f h1) (f h2);omega
theorem names_mem{s:St}{last day:Int}(hG:GoodSt s last)(hl:last<=day)(nm p:ByteArray):p∈zbz nm day s.graves↔p∈zca s nm day s.graves:=by
 unfold zbz zca zcf;simp only[List.mem_map,List.mem_filter,Bool.and_eq_true,decide_eq_true_eq];constructor
 ·rintro⟨g,⟨h1,h2,h3⟩,rfl⟩;exact⟨g,⟨h1,by rw[held_at hG hl h1 h2];exact h3⟩,rfl⟩
 ·rintro⟨g,⟨h1,h2⟩,rfl⟩;unfold zb3 at h2;cases hx:zaL s g.place day with
  |none=>
   rw[hx]at h2;have:(zaf [] nm).num=0:=rfl;simp only at h2;omega
  |some i=>
   rw[hx]at h2;obtain⟨g',k1,k2,k3⟩:=zbO hx;have e:s.graves.getD i zfa=g':=by rw[List.getD_eq_getElem?_getD,k1];rfl
   simp only[e]at h2;exact⟨g',⟨List.mem_of_getElem? k1,k3,h2⟩,k2⟩
theorem zp9{s:St}{last day:Int}(hG:GoodSt s last)(hl:last<=day){nm:ByteArray}{ys:List ByteArray}(hp:ys.Perm (zbz nm day s.graves))(hs:ys.Pairwise fun a b=>zbb b a=false):ys=zcG (zca s nm day s.graves):=
 asc_same (zpo hs (hp.nodup_iff.2 (zn5 hG hl nm))) (ziY _) fun y=>(hp.mem_iff.trans (names_mem hG hl nm y)).trans ziX.symm
theorem tHeld{laws:List Law}{s:St}{k:Nat}{w:World}{a0 a1 a2 a3 a4 a5 a6:Value}(h:StAt w laws s a0 a1 a2 a3 a4 a5 a6)(hT:Told k s)(hk:k<=1000)(nm:ByteArray)(day:Int):
 Calls Tryz.prog 12 #[.agg #[a0,a1,a2,a3,a4,a5,a6],.string nm,.int .i64 day] w (zdj w (zcG (zca s nm day s.graves))):=by
 have HH:=zHi (fun p W (hB:Below w.heap.size w W)=>zoq laws s k p day W (h.keep hB) hT hk);have ix:=hT.few.graves;have Iv:=zHi (fun p=>hT.holders p day);obtain⟨wd,rd,LA,CA,MA,DA,WA,RA,GA,c0,c1,c2,c3,c4,c5,c6,rfl,rfl,rfl,rfl,rfl,rfl,rfl,hI,hL⟩:=h;obtain⟨gxs,hm,bv,bn⟩:=znz hI.graves;have pN:gxs.length=s.graves.length:=Md8;obtain⟨HM,bL⟩:=yH2 hm (fun W (hB:Below w.heap.size w W)=>(bn.keep hB:Sl W 5 GX.cells GA gxs));unfold zho at HH;clear hI hL hT hm bv bn;go_enter Tryz.func12,Tryz.ntmps12
 go_upto_region 1 with fail
 obtain⟨W0,ak⟩:∃W0,W0=w.alloc (.cells #[.slice LA laws.length c0,.slice CA s.children.length c1,.slice MA s.marriages.length c2,.slice DA s.dead.length c3,.slice WA wd.length c4,.slice RA rd.length c5,.slice GA s.graves.length c6] 44):=⟨_,rfl⟩
 obtain⟨b0,aE⟩:=boxed ak.symm;rw[<-ak];obtain⟨aj,B0⟩:=yH2 aE b0;have au:=aE.size;have ls:=zab b0;clear ak aE b0;go_wp2_with fail
 go_loopw [7,8] (fun v i wr=>∃(j:Nat),j<=s.graves.length/\i=.int .i64 j/\OwnS wr W0.heap.size 9 1 sC v (zca s nm day (s.graves.take j))/\Below W0.heap.size W0 wr) (fun _ i _=>s.graves.length-(intOf i).toNat)
 case atStart=>exact⟨0,Nat.zero_le _,rfl,OwnS.nil,Below.refl _ _⟩
 case round=>
  obtain⟨j,hj,rfl,aa,hB⟩:=hrel;obtain⟨VA,vc,rfl,fU,jx⟩:=aa.sl za9;have dJ:=aj.o.trans (hB.mono au);have hsz:=hB.size;obtain⟨s0,s1,s2,s3,s4,s5,s6⟩:=zaH ((hB.block _ ls).trans B0.o);have lw:=zab ((hB.block _ ls).trans B0.o);have cX:(zca s nm day (s.graves.take j)).length<=100000:=by
   unfold zca;rw[List.length_map];exact M3
  obtain⟨HO,HB,b8⟩:=yH3 aa hB dJ;by_cases ae:j<s.graves.length
  ·have bw:=ref_snoc s nm day s.graves ae;obtain⟨gb,gof,j8,dj,ah⟩:=(bL.o _ dJ).at (k:=j) Mcu;obtain⟨hi,jO⟩:=gx_at HM.o (List.getElem?_eq_getElem ae);have i0:wr.cell? ⟨gb,gof+j*5,none⟩=some (.string s.graves[j].place):=by have:=ah 0 _ rfl;rw[<-jO];simpa using this
   subst j8;have cr:(j:Int)<(s.graves.length:Int):=Mcu;have pT:(0:Int)<=(j:Int):=Mcu;generalize s.graves[j].place=p at*;obtain⟨bT,qG⟩:=yH2 bw (fun W hB=>HH.o p W hB);have fK:=Iv.o p;obtain⟨hp,xE⟩:∃hp,hp=zb3 s p day:=⟨_,rfl⟩
   rw[<-xE]at qG bT fK;obtain⟨q,hq⟩:∃q,q=zaf hp nm:=⟨_,rfl⟩
   rw[<-hq]at bT;have HQ:=zHi hq;have uj:=zhi q.num q.den;have kP:Hid (hp.length<=1000000000):=by show _<=_;omega
   generalize zca s nm day (s.graves.take j)=rn at*;clear ah hi jO bw xE aa hB dJ hq fK fU;go_upto_region 6 with fail
   clear i0 dj;by_cases hn:0<q.num
   ·have pC:Hid (zca s nm day (s.graves.take (j+1))=rn++[p]):=by show _=_;rw[bT.o,if_pos hn]
    clear bT
    go_upto_region 7 with(first
     |(go_at_call 14
       go_must(refine(qG.o _ (by have:=b8.o;exact Bw)).mono ?_)
       rintro e w2 ⟨HA,kY,rfl,aQ,bs⟩;obtain⟨og,aD⟩:=yH2 aQ bs
       clear aQ bs)
     |(go_at_call 13
       go_must(refine(zcX hp nm HA kY _ kP.o og.o).mono ?_)
       rw[<-HQ.o];unfold zaA
       rintro e w3 ⟨rfl,z,rfl⟩))
    have bD:Below wr.heap.size wr (w2.ext z):=zbg aD.o z;have eo:=zHi bD;generalize w2.ext z=w9 at*;have sW:=bD.size;clear bD s0 s1 s2 s3 s4 s5 s6;go_wp2_with (at_builtin;go_loud(refine zat (v:=.slice VA rn.length vc) (n:=rn.length) (m:=1) rfl _ _ rfl zb9 za9 zb8 rfl (HO.o.keep (n:=wr.heap.size) (by have:=eo.o;exact Bw)) rfl rfl rfl (zcC (x:=p) (zaq _ _ _ Mcx)) McP Mcu Mcz ?_);intro v3 w3 h1 h2 h3)
    go_roundw
    case rel=>
     refine⟨j+1,by omega,by go_num,by rw[pC.o];exact h1,?_⟩;exact Mbr
    case measure=>simp[intOf];omega
   ·have pC:Hid (zca s nm day (s.graves.take (j+1))=rn):=by show _=_;rw[bT.o,if_neg hn,List.append_nil]
    clear bT
    go_wp2_with (first
     |(go_at_call 14
       go_must(refine(qG.o _ (by have:=b8.o;exact Bw)).mono ?_)
       rintro e w2 ⟨HA,kY,rfl,aQ,bs⟩;obtain⟨og,aD⟩:=yH2 aQ bs
       clear aQ bs)
     |(go_at_call 13
       go_must(refine(zcX hp nm HA kY _ kP.o og.o).mono ?_)
       rw[<-HQ.o];unfold zaA
       rintro e w3 ⟨rfl,z,rfl⟩))
    go_roundw
    case rel=>
     have bD:Below wr.heap.size wr (w2.ext z):=zbg aD.o z;exact⟨j+1,by omega,by go_num,by rw[pC.o];exact HO.o.keep bD,HB.o.trans (bD.mono hsz)⟩
    case measure=>simp[intOf];omega
  ·have cr:¬(j:Int)<(s.graves.length:Int):=Mcu;rw[List.take_of_length_le (show s.graves.length<=j by omega)]at HO cX;have te:(zca s nm day (s.graves.take j)).length=(zca s nm day s.graves).length:=by rw[List.take_of_length_le (show s.graves.length<=j by omega)]
   rw[te];rw[List.take_of_length_le (show s.graves.length<=j by omega)]at fU;have kR:=zHi (fun W (h:Below wr.heap.size wr W)=>ziZ (zca s nm day s.graves) VA vc W cX (fU.keep h));clear aa hB dJ te fU;generalize zca s nm day s.graves=rn at*;go_wp2_with (go_at_call 32;go_must(refine(kR.o _ Bw).mono ?_);rintro e wq ⟨vq,rfl,oq,bq⟩)
   go_ret
   exact⟨_,rfl,oq.base_le Mcu,b8.o.trans (bq.mono Mcu)⟩
