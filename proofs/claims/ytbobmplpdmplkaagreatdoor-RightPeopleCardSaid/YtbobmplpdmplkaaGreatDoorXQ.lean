import Derived.Test.YtbobmplpdmplkaaGreatDoorXP
set_option linter.all false
set_option maxRecDepth 100000
set_option maxHeartbeats 4000000
namespace Go.Proofs.YtbobmplpdmplkaaGreatDoor
open Go.RowKit Go.Shelf
attribute [local go_sem] World.cell?_alloc_mark zaf za4 zam za7 zaw zax zay zaz za0 za1 za2
attribute [local go_sem] zan zac
theorem zpy{s:St}{n:ByteArray}{day:Int}{H:Option Parts}{k:Nat}{g:Grave}{l pre:List Grave}(h:zdr s n day k g=false):(zb0 s n day H k (g::l)).map (pre++ ·)=(zb0 s n day H (k+1) l).map ((pre++[g])++ ·):=by
 rw[zb0.eq_def];simp only[h];cases zb0 s n day H (k+1) l<;>simp
theorem zpz{s:St}{n:ByteArray}{day:Int}{hs out:Parts}{k:Nat}{g:Grave}{l pre:List Grave}(h:zdr s n day k g=true)(hg:zb6 (zag g.holders n) hs (zas g.holders n)=some out):
 (zb0 s n day (some hs) k (g::l)).map (pre++ ·)=(zb0 s n day (some hs) (k+1) l).map ((pre++[{g with holders:=out,died:=g.died++[n]}])++ ·):=by
 rw[zb0.eq_def];simp only[h,if_true,hg,Option.bind_some];cases zb0 s n day (some hs) (k+1) l<;>simp
theorem zp0{s:St}{n:ByteArray}{day:Int}{H:Option Parts}{k:Nat}{g:Grave}{l pre:List Grave}(h:zdr s n day k g=true)(hg:∀hs,H=some hs->zb6 (zag g.holders n) hs (zas g.holders n)=none):
 (zb0 s n day H k (g::l)).map (pre++ ·)=none:=by
 rw[zb0.eq_def];simp only[h,if_true];cases H with
 |none=>rfl
 |some hs=>
  simp only[hg hs rfl];rfl
def okR(gxs:List GX)(W:World)(x:GX):Prop:=x∈gxs\/(Ro W 71 zaa x.H x.g.holders/\Ro W 9 sC x.D x.g.died)
theorem okR.keep{gxs:List GX}{W W':World}{x:GX}{n:Nat}(h:okR gxs W x)(hB:Below n W W')(hn:W.heap.size<=n:=by first|exact Nat.le_refl _|omega):okR gxs W' x:=
 h.imp id fun⟨a,b⟩=>⟨a.keep hB hn,b.keep hB hn⟩
theorem okR.kept{gxs:List GX}{W W':World}{x:GX}{g:Nat}{cs:Array Value}{fr:Nat×Nat}(h:okR gxs W x)(hg:W.grownBy W' (some g))(hx:W.heap[g]?=some (.cells cs 100 fr)):okR gxs W' x:=
 h.imp id fun⟨a,b⟩=>⟨a.kept hg hx McA,b.kept hg hx McA⟩
theorem grav_ne{s:St}{pl:ByteArray}{day:Int}{k:Nat}(h:¬zaR s pl day=some k):zk7 s.graves pl day≠(k:Int):=by
 cases hx:zaR s pl day with
 |none=>rw[ziZ hx];omega
 |some i=>
  rw[zex hx];intro e;have:i=k:=by omega
  subst this;exact h hx
theorem set_mid{α:Type}(a:List α)(x y:α)(l:List α){k:Nat}(h:a.length=k):(a++x::l).set k y=a++y::l:=by
 subst h;induction a with
 |nil=>rfl
 |cons b a ih=>simp only[List.cons_append,List.length_cons,List.set_cons_succ,ih]
theorem row_two{W:World}{ga go k:Nat}{dx rest:List GX}{x:GX}{out:Parts}{n:ByteArray}{OV A5:Option Addr}{oc c5:Nat}(hk:dx.length=k)(h:RowC W 100 ga go 5 (((dx++x::rest).map GX.cells).set k (x.cells.set 3 (.slice OV out.length oc)))):
 RowC (W.setCell ⟨ga,go+k*5+4,none⟩ (.slice A5 (x.g.died.length+1) c5)) 100 ga go 5 ((dx++[(⟨{x.g with holders:=out,died:=x.g.died++[n]},OV,oc,A5,c5⟩:GX)]++rest).map GX.cells):=by
 have e1:((dx++x::rest).map GX.cells).set k (x.cells.set 3 (.slice OV out.length oc))=dx.map GX.cells++(x.cells.set 3 (.slice OV out.length oc))::rest.map GX.cells:=by
  rw[List.map_append,List.map_cons,set_mid _ _ _ _ (by rw[List.length_map];exact hk)]
 rw[e1]at h;have h2:=h.set (i:=k) (j:=4) (c:=x.cells.set 3 (.slice OV out.length oc)) (u:=.slice A5 (x.g.died.length+1) c5) (by rw[List.getElem?_append_right (by rw[List.length_map];omega),List.length_map,hk,Nat.sub_self];rfl) McA;rw[set_mid _ _ _ _ (by rw[List.length_map];exact hk)]at h2;have e2:(dx++[(⟨{x.g with holders:=out,died:=x.g.died++[n]},OV,oc,A5,c5⟩:GX)]++rest).map GX.cells=dx.map GX.cells++((x.cells.set 3 (.slice OV out.length oc)).set 4 (.slice A5 (x.g.died.length+1) c5))::rest.map GX.cells:=by
  rw[List.append_assoc,List.map_append];congr 1
  simp[GX.cells]
 rw[e2];exact h2
theorem hxd5{W:World}{ga go k:Nat}{css:List (List Value)}{x:GX}{u:Value}(h:RowC W 100 ga go 5 (css.set k (x.cells.set 3 u)))(hc:css[k]?=some x.cells):W.cell? ⟨ga,go+k*5+4,none⟩=some (.slice x.D x.g.died.length x.dc):=by
 have hk:k<css.length:=(List.getElem?_eq_some_iff.1 hc).1;exact h.at (k:=k) (c:=x.cells.set 3 u) (by rw[List.getElem?_set_self hk]) (j:=4) rfl
theorem okR.keptS{gxs:List GX}{W W':World}{x:GX}{g:Nat}{cs:Array Value}{fr:Nat×Nat}(h:okR gxs W x)(hg:W.grownBy W' (some g))(hx:W.heap[g]?=some (.cells cs 44 fr)):okR gxs W' x:=
 h.imp id fun⟨a,b⟩=>⟨a.kept hg hx McA,b.kept hg hx McA⟩
theorem dsF{W:World}{a c:Nat}{x0 x1 x2 x3 x4 x5 x6 z0 z1 z2 z3 z4 z5 z6:Value}{t u:TypeId}{f:Nat×Nat}(h:W.heap[a]?=some (.cells #[x0,x1,x2,x3,x4,x5,x6] t f)/\W.heap[c]?=some (.cells #[z0,z1,z2,z3,z4,z5,z6] u (0,0))):
 (W.heap[a]?=some (.cells #[x0,x1,x2,x3,x4,x5,x6] t f)/\W.heap[c]?=some (.cells #[z0,z1,z2,z3,z4,z5,z6] u (0,0)))/\(W.cell? ⟨a,0,none⟩=some x0/\W.cell? ⟨a,1,none⟩=some x1/\W.cell? ⟨a,2,none⟩=some x2/\W.cell? ⟨a,3,none⟩=some x3/\W.cell? ⟨a,4,none⟩=some x4/\W.cell? ⟨a,5,none⟩=some x5/\W.cell? ⟨a,6,none⟩=some x6)/\(W.cell? ⟨c,0,none⟩=some z0/\W.cell? ⟨c,1,none⟩=some z1/\W.cell? ⟨c,2,none⟩=some z2/\W.cell? ⟨c,3,none⟩=some z3/\W.cell? ⟨c,4,none⟩=some z4/\W.cell? ⟨c,5,none⟩=some z5/\W.cell? ⟨c,6,none⟩=some z6)/\(∀j,W.frozen? ⟨c,j,none⟩=false)/\a<W.heap.size/\c<W.heap.size:=
 ⟨h,zaF h.1,zaF h.2,frz h.2,zab h.1,zab h.2⟩
theorem ds_boxes{w:World}(o0 o1:Obj):Hid (Below w.heap.size w ((w.alloc o0).alloc o1))/\Hid (∀W,Below ((w.alloc o0).alloc o1).heap.size ((w.alloc o0).alloc o1) W->W.heap[w.heap.size]?=some o0/\W.heap[w.heap.size+1]?=some o1):=by
 refine⟨by show Below _ _ _;exact Bw,fun W hB=>⟨?_,?_⟩⟩
 ·exact(hB.block _ McD).trans (zal (zar _ _ _ rfl))
 ·exact(hB.block _ McB).trans (zar _ _ _ McB)
theorem rDies_any(laws:List Law)(s:St)(wd rd:List Deed)(LA CA MA DA WA RA GA:Option Addr)(c0 c1 c2 c3 c4 c5 c6:Nat)(n:ByteArray)(day:Int)(w:World)(h:StIn w laws s wd rd LA CA MA DA WA RA GA c0 c1 c2 c3 c4 c5 c6)(hk:StLink s wd rd)(hf:StFew s wd rd)(bz:zaD laws=0)(hW:WillOk (zbw s n))(pE:∀a,¬Desc s a a)(cG:(zbw s n).length<=8)
 (bf:∀g∈s.graves,GoodG g/\g.holders.length<=50000)(jL:∀g∈s.graves,g.died.length<=1000)(hel:∀hs,zcK s (zba laws day) n=some hs->hs.length<=1000/\GoodParts hs/\sumQ hs<=1/\zaE hs=false):
 Calls Tryz.prog 147 #[.agg #[.slice LA laws.length c0,.slice CA s.children.length c1,.slice MA s.marriages.length c2,.slice DA s.dead.length c3,.slice WA wd.length c4,.slice RA rd.length c5,.slice GA s.graves.length c6],.string n,.int .i64 day] w (zkN w laws (zpx laws s n day)):=by
 obtain⟨R,hR⟩:∃R,R=zpx laws s n day:=⟨_,rfl⟩
 rw[<-hR];unfold zpx at hR;obtain⟨gxs,hm,bE,bv⟩:=gx_of h.graves;obtain⟨HM,dG,bZ,eb,fL,H,HK,HF⟩:=yH8 hm bE bv bf jL (fun W (hB:Below w.heap.size w W)=>h.keep hB) hk hf;have kG:=zHi (fun W (hB:Below w.heap.size w W)=>znv laws s wd rd LA CA MA DA WA RA GA c0 c1 c2 c3 c4 c5 c6 n day W (H.o W hB) hk hf bz hW pE cG);obtain⟨HH,tD⟩:∃HH,HH=zcK s (zba laws day) n:=⟨_,rfl⟩
 rw[<-tD]at hR kG hel;have eG:=zHi hel;have oI:=hf.graves;have x8:gxs.length=s.graves.length:=by rw[<-hm,List.length_map]
 obtain⟨D0,ou⟩:∃D0,D0=zb0 s n day HH 0 s.graves:=⟨_,rfl⟩
 rw[<-ou]at hR;obtain⟨Hn,HR⟩:=yH2 ou hR;unfold zkK at kG;clear h hk hf bz hW pE cG bf jL hel hm bE bv tD ou hR;go_enter Tryz.func147,Tryz.ntmps147
 go_upto_region 1 with fail
 obtain⟨W0,am⟩:∃W0,W0=(w.alloc (.cells #[.slice LA laws.length c0,.slice CA s.children.length c1,.slice MA s.marriages.length c2,.slice DA s.dead.length c3,.slice WA wd.length c4,.slice RA rd.length c5,.slice GA s.graves.length c6] 44)).alloc (.cells #[.slice none 0 0,.slice none 0 0,.slice none 0 0,.slice none 0 0,.slice none 0 0,.slice none 0 0,.slice none 0 0] 44):=⟨_,rfl⟩
 obtain⟨aj,av⟩:Hid (Below w.heap.size w W0)/\Hid (∀W,Below W0.heap.size W0 W->W.heap[w.heap.size]?=some (.cells #[.slice LA laws.length c0,.slice CA s.children.length c1,.slice MA s.marriages.length c2,.slice DA s.dead.length c3,.slice WA wd.length c4,.slice RA rd.length c5,.slice GA s.graves.length c6] 44)/\W.heap[w.heap.size+1]?=some (.cells #[.slice none 0 0,.slice none 0 0,.slice none 0 0,.slice none 0 0,.slice none 0 0,.slice none 0 0,.slice none 0 0] 44)):=by
  rw[am];exact ds_boxes _ _
 rw[<-am];clear am;have aw:=aj.o.size;obtain⟨⟨xs0,xr0⟩,⟨s0,s1,s2,s3,s4,s5,s6⟩,⟨r0,r1,r2,r3,r4,r5,r6⟩,rf,ls,lr⟩:=dsF (av.o W0 (Below.refl _ _));go_upto_region 2 with(go_at_call 173;go_must(refine(kG.o _ aj.o).mono ?_);rintro e w1 ⟨EA,ec,hs,lg,rfl,Fn,b1,_,hE⟩)
 obtain⟨og,HE,aA⟩:=yH3 Fn hE b1;have ie:=b1.size;clear Fn hE b1;clear xs0 xr0 s0 s1 s2 s3 s4 s5 s6 r0 r1 r2 r3 r4 r5 r6 rf ls lr;obtain⟨⟨xs0,xr0⟩,⟨s0,s1,s2,s3,s4,s5,s6⟩,⟨r0,r1,r2,r3,r4,r5,r6⟩,rf,ls,lr⟩:=dsF (av.o w1 (aA.o))
 go_upto_region 4 with(at_builtin
                       go_loud(refine zat (v:=.slice (some ⟨w1.heap.size,0,none⟩) 0 0) (n:=0) (m:=s.graves.length) rfl _ _ rfl zhi zcU zjT rfl (xs:=[]) (ys:=gxs) (zjV w1 w1.heap.size (Nat.le_refl _)) rfl rfl x8.symm (bZ.o.keep (aj.o.trans ((aA.o.trans (Below.mono (B:=w1.heap.size) Bw ie)).mono aw))) Mc6 Mcy McB ?_)
                       intro v2 w2 h1 h2 h3;rw[List.nil_append]at h1;have bs:Below w1.heap.size w1 w2:=Below.grown (zad (Below.refl _ _) _) h2 McB Mdc;obtain⟨dj,aJ⟩:=yH2 h1 bs;obtain⟨V2,c2',rfl,_,_⟩:=h1.sl zcU
                       clear h1 h2 h3 bs)
 obtain⟨ga,go,hV⟩:∃ga go,s.graves≠[]->V2=some ⟨ga,go,none⟩/\w1.heap.size<=ga/\RowC w2 100 ga go 5 (gxs.map GX.cells):=by
  by_cases ai:s.graves=[]
  ·exact⟨0,0,fun h=>absurd ai h⟩
  ·have hl:0<s.graves.length:=List.length_pos_iff.2 ai;have ho:=dj.o;have eT:=ho.ge;obtain⟨A,c9,e9,hS,_⟩:=ho.sl zcU;obtain⟨rfl,rfl⟩:V2=A/\c2'=c9:=by simpa[x8]using e9
   obtain⟨gb,gof,rfl,_⟩:=hS Mcy;exact⟨gb,gof,fun _=>⟨rfl,(eT gb rfl).1,ho.row zcU⟩⟩
 have HV:=zHi hV;have kT:=aJ.o.size;have Ho:Hid (D0=(zb0 s n day HH 0 (s.graves.drop 0)).map (([]:List GX).map (·.g)++ ·)):=by
  show _=_;rw[Hn.o,List.drop_zero];cases zb0 s n day HH 0 s.graves<;>rfl
 have F1:HH=if lg then none else some hs:=by rcases HE.o with⟨h1,rfl⟩|⟨h1,rfl⟩<;>rw[h1]<;>rfl
 have yQ:=zHi F1;clear hV F1;clear xs0 xr0 s0 s1 s2 s3 s4 s5 s6 r0 r1 r2 r3 r4 r5 r6 rf ls lr;go_upto_region 5 with fail
 go_loopw [9,10,12] (fun v9 v10 i wr=>∃(k:Nat) (l f:Bool) (dx:List GX),k<=s.graves.length/\i=.int .i64 k/\v9=.bool l/\v10=.bool f/\dx.length=k/\Hid (s.graves≠[]->RowC wr 100 ga go 5 ((dx++gxs.drop k).map GX.cells))/\Hid (∀x∈dx,okR gxs wr x)/\Hid ((f&&l)=true->D0=none)/\Hid ((f&&l)=false->D0=(zb0 s n day HH k (s.graves.drop k)).map (dx.map (·.g)++ ·)/\HH=if l then none else some hs)/\Below w1.heap.size w1 wr/\w2.heap.size<=wr.heap.size) (fun _ _ i _=>s.graves.length-(intOf i).toNat)
 case atStart=>exact⟨0,lg,false,[],Nat.zero_le _,rfl,rfl,rfl,rfl,zHi fun ai=>(HV.o ai).2.2,zHi McB,zHi McB,zHi fun _=>⟨Ho.o,yQ.o⟩,aJ.o,Nat.le_refl _⟩
 case round=>
  obtain⟨k,l,f,dx,hk,rfl,rfl,rfl,im,vf,fV,nU,kN,hB,iR⟩:=hrel;obtain⟨WR,oy⟩:∃WR,WR=wr:=⟨_,rfl⟩
  subst oy;have aG:=hB.size;have cv:=aA.o.trans (hB.mono ie);obtain⟨HB,b8⟩:=yH2 hB cv;obtain⟨⟨xs0,xr0⟩,⟨s0,s1,s2,s3,s4,s5,s6⟩,⟨r0,r1,r2,r3,r4,r5,r6⟩,rf,ls,lr⟩:=dsF (av.o WR (cv));by_cases ae:k<s.graves.length
  ·have ai:s.graves≠[]:=fun e=>by rw[e]at ae;simp at ae
   obtain⟨rfl,zU,_⟩:=HV.o ai;have bX:=zHi (vf.o ai);have l7:k<gxs.length:=Mcy;have bh:((dx++gxs.drop k).map GX.cells)[k]?=some gxs[k].cells:=by
    rw[List.getElem?_map,List.getElem?_append_right Mcy,im,Nat.sub_self,List.getElem?_drop,Nat.add_zero,List.getElem?_eq_getElem l7];rfl
   have pI:gxs[k].g=s.graves[k]:=by
    have:s.graves[k]?=some gxs[k].g:=by rw[<-HM.o,List.getElem?_map,List.getElem?_eq_getElem l7];rfl
    rw[List.getElem?_eq_getElem ae]at this;exact(Option.some.inj this).symm
   have uj:gxs[k]∈gxs:=List.getElem_mem l7;have oZ:gxs[k].g∈s.graves:=by rw[pI];exact List.getElem_mem ae
   have FE:s.graves.drop k=gxs[k].g::s.graves.drop (k+1):=by rw[pI];exact List.drop_eq_getElem_cons ae
   have FD:gxs.drop k=gxs[k]::gxs.drop (k+1):=List.drop_eq_getElem_cons l7;have ak:=zHi ae;generalize gxs[k]=x at*;have jA:=dG.o x uj;obtain⟨dp,cz⟩:=eb.o x.g oZ;have bu:=fL.o x.g oZ;obtain⟨AC,tu,bo,yJ,Av,dZ⟩:=yH6 dp (fun W (hB:Below w.heap.size w W)=>jA.keep hB) uj FE FD bh;have i0:WR.cell? ⟨ga,go+k*5,none⟩=some (.string x.g.place):=by have:=bX.o.at bh (j:=0) rfl;simpa using this
   have i3:WR.cell? ⟨ga,go+k*5+3,none⟩=some (.slice x.H x.g.holders.length x.hc):=bX.o.at bh (j:=3) rfl;have i4:WR.cell? ⟨ga,go+k*5+4,none⟩=some (.slice x.D x.g.died.length x.dc):=bX.o.at bh (j:=4) rfl;have Dj:ga<WR.heap.size:=bX.o.lt;have ar:(k:Int)<(s.graves.length:Int):=Mcy;have aQ:(0:Int)<=(k:Int):=Mcy;have bk:=aj.o.trans (cv.mono aw);have nr:=zHi (zfg x.g.holders n x.H x.hc WR Mcy (tu.o WR bk).1);have cG:=zdQ x.g.holders n;have lS:=zHi (fun W (hB:Below w.heap.size w W)=>zhu x.g.holders n x.H x.hc W Mcy (tu.o W hB).1);have ho:=zb9 dp.good n;have pT:=zcL n dp.small;have aV:=zdv dp.good n;have qb:=zcg (n:=n) dp.good;have GI:=zbK (n:=n) dp.good;have yz:=zd7 n dp.small;have FM:∀b,zaR s x.g.place day=some k->(zag x.g.holders n==0)=b->zdr s n day k x.g=!b:=by
    intro b e1 e2;unfold zdr;rw[e1,bne,e2];simp
   have tT:¬zaR s x.g.place day=some k->zdr s n day k x.g=false:=by
    intro e1;unfold zdr;cases hx:zaR s x.g.place day==some k
    ·rw[Bool.and_false]
    ·exact absurd (by simpa using hx) e1
   have zV:zag x.g.holders n=0->zdr s n day k x.g=false:=by
    intro e1;unfold zdr;rw[e1];rfl
   obtain⟨fU,Ht,Hr,AF⟩:=yH4 (fun(pre:List Grave) (hh:zdr s n day k x.g=false)=>zpy (H:=HH) (l:=s.graves.drop (k+1)) (pre:=pre) hh) (fun(pre:List Grave) hs out (hh:zdr s n day k x.g=true) hg=>zpz (s:=s) (n:=n) (day:=day) (hs:=hs) (out:=out) (l:=s.graves.drop (k+1)) (pre:=pre) hh hg) (fun(pre:List Grave) (hh:zdr s n day k x.g=true) hg=>zp0 (H:=HH) (l:=s.graves.drop (k+1)) (pre:=pre) hh hg) (show(zaR s x.g.place day=some k->zag x.g.holders n≠0->zdr s n day k x.g=true) from fun e1 e2=>by rw[FM false e1 (by simpa using e2)];rfl);have rT:sumQ x.g.holders<=1:=by
    rcases dp.one with e|e
    ·rw[e];decide
    ·rw[e];exact Rat.le_refl
   generalize zag x.g.holders n=sh at*;generalize zas x.g.holders n=wo at*;have jN:zaI sh:=zbZ ho Mc0 pT;unfold zaA at nr;clear bh pI oZ FE FD uj jA dp ae ai FM cv vf;go_upto_region 8 with(go_at_call 14;go_must(refine(nr.o).mono ?_);rintro e wq ⟨rfl,z2,rfl⟩)
   obtain⟨SB,ja⟩:∃SB,SB=WR.heap.size+z2.os.size:=⟨_,rfl⟩
   obtain⟨W3,aY⟩:∃W3,W3=(WR.ext z2).alloc (.cells #[.int .i64 (sh).num,.int .i64 (sh).den] 31):=⟨_,rfl⟩
   have gS:W3.heap[SB]?=some (.cells #[.int .i64 (sh).num,.int .i64 (sh).den] 31):=by rw[aY];exact zar _ _ _ (by rw[ja];simp[zaf])
   have ax:Below WR.heap.size WR W3:=by rw[aY];exact zad (zaq WR z2) _
   rw[<-aY,<-ja];clear aY ja i0 i3 i4;clear xs0 xr0 s0 s1 s2 s3 s4 s5 s6 r0 r1 r2 r3 r4 r5 r6 rf ls lr;have je:=ax.size;have aD:=zHi ax;have rM:=b8.o.trans (ax.mono Mec);obtain⟨uu,iY⟩:=yH2 rM (bX.o.keep ax);obtain⟨q0,q1⟩:=zbt gS;have ru:=zab gS;have GS:=zHi gS;obtain⟨⟨xs0,xr0⟩,⟨s0,s1,s2,s3,s4,s5,s6⟩,⟨r0,r1,r2,r3,r4,r5,r6⟩,rf,ls,lr⟩:=dsF (av.o W3 (rM));clear rM ax gS;have i0:W3.cell? ⟨ga,go+k*5,none⟩=some (.string x.g.place):=by have:=iY.o.at dZ.o (j:=0) rfl;simpa using this
   have Dk:ga<W3.heap.size:=iY.o.lt;by_cases hz:sh=0
   ·have mY:(sh.num==0)=true:=by rw[hz];rfl
    have dE:=fU.o (dx.map (·.g)) (zV hz);rw[<-yJ.o]at dE;have Ep:=zHi dE;clear hz zV tT dE ho pT aV qb jN
    (refine zaj Mcz Mcz ?_
     repeat(first|go_big_quiet_skip|(go_big_quiet_want;go_big_quiet_op;first|go_big_quiet_on|(apply Exists.intro;refine⟨fun _=>?_,?_⟩;(fail);go_big_quiet_on)))
     refine wpQuiet_nil ?_
     rintro _ ⟨zq,rfl⟩)
    exact MG
   have mY:(sh.num==0)=false:=by
    exact Mbe
   have ej:=zHi (fun W (hB:Below W3.heap.size W3 W)=>zml x.g.place day W (H.o W (aj.o.trans ((uu.o.trans (hB.mono (by have:=uu.o.size;omega))).mono aw))) HF.o);by_cases aO:zaR s x.g.place day=some k;rotate_left 1
   ·have dE:=fU.o (dx.map (·.g)) (tT aO);rw[<-yJ.o]at dE;have Ep:=zHi dE;have kY:=grav_ne aO;generalize zk7 s.graves x.g.place day=gi at*;have Ke:(gi==(k:Int))=false:=by simpa using kY
    have Kf:(gi != (k:Int))=true:=by simpa using kY
    clear hz zV tT dE aO kY ho pT aV qb jN
    (refine zaj Mcz Mcz ?_
     repeat(first|go_big_quiet_skip|(go_big_quiet_want;go_big_quiet_op;first|go_big_quiet_on|(apply Exists.intro;refine⟨fun _=>?_,?_⟩;((go_at_call 42;exact quietx (ej.o _ Bw)));go_big_quiet_on)))
     refine wpQuiet_nil ?_
     rintro _ ⟨zq,rfl⟩)
    exact MG
   have pL:=AF.o aO hz;rw[zex aO]at ej;have DW:=zHi pL;clear zV tT aO pL
   (refine zaj Mcz Mcz ?_
    repeat(first|go_big_quiet_skip|(go_big_quiet_want;go_big_quiet_op;first|go_big_quiet_on|(apply Exists.intro;refine⟨fun _=>?_,?_⟩;((go_at_call 42;exact quietx (ej.o _ Bw)));go_big_quiet_on)))
    refine wpQuiet_nil ?_
    rintro _ ⟨zq,rfl⟩)
   obtain⟨W4,ij⟩:∃W4,W4=W3.ext zq:=⟨_,rfl⟩
   have aC:Below W3.heap.size W3 W4:=by rw[ij];exact zaq _ _
   rw[<-ij];have JO:=aC.size;obtain⟨cM,GS4⟩:=yH2 (aD.o.trans (aC.mono je)) ((aC.block SB ru).trans GS.o);have rO:=b8.o.trans (cM.o.mono Mec);have Hh:=zHi rO;have i3:W4.cell? ⟨ga,go+k*5+3,none⟩=some (.slice x.H x.g.holders.length x.hc):=(bX.o.keep cM.o).at dZ.o (j:=3) rfl;have KZ:ga<W4.heap.size:=(bX.o.keep cM.o).lt;have rv:SB<W4.heap.size:=Mcy;have qR:=zHi (lS.o W4 (aj.o.trans (rO.mono aw)));have qw:Hid (l=false->HH=some hs/\hs.length<=1000/\GainSt sh wo hs):=zHi fun hl=>by
    have tD:=(kN.o (by rw[hl,Bool.and_false])).2;rw[hl]at tD;obtain⟨e1,e2,e3,e4⟩:=eG.o hs tD;have hp:∀p∈hs,0<=p.2:=fun p hp=>by have:=e2.pos p hp;grind
    have:=Rat.mul_le_mul_of_nonneg_left e3 ho;exact⟨tD,e1,GI,yz,by grind,hp⟩
   obtain⟨iX,lP⟩:=yH2 ho jN;clear ij i0 q0 q1 ru rO aC hz mY ho pT aV qb GI yz jN rT Dk Dj;clear xs0 xr0 s0 s1 s2 s3 s4 s5 s6 r0 r1 r2 r3 r4 r5 r6 rf ls lr;go_upto_region 11 with(go_at_call 167;go_must(refine(qR.o).mono ?_);rintro e w5 ⟨v5,rfl,o5,b5⟩)
   obtain⟨kO,aR⟩:=yH2 o5 b5;have BG:=b5.size;clear i3 o5 b5;go_upto_region 12 with fail
   go_loopw [9,14,15] (fun v9 v14 j wr=>∃(i:Nat) (l':Bool) (out:Parts),i<=hs.length/\j=.int .i64 i/\v9=.bool l'/\OwnS wr W4.heap.size 71 3 zaa v14 out/\out.length<=50000+i/\Below w5.heap.size w5 wr/\Hid (l'=false->l=false/\zb6 sh hs wo=zb6 sh (hs.drop i) out/\GainSt sh out (hs.drop i))/\Hid (l'=true->l=true\/zb6 sh hs wo=none)) (fun _ _ j _=>hs.length-(intOf j).toNat)
   case atStart=>exact⟨0,l,wo,Nat.zero_le _,rfl,rfl,kO.o,by omega,Below.refl _ _,zHi fun e=>⟨e,rfl,(qw.o e).2.2⟩,zHi fun e=> .inl e⟩
   case round=>
    obtain⟨i,l',out,hi,rfl,rfl,aa,kp,vC,yU,qz⟩:=hrel;have rI:=vC.size;obtain⟨fK,qd,yG,HO⟩:=yH4 (aR.o.trans (vC.mono BG)) vC vC aa;have Cc:wr.heap[SB]?=_:=(fK.o.block SB rv).trans GS4.o;obtain⟨q0,q1⟩:=zbt Cc;have JB:=zab Cc;have wA:Below w1.heap.size w1 wr:=HB.o.trans ((cM.o.trans (fK.o.mono (by have:=cM.o.size;omega))).mono aG);have vn:=zHi (og.o.keep wA);clear vC wA Cc;by_cases hlti:i<hs.length
    ·have xb:(i:Int)<(hs.length:Int):=Mcy;have fm:(0:Int)<=(i:Int):=Mcy;cases l'
     ·obtain⟨jt,gz,aI⟩:=yU.o rfl;obtain⟨b,off,hA,hb,ah⟩:=vn.o.at hlti;have gy:hs.drop i=hs[i]::hs.drop (i+1):=List.drop_eq_getElem_cons hlti;rw[gy]at aI gz;have kZ:=(qw.o jt).2.1;have d9:=zHi hlti;have sF:0<hs[i].2/\hs[i].2<=1/\zaI hs[i].2:=by
       obtain⟨_,e2,e3,e4⟩:=eG.o hs (qw.o jt).1;exact zdF (hs:=hs) ⟨e2,e4,e3⟩ (List.getElem_mem hlti)
      clear gy;generalize hs[i]=y at*;obtain⟨nm,q⟩:=y;simp only at sF;have i0:wr.cell? ⟨b,off+i*3,none⟩=some (.string nm):=ah 0 _ rfl;have i1:wr.cell? ⟨b,off+i*3+1,none⟩=some (.int .i64 q.num):=ah 1 _ rfl;have i2:wr.cell? ⟨b,off+i*3+2,none⟩=some (.int .i64 q.den):=ah 2 _ rfl;have kL:=zHi (fun W=>zg1 sh q W lP.o sF.2.2);unfold zaA at kL;obtain⟨p1,p2⟩:=aI.more iX.o;obtain⟨jV,kP⟩:=yH2 (fun hl=>aI.next iX.o hl) (aI.parts iX.o);rw[zmo]at gz;obtain⟨mo,xB⟩:∃mo,mo=sh*q:=⟨_,rfl⟩
      rw[<-xB]at gz kL p1 p2 jV;obtain⟨lQ,uI,pe⟩:=yH3 (And.intro p1 p2) gz jt;clear ah aI gz hlti sF p1 p2 xB aa jt;subst hA;go_upto_region 14 with fail
      refine zd8 7 _ _ (.cells #[.int .i64 0,.int .i64 0] 31) (.cells #[.int .i64 (mo).num,.int .i64 (mo).den] 31) Mcz Mcz rfl rfl ?hrun ?_
      case hrun=>intro a W;kernel_rfl
      simp only[List.take_succ_cons,List.take_zero];repeat(refine ze5 (fun K hK=>?_);simp only[grow];go_simp;first|(refine hK _ ?_;clear hK K)|(apply Exists.intro;refine⟨fun _=>?_,hK _ ?_⟩;((go_at_call 168;exact quietg (kL.o _)));clear hK K))
      refine zfw ⟨?hstore,?hlast⟩
      case hstore=>
       exact MD
      case hlast=>
       rintro MB W9 ⟨z9,wn⟩ Jn gM;have cE:Below wr.heap.size wr W9:=by rw[wn];exact zaq _ _
       have BI:=cE.size;have qB:=zHi cE;obtain⟨m0,m1⟩:=zbt gM;have rh:=zab gM;have i9:W9.cell? ⟨b,off+i*3,none⟩=some (.string nm):=(zah cE hb).trans i0;have Cp:b<W9.heap.size:=Mcy;clear wn cE i0 i1 i2 q0 q1;by_cases ya:1000000000<(mo.den:Int)
       ·have kY:zb6 sh hs wo=none:=by rw[uI.o,if_pos (by simp[bigQ,ya])]
        have I0:=zHi kY;clear kY;go_wp2_with fail
        go_round
        case rel=>exact⟨i+1,true,out,d9.o,by go_num,rfl,HO.o.keep qB.o,by omega,(qd.o).trans (qB.o.mono rI),zHi McB,zHi fun _=> .inr I0.o⟩
        case measure=>have:=d9.o;simp only[intOf];omega
       ·have bm:bigQ mo=false:=by simpa[bigQ]using ya
        have bf:=uI.o;rw[bm,if_neg McB]at bf;have AB:=zHi bf;have mM:=zbZ lQ.o.1 lQ.o.2 bm;obtain⟨OV,oc,rfl,_,_⟩:=HO.o.sl zap;have eo:=zHi (fun W (hW:Below wr.heap.size wr W)=>zcT out nm mo OV oc W (by have:=d9.o;omega) kP.o mM (ziO zap (HO.o.keep hW)).1);unfold zaA at eo;have cz:=zcx nm mo out;go_upto_region 17 with fail
        have aE:=zHi (fun(W:World) (h:Below W9.heap.size W9 W)=>(show W.cell? ⟨b,off+i*3,none⟩=some (.string nm)/\W.cell? ⟨MB,0,none⟩=some (.int .i64 mo.num)/\W.cell? ⟨MB,1,none⟩=some (.int .i64 mo.den) from⟨(zah h Cp).trans i9,(zah h rh).trans m0,(zah h rh).trans m1⟩));clear bf mM bm ya i9 m0 m1;refine zaB 7 (fun bb w'=>bb=true\/(w'.cell? ⟨b,off+i*3,none⟩=some (.string nm)/\w'.cell? ⟨MB,0,none⟩=some (.int .i64 mo.num)/\w'.cell? ⟨MB,1,none⟩=some (.int .i64 mo.den))) Mcz (.inr (aE.o _ (zaK (Below.refl _ _)))) ?hrest
        case hrest=>
         intro hHeld;refine TkM 0 ?_;refine TkM 1 ?_;refine TkM 2 ?_;refine TkM 3 ?_;refine TkM 4 ?_;refine TkM 5 ?_;refine TkM 6 ?_;refine OnM 7 true fun K hK=>?_
         go_simp
         refine(eo.o _ (zaK qB.o)).mono ?_;rintro e w10 ⟨v10,rfl,o10,b10⟩;refine NxM hK fun hHeld=>?_
         clear hK K;refine OnM 8 true fun K hK=>?_
         go_simp
         refine NxM hK fun hHeld=>?_
         clear hK K;refine zaM Mcz ?_ _;clear hHeld;obtain⟨YA,yc,rfl,mX,_⟩:=o10.sl zap;have jd:Below W9.heap.size W9 w10:=(zaK (Below.refl _ _)).trans b10;obtain⟨uS,oa,cS⟩:=yH3 (qB.o.trans (jd.mono BI)) (o10.base_le (show W4.heap.size<=W9.drew.heap.size by show W4.heap.size<=W9.heap.size;omega)) (fun W (h:Below w10.heap.size w10 W)=>zdE (za3 out nm mo) YA yc W (by have:=d9.o;omega) (mX.keep h));clear o10 b10 mX jd rh;have hx:=AB.o;cases hlg:zaE (za3 out nm mo)
         ·rw[hlg]at hx cS;have aB:=zHi (jV.o hlg);rw[if_neg McB]at hx;have ka:=zHi hx;clear hx hlg;generalize za3 out nm mo=out1 at*;go_wp2_with (go_at_call 170;go_must(refine(cS.o _ Bw).mono ?_);rintro e wq ⟨rfl,rfl⟩)
          go_round
          case rel=>exact⟨i+1,false,out1,d9.o,by go_num,rfl,oa.o,by omega,(qd.o).trans (uS.o.mono rI),zHi fun _=>⟨pe.o,ka.o,aB.o⟩,zHi McB⟩
          case measure=>have:=d9.o;simp only[intOf];omega
         ·rw[hlg]at hx cS;rw[if_pos rfl]at hx;have ka:=zHi hx;clear hx hlg;generalize za3 out nm mo=out1 at*;go_wp2_with (go_at_call 170;go_must(refine(cS.o _ Bw).mono ?_);rintro e wq ⟨rfl,rfl⟩)
          go_round
          case rel=>exact⟨i+1,true,out1,d9.o,by go_num,rfl,oa.o,by omega,(qd.o).trans (uS.o.mono rI),zHi McB,zHi fun _=> .inr ka.o⟩
          case measure=>have:=d9.o;simp only[intOf];omega
     ·exact Mj
    ·have xb:¬(i:Int)<(hs.length:Int):=Mcy;cases l'
     ·obtain⟨jt,gz,_⟩:=yU.o rfl;rw[List.drop_of_length_le Mcy,zb6]at gz;have ou:D0=(zb0 s n day HH (k+1) (s.graves.drop (k+1))).map ((dx.map (·.g)++[{x.g with holders:=out,died:=x.g.died++[n]}])++ ·):=by
       obtain⟨h1,h2⟩:=kN.o (by rw[jt,Bool.and_false]);rw[jt]at h2;have h2:HH=some hs:=h2;rw[h1,yJ.o,h2];exact Ht.o _ hs out DW.o gz
      have F0:HH=some hs:=by
       obtain⟨_,h2⟩:=kN.o (by rw[jt,Bool.and_false]);rw[jt]at h2;exact h2
      obtain⟨HN,kM⟩:=yH2 ou F0;clear ou F0 gz jt;obtain⟨OV,oc,rfl,_,xI⟩:=HO.o.ro;have jg:=cM.o.trans (fK.o.mono cM.o.size);have bi:=bX.o.keep jg;obtain⟨gcur,dJ,_⟩:=bi.row;have j3:wr.cell? ⟨ga,go+k*5+3,none⟩=some (.slice x.H x.g.holders.length x.hc):=bi.at dZ.o (j:=3) rfl;have jf:=bi.frz;have oI:=bi.lt;obtain⟨qH,lI,B7,jR⟩:=yH4 bi dJ xI jg;clear xI jg bi dJ;go_upto_region 20 with fail
      obtain⟨V1,nB⟩:∃V1,V1=wr.setCell ⟨ga,go+k*5+3,none⟩ (.slice OV out.length oc):=⟨_,rfl⟩
      have gA:wr.grownBy V1 (some ga):=by rw[nB];exact zav _ _ _ _
      have fH:RowC V1 100 ga go 5 (((dx++gxs.drop k).map GX.cells).set k (x.cells.set 3 (.slice OV out.length oc))):=by rw[nB];exact qH.o.set dZ.o McA
      have rL:Below w1.heap.size w1 V1:=MdS;rw[<-nB];have Cf:WR.heap.size<=V1.heap.size:=Nat.le_trans jR.o.size gA.size;clear nB j3 jf oI;have Lm:=hxd5 fH dZ.o;obtain⟨gJ,ur⟩:=yH2 fH rL;have Kb:=fH.lt;have uX:=zHi (B7.o.kept gA lI.o McA);have uy:=zHi (fun y hy=>(((fV.o y hy).keep jR.o).kept gA lI.o:okR gxs V1 y));have Bz:=zHi (tu.o V1 (aj.o.trans ((aA.o.trans (rL.mono ie)).mono aw))).2;clear fH rL gA
      go_wp2_with (first
       |(at_builtin
         go_loud(refine zat (v:=.slice (some ⟨V1.heap.size,0,none⟩) 0 0) (n:=0) (m:=x.g.died.length) rfl _ _ rfl zbB za9 zbA rfl (xs:=[]) (ys:=x.g.died) (zdS za9 V1 V1.heap.size (Nat.le_refl _)) rfl rfl rfl (Bz.o.keep (zad (Below.refl _ _) _)) Mc6 Mcy McB ?_)
         intro v3 w3 h1 h2 h3;rw[List.nil_append]at h1;have ax:Below V1.heap.size V1 w3:=Below.grown (zad (Below.refl _ _) _) h2 McB Mdc;obtain⟨V3,vc3,rfl,_,_⟩:=h1.sl za9;obtain⟨nj,lz⟩:=yH2 h1 ax;have vA:=ax.size
         clear h1 h2 h3 ax)
       |(at_builtin
         go_loud(refine zat (v:=.slice V3 x.g.died.length vc3) (n:=x.g.died.length) (m:=1) rfl _ _ rfl zbB za9 zbA rfl (xs:=x.g.died) (ys:=[n]) (nj.o.keep (n:=w3.heap.size) (zad (Below.refl _ _) _)) rfl rfl rfl (zcl (zar _ _ _ rfl)) Mc6 Mcy McD ?_)
         intro v6 w6 h1 h2 h3;have aP:Below V1.heap.size V1 w6:=Below.grown (zad lz.o _) h2 McD (fun j hj=>(nj.o.ge j hj).1);obtain⟨A6,vc6,dA,_,_⟩:=h1.sl za9;rw[List.length_append]at dA;subst dA;obtain⟨lM,eF⟩:=yH2 h1 aP;have eC:=gJ.o.keep aP;have i4:w6.cell? ⟨ga,go+k*5+4,none⟩=some (.slice x.D x.g.died.length x.dc):=hxd5 eC dZ.o;have jf6:=eC.frz;have CO:=eC.lt;have Co:=aP.size
         clear h1 h2 h3 aP eC))
      go_round
      case rel=>
       have eC:=gJ.o.keep eF.o;rw[Av.o]at eC;obtain⟨gcur6,mC,_⟩:=eC.row;refine⟨k+1,false,true,dx++[(⟨{x.g with holders:=out,died:=x.g.died++[n]},OV,oc,A6,vc6⟩:GX)],ak.o,by go_num,rfl,rfl,by rw[List.length_append,im];rfl,zHi fun _=>row_two im eC,zHi fun y hy=>?_,zHi McB,zHi fun _=>⟨by rw[HN.o,List.map_append];rfl,kM.o⟩,zaP (ur.o.trans (eF.o.mono ur.o.size)) zU _,by simp;omega⟩;exact Mcc
      case measure=>have:=ak.o;simp only[intOf];omega
     ·exact Mj
  ·have ar:¬(k:Int)<(s.graves.length:Int):=Mcy;have oJ:k=s.graves.length:=Mcy;have CR:gxs.drop k=[]:=List.drop_of_length_le Mcy;have yj:s.graves.drop k=[]:=List.drop_of_length_le Mcy;have HG:Hid ((f&&l)=false->R=({s with graves:=dx.map (·.g),dead:=s.dead++[n]},0)):=zHi fun eS=>by
    obtain⟨h1,_⟩:=kN.o eS;rw[yj,zb0]at h1;rw[HR.o,h1];simp
   have dh:Hid ((f&&l)=true->R=(s,8)):=zHi fun eS=>by rw[HR.o,nU.o eS]
   clear yj ae hB cv;cases f
   ·exact Me
   ·cases l
    ·exact Me
    ·have HE:=zHi (dh.o rfl);clear HG dh;go_wp2_with fail
     refine bodyPost_ret (zbC rfl _ rfl rfl (zcy xr0)) rfl ?_;exact⟨_,_,_,_,_,_,_,false,rfl,rfl,zcA (aj.o.trans (b8.o.mono aw)) (show w.heap.size<=w.heap.size+1 by omega),.inr ⟨rfl,by rw[HE.o]⟩⟩
