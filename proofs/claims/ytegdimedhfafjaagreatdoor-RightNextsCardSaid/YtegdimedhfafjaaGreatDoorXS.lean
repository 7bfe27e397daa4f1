import Derived.Test.YtegdimedhfafjaaGreatDoorXP
set_option linter.all false
set_option maxRecDepth 100000
set_option maxHeartbeats 4000000
namespace Go.Proofs.YtegdimedhfafjaaGreatDoor
open Go.RowKit Go.Shelf
attribute [local go_sem] World.cell?_alloc_mark zaf za5 zao za8 zav zaw zax zay zaz za0 za1
attribute [local go_sem] zaq zad
theorem zpy{s:St}{n:ByteArray}{day:Int}{H:Option Parts}{k:Nat}{g:Grave}{l pre:List Grave}(h:zdo s n day k g=false):(zb2 s n day H k (g::l)).map (pre++ ·)=(zb2 s n day H (k+1) l).map ((pre++[g])++ ·):=by
 rw[zb2.eq_def];simp only[h];cases zb2 s n day H (k+1) l<;>simp
theorem zpz{s:St}{n:ByteArray}{day:Int}{hs out:Parts}{k:Nat}{g:Grave}{l pre:List Grave}(h:zdo s n day k g=true)(hg:zb9 (zag g.holders n) hs (zat g.holders n)=some out):
 (zb2 s n day (some hs) k (g::l)).map (pre++ ·)=(zb2 s n day (some hs) (k+1) l).map ((pre++[{g with holders:=out,died:=g.died++[n]}])++ ·):=by
 rw[zb2.eq_def];simp only[h,if_true,hg,Option.bind_some];cases zb2 s n day (some hs) (k+1) l<;>simp
theorem zp0{s:St}{n:ByteArray}{day:Int}{H:Option Parts}{k:Nat}{g:Grave}{l pre:List Grave}(h:zdo s n day k g=true)(hg:∀hs,H=some hs->zb9 (zag g.holders n) hs (zat g.holders n)=none):
 (zb2 s n day H k (g::l)).map (pre++ ·)=none:=by
 rw[zb2.eq_def];simp only[h,if_true];cases H with
 |none=>rfl
 |some hs=>
  simp only[hg hs rfl];rfl
def okR(gxs:List GX)(W:World)(x:GX):Prop:=x∈gxs\/(Ro W 62 zaa x.H x.g.holders/\Ro W 9 sC x.D x.g.died)
theorem okR.keep{gxs:List GX}{W W':World}{x:GX}{n:Nat}(h:okR gxs W x)(hB:Below n W W')(hn:W.heap.size<=n:=by first|exact Nat.le_refl _|omega):okR gxs W' x:=
 h.imp id fun⟨a,b⟩=>⟨a.keep hB hn,b.keep hB hn⟩
theorem okR.kept{gxs:List GX}{W W':World}{x:GX}{g:Nat}{cs:Array Value}{fr:Nat×Nat}(h:okR gxs W x)(hg:W.grownBy W' (some g))(hx:W.heap[g]?=some (.cells cs 189 fr)):okR gxs W' x:=
 h.imp id fun⟨a,b⟩=>⟨a.kept hg hx Mco,b.kept hg hx Mco⟩
theorem grav_ne{s:St}{pl:ByteArray}{day:Int}{k:Nat}(h:¬zaP s pl day=some k):zkG s.graves pl day≠(k:Int):=by
 cases hx:zaP s pl day with
 |none=>rw[ziY hx];omega
 |some i=>
  rw[ze0 hx];intro e;have:i=k:=by omega
  subst this;exact h hx
theorem set_mid{α:Type}(a:List α)(x y:α)(l:List α){k:Nat}(h:a.length=k):(a++x::l).set k y=a++y::l:=by
 subst h;induction a with
 |nil=>rfl
 |cons b a ih=>simp only[List.cons_append,List.length_cons,List.set_cons_succ,ih]
theorem row_two{W:World}{ga go k:Nat}{dx rest:List GX}{x:GX}{out:Parts}{n:ByteArray}{OV A5:Option Addr}{oc c5:Nat}(hk:dx.length=k)(h:RowC W 189 ga go 5 (((dx++x::rest).map GX.cells).set k (x.cells.set 3 (.slice OV out.length oc)))):
 RowC (W.setCell ⟨ga,go+k*5+4,none⟩ (.slice A5 (x.g.died.length+1) c5)) 189 ga go 5 ((dx++[(⟨{x.g with holders:=out,died:=x.g.died++[n]},OV,oc,A5,c5⟩:GX)]++rest).map GX.cells):=by
 have e1:((dx++x::rest).map GX.cells).set k (x.cells.set 3 (.slice OV out.length oc))=dx.map GX.cells++(x.cells.set 3 (.slice OV out.length oc))::rest.map GX.cells:=by
  rw[List.map_append,List.map_cons,set_mid _ _ _ _ (by rw[List.length_map];exact hk)]
 rw[e1]at h;have h2:=h.set (i:=k) (j:=4) (c:=x.cells.set 3 (.slice OV out.length oc)) (u:=.slice A5 (x.g.died.length+1) c5) (by rw[List.getElem?_append_right (by rw[List.length_map];omega),List.length_map,hk,Nat.sub_self];rfl) Mco;rw[set_mid _ _ _ _ (by rw[List.length_map];exact hk)]at h2;have e2:(dx++[(⟨{x.g with holders:=out,died:=x.g.died++[n]},OV,oc,A5,c5⟩:GX)]++rest).map GX.cells=dx.map GX.cells++((x.cells.set 3 (.slice OV out.length oc)).set 4 (.slice A5 (x.g.died.length+1) c5))::rest.map GX.cells:=by
  rw[List.append_assoc,List.map_append];congr 1
  simp[GX.cells]
 rw[e2];exact h2
theorem hxd5{W:World}{ga go k:Nat}{css:List (List Value)}{x:GX}{u:Value}(h:RowC W 189 ga go 5 (css.set k (x.cells.set 3 u)))(hc:css[k]?=some x.cells):W.cell? ⟨ga,go+k*5+4,none⟩=some (.slice x.D x.g.died.length x.dc):=by
 have hk:k<css.length:=(List.getElem?_eq_some_iff.1 hc).1;exact h.at (k:=k) (c:=x.cells.set 3 u) (by rw[List.getElem?_set_self hk]) (j:=4) rfl
theorem okR.keptS{gxs:List GX}{W W':World}{x:GX}{g:Nat}{cs:Array Value}{fr:Nat×Nat}(h:okR gxs W x)(hg:W.grownBy W' (some g))(hx:W.heap[g]?=some (.cells cs 41 fr)):okR gxs W' x:=
 h.imp id fun⟨a,b⟩=>⟨a.kept hg hx Mco,b.kept hg hx Mco⟩
theorem dsF{W:World}{a c:Nat}{x0 x1 x2 x3 x4 x5 x6 z0 z1 z2 z3 z4 z5 z6:Value}{t u:TypeId}{f:Nat×Nat}(h:W.heap[a]?=some (.cells #[x0,x1,x2,x3,x4,x5,x6] t f)/\W.heap[c]?=some (.cells #[z0,z1,z2,z3,z4,z5,z6] u (0,0))):
 (W.heap[a]?=some (.cells #[x0,x1,x2,x3,x4,x5,x6] t f)/\W.heap[c]?=some (.cells #[z0,z1,z2,z3,z4,z5,z6] u (0,0)))/\(W.cell? ⟨a,0,none⟩=some x0/\W.cell? ⟨a,1,none⟩=some x1/\W.cell? ⟨a,2,none⟩=some x2/\W.cell? ⟨a,3,none⟩=some x3/\W.cell? ⟨a,4,none⟩=some x4/\W.cell? ⟨a,5,none⟩=some x5/\W.cell? ⟨a,6,none⟩=some x6)/\(W.cell? ⟨c,0,none⟩=some z0/\W.cell? ⟨c,1,none⟩=some z1/\W.cell? ⟨c,2,none⟩=some z2/\W.cell? ⟨c,3,none⟩=some z3/\W.cell? ⟨c,4,none⟩=some z4/\W.cell? ⟨c,5,none⟩=some z5/\W.cell? ⟨c,6,none⟩=some z6)/\(∀j,W.frozen? ⟨c,j,none⟩=false)/\a<W.heap.size/\c<W.heap.size:=
 ⟨h,zaG h.1,zaG h.2,frz h.2,zab h.1,zab h.2⟩
theorem ds_boxes{w:World}(o0 o1:Obj):Hid (Below w.heap.size w ((w.alloc o0).alloc o1))/\Hid (∀W,Below ((w.alloc o0).alloc o1).heap.size ((w.alloc o0).alloc o1) W->W.heap[w.heap.size]?=some o0/\W.heap[w.heap.size+1]?=some o1):=by
 refine⟨by show Below _ _ _;exact Bw,fun W hB=>⟨?_,?_⟩⟩
 ·exact(hB.block _ Mcr).trans (zak (zas _ _ _ rfl))
 ·exact(hB.block _ Mcp).trans (zas _ _ _ Mcp)
theorem rDies_any(laws:List Law)(s:St)(wd rd:List Deed)(LA CA MA DA WA RA GA:Option Addr)(c0 c1 c2 c3 c4 c5 c6:Nat)(n:ByteArray)(day:Int)(w:World)(h:StIn w laws s wd rd LA CA MA DA WA RA GA c0 c1 c2 c3 c4 c5 c6)(hk:StLink s wd rd)(hf:StFew s wd rd)(aY:zaA laws=0)(hW:WillOk (zbw s n))(pM:∀a,¬Desc s a a)(bW:(zbw s n).length<=8)
 (bf:∀g∈s.graves,GoodG g/\g.holders.length<=50000)(kT:∀g∈s.graves,g.died.length<=1000)(hel:∀hs,zcE s (zbb laws day) n=some hs->hs.length<=1000/\GoodParts hs/\sumQ hs<=1/\zaF hs=false):
 Calls Tryz.prog 112 #[.agg #[.slice LA laws.length c0,.slice CA s.children.length c1,.slice MA s.marriages.length c2,.slice DA s.dead.length c3,.slice WA wd.length c4,.slice RA rd.length c5,.slice GA s.graves.length c6],.string n,.int .i64 day] w (zkS w laws (zpx laws s n day)):=by
 obtain⟨R,hR⟩:∃R,R=zpx laws s n day:=⟨_,rfl⟩
 rw[<-hR];unfold zpx at hR;obtain⟨gxs,hm,bH,bu⟩:=gx_of h.graves;obtain⟨HM,dG,ca,eb,ig,H,HK,HF⟩:=yH8 hm bH bu bf kT (fun W (hB:Below w.heap.size w W)=>h.keep hB) hk hf;have kG:=zHi (fun W (hB:Below w.heap.size w W)=>zn0 laws s wd rd LA CA MA DA WA RA GA c0 c1 c2 c3 c4 c5 c6 n day W (H.o W hB) hk hf aY hW pM bW);obtain⟨HH,tO⟩:∃HH,HH=zcE s (zbb laws day) n:=⟨_,rfl⟩
 rw[<-tO]at hR kG hel;have eI:=zHi hel;have oJ:=hf.graves;have xo:gxs.length=s.graves.length:=by rw[<-hm,List.length_map]
 obtain⟨D0,ou⟩:∃D0,D0=zb2 s n day HH 0 s.graves:=⟨_,rfl⟩
 rw[<-ou]at hR;obtain⟨I8,HR⟩:=yH2 ou hR;unfold zkO at kG;clear h hk hf aY hW pM bW bf kT hel hm bH bu tO ou hR;go_enter Tryz.func112,Tryz.ntmps112
 go_upto_region 1 with fail
 obtain⟨W0,ao⟩:∃W0,W0=(w.alloc (.cells #[.slice LA laws.length c0,.slice CA s.children.length c1,.slice MA s.marriages.length c2,.slice DA s.dead.length c3,.slice WA wd.length c4,.slice RA rd.length c5,.slice GA s.graves.length c6] 41)).alloc (.cells #[.slice none 0 0,.slice none 0 0,.slice none 0 0,.slice none 0 0,.slice none 0 0,.slice none 0 0,.slice none 0 0] 41):=⟨_,rfl⟩
 obtain⟨ak,aw⟩:Hid (Below w.heap.size w W0)/\Hid (∀W,Below W0.heap.size W0 W->W.heap[w.heap.size]?=some (.cells #[.slice LA laws.length c0,.slice CA s.children.length c1,.slice MA s.marriages.length c2,.slice DA s.dead.length c3,.slice WA wd.length c4,.slice RA rd.length c5,.slice GA s.graves.length c6] 41)/\W.heap[w.heap.size+1]?=some (.cells #[.slice none 0 0,.slice none 0 0,.slice none 0 0,.slice none 0 0,.slice none 0 0,.slice none 0 0,.slice none 0 0] 41)):=by
  rw[ao];exact ds_boxes _ _
 rw[<-ao];clear ao;have ay:=ak.o.size;obtain⟨⟨xs0,xr0⟩,⟨s0,s1,s2,s3,s4,s5,s6⟩,⟨r0,r1,r2,r3,r4,r5,r6⟩,rf,ls,lr⟩:=dsF (aw.o W0 (Below.refl _ _));go_upto_region 2 with(go_at_call 153;go_must(refine(kG.o _ ak.o).mono ?_);rintro e w1 ⟨EA,ec,hs,lg,rfl,FL,b1,_,hE⟩)
 obtain⟨pC,HE,aB⟩:=yH3 FL hE b1;have gw:=b1.size;clear FL hE b1;clear xs0 xr0 s0 s1 s2 s3 s4 s5 s6 r0 r1 r2 r3 r4 r5 r6 rf ls lr;obtain⟨⟨xs0,xr0⟩,⟨s0,s1,s2,s3,s4,s5,s6⟩,⟨r0,r1,r2,r3,r4,r5,r6⟩,rf,ls,lr⟩:=dsF (aw.o w1 (aB.o))
 go_upto_region 4 with(at_builtin
                       go_loud(refine zau (v:=.slice (some ⟨w1.heap.size,0,none⟩) 0 0) (n:=0) (m:=s.graves.length) rfl _ _ rfl zhn zcO zjY rfl (xs:=[]) (ys:=gxs) (zjZ w1 w1.heap.size (Nat.le_refl _)) rfl rfl xo.symm (ca.o.keep (ak.o.trans ((aB.o.trans (Below.mono (B:=w1.heap.size) Bw gw)).mono ay))) McS Mcm Mcp ?_)
                       intro v2 w2 h1 h2 h3;rw[List.nil_append]at h1;have bF:Below w1.heap.size w1 w2:=Below.grown (zac (Below.refl _ _) _) h2 Mcp Mc0;obtain⟨d9,aA⟩:=yH2 h1 bF;obtain⟨V2,c2',rfl,_,_⟩:=h1.sl zcO
                       clear h1 h2 h3 bF)
 obtain⟨ga,go,hV⟩:∃ga go,s.graves≠[]->V2=some ⟨ga,go,none⟩/\w1.heap.size<=ga/\RowC w2 189 ga go 5 (gxs.map GX.cells):=by
  by_cases ai:s.graves=[]
  ·exact⟨0,0,fun h=>absurd ai h⟩
  ·have hl:0<s.graves.length:=List.length_pos_iff.2 ai;have ho:=d9.o;have dg:=ho.ge;obtain⟨A,c9,e9,hS,_⟩:=ho.sl zcO;obtain⟨rfl,rfl⟩:V2=A/\c2'=c9:=by simpa[xo]using e9
   obtain⟨gb,gof,rfl,_⟩:=hS Mcm;exact⟨gb,gof,fun _=>⟨rfl,(dg gb rfl).1,ho.row zcO⟩⟩
 have HV:=zHi hV;have kP:=aA.o.size;have I9:Hid (D0=(zb2 s n day HH 0 (s.graves.drop 0)).map (([]:List GX).map (·.g)++ ·)):=by
  show _=_;rw[I8.o,List.drop_zero];cases zb2 s n day HH 0 s.graves<;>rfl
 have Fn:HH=if lg then none else some hs:=by rcases HE.o with⟨h1,rfl⟩|⟨h1,rfl⟩<;>rw[h1]<;>rfl
 have zm:=zHi Fn;clear hV Fn;clear xs0 xr0 s0 s1 s2 s3 s4 s5 s6 r0 r1 r2 r3 r4 r5 r6 rf ls lr;go_upto_region 5 with fail
 go_loopw [9,10,12] (fun v9 v10 i wr=>∃(k:Nat) (l f:Bool) (dx:List GX),k<=s.graves.length/\i=.int .i64 k/\v9=.bool l/\v10=.bool f/\dx.length=k/\Hid (s.graves≠[]->RowC wr 189 ga go 5 ((dx++gxs.drop k).map GX.cells))/\Hid (∀x∈dx,okR gxs wr x)/\Hid ((f&&l)=true->D0=none)/\Hid ((f&&l)=false->D0=(zb2 s n day HH k (s.graves.drop k)).map (dx.map (·.g)++ ·)/\HH=if l then none else some hs)/\Below w1.heap.size w1 wr/\w2.heap.size<=wr.heap.size) (fun _ _ i _=>s.graves.length-(intOf i).toNat)
 case atStart=>exact⟨0,lg,false,[],Nat.zero_le _,rfl,rfl,rfl,rfl,zHi fun ai=>(HV.o ai).2.2,zHi Mcp,zHi Mcp,zHi fun _=>⟨I9.o,zm.o⟩,aA.o,Nat.le_refl _⟩
 case round=>
  obtain⟨k,l,f,dx,hk,rfl,rfl,rfl,iy,BL,fV,nU,kL,hB,ic⟩:=hrel;obtain⟨WR,oz⟩:∃WR,WR=wr:=⟨_,rfl⟩
  subst oz;have aE:=hB.size;have ct:=aB.o.trans (hB.mono gw);obtain⟨HB,aW⟩:=yH2 hB ct;obtain⟨⟨xs0,xr0⟩,⟨s0,s1,s2,s3,s4,s5,s6⟩,⟨r0,r1,r2,r3,r4,r5,r6⟩,rf,ls,lr⟩:=dsF (aw.o WR (ct));by_cases aa:k<s.graves.length
  ·have ai:s.graves≠[]:=fun e=>by rw[e]at aa;simp at aa
   obtain⟨rfl,Ao,_⟩:=HV.o ai;have bS:=zHi (BL.o ai);have kW:k<gxs.length:=Mcm;have bj:((dx++gxs.drop k).map GX.cells)[k]?=some gxs[k].cells:=by
    rw[List.getElem?_map,List.getElem?_append_right Mcm,iy,Nat.sub_self,List.getElem?_drop,Nat.add_zero,List.getElem?_eq_getElem kW];rfl
   have pQ:gxs[k].g=s.graves[k]:=by
    have:s.graves[k]?=some gxs[k].g:=by rw[<-HM.o,List.getElem?_map,List.getElem?_eq_getElem kW];rfl
    rw[List.getElem?_eq_getElem aa]at this;exact(Option.some.inj this).symm
   have mW:gxs[k]∈gxs:=List.getElem_mem kW;have p9:gxs[k].g∈s.graves:=by rw[pQ];exact List.getElem_mem aa
   have tZ:s.graves.drop k=gxs[k].g::s.graves.drop (k+1):=by rw[pQ];exact List.drop_eq_getElem_cons aa
   have Ga:gxs.drop k=gxs[k]::gxs.drop (k+1):=List.drop_eq_getElem_cons kW;have am:=zHi aa;generalize gxs[k]=x at*;have jJ:=dG.o x mW;obtain⟨dh,cx⟩:=eb.o x.g p9;have bA:=ig.o x.g p9;obtain⟨Bc,pD,bp,zf,AY,dZ⟩:=yH6 dh (fun W (hB:Below w.heap.size w W)=>jJ.keep hB) mW tZ Ga bj;have i0:WR.cell? ⟨ga,go+k*5,none⟩=some (.string x.g.place):=by have:=bS.o.at bj (j:=0) rfl;simpa using this
   have i3:WR.cell? ⟨ga,go+k*5+3,none⟩=some (.slice x.H x.g.holders.length x.hc):=bS.o.at bj (j:=3) rfl;have i4:WR.cell? ⟨ga,go+k*5+4,none⟩=some (.slice x.D x.g.died.length x.dc):=bS.o.at bj (j:=4) rfl;have DX:ga<WR.heap.size:=bS.o.lt;have au:(k:Int)<(s.graves.length:Int):=Mcm;have aP:(0:Int)<=(k:Int):=Mcm;have aS:=ak.o.trans (ct.mono ay);have nt:=zHi (zfp x.g.holders n x.H x.hc WR Mcm (pD.o WR aS).1);have bW:=zdT x.g.holders n;have iQ:=zHi (fun W (hB:Below w.heap.size w W)=>zh0 x.g.holders n x.H x.hc W Mcm (pD.o W hB).1);have ho:=zbB dh.good n;have qb:=zcF n dh.small;have aV:=zds dh.good n;have ql:=zcg (n:=n) dh.good;have Hl:=zbK (n:=n) dh.good;have yR:=zd7 n dh.small;have Gi:∀b,zaP s x.g.place day=some k->(zag x.g.holders n==0)=b->zdo s n day k x.g=!b:=by
    intro b e1 e2;unfold zdo;rw[e1,bne,e2];simp
   have ub:¬zaP s x.g.place day=some k->zdo s n day k x.g=false:=by
    intro e1;unfold zdo;cases hx:zaP s x.g.place day==some k
    ·rw[Bool.and_false]
    ·exact absurd (by simpa using hx) e1
   have Ap:zag x.g.holders n=0->zdo s n day k x.g=false:=by
    intro e1;unfold zdo;rw[e1];rfl
   obtain⟨cJ,Ie,Ic,Bf⟩:=yH4 (fun(pre:List Grave) (hh:zdo s n day k x.g=false)=>zpy (H:=HH) (l:=s.graves.drop (k+1)) (pre:=pre) hh) (fun(pre:List Grave) hs out (hh:zdo s n day k x.g=true) hg=>zpz (s:=s) (n:=n) (day:=day) (hs:=hs) (out:=out) (l:=s.graves.drop (k+1)) (pre:=pre) hh hg) (fun(pre:List Grave) (hh:zdo s n day k x.g=true) hg=>zp0 (H:=HH) (l:=s.graves.drop (k+1)) (pre:=pre) hh hg) (show(zaP s x.g.place day=some k->zag x.g.holders n≠0->zdo s n day k x.g=true) from fun e1 e2=>by rw[Gi false e1 (by simpa using e2)];rfl);have si:sumQ x.g.holders<=1:=by
    rcases dh.one with e|e
    ·rw[e];decide
    ·rw[e];exact Rat.le_refl
   generalize zag x.g.holders n=sh at*;generalize zat x.g.holders n=wo at*;have iH:zaJ sh:=zcb ho McG qb;unfold zaC at nt;clear bj pQ p9 tZ Ga mW jJ dh aa ai Gi ct BL;go_upto_region 8 with(go_at_call 142;go_must(refine(nt.o).mono ?_);rintro e wq ⟨rfl,z2,rfl⟩)
   obtain⟨SB,jn⟩:∃SB,SB=WR.heap.size+z2.os.size:=⟨_,rfl⟩
   obtain⟨W3,bm⟩:∃W3,W3=(WR.ext z2).alloc (.cells #[.int .i64 (sh).num,.int .i64 (sh).den] 56):=⟨_,rfl⟩
   have gS:W3.heap[SB]?=some (.cells #[.int .i64 (sh).num,.int .i64 (sh).den] 56):=by rw[bm];exact zas _ _ _ (by rw[jn];simp[zaf])
   have aC:Below WR.heap.size WR W3:=by rw[bm];exact zac (zap WR z2) _
   rw[<-bm,<-jn];clear bm jn i0 i3 i4;clear xs0 xr0 s0 s1 s2 s3 s4 s5 s6 r0 r1 r2 r3 r4 r5 r6 rf ls lr;have jq:=aC.size;have aL:=zHi aC;have s7:=aW.o.trans (aC.mono Md9);obtain⟨uE,lQ⟩:=yH2 s7 (bS.o.keep aC);obtain⟨q0,q1⟩:=zbl gS;have rJ:=zab gS;have GS:=zHi gS;obtain⟨⟨xs0,xr0⟩,⟨s0,s1,s2,s3,s4,s5,s6⟩,⟨r0,r1,r2,r3,r4,r5,r6⟩,rf,ls,lr⟩:=dsF (aw.o W3 (s7));clear s7 aC gS;have i0:W3.cell? ⟨ga,go+k*5,none⟩=some (.string x.g.place):=by have:=lQ.o.at dZ.o (j:=0) rfl;simpa using this
   have DY:ga<W3.heap.size:=lQ.o.lt;by_cases hz:sh=0
   ·have mX:(sh.num==0)=true:=by rw[hz];rfl
    have dY:=cJ.o (dx.map (·.g)) (Ap hz);rw[<-zf.o]at dY;have EX:=zHi dY;clear hz Ap ub dY ho qb aV ql iH
    (refine zaj Mcn Mcn ?_
     repeat(first|go_big_quiet_skip|(go_big_quiet_want;go_big_quiet_op;first|go_big_quiet_on|(apply Exists.intro;refine⟨fun _=>?_,?_⟩;(fail);go_big_quiet_on)))
     refine wpQuiet_nil ?_
     rintro _ ⟨zq,rfl⟩)
    exact MJ
   have mX:(sh.num==0)=false:=by
    exact Ma9
   have eu:=zHi (fun W (hB:Below W3.heap.size W3 W)=>zmo x.g.place day W (H.o W (ak.o.trans ((uE.o.trans (hB.mono (by have:=uE.o.size;omega))).mono ay))) HF.o);by_cases aT:zaP s x.g.place day=some k;rotate_left 1
   ·have dY:=cJ.o (dx.map (·.g)) (ub aT);rw[<-zf.o]at dY;have EX:=zHi dY;have kU:=grav_ne aT;generalize zkG s.graves x.g.place day=gi at*;have KK:(gi==(k:Int))=false:=by simpa using kU
    have KL:(gi != (k:Int))=true:=by simpa using kU
    clear hz Ap ub dY aT kU ho qb aV ql iH
    (refine zaj Mcn Mcn ?_
     repeat(first|go_big_quiet_skip|(go_big_quiet_want;go_big_quiet_op;first|go_big_quiet_on|(apply Exists.intro;refine⟨fun _=>?_,?_⟩;((go_at_call 138;exact quietx (eu.o _ Bw)));go_big_quiet_on)))
     refine wpQuiet_nil ?_
     rintro _ ⟨zq,rfl⟩)
    exact MJ
   have pS:=Bf.o aT hz;rw[ze0 aT]at eu;have Eu:=zHi pS;clear Ap ub aT pS
   (refine zaj Mcn Mcn ?_
    repeat(first|go_big_quiet_skip|(go_big_quiet_want;go_big_quiet_op;first|go_big_quiet_on|(apply Exists.intro;refine⟨fun _=>?_,?_⟩;((go_at_call 138;exact quietx (eu.o _ Bw)));go_big_quiet_on)))
    refine wpQuiet_nil ?_
    rintro _ ⟨zq,rfl⟩)
   obtain⟨W4,ir⟩:∃W4,W4=W3.ext zq:=⟨_,rfl⟩
   have aD:Below W3.heap.size W3 W4:=by rw[ir];exact zap _ _
   rw[<-ir];have Kh:=aD.size;obtain⟨eo,GS4⟩:=yH2 (aL.o.trans (aD.mono jq)) ((aD.block SB rJ).trans GS.o);have s9:=aW.o.trans (eo.o.mono Md9);have I2:=zHi s9;have i3:W4.cell? ⟨ga,go+k*5+3,none⟩=some (.slice x.H x.g.holders.length x.hc):=(bS.o.keep eo.o).at dZ.o (j:=3) rfl;have Lr:ga<W4.heap.size:=(bS.o.keep eo.o).lt;have rK:SB<W4.heap.size:=Mcm;have rj:=zHi (iQ.o W4 (ak.o.trans (s9.mono ay)));have qI:Hid (l=false->HH=some hs/\hs.length<=1000/\GainSt sh wo hs):=zHi fun hl=>by
    have tO:=(kL.o (by rw[hl,Bool.and_false])).2;rw[hl]at tO;obtain⟨e1,e2,e3,e4⟩:=eI.o hs tO;have hp:∀p∈hs,0<=p.2:=fun p hp=>by have:=e2.pos p hp;grind
    have:=Rat.mul_le_mul_of_nonneg_left e3 ho;exact⟨tO,e1,Hl,yR,by grind,hp⟩
   obtain⟨jh,lM⟩:=yH2 ho iH;clear ir i0 q0 q1 rJ s9 aD hz mX ho qb aV ql Hl yR iH si DY DX;clear xs0 xr0 s0 s1 s2 s3 s4 s5 s6 r0 r1 r2 r3 r4 r5 r6 rf ls lr;go_upto_region 11 with(go_at_call 143;go_must(refine(rj.o).mono ?_);rintro e w5 ⟨v5,rfl,o5,b5⟩)
   obtain⟨jg,bl⟩:=yH2 o5 b5;have C7:=b5.size;clear i3 o5 b5;go_upto_region 12 with fail
   go_loopw [9,14,15] (fun v9 v14 j wr=>∃(i:Nat) (l':Bool) (out:Parts),i<=hs.length/\j=.int .i64 i/\v9=.bool l'/\OwnS wr W4.heap.size 62 3 zaa v14 out/\out.length<=50000+i/\Below w5.heap.size w5 wr/\Hid (l'=false->l=false/\zb9 sh hs wo=zb9 sh (hs.drop i) out/\GainSt sh out (hs.drop i))/\Hid (l'=true->l=true\/zb9 sh hs wo=none)) (fun _ _ j _=>hs.length-(intOf j).toNat)
   case atStart=>exact⟨0,l,wo,Nat.zero_le _,rfl,rfl,jg.o,by omega,Below.refl _ _,zHi fun e=>⟨e,rfl,(qI.o e).2.2⟩,zHi fun e=> .inl e⟩
   case round=>
    obtain⟨i,l',out,hi,rfl,rfl,ae,iZ,vL,zo,qN⟩:=hrel;have rW:=vL.size;obtain⟨ie,qo,lq,HO⟩:=yH4 (bl.o.trans (vL.mono C7)) vL vL ae;have CG:wr.heap[SB]?=_:=(ie.o.block SB rK).trans GS4.o;obtain⟨q0,q1⟩:=zbl CG;have JX:=zab CG;have wQ:Below w1.heap.size w1 wr:=HB.o.trans ((eo.o.trans (ie.o.mono (by have:=eo.o.size;omega))).mono aE);have vD:=zHi (pC.o.keep wQ);clear vL wQ CG;by_cases hlti:i<hs.length
    ·have xt:(i:Int)<(hs.length:Int):=Mcm;have fk:(0:Int)<=(i:Int):=Mcm;cases l'
     ·obtain⟨jD,gI,aK⟩:=zo.o rfl;obtain⟨b,off,hA,hb,ah⟩:=vD.o.at hlti;have gH:hs.drop i=hs[i]::hs.drop (i+1):=List.drop_eq_getElem_cons hlti;rw[gH]at aK gI;have kV:=(qI.o jD).2.1;have cU:=zHi hlti;have sN:0<hs[i].2/\hs[i].2<=1/\zaJ hs[i].2:=by
       obtain⟨_,e2,e3,e4⟩:=eI.o hs (qI.o jD).1;exact zdG (hs:=hs) ⟨e2,e4,e3⟩ (List.getElem_mem hlti)
      clear gH;generalize hs[i]=y at*;obtain⟨nm,q⟩:=y;simp only at sN;have i0:wr.cell? ⟨b,off+i*3,none⟩=some (.string nm):=ah 0 _ rfl;have i1:wr.cell? ⟨b,off+i*3+1,none⟩=some (.int .i64 q.num):=ah 1 _ rfl;have i2:wr.cell? ⟨b,off+i*3+2,none⟩=some (.int .i64 q.den):=ah 2 _ rfl;have kJ:=zHi (fun W=>zgC sh q W lM.o sN.2.2);unfold zaC at kJ;obtain⟨p1,p2⟩:=aK.more jh.o;obtain⟨dF,kM⟩:=yH2 (fun hl=>aK.next jh.o hl) (aK.parts jh.o);rw[zms]at gI;obtain⟨mo,xO⟩:∃mo,mo=sh*q:=⟨_,rfl⟩
      rw[<-xO]at gI kJ p1 p2 dF;obtain⟨lO,uT,pm⟩:=yH3 (And.intro p1 p2) gI jD;clear ah aK gI hlti sN p1 p2 xO ae jD;subst hA;go_upto_region 14 with fail
      refine zdB 7 _ _ (.cells #[.int .i64 0,.int .i64 0] 56) (.cells #[.int .i64 (mo).num,.int .i64 (mo).den] 56) Mcn Mcn rfl rfl ?hrun ?_
      case hrun=>intro a W;kernel_rfl
      simp only[List.take_succ_cons,List.take_zero];repeat(refine zeO (fun K hK=>?_);simp only[grow];go_simp;first|(refine hK _ ?_;clear hK K)|(apply Exists.intro;refine⟨fun _=>?_,hK _ ?_⟩;((go_at_call 144;exact quietg (kJ.o _)));clear hK K))
      refine zfH ⟨?hstore,?hlast⟩
      case hstore=>
       exact MH
      case hlast=>
       rintro MB W9 ⟨z9,wI⟩ JK gM;have cP:Below wr.heap.size wr W9:=by rw[wI];exact zap _ _
       have Ca:=cP.size;have qP:=zHi cP;obtain⟨m0,m1⟩:=zbl gM;have rB:=zab gM;have i9:W9.cell? ⟨b,off+i*3,none⟩=some (.string nm):=(zah cP hb).trans i0;have CX:b<W9.heap.size:=Mcm;clear wI cP i0 i1 i2 q0 q1;by_cases sR:1000000000<(mo.den:Int)
       ·have kU:zb9 sh hs wo=none:=by rw[uT.o,if_pos (by simp[bigQ,sR])]
        have Ik:=zHi kU;clear kU;go_wp2_with fail
        go_round
        case rel=>exact⟨i+1,true,out,cU.o,by go_num,rfl,HO.o.keep qP.o,by omega,(qo.o).trans (qP.o.mono rW),zHi Mcp,zHi fun _=> .inr Ik.o⟩
        case measure=>have:=cU.o;simp only[intOf];omega
       ·have be:bigQ mo=false:=by simpa[bigQ]using sR
        have bf:=uT.o;rw[be,if_neg Mcp]at bf;have Bb:=zHi bf;have mI:=zcb lO.o.1 lO.o.2 be;obtain⟨OV,oc,rfl,_,_⟩:=HO.o.sl zan;have ew:=zHi (fun W (hW:Below wr.heap.size wr W)=>zcN out nm mo OV oc W (by have:=cU.o;omega) kM.o mI (ziQ zan (HO.o.keep hW)).1);unfold zaC at ew;have cx:=zcw nm mo out;go_upto_region 17 with fail
        have ax:=zHi (fun(W:World) (h:Below W9.heap.size W9 W)=>(show W.cell? ⟨b,off+i*3,none⟩=some (.string nm)/\W.cell? ⟨MB,0,none⟩=some (.int .i64 mo.num)/\W.cell? ⟨MB,1,none⟩=some (.int .i64 mo.den) from⟨(zah h CX).trans i9,(zah h rB).trans m0,(zah h rB).trans m1⟩));clear bf mI be sR i9 m0 m1;refine zaB 7 (fun bb w'=>bb=true\/(w'.cell? ⟨b,off+i*3,none⟩=some (.string nm)/\w'.cell? ⟨MB,0,none⟩=some (.int .i64 mo.num)/\w'.cell? ⟨MB,1,none⟩=some (.int .i64 mo.den))) Mcn (.inr (ax.o _ (zaH (Below.refl _ _)))) ?hrest
        case hrest=>
         intro hHeld;refine TkM 0 ?_;refine TkM 1 ?_;refine TkM 2 ?_;refine TkM 3 ?_;refine TkM 4 ?_;refine TkM 5 ?_;refine TkM 6 ?_;refine OnM 7 true fun K hK=>?_
         go_simp
         refine(ew.o _ (zaH qP.o)).mono ?_;rintro e w10 ⟨v10,rfl,o10,b10⟩;refine NxM hK fun hHeld=>?_
         clear hK K;refine OnM 8 true fun K hK=>?_
         go_simp
         refine NxM hK fun hHeld=>?_
         clear hK K;refine zaI Mcn ?_ _;clear hHeld;obtain⟨YA,yc,rfl,pf,_⟩:=o10.sl zan;have jp:Below W9.heap.size W9 w10:=(zaH (Below.refl _ _)).trans b10;obtain⟨vj,nY,cr⟩:=yH3 (qP.o.trans (jp.mono Ca)) (o10.base_le (show W4.heap.size<=W9.drew.heap.size by show W4.heap.size<=W9.heap.size;omega)) (fun W (h:Below w10.heap.size w10 W)=>zdH (za4 out nm mo) YA yc W (by have:=cU.o;omega) (pf.keep h));clear o10 b10 pf jp rB;have hx:=Bb.o;cases hlg:zaF (za4 out nm mo)
         ·rw[hlg]at hx cr;have aH:=zHi (dF.o hlg);rw[if_neg Mcp]at hx;have kh:=zHi hx;clear hx hlg;generalize za4 out nm mo=out1 at*;go_wp2_with (go_at_call 146;go_must(refine(cr.o _ Bw).mono ?_);rintro e wq ⟨rfl,rfl⟩)
          go_round
          case rel=>exact⟨i+1,false,out1,cU.o,by go_num,rfl,nY.o,by omega,(qo.o).trans (vj.o.mono rW),zHi fun _=>⟨pm.o,kh.o,aH.o⟩,zHi Mcp⟩
          case measure=>have:=cU.o;simp only[intOf];omega
         ·rw[hlg]at hx cr;rw[if_pos rfl]at hx;have kh:=zHi hx;clear hx hlg;generalize za4 out nm mo=out1 at*;go_wp2_with (go_at_call 146;go_must(refine(cr.o _ Bw).mono ?_);rintro e wq ⟨rfl,rfl⟩)
          go_round
          case rel=>exact⟨i+1,true,out1,cU.o,by go_num,rfl,nY.o,by omega,(qo.o).trans (vj.o.mono rW),zHi Mcp,zHi fun _=> .inr kh.o⟩
          case measure=>have:=cU.o;simp only[intOf];omega
     ·exact Mj
    ·have xt:¬(i:Int)<(hs.length:Int):=Mcm;cases l'
     ·obtain⟨jD,gI,_⟩:=zo.o rfl;rw[List.drop_of_length_le Mcm,zb9]at gI;have ou:D0=(zb2 s n day HH (k+1) (s.graves.drop (k+1))).map ((dx.map (·.g)++[{x.g with holders:=out,died:=x.g.died++[n]}])++ ·):=by
       obtain⟨h1,h2⟩:=kL.o (by rw[jD,Bool.and_false]);rw[jD]at h2;have h2:HH=some hs:=h2;rw[h1,zf.o,h2];exact Ie.o _ hs out Eu.o gI
      have Fm:HH=some hs:=by
       obtain⟨_,h2⟩:=kL.o (by rw[jD,Bool.and_false]);rw[jD]at h2;exact h2
      obtain⟨HN,kK⟩:=yH2 ou Fm;clear ou Fm gI jD;obtain⟨OV,oc,rfl,_,xX⟩:=HO.o.ro;have jr:=eo.o.trans (ie.o.mono eo.o.size);have bh:=bS.o.keep jr;obtain⟨gcur,dK,_⟩:=bh.row;have j3:wr.cell? ⟨ga,go+k*5+3,none⟩=some (.slice x.H x.g.holders.length x.hc):=bh.at dZ.o (j:=3) rfl;have jf:=bh.frz;have oJ:=bh.lt;obtain⟨qU,lD,BF,jY⟩:=yH4 bh dK xX jr;clear xX jr bh dK;go_upto_region 20 with fail
      obtain⟨V1,nC⟩:∃V1,V1=wr.setCell ⟨ga,go+k*5+3,none⟩ (.slice OV out.length oc):=⟨_,rfl⟩
      have gJ:wr.grownBy V1 (some ga):=by rw[nC];exact zar _ _ _ _
      have fJ:RowC V1 189 ga go 5 (((dx++gxs.drop k).map GX.cells).set k (x.cells.set 3 (.slice OV out.length oc))):=by rw[nC];exact qU.o.set dZ.o Mco
      have rZ:Below w1.heap.size w1 V1:=MdL;rw[<-nC];have CK:WR.heap.size<=V1.heap.size:=Nat.le_trans jY.o.size gJ.size;clear nC j3 jf oJ;have Hn:=hxd5 fJ dZ.o;obtain⟨jO,uB⟩:=yH2 fJ rZ;have KH:=fJ.lt;have vp:=zHi (BF.o.kept gJ lD.o Mco);have uI:=zHi (fun y hy=>(((fV.o y hy).keep jY.o).kept gJ lD.o:okR gxs V1 y));have C1:=zHi (pD.o V1 (ak.o.trans ((aB.o.trans (rZ.mono gw)).mono ay))).2;clear fJ rZ gJ
      go_wp2_with (first
       |(at_builtin
         go_loud(refine zau (v:=.slice (some ⟨V1.heap.size,0,none⟩) 0 0) (n:=0) (m:=x.g.died.length) rfl _ _ rfl zbM zaD zbL rfl (xs:=[]) (ys:=x.g.died) (zdW zaD V1 V1.heap.size (Nat.le_refl _)) rfl rfl rfl (C1.o.keep (zac (Below.refl _ _) _)) McS Mcm Mcp ?_)
         intro v3 w3 h1 h2 h3;rw[List.nil_append]at h1;have aC:Below V1.heap.size V1 w3:=Below.grown (zac (Below.refl _ _) _) h2 Mcp Mc0;obtain⟨V3,vc3,rfl,_,_⟩:=h1.sl zaD;obtain⟨nk,lj⟩:=yH2 h1 aC;have rp:=aC.size
         clear h1 h2 h3 aC)
       |(at_builtin
         go_loud(refine zau (v:=.slice V3 x.g.died.length vc3) (n:=x.g.died.length) (m:=1) rfl _ _ rfl zbM zaD zbL rfl (xs:=x.g.died) (ys:=[n]) (nk.o.keep (n:=w3.heap.size) (zac (Below.refl _ _) _)) rfl rfl rfl (zd4 (zas _ _ _ rfl)) McS Mcm Mcr ?_)
         intro v6 w6 h1 h2 h3;have aG:Below V1.heap.size V1 w6:=Below.grown (zac lj.o _) h2 Mcr (fun j hj=>(nk.o.ge j hj).1);obtain⟨A6,vc6,du,_,_⟩:=h1.sl zaD;rw[List.length_append]at du;subst du;obtain⟨lK,eH⟩:=yH2 h1 aG;have eF:=jO.o.keep aG;have i4:w6.cell? ⟨ga,go+k*5+4,none⟩=some (.slice x.D x.g.died.length x.dc):=hxd5 eF dZ.o;have jf6:=eF.frz;have Du:=eF.lt;have CW:=aG.size
         clear h1 h2 h3 aG eF))
      go_round
      case rel=>
       have eF:=jO.o.keep eH.o;rw[AY.o]at eF;obtain⟨gcur6,mz,_⟩:=eF.row;refine⟨k+1,false,true,dx++[(⟨{x.g with holders:=out,died:=x.g.died++[n]},OV,oc,A6,vc6⟩:GX)],am.o,by go_num,rfl,rfl,by rw[List.length_append,iy];rfl,zHi fun _=>row_two iy eF,zHi fun y hy=>?_,zHi Mcp,zHi fun _=>⟨by rw[HN.o,List.map_append];rfl,kK.o⟩,zaL (uB.o.trans (eH.o.mono uB.o.size)) Ao _,by simp;omega⟩;exact Mb2
      case measure=>have:=am.o;simp only[intOf];omega
     ·exact Mj
  ·have au:¬(k:Int)<(s.graves.length:Int):=Mcm;have kv:k=s.graves.length:=Mcm;have Dx:gxs.drop k=[]:=List.drop_of_length_le Mcm;have yC:s.graves.drop k=[]:=List.drop_of_length_le Mcm;have HG:Hid ((f&&l)=false->R=({s with graves:=dx.map (·.g),dead:=s.dead++[n]},0)):=zHi fun dJ=>by
    obtain⟨h1,_⟩:=kL.o dJ;rw[yC,zb2]at h1;rw[HR.o,h1];simp
   have d8:Hid ((f&&l)=true->R=(s,8)):=zHi fun dJ=>by rw[HR.o,nU.o dJ]
   clear yC aa hB ct;cases f
   ·exact Me
   ·cases l
    ·exact Me
    ·have HE:=zHi (d8.o rfl);clear HG d8;go_wp2_with fail
     refine bodyPost_ret (zbD rfl _ rfl rfl (zc5 xr0)) rfl ?_;exact⟨_,_,_,_,_,_,_,false,rfl,rfl,zcA (ak.o.trans (aW.o.mono ay)) (show w.heap.size<=w.heap.size+1 by omega),.inr ⟨rfl,by rw[HE.o]⟩⟩
theorem zka{laws:List Law}{s s':St}{d:Deed}(ht:zbp laws s d=(s',0)):s'.wills.length<=s.wills.length+1:=by
 have key:∀ {x:St×Int},x=(s',0)->x.1.wills.length<=s.wills.length+1->s'.wills.length<=s.wills.length+1:=fun e h=>by rw[e]at h;exact h
 refine key ht ?_;clear key ht;have h0:s.wills.length<=s.wills.length+1:=Nat.le_succ _;unfold zbp;split
 ·unfold zcH;repeat(first|split|exact h0)
 split
 ·unfold zbr;exact Mbg
 split
 ·unfold zba;exact Mbg
 split
 ·unfold zcV;exact Mbg
 split
 ·unfold zgS;split
  ·exact h0
  ·simp
 split
 ·unfold zbA;repeat(first|split|exact h0)
 split
 ·unfold zc7;repeat(first|split|exact h0)
 split
 ·unfold zdn;repeat(first|split|exact h0)
 ·unfold zdJ;repeat(first|split|exact h0)
theorem stFew_of{k:Nat}{s:St}{wd rd:List Deed}(h:FewS k s)(hw:s.wills.length<=k)(hk:k<=1000)(hL:StLink s wd rd):StFew s wd rd:=
 ⟨by have:=h.kids;omega,by have:=h.marr;omega,by have:=h.dead;omega,by rw[hL.wills,List.length_map]at hw;omega,by have:=h.ren;rw[hL.ren,List.length_map]at this;omega,by have:=h.graves;omega⟩
theorem zmt{laws:List Law}{s:St}{ds:List Deed}{d:Deed}{k:Nat}(hc:za3 d=0)(hk:ds.length=k):nxP laws s ds d=zbT laws s k (zeJ ds) d:=by
 subst hk;unfold nxP zbT;rw[if_neg (show¬(za3 d != 0)=true by rw[hc];decide)];split
 ·rfl
 ·cases hg:ds.getLast? with
  |none=>
   have h0:=(zdN hc).day.1;have hn:¬d.day<0:=Mcm;simp[zeJ,hg,hn]
  |some x=>simp[zeJ,hg]
theorem est_heirs{laws:List Law}{s:St}{n:ByteArray}{day last:Int}{k:Nat}{hs:Parts}(hG:GoodSt s last)(hF:FewS k s)(hk:k<=900)(aY:zaA laws=0)(h:zcE s (zbb laws day) n=some hs):hs.length<=1000/\GoodParts hs/\sumQ hs<=1/\zaF hs=false:=by
 have bO:=zfb aY day;have bP:=ze6 (hG.wills n) bO h;have jx:=(zfW (s:=s) (n:=n) (hG.wills n) bO).1 hs h;have kV:=ziK (s:=s) (law:=zbb laws day) (n:=n) (by rw[jx];exact bP.1);rw[jx]at kV;have h1:=hF.wills n;have h2:=hF.kids;simp only at kV;exact⟨by omega,bP.1,by rw[bP.2.1];exact Rat.le_refl,bP.2.2⟩
theorem zkb(laws:List Law)(s:St)(last:Int)(k:Nat)(d:Deed)(B:Option Addr)(c:Nat)(ds:List Deed)(DB:Option Addr)(dc:Nat)(w:World){a0 a1 a2 a3 a4 a5 a6:Value}(hs:StAt w laws s a0 a1 a2 a3 a4 a5 a6)(hG:GoodSt s last)(hF:FewS k s)(hw:s.wills.length<=k)(hk:k<=600)(aY:zaA laws=0)
 (hd:za3 d=0)(ar:d.to.length<=c)(hS:Sl w 3 RPart.cells B d.to)(gy:SlW w 7 zdY DB ds)(n:Nat)(hn:n=ds.length):Calls Tryz.prog 28 #[.agg #[a0,a1,a2,a3,a4,a5,a6],.slice DB n dc,d.v B c] w (zeT w laws (nxP laws s ds d)):=by
 subst hn;obtain⟨wd,rd,LA,CA,MA,DA,WA,RA,GA,c0,c1,c2,c3,c4,c5,c6,rfl,rfl,rfl,rfl,rfl,rfl,rfl,hI,hL⟩:=hs;have hf:=stFew_of hF hw Mcm hL;refine rNext_of laws s wd rd LA CA MA DA WA RA GA c0 c1 c2 c3 c4 c5 c6 d B c w hI hL hf (zdN hd) hS ds DB dc gy ar (fun g hg=>⟨hG.graves g hg,by have:=(hF.held g hg).1;omega⟩) (fun g hg=>(hF.held g hg).2.2) fun W hB=>?_
 exact rDies_any laws s wd rd LA CA MA DA WA RA GA c0 c1 c2 c3 c4 c5 c6 d.frm d.day W (hI.keep hB) hL hf aY (hG.wills _) hG.acyc (hF.wills _) (fun g hg=>⟨hG.graves g hg,by have:=(hF.held g hg).1;omega⟩) (fun g hg=>by have:=(hF.held g hg).2.1;omega) fun hs h=>est_heirs hG hF Mcm aY h
def zkT(w:World)(laws:List Law)(R:St×Nat×Int)(e:Ending)(w':World):Prop:=
 ∃a0 a1 a2 a3 a4 a5 a6,e=.returned (.tuple #[.agg #[a0,a1,a2,a3,a4,a5,a6],.int .i64 (R.2.1:Int),.int .i64 R.2.2])/\([a0,a1,a2,a3,a4,a5,a6].all zcG)=true/\Below w.heap.size w w'/\(R.2.2=0->StAt w' laws R.1 a0 a1 a2 a3 a4 a5 a6)
theorem st_zero{w:World}{laws:List Law}{LA:Option Addr}{c:Nat}(h:Sl w 4 Law.cells LA laws):StAt w laws zb3 (.slice LA laws.length c) (.slice none 0 0) (.slice none 0 0) (.slice none 0 0) (.slice none 0 0) (.slice none 0 0) (.slice none 0 0):=
 ⟨[],[],LA,none,none,none,none,none,none,c,0,0,0,0,0,0,rfl,rfl,rfl,rfl,rfl,rfl,rfl,⟨h,Sl.nil,Sl.nil,Sl.nil,fun h=>absurd h Mcp,fun h=>absurd h Mcp,fun h=>absurd h (by simp[zb3]),Nat.le_refl _⟩,⟨rfl,by simp,rfl,by simp⟩⟩
theorem zeP{w:World}{B:Nat}{x0 x1 x2 x3 x4 x5 x6 y z:Value}{fn:Func}{p q r:Tmp}(h:fn.results= #[.cell p 41,.tmp q,.tmp r])(tmps:Array Value)(hp:tmps.getD p undef=.pointer (some ⟨B,0,none⟩))(hq:tmps.getD q undef=y)(hr:tmps.getD r undef=z)
 (hx:w.heap[B]?=some (.cells #[x0,x1,x2,x3,x4,x5,x6] 41)):(results fn tmps).run Tryz.prog w=.ok (.tuple #[.agg #[x0,x1,x2,x3,x4,x5,x6],y,z]) w:=by
 obtain⟨h0,h1,h2,h3,h4,h5,h6⟩:=zaG hx;clear hx;have hc:(results fn tmps).run Tryz.prog w=((asAddr (tmps.getD p undef)).run Tryz.prog w).andThen fun x w₁=>((loadVar 41 x).run Tryz.prog w₁).andThen fun v w₂=> .ok (.tuple #[v,tmps.getD q undef,tmps.getD r undef]) w₂:=by
  exact Mbp
 rw[hc,hp,hq,hr];go_simp
theorem drew_heap(W:World)(k:Nat):W.drew.heap[k]?=W.heap[k]?:=rfl
structure RepAt (base TB:Nat) (W:World) (laws:List Law) (ds:List Deed) (LA DA:Option Addr) (nc mc:Nat) (s told:St) (a0 a1 a2 a3 a4 a5 a6 b0 b1 b2 b3 b4 b5 b6:Value):Prop where
 box:W.heap[base]?=some (.cells #[.slice LA laws.length nc,.slice DA ds.length mc] 25)
 res:W.heap[base+1]?=some (.cells #[.slice none 0 0,.slice none 0 0,.slice none 0 0,.slice none 0 0,.slice none 0 0,.slice none 0 0,.slice none 0 0] 41)
 st:W.heap[base+2]?=some (.cells #[a0,a1,a2,a3,a4,a5,a6] 41)
 tcell:W.heap[TB]?=some (.cells #[b0,b1,b2,b3,b4,b5,b6] 41)
 tb:base+2<TB
 sl:([a0,a1,a2,a3,a4,a5,a6].all zcG)=true
 sl2:([b0,b1,b2,b3,b4,b5,b6].all zcG)=true
 sAt:StAt W laws s a0 a1 a2 a3 a4 a5 a6
 tAt:StAt W laws told b0 b1 b2 b3 b4 b5 b6
section
variable {base TB:Nat} {W W':World} {laws:List Law} {ds:List Deed} {LA DA:Option Addr} {nc mc:Nat} {s told s':St} {a0 a1 a2 a3 a4 a5 a6 b0 b1 b2 b3 b4 b5 b6 d0 d1 d2 d3 d4 d5 d6:Value}
theorem RepAt.keep(h:RepAt base TB W laws ds LA DA nc mc s told a0 a1 a2 a3 a4 a5 a6 b0 b1 b2 b3 b4 b5 b6)(hB:Below W.heap.size W W'):RepAt base TB W' laws ds LA DA nc mc s told a0 a1 a2 a3 a4 a5 a6 b0 b1 b2 b3 b4 b5 b6:=
 ⟨(hB.block _ (zab h.box)).trans h.box,(hB.block _ (zab h.res)).trans h.res,(hB.block _ (zab h.st)).trans h.st,(hB.block _ (zab h.tcell)).trans h.tcell,h.tb,h.sl,h.sl2,h.sAt.keep hB,h.tAt.keep hB⟩
theorem zp1{w:World}{b k:Nat}{x:Obj}{a0 a1 a2 a3 a4 a5 a6:Value}(ai:k≠b)(h:w.heap[k]?=some x):(((((((w.setCell ⟨b,0,none⟩ a0).setCell ⟨b,1,none⟩ a1).setCell ⟨b,2,none⟩ a2).setCell ⟨b,3,none⟩ a3).setCell ⟨b,4,none⟩ a4).setCell ⟨b,5,none⟩ a5).setCell ⟨b,6,none⟩ a6).heap[k]?=some x:=
 J_ne ai (J_ne ai (J_ne ai (J_ne ai (J_ne ai (J_ne ai (J_ne ai h))))))
theorem RepAt.setS(h:RepAt base TB W laws ds LA DA nc mc s told a0 a1 a2 a3 a4 a5 a6 b0 b1 b2 b3 b4 b5 b6)(aV:([d0,d1,d2,d3,d4,d5,d6].all zcG)=true)(hs:StAt W laws s' d0 d1 d2 d3 d4 d5 d6):
 RepAt base TB (((((((W.setCell ⟨base+2,0,none⟩ d0).setCell ⟨base+2,1,none⟩ d1).setCell ⟨base+2,2,none⟩ d2).setCell ⟨base+2,3,none⟩ d3).setCell ⟨base+2,4,none⟩ d4).setCell ⟨base+2,5,none⟩ d5).setCell ⟨base+2,6,none⟩ d6) laws ds LA DA nc mc s' told d0 d1 d2 d3 d4 d5 d6 b0 b1 b2 b3 b4 b5 b6:=
 ⟨zp1 Mcm h.box,zp1 Mcm h.res,zc5 h.st,zp1 (by have:=h.tb;omega) h.tcell,h.tb,aV,h.sl2,(zcB h.st h.sl).st hs,(zcB h.st h.sl).st h.tAt⟩
theorem RepAt.setT(h:RepAt base TB W laws ds LA DA nc mc s told a0 a1 a2 a3 a4 a5 a6 b0 b1 b2 b3 b4 b5 b6):
 RepAt base TB (((((((W.setCell ⟨TB,0,none⟩ a0).setCell ⟨TB,1,none⟩ a1).setCell ⟨TB,2,none⟩ a2).setCell ⟨TB,3,none⟩ a3).setCell ⟨TB,4,none⟩ a4).setCell ⟨TB,5,none⟩ a5).setCell ⟨TB,6,none⟩ a6) laws ds LA DA nc mc s s a0 a1 a2 a3 a4 a5 a6 a0 a1 a2 a3 a4 a5 a6:=
 ⟨zp1 (by have:=h.tb;omega) h.box,zp1 (by have:=h.tb;omega) h.res,zp1 (by have:=h.tb;omega) h.st,zc5 h.tcell,h.tb,h.sl,h.sl,(zcB h.tcell h.sl2).st h.sAt,(zcB h.tcell h.sl2).st h.sAt⟩
end
theorem zjc(laws:List Law)(ds:List Deed)(upto:Int)(LA:Option Addr)(n nc:Nat)(DA:Option Addr)(m mc:Nat)(w:World)(hR:RightsIn w laws ds LA n nc DA m mc)(hO:∀d∈ds,zdt d)(bA:ds.length<=500):
 Calls Tryz.prog 10 #[.agg #[.slice LA n nc,.slice DA m mc],.int .i64 upto] w (zkT w laws (zaQ laws ds upto)):=by
 obtain⟨rfl,rfl,uf,kS,eC,gy⟩:=hR;obtain⟨R,hR⟩:∃R,R=zaQ laws ds upto:=⟨_,rfl⟩
 rw[<-hR];unfold zaQ at hR;obtain⟨bZ,cM,cJ,HO,qT⟩:=yH5 (fun W (hB:Below w.heap.size w W)=>zjo laws LA laws.length nc W rfl (eC.keep hB)) (fun W (hB:Below w.heap.size w W)=>(eC.keep hB:Sl W 4 Law.cells LA laws)) (fun W (hB:Below w.heap.size w W)=>(gy.keep zb5 hB:SlW W 7 zdY DA ds)) hO hR;unfold zkT;clear eC gy hO hR;go_enter Tryz.func10,Tryz.ntmps10
 go_upto_region 2 with fail
 obtain⟨W0,ao⟩:∃W0,W0=((w.alloc (.cells #[.slice LA laws.length nc,.slice DA ds.length mc] 25)).alloc (.cells #[.slice none 0 0,.slice none 0 0,.slice none 0 0,.slice none 0 0,.slice none 0 0,.slice none 0 0,.slice none 0 0] 41)).alloc (.cells #[.slice LA laws.length nc,.slice none 0 0,.slice none 0 0,.slice none 0 0,.slice none 0 0,.slice none 0 0,.slice none 0 0] 41):=⟨_,rfl⟩
 have aO:Below w.heap.size w W0:=McW;have g0:W0.heap[w.heap.size]?=some (.cells #[.slice LA laws.length nc,.slice DA ds.length mc] 25):=Mds;have g1:W0.heap[w.heap.size+1]?=some (.cells #[.slice none 0 0,.slice none 0 0,.slice none 0 0,.slice none 0 0,.slice none 0 0,.slice none 0 0,.slice none 0 0] 41):=by rw[ao];exact zak (zas _ _ _ Mcp)
 have g2:W0.heap[w.heap.size+2]?=some (.cells #[.slice LA laws.length nc,.slice none 0 0,.slice none 0 0,.slice none 0 0,.slice none 0 0,.slice none 0 0,.slice none 0 0] 41):=by rw[ao];exact zas _ _ _ Mcp
 rw[<-ao];have ak:=zHi aO;have ay:=aO.size;clear ao aO;obtain⟨x0,x1⟩:=zbl g0;have lx:=zab g0;go_upto_region 3 with(go_at_call 26;go_must(refine(bZ.o _ ak.o).mono ?_);rintro e wq ⟨rfl,z,rfl⟩)
 obtain⟨W1,aI⟩:∃W1,W1=W0.ext z:=⟨_,rfl⟩
 have aU:Below W0.heap.size W0 W1:=Mdb;rw[<-aI];have gw:=aU.size;have g0:=(aU.block _ (zab g0)).trans g0;have g1:=(aU.block _ (zab g1)).trans g1;have l2:=zab g2;have g2:=(aU.block _ (zab g2)).trans g2;have aB:=zHi (ak.o.trans (aU.mono ay));clear aI aU x0 x1 lx;obtain⟨s0,s1,s2,s3,s4,s5,s6⟩:=zaG g2;have ls:=zab g2;by_cases hce:zaA laws=0;rotate_left 1
 ·have HE:Hid (R=(zb3,0,zaA laws)):=by show _=_;rw[qT.o,if_pos MdS]
  have kR:(zaA laws != 0)=true:=MdS;have iN:=zHi hce;obtain⟨r0,r1,r2,r3,r4,r5,r6⟩:=zaG g1;have rf:=frz g1;have lr:=zab g1;generalize zaA laws=ce at*;clear hce;go_wp2_with fail
  refine bodyPost_ret (zeP rfl _ rfl rfl rfl (zc5 g1)) rfl ?_;rw[HE.o];exact⟨_,_,_,_,_,_,_,rfl,by first|rfl|exact⟨rfl,rfl,rfl,rfl,rfl,rfl,rfl⟩,zcA aB.o (show w.heap.size<=w.heap.size+1 by omega),fun h=>absurd h iN.o⟩
 have Jc:Hid (R=zaU laws upto (ds.drop 0) zb3 zb3 0 0):=by show _=_;rw[qT.o,if_neg (by simp[hce])];rfl
 rw[hce];have dE:=zHi hce;clear hce qT;go_upto_region 6 with fail
 obtain⟨TB,CI⟩:∃TB,TB=W1.heap.size:=⟨_,rfl⟩
 obtain⟨W2,cE⟩:∃W2,W2=W1.alloc (.cells #[.slice LA laws.length nc,.slice none 0 0,.slice none 0 0,.slice none 0 0,.slice none 0 0,.slice none 0 0,.slice none 0 0] 41):=⟨_,rfl⟩
 have bF:Below W1.heap.size W1 W2:=by rw[cE];exact zac (Below.refl _ _) _
 have oB:=aB.o.trans (bF.mono aB.o.size);have aA:=zHi oB;have vt:Hid (RepAt w.heap.size TB W2 laws ds LA DA nc mc zb3 zb3 (.slice LA laws.length nc) (.slice none 0 0) (.slice none 0 0) (.slice none 0 0) (.slice none 0 0) (.slice none 0 0) (.slice none 0 0) (.slice LA laws.length nc) (.slice none 0 0) (.slice none 0 0) (.slice none 0 0) (.slice none 0 0) (.slice none 0 0) (.slice none 0 0)):=zHi
  ⟨(bF.block _ (zab g0)).trans g0,(bF.block _ (zab g1)).trans g1,(bF.block _ (zab g2)).trans g2,by rw[cE,CI];exact zas _ _ _ rfl,by omega,rfl,rfl,st_zero (cM.o _ oB),st_zero (cM.o _ oB)⟩
 rw[<-cE,<-CI];clear cE CI g0 g1 g2 bF oB s0 s1 s2 s3 s4 s5 s6 ls l2;go_upto_region 7 with fail
 go_loopw [10] (fun v wr=>∃(k:Nat) (s told:St) (last:Int) (a0 a1 a2 a3 a4 a5 a6 b0 b1 b2 b3 b4 b5 b6:Value),k<=ds.length/\v=.int .i64 k/\Hid (RepAt w.heap.size TB wr laws ds LA DA nc mc s told a0 a1 a2 a3 a4 a5 a6 b0 b1 b2 b3 b4 b5 b6)/\Hid (GoodSt s last/\FewS k s/\s.wills.length<=k/\last=zeJ (ds.take k))/\Hid (R=zaU laws upto (ds.drop k) s told k last)/\Below w.heap.size w wr) (fun v _=>ds.length-(intOf v).toNat)
 case atStart=>exact⟨0,zb3,zb3,0,_,_,_,_,_,_,_,_,_,_,_,_,_,_,Nat.zero_le _,rfl,vt,zHi ⟨zdO 0,zfC,Nat.le_refl _,rfl⟩,Jc,aA.o⟩
 case round=>
  obtain⟨k,s,told,last,a0,a1,a2,a3,a4,a5,a6,b0,b1,b2,b3,b4,b5,b6,hk,rfl,HA,HI,HX,hB⟩:=hrel;obtain⟨WR,oz⟩:∃WR,WR=wr:=⟨_,rfl⟩
  subst oz;have aE:=hB.size;have HB:=zHi hB;by_cases aa:k<ds.length
  ·obtain⟨gb,go,cs,lX,dK,dj,ah⟩:=(cJ.o WR hB).at aa;have gH:ds.drop k=ds[k]::ds.drop (k+1):=List.drop_eq_getElem_cons aa;have hx:=HX.o;rw[gH,zaU]at hx;have oO:=zjP aa;have iZ:=HO.o ds[k] (List.getElem_mem aa);have cL:(ds.take k).length=k:=Mc6;have am:=zHi aa;generalize ds[k]=x at*;obtain⟨EB,ec,u4,rfl,hP⟩:=dj;have i0:WR.cell? ⟨gb,go+k*7,none⟩=some (.int .i64 x.kind):=McT;have i1:WR.cell? ⟨gb,go+k*7+1,none⟩=some (.int .i64 x.day):=ah 1 _ rfl;have i2:WR.cell? ⟨gb,go+k*7+2,none⟩=some (.string x.place):=ah 2 _ rfl;have i3:WR.cell? ⟨gb,go+k*7+3,none⟩=some (.string x.frm):=ah 3 _ rfl;have i4:WR.cell? ⟨gb,go+k*7+4,none⟩=some (.slice EB x.to.length ec):=ah 4 _ rfl;have i5:WR.cell? ⟨gb,go+k*7+5,none⟩=some (.int .i64 x.cls):=ah 5 _ rfl;have i6:WR.cell? ⟨gb,go+k*7+6,none⟩=some (.int .i64 x.years):=ah 6 _ rfl;have au:(k:Int)<(ds.length:Int):=Mcm;have aP:(0:Int)<=(k:Int):=Mcm;have Gs:(k:Int)<=(mc:Int):=Mcm;have L3:k<=mc:=Mcm;subst lX;obtain⟨kM,dD⟩:=yH2 (fun W (h:Below WR.heap.size WR W)=>(hP.keep h:Sl W 3 RPart.cells EB x.to)) (fun W (h:Below WR.heap.size WR W)=>zfO x EB ec W iZ (hP.keep h));unfold Deed.v at dD;obtain⟨⟨A0,m0,q0,rfl⟩,⟨A1,m1,q1,rfl⟩,⟨A2,m2,q2,rfl⟩,⟨A3,m3,q3,rfl⟩,⟨A4,m4,q4,rfl⟩,⟨A5,m5,q5,rfl⟩,⟨A6,m6,q6,rfl⟩⟩:=zc0 (HA.o.sl);obtain⟨x0,x1⟩:=zbl (HA.o).box;obtain⟨s0,s1,s2,s3,s4,s5,s6⟩:=zaG (HA.o).st;obtain⟨t0,t1,t2,t3,t4,t5,t6⟩:=zaG (HA.o).tcell;obtain⟨r0,r1,r2,r3,r4,r5,r6⟩:=zaG (HA.o).res;have sf:=frz (HA.o).st;have tf:=frz (HA.o).tcell
   have rf:=frz (HA.o).res;have lx:=zab (HA.o).box;have ls:=zab (HA.o).st;have lt':=zab (HA.o).tcell;have lr:=zab (HA.o).res;by_cases gC:za3 x=0;rotate_left 1
   ·have cR:zbT laws s k last x=(s,za3 x):=by unfold zbT;rw[if_pos Mer]
    have HE:Hid (R=(told,k,za3 x)):=by show _=_;rw[hx,cR,if_pos Mer]
    have iN:=zHi gC;have kR:(za3 x==0)=false:=Mer;have wY:(za3 x != 0)=true:=Mer;clear hx cR oO iZ cL ah hP u4 aa gH gC;generalize za3 x=ce at*;go_upto_region 10 with(go_at_call 27;go_must(refine(dD.o _ (Below.refl _ _)).mono ?_);rintro e wq ⟨rfl,z,rfl⟩)
    obtain⟨W3,bm⟩:∃W3,W3=WR.ext z:=⟨_,rfl⟩
    have aC:Below WR.heap.size WR W3:=by rw[bm];exact zap _ _
    rw[<-bm];obtain⟨cD,aL⟩:=yH2 (HA.o.keep aC) (hB.trans (aC.mono aE));clear x0 x1 s0 s1 s2 s3 s4 s5 s6 t0 t1 t2 t3 t4 t5 t6 r0 r1 r2 r3 r4 r5 r6 sf tf rf lx ls lt' lr;clear bm aC i0 i1 i2 i3 i4 i5 i6;obtain⟨⟨B0,k0,p0,rfl⟩,⟨B1,k1,p1,rfl⟩,⟨B2,k2,p2,rfl⟩,⟨B3,k3,p3,rfl⟩,⟨B4,k4,p4,rfl⟩,⟨B5,k5,p5,rfl⟩,⟨B6,k6,p6,rfl⟩⟩:=zc0 ((cD.o).sl2);obtain⟨x0,x1⟩:=zbl ((cD.o)).box;obtain⟨s0,s1,s2,s3,s4,s5,s6⟩:=zaG ((cD.o)).st;obtain⟨t0,t1,t2,t3,t4,t5,t6⟩:=zaG ((cD.o)).tcell;obtain⟨r0,r1,r2,r3,r4,r5,r6⟩:=zaG ((cD.o)).res;have sf:=frz ((cD.o)).st;have tf:=frz ((cD.o)).tcell;have rf:=frz ((cD.o)).res;have lx:=zab ((cD.o)).box;have ls:=zab ((cD.o)).st;have lt':=zab ((cD.o)).tcell;have lr:=zab ((cD.o)).res;go_wp2_with fail
    refine bodyPost_ret (zeP rfl _ rfl rfl rfl (zc5 (cD.o).res)) rfl ?_;rw[HE.o];exact⟨_,_,_,_,_,_,_,rfl,by first|rfl|exact⟨rfl,rfl,rfl,rfl,rfl,rfl,rfl⟩,zcA (aL.o) (show w.heap.size<=w.heap.size+1 by omega),fun h=>absurd h iN.o⟩
   rw[gC]at dD;have nK:=zmt (laws:=laws) (s:=s) gC cL;obtain⟨hG,hF,bW,Av⟩:=HI.o;rw[<-Av]at nK;have dF:=zHi (fun W (h:Below WR.heap.size WR W) (hL:k<=600)=>zkb laws s last k x EB ec (ds.take k) (some ⟨gb,go,none⟩) mc W (HA.o.sAt.keep h) hG hF bW hL dE.o gC u4 (hP.keep h) ((cJ.o W (hB.trans (h.mono aE))).take k) k cL.symm);rw[nK]at dF;have GI:=zdF (laws:=laws) (s:=s) (k:=k) (last:=last) (d:=x);have dh:(zbT laws s k last x).2=0->GoodSt (zbT laws s k last x).1 x.day/\FewS (k+1) (zbT laws s k last x).1/\(zbT laws s k last x).1.wills.length<=k+1/\x.day=zeJ (ds.take (k+1)):=fun h0=>by
    obtain⟨_,h2,h3,h4⟩:=GI h0;have ht:zbp laws s x=((zbT laws s k last x).1,0):=by rw[<-h4];exact Prod.ext rfl h0
    exact⟨zf3 hG (zdN gC) h3 dE.o ht,zkF hF h2 hG (zdN gC) h3 dE.o ht,by have:=zka ht;omega,oO.symm⟩
   obtain⟨Bc,av⟩:=yH2 dh hx;clear hx dh GI nK hG hF bW Av oO iZ ah hP gH aa gC;generalize zbT laws s k last x=N at*;obtain⟨s',er⟩:=N;simp only at Bc av;go_upto_region 11 with(go_at_call 27;go_must(refine(dD.o _ (Below.refl _ _)).mono ?_);rintro e wq ⟨rfl,z,rfl⟩)
   obtain⟨W3,bm⟩:∃W3,W3=WR.ext z:=⟨_,rfl⟩
   have aC:Below WR.heap.size WR W3:=by rw[bm];exact zap _ _
   rw[<-bm];have rp:=aC.size;have iA:gb<W3.heap.size:=Mcm;have i0:=(zah aC dK).trans i0;have i1:=(zah aC dK).trans i1;have i2:=(zah aC dK).trans i2;have i3:=(zah aC dK).trans i3;have i4:=(zah aC dK).trans i4;have i5:=(zah aC dK).trans i5;have i6:=(zah aC dK).trans i6;obtain⟨cD,aL,AR⟩:=yH3 (HA.o.keep aC) (hB.trans (aC.mono aE)) aC;clear x0 x1 s0 s1 s2 s3 s4 s5 s6 t0 t1 t2 t3 t4 t5 t6 r0 r1 r2 r3 r4 r5 r6 sf tf rf lx ls lt' lr;clear bm aC hB;obtain⟨x0,x1⟩:=zbl (cD.o).box;obtain⟨s0,s1,s2,s3,s4,s5,s6⟩:=zaG (cD.o).st;obtain⟨t0,t1,t2,t3,t4,t5,t6⟩:=zaG (cD.o).tcell;obtain⟨r0,r1,r2,r3,r4,r5,r6⟩:=zaG (cD.o).res;have sf:=frz (cD.o).st;have tf:=frz (cD.o).tcell;have rf:=frz (cD.o).res;have lx:=zab (cD.o).box;have ls:=zab (cD.o).st;have lt':=zab (cD.o).tcell;have lr:=zab (cD.o).res
   have ax:=zHi (fun(W:World) (h:Below W3.heap.size W3 W)=>(show W.cell? ⟨w.heap.size,1,none⟩=some (.slice (some ⟨gb,go,none⟩) ds.length mc)/\W.cell? ⟨w.heap.size+2,0,none⟩=some (.slice A0 m0 q0)/\W.cell? ⟨w.heap.size+2,1,none⟩=some (.slice A1 m1 q1)/\W.cell? ⟨w.heap.size+2,2,none⟩=some (.slice A2 m2 q2)/\W.cell? ⟨w.heap.size+2,3,none⟩=some (.slice A3 m3 q3)/\W.cell? ⟨w.heap.size+2,4,none⟩=some (.slice A4 m4 q4)/\W.cell? ⟨w.heap.size+2,5,none⟩=some (.slice A5 m5 q5)/\W.cell? ⟨w.heap.size+2,6,none⟩=some (.slice A6 m6 q6)/\W.cell? ⟨gb,go+k*7,none⟩=some (.int .i64 x.kind)/\W.cell? ⟨gb,go+k*7+1,none⟩=some (.int .i64 x.day)/\W.cell? ⟨gb,go+k*7+2,none⟩=some (.string x.place)/\W.cell? ⟨gb,go+k*7+3,none⟩=some (.string x.frm)/\W.cell? ⟨gb,go+k*7+4,none⟩=some (.slice EB x.to.length ec)/\W.cell? ⟨gb,go+k*7+5,none⟩=some (.int .i64 x.cls)/\W.cell? ⟨gb,go+k*7+6,none⟩=some (.int .i64 x.years) from⟨(zah h lx).trans x1,(zah h ls).trans s0,(zah h ls).trans s1,(zah h ls).trans s2,(zah h ls).trans s3,(zah h ls).trans s4,(zah h ls).trans s5,(zah h ls).trans s6,(zah h iA).trans i0,(zah h iA).trans i1,(zah h iA).trans i2,(zah h iA).trans i3,(zah h iA).trans i4,(zah h iA).trans i5,(zah h iA).trans i6⟩));have nW:=zHi (show k<=600 by omega)
   refine zaB 10 (fun bb w'=>bb=true\/(w'.cell? ⟨w.heap.size,1,none⟩=some (.slice (some ⟨gb,go,none⟩) ds.length mc)/\w'.cell? ⟨w.heap.size+2,0,none⟩=some (.slice A0 m0 q0)/\w'.cell? ⟨w.heap.size+2,1,none⟩=some (.slice A1 m1 q1)/\w'.cell? ⟨w.heap.size+2,2,none⟩=some (.slice A2 m2 q2)/\w'.cell? ⟨w.heap.size+2,3,none⟩=some (.slice A3 m3 q3)/\w'.cell? ⟨w.heap.size+2,4,none⟩=some (.slice A4 m4 q4)/\w'.cell? ⟨w.heap.size+2,5,none⟩=some (.slice A5 m5 q5)/\w'.cell? ⟨w.heap.size+2,6,none⟩=some (.slice A6 m6 q6)/\w'.cell? ⟨gb,go+k*7,none⟩=some (.int .i64 x.kind)/\w'.cell? ⟨gb,go+k*7+1,none⟩=some (.int .i64 x.day)/\w'.cell? ⟨gb,go+k*7+2,none⟩=some (.string x.place)/\w'.cell? ⟨gb,go+k*7+3,none⟩=some (.string x.frm)/\w'.cell? ⟨gb,go+k*7+4,none⟩=some (.slice EB x.to.length ec)/\w'.cell? ⟨gb,go+k*7+5,none⟩=some (.int .i64 x.cls)/\w'.cell? ⟨gb,go+k*7+6,none⟩=some (.int .i64 x.years))) Mcn (.inr (ax.o _ (zaH (Below.refl _ _)))) ?hrest
   case hrest=>
    intro hHeld;clear x0 x1 s0 s1 s2 s3 s4 s5 s6 t0 t1 t2 t3 t4 t5 t6 r0 r1 r2 r3 r4 r5 r6 sf tf rf lx ls lt' lr;clear i0 i2 i3 i4 i5 i6;refine TkM 0 ?_;refine TkM 1 ?_;refine TkM 2 ?_;refine TkM 3 ?_;refine TkM 4 ?_;refine TkM 5 ?_;refine TkM 6 ?_;refine TkM 7 ?_;refine TkM 8 ?_;refine TkM 9 ?_;refine OnM 10 true fun K hK=>?_
    go_simp
    refine(dF.o _ (zaH AR.o) nW.o).mono ?_;rintro e w5 ⟨d0,d1,d2,d3,d4,d5,d6,rfl,aV,aq,aj⟩;have yD:=aV;obtain⟨⟨D0,e0,f0,rfl⟩,⟨D1,e1,f1,rfl⟩,⟨D2,e2,f2,rfl⟩,⟨D3,e3,f3,rfl⟩,⟨D4,e4,f4,rfl⟩,⟨D5,e5,f5,rfl⟩,⟨D6,e6,f6,rfl⟩⟩:=zc0 aV;have cG:Below W3.heap.size W3 w5:=(zaH (Below.refl _ _):Below W3.heap.size W3 W3.drew).trans aq;obtain⟨fU,bl,aH,BP⟩:=yH4 (cD.o.keep cG) (aL.o.trans (cG.mono aL.o.size)) aj yD;have i1:=(zah cG iA).trans i1;have Dq:gb<w5.heap.size:=by have:=cG.size;omega
    clear aq aj aV yD cG;obtain⟨x0,x1⟩:=zbl (fU.o).box;obtain⟨s0,s1,s2,s3,s4,s5,s6⟩:=zaG (fU.o).st;obtain⟨t0,t1,t2,t3,t4,t5,t6⟩:=zaG (fU.o).tcell;obtain⟨r0,r1,r2,r3,r4,r5,r6⟩:=zaG (fU.o).res;have sf:=frz (fU.o).st;have tf:=frz (fU.o).tcell;have rf:=frz (fU.o).res;have lx:=zab (fU.o).box;have ls:=zab (fU.o).st;have lt':=zab (fU.o).tcell;have lr:=zab (fU.o).res;refine NxM hK fun hHeld=>?_
    clear hK K;refine FrM 11 true ?_;refine FrM 12 true ?_;refine FrM 13 true ?_;refine OnM 14 true fun K hK=>?_
    go_simp
    refine NxM hK fun hHeld=>?_
    clear hK K;refine OnM 15 true fun K hK=>?_
    go_simp
    refine NxM hK fun hHeld=>?_
    clear hK K;refine zaI Mcn ?_ _;clear hHeld;obtain⟨W6,gB⟩:∃W6,W6=((((((w5.setCell ⟨w.heap.size+2,0,none⟩ (.slice D0 e0 f0)).setCell ⟨w.heap.size+2,1,none⟩ (.slice D1 e1 f1)).setCell ⟨w.heap.size+2,2,none⟩ (.slice D2 e2 f2)).setCell ⟨w.heap.size+2,3,none⟩ (.slice D3 e3 f3)).setCell ⟨w.heap.size+2,4,none⟩ (.slice D4 e4 f4)).setCell ⟨w.heap.size+2,5,none⟩ (.slice D5 e5 f5)).setCell ⟨w.heap.size+2,6,none⟩ (.slice D6 e6 f6):=⟨_,rfl⟩
    have dp:OffS (w.heap.size+2) w5 W6:=by rw[gB];exact zcB fU.o.st fU.o.sl
    have kO:Hid (W6.heap[TB]?=some (.cells #[b0,b1,b2,b3,b4,b5,b6] 41)):=by show _=_;rw[dp.same _ (by have:=fU.o.tb;omega)];exact fU.o.tcell
    have tC:Hid (W6.heap[w.heap.size+1]?=some (.cells #[.slice none 0 0,.slice none 0 0,.slice none 0 0,.slice none 0 0,.slice none 0 0,.slice none 0 0,.slice none 0 0] 41)):=by show _=_;rw[dp.same _ Mcm];exact fU.o.res
    have I3:Hid (W6.heap[w.heap.size]?=some (.cells #[.slice LA laws.length nc,.slice (some ⟨gb,go,none⟩) ds.length mc] 25)):=by show _=_;rw[dp.same _ Mcm];exact fU.o.box
    have sw:=dp.ne i1 rfl;have i1:=(dp.cell sw).trans i1;have mz:=dp.lt sw Dq;have wP:Below w.heap.size w W6:=by rw[gB];exact zcA bl.o Mcm
    have Hv:Hid (er=0->RepAt w.heap.size TB W6 laws ds LA (some ⟨gb,go,none⟩) nc mc s' told (.slice D0 e0 f0) (.slice D1 e1 f1) (.slice D2 e2 f2) (.slice D3 e3 f3) (.slice D4 e4 f4) (.slice D5 e5 f5) (.slice D6 e6 f6) b0 b1 b2 b3 b4 b5 b6):=zHi fun h0=>by
     rw[gB];exact fU.o.setS BP.o (aH.o h0)
    rw[<-gB];have cI:=zHi wP;obtain⟨⟨B0,k0,p0,rfl⟩,⟨B1,k1,p1,rfl⟩,⟨B2,k2,p2,rfl⟩,⟨B3,k3,p3,rfl⟩,⟨B4,k4,p4,rfl⟩,⟨B5,k5,p5,rfl⟩,⟨B6,k6,p6,rfl⟩⟩:=zc0 (fU.o.sl2);clear x0 x1 s0 s1 s2 s3 s4 s5 s6 t0 t1 t2 t3 t4 t5 t6 r0 r1 r2 r3 r4 r5 r6 sf tf rf lx ls lt' lr;clear gB dp wP sw;by_cases iT:er=0
    ·subst iT;have HA:=zHi (Hv.o rfl);have hx:=av.o;rw[if_neg Mcp]at hx;have dh:=Bc.o rfl;obtain⟨x0,x1⟩:=zbl (HA.o).box;obtain⟨s0,s1,s2,s3,s4,s5,s6⟩:=zaG (HA.o).st;obtain⟨t0,t1,t2,t3,t4,t5,t6⟩:=zaG (HA.o).tcell;obtain⟨r0,r1,r2,r3,r4,r5,r6⟩:=zaG (HA.o).res;have sf:=frz (HA.o).st;have tf:=frz (HA.o).tcell;have rf:=frz (HA.o).res;have lx:=zab (HA.o).box;have ls:=zab (HA.o).st;have lt':=zab (HA.o).tcell;have lr:=zab (HA.o).res;by_cases Aj:x.day<=upto
     ·rw[if_pos (by simpa using Aj)]at hx;obtain⟨eM,qG⟩:=yH2 hx dh;clear hx dh;go_wp2_with fail
      go_round
      case rel=>exact⟨k+1,s',s',x.day,_,_,_,_,_,_,_,_,_,_,_,_,_,_,am.o,by go_num,zHi HA.o.setT,qG,eM,zcA cI.o (by have:=HA.o.tb;omega)⟩
      case measure=>have:=am.o;simp only[intOf];omega
     ·rw[if_neg (by simpa using Aj)]at hx;obtain⟨eM,qG⟩:=yH2 hx dh;clear hx dh;go_wp2_with fail
      go_round
      case rel=>exact⟨k+1,s',told,x.day,_,_,_,_,_,_,_,_,_,_,_,_,_,_,am.o,by go_num,HA,qG,eM,cI.o⟩
      case measure=>have:=am.o;simp only[intOf];omega
    ·have wY:(er != 0)=true:=by simpa using iT
     have HE:Hid (R=(told,k,er)):=by show _=_;rw[av.o,if_pos wY]
     have iN:=zHi iT;clear iT i1;obtain⟨t0,t1,t2,t3,t4,t5,t6⟩:=zaG kO.o;obtain⟨r0,r1,r2,r3,r4,r5,r6⟩:=zaG tC.o;have rf:=frz tC.o;have lr:=zab tC.o;go_wp2_with fail
     refine bodyPost_ret (zeP rfl _ rfl rfl rfl (zc5 tC.o)) rfl ?_;rw[HE.o];exact⟨_,_,_,_,_,_,_,rfl,by first|rfl|exact⟨rfl,rfl,rfl,rfl,rfl,rfl,rfl⟩,zcA cI.o (show w.heap.size<=w.heap.size+1 by omega),fun h=>absurd h iN.o⟩
  ·have au:¬(k:Int)<(ds.length:Int):=Mcm;have kv:k=ds.length:=Mcm;have HE:Hid (R=(told,ds.length,0)):=by show _=_;rw[HX.o,List.drop_of_length_le Mcm,zaU,kv]
   clear aa kv;obtain⟨⟨B0,k0,p0,rfl⟩,⟨B1,k1,p1,rfl⟩,⟨B2,k2,p2,rfl⟩,⟨B3,k3,p3,rfl⟩,⟨B4,k4,p4,rfl⟩,⟨B5,k5,p5,rfl⟩,⟨B6,k6,p6,rfl⟩⟩:=zc0 (HA.o.sl2);obtain⟨x0,x1⟩:=zbl (HA.o).box;obtain⟨s0,s1,s2,s3,s4,s5,s6⟩:=zaG (HA.o).st;obtain⟨t0,t1,t2,t3,t4,t5,t6⟩:=zaG (HA.o).tcell;obtain⟨r0,r1,r2,r3,r4,r5,r6⟩:=zaG (HA.o).res;have sf:=frz (HA.o).st;have tf:=frz (HA.o).tcell;have rf:=frz (HA.o).res;have lx:=zab (HA.o).box;have ls:=zab (HA.o).st;have lt':=zab (HA.o).tcell;have lr:=zab (HA.o).res;go_upto_region 16 with fail
   have ax:=zHi (fun(W:World) (h:Below WR.heap.size WR W)=>(show W.cell? ⟨w.heap.size,1,none⟩=some (.slice DA ds.length mc)/\W.cell? ⟨TB,0,none⟩=some (.slice B0 k0 p0)/\W.cell? ⟨TB,1,none⟩=some (.slice B1 k1 p1)/\W.cell? ⟨TB,2,none⟩=some (.slice B2 k2 p2)/\W.cell? ⟨TB,3,none⟩=some (.slice B3 k3 p3)/\W.cell? ⟨TB,4,none⟩=some (.slice B4 k4 p4)/\W.cell? ⟨TB,5,none⟩=some (.slice B5 k5 p5)/\W.cell? ⟨TB,6,none⟩=some (.slice B6 k6 p6) from⟨(zah h lx).trans x1,(zah h lt').trans t0,(zah h lt').trans t1,(zah h lt').trans t2,(zah h lt').trans t3,(zah h lt').trans t4,(zah h lt').trans t5,(zah h lt').trans t6⟩))
   have It:Hid (∀a0 a1 a2 a3 a4 a5 a6:Value,((((((((WR.setCell ⟨w.heap.size+1,0,none⟩ a0).setCell ⟨w.heap.size+1,1,none⟩ a1).setCell ⟨w.heap.size+1,2,none⟩ a2).setCell ⟨w.heap.size+1,3,none⟩ a3).setCell ⟨w.heap.size+1,4,none⟩ a4).setCell ⟨w.heap.size+1,5,none⟩ a5).setCell ⟨w.heap.size+1,6,none⟩ a6).drew).cell? ⟨w.heap.size,1,none⟩=some (.slice DA ds.length mc)/\((((((((WR.setCell ⟨w.heap.size+1,0,none⟩ a0).setCell ⟨w.heap.size+1,1,none⟩ a1).setCell ⟨w.heap.size+1,2,none⟩ a2).setCell ⟨w.heap.size+1,3,none⟩ a3).setCell ⟨w.heap.size+1,4,none⟩ a4).setCell ⟨w.heap.size+1,5,none⟩ a5).setCell ⟨w.heap.size+1,6,none⟩ a6).drew).cell? ⟨TB,0,none⟩=some (.slice B0 k0 p0)/\((((((((WR.setCell ⟨w.heap.size+1,0,none⟩ a0).setCell ⟨w.heap.size+1,1,none⟩ a1).setCell ⟨w.heap.size+1,2,none⟩ a2).setCell ⟨w.heap.size+1,3,none⟩ a3).setCell ⟨w.heap.size+1,4,none⟩ a4).setCell ⟨w.heap.size+1,5,none⟩ a5).setCell ⟨w.heap.size+1,6,none⟩ a6).drew).cell? ⟨TB,1,none⟩=some (.slice B1 k1 p1)/\((((((((WR.setCell ⟨w.heap.size+1,0,none⟩ a0).setCell ⟨w.heap.size+1,1,none⟩ a1).setCell ⟨w.heap.size+1,2,none⟩ a2).setCell ⟨w.heap.size+1,3,none⟩ a3).setCell ⟨w.heap.size+1,4,none⟩ a4).setCell ⟨w.heap.size+1,5,none⟩ a5).setCell ⟨w.heap.size+1,6,none⟩ a6).drew).cell? ⟨TB,2,none⟩=some (.slice B2 k2 p2)/\((((((((WR.setCell ⟨w.heap.size+1,0,none⟩ a0).setCell ⟨w.heap.size+1,1,none⟩ a1).setCell ⟨w.heap.size+1,2,none⟩ a2).setCell ⟨w.heap.size+1,3,none⟩ a3).setCell ⟨w.heap.size+1,4,none⟩ a4).setCell ⟨w.heap.size+1,5,none⟩ a5).setCell ⟨w.heap.size+1,6,none⟩ a6).drew).cell? ⟨TB,3,none⟩=some (.slice B3 k3 p3)/\((((((((WR.setCell ⟨w.heap.size+1,0,none⟩ a0).setCell ⟨w.heap.size+1,1,none⟩ a1).setCell ⟨w.heap.size+1,2,none⟩ a2).setCell ⟨w.heap.size+1,3,none⟩ a3).setCell ⟨w.heap.size+1,4,none⟩ a4).setCell ⟨w.heap.size+1,5,none⟩ a5).setCell ⟨w.heap.size+1,6,none⟩ a6).drew).cell? ⟨TB,4,none⟩=some (.slice B4 k4 p4)/\((((((((WR.setCell ⟨w.heap.size+1,0,none⟩ a0).setCell ⟨w.heap.size+1,1,none⟩ a1).setCell ⟨w.heap.size+1,2,none⟩ a2).setCell ⟨w.heap.size+1,3,none⟩ a3).setCell ⟨w.heap.size+1,4,none⟩ a4).setCell ⟨w.heap.size+1,5,none⟩ a5).setCell ⟨w.heap.size+1,6,none⟩ a6).drew).cell? ⟨TB,5,none⟩=some (.slice B5 k5 p5)/\((((((((WR.setCell ⟨w.heap.size+1,0,none⟩ a0).setCell ⟨w.heap.size+1,1,none⟩ a1).setCell ⟨w.heap.size+1,2,none⟩ a2).setCell ⟨w.heap.size+1,3,none⟩ a3).setCell ⟨w.heap.size+1,4,none⟩ a4).setCell ⟨w.heap.size+1,5,none⟩ a5).setCell ⟨w.heap.size+1,6,none⟩ a6).drew).cell? ⟨TB,6,none⟩=some (.slice B6 k6 p6)):=zHi (fun a0 a1 a2 a3 a4 a5 a6=>by
    obtain⟨y0,y1,y2,y3,y4,y5,y6,y7⟩:=ax.o WR (Below.refl _ _);have ho:=zcB (a0:=a0) (a1:=a1) (a2:=a2) (a3:=a3) (a4:=a4) (a5:=a5) (a6:=a6) HA.o.res rfl;have Hc:=HA.o.tb;have n0:w.heap.size≠w.heap.size+1:=Mcm;have nT:TB≠w.heap.size+1:=Mcm;simp only[World.cell?_drew]
    exact⟨(ho.cell n0).trans y0,(ho.cell nT).trans y1,(ho.cell nT).trans y2,(ho.cell nT).trans y3,(ho.cell nT).trans y4,(ho.cell nT).trans y5,(ho.cell nT).trans y6,(ho.cell nT).trans y7⟩)
   have zC:Hid (∀a0 a1 a2 a3 a4 a5 a6:Value,((((((((WR.setCell ⟨w.heap.size+1,0,none⟩ a0).setCell ⟨w.heap.size+1,1,none⟩ a1).setCell ⟨w.heap.size+1,2,none⟩ a2).setCell ⟨w.heap.size+1,3,none⟩ a3).setCell ⟨w.heap.size+1,4,none⟩ a4).setCell ⟨w.heap.size+1,5,none⟩ a5).setCell ⟨w.heap.size+1,6,none⟩ a6).drew).heap[w.heap.size+1]?=some (.cells #[a0,a1,a2,a3,a4,a5,a6] 41)):=zHi (fun a0 a1 a2 a3 a4 a5 a6=>(drew_heap _ _).trans (zc5 (a:=a0) (b:=a1) (c:=a2) (d:=a3) (e:=a4) (f:=a5) (h':=a6) HA.o.res));have BT:=zHi (fun a0 a1 a2 a3 a4 a5 a6=>(zcB (a0:=a0) (a1:=a1) (a2:=a2) (a3:=a3) (a4:=a4) (a5:=a5) (a6:=a6) HA.o.res rfl).st HA.o.tAt);refine zaB 5 (fun bb w'=>bb=true\/(w'.cell? ⟨w.heap.size,1,none⟩=some (.slice DA ds.length mc)/\w'.cell? ⟨TB,0,none⟩=some (.slice B0 k0 p0)/\w'.cell? ⟨TB,1,none⟩=some (.slice B1 k1 p1)/\w'.cell? ⟨TB,2,none⟩=some (.slice B2 k2 p2)/\w'.cell? ⟨TB,3,none⟩=some (.slice B3 k3 p3)/\w'.cell? ⟨TB,4,none⟩=some (.slice B4 k4 p4)/\w'.cell? ⟨TB,5,none⟩=some (.slice B5 k5 p5)/\w'.cell? ⟨TB,6,none⟩=some (.slice B6 k6 p6))) Mcn (.inr (ax.o _ (zaH (Below.refl _ _)))) ?hrest
   case hrest=>
    intro hHeld;clear x0 x1 s0 s1 s2 s3 s4 s5 s6 t0 t1 t2 t3 t4 t5 t6 r0 r1 r2 r3 r4 r5 r6 sf tf rf lx ls lt' lr;refine TkM 0 ?_;refine TkM 1 ?_;refine TkM 2 ?_;refine TkM 3 ?_;obtain⟨x0,x1⟩:=zbl (HA.o).box;obtain⟨s0,s1,s2,s3,s4,s5,s6⟩:=zaG (HA.o).st;obtain⟨t0,t1,t2,t3,t4,t5,t6⟩:=zaG (HA.o).tcell;obtain⟨r0,r1,r2,r3,r4,r5,r6⟩:=zaG (HA.o).res;have sf:=frz (HA.o).st;have tf:=frz (HA.o).tcell;have rf:=frz (HA.o).res;have lx:=zab (HA.o).box;have ls:=zab (HA.o).st;have lt':=zab (HA.o).tcell;have lr:=zab (HA.o).res;refine OnM 4 false fun K hK=>?_
    go_simp
    refine NxM hK (fun hHeld=>?_) (.inr (It.o _ _ _ _ _ _ _));clear hK K;refine OnM 5 true fun K hK=>?_
    go_simp
    refine NxM hK fun hHeld=>?_
    clear hK K;refine OnM 6 true fun K hK=>?_
    go_simp
    refine NxM hK fun hHeld=>?_
    clear hK K;refine zaI Mcn ?_ _;clear hHeld;go_wp2_with fail
    refine bodyPost_ret (zeP rfl _ rfl rfl rfl (zC.o _ _ _ _ _ _ _)) rfl ?_;rw[HE.o];exact⟨_,_,_,_,_,_,_,rfl,by first|rfl|exact⟨rfl,rfl,rfl,rfl,rfl,rfl,rfl⟩,zaH (zcA HB.o (show w.heap.size<=w.heap.size+1 by omega)),fun _=>(BT.o _ _ _ _ _ _ _).keep (zaH (Below.refl _ _))⟩
