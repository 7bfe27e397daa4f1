import Derived.Test.YtogklihlgindkaaGreatDoorXP
set_option linter.all false
set_option maxRecDepth 100000
set_option maxHeartbeats 4000000
namespace Go.Proofs.YtogklihlgindkaaGreatDoor
open Go.RowKit Go.Shelf
attribute [local go_sem] World.cell?_alloc_mark zaf za3 zam za6 zat zau zav zaw zax zay zaz
attribute [local go_sem] zao zac
variable{s:St}{n:ByteArray}{day:Int}{H:Option Parts}{k:Nat}{g:Grave}{l pre:List Grave}
def zpQ(h:zdu s n day k g=false):(zb1 s n day H k (g::l)).map (pre++ ·)=(zb1 s n day H (k+1) l).map ((pre++[g])++ ·):=by
 rw[zb1.eq_def];simp only[h];cases zb1 s n day H (k+1) l<;>simp
variable{hs out:Parts}
def zpR(h:zdu s n day k g=true)(hg:zb8 (zah g.holders n) hs (za0 g.holders n)=some out):
 (zb1 s n day (some hs) k (g::l)).map (pre++ ·)=(zb1 s n day (some hs) (k+1) l).map ((pre++[{g with holders:=out,died:=g.died++[n]}])++ ·):=by
 rw[zb1.eq_def];simp only[h,if_true,hg,Option.bind_some];cases zb1 s n day (some hs) (k+1) l<;>simp
def zpS(h:zdu s n day k g=true)(hg:∀hs,H=some hs->zb8 (zah g.holders n) hs (za0 g.holders n)=none):
 (zb1 s n day H k (g::l)).map (pre++ ·)=none:=by
 rw[zb1.eq_def];simp only[h,if_true];cases H with
 |none=>rfl
 |some hs=>
  simp only[hg hs rfl];rfl
def okR(gxs:List GX)(W:World)(x:GX):Prop:=x∈gxs\/(Ro W 55 zaa x.H x.g.holders/\Ro W 9 sC x.D x.g.died)
variable{gxs:List GX}{W W':World}{x:GX}
def okR.keep{n:Nat}(h:okR gxs W x)(hB:Below n W W')(hn:W.heap.size<=n:=by first|exact Qc|omega):okR gxs W' x:=
 h.imp id λ⟨a,b⟩=>⟨a.keep hB hn,b.keep hB hn⟩
variable{cs:Array Value}{fr:Nat×Nat}
def okR.kept{g:Nat}(h:okR gxs W x)(hg:W.grownBy W' (some g))(hx:W.heap[g]?=some (.cells cs 91 fr)):okR gxs W' x:=
 h.imp id λ⟨a,b⟩=>⟨a.kept hg hx McU,b.kept hg hx McU⟩
def grav_ne{pl:ByteArray}(h:¬zaL s pl day=some k):zkF s.graves pl day≠(k:Int):=by
 cases hx:zaL s pl day with
 |none=>rw[zgN hx];omega
 |some i=>
  rw[zdW hx];intro e;have:i=k:=by omega
  subst this;exact h hx
def set_mid{α:Type}(a:List α)(x y:α)(l:List α)(h:a.length=k):(a++x::l).set k y=a++y::l:=by
 subst h;induction a with
 |nil=>rfl
 |cons b a ih=>simp only[List.cons_append,List.length_cons,List.set_cons_succ,ih]
variable{ga go:Nat}
def row_two{dx rest:List GX}{OV A5:Option Addr}{oc c5:Nat}(hk:dx.length=k)(h:RowC W 91 ga go 5 (((dx++x::rest).map GX.cells).set k (x.cells.set 3 (.slice OV out.length oc)))):
 RowC (W.setCell ⟨ga,go+k*5+4,none⟩ (.slice A5 (x.g.died.length+1) c5)) 91 ga go 5 ((dx++[(⟨{x.g with holders:=out,died:=x.g.died++[n]},OV,oc,A5,c5⟩:GX)]++rest).map GX.cells):=by
 have e1:((dx++x::rest).map GX.cells).set k (x.cells.set 3 (.slice OV out.length oc))=dx.map GX.cells++(x.cells.set 3 (.slice OV out.length oc))::rest.map GX.cells:=by
  rw[List.map_append,List.map_cons,set_mid _ _ _ _ (by rw[List.length_map];exact hk)]
 rw[e1]at h;have h2:=h.set (i:=k) (j:=4) (c:=x.cells.set 3 (.slice OV out.length oc)) (u:=.slice A5 (x.g.died.length+1) c5) (by rw[List.getElem?_append_right (by rw[List.length_map];omega),List.length_map,hk,Nat.sub_self];rfl) McU;rw[set_mid _ _ _ _ (by rw[List.length_map];exact hk)]at h2;have e2:(dx++[(⟨{x.g with holders:=out,died:=x.g.died++[n]},OV,oc,A5,c5⟩:GX)]++rest).map GX.cells=dx.map GX.cells++((x.cells.set 3 (.slice OV out.length oc)).set 4 (.slice A5 (x.g.died.length+1) c5))::rest.map GX.cells:=by
  rw[List.append_assoc,List.map_append];congr 1
  simp[GX.cells]
 rw[e2];exact h2
def hxd5{css:List (List Value)}{u:Value}(h:RowC W 91 ga go 5 (css.set k (x.cells.set 3 u)))(hc:css[k]?=some x.cells):W.cell? ⟨ga,go+k*5+4,none⟩=some (.slice x.D x.g.died.length x.dc):=by
 have hk:k<css.length:=(List.getElem?_eq_some_iff.1 hc).1;exact h.at (k:=k) (c:=x.cells.set 3 u) (by rw[List.getElem?_set_self hk]) (j:=4) rfl
def okR.keptS{g:Nat}(h:okR gxs W x)(hg:W.grownBy W' (some g))(hx:W.heap[g]?=some (.cells cs 86 fr)):okR gxs W' x:=
 h.imp id λ⟨a,b⟩=>⟨a.kept hg hx McU,b.kept hg hx McU⟩
variable{c:Nat}{x0 x1 x2 x3 x4 x5 x6:Value}
def dsF{a:Nat}{z0 z1 z2 z3 z4 z5 z6:Value}{t u:TypeId}{f:Nat×Nat}(h:W.heap[a]?=some (.cells #[x0,x1,x2,x3,x4,x5,x6] t f)/\W.heap[c]?=some (.cells #[z0,z1,z2,z3,z4,z5,z6] u (0,0))):
 (W.heap[a]?=some (.cells #[x0,x1,x2,x3,x4,x5,x6] t f)/\W.heap[c]?=some (.cells #[z0,z1,z2,z3,z4,z5,z6] u (0,0)))/\(W.cell? ⟨a,0,none⟩=some x0/\W.cell? ⟨a,1,none⟩=some x1/\W.cell? ⟨a,2,none⟩=some x2/\W.cell? ⟨a,3,none⟩=some x3/\W.cell? ⟨a,4,none⟩=some x4/\W.cell? ⟨a,5,none⟩=some x5/\W.cell? ⟨a,6,none⟩=some x6)/\(W.cell? ⟨c,0,none⟩=some z0/\W.cell? ⟨c,1,none⟩=some z1/\W.cell? ⟨c,2,none⟩=some z2/\W.cell? ⟨c,3,none⟩=some z3/\W.cell? ⟨c,4,none⟩=some z4/\W.cell? ⟨c,5,none⟩=some z5/\W.cell? ⟨c,6,none⟩=some z6)/\(∀j,W.frozen? ⟨c,j,none⟩=false)/\a<W.heap.size/\c<W.heap.size:=
 ⟨h,zaG h.1,zaG h.2,frz h.2,zab h.1,zab h.2⟩
variable{w:World}
def ds_boxes(o0 o1:Obj):Hid (Qa w ((w.alloc o0).alloc o1))/\Hid (∀W,Below ((w.alloc o0).alloc o1).heap.size ((w.alloc o0).alloc o1) W->W.heap[w.heap.size]?=some o0/\W.heap[w.heap.size+1]?=some o1):=by
 refine⟨by show Below _ _ _;exact Bw,λW hB=>⟨?_,?_⟩⟩
 ·exact(hB.block _ McX).trans (zal (zas _ _ _ rfl))
 ·exact(hB.block _ McV).trans (zas _ _ _ McV)
def rDies_any(laws:List Law)(s:St)(wd rd:List Deed)(LA CA MA DA WA RA GA:Option Addr)(c0 c1 c2 c3 c4 c5 c6:Nat)(n:ByteArray)(day:Int)(w:World)(h:StIn w laws s wd rd LA CA MA DA WA RA GA c0 c1 c2 c3 c4 c5 c6)(hk:StLink s wd rd)(hf:StFew s wd rd)(bH:zaC laws=0)(hW:WillOk (zbv s n))(lF:∀a,¬Desc s a a)(cK:(zbv s n).length<=8)
 (bh:∀g∈s.graves,GoodG g/\g.holders.length<=50000)(kN:∀g∈s.graves,g.died.length<=1000)(hel:∀hs,zcM s (zbc laws day) n=some hs->hs.length<=1000/\GoodParts hs/\sumQ hs<=1/\zaE hs=false):
 Calls Tryz.prog 138 #[.agg #[.slice LA laws.length c0,.slice CA s.children.length c1,.slice MA s.marriages.length c2,.slice DA s.dead.length c3,.slice WA wd.length c4,.slice RA rd.length c5,.slice GA s.graves.length c6],.string n,.int .i64 day] w (zld w laws (zpP laws s n day)):=by
 obtain⟨R,hR⟩:=Qd (zpP laws s n day)
 rw[<-hR];unfold zpP at hR;obtain⟨gxs,hm,bE,br⟩:=znK h.graves;obtain⟨HM,dt,bU,ez,fR,H,HK,HF⟩:=yH8 hm bE br bh kN (λW (hB:Qa w W)=>h.keep hB) hk hf;have ij:=zHi (λW (hB:Qa w W)=>znJ laws s wd rd LA CA MA DA WA RA GA c0 c1 c2 c3 c4 c5 c6 n day W (H.o W hB) hk hf bH hW lF cK);obtain⟨HH,uj⟩:=Qd (zcM s (zbc laws day) n)
 rw[<-uj]at hR ij hel;have eX:=zHi hel;have jI:=hf.graves;have xL:gxs.length=s.graves.length:=Mez;obtain⟨D0,oS⟩:=Qd (zb1 s n day HH 0 s.graves)
 rw[<-oS]at hR;obtain⟨IM,HR⟩:=yH2 oS hR;unfold zla at ij;clear h hk hf bH hW lF cK bh kN hel hm bE br uj oS hR;go_enter Tryz.func138,Tryz.ntmps138
 go_upto_region 1 with fail
 obtain⟨W0,am⟩:=Qd ((w.alloc (.cells #[.slice LA laws.length c0,.slice CA s.children.length c1,.slice MA s.marriages.length c2,.slice DA s.dead.length c3,.slice WA wd.length c4,.slice RA rd.length c5,.slice GA s.graves.length c6] 86)).alloc (.cells #[.slice none 0 0,.slice none 0 0,.slice none 0 0,.slice none 0 0,.slice none 0 0,.slice none 0 0,.slice none 0 0] 86))
 obtain⟨ak,av⟩:Hid (Qa w W0)/\Hid (∀W,Qa W0 W->W.heap[w.heap.size]?=some (.cells #[.slice LA laws.length c0,.slice CA s.children.length c1,.slice MA s.marriages.length c2,.slice DA s.dead.length c3,.slice WA wd.length c4,.slice RA rd.length c5,.slice GA s.graves.length c6] 86)/\W.heap[w.heap.size+1]?=some (.cells #[.slice none 0 0,.slice none 0 0,.slice none 0 0,.slice none 0 0,.slice none 0 0,.slice none 0 0,.slice none 0 0] 86)):=by
  rw[am];exact ds_boxes _ _
 rw[<-am];clear am;have ay:=ak.o.size;obtain⟨⟨xs0,xr0⟩,⟨s0,s1,s2,s3,s4,s5,s6⟩,⟨r0,r1,r2,r3,r4,r5,r6⟩,rf,ls,lr⟩:=dsF (av.o W0 Qb);go_upto_region 2 with(go_at_call 172;go_must(refine(ij.o _ ak.o).mono ?_);rintro e w1 ⟨EA,ec,hs,lg,rfl,GF,b1,_,hE⟩)
 obtain⟨Ad,HE,aL⟩:=yH3 GF hE b1;have iE:=b1.size;clear GF hE b1;clear xs0 xr0 s0 s1 s2 s3 s4 s5 s6 r0 r1 r2 r3 r4 r5 r6 rf ls lr;obtain⟨⟨xs0,xr0⟩,⟨s0,s1,s2,s3,s4,s5,s6⟩,⟨r0,r1,r2,r3,r4,r5,r6⟩,rf,ls,lr⟩:=dsF (av.o w1 (aL.o))
 go_upto_region 4 with(at_builtin
                       go_loud(refine zar (v:=.slice (some ⟨w1.heap.size,0,none⟩) 0 0) (n:=0) (m:=s.graves.length) rfl _ _ rfl zhu zcX zkk rfl (xs:=[]) (ys:=gxs) (zkl w1 w1.heap.size Qc) rfl rfl xL.symm (bU.o.keep (ak.o.trans ((aL.o.trans (Below.mono (B:=w1.heap.size) Bw iE)).mono ay))) Mdf McS McV ?_)
                       intro v2 w2 h1 h2 h3;rw[List.nil_append]at h1;have bM:Qa w1 w2:=Below.grown (zad Qb _) h2 McV Mdx;obtain⟨cT,aN⟩:=yH2 h1 bM;obtain⟨V2,c2',rfl,_,_⟩:=h1.sl zcX
                       clear h1 h2 h3 bM)
 obtain⟨ga,go,hV⟩:∃ga go,s.graves≠[]->V2=some ⟨ga,go,none⟩/\w1.heap.size<=ga/\RowC w2 91 ga go 5 (gxs.map GX.cells):=by
  by_cases ai:s.graves=[]
  ·exact⟨0,0,λh=>absurd ai h⟩
  ·have hl:0<s.graves.length:=List.length_pos_iff.2 ai;have ho:=cT.o;have fL:=ho.ge;obtain⟨A,c9,e9,hS,_⟩:=ho.sl zcX;obtain⟨rfl,rfl⟩:V2=A/\c2'=c9:=by simpa[xL]using e9
   obtain⟨gb,gof,rfl,_⟩:=hS McS;exact⟨gb,gof,λ_=>⟨rfl,(fL gb rfl).1,ho.row zcX⟩⟩
 have HV:=zHi hV;have lD:=aN.o.size;have Bz:Hid (D0=(zb1 s n day HH 0 (s.graves.drop 0)).map (([]:List GX).map (·.g)++ ·)):=by
  show _=_;rw[IM.o,List.drop_zero];cases zb1 s n day HH 0 s.graves<;>rfl
 have Gg:HH=if lg then none else some hs:=by rcases HE.o with⟨h1,rfl⟩|⟨h1,rfl⟩<;>rw[h1]<;>rfl
 have zW:=zHi Gg;clear hV Gg;clear xs0 xr0 s0 s1 s2 s3 s4 s5 s6 r0 r1 r2 r3 r4 r5 r6 rf ls lr;go_upto_region 5 with fail
 go_loopw [9,10,12] (λv9 v10 i wr=>∃(k:Nat) (l f:Bool) (dx:List GX),k<=s.graves.length/\i=.int .i64 k/\v9=.bool l/\v10=.bool f/\dx.length=k/\Hid (s.graves≠[]->RowC wr 91 ga go 5 ((dx++gxs.drop k).map GX.cells))/\Hid (∀x∈dx,okR gxs wr x)/\Hid ((f&&l)=true->D0=none)/\Hid ((f&&l)=false->D0=(zb1 s n day HH k (s.graves.drop k)).map (dx.map (·.g)++ ·)/\HH=if l then none else some hs)/\Qa w1 wr/\w2.heap.size<=wr.heap.size) (λ_ _ i _=>s.graves.length-(intOf i).toNat)
 case atStart=>exact⟨0,lg,false,[],Nat.zero_le _,rfl,rfl,rfl,rfl,zHi λai=>(HV.o ai).2.2,zHi McV,zHi McV,zHi λ_=>⟨Bz.o,zW.o⟩,aN.o,Qc⟩
 case round=>
  obtain⟨k,l,f,dx,hk,rfl,rfl,rfl,iM,Ce,gI,oC,li,hB,jV⟩:=hrel;obtain⟨WR,kI⟩:=Qd wr
  subst kI;have aM:=hB.size;have cB:=aL.o.trans (hB.mono iE);obtain⟨HB,bk⟩:=yH2 hB cB;obtain⟨⟨xs0,xr0⟩,⟨s0,s1,s2,s3,s4,s5,s6⟩,⟨r0,r1,r2,r3,r4,r5,r6⟩,rf,ls,lr⟩:=dsF (av.o WR (cB));by_cases ae:k<s.graves.length
  ·have ai:s.graves≠[]:=λe=>by rw[e]at ae;simp at ae
   obtain⟨rfl,AS,_⟩:=HV.o ai;have bJ:=zHi (Ce.o ai);have lM:k<gxs.length:=McS;have aY:((dx++gxs.drop k).map GX.cells)[k]?=some gxs[k].cells:=by
    rw[List.getElem?_map,List.getElem?_append_right McS,iM,Nat.sub_self,List.getElem?_drop,Nat.add_zero,List.getElem?_eq_getElem lM];rfl
   have qi:gxs[k].g=s.graves[k]:=by
    have:s.graves[k]?=some gxs[k].g:=by rw[<-HM.o,List.getElem?_map,List.getElem?_eq_getElem lM];rfl
    rw[List.getElem?_eq_getElem ae]at this;exact(Option.some.inj this).symm
   have uQ:gxs[k]∈gxs:=List.getElem_mem lM;have ko:gxs[k].g∈s.graves:=by rw[qi];exact List.getElem_mem ae
   have uy:s.graves.drop k=gxs[k].g::s.graves.drop (k+1):=by rw[qi];exact List.drop_eq_getElem_cons ae
   have Ha:gxs.drop k=gxs[k]::gxs.drop (k+1):=List.drop_eq_getElem_cons lM;have aj:=zHi ae;generalize gxs[k]=x at*;have iz:=dt.o x uQ;obtain⟨dC,bQ⟩:=ez.o x.g ko;have bA:=fR.o x.g ko;obtain⟨BJ,uc,bw,qP,BC,ew⟩:=yH6 dC (λW (hB:Qa w W)=>iz.keep hB) uQ uy Ha aY;have i0:WR.cell? ⟨ga,go+k*5,none⟩=some (.string x.g.place):=by have:=bJ.o.at aY (j:=0) rfl;simpa using this
   have i3:WR.cell? ⟨ga,go+k*5+3,none⟩=some (.slice x.H x.g.holders.length x.hc):=bJ.o.at aY (j:=3) rfl;have i4:WR.cell? ⟨ga,go+k*5+4,none⟩=some (.slice x.D x.g.died.length x.dc):=bJ.o.at aY (j:=4) rfl;have EI:ga<WR.heap.size:=bJ.o.lt;have au:(k:Int)<(s.graves.length:Int):=McS;have aR:(0:Int)<=(k:Int):=McS;have bn:=ak.o.trans (cB.mono ay);have nR:=zHi (zfm x.g.holders n x.H x.hc WR McS (uc.o WR bn).1);have cK:=zdU x.g.holders n;have mF:=zHi (λW (hB:Qa w W)=>zh5 x.g.holders n x.H x.hc W McS (uc.o W hB).1);have ho:=zbA dC.good n;have qv:=zcN n dC.small;have aZ:=zdz dC.good n;have qE:=zci (n:=n) dC.good;have Ip:=zbJ (n:=n) dC.good;have zF:=zdA n dC.small;have Hk:∀b,zaL s x.g.place day=some k->(zah x.g.holders n==0)=b->zdu s n day k x.g=!b:=by
    intro b e1 e2;unfold zdu;rw[e1,bne,e2];simp
   have uD:¬zaL s x.g.place day=some k->zdu s n day k x.g=false:=by
    intro e1;unfold zdu;cases hx:zaL s x.g.place day==some k
    ·rw[Bool.and_false]
    ·exact absurd (by simpa using hx) e1
   have AT:zah x.g.holders n=0->zdu s n day k x.g=false:=by
    intro e1;unfold zdu;rw[e1];rfl
   obtain⟨eW,IP,vf,BM⟩:=yH4 (λ(pre:List Grave) (hh:zdu s n day k x.g=false)=>zpQ (H:=HH) (l:=s.graves.drop (k+1)) (pre:=pre) hh) (λ(pre:List Grave) hs out (hh:zdu s n day k x.g=true) hg=>zpR (s:=s) (n:=n) (day:=day) (hs:=hs) (out:=out) (l:=s.graves.drop (k+1)) (pre:=pre) hh hg) (λ(pre:List Grave) (hh:zdu s n day k x.g=true) hg=>zpS (H:=HH) (l:=s.graves.drop (k+1)) (pre:=pre) hh hg) (show(zaL s x.g.place day=some k->zah x.g.holders n≠0->zdu s n day k x.g=true) from λe1 e2=>by rw[Hk false e1 (by simpa using e2)];rfl);have sG:sumQ x.g.holders<=1:=by
    rcases dC.one with e|e
    ·rw[e];decide
    ·rw[e];exact Rat.le_refl
   generalize zah x.g.holders n=sh at*;generalize za0 x.g.holders n=wo at*;have jm:zaJ sh:=zca ho Mdl qv;unfold zaA at nR;clear aY qi ko uy Ha uQ iz dC ae ai Hk cB Ce;go_upto_region 8 with(go_at_call 161;go_must(refine(nR.o).mono ?_);rintro e wq ⟨rfl,z2,rfl⟩)
   obtain⟨SB,mM⟩:=Qd (WR.heap.size+z2.os.size)
   obtain⟨W3,bv⟩:=Qd ((WR.ext z2).alloc (.cells #[.int .i64 (sh).num,.int .i64 (sh).den] 50))
   have gS:W3.heap[SB]?=some (.cells #[.int .i64 (sh).num,.int .i64 (sh).den] 50):=by rw[bv];exact zas _ _ _ (by rw[mM];simp[zaf])
   have ax:Qa WR W3:=by rw[bv];exact zad (zan WR z2) _
   rw[<-bv,<-mM];clear bv mM i0 i3 i4;clear xs0 xr0 s0 s1 s2 s3 s4 s5 s6 r0 r1 r2 r3 r4 r5 r6 rf ls lr;have jD:=ax.size;have aG:=zHi ax;have sA:=bk.o.trans (ax.mono MeA);obtain⟨uY,mE⟩:=yH2 sA (bJ.o.keep ax);obtain⟨q0,q1⟩:=zbx gS;have sb:=zab gS;have GS:=zHi gS;obtain⟨⟨xs0,xr0⟩,⟨s0,s1,s2,s3,s4,s5,s6⟩,⟨r0,r1,r2,r3,r4,r5,r6⟩,rf,ls,lr⟩:=dsF (av.o W3 (sA));clear sA ax gS;have i0:W3.cell? ⟨ga,go+k*5,none⟩=some (.string x.g.place):=by have:=mE.o.at ew.o (j:=0) rfl;simpa using this
   have EJ:ga<W3.heap.size:=mE.o.lt;by_cases hz:sh=0
   ·have nM:(sh.num==0)=true:=by rw[hz];rfl
    have dm:=eW.o (dx.map (·.g)) (AT hz);rw[<-qP.o]at dm;have Fz:=zHi dm;clear hz AT uD dm ho qv aZ qE jm
    (refine zag McT McT ?_
     repeat(first|go_big_quiet_skip|(go_big_quiet_want;go_big_quiet_op;first|go_big_quiet_on|(apply Exists.intro;refine⟨λ_=>?_,?_⟩;(fail);go_big_quiet_on)))
     refine wpQuiet_nil ?_
     rintro _ ⟨zq,rfl⟩)
    exact MK
   have nM:(sh.num==0)=false:=by
    exact Mbx
   have eJ:=zHi (λW (hB:Qa W3 W)=>zki x.g.place day W (H.o W (ak.o.trans ((uY.o.trans (hB.mono (by have:=uY.o.size;omega))).mono ay))) HF.o);by_cases aH:zaL s x.g.place day=some k;rotate_left 1
   ·have dm:=eW.o (dx.map (·.g)) (uD aH);rw[<-qP.o]at dm;have Fz:=zHi dm;have lK:=grav_ne aH;generalize zkF s.graves x.g.place day=gi at*;have L8:(gi==(k:Int))=false:=by simpa using lK
    have L9:(gi != (k:Int))=true:=by simpa using lK
    clear hz AT uD dm aH lK ho qv aZ qE jm
    (refine zag McT McT ?_
     repeat(first|go_big_quiet_skip|(go_big_quiet_want;go_big_quiet_op;first|go_big_quiet_on|(apply Exists.intro;refine⟨λ_=>?_,?_⟩;((go_at_call 59;exact quietx (eJ.o _ Bw)));go_big_quiet_on)))
     refine wpQuiet_nil ?_
     rintro _ ⟨zq,rfl⟩)
    exact MK
   have qk:=BM.o aH hz;rw[zdW aH]at eJ;have Fe:=zHi qk;clear AT uD aH qk
   (refine zag McT McT ?_
    repeat(first|go_big_quiet_skip|(go_big_quiet_want;go_big_quiet_op;first|go_big_quiet_on|(apply Exists.intro;refine⟨λ_=>?_,?_⟩;((go_at_call 59;exact quietx (eJ.o _ Bw)));go_big_quiet_on)))
    refine wpQuiet_nil ?_
    rintro _ ⟨zq,rfl⟩)
   obtain⟨W4,gZ⟩:=Qd (W3.ext zq)
   have aB:Qa W3 W4:=by rw[gZ];exact zan _ _
   rw[<-gZ];have KK:=aB.size;obtain⟨dL,GS4⟩:=yH2 (aG.o.trans (aB.mono jD)) ((aB.block SB sb).trans GS.o);have sB:=bk.o.trans (dL.o.mono MeA);have IF:=zHi sB;have i3:W4.cell? ⟨ga,go+k*5+3,none⟩=some (.slice x.H x.g.holders.length x.hc):=(bJ.o.keep dL.o).at ew.o (j:=3) rfl;have LX:ga<W4.heap.size:=(bJ.o.keep dL.o).lt;have sd:SB<W4.heap.size:=McS;have rK:=zHi (mF.o W4 (ak.o.trans (sB.mono ay)));have rh:Hid (l=false->HH=some hs/\hs.length<=1000/\GainSt sh wo hs):=zHi λhl=>by
    have uj:=(li.o (by rw[hl,Bool.and_false])).2;rw[hl]at uj;obtain⟨e1,e2,e3,e4⟩:=eX.o hs uj;have hp:∀p∈hs,0<=p.2:=λp hp=>by have:=e2.pos p hp;grind
    have:=Rat.mul_le_mul_of_nonneg_left e3 ho;exact⟨uj,e1,Ip,zF,by grind,hp⟩
   obtain⟨ju,mC⟩:=yH2 ho jm;clear gZ i0 q0 q1 sb sB aB hz nM ho qv aZ qE Ip zF jm sG EJ EI;clear xs0 xr0 s0 s1 s2 s3 s4 s5 s6 r0 r1 r2 r3 r4 r5 r6 rf ls lr;go_upto_region 11 with(go_at_call 162;go_must(refine(rK.o).mono ?_);rintro e w5 ⟨v5,rfl,o5,b5⟩)
   obtain⟨ll,bf⟩:=yH2 o5 b5;have CC:=b5.size;clear i3 o5 b5;go_upto_region 12 with fail
   go_loopw [9,14,15] (λv9 v14 j wr=>∃(i:Nat) (l':Bool) (out:Parts),i<=hs.length/\j=.int .i64 i/\v9=.bool l'/\OwnS wr W4.heap.size 55 3 zaa v14 out/\out.length<=50000+i/\Qa w5 wr/\Hid (l'=false->l=false/\zb8 sh hs wo=zb8 sh (hs.drop i) out/\GainSt sh out (hs.drop i))/\Hid (l'=true->l=true\/zb8 sh hs wo=none)) (λ_ _ j _=>hs.length-(intOf j).toNat)
   case atStart=>exact⟨0,l,wo,Nat.zero_le _,rfl,rfl,ll.o,by omega,Qb,zHi λe=>⟨e,rfl,(rh.o e).2.2⟩,zHi λe=> .inl e⟩
   case round=>
    obtain⟨i,l',out,hi,rfl,rfl,aa,kQ,jz,zX,oG⟩:=hrel;have sw:=jz.size;obtain⟨gw,qI,tK,HO⟩:=yH4 (bf.o.trans (jz.mono CC)) jz jz aa;have Dd:wr.heap[SB]?=_:=(gw.o.block SB sd).trans GS4.o;obtain⟨q0,q1⟩:=zbx Dd;have Kx:=zab Dd;have xj:Qa w1 wr:=HB.o.trans ((dL.o.trans (gw.o.mono (by have:=dL.o.size;omega))).mono aM);have wa:=zHi (Ad.o.keep xj);clear jz xj Dd;by_cases hlti:i<hs.length
    ·have xP:(i:Int)<(hs.length:Int):=McS;have eE:(0:Int)<=(i:Int):=McS;cases l'
     ·obtain⟨jM,ia,aI⟩:=zX.o rfl;obtain⟨b,off,hA,hb,ah⟩:=wa.o.at hlti;have i8:hs.drop i=hs[i]::hs.drop (i+1):=List.drop_eq_getElem_cons hlti;rw[i8]at aI ia;have lL:=(rh.o jM).2.1;have dh:=zHi hlti;have tk:0<hs[i].2/\hs[i].2<=1/\zaJ hs[i].2:=by
       obtain⟨_,e2,e3,e4⟩:=eX.o hs (rh.o jM).1;exact zdK (hs:=hs) ⟨e2,e4,e3⟩ (List.getElem_mem hlti)
      clear i8;generalize hs[i]=y at*;obtain⟨nm,q⟩:=y;simp only at tk;have i0:wr.cell? ⟨b,off+i*3,none⟩=some (.string nm):=ah 0 _ rfl;have i1:wr.cell? ⟨b,off+i*3+1,none⟩=some (.int .i64 q.num):=ah 1 _ rfl;have i2:wr.cell? ⟨b,off+i*3+2,none⟩=some (.int .i64 q.den):=ah 2 _ rfl;have l9:=zHi (λW=>zg0 sh q W mC.o tk.2.2);unfold zaA at l9;obtain⟨p1,p2⟩:=aI.more ju.o;obtain⟨kA,lq⟩:=yH2 (λhl=>aI.next ju.o hl) (aI.parts ju.o);rw[zm4]at ia;obtain⟨mo,yq⟩:=Qd (sh*q)
      rw[<-yq]at ia l9 p1 p2 kA;obtain⟨mD,vr,pT⟩:=yH3 (And.intro p1 p2) ia jM;clear ah aI ia hlti tk p1 p2 yq aa jM;subst hA;go_upto_region 14 with fail
      refine zdE 7 _ _ (.cells #[.int .i64 0,.int .i64 0] 50) (.cells #[.int .i64 (mo).num,.int .i64 (mo).den] 50) McT McT rfl rfl ?hrun ?_
      case hrun=>intro a W;kernel_rfl
      simp only[List.take_succ_cons,List.take_zero];repeat(refine zeK (λK hK=>?_);simp only[grow];go_simp;first|(refine hK _ ?_;clear hK K)|(apply Exists.intro;refine⟨λ_=>?_,hK _ ?_⟩;((go_at_call 163;exact quietg (l9.o _)));clear hK K))
      refine zfE ⟨?hstore,?hlast⟩
      case hstore=>
       exact MG
      case hlast=>
       rintro MB W9 ⟨z9,xa⟩ Kl gM;have bW:Qa wr W9:=by rw[xa];exact zan _ _
       have CE:=bW.size;have rq:=zHi bW;obtain⟨m0,m1⟩:=zbx gM;have rV:=zab gM;have i9:W9.cell? ⟨b,off+i*3,none⟩=some (.string nm):=(zai bW hb).trans i0;have Dx:b<W9.heap.size:=McS;clear xa bW i0 i1 i2 q0 q1;by_cases zd:1000000000<(mo.den:Int)
       ·have lK:zb8 sh hs wo=none:=by rw[vr.o,if_pos (by simp[bigQ,zd])]
        have IX:=zHi lK;clear lK;go_wp2_with fail
        go_round
        case rel=>exact⟨i+1,true,out,dh.o,by go_num,rfl,HO.o.keep rq.o,by omega,(qI.o).trans (rq.o.mono sw),zHi McV,zHi λ_=> .inr IX.o⟩
        case measure=>have:=dh.o;simp only[intOf];omega
       ·have bl:bigQ mo=false:=by simpa[bigQ]using zd
        have bh:=vr.o;rw[bl,if_neg McV]at bh;have BI:=zHi bh;have ny:=zca mD.o.1 mD.o.2 bl;obtain⟨OV,oc,rfl,_,_⟩:=HO.o.sl zak;have eK:=zHi (λW (hW:Qa wr W)=>zcW out nm mo OV oc W (by have:=dh.o;omega) lq.o ny (zja zak (HO.o.keep hW)).1);unfold zaA at eK;have bQ:=zcz nm mo out;go_upto_region 17 with fail
        have aJ:=zHi (λ(W:World) (h:Qa W9 W)=>(show W.cell? ⟨b,off+i*3,none⟩=some (.string nm)/\W.cell? ⟨MB,0,none⟩=some (.int .i64 mo.num)/\W.cell? ⟨MB,1,none⟩=some (.int .i64 mo.den) from⟨(zai h Dx).trans i9,(zai h rV).trans m0,(zai h rV).trans m1⟩));clear bh ny bl zd i9 m0 m1;refine za9 7 (λbb w'=>bb=true\/(w'.cell? ⟨b,off+i*3,none⟩=some (.string nm)/\w'.cell? ⟨MB,0,none⟩=some (.int .i64 mo.num)/\w'.cell? ⟨MB,1,none⟩=some (.int .i64 mo.den))) McT (.inr (aJ.o _ (zaF Qb))) ?hrest
        case hrest=>
         intro hHeld;refine TkM 0 ?_;refine TkM 1 ?_;refine TkM 2 ?_;refine TkM 3 ?_;refine TkM 4 ?_;refine TkM 5 ?_;refine TkM 6 ?_;refine OnM 7 true λK hK=>?_
         go_simp
         refine(eK.o _ (zaF rq.o)).mono ?_;rintro e w10 ⟨v10,rfl,o10,b10⟩;refine NxM hK λhHeld=>?_
         clear hK K;refine OnM 8 true λK hK=>?_
         go_simp
         refine NxM hK λhHeld=>?_
         clear hK K;refine zaO McT ?_ _;clear hHeld;obtain⟨YA,yc,rfl,pM,_⟩:=o10.sl zak;have hJ:Qa W9 w10:=(zaF Qb).trans b10;obtain⟨vI,oI,dr⟩:=yH3 (rq.o.trans (hJ.mono CE)) (o10.base_le (show W4.heap.size<=W9.drew.heap.size by show W4.heap.size<=W9.heap.size;omega)) (λW (h:Qa w10 W)=>zdJ (za5 out nm mo) YA yc W (by have:=dh.o;omega) (pM.keep h));clear o10 b10 pM hJ rV;have hx:=BI.o;cases hlg:zaE (za5 out nm mo)
         ·rw[hlg]at hx dr;have aK:=zHi (kA.o hlg);rw[if_neg McV]at hx;have kF:=zHi hx;clear hx hlg;generalize za5 out nm mo=out1 at*;go_wp2_with (go_at_call 165;go_must(refine(dr.o _ Bw).mono ?_);rintro e wq ⟨rfl,rfl⟩)
          go_round
          case rel=>exact⟨i+1,false,out1,dh.o,by go_num,rfl,oI.o,by omega,(qI.o).trans (vI.o.mono sw),zHi λ_=>⟨pT.o,kF.o,aK.o⟩,zHi McV⟩
          case measure=>have:=dh.o;simp only[intOf];omega
         ·rw[hlg]at hx dr;rw[if_pos rfl]at hx;have kF:=zHi hx;clear hx hlg;generalize za5 out nm mo=out1 at*;go_wp2_with (go_at_call 165;go_must(refine(dr.o _ Bw).mono ?_);rintro e wq ⟨rfl,rfl⟩)
          go_round
          case rel=>exact⟨i+1,true,out1,dh.o,by go_num,rfl,oI.o,by omega,(qI.o).trans (vI.o.mono sw),zHi McV,zHi λ_=> .inr kF.o⟩
          case measure=>have:=dh.o;simp only[intOf];omega
     ·exact Mj
    ·have xP:¬(i:Int)<(hs.length:Int):=McS;cases l'
     ·obtain⟨jM,ia,_⟩:=zX.o rfl;rw[List.drop_of_length_le McS,zb8]at ia;have oS:D0=(zb1 s n day HH (k+1) (s.graves.drop (k+1))).map ((dx.map (·.g)++[{x.g with holders:=out,died:=x.g.died++[n]}])++ ·):=by
       obtain⟨h1,h2⟩:=li.o (by rw[jM,Bool.and_false]);rw[jM]at h2;have h2:HH=some hs:=h2;rw[h1,qP.o,h2];exact IP.o _ hs out Fe.o ia
      have Gf:HH=some hs:=by
       obtain⟨_,h2⟩:=li.o (by rw[jM,Bool.and_false]);rw[jM]at h2;exact h2
      obtain⟨HN,lh⟩:=yH2 oS Gf;clear oS Gf ia jM;obtain⟨OV,oc,rfl,_,yE⟩:=HO.o.ro;have jE:=dL.o.trans (gw.o.mono dL.o.size);have b8:=bJ.o.keep jE;obtain⟨gcur,dB,_⟩:=b8.row;have j3:wr.cell? ⟨ga,go+k*5+3,none⟩=some (.slice x.H x.g.holders.length x.hc):=b8.at ew.o (j:=3) rfl;have jf:=b8.frz;have jI:=b8.lt;obtain⟨rz,mw,C6,ku⟩:=yH4 b8 dB yE jE;clear yE jE b8 dB;go_upto_region 20 with fail
      obtain⟨V1,nZ⟩:=Qd (wr.setCell ⟨ga,go+k*5+3,none⟩ (.slice OV out.length oc))
      have ib:wr.grownBy V1 (some ga):=by rw[nZ];exact za1 _ _ _ _
      have gq:RowC V1 91 ga go 5 (((dx++gxs.drop k).map GX.cells).set k (x.cells.set 3 (.slice OV out.length oc))):=by rw[nZ];exact rz.o.set ew.o McU
      have sz:Qa w1 V1:=Mec;rw[<-nZ];have Dj:WR.heap.size<=V1.heap.size:=Nat.le_trans ku.o.size ib.size;clear nZ j3 jf jI;have Nn:=hxd5 gq ew.o;obtain⟨ke,uV⟩:=yH2 gq sz;have L4:=gq.lt;have vO:=zHi (C6.o.kept ib mw.o McU);have vh:=zHi (λy hy=>(((gI.o y hy).keep ku.o).kept ib mw.o:okR gxs V1 y));have Cu:=zHi (uc.o V1 (ak.o.trans ((aL.o.trans (sz.mono iE)).mono ay))).2;clear gq sz ib
      go_wp2_with (first
       |(at_builtin
         go_loud(refine zar (v:=.slice (some ⟨V1.heap.size,0,none⟩) 0 0) (n:=0) (m:=x.g.died.length) rfl _ _ rfl zbL zaB zbK rfl (xs:=[]) (ys:=x.g.died) (zdX zaB V1 V1.heap.size Qc) rfl rfl rfl (Cu.o.keep (zad Qb _)) Mdf McS McV ?_)
         intro v3 w3 h1 h2 h3;rw[List.nil_append]at h1;have ax:Qa V1 w3:=Below.grown (zad Qb _) h2 McV Mdx;obtain⟨V3,vc3,rfl,_,_⟩:=h1.sl zaB;obtain⟨nQ,m8⟩:=yH2 h1 ax;have wn:=ax.size
         clear h1 h2 h3 ax)
       |(at_builtin
         go_loud(refine zar (v:=.slice V3 x.g.died.length vc3) (n:=x.g.died.length) (m:=1) rfl _ _ rfl zbL zaB zbK rfl (xs:=x.g.died) (ys:=[n]) (nQ.o.keep (n:=w3.heap.size) (zad Qb _)) rfl rfl rfl (zcU (zas _ _ _ rfl)) Mdf McS McX ?_)
         intro v6 w6 h1 h2 h3;have aS:Qa V1 w6:=Below.grown (zad m8.o _) h2 McX (λj hj=>(nQ.o.ge j hj).1);obtain⟨A6,vc6,dK,_,_⟩:=h1.sl zaB;rw[List.length_append]at dK;subst dK;obtain⟨eA,eV⟩:=yH2 h1 aS;have eU:=ke.o.keep aS;have i4:w6.cell? ⟨ga,go+k*5+4,none⟩=some (.slice x.D x.g.died.length x.dc):=hxd5 eU ew.o;have jf6:=eU.frz;have E7:=eU.lt;have Dw:=aS.size
         clear h1 h2 h3 aS eU))
      go_round
      case rel=>
       have eU:=ke.o.keep eV.o;rw[BC.o]at eU;obtain⟨gcur6,mZ,_⟩:=eU.row;refine⟨k+1,false,true,dx++[(⟨{x.g with holders:=out,died:=x.g.died++[n]},OV,oc,A6,vc6⟩:GX)],aj.o,by go_num,rfl,rfl,by rw[List.length_append,iM];rfl,zHi λ_=>row_two iM eU,zHi λy hy=>?_,zHi McV,zHi λ_=>⟨by rw[HN.o,List.map_append];rfl,lh.o⟩,zaS (uV.o.trans (eV.o.mono uV.o.size)) AS _,by simp;omega⟩;exact Mct
      case measure=>have:=aj.o;simp only[intOf];omega
     ·exact Mj
  ·have au:¬(k:Int)<(s.graves.length:Int):=McS;have ph:k=s.graves.length:=McS;have Ea:gxs.drop k=[]:=List.drop_of_length_le McS;have zj:s.graves.drop k=[]:=List.drop_of_length_le McS;have HG:Hid ((f&&l)=false->R=({s with graves:=dx.map (·.g),dead:=s.dead++[n]},0)):=zHi λdZ=>by
    obtain⟨h1,_⟩:=li.o dZ;rw[zj,zb1]at h1;rw[HR.o,h1];simp
   have dp:Hid ((f&&l)=true->R=(s,8)):=zHi λdZ=>by rw[HR.o,oC.o dZ]
   clear zj ae hB cB;cases f
   ·exact Me
   ·cases l
    ·exact Me
    ·have HE:=zHi (dp.o rfl);clear HG dp;go_wp2_with fail
     refine bodyPost_ret (zbB rfl _ rfl rfl (zc0 xr0)) rfl ?_;exact⟨_,_,_,_,_,_,_,false,rfl,rfl,zcC (ak.o.trans (bk.o.mono ay)) (show w.heap.size<=w.heap.size+1 by omega),.inr ⟨rfl,by rw[HE.o]⟩⟩
variable{laws:List Law}{d:Deed}
def zkm{s':St}(ht:zbp laws s d=(s',0)):s'.wills.length<=s.wills.length+1:=by
 have key:∀ {x:St×Int},x=(s',0)->x.1.wills.length<=s.wills.length+1->s'.wills.length<=s.wills.length+1:=λe h=>by rw[e]at h;exact h
 refine key ht ?_;clear key ht;have h0:s.wills.length<=s.wills.length+1:=Nat.le_succ _;unfold zbp;split
 ·unfold zcR;repeat(first|split|exact h0)
 split
 ·unfold zbo;exact MbE
 split
 ·unfold zbb;exact MbE
 split
 ·unfold zdc;exact MbE
 split
 ·unfold zgU;split
  ·exact h0
  ·simp
 split
 ·unfold zb9;repeat(first|split|exact h0)
 split
 ·unfold zcG;repeat(first|split|exact h0)
 split
 ·unfold zdt;repeat(first|split|exact h0)
 ·unfold zdM;repeat(first|split|exact h0)
def zoC{wd rd:List Deed}(h:FewS k s)(hw:s.wills.length<=k)(hk:k<=1000)(hL:StLink s wd rd):StFew s wd rd:=
 ⟨by have:=h.kids;omega,by have:=h.marr;omega,by have:=h.dead;omega,by rw[hL.wills,List.length_map]at hw;omega,by have:=h.ren;rw[hL.ren,List.length_map]at this;omega,by have:=h.graves;omega⟩
variable{ds:List Deed}
def next_same(hc:zaH d=0)(hk:ds.length=k):nxP laws s ds d=zcn laws s k (zn2 ds) d:=by
 subst hk;unfold nxP zcn;rw[if_neg (show¬(zaH d != 0)=true by rw[hc];decide)];split
 ·rfl
 ·cases hg:ds.getLast? with
  |none=>
   have h0:=(ze8 hc).day.1;have hn:¬d.day<0:=McS;simp[zn2,hg,hn]
  |some x=>simp[zn2,hg]
def est_heirs{last:Int}(hG:GoodSt s last)(hF:FewS k s)(hk:k<=900)(bH:zaC laws=0)(h:zcM s (zbc laws day) n=some hs):hs.length<=1000/\GoodParts hs/\sumQ hs<=1/\zaE hs=false:=by
 have bS:=zfc bH day;have bB:=ze7 (hG.wills n) bS h;have iv:=(zfV (s:=s) (n:=n) (hG.wills n) bS).1 hs h;have lL:=ziR (s:=s) (law:=zbc laws day) (n:=n) (by rw[iv];exact bB.1);rw[iv]at lL;have h1:=hF.wills n;have h2:=hF.kids;simp only at lL;exact⟨by omega,bB.1,by rw[bB.2.1];exact Rat.le_refl,bB.2.2⟩
def zpT(laws:List Law)(s:St)(last:Int)(k:Nat)(d:Deed)(B:Option Addr)(c:Nat)(ds:List Deed)(DB:Option Addr)(dc:Nat)(w:World){a0 a1 a2 a3 a4 a5 a6:Value}(hs:StAt w laws s a0 a1 a2 a3 a4 a5 a6)(hG:GoodSt s last)(hF:FewS k s)(hw:s.wills.length<=k)(hk:k<=600)(bH:zaC laws=0)
 (hd:zaH d=0)(aA:d.to.length<=c)(hS:Sl w 3 RPart.cells B d.to)(gV:SlW w 7 zfG DB ds)(n:Nat)(hn:n=ds.length):Calls Tryz.prog 55 #[.agg #[a0,a1,a2,a3,a4,a5,a6],.slice DB n dc,d.v B c] w (zfM w laws (nxP laws s ds d)):=by
 subst hn;obtain⟨wd,rd,LA,CA,MA,DA,WA,RA,GA,c0,c1,c2,c3,c4,c5,c6,rfl,rfl,rfl,rfl,rfl,rfl,rfl,hI,hL⟩:=hs;have hf:=zoC hF hw McS hL;refine rNext_of laws s wd rd LA CA MA DA WA RA GA c0 c1 c2 c3 c4 c5 c6 d B c w hI hL hf (ze8 hd) hS ds DB dc gV aA (λg hg=>⟨hG.graves g hg,by have:=(hF.held g hg).1;omega⟩) (λg hg=>(hF.held g hg).2.2) λW hB=>?_
 exact rDies_any laws s wd rd LA CA MA DA WA RA GA c0 c1 c2 c3 c4 c5 c6 d.frm d.day W (hI.keep hB) hL hf bH (hG.wills _) hG.acyc (hF.wills _) (λg hg=>⟨hG.graves g hg,by have:=(hF.held g hg).1;omega⟩) (λg hg=>by have:=(hF.held g hg).2.1;omega) λhs h=>est_heirs hG hF McS bH h
def zjo(w:World)(laws:List Law)(R:St×Nat×Int)(e:Ending)(w':World):Prop:=
 ∃a0 a1 a2 a3 a4 a5 a6,e=.returned (.tuple #[.agg #[a0,a1,a2,a3,a4,a5,a6],.int .i64 (R.2.1:Int),.int .i64 R.2.2])/\([a0,a1,a2,a3,a4,a5,a6].all zcQ)=true/\Qa w w'/\(R.2.2=0->StAt w' laws R.1 a0 a1 a2 a3 a4 a5 a6)
def st_zero{LA:Option Addr}(h:Sl w 4 Law.cells LA laws):StAt w laws zb3 (.slice LA laws.length c) (.slice none 0 0) (.slice none 0 0) (.slice none 0 0) (.slice none 0 0) (.slice none 0 0) (.slice none 0 0):=
 ⟨[],[],LA,none,none,none,none,none,none,c,0,0,0,0,0,0,rfl,rfl,rfl,rfl,rfl,rfl,rfl,⟨h,Sl.nil,Sl.nil,Sl.nil,λh=>absurd h McV,λh=>absurd h McV,λh=>absurd h (by simp[zb3]),Qc⟩,⟨rfl,by simp,rfl,by simp⟩⟩
def zeO{B:Nat}{y z:Value}{fn:Func}{p q r:Tmp}(h:fn.results= #[.cell p 86,.tmp q,.tmp r])(tmps:Array Value)(hp:tmps.getD p undef=.pointer (some ⟨B,0,none⟩))(hq:tmps.getD q undef=y)(hr:tmps.getD r undef=z)
 (hx:w.heap[B]?=some (.cells #[x0,x1,x2,x3,x4,x5,x6] 86)):(results fn tmps).run Tryz.prog w=.ok (.tuple #[.agg #[x0,x1,x2,x3,x4,x5,x6],y,z]) w:=by
 obtain⟨h0,h1,h2,h3,h4,h5,h6⟩:=zaG hx;clear hx;have hc:(results fn tmps).run Tryz.prog w=((asAddr (tmps.getD p undef)).run Tryz.prog w).andThen λx w₁=>((loadVar 86 x).run Tryz.prog w₁).andThen λv w₂=> .ok (.tuple #[v,tmps.getD q undef,tmps.getD r undef]) w₂:=by
  simp only[results,h];simp[Sem.run_bind,Result.andThen]
 rw[hc,hp,hq,hr];go_simp
def drew_heap(W:World)(k:Nat):W.drew.heap[k]?=W.heap[k]?:=rfl
structure RepAt (base TB:Nat) (W:World) (laws:List Law) (ds:List Deed) (LA DA:Option Addr) (nc mc:Nat) (s told:St) (a0 a1 a2 a3 a4 a5 a6 b0 b1 b2 b3 b4 b5 b6:Value):Prop where
 box:W.heap[base]?=some (.cells #[.slice LA laws.length nc,.slice DA ds.length mc] 25)
 res:W.heap[base+1]?=some (.cells #[.slice none 0 0,.slice none 0 0,.slice none 0 0,.slice none 0 0,.slice none 0 0,.slice none 0 0,.slice none 0 0] 86)
 st:W.heap[base+2]?=some (.cells #[a0,a1,a2,a3,a4,a5,a6] 86)
 tcell:W.heap[TB]?=some (.cells #[b0,b1,b2,b3,b4,b5,b6] 86)
 tb:base+2<TB
 sl:([a0,a1,a2,a3,a4,a5,a6].all zcQ)=true
 sl2:([b0,b1,b2,b3,b4,b5,b6].all zcQ)=true
 sAt:StAt W laws s a0 a1 a2 a3 a4 a5 a6
 tAt:StAt W laws told b0 b1 b2 b3 b4 b5 b6
section
variable {base TB:Nat} {W W':World} {laws:List Law} {ds:List Deed} {LA DA:Option Addr} {nc mc:Nat} {s told s':St} {a0 a1 a2 a3 a4 a5 a6 b0 b1 b2 b3 b4 b5 b6 d0 d1 d2 d3 d4 d5 d6:Value}
def RepAt.keep(h:RepAt base TB W laws ds LA DA nc mc s told a0 a1 a2 a3 a4 a5 a6 b0 b1 b2 b3 b4 b5 b6)(hB:Qa W W'):RepAt base TB W' laws ds LA DA nc mc s told a0 a1 a2 a3 a4 a5 a6 b0 b1 b2 b3 b4 b5 b6:=
 ⟨(hB.block _ (zab h.box)).trans h.box,(hB.block _ (zab h.res)).trans h.res,(hB.block _ (zab h.st)).trans h.st,(hB.block _ (zab h.tcell)).trans h.tcell,h.tb,h.sl,h.sl2,h.sAt.keep hB,h.tAt.keep hB⟩
def zpU{w:World}{b k:Nat}{x:Obj}{a0 a1 a2 a3 a4 a5 a6:Value}(ai:k≠b)(h:w.heap[k]?=some x):(((((((w.setCell ⟨b,0,none⟩ a0).setCell ⟨b,1,none⟩ a1).setCell ⟨b,2,none⟩ a2).setCell ⟨b,3,none⟩ a3).setCell ⟨b,4,none⟩ a4).setCell ⟨b,5,none⟩ a5).setCell ⟨b,6,none⟩ a6).heap[k]?=some x:=
 J_ne ai (J_ne ai (J_ne ai (J_ne ai (J_ne ai (J_ne ai (J_ne ai h))))))
def RepAt.setS(h:RepAt base TB W laws ds LA DA nc mc s told a0 a1 a2 a3 a4 a5 a6 b0 b1 b2 b3 b4 b5 b6)(aZ:([d0,d1,d2,d3,d4,d5,d6].all zcQ)=true)(hs:StAt W laws s' d0 d1 d2 d3 d4 d5 d6):
 RepAt base TB (((((((W.setCell ⟨base+2,0,none⟩ d0).setCell ⟨base+2,1,none⟩ d1).setCell ⟨base+2,2,none⟩ d2).setCell ⟨base+2,3,none⟩ d3).setCell ⟨base+2,4,none⟩ d4).setCell ⟨base+2,5,none⟩ d5).setCell ⟨base+2,6,none⟩ d6) laws ds LA DA nc mc s' told d0 d1 d2 d3 d4 d5 d6 b0 b1 b2 b3 b4 b5 b6:=
 ⟨zpU McS h.box,zpU McS h.res,zc0 h.st,zpU (by have:=h.tb;omega) h.tcell,h.tb,aZ,h.sl2,(zc5 h.st h.sl).st hs,(zc5 h.st h.sl).st h.tAt⟩
def RepAt.setT(h:RepAt base TB W laws ds LA DA nc mc s told a0 a1 a2 a3 a4 a5 a6 b0 b1 b2 b3 b4 b5 b6):
 RepAt base TB (((((((W.setCell ⟨TB,0,none⟩ a0).setCell ⟨TB,1,none⟩ a1).setCell ⟨TB,2,none⟩ a2).setCell ⟨TB,3,none⟩ a3).setCell ⟨TB,4,none⟩ a4).setCell ⟨TB,5,none⟩ a5).setCell ⟨TB,6,none⟩ a6) laws ds LA DA nc mc s s a0 a1 a2 a3 a4 a5 a6 a0 a1 a2 a3 a4 a5 a6:=
 ⟨zpU (by have:=h.tb;omega) h.box,zpU (by have:=h.tb;omega) h.res,zpU (by have:=h.tb;omega) h.st,zc0 h.tcell,h.tb,h.sl,h.sl,(zc5 h.tcell h.sl2).st h.sAt,(zc5 h.tcell h.sl2).st h.sAt⟩
end
def zjp(laws:List Law)(ds:List Deed)(upto:Int)(LA:Option Addr)(n nc:Nat)(DA:Option Addr)(m mc:Nat)(w:World)(hR:RightsIn w laws ds LA n nc DA m mc)(hO:∀d∈ds,zdQ d)(bA:ds.length<=500):
 Calls Tryz.prog 26 #[.agg #[.slice LA n nc,.slice DA m mc],.int .i64 upto] w (zjo w laws (zaI laws ds upto)):=by
 obtain⟨rfl,rfl,xY,lI,fT,gV⟩:=hR;obtain⟨R,hR⟩:=Qd (zaI laws ds upto)
 rw[<-hR];unfold zaI at hR;obtain⟨cQ,eL,eW,HO,ry⟩:=yH5 (λW (hB:Qa w W)=>zj6 laws LA laws.length nc W rfl (fT.keep hB)) (λW (hB:Qa w W)=>(fT.keep hB:Sl W 4 Law.cells LA laws)) (λW (hB:Qa w W)=>(gV.keep zbS hB:SlW W 7 zfG DA ds)) hO hR;unfold zjo;clear fT gV hO hR;go_enter Tryz.func26,Tryz.ntmps26
 go_upto_region 2 with fail
 obtain⟨W0,am⟩:=Qd (((w.alloc (.cells #[.slice LA laws.length nc,.slice DA ds.length mc] 25)).alloc (.cells #[.slice none 0 0,.slice none 0 0,.slice none 0 0,.slice none 0 0,.slice none 0 0,.slice none 0 0,.slice none 0 0] 86)).alloc (.cells #[.slice LA laws.length nc,.slice none 0 0,.slice none 0 0,.slice none 0 0,.slice none 0 0,.slice none 0 0,.slice none 0 0] 86))
 have aO:Qa w W0:=Mdz;have g0:W0.heap[w.heap.size]?=some (.cells #[.slice LA laws.length nc,.slice DA ds.length mc] 25):=MdS;have g1:W0.heap[w.heap.size+1]?=some (.cells #[.slice none 0 0,.slice none 0 0,.slice none 0 0,.slice none 0 0,.slice none 0 0,.slice none 0 0,.slice none 0 0] 86):=by rw[am];exact zal (zas _ _ _ McV)
 have g2:W0.heap[w.heap.size+2]?=some (.cells #[.slice LA laws.length nc,.slice none 0 0,.slice none 0 0,.slice none 0 0,.slice none 0 0,.slice none 0 0,.slice none 0 0] 86):=by rw[am];exact zas _ _ _ McV
 rw[<-am];have ak:=zHi aO;have ay:=aO.size;clear am aO;obtain⟨x0,x1⟩:=zbx g0;have lx:=zab g0;go_upto_region 3 with(go_at_call 53;go_must(refine(cQ.o _ ak.o).mono ?_);rintro e wq ⟨rfl,z,rfl⟩)
 obtain⟨W1,aX⟩:=Qd (W0.ext z)
 have aW:Qa W0 W1:=MdM;rw[<-aX];have iE:=aW.size;have g0:=(aW.block _ (zab g0)).trans g0;have g1:=(aW.block _ (zab g1)).trans g1;have l2:=zab g2;have g2:=(aW.block _ (zab g2)).trans g2;have aL:=zHi (ak.o.trans (aW.mono ay));clear aX aW x0 x1 lx;obtain⟨s0,s1,s2,s3,s4,s5,s6⟩:=zaG g2;have ls:=zab g2;by_cases hce:zaC laws=0;rotate_left 1
 ·have HE:Hid (R=(zb3,0,zaC laws)):=by show _=_;rw[ry.o,if_pos (by simpa using hce)]
  have lH:(zaC laws != 0)=true:=by simpa using hce
  have fF:=zHi hce;obtain⟨r0,r1,r2,r3,r4,r5,r6⟩:=zaG g1;have rf:=frz g1;have lr:=zab g1;generalize zaC laws=ce at*;clear hce;go_wp2_with fail
  refine bodyPost_ret (zeO rfl _ rfl rfl rfl (zc0 g1)) rfl ?_;rw[HE.o];exact⟨_,_,_,_,_,_,_,rfl,by first|rfl|exact⟨rfl,rfl,rfl,rfl,rfl,rfl,rfl⟩,zcC aL.o (show w.heap.size<=w.heap.size+1 by omega),λh=>absurd h fF.o⟩
 have lC:Hid (R=zaR laws upto (ds.drop 0) zb3 zb3 0 0):=by show _=_;rw[ry.o,if_neg (by simp[hce])];rfl
 rw[hce];have eM:=zHi hce;clear hce ry;go_upto_region 6 with fail
 obtain⟨TB,Df⟩:=Qd W1.heap.size
 obtain⟨W2,cN⟩:=Qd (W1.alloc (.cells #[.slice LA laws.length nc,.slice none 0 0,.slice none 0 0,.slice none 0 0,.slice none 0 0,.slice none 0 0,.slice none 0 0] 86))
 have bM:Qa W1 W2:=by rw[cN];exact zad Qb _
 have oX:=aL.o.trans (bM.mono aL.o.size);have aN:=zHi oX;have vQ:Hid (RepAt w.heap.size TB W2 laws ds LA DA nc mc zb3 zb3 (.slice LA laws.length nc) (.slice none 0 0) (.slice none 0 0) (.slice none 0 0) (.slice none 0 0) (.slice none 0 0) (.slice none 0 0) (.slice LA laws.length nc) (.slice none 0 0) (.slice none 0 0) (.slice none 0 0) (.slice none 0 0) (.slice none 0 0) (.slice none 0 0)):=zHi
  ⟨(bM.block _ (zab g0)).trans g0,(bM.block _ (zab g1)).trans g1,(bM.block _ (zab g2)).trans g2,by rw[cN,Df];exact zas _ _ _ rfl,by omega,rfl,rfl,st_zero (eL.o _ oX),st_zero (eL.o _ oX)⟩
 rw[<-cN,<-Df];clear cN Df g0 g1 g2 bM oX s0 s1 s2 s3 s4 s5 s6 ls l2;go_upto_region 7 with fail
 go_loopw [10] (λv wr=>∃(k:Nat) (s told:St) (last:Int) (a0 a1 a2 a3 a4 a5 a6 b0 b1 b2 b3 b4 b5 b6:Value),k<=ds.length/\v=.int .i64 k/\Hid (RepAt w.heap.size TB wr laws ds LA DA nc mc s told a0 a1 a2 a3 a4 a5 a6 b0 b1 b2 b3 b4 b5 b6)/\Hid (GoodSt s last/\FewS k s/\s.wills.length<=k/\last=zn2 (ds.take k))/\Hid (R=zaR laws upto (ds.drop k) s told k last)/\Qa w wr) (λv _=>ds.length-(intOf v).toNat)
 case atStart=>exact⟨0,zb3,zb3,0,_,_,_,_,_,_,_,_,_,_,_,_,_,_,Nat.zero_le _,rfl,vQ,zHi ⟨zfb 0,zgC,Qc,rfl⟩,lC,aN.o⟩
 case round=>
  obtain⟨k,s,told,last,a0,a1,a2,a3,a4,a5,a6,b0,b1,b2,b3,b4,b5,b6,hk,rfl,HA,HI,HX,hB⟩:=hrel;obtain⟨WR,kI⟩:=Qd wr
  subst kI;have aM:=hB.size;have HB:=zHi hB;by_cases ae:k<ds.length
  ·obtain⟨gb,go,cs,jA,dB,dD,ah⟩:=(eW.o WR hB).at ae;have i8:ds.drop k=ds[k]::ds.drop (k+1):=List.drop_eq_getElem_cons ae;have hx:=HX.o;rw[i8,zaR]at hx;have pm:=zp2 ae;have kQ:=HO.o ds[k] (List.getElem_mem ae);have cF:(ds.take k).length=k:=MdC;have aj:=zHi ae;generalize ds[k]=x at*;obtain⟨EB,ec,uA,rfl,hP⟩:=dD;have i0:WR.cell? ⟨gb,go+k*7,none⟩=some (.int .i64 x.kind):=Mdk;have i1:WR.cell? ⟨gb,go+k*7+1,none⟩=some (.int .i64 x.day):=ah 1 _ rfl;have i2:WR.cell? ⟨gb,go+k*7+2,none⟩=some (.string x.place):=ah 2 _ rfl;have i3:WR.cell? ⟨gb,go+k*7+3,none⟩=some (.string x.frm):=ah 3 _ rfl;have i4:WR.cell? ⟨gb,go+k*7+4,none⟩=some (.slice EB x.to.length ec):=ah 4 _ rfl;have i5:WR.cell? ⟨gb,go+k*7+5,none⟩=some (.int .i64 x.cls):=ah 5 _ rfl;have i6:WR.cell? ⟨gb,go+k*7+6,none⟩=some (.int .i64 x.years):=ah 6 _ rfl;have au:(k:Int)<(ds.length:Int):=McS;have aR:(0:Int)<=(k:Int):=McS;have Lu:(k:Int)<=(mc:Int):=McS;have Lv:k<=mc:=McS;subst jA;obtain⟨lq,mi⟩:=yH2 (λW (h:Qa WR W)=>(hP.keep h:Sl W 3 RPart.cells EB x.to)) (λW (h:Qa WR W)=>zj7 x EB ec W kQ (hP.keep h));unfold Deed.v at mi;obtain⟨⟨A0,m0,q0,rfl⟩,⟨A1,m1,q1,rfl⟩,⟨A2,m2,q2,rfl⟩,⟨A3,m3,q3,rfl⟩,⟨A4,m4,q4,rfl⟩,⟨A5,m5,q5,rfl⟩,⟨A6,m6,q6,rfl⟩⟩:=zcm (HA.o.sl);obtain⟨x0,x1⟩:=zbx (HA.o).box;obtain⟨s0,s1,s2,s3,s4,s5,s6⟩:=zaG (HA.o).st;obtain⟨t0,t1,t2,t3,t4,t5,t6⟩:=zaG (HA.o).tcell;obtain⟨r0,r1,r2,r3,r4,r5,r6⟩:=zaG (HA.o).res;have sf:=frz (HA.o).st;have tf:=frz (HA.o).tcell
   have rf:=frz (HA.o).res;have lx:=zab (HA.o).box;have ls:=zab (HA.o).st;have lt':=zab (HA.o).tcell;have lr:=zab (HA.o).res;by_cases jc:zaH x=0;rotate_left 1
   ·have cY:zcn laws s k last x=(s,zaH x):=by unfold zcn;rw[if_pos (by simpa using jc)]
    have HE:Hid (R=(told,k,zaH x)):=by show _=_;rw[hx,cY,if_pos (by simpa using jc)]
    have fF:=zHi jc;have lH:(zaH x==0)=false:=by simpa using jc
    have xt:(zaH x != 0)=true:=by simpa using jc
    clear hx cY pm kQ cF ah hP uA ae i8 jc;generalize zaH x=ce at*;go_upto_region 10 with(go_at_call 54;go_must(refine(mi.o _ Qb).mono ?_);rintro e wq ⟨rfl,z,rfl⟩)
    obtain⟨W3,bv⟩:=Qd (WR.ext z)
    have ax:Qa WR W3:=by rw[bv];exact zan _ _
    rw[<-bv];obtain⟨cL,aG⟩:=yH2 (HA.o.keep ax) (hB.trans (ax.mono aM));clear x0 x1 s0 s1 s2 s3 s4 s5 s6 t0 t1 t2 t3 t4 t5 t6 r0 r1 r2 r3 r4 r5 r6 sf tf rf lx ls lt' lr;clear bv ax i0 i1 i2 i3 i4 i5 i6;obtain⟨⟨B0,k0,p0,rfl⟩,⟨B1,k1,p1,rfl⟩,⟨B2,k2,p2,rfl⟩,⟨B3,k3,p3,rfl⟩,⟨B4,k4,p4,rfl⟩,⟨B5,k5,p5,rfl⟩,⟨B6,k6,p6,rfl⟩⟩:=zcm ((cL.o).sl2);obtain⟨x0,x1⟩:=zbx ((cL.o)).box;obtain⟨s0,s1,s2,s3,s4,s5,s6⟩:=zaG ((cL.o)).st;obtain⟨t0,t1,t2,t3,t4,t5,t6⟩:=zaG ((cL.o)).tcell;obtain⟨r0,r1,r2,r3,r4,r5,r6⟩:=zaG ((cL.o)).res;have sf:=frz ((cL.o)).st;have tf:=frz ((cL.o)).tcell;have rf:=frz ((cL.o)).res;have lx:=zab ((cL.o)).box;have ls:=zab ((cL.o)).st;have lt':=zab ((cL.o)).tcell;have lr:=zab ((cL.o)).res;go_wp2_with fail
    refine bodyPost_ret (zeO rfl _ rfl rfl rfl (zc0 (cL.o).res)) rfl ?_;rw[HE.o];exact⟨_,_,_,_,_,_,_,rfl,by first|rfl|exact⟨rfl,rfl,rfl,rfl,rfl,rfl,rfl⟩,zcC (aG.o) (show w.heap.size<=w.heap.size+1 by omega),λh=>absurd h fF.o⟩
   rw[jc]at mi;have lQ:=next_same (laws:=laws) (s:=s) jc cF;obtain⟨hG,hF,cK,Hw⟩:=HI.o;rw[<-Hw]at lQ;have kA:=zHi (λW (h:Qa WR W) (hL:k<=600)=>zpT laws s last k x EB ec (ds.take k) (some ⟨gb,go,none⟩) mc W (HA.o.sAt.keep h) hG hF cK hL eM.o jc uA (hP.keep h) ((eW.o W (hB.trans (h.mono aM))).take k) k cF.symm);rw[lQ]at kA;have I5:=zdH (laws:=laws) (s:=s) (k:=k) (last:=last) (d:=x);have dC:(zcn laws s k last x).2=0->GoodSt (zcn laws s k last x).1 x.day/\FewS (k+1) (zcn laws s k last x).1/\(zcn laws s k last x).1.wills.length<=k+1/\x.day=zn2 (ds.take (k+1)):=λh0=>by
    obtain⟨_,h2,h3,h4⟩:=I5 h0;have ht:zbp laws s x=((zcn laws s k last x).1,0):=by rw[<-h4];exact Prod.ext rfl h0
    exact⟨zhd hG (ze8 jc) h3 eM.o ht,zkR hF h2 hG (ze8 jc) h3 eM.o ht,by have:=zkm ht;omega,pm.symm⟩
   obtain⟨BJ,aw⟩:=yH2 dC hx;clear hx dC I5 lQ hG hF cK Hw pm kQ ah hP i8 ae jc;generalize zcn laws s k last x=N at*;obtain⟨s',er⟩:=N;simp only at BJ aw;go_upto_region 11 with(go_at_call 54;go_must(refine(mi.o _ Qb).mono ?_);rintro e wq ⟨rfl,z,rfl⟩)
   obtain⟨W3,bv⟩:=Qd (WR.ext z)
   have ax:Qa WR W3:=by rw[bv];exact zan _ _
   rw[<-bv];have wn:=ax.size;have iO:gb<W3.heap.size:=McS;have i0:=(zai ax dB).trans i0;have i1:=(zai ax dB).trans i1;have i2:=(zai ax dB).trans i2;have i3:=(zai ax dB).trans i3;have i4:=(zai ax dB).trans i4;have i5:=(zai ax dB).trans i5;have i6:=(zai ax dB).trans i6;obtain⟨cL,aG,Bv⟩:=yH3 (HA.o.keep ax) (hB.trans (ax.mono aM)) ax;clear x0 x1 s0 s1 s2 s3 s4 s5 s6 t0 t1 t2 t3 t4 t5 t6 r0 r1 r2 r3 r4 r5 r6 sf tf rf lx ls lt' lr;clear bv ax hB;obtain⟨x0,x1⟩:=zbx (cL.o).box;obtain⟨s0,s1,s2,s3,s4,s5,s6⟩:=zaG (cL.o).st;obtain⟨t0,t1,t2,t3,t4,t5,t6⟩:=zaG (cL.o).tcell;obtain⟨r0,r1,r2,r3,r4,r5,r6⟩:=zaG (cL.o).res;have sf:=frz (cL.o).st;have tf:=frz (cL.o).tcell;have rf:=frz (cL.o).res;have lx:=zab (cL.o).box;have ls:=zab (cL.o).st;have lt':=zab (cL.o).tcell;have lr:=zab (cL.o).res
   have aJ:=zHi (λ(W:World) (h:Qa W3 W)=>(show W.cell? ⟨w.heap.size,1,none⟩=some (.slice (some ⟨gb,go,none⟩) ds.length mc)/\W.cell? ⟨w.heap.size+2,0,none⟩=some (.slice A0 m0 q0)/\W.cell? ⟨w.heap.size+2,1,none⟩=some (.slice A1 m1 q1)/\W.cell? ⟨w.heap.size+2,2,none⟩=some (.slice A2 m2 q2)/\W.cell? ⟨w.heap.size+2,3,none⟩=some (.slice A3 m3 q3)/\W.cell? ⟨w.heap.size+2,4,none⟩=some (.slice A4 m4 q4)/\W.cell? ⟨w.heap.size+2,5,none⟩=some (.slice A5 m5 q5)/\W.cell? ⟨w.heap.size+2,6,none⟩=some (.slice A6 m6 q6)/\W.cell? ⟨gb,go+k*7,none⟩=some (.int .i64 x.kind)/\W.cell? ⟨gb,go+k*7+1,none⟩=some (.int .i64 x.day)/\W.cell? ⟨gb,go+k*7+2,none⟩=some (.string x.place)/\W.cell? ⟨gb,go+k*7+3,none⟩=some (.string x.frm)/\W.cell? ⟨gb,go+k*7+4,none⟩=some (.slice EB x.to.length ec)/\W.cell? ⟨gb,go+k*7+5,none⟩=some (.int .i64 x.cls)/\W.cell? ⟨gb,go+k*7+6,none⟩=some (.int .i64 x.years) from⟨(zai h lx).trans x1,(zai h ls).trans s0,(zai h ls).trans s1,(zai h ls).trans s2,(zai h ls).trans s3,(zai h ls).trans s4,(zai h ls).trans s5,(zai h ls).trans s6,(zai h iO).trans i0,(zai h iO).trans i1,(zai h iO).trans i2,(zai h iO).trans i3,(zai h iO).trans i4,(zai h iO).trans i5,(zai h iO).trans i6⟩));have oF:=zHi (show k<=600 by omega)
   refine za9 10 (λbb w'=>bb=true\/(w'.cell? ⟨w.heap.size,1,none⟩=some (.slice (some ⟨gb,go,none⟩) ds.length mc)/\w'.cell? ⟨w.heap.size+2,0,none⟩=some (.slice A0 m0 q0)/\w'.cell? ⟨w.heap.size+2,1,none⟩=some (.slice A1 m1 q1)/\w'.cell? ⟨w.heap.size+2,2,none⟩=some (.slice A2 m2 q2)/\w'.cell? ⟨w.heap.size+2,3,none⟩=some (.slice A3 m3 q3)/\w'.cell? ⟨w.heap.size+2,4,none⟩=some (.slice A4 m4 q4)/\w'.cell? ⟨w.heap.size+2,5,none⟩=some (.slice A5 m5 q5)/\w'.cell? ⟨w.heap.size+2,6,none⟩=some (.slice A6 m6 q6)/\w'.cell? ⟨gb,go+k*7,none⟩=some (.int .i64 x.kind)/\w'.cell? ⟨gb,go+k*7+1,none⟩=some (.int .i64 x.day)/\w'.cell? ⟨gb,go+k*7+2,none⟩=some (.string x.place)/\w'.cell? ⟨gb,go+k*7+3,none⟩=some (.string x.frm)/\w'.cell? ⟨gb,go+k*7+4,none⟩=some (.slice EB x.to.length ec)/\w'.cell? ⟨gb,go+k*7+5,none⟩=some (.int .i64 x.cls)/\w'.cell? ⟨gb,go+k*7+6,none⟩=some (.int .i64 x.years))) McT (.inr (aJ.o _ (zaF Qb))) ?hrest
   case hrest=>
    intro hHeld;clear x0 x1 s0 s1 s2 s3 s4 s5 s6 t0 t1 t2 t3 t4 t5 t6 r0 r1 r2 r3 r4 r5 r6 sf tf rf lx ls lt' lr;clear i0 i2 i3 i4 i5 i6;refine TkM 0 ?_;refine TkM 1 ?_;refine TkM 2 ?_;refine TkM 3 ?_;refine TkM 4 ?_;refine TkM 5 ?_;refine TkM 6 ?_;refine TkM 7 ?_;refine TkM 8 ?_;refine TkM 9 ?_;refine OnM 10 true λK hK=>?_
    go_simp
    refine(kA.o _ (zaF Bv.o) oF.o).mono ?_;rintro e w5 ⟨d0,d1,d2,d3,d4,d5,d6,rfl,aZ,ar,aq⟩;have zk:=aZ;obtain⟨⟨D0,e0,f0,rfl⟩,⟨D1,e1,f1,rfl⟩,⟨D2,e2,f2,rfl⟩,⟨D3,e3,f3,rfl⟩,⟨D4,e4,f4,rfl⟩,⟨D5,e5,f5,rfl⟩,⟨D6,e6,f6,rfl⟩⟩:=zcm aZ;have cq:Qa W3 w5:=(zaF Qb:Qa W3 W3.drew).trans ar;obtain⟨gF,bf,aK,Ci⟩:=yH4 (cL.o.keep cq) (aG.o.trans (cq.mono aG.o.size)) aq zk;have i1:=(zai cq iO).trans i1;have DX:gb<w5.heap.size:=by have:=cq.size;omega
    clear ar aq aZ zk cq;obtain⟨x0,x1⟩:=zbx (gF.o).box;obtain⟨s0,s1,s2,s3,s4,s5,s6⟩:=zaG (gF.o).st;obtain⟨t0,t1,t2,t3,t4,t5,t6⟩:=zaG (gF.o).tcell;obtain⟨r0,r1,r2,r3,r4,r5,r6⟩:=zaG (gF.o).res;have sf:=frz (gF.o).st;have tf:=frz (gF.o).tcell;have rf:=frz (gF.o).res;have lx:=zab (gF.o).box;have ls:=zab (gF.o).st;have lt':=zab (gF.o).tcell;have lr:=zab (gF.o).res;refine NxM hK λhHeld=>?_
    clear hK K;refine FrM 11 true ?_;refine FrM 12 true ?_;refine FrM 13 true ?_;refine OnM 14 true λK hK=>?_
    go_simp
    refine NxM hK λhHeld=>?_
    clear hK K;refine OnM 15 true λK hK=>?_
    go_simp
    refine NxM hK λhHeld=>?_
    clear hK K;refine zaO McT ?_ _;clear hHeld;obtain⟨W6,fU⟩:=Qd (((((((w5.setCell ⟨w.heap.size+2,0,none⟩ (.slice D0 e0 f0)).setCell ⟨w.heap.size+2,1,none⟩ (.slice D1 e1 f1)).setCell ⟨w.heap.size+2,2,none⟩ (.slice D2 e2 f2)).setCell ⟨w.heap.size+2,3,none⟩ (.slice D3 e3 f3)).setCell ⟨w.heap.size+2,4,none⟩ (.slice D4 e4 f4)).setCell ⟨w.heap.size+2,5,none⟩ (.slice D5 e5 f5)).setCell ⟨w.heap.size+2,6,none⟩ (.slice D6 e6 f6))
    have d8:OffS (w.heap.size+2) w5 W6:=by rw[fU];exact zc5 gF.o.st gF.o.sl
    have lA:Hid (W6.heap[TB]?=some (.cells #[b0,b1,b2,b3,b4,b5,b6] 86)):=by show _=_;rw[d8.same _ (by have:=gF.o.tb;omega)];exact gF.o.tcell
    have tZ:Hid (W6.heap[w.heap.size+1]?=some (.cells #[.slice none 0 0,.slice none 0 0,.slice none 0 0,.slice none 0 0,.slice none 0 0,.slice none 0 0,.slice none 0 0] 86)):=by show _=_;rw[d8.same _ McS];exact gF.o.res
    have IG:Hid (W6.heap[w.heap.size]?=some (.cells #[.slice LA laws.length nc,.slice (some ⟨gb,go,none⟩) ds.length mc] 25)):=by show _=_;rw[d8.same _ McS];exact gF.o.box
    have sO:=d8.ne i1 rfl;have i1:=(d8.cell sO).trans i1;have mZ:=d8.lt sO DX;have xi:Qa w W6:=by rw[fU];exact zcC bf.o McS
    have Iy:Hid (er=0->RepAt w.heap.size TB W6 laws ds LA (some ⟨gb,go,none⟩) nc mc s' told (.slice D0 e0 f0) (.slice D1 e1 f1) (.slice D2 e2 f2) (.slice D3 e3 f3) (.slice D4 e4 f4) (.slice D5 e5 f5) (.slice D6 e6 f6) b0 b1 b2 b3 b4 b5 b6):=zHi λh0=>by
     rw[fU];exact gF.o.setS Ci.o (aK.o h0)
    rw[<-fU];have bs:=zHi xi;obtain⟨⟨B0,k0,p0,rfl⟩,⟨B1,k1,p1,rfl⟩,⟨B2,k2,p2,rfl⟩,⟨B3,k3,p3,rfl⟩,⟨B4,k4,p4,rfl⟩,⟨B5,k5,p5,rfl⟩,⟨B6,k6,p6,rfl⟩⟩:=zcm (gF.o.sl2);clear x0 x1 s0 s1 s2 s3 s4 s5 s6 t0 t1 t2 t3 t4 t5 t6 r0 r1 r2 r3 r4 r5 r6 sf tf rf lx ls lt' lr;clear fU d8 xi sO;by_cases lJ:er=0
    ·subst lJ;have HA:=zHi (Iy.o rfl);have hx:=aw.o;rw[if_neg McV]at hx;have dC:=BJ.o rfl;obtain⟨x0,x1⟩:=zbx (HA.o).box;obtain⟨s0,s1,s2,s3,s4,s5,s6⟩:=zaG (HA.o).st;obtain⟨t0,t1,t2,t3,t4,t5,t6⟩:=zaG (HA.o).tcell;obtain⟨r0,r1,r2,r3,r4,r5,r6⟩:=zaG (HA.o).res;have sf:=frz (HA.o).st;have tf:=frz (HA.o).tcell;have rf:=frz (HA.o).res;have lx:=zab (HA.o).box;have ls:=zab (HA.o).st;have lt':=zab (HA.o).tcell;have lr:=zab (HA.o).res;by_cases hdu:x.day<=upto
     ·rw[if_pos (by simpa using hdu)]at hx;obtain⟨du,ra⟩:=yH2 hx dC;clear hx dC;go_wp2_with fail
      go_round
      case rel=>exact⟨k+1,s',s',x.day,_,_,_,_,_,_,_,_,_,_,_,_,_,_,aj.o,by go_num,zHi HA.o.setT,ra,du,zcC bs.o (by have:=HA.o.tb;omega)⟩
      case measure=>have:=aj.o;simp only[intOf];omega
     ·rw[if_neg (by simpa using hdu)]at hx;obtain⟨du,ra⟩:=yH2 hx dC;clear hx dC;go_wp2_with fail
      go_round
      case rel=>exact⟨k+1,s',told,x.day,_,_,_,_,_,_,_,_,_,_,_,_,_,_,aj.o,by go_num,HA,ra,du,bs.o⟩
      case measure=>have:=aj.o;simp only[intOf];omega
    ·have xt:(er != 0)=true:=by simpa using lJ
     have HE:Hid (R=(told,k,er)):=by show _=_;rw[aw.o,if_pos xt]
     have fF:=zHi lJ;clear lJ i1;obtain⟨t0,t1,t2,t3,t4,t5,t6⟩:=zaG lA.o;obtain⟨r0,r1,r2,r3,r4,r5,r6⟩:=zaG tZ.o;have rf:=frz tZ.o;have lr:=zab tZ.o;go_wp2_with fail
     refine bodyPost_ret (zeO rfl _ rfl rfl rfl (zc0 tZ.o)) rfl ?_;rw[HE.o];exact⟨_,_,_,_,_,_,_,rfl,by first|rfl|exact⟨rfl,rfl,rfl,rfl,rfl,rfl,rfl⟩,zcC bs.o (show w.heap.size<=w.heap.size+1 by omega),λh=>absurd h fF.o⟩
  ·have au:¬(k:Int)<(ds.length:Int):=McS;have ph:k=ds.length:=McS;have HE:Hid (R=(told,ds.length,0)):=by show _=_;rw[HX.o,List.drop_of_length_le McS,zaR,ph]
   clear ae ph;obtain⟨⟨B0,k0,p0,rfl⟩,⟨B1,k1,p1,rfl⟩,⟨B2,k2,p2,rfl⟩,⟨B3,k3,p3,rfl⟩,⟨B4,k4,p4,rfl⟩,⟨B5,k5,p5,rfl⟩,⟨B6,k6,p6,rfl⟩⟩:=zcm (HA.o.sl2);obtain⟨x0,x1⟩:=zbx (HA.o).box;obtain⟨s0,s1,s2,s3,s4,s5,s6⟩:=zaG (HA.o).st;obtain⟨t0,t1,t2,t3,t4,t5,t6⟩:=zaG (HA.o).tcell;obtain⟨r0,r1,r2,r3,r4,r5,r6⟩:=zaG (HA.o).res;have sf:=frz (HA.o).st;have tf:=frz (HA.o).tcell;have rf:=frz (HA.o).res;have lx:=zab (HA.o).box;have ls:=zab (HA.o).st;have lt':=zab (HA.o).tcell;have lr:=zab (HA.o).res;go_upto_region 16 with fail
   have aJ:=zHi (λ(W:World) (h:Qa WR W)=>(show W.cell? ⟨w.heap.size,1,none⟩=some (.slice DA ds.length mc)/\W.cell? ⟨TB,0,none⟩=some (.slice B0 k0 p0)/\W.cell? ⟨TB,1,none⟩=some (.slice B1 k1 p1)/\W.cell? ⟨TB,2,none⟩=some (.slice B2 k2 p2)/\W.cell? ⟨TB,3,none⟩=some (.slice B3 k3 p3)/\W.cell? ⟨TB,4,none⟩=some (.slice B4 k4 p4)/\W.cell? ⟨TB,5,none⟩=some (.slice B5 k5 p5)/\W.cell? ⟨TB,6,none⟩=some (.slice B6 k6 p6) from⟨(zai h lx).trans x1,(zai h lt').trans t0,(zai h lt').trans t1,(zai h lt').trans t2,(zai h lt').trans t3,(zai h lt').trans t4,(zai h lt').trans t5,(zai h lt').trans t6⟩))
   have J7:Hid (∀a0 a1 a2 a3 a4 a5 a6:Value,((((((((WR.setCell ⟨w.heap.size+1,0,none⟩ a0).setCell ⟨w.heap.size+1,1,none⟩ a1).setCell ⟨w.heap.size+1,2,none⟩ a2).setCell ⟨w.heap.size+1,3,none⟩ a3).setCell ⟨w.heap.size+1,4,none⟩ a4).setCell ⟨w.heap.size+1,5,none⟩ a5).setCell ⟨w.heap.size+1,6,none⟩ a6).drew).cell? ⟨w.heap.size,1,none⟩=some (.slice DA ds.length mc)/\((((((((WR.setCell ⟨w.heap.size+1,0,none⟩ a0).setCell ⟨w.heap.size+1,1,none⟩ a1).setCell ⟨w.heap.size+1,2,none⟩ a2).setCell ⟨w.heap.size+1,3,none⟩ a3).setCell ⟨w.heap.size+1,4,none⟩ a4).setCell ⟨w.heap.size+1,5,none⟩ a5).setCell ⟨w.heap.size+1,6,none⟩ a6).drew).cell? ⟨TB,0,none⟩=some (.slice B0 k0 p0)/\((((((((WR.setCell ⟨w.heap.size+1,0,none⟩ a0).setCell ⟨w.heap.size+1,1,none⟩ a1).setCell ⟨w.heap.size+1,2,none⟩ a2).setCell ⟨w.heap.size+1,3,none⟩ a3).setCell ⟨w.heap.size+1,4,none⟩ a4).setCell ⟨w.heap.size+1,5,none⟩ a5).setCell ⟨w.heap.size+1,6,none⟩ a6).drew).cell? ⟨TB,1,none⟩=some (.slice B1 k1 p1)/\((((((((WR.setCell ⟨w.heap.size+1,0,none⟩ a0).setCell ⟨w.heap.size+1,1,none⟩ a1).setCell ⟨w.heap.size+1,2,none⟩ a2).setCell ⟨w.heap.size+1,3,none⟩ a3).setCell ⟨w.heap.size+1,4,none⟩ a4).setCell ⟨w.heap.size+1,5,none⟩ a5).setCell ⟨w.heap.size+1,6,none⟩ a6).drew).cell? ⟨TB,2,none⟩=some (.slice B2 k2 p2)/\((((((((WR.setCell ⟨w.heap.size+1,0,none⟩ a0).setCell ⟨w.heap.size+1,1,none⟩ a1).setCell ⟨w.heap.size+1,2,none⟩ a2).setCell ⟨w.heap.size+1,3,none⟩ a3).setCell ⟨w.heap.size+1,4,none⟩ a4).setCell ⟨w.heap.size+1,5,none⟩ a5).setCell ⟨w.heap.size+1,6,none⟩ a6).drew).cell? ⟨TB,3,none⟩=some (.slice B3 k3 p3)/\((((((((WR.setCell ⟨w.heap.size+1,0,none⟩ a0).setCell ⟨w.heap.size+1,1,none⟩ a1).setCell ⟨w.heap.size+1,2,none⟩ a2).setCell ⟨w.heap.size+1,3,none⟩ a3).setCell ⟨w.heap.size+1,4,none⟩ a4).setCell ⟨w.heap.size+1,5,none⟩ a5).setCell ⟨w.heap.size+1,6,none⟩ a6).drew).cell? ⟨TB,4,none⟩=some (.slice B4 k4 p4)/\((((((((WR.setCell ⟨w.heap.size+1,0,none⟩ a0).setCell ⟨w.heap.size+1,1,none⟩ a1).setCell ⟨w.heap.size+1,2,none⟩ a2).setCell ⟨w.heap.size+1,3,none⟩ a3).setCell ⟨w.heap.size+1,4,none⟩ a4).setCell ⟨w.heap.size+1,5,none⟩ a5).setCell ⟨w.heap.size+1,6,none⟩ a6).drew).cell? ⟨TB,5,none⟩=some (.slice B5 k5 p5)/\((((((((WR.setCell ⟨w.heap.size+1,0,none⟩ a0).setCell ⟨w.heap.size+1,1,none⟩ a1).setCell ⟨w.heap.size+1,2,none⟩ a2).setCell ⟨w.heap.size+1,3,none⟩ a3).setCell ⟨w.heap.size+1,4,none⟩ a4).setCell ⟨w.heap.size+1,5,none⟩ a5).setCell ⟨w.heap.size+1,6,none⟩ a6).drew).cell? ⟨TB,6,none⟩=some (.slice B6 k6 p6)):=zHi (λa0 a1 a2 a3 a4 a5 a6=>by
    obtain⟨y0,y1,y2,y3,y4,y5,y6,y7⟩:=aJ.o WR Qb;have ho:=zc5 (a0:=a0) (a1:=a1) (a2:=a2) (a3:=a3) (a4:=a4) (a5:=a5) (a6:=a6) HA.o.res rfl;have Ij:=HA.o.tb;have n0:w.heap.size≠w.heap.size+1:=McS;have nT:TB≠w.heap.size+1:=McS;simp only[World.cell?_drew]
    exact⟨(ho.cell n0).trans y0,(ho.cell nT).trans y1,(ho.cell nT).trans y2,(ho.cell nT).trans y3,(ho.cell nT).trans y4,(ho.cell nT).trans y5,(ho.cell nT).trans y6,(ho.cell nT).trans y7⟩)
   have Ai:Hid (∀a0 a1 a2 a3 a4 a5 a6:Value,((((((((WR.setCell ⟨w.heap.size+1,0,none⟩ a0).setCell ⟨w.heap.size+1,1,none⟩ a1).setCell ⟨w.heap.size+1,2,none⟩ a2).setCell ⟨w.heap.size+1,3,none⟩ a3).setCell ⟨w.heap.size+1,4,none⟩ a4).setCell ⟨w.heap.size+1,5,none⟩ a5).setCell ⟨w.heap.size+1,6,none⟩ a6).drew).heap[w.heap.size+1]?=some (.cells #[a0,a1,a2,a3,a4,a5,a6] 86)):=zHi (λa0 a1 a2 a3 a4 a5 a6=>(drew_heap _ _).trans (zc0 (a:=a0) (b:=a1) (c:=a2) (d:=a3) (e:=a4) (f:=a5) (h':=a6) HA.o.res));have Cm:=zHi (λa0 a1 a2 a3 a4 a5 a6=>(zc5 (a0:=a0) (a1:=a1) (a2:=a2) (a3:=a3) (a4:=a4) (a5:=a5) (a6:=a6) HA.o.res rfl).st HA.o.tAt);refine za9 5 (λbb w'=>bb=true\/(w'.cell? ⟨w.heap.size,1,none⟩=some (.slice DA ds.length mc)/\w'.cell? ⟨TB,0,none⟩=some (.slice B0 k0 p0)/\w'.cell? ⟨TB,1,none⟩=some (.slice B1 k1 p1)/\w'.cell? ⟨TB,2,none⟩=some (.slice B2 k2 p2)/\w'.cell? ⟨TB,3,none⟩=some (.slice B3 k3 p3)/\w'.cell? ⟨TB,4,none⟩=some (.slice B4 k4 p4)/\w'.cell? ⟨TB,5,none⟩=some (.slice B5 k5 p5)/\w'.cell? ⟨TB,6,none⟩=some (.slice B6 k6 p6))) McT (.inr (aJ.o _ (zaF Qb))) ?hrest
   case hrest=>
    intro hHeld;clear x0 x1 s0 s1 s2 s3 s4 s5 s6 t0 t1 t2 t3 t4 t5 t6 r0 r1 r2 r3 r4 r5 r6 sf tf rf lx ls lt' lr;refine TkM 0 ?_;refine TkM 1 ?_;refine TkM 2 ?_;refine TkM 3 ?_;obtain⟨x0,x1⟩:=zbx (HA.o).box;obtain⟨s0,s1,s2,s3,s4,s5,s6⟩:=zaG (HA.o).st;obtain⟨t0,t1,t2,t3,t4,t5,t6⟩:=zaG (HA.o).tcell;obtain⟨r0,r1,r2,r3,r4,r5,r6⟩:=zaG (HA.o).res;have sf:=frz (HA.o).st;have tf:=frz (HA.o).tcell;have rf:=frz (HA.o).res;have lx:=zab (HA.o).box;have ls:=zab (HA.o).st;have lt':=zab (HA.o).tcell;have lr:=zab (HA.o).res;refine OnM 4 false λK hK=>?_
    go_simp
    refine NxM hK (λhHeld=>?_) (.inr (J7.o _ _ _ _ _ _ _));clear hK K;refine OnM 5 true λK hK=>?_
    go_simp
    refine NxM hK λhHeld=>?_
    clear hK K;refine OnM 6 true λK hK=>?_
    go_simp
    refine NxM hK λhHeld=>?_
    clear hK K;refine zaO McT ?_ _;clear hHeld;go_wp2_with fail
    refine bodyPost_ret (zeO rfl _ rfl rfl rfl (Ai.o _ _ _ _ _ _ _)) rfl ?_;rw[HE.o];exact⟨_,_,_,_,_,_,_,rfl,by first|rfl|exact⟨rfl,rfl,rfl,rfl,rfl,rfl,rfl⟩,zaF (zcC HB.o (show w.heap.size<=w.heap.size+1 by omega)),λ_=>(Cm.o _ _ _ _ _ _ _).keep (zaF Qb)⟩
structure Told (k:Nat) (s:St):Prop where
 good:∃b,GoodSt s b
 few:FewS k s
 wills:s.wills.length<=k
def Told.up(h:Told k s):Told (k+1) s:=⟨h.good,h.few.up,by have:=h.wills;omega⟩
def told_go{laws:List Law}{upto:Int}(bH:zaC laws=0):∀ {ds:List Deed} {s told:St} {k:Nat} {last:Int},GoodSt s last->FewS k s->s.wills.length<=k->Told k told->(zaR laws upto ds s told k last).2.2=0->Told (k+ds.length) (zaR laws upto ds s told k last).1
 | [],s,told,k,last,_,_,_,ht,_=>ht
 |d::l,s,told,k,last,hg,hf,hw,ht,h=>by
  rw[zaR]at h⊢;split at h
  ·exact MaZ
  ·rename_i hc
   rw[if_neg hc];have hn:=zdH (show(zcn laws s k last d).2=0 by simpa using hc);have hd:=ze8 hn.1;have fD:zbp laws s d=((zcn laws s k last d).1,0):=by rw[<-hn.2.2.2];exact Prod.ext rfl MdY
   have g:=zhd hg hd hn.2.2.1 bH fD;have f:=zkR hf hn.2.1 hg hd hn.2.2.1 bH fD;have e:=zkm fD
   have:=told_go (ds:=l) (told:=if decide (d.day<=upto)then(zcn laws s k last d).1 else told) bH g f McS (by
    split
    ·exact⟨⟨_,g⟩,f,by omega⟩
    ·exact ht.up) h
   rw[List.length_cons,show k+(l.length+1)=k+1+l.length by omega];exact this
variable{u:Int}
def znN(h:(zaI laws ds u).2.2=0):zaC laws=0:=by
 unfold zaI at h;split at h
 ·rename_i h1
  exact absurd h Mdp
 ·rename_i h1
  simpa using h1
def znO(h:(zaI laws ds u).2.2=0):Told ds.length (zaI laws ds u).1:=by
 have bH:=znN h;unfold zaI at h⊢;rw[if_neg (by simp[bH])]at h⊢;have:=told_go bH (zfb 0) zgC Qc ⟨⟨_,zfb 0⟩,zgC,Qc⟩ h;rwa [Nat.zero_add]at this
def zpV(laws:List Law)(ds:List Deed)(u u':Int):(zaI laws ds u).2=(zaI laws ds u').2:=by
 unfold zaI;split
 ·rfl
 ·exact zhq laws u u' ds _ _ _ _ _
