/- Walk of the reference's dies. -/
import Derived.Test.YtjhbofabmpfniaaGreatDoorXP
set_option linter.unusedSimpArgs false
set_option linter.unusedVariables false
set_option maxRecDepth 100000
set_option maxHeartbeats 4000000
namespace Go.Proofs.YtjhbofabmpfniaaGreatDoor
open Go.RowKit Go.Shelf
attribute [local go_sem] World.cell?_alloc_mark zae za3 zam za6 zas zat zau zav zaw zax zay
attribute [local go_sem] zaj zac
theorem zpo {s:St} {n:ByteArray} {day:Int} {H:Option Parts} {k:Nat} {g:Grave} {l pre:List Grave} (h:zds s n day k g=false):(zby s n day H k (g::l)).map (pre++ ·)=(zby s n day H (k+1) l).map ((pre++[g])++ ·):=by
 rw[zby.eq_def];simp only[h];cases zby s n day H (k+1) l<;>simp
theorem zpp {s:St} {n:ByteArray} {day:Int} {hs out:Parts} {k:Nat} {g:Grave} {l pre:List Grave} (h:zds s n day k g=true) (hg:zb8 (zag g.holders n) hs (za0 g.holders n)=some out):
 (zby s n day (some hs) k (g::l)).map (pre++ ·)=(zby s n day (some hs) (k+1) l).map ((pre++[{g with holders:=out,died:=g.died++[n]}])++ ·):=by
 rw[zby.eq_def];simp only[h,if_true,hg,Option.bind_some];cases zby s n day (some hs) (k+1) l<;>simp
theorem zpq {s:St} {n:ByteArray} {day:Int} {H:Option Parts} {k:Nat} {g:Grave} {l pre:List Grave} (h:zds s n day k g=true) (hg: ∀hs,H=some hs->zb8 (zag g.holders n) hs (za0 g.holders n)=none):
 (zby s n day H k (g::l)).map (pre++ ·)=none:=by
 rw[zby.eq_def];simp only[h,if_true];cases H with
 |none=>rfl
 |some hs=>
  simp only[hg hs rfl];rfl
def okR (gxs:List GX) (W:World) (x:GX):Prop:=x∈gxs\/(Ro W 75 zaa x.H x.g.holders/\Ro W 9 sC x.D x.g.died)
theorem okR.keep {gxs:List GX} {W W':World} {x:GX} {n:Nat} (h:okR gxs W x) (hB:Below n W W') (hn:W.heap.size<=n:=by first|exact Nat.le_refl _|omega):okR gxs W' x:=
 h.imp id fun⟨a,b⟩=>⟨a.keep hB hn,b.keep hB hn⟩
theorem okR.kept {gxs:List GX} {W W':World} {x:GX} {g:Nat} {cs:Array Value} {fr:Nat×Nat} (h:okR gxs W x) (hg:W.grownBy W' (some g)) (hx:W.heap[g]?=some (.cells cs 49 fr)):okR gxs W' x:=
 h.imp id fun⟨a,b⟩=>⟨a.kept hg hx Mcp,b.kept hg hx Mcp⟩
theorem grav_ne {s:St} {pl:ByteArray} {day:Int} {k:Nat} (h: ¬zaO s pl day=some k):zk6 s.graves pl day≠(k:Int):=by
 cases hx:zaO s pl day with
 |none=>rw[zjg hx];omega
 |some i=>
  rw[ze0 hx];intro e;have:i=k:=by omega
  subst this;exact h hx
theorem set_mid {α:Type} (a:List α) (x y:α) (l:List α) {k:Nat} (h:a.length=k):(a++x::l).set k y=a++y::l:=by
 subst h;induction a with
 |nil=>rfl
 |cons b a ih=>simp only[List.cons_append,List.length_cons,List.set_cons_succ,ih]
theorem row_two {W:World} {ga go k:Nat} {dx rest:List GX} {x:GX} {out:Parts} {n:ByteArray} {OV A5:Option Addr} {oc c5:Nat} (hk:dx.length=k) (h:RowC W 49 ga go 5 (((dx++x::rest).map GX.cells).set k (x.cells.set 3 (.slice OV out.length oc)))):
 RowC (W.setCell ⟨ga,go+k*5+4,none⟩ (.slice A5 (x.g.died.length+1) c5)) 49 ga go 5 ((dx++[(⟨{x.g with holders:=out,died:=x.g.died++[n]},OV,oc,A5,c5⟩:GX)]++rest).map GX.cells):=by
 have e1:((dx++x::rest).map GX.cells).set k (x.cells.set 3 (.slice OV out.length oc))=dx.map GX.cells++(x.cells.set 3 (.slice OV out.length oc))::rest.map GX.cells:=by
  rw[List.map_append,List.map_cons,set_mid _ _ _ _ (by rw[List.length_map];exact hk)]
 rw[e1]at h;have h2:=h.set (i:=k) (j:=4) (c:=x.cells.set 3 (.slice OV out.length oc)) (u:= .slice A5 (x.g.died.length+1) c5) (by rw[List.getElem?_append_right (by rw[List.length_map];omega),List.length_map,hk,Nat.sub_self];rfl) Mcp;rw[set_mid _ _ _ _ (by rw[List.length_map];exact hk)]at h2;have e2:(dx++[(⟨{x.g with holders:=out,died:=x.g.died++[n]},OV,oc,A5,c5⟩:GX)]++rest).map GX.cells=dx.map GX.cells++((x.cells.set 3 (.slice OV out.length oc)).set 4 (.slice A5 (x.g.died.length+1) c5))::rest.map GX.cells:=by
  rw[List.append_assoc,List.map_append];congr 1
  simp[GX.cells]
 rw[e2];exact h2
theorem hxd5 {W:World} {ga go k:Nat} {css:List (List Value)} {x:GX} {u:Value} (h:RowC W 49 ga go 5 (css.set k (x.cells.set 3 u))) (hc:css[k]?=some x.cells):W.cell? ⟨ga,go+k*5+4,none⟩=some (.slice x.D x.g.died.length x.dc):=by
 have hk:k<css.length:=(List.getElem?_eq_some_iff.1 hc).1;exact h.at (k:=k) (c:=x.cells.set 3 u) (by rw[List.getElem?_set_self hk]) (j:=4) rfl
theorem okR.keptS {gxs:List GX} {W W':World} {x:GX} {g:Nat} {cs:Array Value} {fr:Nat×Nat} (h:okR gxs W x) (hg:W.grownBy W' (some g)) (hx:W.heap[g]?=some (.cells cs 36 fr)):okR gxs W' x:=
 h.imp id fun⟨a,b⟩=>⟨a.kept hg hx Mcp,b.kept hg hx Mcp⟩
theorem dsF {W:World} {a c:Nat} {x0 x1 x2 x3 x4 x5 x6 z0 z1 z2 z3 z4 z5 z6:Value} {t u:TypeId} {f:Nat×Nat} (h:W.heap[a]?=some (.cells #[x0,x1,x2,x3,x4,x5,x6] t f)/\W.heap[c]?=some (.cells #[z0,z1,z2,z3,z4,z5,z6] u (0,0))):
 (W.heap[a]?=some (.cells #[x0,x1,x2,x3,x4,x5,x6] t f)/\W.heap[c]?=some (.cells #[z0,z1,z2,z3,z4,z5,z6] u (0,0)))/\(W.cell? ⟨a,0,none⟩=some x0/\W.cell? ⟨a,1,none⟩=some x1/\W.cell? ⟨a,2,none⟩=some x2/\W.cell? ⟨a,3,none⟩=some x3/\W.cell? ⟨a,4,none⟩=some x4/\W.cell? ⟨a,5,none⟩=some x5/\W.cell? ⟨a,6,none⟩=some x6)/\(W.cell? ⟨c,0,none⟩=some z0/\W.cell? ⟨c,1,none⟩=some z1/\W.cell? ⟨c,2,none⟩=some z2/\W.cell? ⟨c,3,none⟩=some z3/\W.cell? ⟨c,4,none⟩=some z4/\W.cell? ⟨c,5,none⟩=some z5/\W.cell? ⟨c,6,none⟩=some z6)/\(∀j,W.frozen? ⟨c,j,none⟩=false)/\a<W.heap.size/\c<W.heap.size:=
 ⟨h,zaG h.1,zaG h.2,frz h.2,zab h.1,zab h.2⟩
theorem ds_boxes {w:World} (o0 o1:Obj):Hid (Below w.heap.size w ((w.alloc o0).alloc o1))/\Hid (∀W,Below ((w.alloc o0).alloc o1).heap.size ((w.alloc o0).alloc o1) W->W.heap[w.heap.size]?=some o0/\W.heap[w.heap.size+1]?=some o1):=by
 refine⟨by show Below _ _ _;exact Bw,fun W hB=>⟨?_,?_⟩⟩
 ·exact(hB.block _ Mcr).trans (zal (zar _ _ _ rfl))
 ·exact(hB.block _ Mcq).trans (zar _ _ _ Mcq)
theorem rDies_any (laws:List Law) (s:St) (wd rd:List Deed) (LA CA MA DA WA RA GA:Option Addr) (c0 c1 c2 c3 c4 c5 c6:Nat) (n:ByteArray) (day:Int) (w:World) (h:StIn w laws s wd rd LA CA MA DA WA RA GA c0 c1 c2 c3 c4 c5 c6) (hk:StLink s wd rd) (hf:StFew s wd rd) (aU:za8 laws=0) (hW:WillOk (zbs s n)) (pw: ∀a,¬Desc s a a) (bS:(zbs s n).length<=8)
 (ba: ∀g∈s.graves,GoodG g/\g.holders.length<=50000) (gZ: ∀g∈s.graves,g.died.length<=1000) (hel: ∀hs,zct s (zaY laws day) n=some hs->hs.length<=1000/\GoodParts hs/\sumQ hs<=1/\zaF hs=false):
 Calls Tryz.prog 187 #[.agg #[.slice LA laws.length c0, .slice CA s.children.length c1, .slice MA s.marriages.length c2, .slice DA s.dead.length c3, .slice WA wd.length c4, .slice RA rd.length c5, .slice GA s.graves.length c6], .string n, .int .i64 day] w (zkV w laws (zpn laws s n day)):=by
 obtain⟨R,hR⟩: ∃R,R=zpn laws s n day:=⟨_,rfl⟩
 rw[<-hR];unfold zpn at hR;obtain⟨gxs,hm,bJ,bw⟩:=gx_of h.graves;have HM:=zHi hm;have dI:=zHi bJ;have cf:=zHi bw;have ei:=zHi ba;have ib:=zHi gZ;have H:=zHi (fun W (hB:Below w.heap.size w W)=>h.keep hB);have HK:=zHi hk;have HF:=zHi hf;have jb:=zHi (fun W (hB:Below w.heap.size w W)=>zny laws s wd rd LA CA MA DA WA RA GA c0 c1 c2 c3 c4 c5 c6 n day W (H.o W hB) hk hf aU hW pw bS);obtain⟨HH,tt⟩: ∃HH,HH=zct s (zaY laws day) n:=⟨_,rfl⟩
 rw[<-tt]at hR jb hel;have eO:=zHi hel;have oB:=hf.graves;have wW:gxs.length=s.graves.length:=by rw[<-hm,List.length_map]
 obtain⟨D0,oe⟩: ∃D0,D0=zby s n day HH 0 s.graves:=⟨_,rfl⟩
 rw[<-oe]at hR;have Hl:=zHi oe;have HR:=zHi hR;unfold zkR at jb;clear h hk hf aU hW pw bS ba gZ hel hm bJ bw tt oe hR;go_enter Tryz.func187,Tryz.ntmps187
 go_upto_region 1 with fail
 obtain⟨W0,ao⟩: ∃W0,W0=(w.alloc (.cells #[.slice LA laws.length c0, .slice CA s.children.length c1, .slice MA s.marriages.length c2, .slice DA s.dead.length c3, .slice WA wd.length c4, .slice RA rd.length c5, .slice GA s.graves.length c6] 36)).alloc (.cells #[.slice none 0 0, .slice none 0 0, .slice none 0 0, .slice none 0 0, .slice none 0 0, .slice none 0 0, .slice none 0 0] 36):=⟨_,rfl⟩
 obtain⟨ak,ax⟩:Hid (Below w.heap.size w W0)/\Hid (∀W,Below W0.heap.size W0 W->W.heap[w.heap.size]?=some (.cells #[.slice LA laws.length c0, .slice CA s.children.length c1, .slice MA s.marriages.length c2, .slice DA s.dead.length c3, .slice WA wd.length c4, .slice RA rd.length c5, .slice GA s.graves.length c6] 36)/\W.heap[w.heap.size+1]?=some (.cells #[.slice none 0 0, .slice none 0 0, .slice none 0 0, .slice none 0 0, .slice none 0 0, .slice none 0 0, .slice none 0 0] 36)):=by
  rw[ao];exact ds_boxes _ _
 rw[<-ao];clear ao;have aw:=ak.o.size;obtain⟨⟨xs0,xr0⟩,⟨s0,s1,s2,s3,s4,s5,s6⟩,⟨r0,r1,r2,r3,r4,r5,r6⟩,rf,ls,lr⟩:=dsF (ax.o W0 (Below.refl _ _));go_upto_region 2 with(go_at_call 33;go_must(refine(jb.o _ ak.o).mono ?_);rintro e w1 ⟨EA,ec,hs,lg,rfl,Fr,b1,_,hE⟩)
 have zd:=zHi Fr;have HE:=zHi hE;have aA:=zHi b1;have gw:=b1.size;clear Fr hE b1;clear xs0 xr0 s0 s1 s2 s3 s4 s5 s6 r0 r1 r2 r3 r4 r5 r6 rf ls lr;obtain⟨⟨xs0,xr0⟩,⟨s0,s1,s2,s3,s4,s5,s6⟩,⟨r0,r1,r2,r3,r4,r5,r6⟩,rf,ls,lr⟩:=dsF (ax.o w1 (aA.o))
 go_upto_region 4 with(at_builtin
                       go_loud(refine za1 (v:= .slice (some ⟨w1.heap.size,0,none⟩) 0 0) (n:=0) (m:=s.graves.length) rfl _ _ rfl zho zcT zkb rfl (xs:=[]) (ys:=gxs) (zkd w1 w1.heap.size (Nat.le_refl _)) rfl rfl wW.symm (cf.o.keep (ak.o.trans ((aA.o.trans (Below.mono (B:=w1.heap.size) Bw gw)).mono aw))) McW Mcn Mcq ?_)
                       intro v2 w2 h1 h2 h3;rw[List.nil_append]at h1;have bn:Below w1.heap.size w1 w2:=Below.grown (zad (Below.refl _ _) _) h2 Mcq Mc1;have df:=zHi h1;have aB:=zHi bn;obtain⟨V2,c2',rfl,_,_⟩:=h1.sl zcT
                       clear h1 h2 h3 bn)
 obtain⟨ga,go,hV⟩: ∃ga go,s.graves≠[]->V2=some ⟨ga,go,none⟩/\w1.heap.size<=ga/\RowC w2 49 ga go 5 (gxs.map GX.cells):=by
  by_cases ai:s.graves=[]
  ·exact⟨0,0,fun h=>absurd ai h⟩
  ·have hl:0<s.graves.length:=List.length_pos_iff.2 ai;have ho:=df.o;have fA:=ho.ge;obtain⟨A,c9,e9,hS,_⟩:=ho.sl zcT;obtain⟨rfl,rfl⟩:V2=A/\c2'=c9:=by simpa[wW]using e9
   obtain⟨gb,gof,rfl,_⟩:=hS Mcn;exact⟨gb,gof,fun _=>⟨rfl,(fA gb rfl).1,ho.row zcT⟩⟩
 have HV:=zHi hV;have jk:=aB.o.size;have Hm:Hid (D0=(zby s n day HH 0 (s.graves.drop 0)).map (([]:List GX).map (·.g)++ ·)):=by
  show _=_;rw[Hl.o,List.drop_zero];cases zby s n day HH 0 s.graves<;>rfl
 have F4:HH=if lg then none else some hs:=by rcases HE.o with⟨h1,rfl⟩|⟨h1,rfl⟩<;>rw[h1]<;>rfl
 have yS:=zHi F4;clear hV F4;clear xs0 xr0 s0 s1 s2 s3 s4 s5 s6 r0 r1 r2 r3 r4 r5 r6 rf ls lr;go_upto_region 5 with fail
 go_loopw [9,10,12] (fun v9 v10 i wr=> ∃(k:Nat) (l f:Bool) (dx:List GX),k<=s.graves.length/\i= .int .i64 k/\v9= .bool l/\v10= .bool f/\dx.length=k/\Hid (s.graves≠[]->RowC wr 49 ga go 5 ((dx++gxs.drop k).map GX.cells))/\Hid (∀x∈dx,okR gxs wr x)/\Hid ((f&&l)=true->D0=none)/\Hid ((f&&l)=false->D0=(zby s n day HH k (s.graves.drop k)).map (dx.map (·.g)++ ·)/\HH=if l then none else some hs)/\Below w1.heap.size w1 wr/\w2.heap.size<=wr.heap.size) (fun _ _ i _=>s.graves.length-(intOf i).toNat)
 case atStart=>exact⟨0,lg,false,[],Nat.zero_le _,rfl,rfl,rfl,rfl,zHi fun ai=>(HV.o ai).2.2,zHi Mcq,zHi Mcq,zHi fun _=>⟨Hm.o,yS.o⟩,aB.o,Nat.le_refl _⟩
 case round=>
  obtain⟨k,l,f,dx,hk,rfl,rfl,rfl,iv,Bu,fX,nO,kL,hB,jL⟩:=hrel;obtain⟨WR,oo⟩: ∃WR,WR=wr:=⟨_,rfl⟩
  subst oo;have aE:=hB.size;have cw:=aA.o.trans (hB.mono gw);have HB:=zHi hB;have aW:=zHi cw;obtain⟨⟨xs0,xr0⟩,⟨s0,s1,s2,s3,s4,s5,s6⟩,⟨r0,r1,r2,r3,r4,r5,r6⟩,rf,ls,lr⟩:=dsF (ax.o WR (cw));by_cases aa:k<s.graves.length
  ·have ai:s.graves≠[]:=fun e=>by rw[e]at aa;simp at aa
   obtain⟨rfl,zY,_⟩:=HV.o ai;have bW:=zHi (Bu.o ai);have kX:k<gxs.length:=Mcn;have bl:((dx++gxs.drop k).map GX.cells)[k]?=some gxs[k].cells:=by
    rw[List.getElem?_map,List.getElem?_append_right Mcn,iv,Nat.sub_self,List.getElem?_drop,Nat.add_zero,List.getElem?_eq_getElem kX];rfl
   have pD:gxs[k].g=s.graves[k]:=by
    have:s.graves[k]?=some gxs[k].g:=by rw[<-HM.o,List.getElem?_map,List.getElem?_eq_getElem kX];rfl
    rw[List.getElem?_eq_getElem aa]at this;exact(Option.some.inj this).symm
   have mU:gxs[k]∈gxs:=List.getElem_mem kX;have oS:gxs[k].g∈s.graves:=by rw[pD];exact List.getElem_mem aa
   have tH:s.graves.drop k=gxs[k].g::s.graves.drop (k+1):=by rw[pD];exact List.drop_eq_getElem_cons aa
   have FG:gxs.drop k=gxs[k]::gxs.drop (k+1):=List.drop_eq_getElem_cons kX;have am:=zHi aa;generalize gxs[k]=x at*;have jM:=dI.o x mU;obtain⟨dj,cz⟩:=ei.o x.g oS;have bu:=ib.o x.g oS;have AN:=zHi dj;have pf:=zHi (fun W (hB:Below w.heap.size w W)=>jM.keep hB);have bs:=zHi mU;have yM:=zHi tH;have AG:=zHi FG;have eh:=zHi bl;have i0:WR.cell? ⟨ga,go+k*5,none⟩=some (.string x.g.place):=by have:=bW.o.at bl (j:=0) rfl;simpa using this
   have i3:WR.cell? ⟨ga,go+k*5+3,none⟩=some (.slice x.H x.g.holders.length x.hc):=bW.o.at bl (j:=3) rfl;have i4:WR.cell? ⟨ga,go+k*5+4,none⟩=some (.slice x.D x.g.died.length x.dc):=bW.o.at bl (j:=4) rfl;have DC:ga<WR.heap.size:=bW.o.lt;have ar:(k:Int)<(s.graves.length:Int):=Mcn;have aT:(0:Int)<=(k:Int):=Mcn;have aZ:=ak.o.trans (cw.mono aw);have ni:=zHi (zfp x.g.holders n x.H x.hc WR Mcn (pf.o WR aZ).1);have bS:=zdV x.g.holders n;have iM:=zHi (fun W (hB:Below w.heap.size w W)=>zh0 x.g.holders n x.H x.hc W Mcn (pf.o W hB).1);have ho:=zbA dj.good n;have pR:=zcJ n dj.small;have aP:=zdx dj.good n;have q9:=zch (n:=n) dj.good;have GD:=zbI (n:=n) dj.good;have yz:=zd8 n dj.small;have FO: ∀b,zaO s x.g.place day=some k->(zag x.g.holders n==0)=b->zds s n day k x.g=!b:=by
    intro b e1 e2;unfold zds;rw[e1,bne,e2];simp
   have tL: ¬zaO s x.g.place day=some k->zds s n day k x.g=false:=by
    intro e1;unfold zds;cases hx:zaO s x.g.place day==some k
    ·rw[Bool.and_false]
    ·exact absurd (by simpa using hx) e1
   have zZ:zag x.g.holders n=0->zds s n day k x.g=false:=by
    intro e1;unfold zds;rw[e1];rfl
   have dD:=zHi (fun(pre:List Grave) (hh:zds s n day k x.g=false)=>zpo (H:=HH) (l:=s.graves.drop (k+1)) (pre:=pre) hh);have Hr:=zHi (fun(pre:List Grave) hs out (hh:zds s n day k x.g=true) hg=>zpp (s:=s) (n:=n) (day:=day) (hs:=hs) (out:=out) (l:=s.graves.drop (k+1)) (pre:=pre) hh hg);have Hp:=zHi (fun(pre:List Grave) (hh:zds s n day k x.g=true) hg=>zpq (H:=HH) (l:=s.graves.drop (k+1)) (pre:=pre) hh hg);have AQ:=zHi (show(zaO s x.g.place day=some k->zag x.g.holders n≠0->zds s n day k x.g=true) from fun e1 e2=>by rw[FO false e1 (by simpa using e2)];rfl);have rS:sumQ x.g.holders<=1:=by
    rcases dj.one with e|e
    ·rw[e];decide
    ·rw[e];exact Rat.le_refl
   generalize zag x.g.holders n=sh at*;generalize za0 x.g.holders n=wo at*;have iY:zaI sh:=zcc ho McP pR;unfold zaB at ni;clear bl pD oS tH FG mU jM dj aa ai FO cw Bu;go_upto_region 8 with(go_at_call 38;go_must(refine(ni.o).mono ?_);rintro e wq ⟨rfl,z2,rfl⟩)
   obtain⟨SB,jn⟩: ∃SB,SB=WR.heap.size+z2.os.size:=⟨_,rfl⟩
   obtain⟨W3,aX⟩: ∃W3,W3=(WR.ext z2).alloc (.cells #[.int .i64 (sh).num, .int .i64 (sh).den] 71):=⟨_,rfl⟩
   have gS:W3.heap[SB]?=some (.cells #[.int .i64 (sh).num, .int .i64 (sh).den] 71):=by rw[aX];exact zar _ _ _ (by rw[jn];simp[zae])
   have ay:Below WR.heap.size WR W3:=by rw[aX];exact zad (zaq WR z2) _
   rw[<-aX,<-jn];clear aX jn i0 i3 i4;clear xs0 xr0 s0 s1 s2 s3 s4 s5 s6 r0 r1 r2 r3 r4 r5 r6 rf ls lr;have jq:=ay.size;have aH:=zHi ay;have rL:=aW.o.trans (ay.mono Md9);have uk:=zHi rL;have lP:=zHi (bW.o.keep ay);obtain⟨q0,q1⟩:=zbu gS;have rp:=zab gS;have GS:=zHi gS;obtain⟨⟨xs0,xr0⟩,⟨s0,s1,s2,s3,s4,s5,s6⟩,⟨r0,r1,r2,r3,r4,r5,r6⟩,rf,ls,lr⟩:=dsF (ax.o W3 (rL));clear rL ay gS;have i0:W3.cell? ⟨ga,go+k*5,none⟩=some (.string x.g.place):=by have:=lP.o.at eh.o (j:=0) rfl;simpa using this
   have DD:ga<W3.heap.size:=lP.o.lt;by_cases hz:sh=0
   ·have mV:(sh.num==0)=true:=by rw[hz];rfl
    have d8:=dD.o (dx.map (·.g)) (zZ hz);rw[<-yM.o]at d8;have Ex:=zHi d8;clear hz zZ tL d8 ho pR aP q9 iY
    (refine zan Mco Mco ?_
     repeat(first|go_big_quiet_skip|(go_big_quiet_want;go_big_quiet_op;first|go_big_quiet_on|(apply Exists.intro;refine⟨fun _=> ?_,?_⟩;(fail);go_big_quiet_on)))
     refine wpQuiet_nil ?_
     rintro _ ⟨zq,rfl⟩)
    exact MH
   have mV:(sh.num==0)=false:=by
    exact Mbc
   have eC:=zHi (fun W (hB:Below W3.heap.size W3 W)=>zmo x.g.place day W (H.o W (ak.o.trans ((uk.o.trans (hB.mono (by have:=uk.o.size;omega))).mono aw))) HF.o);by_cases aN:zaO s x.g.place day=some k;rotate_left 1
   ·have d8:=dD.o (dx.map (·.g)) (tL aN);rw[<-yM.o]at d8;have Ex:=zHi d8;have kV:=grav_ne aN;generalize zk6 s.graves x.g.place day=gi at*;have Kc:(gi==(k:Int))=false:=by simpa using kV
    have Kd:(gi != (k:Int))=true:=by simpa using kV
    clear hz zZ tL d8 aN kV ho pR aP q9 iY
    (refine zan Mco Mco ?_
     repeat(first|go_big_quiet_skip|(go_big_quiet_want;go_big_quiet_op;first|go_big_quiet_on|(apply Exists.intro;refine⟨fun _=> ?_,?_⟩;((go_at_call 23;exact quietx (eC.o _ Bw)));go_big_quiet_on)))
     refine wpQuiet_nil ?_
     rintro _ ⟨zq,rfl⟩)
    exact MH
   have pF:=AQ.o aN hz;rw[ze0 aN]at eC;have Ea:=zHi pF;clear zZ tL aN pF
   (refine zan Mco Mco ?_
    repeat(first|go_big_quiet_skip|(go_big_quiet_want;go_big_quiet_op;first|go_big_quiet_on|(apply Exists.intro;refine⟨fun _=> ?_,?_⟩;((go_at_call 23;exact quietx (eC.o _ Bw)));go_big_quiet_on)))
    refine wpQuiet_nil ?_
    rintro _ ⟨zq,rfl⟩)
   obtain⟨W4,ip⟩: ∃W4,W4=W3.ext zq:=⟨_,rfl⟩
   have aC:Below W3.heap.size W3 W4:=by rw[ip];exact zaq _ _
   rw[<-ip];have JH:=aC.size;have eB:=zHi (aH.o.trans (aC.mono jq));have GS4:=zHi ((aC.block SB rp).trans GS.o);have rM:=aW.o.trans (eB.o.mono Md9);have Hb:=zHi rM;have i3:W4.cell? ⟨ga,go+k*5+3,none⟩=some (.slice x.H x.g.holders.length x.hc):=(bW.o.keep eB.o).at eh.o (j:=3) rfl;have KT:ga<W4.heap.size:=(bW.o.keep eB.o).lt;have rq:SB<W4.heap.size:=Mcn;have qQ:=zHi (iM.o W4 (ak.o.trans (rM.mono aw)));have qy:Hid (l=false->HH=some hs/\hs.length<=1000/\GainSt sh wo hs):=zHi fun hl=>by
    have tt:=(kL.o (by rw[hl,Bool.and_false])).2;rw[hl]at tt;obtain⟨e1,e2,e3,e4⟩:=eO.o hs tt;have hp: ∀p∈hs,0<=p.2:=fun p hp=>by have:=e2.pos p hp;grind
    have:=Rat.mul_le_mul_of_nonneg_left e3 ho;exact⟨tt,e1,GD,yz,by grind,hp⟩
   have je:=zHi ho;have lL:=zHi iY;clear ip i0 q0 q1 rp rM aC hz mV ho pR aP q9 GD yz iY rS DD DC;clear xs0 xr0 s0 s1 s2 s3 s4 s5 s6 r0 r1 r2 r3 r4 r5 r6 rf ls lr;go_upto_region 11 with(go_at_call 114;go_must(refine(qQ.o).mono ?_);rintro e w5 ⟨v5,rfl,o5,b5⟩)
   have kM:=zHi o5;have bi:=zHi b5;have BS:=b5.size;clear i3 o5 b5;go_upto_region 12 with fail
   go_loopw [9,14,15] (fun v9 v14 j wr=> ∃(i:Nat) (l':Bool) (out:Parts),i<=hs.length/\j= .int .i64 i/\v9= .bool l'/\OwnS wr W4.heap.size 75 3 zaa v14 out/\out.length<=50000+i/\Below w5.heap.size w5 wr/\Hid (l'=false->l=false/\zb8 sh hs wo=zb8 sh (hs.drop i) out/\GainSt sh out (hs.drop i))/\Hid (l'=true->l=true\/zb8 sh hs wo=none)) (fun _ _ j _=>hs.length-(intOf j).toNat)
   case atStart=>exact⟨0,l,wo,Nat.zero_le _,rfl,rfl,kM.o,by omega,Below.refl _ _,zHi fun e=>⟨e,rfl,(qy.o e).2.2⟩,zHi fun e=> .inl e⟩
   case round=>
    obtain⟨i,l',out,hi,rfl,rfl,ae,iW,vo,yV,qB⟩:=hrel;have rH:=vo.size;have ee:=zHi (bi.o.trans (vo.mono BS));have qb:=zHi vo;have yI:=zHi vo;have HO:=zHi ae;have Co:wr.heap[SB]?=_:=(ee.o.block SB rq).trans GS4.o;obtain⟨q0,q1⟩:=zbu Co;have Js:=zab Co;have ww:Below w1.heap.size w1 wr:=HB.o.trans ((eB.o.trans (ee.o.mono (by have:=eB.o.size;omega))).mono aE);have vf:=zHi (zd.o.keep ww);clear vo ww Co;by_cases hlti:i<hs.length
    ·have x8:(i:Int)<(hs.length:Int):=Mcn;have fB:(0:Int)<=(i:Int):=Mcn;cases l'
     ·obtain⟨jE,gH,aK⟩:=yV.o rfl;obtain⟨b,off,hA,hb,ah⟩:=vf.o.at hlti;have gD:hs.drop i=hs[i]::hs.drop (i+1):=List.drop_eq_getElem_cons hlti;rw[gD]at aK gH;have kW:=(qy.o jE).2.1;have cU:=zHi hlti;have sx:0<hs[i].2/\hs[i].2<=1/\zaI hs[i].2:=by
       obtain⟨_,e2,e3,e4⟩:=eO.o hs (qy.o jE).1;exact zdJ (hs:=hs) ⟨e2,e4,e3⟩ (List.getElem_mem hlti)
      clear gD;generalize hs[i]=y at*;obtain⟨nm,q⟩:=y;simp only at sx;have i0:wr.cell? ⟨b,off+i*3,none⟩=some (.string nm):=ah 0 _ rfl;have i1:wr.cell? ⟨b,off+i*3+1,none⟩=some (.int .i64 q.num):=ah 1 _ rfl;have i2:wr.cell? ⟨b,off+i*3+2,none⟩=some (.int .i64 q.den):=ah 2 _ rfl;have kJ:=zHi (fun W=>zg7 sh q W lL.o sx.2.2);unfold zaB at kJ;obtain⟨p1,p2⟩:=aK.more je.o;have ig:=zHi (fun hl=>aK.next je.o hl);have kO:=zHi (aK.parts je.o);rw[zmr]at gH;obtain⟨mo,xx⟩: ∃mo,mo=sh*q:=⟨_,rfl⟩
      rw[<-xx]at gH kJ p1 p2 ig;have lM:=zHi (And.intro p1 p2);have uA:=zHi gH;have p8:=zHi jE;clear ah aK gH hlti sx p1 p2 xx ae jE;subst hA;go_upto_region 14 with fail
      refine zdD 7 _ _ (.cells #[.int .i64 0, .int .i64 0] 71) (.cells #[.int .i64 (mo).num, .int .i64 (mo).den] 71) Mco Mco rfl rfl ?hrun ?_
      case hrun=>intro a W;kernel_rfl
      simp only[List.take_succ_cons,List.take_zero];repeat(refine zeD (fun K hK=> ?_);simp only[grow];go_simp;first|(refine hK _ ?_;clear hK K)|(apply Exists.intro;refine⟨fun _=> ?_,hK _ ?_⟩;((go_at_call 40;exact quietg (kJ.o _)));clear hK K))
      refine zfC ⟨?hstore,?hlast⟩
      case hstore=>
       exact MF
      case hlast=>
       rintro MB W9 ⟨z9,wf⟩ Jf gM;have bK:Below wr.heap.size wr W9:=by rw[wf];exact zaq _ _
       have BU:=bK.size;have qD:=zHi bK;obtain⟨m0,m1⟩:=zbu gM;have r9:=zab gM;have i9:W9.cell? ⟨b,off+i*3,none⟩=some (.string nm):=(zah bK hb).trans i0;have CE:b<W9.heap.size:=Mcn;clear wf bK i0 i1 i2 q0 q1;by_cases xZ:1000000000<(mo.den:Int)
       ·have kV:zb8 sh hs wo=none:=by rw[uA.o,if_pos (by simp[bigQ,xZ])]
        have Hy:=zHi kV;clear kV;go_wp2_with fail
        go_round
        case rel=>exact⟨i+1,true,out,cU.o,by go_num,rfl,HO.o.keep qD.o,by omega,(qb.o).trans (qD.o.mono rH),zHi Mcq,zHi fun _=> .inr Hy.o⟩
        case measure=>have:=cU.o;simp only[intOf];omega
       ·have bf:bigQ mo=false:=by simpa[bigQ]using xZ
        have ba:=uA.o;rw[bf,if_neg Mcq]at ba;have AM:=zHi ba;have mJ:=zcc lM.o.1 lM.o.2 bf;obtain⟨OV,oc,rfl,_,_⟩:=HO.o.sl zao;have eD:=zHi (fun W (hW:Below wr.heap.size wr W)=>zcS out nm mo OV oc W (by have:=cU.o;omega) kO.o mJ (ziT zao (HO.o.keep hW)).1);unfold zaB at eD;have cz:=zcz nm mo out;go_upto_region 17 with fail
        have aG:=zHi (fun(W:World) (h:Below W9.heap.size W9 W)=>(show W.cell? ⟨b,off+i*3,none⟩=some (.string nm)/\W.cell? ⟨MB,0,none⟩=some (.int .i64 mo.num)/\W.cell? ⟨MB,1,none⟩=some (.int .i64 mo.den) from⟨(zah h CE).trans i9,(zah h r9).trans m0,(zah h r9).trans m1⟩));clear ba mJ bf xZ i9 m0 m1;refine zaC 7 (fun bb w'=>bb=true\/(w'.cell? ⟨b,off+i*3,none⟩=some (.string nm)/\w'.cell? ⟨MB,0,none⟩=some (.int .i64 mo.num)/\w'.cell? ⟨MB,1,none⟩=some (.int .i64 mo.den))) Mco (.inr (aG.o _ (zaH (Below.refl _ _)))) ?hrest
        case hrest=>
         intro hHeld;refine TkM 0 ?_;refine TkM 1 ?_;refine TkM 2 ?_;refine TkM 3 ?_;refine TkM 4 ?_;refine TkM 5 ?_;refine TkM 6 ?_;refine OnM 7 true fun K hK=> ?_
         go_simp
         refine(eD.o _ (zaH qD.o)).mono ?_;rintro e w10 ⟨v10,rfl,o10,b10⟩;refine NxM hK fun hHeld=> ?_
         clear hK K;refine OnM 8 true fun K hK=> ?_
         go_simp
         refine NxM hK fun hHeld=> ?_
         clear hK K;refine zaN Mco ?_ _;clear hHeld;obtain⟨YA,yc,rfl,oV,_⟩:=o10.sl zao;have jp:Below W9.heap.size W9 w10:=(zaH (Below.refl _ _)).trans b10;have uK:=zHi (qD.o.trans (jp.mono BU));have nU:=zHi (o10.base_le (show W4.heap.size<=W9.drew.heap.size by show W4.heap.size<=W9.heap.size;omega));have cL:=zHi (fun W (h:Below w10.heap.size w10 W)=>zdI (za4 out nm mo) YA yc W (by have:=cU.o;omega) (oV.keep h));clear o10 b10 oV jp r9;have hx:=AM.o;cases hlg:zaF (za4 out nm mo)
         ·rw[hlg]at hx cL;have aD:=zHi (ig.o hlg);rw[if_neg Mcq]at hx;have kn:=zHi hx;clear hx hlg;generalize za4 out nm mo=out1 at*;go_wp2_with (go_at_call 90;go_must(refine(cL.o _ Bw).mono ?_);rintro e wq ⟨rfl,rfl⟩)
          go_round
          case rel=>exact⟨i+1,false,out1,cU.o,by go_num,rfl,nU.o,by omega,(qb.o).trans (uK.o.mono rH),zHi fun _=>⟨p8.o,kn.o,aD.o⟩,zHi Mcq⟩
          case measure=>have:=cU.o;simp only[intOf];omega
         ·rw[hlg]at hx cL;rw[if_pos rfl]at hx;have kn:=zHi hx;clear hx hlg;generalize za4 out nm mo=out1 at*;go_wp2_with (go_at_call 90;go_must(refine(cL.o _ Bw).mono ?_);rintro e wq ⟨rfl,rfl⟩)
          go_round
          case rel=>exact⟨i+1,true,out1,cU.o,by go_num,rfl,nU.o,by omega,(qb.o).trans (uK.o.mono rH),zHi Mcq,zHi fun _=> .inr kn.o⟩
          case measure=>have:=cU.o;simp only[intOf];omega
     ·exact Mj
    ·have x8: ¬(i:Int)<(hs.length:Int):=Mcn;cases l'
     ·obtain⟨jE,gH,_⟩:=yV.o rfl;rw[List.drop_of_length_le Mcn,zb8]at gH;have oe:D0=(zby s n day HH (k+1) (s.graves.drop (k+1))).map ((dx.map (·.g)++[{x.g with holders:=out,died:=x.g.died++[n]}])++ ·):=by
       obtain⟨h1,h2⟩:=kL.o (by rw[jE,Bool.and_false]);rw[jE]at h2;have h2:HH=some hs:=h2;rw[h1,yM.o,h2];exact Hr.o _ hs out Ea.o gH
      have F3:HH=some hs:=by
       obtain⟨_,h2⟩:=kL.o (by rw[jE,Bool.and_false]);rw[jE]at h2;exact h2
      have HN:=zHi oe;have kK:=zHi F3;clear oe F3 gH jE;obtain⟨OV,oc,rfl,_,xG⟩:=HO.o.ro;have jr:=eB.o.trans (ee.o.mono eB.o.size);have bh:=bW.o.keep jr;obtain⟨gcur,dM,_⟩:=bh.row;have j3:wr.cell? ⟨ga,go+k*5+3,none⟩=some (.slice x.H x.g.holders.length x.hc):=bh.at eh.o (j:=3) rfl;have jf:=bh.frz;have oB:=bh.lt;have qG:=zHi bh;have lE:=zHi dM;have Bn:=zHi xG;have kg:=zHi jr;clear xG jr bh dM;go_upto_region 20 with fail
      obtain⟨V1,nw⟩: ∃V1,V1=wr.setCell ⟨ga,go+k*5+3,none⟩ (.slice OV out.length oc):=⟨_,rfl⟩
      have gI:wr.grownBy V1 (some ga):=by rw[nw];exact zaz _ _ _ _
      have fL:RowC V1 49 ga go 5 (((dx++gxs.drop k).map GX.cells).set k (x.cells.set 3 (.slice OV out.length oc))):=by rw[nw];exact qG.o.set eh.o Mcp
      have rK:Below w1.heap.size w1 V1:=MdJ;rw[<-nw];have Cs:WR.heap.size<=V1.heap.size:=Nat.le_trans kg.o.size gI.size;clear nw j3 jf oB;have Lg:=hxd5 fL eh.o;have jS:=zHi fL;have uh:=zHi rK;have K9:=fL.lt;have uQ:=zHi (Bn.o.kept gI lE.o Mcp);have uo:=zHi (fun y hy=>(((fX.o y hy).keep kg.o).kept gI lE.o:okR gxs V1 y));have BM:=zHi (pf.o V1 (ak.o.trans ((aA.o.trans (rK.mono gw)).mono aw))).2;clear fL rK gI
      go_wp2_with (first
       |(at_builtin
         go_loud(refine za1 (v:= .slice (some ⟨V1.heap.size,0,none⟩) 0 0) (n:=0) (m:=x.g.died.length) rfl _ _ rfl zbL zaD zbK rfl (xs:=[]) (ys:=x.g.died) (zdY zaD V1 V1.heap.size (Nat.le_refl _)) rfl rfl rfl (BM.o.keep (zad (Below.refl _ _) _)) McW Mcn Mcq ?_)
         intro v3 w3 h1 h2 h3;rw[List.nil_append]at h1;have ay:Below V1.heap.size V1 w3:=Below.grown (zad (Below.refl _ _) _) h2 Mcq Mc1;obtain⟨V3,vc3,rfl,_,_⟩:=h1.sl zaD;have nh:=zHi h1;have ll:=zHi ay;have qT:=ay.size
         clear h1 h2 h3 ay)
       |(at_builtin
         go_loud(refine za1 (v:= .slice V3 x.g.died.length vc3) (n:=x.g.died.length) (m:=1) rfl _ _ rfl zbL zaD zbK rfl (xs:=x.g.died) (ys:=[n]) (nh.o.keep (n:=w3.heap.size) (zad (Below.refl _ _) _)) rfl rfl rfl (zdj (zar _ _ _ rfl)) McW Mcn Mcr ?_)
         intro v6 w6 h1 h2 h3;have aI:Below V1.heap.size V1 w6:=Below.grown (zad ll.o _) h2 Mcr (fun j hj=>(nh.o.ge j hj).1);obtain⟨A6,vc6,dA,_,_⟩:=h1.sl zaD;rw[List.length_append]at dA;subst dA;have lJ:=zHi h1;have eN:=zHi aI;have eK:=jS.o.keep aI;have i4:w6.cell? ⟨ga,go+k*5+4,none⟩=some (.slice x.D x.g.died.length x.dc):=hxd5 eK eh.o;have jf6:=eK.frz;have Dc:=eK.lt;have CD:=aI.size
         clear h1 h2 h3 aI eK))
      go_round
      case rel=>
       have eK:=jS.o.keep eN.o;rw[AG.o]at eK;obtain⟨gcur6,mA,_⟩:=eK.row;refine⟨k+1,false,true,dx++[(⟨{x.g with holders:=out,died:=x.g.died++[n]},OV,oc,A6,vc6⟩:GX)],am.o,by go_num,rfl,rfl,by rw[List.length_append,iv];rfl,zHi fun _=>row_two iv eK,zHi fun y hy=> ?_,zHi Mcq,zHi fun _=>⟨by rw[HN.o,List.map_append];rfl,kK.o⟩,zaM (uh.o.trans (eN.o.mono uh.o.size)) zY _,by simp;omega⟩;exact Mb2
      case measure=>have:=am.o;simp only[intOf];omega
     ·exact Mj
  ·have ar: ¬(k:Int)<(s.graves.length:Int):=Mcn;have kx:k=s.graves.length:=Mcn;have Df:gxs.drop k=[]:=List.drop_of_length_le Mcn;have yg:s.graves.drop k=[]:=List.drop_of_length_le Mcn;have HG:Hid ((f&&l)=false->R=({s with graves:=dx.map (·.g),dead:=s.dead++[n]},0)):=zHi fun dL=>by
    obtain⟨h1,_⟩:=kL.o dL;rw[yg,zby]at h1;rw[HR.o,h1];simp
   have da:Hid ((f&&l)=true->R=(s,8)):=zHi fun dL=>by rw[HR.o,nO.o dL]
   clear yg aa hB cw;cases f
   ·exact Me
   ·cases l
    ·exact Me
    ·have HE:=zHi (da.o rfl);clear HG da;go_wp2_with fail
     refine bodyPost_ret (zbB rfl _ rfl rfl (zc0 xr0)) rfl ?_;exact⟨_,_,_,_,_,_,_,false,rfl,rfl,zc9 (ak.o.trans (aW.o.mono aw)) (show w.heap.size<=w.heap.size+1 by omega), .inr ⟨rfl,by rw[HE.o]⟩⟩
end Go.Proofs.YtjhbofabmpfniaaGreatDoor
