/- Walk of the reference's spread. -/
import Derived.Test.YtckkbkdcdkhglaaGreatDoorWX
import Derived.Test.YtckkbkdcdkhglaaGreatDoorWG
set_option linter.unusedSimpArgs false
set_option linter.unusedVariables false
set_option maxRecDepth 100000
set_option maxHeartbeats 4000000
namespace Go.Proofs.YtckkbkdcdkhglaaGreatDoor
open Go.RowKit Go.Shelf
attribute [local go_sem] World.cell?_alloc_mark zag za5 zaq za8 zaw zax zay zaz za0 za1 za2
attribute [local go_sem] zap zad
structure Srch (cs:List (ByteArray×ByteArray)) (nm:ByteArray) (all:List ByteArray) (i:Nat):Prop where
 desc: ∀y∈all,Relation.TransGen (fun x y=>y∈zdh cs x) nm y
 mine: ∀c∈zdh cs nm,c∈all
 done: ∀y∈all.take i,∀c∈zdh cs y,c∈all
 few: ∃n,n<=(zdh cs nm).length/\(all.drop n).Nodup/\n<=all.length
theorem zhT (cs:List (ByteArray×ByteArray)) (n:ByteArray):(zdh cs n).length<=cs.length:=by
 unfold zdh;rw[List.length_map];exact List.length_filter_le _ _
theorem ziV {cs:List (ByteArray×ByteArray)} {n c:ByteArray} (h:c∈zdh cs n):c∈cs.map (·.2):=by
 unfold zdh at h;obtain⟨p,hp,rfl⟩:=List.mem_map.1 h;exact List.mem_map_of_mem (List.mem_filter.1 hp).1
theorem Srch.len {cs:List (ByteArray×ByteArray)} {nm:ByteArray} {all:List ByteArray} {i:Nat} (h:Srch cs nm all i):all.length<=2*cs.length:=by
 obtain⟨n,h1,h2,h3⟩:=h.few;have h4:=zhT cs nm;haveI:DecidableEq ByteArray:=fun a b=>Classical.propDecidable _
 have h5:(all.drop n).length<=(cs.map (·.2)).length:=zkw h2 fun y hy=>by
  cases h.desc y (List.mem_of_mem_drop hy)with
  |single h=>exact ziV h
  |tail _ h=>exact ziV h
 rw[List.length_drop,List.length_map]at h5;omega
theorem zpc (cs:List (ByteArray×ByteArray)) (nm:ByteArray):Srch cs nm (zdh cs nm) 0:=
 ⟨fun y hy=> .single hy,fun c h=>h,by simp,(zdh cs nm).length,Nat.le_refl _,by simp,Nat.le_refl _⟩
theorem srch_end {cs:List (ByteArray×ByteArray)} {nm:ByteArray} {all:List ByteArray} {i:Nat} (h:Srch cs nm all i) (hi:all.length<=i) (y:ByteArray):y∈all↔Relation.TransGen (fun x y=>y∈zdh cs x) nm y:=by
 refine⟨h.desc y,fun hd=> ?_⟩;have jN:=h.done;rw[List.take_of_length_le hi]at jN;induction hd with
 |single h1=>exact h.mine _ h1
 |tail _ h1 ih=>exact jN _ ih _ h1
def zdf (all more:List ByteArray):List ByteArray:=more.foldl (fun a c=>if a.any (zae c)then a else a++[c]) all
theorem znq {all more:List ByteArray} {k:Nat} (h:k<more.length):zdf all (more.take (k+1))=if(zdf all (more.take k)).any (zae more[k])then zdf all (more.take k)else zdf all (more.take k)++[more[k]]:=by
 unfold zdf;rw[List.take_add_one,List.getElem?_eq_getElem h,List.foldl_append];rfl
theorem zfA: ∀(more all:List ByteArray),∃t,zdf all more=all++t/\(∀c∈t,c∈more)/\(∀c∈more,c∈zdf all more)/\(∀n,n<=all.length->(all.drop n).Nodup->(∀c∈t,c∉all)/\((zdf all more).drop n).Nodup)
 | [],all=>⟨[],by simp[zdf],by simp,by simp,fun n _ h=>⟨by simp,h⟩⟩
 |c::more,all=>by
  have e:zdf all (c::more)=zdf (if all.any (zae c)then all else all++[c]) more:=rfl;rw[e];split
  ·rename_i hc
   obtain⟨t,h1,h2,h3,h4⟩:=zfA more all;refine⟨t,h1,fun x hx=>List.mem_cons_of_mem _ (h2 x hx),fun x hx=> ?_,h4⟩;rcases List.mem_cons.1 hx with rfl|hx
   ·rw[h1];exact List.mem_append_left _ (zfx.1 hc)
   ·exact h3 x hx
  ·rename_i hc
   have aU:c∉all:=fun h=>hc (zfx.2 h)
   obtain⟨t,h1,h2,h3,h4⟩:=zfA more (all++[c]);refine⟨c::t,by rw[h1];simp,fun x hx=> ?_,fun x hx=> ?_,fun n hn cM=> ?_⟩
   ·rcases List.mem_cons.1 hx with rfl|hx
    ·simp
    ·exact List.mem_cons_of_mem _ (h2 x hx)
   ·rcases List.mem_cons.1 hx with rfl|hx
    ·rw[h1];simp
    ·exact h3 x hx
   ·have hd:((all++[c]).drop n).Nodup:=by
     rw[List.drop_append_of_le_length hn]
     exact List.nodup_append.2 ⟨cM,by simp,fun a ha b hb e=>by
      rw[List.mem_singleton.1 hb]at e
      exact aU (e▸List.mem_of_mem_drop ha)⟩
    obtain⟨h5,h6⟩:=h4 n Mcq hd;refine⟨fun x hx=> ?_,h6⟩;rcases List.mem_cons.1 hx with rfl|hx
    ·exact aU
    ·exact fun h=>h5 x hx (List.mem_append_left _ h)
theorem srch_next {cs:List (ByteArray×ByteArray)} {nm:ByteArray} {all:List ByteArray} {i:Nat} (h:Srch cs nm all i) (hi:i<all.length):Srch cs nm (zdf all (zdh cs all[i])) (i+1):=by
 obtain⟨t,h1,h2,h3,h4⟩:=zfA (zdh cs all[i]) all;obtain⟨n,f1,f2,f3⟩:=h.few;have h5:=(h4 n f3 f2).2;rw[h1]at h3 h5⊢;refine⟨fun y hy=> ?_,fun c hc=>List.mem_append_left _ (h.mine c hc),fun y hy c hc=> ?_,n,f1,h5,by simp;omega⟩
 ·rcases List.mem_append.1 hy with hy|hy
  ·exact h.desc y hy
  ·exact .tail (h.desc _ (List.getElem_mem hi)) (h2 y hy)
 ·rw[List.take_append_of_le_length Mcl,List.take_add_one,List.getElem?_eq_getElem hi]at hy;rcases List.mem_append.1 hy with hy|hy
  ·exact List.mem_append_left _ (h.done y hy c hc)
  ·obtain rfl:y=all[i]:=by simpa using hy
   exact h3 c hc
def DescR (w:World) (cs:List (ByteArray×ByteArray)) (nm:ByteArray) (e:Ending) (w':World):Prop:=
 ∃v ys,e= .returned v/\OwnS w' w.heap.size 9 1 sC v ys/\(∀y,y∈ys↔Relation.TransGen (fun x y=>y∈zdh cs x) nm y)/\AscT ys/\ys.length<=2*cs.length/\Below w.heap.size w w'
theorem rDesc_any (cs:List (ByteArray×ByteArray)) (n:ByteArray) (LA CA MA DA WA RA GA:Option Addr) (n0 c0 n1 c1 n2 c2 n3 c3 n4 c4 n5 c5 n6 c6:Nat) (w:World) (hl:cs.length<=1000) (hS:Sl w 2 zaT CA cs):
 Calls Tryz.prog 169 #[.agg #[.slice LA n0 c0, .slice CA cs.length c1, .slice MA n2 c2, .slice DA n3 c3, .slice WA n4 c4, .slice RA n5 c5, .slice GA n6 c6], .string n] w (DescR w cs n):=by
 have oW:=zHi (fun x W (h:Below w.heap.size w W)=>zg9 cs x LA CA MA DA WA RA GA n0 c0 cs.length c1 n2 c2 n3 c3 n4 c4 n5 c5 n6 c6 W Mcl (hS.keep h));unfold DescR;clear hS;go_enter Tryz.func169,Tryz.ntmps169
 go_upto_region 1 with fail
 generalize ao:w.alloc _=W0;obtain⟨g0,aI⟩:=boxed ao;have hJ:=zaG g0;have l0:=zab g0;have aw:=aI.size;have ak:=zHi aI
 have ax:=zHi (fun W (h:Below W0.heap.size W0 W)=>(show W.cell? ⟨w.heap.size,0,none⟩=some (.slice LA n0 c0)/\W.cell? ⟨w.heap.size,1,none⟩=some (.slice CA cs.length c1)/\W.cell? ⟨w.heap.size,2,none⟩=some (.slice MA n2 c2)/\W.cell? ⟨w.heap.size,3,none⟩=some (.slice DA n3 c3)/\W.cell? ⟨w.heap.size,4,none⟩=some (.slice WA n4 c4)/\W.cell? ⟨w.heap.size,5,none⟩=some (.slice RA n5 c5)/\W.cell? ⟨w.heap.size,6,none⟩=some (.slice GA n6 c6) from by
  obtain⟨d0,d1,d2,d3,d4,d5,d6⟩:=hJ
  exact⟨(zah h l0).trans d0,(zah h l0).trans d1,(zah h l0).trans d2,(zah h l0).trans d3,(zah h l0).trans d4,(zah h l0).trans d5,(zah h l0).trans d6⟩))
 obtain⟨d0,d1,d2,d3,d4,d5,d6⟩:=hJ;clear ao aI g0
 go_upto_region 3 with(go_at_call 81
                       go_must(refine(oW.o _ _ Mde).mono ?_)
                       rintro e w1 ⟨v1,rfl,o1,b1⟩)
 have aG:=zHi b1;have fT:=zHi o1;clear o1 b1 d0 d1 d2 d3 d4 d5 d6;go_loopw [5,6,7,8] (fun v i _ _ wr=> ∃(k:Nat) (all:List ByteArray),k<=all.length/\i= .int .i64 k/\Hid (Srch cs n all k)/\OwnS wr W0.heap.size 9 1 sC v all/\Below W0.heap.size W0 wr) (fun _ i _ _ _=>2*cs.length-(intOf i).toNat)
 case atStart=>exact⟨0,_,Nat.zero_le _,rfl,zHi (zpc cs n),fT.o,aG.o⟩
 case round=>
  obtain⟨k,all,hk,rfl,qD,ae,hB⟩:=hrel;obtain⟨WR,ov⟩: ∃WR,WR=wr:=⟨_,rfl⟩
  subst ov;have jM:=qD.o.len;have iD:k<=2000:=Mcl;obtain⟨VA,vc,rfl,jk,kC⟩:=ae.sl zaB;have aK:=hB.size;have HB:=zHi hB;have HO:=zHi ae;by_cases aa:k<all.length
  ·obtain⟨b,off,rfl,hb,ah⟩:=jk.at aa;have bW:=srch_next qD.o aa;have aq:=zHi aa;generalize all[k]=x at*;have i0:WR.cell? ⟨b,off+k,none⟩=some (.string x):=McM;have ar:(k:Int)<(all.length:Int):=Mcl;have aT:(0:Int)<=(k:Int):=Mcl;have eu:=zHi bW;have GC:Hid (all.length<=(zdf all (zdh cs x)).length):=by
    show _<=_;obtain⟨t,h1,_⟩:=zfA (zdh cs x) all;rw[h1,List.length_append];omega
   have yG:=zHi jM;have bY:=zHi (fun W (h:Below WR.heap.size WR W)=>(show(W.cell? ⟨w.heap.size,0,none⟩=some (.slice LA n0 c0)/\W.cell? ⟨w.heap.size,1,none⟩=some (.slice CA cs.length c1)/\W.cell? ⟨w.heap.size,2,none⟩=some (.slice MA n2 c2)/\W.cell? ⟨w.heap.size,3,none⟩=some (.slice DA n3 c3)/\W.cell? ⟨w.heap.size,4,none⟩=some (.slice WA n4 c4)/\W.cell? ⟨w.heap.size,5,none⟩=some (.slice RA n5 c5)/\W.cell? ⟨w.heap.size,6,none⟩=some (.slice GA n6 c6))/\W.cell? ⟨b,off+k,none⟩=some (.string x) from⟨ax.o W (HB.o.trans (h.mono aK)),(zah h hb).trans i0⟩));have GT:=zHi (fun W (h:Below WR.heap.size WR W)=>oW.o x W (ak.o.trans ((HB.o.trans (h.mono aK)).mono aw)));generalize iS:zdh cs x=ks at*;have bV:ks.length<=1000:=by rw[<-iS];exact Nat.le_trans (zhT cs x) hl
   have nW:=zHi bV;clear ah ae hB jk aa bW iS jM i0 bV;go_upto_region 5 with fail
   refine zaC 5 (fun bb w'=>bb=true\/((w'.cell? ⟨w.heap.size,0,none⟩=some (.slice LA n0 c0)/\w'.cell? ⟨w.heap.size,1,none⟩=some (.slice CA cs.length c1)/\w'.cell? ⟨w.heap.size,2,none⟩=some (.slice MA n2 c2)/\w'.cell? ⟨w.heap.size,3,none⟩=some (.slice DA n3 c3)/\w'.cell? ⟨w.heap.size,4,none⟩=some (.slice WA n4 c4)/\w'.cell? ⟨w.heap.size,5,none⟩=some (.slice RA n5 c5)/\w'.cell? ⟨w.heap.size,6,none⟩=some (.slice GA n6 c6))/\w'.cell? ⟨b,off+k,none⟩=some (.string x))) Mcm (.inr (bY.o _ (zaM (Below.refl _ _)))) ?hrest
   case hrest=>
    intro hHeld;refine TkM 0 ?_;refine TkM 1 ?_;refine TkM 2 ?_;refine TkM 3 ?_;refine TkM 4 ?_;refine OnM 5 true fun K hK=> ?_
    go_simp
    refine(GT.o _ (zaM (Below.refl _ _))).mono ?_;rintro e w5 ⟨v5,rfl,o5,aj⟩;refine NxM hK fun hHeld=> ?_
    clear hK K;refine OnM 6 true fun K hK=> ?_
    go_simp
    refine NxM hK fun hHeld=> ?_
    clear hK K;refine zaQ Mcm ?_ _;clear hHeld;have ez:Below WR.heap.size WR w5:=(zaM (Below.refl _ _):Below WR.heap.size WR WR.drew).trans aj;have o5':OwnS w5 WR.heap.size 9 1 sC v5 ks:=o5;obtain⟨KA,kc,rfl,_,_⟩:=o5'.sl zaB;have aH:=zHi ez;have kM:=zHi o5';have BE:=ez.size;clear aj ez o5 o5';go_upto_region 7 with fail
    go_loopw [5,8] (fun v j wr=> ∃m:Nat,m<=ks.length/\j= .int .i64 m/\OwnS wr W0.heap.size 9 1 sC v (zdf all (ks.take m))/\Hid (∀g,za7 v=some g->za7 (.slice KA ks.length kc)≠some g)/\OwnS wr WR.heap.size 9 1 sC (.slice KA ks.length kc) ks/\Below W0.heap.size W0 wr/\w5.heap.size<=wr.heap.size/\(zdf all (ks.take m)).length<=all.length+m) (fun _ j _=>ks.length-(intOf j).toNat)
    case atStart=>exact⟨0,Nat.zero_le _,rfl,HO.o.keep aH.o,zHi (fun g h1 h2=>by have:=(kM.o.ge g h2).1;have:=(HO.o.ge g h1).2;omega),kM.o,HB.o.trans (aH.o.mono aK),Nat.le_refl _,by simp[zdf]⟩
    case round=>
     obtain⟨m,hm,rfl,tY,iN,bp,gA,KX,FN⟩:=hrel;have FS:m<=1000:=by have:=nW.o;omega
     by_cases ft:m<ks.length
     ·have am:=znq (all:=all) ft;obtain⟨b2,off2,lZ,bF,cA⟩:=(ziT zaB bp).1.at ft;have nY:=zHi ft;generalize zdf all (ks.take m)=ys at*;obtain⟨VY,vy,rfl,rz,KO⟩:=tY.sl zaB;generalize ks[m]=y at*;subst lZ;have j0:wr.cell? ⟨b2,off2+m,none⟩=some (.string y):=MdX;have fQ:(m:Int)<(ks.length:Int):=Mcl;have nI:(0:Int)<=(m:Int):=Mcl;have AQ:Hid (ys.length<=100000):=by show _<=_;have:=yG.o;have:=nW.o;omega
      have fC:=zHi (fun W (h:Below wr.heap.size wr W)=>zd0 ys y VY vy W AQ.o KO (rz.keep h));have eH:=zHi tY;have dm:=zHi bp;have fI:=zHi gA;have lJ:=zHi FN;have DE:=gA.size;clear cA tY bp gA rz ft FN;cases aN:ys.any (zae y)
      ·have aB:Hid (zdf all (ks.take (m+1))=ys++[y]):=by show _=_;rw[am,aN];rfl
       rw[aN]at fC;clear am aN
       go_wp2_with (first
        |(go_at_call 34;go_must(refine(fC.o _ Bw).mono ?_);rintro e wq ⟨rfl,rfl⟩)
        |(at_builtin
          go_loud(refine zav (v:= .slice VY ys.length vy) (n:=ys.length) (m:=1) rfl _ _ rfl zbK zaB zbJ rfl (xs:=ys) (ys:=[y]) (eH.o.keep (n:=wr.heap.size) Bw) rfl rfl rfl (zfT (zar _ _ _ rfl)) (by have:=AQ.o;simp[maxLen];omega) (by have:=AQ.o;omega) Mcq ?_)
          intro v3 w3 h1 h2 h3;have av:=Below.grown (B:=W0.heap.size) (a:=W0) (fI.o.trans (Below.mono (B:=wr.heap.size) (zac (Below.refl _ _) _) DE)) h2 Mcq (fun j hj=>(eH.o.ge j hj).1);have tR:=(dm.o.keep (n:=wr.heap.size) (zac (Below.refl _ _) (.cells #[.string y] 9))).grown h2 (.inr fun e=>iN.o _ e.symm rfl);have Ab: ∀g,za7 v3=some g->za7 (.slice (some ⟨b2,off2,none⟩) ks.length kc)≠some g:=fun g e1 e2=>by
           rcases h3 g e1 with h|h
           ·exact iN.o g h e2
           ·have:=(dm.o.ge g e2).2;simp at h;omega
          have iI:=h2.size;have H1:=zHi h1;have aJ:=zHi av;have Hp:=zHi tR;have I3:=zHi Ab;simp only[World.size_alloc]at iI
          clear h1 h2 h3 av tR Ab))
       go_round
       case rel=>exact⟨m+1,nY.o,by go_num,by rw[aB.o];exact H1.o,I3,Hp.o,aJ.o,by omega,by rw[aB.o,List.length_append];have:=lJ.o;simp;omega⟩
       case measure=>have:=nY.o;simp only[intOf];omega
      ·have aB:Hid (zdf all (ks.take (m+1))=ys):=by show _=_;rw[am,aN];rfl
       rw[aN]at fC;clear am aN;go_wp2_with (go_at_call 34;go_must(refine(fC.o _ Bw).mono ?_);rintro e wq ⟨rfl,rfl⟩)
       go_round
       case rel=>exact⟨m+1,nY.o,by go_num,by rw[aB.o];exact eH.o,iN,dm.o,fI.o,KX,by rw[aB.o];have:=lJ.o;omega⟩
       case measure=>have:=nY.o;simp only[intOf];omega
     ·have fQ: ¬(m:Int)<(ks.length:Int):=Mcl;rw[List.take_of_length_le Mcl]at tY;have eH:=zHi tY;have fI:=zHi gA;clear tY bp gA;go_wp2_with fail
      go_round
      case rel=>exact⟨k+1,_,by have:=GC.o;have:=aq.o;omega,by go_num,eu,eH.o,fI.o⟩
      case measure=>have:=aq.o;have:=yG.o;simp only[intOf];omega
  ·have ar: ¬(k:Int)<(all.length:Int):=Mcl;have Ax:=zHi (srch_end qD.o Mcl);have ni:=zHi (fun W (h:Below WR.heap.size WR W)=>znp all VA vc W Mcl (jk.keep h));have yG:=zHi jM;clear jk ae hB jM;go_wp2_with (go_at_call 182;go_must(refine(ni.o _ Bw).mono ?_);rintro e wq ⟨vq,rfl,oq,bq⟩)
   go_ret
   exact⟨_,zde all,rfl,oq.base_le Mcl,fun y=>znn.trans (Ax.o y),zno all,Nat.le_trans (ziU all) yG.o,ak.o.trans ((HB.o.trans (bq.mono aK)).mono aw)⟩
structure StIn (w:World) (laws:List Law) (s:St) (wd rd:List Deed) (LA CA MA DA WA RA GA:Option Addr) (c0 c1 c2 c3 c4 c5 c6:Nat):Prop where
 laws:Sl w 4 Law.cells LA laws
 kids:Sl w 2 zaT CA s.children
 marr:Sl w 2 zaT MA s.marriages
 dead:Sl w 1 sC DA s.dead
 wills:SlW w 7 zfC WA wd
 ren:SlW w 7 zfC RA rd
 graves:SlW w 5 zhZ GA s.graves
 deadc:s.dead.length<=c3
theorem StIn.keep {w W:World} {laws:List Law} {s:St} {wd rd:List Deed} {LA CA MA DA WA RA GA:Option Addr} {c0 c1 c2 c3 c4 c5 c6 n:Nat} (h:StIn w laws s wd rd LA CA MA DA WA RA GA c0 c1 c2 c3 c4 c5 c6) (hB:Below n w W) (hn:w.heap.size<=n:=by first|exact Nat.le_refl _|omega):StIn W laws s wd rd LA CA MA DA WA RA GA c0 c1 c2 c3 c4 c5 c6:=
 ⟨h.laws.keep hB hn,h.kids.keep hB hn,h.marr.keep hB hn,h.dead.keep hB hn,h.wills.keep zcf hB hn,h.ren.keep zcf hB hn,h.graves.keep zfJ hB hn,h.deadc⟩
structure StLink (s:St) (wd rd:List Deed):Prop where
 wills:s.wills=wd.map fun d=>(d.frm,zao d.to)
 shares: ∀d∈wd,∀p∈d.to,za6 16 p.num p.den=true
 ren:s.renounce=rd.map fun d=>(d.frm,zbh d)
 tos: ∀d∈rd,d.to≠[]
structure StFew (s:St) (wd rd:List Deed):Prop where
 kids:s.children.length<=1000
 marr:s.marriages.length<=1000
 dead:s.dead.length<=1000
 wills:wd.length<=1000
 ren:rd.length<=1000
 graves:s.graves.length<=1000
section
variable {laws:List Law} {s:St} {wd rd:List Deed} {LA CA MA DA WA RA GA:Option Addr} {c0 c1 c2 c3 c4 c5 c6:Nat}
theorem sAble (n frm:ByteArray) (w:World) (h:StIn w laws s wd rd LA CA MA DA WA RA GA c0 c1 c2 c3 c4 c5 c6) (hk:StLink s wd rd) (hf:StFew s wd rd):Calls Tryz.prog 37 #[.agg #[.slice LA laws.length c0, .slice CA s.children.length c1, .slice MA s.marriages.length c2, .slice DA s.dead.length c3, .slice WA wd.length c4, .slice RA rd.length c5, .slice GA s.graves.length c6], .string n, .string frm] w (Ret w (.bool (zdU s n frm))):=by
 rw[<-ableR_eq s rd hk.ren];exact rAble_any rd s.dead n frm LA CA MA DA WA RA GA laws.length c0 s.children.length c1 s.marriages.length c2 s.dead.length c3 wd.length c4 rd.length c5 s.graves.length c6 w (by have:=hf.ren;omega) hk.tos h.ren Mem h.deadc h.dead
theorem sDead (n:ByteArray) (w:World) (h:StIn w laws s wd rd LA CA MA DA WA RA GA c0 c1 c2 c3 c4 c5 c6) (hf:StFew s wd rd):Calls Tryz.prog 17 #[.agg #[.slice LA laws.length c0, .slice CA s.children.length c1, .slice MA s.marriages.length c2, .slice DA s.dead.length c3, .slice WA wd.length c4, .slice RA rd.length c5, .slice GA s.graves.length c6], .string n] w (Ret w (.bool (zaH s n))):=
 zeH s.dead n LA CA MA DA WA RA GA laws.length c0 s.children.length c1 s.marriages.length c2 s.dead.length c3 wd.length c4 rd.length c5 s.graves.length c6 w Mem h.deadc h.dead
theorem sKids (n:ByteArray) (w:World) (h:StIn w laws s wd rd LA CA MA DA WA RA GA c0 c1 c2 c3 c4 c5 c6) (hf:StFew s wd rd):Calls Tryz.prog 81 #[.agg #[.slice LA laws.length c0, .slice CA s.children.length c1, .slice MA s.marriages.length c2, .slice DA s.dead.length c3, .slice WA wd.length c4, .slice RA rd.length c5, .slice GA s.graves.length c6], .string n] w (zd1 w (zai s n)):=
 zg9 s.children n LA CA MA DA WA RA GA laws.length c0 s.children.length c1 s.marriages.length c2 s.dead.length c3 wd.length c4 rd.length c5 s.graves.length c6 w (by have:=hf.kids;omega) h.kids
theorem sSpouse (n:ByteArray) (w:World) (h:StIn w laws s wd rd LA CA MA DA WA RA GA c0 c1 c2 c3 c4 c5 c6) (hf:StFew s wd rd):Calls Tryz.prog 40 #[.agg #[.slice LA laws.length c0, .slice CA s.children.length c1, .slice MA s.marriages.length c2, .slice DA s.dead.length c3, .slice WA wd.length c4, .slice RA rd.length c5, .slice GA s.graves.length c6], .string n] w (Ret w (.string (zaL s n))):=by
 rw[<-zoP];exact zmZ s.marriages s.dead n LA CA MA DA WA RA GA laws.length c0 s.children.length c1 s.marriages.length c2 s.dead.length c3 wd.length c4 rd.length c5 s.graves.length c6 w (by have:=hf.marr;omega) h.marr Mem h.deadc h.dead
theorem ziW (place:ByteArray) (day:Int) (w:World) (h:StIn w laws s wd rd LA CA MA DA WA RA GA c0 c1 c2 c3 c4 c5 c6) (hf:StFew s wd rd):Calls Tryz.prog 13 #[.agg #[.slice LA laws.length c0, .slice CA s.children.length c1, .slice MA s.marriages.length c2, .slice DA s.dead.length c3, .slice WA wd.length c4, .slice RA rd.length c5, .slice GA s.graves.length c6], .string place, .int .i64 day] w (Ret w (.int .i64 (zjp s.graves place day))):=
 zoL s.graves place day LA CA MA DA WA RA GA laws.length c0 s.children.length c1 s.marriages.length c2 s.dead.length c3 wd.length c4 rd.length c5 s.graves.length c6 w (by have:=hf.graves;omega) h.graves
theorem sDesc (n:ByteArray) (w:World) (h:StIn w laws s wd rd LA CA MA DA WA RA GA c0 c1 c2 c3 c4 c5 c6) (hf:StFew s wd rd):Calls Tryz.prog 169 #[.agg #[.slice LA laws.length c0, .slice CA s.children.length c1, .slice MA s.marriages.length c2, .slice DA s.dead.length c3, .slice WA wd.length c4, .slice RA rd.length c5, .slice GA s.graves.length c6], .string n] w (DescR w s.children n):=
 rDesc_any s.children n LA CA MA DA WA RA GA laws.length c0 s.children.length c1 s.marriages.length c2 s.dead.length c3 wd.length c4 rd.length c5 s.graves.length c6 w hf.kids h.kids
theorem zmn (l:List RPart) (A:Option Addr) (c:Nat) (w:World) (h:StIn w laws s wd rd LA CA MA DA WA RA GA c0 c1 c2 c3 c4 c5 c6) (hf:StFew s wd rd) (hl:l.length<=1000000) (hS:Sl w 3 RPart.cells A l):Calls Tryz.prog 163 #[.agg #[.slice LA laws.length c0, .slice CA s.children.length c1, .slice MA s.marriages.length c2, .slice DA s.dead.length c3, .slice WA wd.length c4, .slice RA rd.length c5, .slice GA s.graves.length c6], .slice A l.length c] w (Ret w (.bool (zdW s l))):=
 zkH l A c s.dead LA CA MA DA WA RA GA laws.length c0 s.children.length c1 s.marriages.length c2 s.dead.length c3 wd.length c4 rd.length c5 s.graves.length c6 w hl hS Mem h.deadc h.dead
end
def zd2 (s:St) (stems:Bool) (frm:ByteArray):Nat->ByteArray->List ByteArray
 |0,_=>[]
 |f+1,n=>(zai s n).filter fun c=>(zcQ s stems frm f c).isSome
theorem zgE {α β:Type} (g:α->Option β): ∀l:List α,(l.filterMap g).length=(l.filter fun x=>(g x).isSome).length
 | []=>rfl
 |x::l=>by
  have ih:=zgE g l;cases hg:g x
  ·rw[List.filterMap_cons_none hg,List.filter_cons_of_neg (by simp[hg]),ih]
  ·rw[List.filterMap_cons_some hg,List.filter_cons_of_pos (by simp[hg]),List.length_cons,List.length_cons,ih]
theorem zgF (s:St) (stems:Bool) (frm:ByteArray): ∀(f:Nat) (n:ByteArray),(zb2 s stems frm f n).length=(zd2 s stems frm f n).length
 |0,_=>rfl
 |f+1,n=>by rw[zf7,zgE];rfl
theorem znr {α:Type} (p:α->Bool) (l:List α) {k:Nat} (h:k<l.length):(l.take (k+1)).filter p=(l.take k).filter p++if p l[k]then[l[k]]else[]:=by
 rw[List.take_add_one,List.getElem?_eq_getElem h,List.filter_append];simp only[Option.toList_some,List.filter_cons,List.filter_nil]
theorem rLeads_of (laws:List Law) (s:St) (wd rd:List Deed) (LA CA MA DA WA RA GA:Option Addr) (c0 c1 c2 c3 c4 c5 c6:Nat) (law:Law) (frm:ByteArray) (hk:StLink s wd rd) (hf:StFew s wd rd) (f:Nat) (n:ByteArray) (w:World) (h:StIn w laws s wd rd LA CA MA DA WA RA GA c0 c1 c2 c3 c4 c5 c6)
 (IH: ∀W,Below w.heap.size w W->Calls Tryz.prog 41 #[.agg #[.slice LA laws.length c0, .slice CA s.children.length c1, .slice MA s.marriages.length c2, .slice DA s.dead.length c3, .slice WA wd.length c4, .slice RA rd.length c5, .slice GA s.graves.length c6],law.v, .string n, .string frm] W (zd1 W (zd2 s law.stems frm f n))):
 Calls Tryz.prog 82 #[.agg #[.slice LA laws.length c0, .slice CA s.children.length c1, .slice MA s.marriages.length c2, .slice DA s.dead.length c3, .slice WA wd.length c4, .slice RA rd.length c5, .slice GA s.graves.length c6],law.v, .string n, .string frm] w (Ret w (.bool (zcQ s law.stems frm f n).isSome)):=by
 have fH:=zHi (fun W (hB:Below w.heap.size w W)=>sAble n frm W (h.keep hB) hk hf);have dI:(zcQ s law.stems frm f n).isSome=(zdU s n frm||law.stems&&decide (0<(zd2 s law.stems frm f n).length)):=by
  rw[<-zgF];unfold zcQ;cases zdU s n frm
  ·cases law.stems
   ·rfl
   ·cases zb2 s true frm f n<;>rfl
  ·rfl
 rw[dI];unfold Law.v at IH⊢;generalize zdU s n frm=ab at*;generalize zd2 s law.stems frm f n=ls at*;have Hn:=zHi IH;clear dI IH h;go_enter Tryz.func82,Tryz.ntmps82
 go_upto_region 1 with fail
 obtain⟨W0,ao⟩: ∃W0,W0=(w.alloc (.cells #[.slice LA laws.length c0, .slice CA s.children.length c1, .slice MA s.marriages.length c2, .slice DA s.dead.length c3, .slice WA wd.length c4, .slice RA rd.length c5, .slice GA s.graves.length c6] 40)).alloc (.cells #[.int .i64 law.frm, .bool law.stems, .int .i64 law.num, .int .i64 law.den] 95):=⟨_,rfl⟩
 have g0:W0.heap[w.heap.size]?=some (.cells #[.slice LA laws.length c0, .slice CA s.children.length c1, .slice MA s.marriages.length c2, .slice DA s.dead.length c3, .slice WA wd.length c4, .slice RA rd.length c5, .slice GA s.graves.length c6] 40):=MdF;have g1:W0.heap[w.heap.size+1]?=some (.cells #[.int .i64 law.frm, .bool law.stems, .int .i64 law.num, .int .i64 law.den] 95):=by rw[ao];exact zar _ _ _ Mco
 have aI:Below w.heap.size w W0:=McY;rw[<-ao];clear ao;obtain⟨d0,d1,d2,d3,d4,d5,d6⟩:=zaG g0;obtain⟨e0,e1,e2,e3⟩:=cF4 g1;have l0:=zab g0;have l1:=zab g1;have aw:=aI.size;have ak:=zHi aI;clear aI g0 g1;cases ab
 ·generalize law.stems=st at*;cases st
  ·exact MaN
  ·go_upto_region 5 with(go_at_call 37;go_must(refine(fH.o _ Mde).mono ?_);rintro e wq ⟨rfl,z,rfl⟩)
   by_cases hz:0<ls.length
   ·have j9:(0:Int)<(ls.length:Int):=Mcl;exact Mah
   ·have j9: ¬(0:Int)<(ls.length:Int):=Mcl;exact Mah
 ·exact MaN
theorem zhk (laws:List Law) (s:St) (wd rd:List Deed) (LA CA MA DA WA RA GA:Option Addr) (c0 c1 c2 c3 c4 c5 c6:Nat) (law:Law) (frm:ByteArray) (hk:StLink s wd rd) (hf:StFew s wd rd): ∀(f:Nat) (n:ByteArray) (w:World),StIn w laws s wd rd LA CA MA DA WA RA GA c0 c1 c2 c3 c4 c5 c6->Deep s f n->
 Calls Tryz.prog 41 #[.agg #[.slice LA laws.length c0, .slice CA s.children.length c1, .slice MA s.marriages.length c2, .slice DA s.dead.length c3, .slice WA wd.length c4, .slice RA rd.length c5, .slice GA s.graves.length c6],law.v, .string n, .string frm] w (zd1 w (zd2 s law.stems frm f n))
 |0,n,w,_,hd=>hd.elim
 |f+1,n,w,h,hd=>by
  have AJ:=zHi (fun(c:ByteArray) (W:World) (hc:c∈zai s n) (hB:Below w.heap.size w W)=>rLeads_of laws s wd rd LA CA MA DA WA RA GA c0 c1 c2 c3 c4 c5 c6 law frm hk hf f c W (h.keep hB) fun W' fD=>zhk laws s wd rd LA CA MA DA WA RA GA c0 c1 c2 c3 c4 c5 c6 law frm hk hf f c W' ((h.keep hB).keep fD) (hd c hc));have jV:=zHi (fun W (hB:Below w.heap.size w W)=>sKids n W (h.keep hB) hf);have bV:(zai s n).length<=1000:=Nat.le_trans (zhT s.children n) hf.kids;rw[show zd2 s law.stems frm (f+1) n=(zai s n).filter (fun c=>(zcQ s law.stems frm f c).isSome) from rfl];unfold zd1;unfold Law.v at AJ⊢;generalize zai s n=ks at*;generalize hP:(fun c=>(zcQ s law.stems frm f c).isSome)=P at*;have Hv:Hid (∀c W,c∈ks->Below w.heap.size w W->Calls Tryz.prog 82 #[.agg #[.slice LA laws.length c0, .slice CA s.children.length c1, .slice MA s.marriages.length c2, .slice DA s.dead.length c3, .slice WA wd.length c4, .slice RA rd.length c5, .slice GA s.graves.length c6], .agg #[.int .i64 law.frm, .bool law.stems, .int .i64 law.num, .int .i64 law.den], .string c, .string frm] W (Ret W (.bool (P c)))):=zHi (by rw[<-hP];exact AJ.o);have eu:=zHi (fun k hk=>znr P ks (k:=k) hk);have nW:=zHi bV;clear hP AJ h hd bV;go_enter Tryz.func41,Tryz.ntmps41
  go_upto_region 1 with fail
  obtain⟨W0,ao⟩: ∃W0,W0=(w.alloc (.cells #[.slice LA laws.length c0, .slice CA s.children.length c1, .slice MA s.marriages.length c2, .slice DA s.dead.length c3, .slice WA wd.length c4, .slice RA rd.length c5, .slice GA s.graves.length c6] 40)).alloc (.cells #[.int .i64 law.frm, .bool law.stems, .int .i64 law.num, .int .i64 law.den] 95):=⟨_,rfl⟩
  have g0:W0.heap[w.heap.size]?=some (.cells #[.slice LA laws.length c0, .slice CA s.children.length c1, .slice MA s.marriages.length c2, .slice DA s.dead.length c3, .slice WA wd.length c4, .slice RA rd.length c5, .slice GA s.graves.length c6] 40):=MdF;have g1:W0.heap[w.heap.size+1]?=some (.cells #[.int .i64 law.frm, .bool law.stems, .int .i64 law.num, .int .i64 law.den] 95):=by rw[ao];exact zar _ _ _ Mco
  have aI:Below w.heap.size w W0:=McY;rw[<-ao];clear ao;obtain⟨d0,d1,d2,d3,d4,d5,d6⟩:=zaG g0;have l0:=zab g0;have l1:=zab g1;have ak:=zHi aI;go_upto_region 4 with(go_at_call 81;go_must(refine(jV.o _ Mde).mono ?_);rintro e w1 ⟨v1,rfl,o1,b1⟩)
  obtain⟨KA,kc,rfl,iq,_⟩:=o1.sl zaB;have G0:=zHi ((b1.block _ l0).trans g0);have G1:=zHi ((b1.block _ l1).trans g1);have aG:=zHi (aI.trans (b1.mono aI.size));have ii:=zHi iq;have im:=aG.o.size;have bh:w.heap.size+1<w1.heap.size:=Nat.lt_of_lt_of_le l1 b1.size;clear o1 b1 aI d0 d1 d2 d3 d4 d5 d6 g0 g1 iq jV l0 l1;go_loopw [10,11] (fun v i wr=> ∃k:Nat,k<=ks.length/\i= .int .i64 k/\OwnS wr w1.heap.size 9 1 sC v ((ks.take k).filter P)/\Below w1.heap.size w1 wr) (fun _ i _=>ks.length-(intOf i).toNat)
  case atStart=>exact⟨0,Nat.zero_le _,rfl,OwnS.nil,Below.refl _ _⟩
  case round=>
   obtain⟨k,hk,rfl,ae,hB⟩:=hrel;have iD:k<=1000:=by have:=nW.o;omega
   have aK:=hB.size;have HO:=zHi ae;have HB:=zHi hB;by_cases aa:k<ks.length
   ·have am:=eu.o k aa;have bI:=List.getElem_mem aa;have bK:((ks.take k).filter P).length<=1000:=by
     have h1:=List.length_filter_le P (ks.take k);rw[List.length_take]at h1;have:=nW.o;omega
    generalize(ks.take k).filter P=xs at*;obtain⟨VA,vc,rfl,_,kC⟩:=ae.sl zaB;obtain⟨b,off,rfl,hb,ah⟩:=(ii.o.keep hB).at aa;have aq:=zHi aa;generalize ks[k]=x at*;have i0:wr.cell? ⟨b,off+k,none⟩=some (.string x):=McM;obtain⟨d0,d1,d2,d3,d4,d5,d6⟩:=zaG ((hB.block _ Mcl).trans G0.o);have g1:=(hB.block _ Mcl).trans G1.o;obtain⟨e0,e1,e2,e3⟩:=cF4 g1;have ar:(k:Int)<(ks.length:Int):=Mcl;have aT:(0:Int)<=(k:Int):=Mcl;have fU:=zHi bK;have Ei:=zHi (aG.o.trans (hB.mono im));have lK:=zHi (fun W (hW:Below wr.heap.size wr W)=>Hv.o x W bI (Ei.o.trans (hW.mono Ei.o.size)));have cx:w.heap.size<wr.heap.size:=Mcl;have yw:w.heap.size+1<wr.heap.size:=Mcl;clear ah aa ae hB bK g1 bI;go_upto_region 6 with fail
    cases hp:P x
    ·have aB:Hid ((ks.take (k+1)).filter P=xs):=by show _=_;rw[am,hp];simp
     rw[hp]at lK;clear am hp
     (refine zaj Mcm Mcm ?_
      repeat(first|go_big_quiet_skip|(go_big_quiet_want;go_big_quiet_op;first|go_big_quiet_on|(apply Exists.intro;refine⟨fun _=> ?_,?_⟩;(go_at_call 82;exact quietx (lK.o _ Bw));go_big_quiet_on)))
      refine wpQuiet_nil ?_
      rintro _ ⟨zq,rfl⟩)
     go_wp2_with fail
     go_round
     case rel=>exact⟨k+1,aq.o,by go_num,by rw[aB.o];exact HO.o.keep (n:=wr.heap.size) (zam wr zq),zbc HB.o zq⟩
     case measure=>have:=aq.o;simp only[intOf];omega
    ·have aB:Hid ((ks.take (k+1)).filter P=xs++[x]):=by show _=_;rw[am,hp];rfl
     rw[hp]at lK;clear am hp
     (refine zaj Mcm Mcm ?_
      repeat(first|go_big_quiet_skip|(go_big_quiet_want;go_big_quiet_op;first|go_big_quiet_on|(apply Exists.intro;refine⟨fun _=> ?_,?_⟩;(go_at_call 82;exact quietx (lK.o _ Bw));go_big_quiet_on)))
      refine wpQuiet_nil ?_
      rintro _ ⟨zq,rfl⟩)
     go_wp2_with (at_builtin
                  go_loud(refine zav (v:= .slice VA xs.length vc) (n:=xs.length) (m:=1) rfl _ _ rfl zbK zaB zbJ rfl (xs:=xs) (ys:=[x]) (HO.o.keep (n:=wr.heap.size) Bw) rfl rfl rfl (zfT (zar _ _ _ MdB)) McU Mc8 Mcu ?_)
                  intro v3 w3 h1 h2 h3;have av:=Below.grown (B:=w1.heap.size) (a:=w1) (HB.o.trans (Below.mono (B:=wr.heap.size) (zac (zam wr zq) _) aK)) h2 Mcu (fun j hj=>(HO.o.ge j hj).1);have H1:=zHi h1;have aJ:=zHi av
                  clear h1 h2 h3 av)
     exact Maj
   ·have ar: ¬(k:Int)<(ks.length:Int):=Mcl;rw[List.take_of_length_le Mcl]at HO ae;obtain⟨VA,vc,rfl,_,_⟩:=ae.sl zaB;clear ae hB;go_wp2_with fail
    go_ret
    exact⟨.slice VA (ks.filter P).length vc,rfl,HO.o.base_le im,aG.o.trans (HB.o.mono im)⟩
def zeI (share:Rat) (T:List Tree) (out:Parts):Option Parts:=if bigQ (share*(1/(T.length:Rat)))then none else zbD (share*(1/(T.length:Rat))) T out
theorem zh1 (a:Rat) (n:Nat):a/(n:Rat)=a*(1/(n:Rat)):=by grind
theorem tree_node {each:Rat} {l:List Tree} {out:Parts}:zei each (.node l) out=zeI each l out:=by
 rw[zei,zeI,zh1]
mutual
theorem zgG {each:Rat} {L:List ByteArray}: ∀ {l:List Tree} {out o:Parts},zbD each l out=some o->zc7 L l->zcm out L->zcm o L
 | [],out,o,h,_,hn=>by
   rw[zbD]at h;cases h;exact hn
 |x::l,out,o,h,hl,hn=>by
  rw[zc7]at hl;rw[zbD]at h;cases ht:zei each x out with
  |none=>rw[ht]at h;cases h
  |some o1=>
   rw[ht]at h;exact zgG (l:=l) h hl.2 (ziX ht hl.1 hn)
theorem ziX {each:Rat} {L:List ByteArray}: ∀ {x:Tree} {out o:Parts},zei each x out=some o->zfl L x->zcm out L->zcm o L
 | .leaf n,out,o,h,hl,hn=>by
   rw[zfl]at hl;rw[zei]at h;split at h
   ·cases h
   ·cases h;intro p hp;rcases zeV hp with e|hp
    ·rw[e];exact hl
    ·exact hn p hp
 | .node l,out,o,h,hl,hn=>by
   rw[zfl]at hl;rw[zei]at h;split at h
   ·cases h
   ·exact zgG (l:=l) h hl hn
end
theorem zgH {out:Parts} {L:List ByteArray} (hg:GoodParts out) (h:zcm out L):out.length<=L.length:=by
 haveI:DecidableEq ByteArray:=fun a b=>Classical.propDecidable _
 have hn:(out.map (·.1)).Nodup:=by
  rw[List.nodup_iff_pairwise_ne,List.pairwise_map];exact hg.asc.imp fun h=>zcG h
 have:=ziL hn (m:=L) fun x hx=>by
  obtain⟨p,hp,rfl⟩:=List.mem_map.1 hx;exact h p hp
 simpa using this
theorem ziY {out:Parts} {L:List ByteArray} {n:ByteArray} {q:Rat} (h:zcm out L) (hn:n∈L):zcm (za3 out n q) L:=fun p hp=>by
 rcases zeV hp with e|hp
 ·rw[e];exact hn
 ·exact h p hp
theorem zoe {α β:Type} (g:α->Option β): ∀(l:List α) (k:Nat) (x:α),(l.filter fun x=>(g x).isSome)[k]?=some x->x∈l/\ ∃t,g x=some t/\(l.filterMap g)[k]?=some t
 | [],k,x,h=>by simp at h
 |y::l,k,x,h=>by
  cases hg:g y with
  |none=>
   rw[List.filter_cons_of_neg (by simp[hg])]at h;rw[List.filterMap_cons_none hg];exact MbK
  |some t=>
   rw[List.filter_cons_of_pos (by simp[hg])]at h;rw[List.filterMap_cons_some hg];cases k with
   |zero=>
    obtain rfl:y=x:=by simpa using h
    exact⟨by simp,t,hg,rfl⟩
   |succ k=>
    exact MbK
structure Hd (out:Parts) (L:List ByteArray):Prop where
 good:GoodParts out
 small:zaE out=false
 names:zcm out L
theorem Hd.parts {out:Parts} {L:List ByteArray} (h:Hd out L) (hs:sumQ out<=1): ∀p∈out,zaK p.2:=fun p hp=>(zdH (hs:=out) ⟨h.good,h.small,hs⟩ hp).2.2
def SprPost (w:World) (R:Option Parts) (e:Ending) (w':World):Prop:=
 ∃(A:Option Addr) (c:Nat) (xs:Parts),e= .returned (.slice A xs.length c)/\Sl w' 3 zaa A xs/\Below w.heap.size w w'/\xs.length<=100000/\(R=some xs\/(R=none/\zaE xs=true))
theorem zka {L:List ByteArray}: ∀ {T:List Tree},zc7 L T-> ∀t∈T,zfl L t
 | [],_,t,ht=>by cases ht
 |x::T,h,t,ht=>by
  rw[zc7]at h;rcases List.mem_cons.1 ht with rfl|ht
  ·exact h.1
  ·exact zka h.2 t ht
theorem ziZ (laws:List Law) (s:St) (wd rd:List Deed) (LA CA MA DA WA RA GA:Option Addr) (c0 c1 c2 c3 c4 c5 c6:Nat) (law:Law) (frm:ByteArray) (L:List ByteArray) (hk:StLink s wd rd) (hf:StFew s wd rd) (hL: ∀c∈s.children,c.2∈L) (tx:L.length<=90000):
 ∀(f:Nat) (n:ByteArray) (share:Rat) (A:Option Addr) (c:Nat) (out:Parts) (w:World),StIn w laws s wd rd LA CA MA DA WA RA GA c0 c1 c2 c3 c4 c5 c6->Deep s f n->Sl w 3 zaa A out->Hd out L->0<=share->zaK share->sumQ out+share<=1->0<(zd2 s law.stems frm f n).length->
 Calls Tryz.prog 43 #[.agg #[.slice LA laws.length c0, .slice CA s.children.length c1, .slice MA s.marriages.length c2, .slice DA s.dead.length c3, .slice WA wd.length c4, .slice RA rd.length c5, .slice GA s.graves.length c6],law.v, .string n, .string frm,za9 share, .slice A out.length c] w (SprPost w (zeI share (zb2 s law.stems frm f n) out))
 |0,n,_,_,_,_,w,_,hd,_,_,_,_,_,_=>hd.elim
 |f+1,n,share,A,c,out,w,h,hd,hS,hH,aw,sB,dP,ai=>by
  have cY:=zHi (fun W (hB:Below w.heap.size w W)=>zhk laws s wd rd LA CA MA DA WA RA GA c0 c1 c2 c3 c4 c5 c6 law frm hk hf (f+1) n W (h.keep hB) hd);have fH:=zHi (fun x W (hB:Below w.heap.size w W)=>sAble x frm W (h.keep hB) hk hf);have qy:=zHi (fun(x:ByteArray) (hx:x∈zai s n) (share:Rat) (A:Option Addr) (c:Nat) (out:Parts) (W:World) (hB:Below w.heap.size w W)=>ziZ laws s wd rd LA CA MA DA WA RA GA c0 c1 c2 c3 c4 c5 c6 law frm L hk hf hL tx f x share A c out W (h.keep hB) (hd x hx));have fq:=zgF s law.stems frm (f+1) n;have bV:(zd2 s law.stems frm (f+1) n).length<=1000:=Nat.le_trans (List.length_filter_le _ _) (Nat.le_trans (zhT s.children n) hf.kids);have gX:=fun k x hx=>zoe (zcQ s law.stems frm f) (zai s n) k x hx
  rw[<-show zd2 s law.stems frm (f+1) n=(zai s n).filter (fun c=>(zcQ s law.stems frm f c).isSome) from rfl,<-zf7]at gX;have bp:=zkj s law.stems frm (f+1) n;have si:=zfm (stems:=law.stems) (frm:=frm) hL (f+1) n;unfold zeI;rw[fq];obtain⟨cu,fG,FQ,FR⟩:=zhO ai;have mN:=zl4 ai bV;have jb:=zHi (fun W=>zg6 share (1/((zd2 s law.stems frm (f+1) n).length:Rat)) W sB mN);unfold za9 at jb qy⊢;rw[cu,fG]at jb;have gH:share*(1/((zd2 s law.stems frm (f+1) n).length:Rat))*((zd2 s law.stems frm (f+1) n).length:Rat)=share:=by
   have:=ratN (Nat.pos_iff_ne_zero.1 ai);grind
  have Fv:0<=share*(1/((zd2 s law.stems frm (f+1) n).length:Rat)):=Rat.mul_nonneg aw FQ;have py:share*(1/((zd2 s law.stems frm (f+1) n).length:Rat))<=share:=by
   have:=Rat.mul_le_mul_of_nonneg_left FR aw;rwa [Rat.mul_one]at this
  generalize zd2 s law.stems frm (f+1) n=ls at*;generalize zb2 s law.stems frm (f+1) n=T at*;generalize share*(1/(ls.length:Rat))=each at*;obtain⟨R,hR⟩: ∃R,R=if bigQ each then none else zbD each T out:=⟨_,rfl⟩
  rw[<-hR];have HR:=zHi hR;have HS:=zHi hS;have GD:=zHi gX;have nV:=zHi hH;have ux:=zHi Fv;have u7:0<=sumQ out:=zbr fun p hp=>by have:=hH.good.pos p hp;grind
  have eT:Hid (each<=1):=by show _<=_;grind
  have t8:Hid (sumQ out+each*(ls.length:Rat)<=1):=by show _<=_;rw[gH];exact dP
  have lJ:=zHi fq;have nW:=zHi bV;have dm:=zHi bp;have Hw:=zHi si;unfold Law.v at cY qy⊢;unfold SprPost;clear h hd hS hH sB dP fq bV gX bp si cu fG FQ FR mN gH Fv py hR u7 aw;go_enter Tryz.func43,Tryz.ntmps43
  go_upto_region 1 with fail
  obtain⟨W0,ao⟩: ∃W0,W0=((w.alloc (.cells #[.slice LA laws.length c0, .slice CA s.children.length c1, .slice MA s.marriages.length c2, .slice DA s.dead.length c3, .slice WA wd.length c4, .slice RA rd.length c5, .slice GA s.graves.length c6] 40)).alloc (.cells #[.int .i64 law.frm, .bool law.stems, .int .i64 law.num, .int .i64 law.den] 95)).alloc (.cells #[.int .i64 share.num, .int .i64 share.den] 58):=⟨_,rfl⟩
  have g0:W0.heap[w.heap.size]?=some (.cells #[.slice LA laws.length c0, .slice CA s.children.length c1, .slice MA s.marriages.length c2, .slice DA s.dead.length c3, .slice WA wd.length c4, .slice RA rd.length c5, .slice GA s.graves.length c6] 40):=Mdo;have g1:W0.heap[w.heap.size+1]?=some (.cells #[.int .i64 law.frm, .bool law.stems, .int .i64 law.num, .int .i64 law.den] 95):=by rw[ao];exact zak (zar _ _ _ Mco)
  have g2:W0.heap[w.heap.size+2]?=some (.cells #[.int .i64 share.num, .int .i64 share.den] 58):=by rw[ao];exact zar _ _ _ Mco
  have aI:Below w.heap.size w W0:=McY;rw[<-ao];clear ao;have l2:=zab g2;have ak:=zHi aI;have lY:=aI.size
  have ax:=zHi (fun W (hB:Below W0.heap.size W0 W)=>(show(W.cell? ⟨w.heap.size,0,none⟩=some (.slice LA laws.length c0)/\W.cell? ⟨w.heap.size,1,none⟩=some (.slice CA s.children.length c1)/\W.cell? ⟨w.heap.size,2,none⟩=some (.slice MA s.marriages.length c2)/\W.cell? ⟨w.heap.size,3,none⟩=some (.slice DA s.dead.length c3)/\W.cell? ⟨w.heap.size,4,none⟩=some (.slice WA wd.length c4)/\W.cell? ⟨w.heap.size,5,none⟩=some (.slice RA rd.length c5)/\W.cell? ⟨w.heap.size,6,none⟩=some (.slice GA s.graves.length c6))/\(W.cell? ⟨w.heap.size+1,0,none⟩=some (.int .i64 law.frm)/\W.cell? ⟨w.heap.size+1,1,none⟩=some (.bool law.stems)/\W.cell? ⟨w.heap.size+1,2,none⟩=some (.int .i64 law.num)/\W.cell? ⟨w.heap.size+1,3,none⟩=some (.int .i64 law.den))/\(W.cell? ⟨w.heap.size+2,0,none⟩=some (.int .i64 share.num)/\W.cell? ⟨w.heap.size+2,1,none⟩=some (.int .i64 share.den)) from by
   have x0:=(hB.block _ Mcl).trans g0;have x1:=(hB.block _ Mcl).trans g1;have x2:=(hB.block _ l2).trans g2
   refine⟨zaG x0,⟨?_,?_,?_,?_⟩,zba x2⟩<;>(simp only[World.cell?,x1];rfl)))
  obtain⟨⟨d0,d1,d2,d3,d4,d5,d6⟩,⟨e0,e1,e2,e3⟩,q0,q1⟩:=ax.o W0 (Below.refl _ _);clear g0 g1 g2 aI;go_upto_region 3 with(go_at_call 41;go_must(refine(cY.o _ Mde).mono ?_);rintro e w1 ⟨v1,rfl,o1,b1⟩)
  obtain⟨KA,kc,rfl,iq,_⟩:=o1.sl zaB;have aG:=zHi b1;have ii:=zHi iq;have im:=b1.size;clear o1 b1 iq cY d0 d1 d2 d3 d4 d5 d6 e0 e1 e2 e3 q0 q1;go_loopw [5,14,15] (fun v i _ wr=> ∃(k:Nat) (ys:Parts) (YA:Option Addr) (yc:Nat),k<=ls.length/\v= .slice YA ys.length yc/\i= .int .i64 k/\Hid (R=if bigQ each then none else zbD each (T.drop k) ys)/\Hid (Hd ys L)/\Hid (sumQ ys+each*((ls.length-k:Nat):Rat)<=1)/\(0<k->bigQ each=false)/\Sl wr 3 zaa YA ys/\Below w1.heap.size w1 wr) (fun _ i _ _=>ls.length-(intOf i).toNat)
  case atStart=>exact⟨0,out,A,c,Nat.zero_le _,rfl,rfl,zHi (by rw[List.drop_zero];exact HR.o),nV,zHi (by rw[Nat.sub_zero];exact t8.o),fun h=>absurd h Mcl,(HS.o.keep ak.o).keep aG.o,Below.refl _ _⟩
  case round=>
   obtain⟨k,zs,ZA,zc,hk,rfl,rfl,HX,HZ,zf,kh,hZ,hB⟩:=hrel;have iD:k<=1000:=by have:=nW.o;omega
   have aK:=hB.size;have HB:=zHi hB;have BC:=zHi hZ;have cy:=aG.o.trans (hB.mono im);by_cases aa:k<ls.length
   ·obtain⟨ug,t,cN,iZ⟩:=GD.o k ls[k] (List.getElem?_eq_getElem aa);obtain⟨b,off,rfl,hb,ah⟩:=(ii.o.keep hB).at aa;generalize ls[k]=x at*;have i0:wr.cell? ⟨b,off+k,none⟩=some (.string x):=McM;have oR:t∈T:=List.mem_of_getElem? iZ;have gF:T.drop k=t::T.drop (k+1):=by
     have h1:=(List.getElem?_eq_some_iff.1 iZ)
     rw[List.drop_eq_getElem_cons h1.1,h1.2]
    have mx:((ls.length-k:Nat):Rat)=((ls.length-(k+1):Nat):Rat)+1:=by
     rw[show ls.length-k=(ls.length-(k+1))+1 by omega];exact zgz _
    have ia:0<=each*((ls.length-(k+1):Nat):Rat):=Rat.mul_nonneg ux.o Rat.natCast_nonneg;have yF:sumQ zs+each<=1:=by have:=zf.o;rw[mx]at this;grind
    have hx:=HX.o;rw[gF,zbD]at hx;obtain⟨R1,vW⟩: ∃R1,R1=zei each t zs:=⟨_,rfl⟩
    rw[<-vW]at hx
    have jW:Hid (∀ys,R1=some ys->bigQ each=false->Hid (R=if bigQ each then none else zbD each (T.drop (k+1)) ys)/\Hid (Hd ys L)/\Hid (sumQ ys+each*((ls.length-(k+1):Nat):Rat)<=1)):=zHi (fun ys h1 h2=>by
     rw[vW]at h1;have hg:=zig ux.o HZ.o.good HZ.o.small h1;refine⟨zHi (by rw[hx,vW,h1];rfl),zHi ⟨hg.1,hg.2,ziX h1 (zka Hw.o t oR) HZ.o.names⟩,zHi ?_⟩;have h3:=zn2 (zmr.1 dm.o t oR) h1;have h4:=zf.o;rw[mx]at h4;rw[h3]
     grind)
    have ng:Hid (R1=none->R=none):=zHi (fun h1=>by rw[hx,h1];split<;>rfl);have ar:(k:Int)<(ls.length:Int):=Mcl;have aT:(0:Int)<=(k:Int):=Mcl;obtain⟨⟨d0,d1,d2,d3,d4,d5,d6⟩,⟨e0,e1,e2,e3⟩,q0,q1⟩:=ax.o wr cy;have yw:w.heap.size+2<wr.heap.size:=Mcl;have aq:=zHi aa;have bu:=zHi ug;have Il:=zHi cN;have jI:=zHi vW;have zd:=zHi yF;have aW:=zHi cy;clear ah hB hZ hx gF mx ia yF oR iZ cN vW ug cy aa;go_upto_region 6 with(go_at_call 42;go_must(refine(jb.o _).mono ?_);rintro e wq ⟨rfl,z,rfl⟩)
    obtain⟨E,hE⟩: ∃E,E=wr.heap.size+z.os.size:=⟨_,rfl⟩
    obtain⟨WE,zC⟩: ∃WE,WE=(wr.ext z).alloc (.cells #[.int .i64 each.num, .int .i64 each.den] 58):=⟨_,rfl⟩
    have gE:WE.heap[E]?=some (.cells #[.int .i64 each.num, .int .i64 each.den] 58):=by rw[zC];exact zar _ _ _ (by rw[hE];simp[zag])
    have rE:Below wr.heap.size wr WE:=by rw[zC];exact zac (zam wr z) _
    rw[<-zC,<-hE];clear zC hE d0 d1 d2 d3 d4 d5 d6 e0 e1 e2 e3 q0 q1;obtain⟨v0,v1⟩:=zba gE;have EJ:=rE.size;have EI:=zab gE
    have bY:=zHi (fun W (h:Below WE.heap.size WE W)=>(show((W.cell? ⟨w.heap.size,0,none⟩=some (.slice LA laws.length c0)/\W.cell? ⟨w.heap.size,1,none⟩=some (.slice CA s.children.length c1)/\W.cell? ⟨w.heap.size,2,none⟩=some (.slice MA s.marriages.length c2)/\W.cell? ⟨w.heap.size,3,none⟩=some (.slice DA s.dead.length c3)/\W.cell? ⟨w.heap.size,4,none⟩=some (.slice WA wd.length c4)/\W.cell? ⟨w.heap.size,5,none⟩=some (.slice RA rd.length c5)/\W.cell? ⟨w.heap.size,6,none⟩=some (.slice GA s.graves.length c6))/\(W.cell? ⟨w.heap.size+1,0,none⟩=some (.int .i64 law.frm)/\W.cell? ⟨w.heap.size+1,1,none⟩=some (.bool law.stems)/\W.cell? ⟨w.heap.size+1,2,none⟩=some (.int .i64 law.num)/\W.cell? ⟨w.heap.size+1,3,none⟩=some (.int .i64 law.den))/\W.cell? ⟨b,off+k,none⟩=some (.string x)/\W.cell? ⟨E,0,none⟩=some (.int .i64 each.num)/\W.cell? ⟨E,1,none⟩=some (.int .i64 each.den)) from by
     have hw:=ax.o W (aW.o.trans ((rE.trans (h.mono EJ)).mono aW.o.size))
     exact⟨hw.1,hw.2.1,(zah (rE.trans (h.mono EJ)) hb).trans i0,(zah h EI).trans v0,(zah h EI).trans v1⟩))
    have q9:=zHi (HB.o.trans (rE.mono aK));have ly:=zHi (aW.o.trans (rE.mono aW.o.size));have Eo:=zHi (BC.o.keep rE);clear gE rE i0 BC;by_cases hbig:bigQ each=true
    ·have dp:1000000000<(each.den:Int):=by unfold bigQ at hbig;simpa using hbig
     have pe:Hid (R=none):=by show _=_;rw[HX.o,if_pos hbig]
     have GE:=zHi hbig;clear hbig;go_wp2_with fail
     go_ret
     exact⟨_,_,[((⟨#[]⟩:ByteArray),each)],rfl,zdd (zar _ _ _ rfl),ak.o.trans ((zac ly.o _).mono lY),by simp, .inr ⟨pe.o,by simp[zaE,GE.o]⟩⟩
    ·have ki:bigQ each=false:=by simpa using hbig
     have dp: ¬1000000000<(each.den:Int):=by unfold bigQ at ki;simpa using ki
     have Gg:=zcb ux.o eT.o ki;have uQ:=zHi (fun ys h=>jW.o ys h ki);have An:=zHi ki;have yY:=zHi Gg;have kF:=zHi (fun W (h:Below WE.heap.size WE W)=>fH.o x W (ak.o.trans ((ly.o.trans (h.mono ly.o.size)).mono lY)));obtain⟨⟨d0,d1,d2,d3,d4,d5,d6⟩,⟨e0,e1,e2,e3⟩,j0,v0,v1⟩:=bY.o WE (Below.refl _ _);have hwE:w.heap.size<WE.heap.size:=Mcl;have Jr:b<WE.heap.size:=Mcl;clear ki hbig Gg jW HX;go_upto_region 8 with fail
     have dI:=Il.o;unfold zcQ at dI;cases cI:zdU s x frm
     ·rw[cI]at kF dI;simp only[Bool.false_eq_true,if_false]at dI;have ht:t= .node (zb2 s law.stems frm f x)/\0<(zd2 s law.stems frm f x).length:=by
       split at dI
       ·rename_i h
        cases dI;refine⟨rfl,?_⟩;rw[<-zgF];rw[Bool.and_eq_true]at h;cases hT:zb2 s law.stems frm f x with
        |nil=>rw[hT]at h;simp at h
        |cons=>simp
       ·cases dI
      have uZ:=zHi (fun W (h:Below WE.heap.size WE W)=>qy.o x bu.o each ZA zc zs W (ak.o.trans ((ly.o.trans (h.mono ly.o.size)).mono lY)) (Eo.o.keep h) HZ.o ux.o yY.o zd.o ht.2);have fR:R1=zeI each (zb2 s law.stems frm f x) zs:=by rw[jI.o,ht.1,tree_node]
      rw[<-fR]at uZ;clear fR ht dI cI
      (refine zaj Mcm Mcm ?_
       repeat(first|go_big_quiet_skip|(go_big_quiet_want;go_big_quiet_op;first|go_big_quiet_on|(apply Exists.intro;refine⟨fun _=> ?_,?_⟩;(go_at_call 37;exact quietx (kF.o _ Bw));go_big_quiet_on)))
       refine wpQuiet_nil ?_
       rintro _ ⟨zq,rfl⟩)
      obtain⟨WQ,ou⟩: ∃WQ,WQ=WE.ext zq:=⟨_,rfl⟩
      have mj:Below WE.heap.size WE WQ:=Mel;rw[<-ou];clear ou;go_upto_region 10 with fail
      refine zaC 9 (fun bb w'=>bb=true\/((w'.cell? ⟨w.heap.size,0,none⟩=some (.slice LA laws.length c0)/\w'.cell? ⟨w.heap.size,1,none⟩=some (.slice CA s.children.length c1)/\w'.cell? ⟨w.heap.size,2,none⟩=some (.slice MA s.marriages.length c2)/\w'.cell? ⟨w.heap.size,3,none⟩=some (.slice DA s.dead.length c3)/\w'.cell? ⟨w.heap.size,4,none⟩=some (.slice WA wd.length c4)/\w'.cell? ⟨w.heap.size,5,none⟩=some (.slice RA rd.length c5)/\w'.cell? ⟨w.heap.size,6,none⟩=some (.slice GA s.graves.length c6))/\(w'.cell? ⟨w.heap.size+1,0,none⟩=some (.int .i64 law.frm)/\w'.cell? ⟨w.heap.size+1,1,none⟩=some (.bool law.stems)/\w'.cell? ⟨w.heap.size+1,2,none⟩=some (.int .i64 law.num)/\w'.cell? ⟨w.heap.size+1,3,none⟩=some (.int .i64 law.den))/\w'.cell? ⟨b,off+k,none⟩=some (.string x)/\w'.cell? ⟨E,0,none⟩=some (.int .i64 each.num)/\w'.cell? ⟨E,1,none⟩=some (.int .i64 each.den))) Mcm (.inr (bY.o _ (zaM mj))) ?hrest
      case hrest=>
       intro hHeld;refine TkM 0 ?_;refine TkM 1 ?_;refine TkM 2 ?_;refine TkM 3 ?_;refine TkM 4 ?_;refine TkM 5 ?_;refine TkM 6 ?_;refine TkM 7 ?_;refine TkM 8 ?_;refine OnM 9 true fun K hK=> ?_
       go_simp
       refine(uZ.o _ (zaM mj)).mono ?_;rintro e w5 ⟨YA,yc,ys,rfl,wk,Ch,Jm,Jn⟩;refine NxM hK fun hHeld=> ?_
       clear hK K;refine OnM 10 true fun K hK=> ?_
       go_simp
       refine NxM hK fun hHeld=> ?_
       clear hK K;refine zaQ Mcm ?_ _;clear hHeld;have Be:=zHi Jn;have nt:=zHi Jm;exact My
     ·rw[cI]at kF dI;simp only[if_true]at dI;have ht:t= .leaf x:=by cases dI;rfl
      have yE:=zgH HZ.o.good HZ.o.names;have uZ:=zHi (fun W (h:Below WE.heap.size WE W)=>zcR zs x each ZA zc W Mcl (HZ.o.parts (by have:=zd.o;have:=ux.o;grind)) yY.o (Eo.o.keep h));have fR:R1=if zaE (za3 zs x each)then none else some (za3 zs x each):=by rw[jI.o,ht,zei]
      have Be:Hid (R1=some (za3 zs x each)\/(R1=none/\zaE (za3 zs x each)=true)):=zHi (by
       rw[fR];cases h:zaE (za3 zs x each)
       ·exact .inl rfl
       ·exact .inr ⟨rfl,rfl⟩)
      have nt:Hid ((za3 zs x each).length<=100000):=zHi (by have:=zcy x each zs;omega);generalize za3 zs x each=ys at*;unfold za9 at uZ;clear fR ht dI cI yE
      (refine zaj Mcm Mcm ?_
       repeat(first|go_big_quiet_skip|(go_big_quiet_want;go_big_quiet_op;first|go_big_quiet_on|(apply Exists.intro;refine⟨fun _=> ?_,?_⟩;(go_at_call 37;exact quietx (kF.o _ Bw));go_big_quiet_on)))
       refine wpQuiet_nil ?_
       rintro _ ⟨zq,rfl⟩)
      obtain⟨WQ,ou⟩: ∃WQ,WQ=WE.ext zq:=⟨_,rfl⟩
      have mj:Below WE.heap.size WE WQ:=Mel;rw[<-ou];clear ou;go_upto_region 9 with fail
      refine zaC 6 (fun bb w'=>bb=true\/((w'.cell? ⟨w.heap.size,0,none⟩=some (.slice LA laws.length c0)/\w'.cell? ⟨w.heap.size,1,none⟩=some (.slice CA s.children.length c1)/\w'.cell? ⟨w.heap.size,2,none⟩=some (.slice MA s.marriages.length c2)/\w'.cell? ⟨w.heap.size,3,none⟩=some (.slice DA s.dead.length c3)/\w'.cell? ⟨w.heap.size,4,none⟩=some (.slice WA wd.length c4)/\w'.cell? ⟨w.heap.size,5,none⟩=some (.slice RA rd.length c5)/\w'.cell? ⟨w.heap.size,6,none⟩=some (.slice GA s.graves.length c6))/\(w'.cell? ⟨w.heap.size+1,0,none⟩=some (.int .i64 law.frm)/\w'.cell? ⟨w.heap.size+1,1,none⟩=some (.bool law.stems)/\w'.cell? ⟨w.heap.size+1,2,none⟩=some (.int .i64 law.num)/\w'.cell? ⟨w.heap.size+1,3,none⟩=some (.int .i64 law.den))/\w'.cell? ⟨b,off+k,none⟩=some (.string x)/\w'.cell? ⟨E,0,none⟩=some (.int .i64 each.num)/\w'.cell? ⟨E,1,none⟩=some (.int .i64 each.den))) Mcm (.inr (bY.o _ (zaM mj))) ?hrest
      case hrest=>
       intro hHeld;refine TkM 0 ?_;refine TkM 1 ?_;refine TkM 2 ?_;refine TkM 3 ?_;refine TkM 4 ?_;refine TkM 5 ?_;refine OnM 6 true fun K hK=> ?_
       go_simp
       refine(uZ.o _ (zaM mj)).mono ?_;rintro e w5 ⟨v5,rfl,o5,Ch⟩;obtain⟨YA,yc,rfl,wk,_⟩:=o5.sl zan;refine NxM hK fun hHeld=> ?_
       clear hK K;refine OnM 7 true fun K hK=> ?_
       go_simp
       refine NxM hK fun hHeld=> ?_
       clear hK K;refine zaQ Mcm ?_ _;clear hHeld;exact My
   ·have ar: ¬(k:Int)<(ls.length:Int):=Mcl;have hx:=HX.o;have oE:k=ls.length:=Mcl;rw[kh Mcl,List.drop_of_length_le (by rw[lJ.o];omega),zbD]at hx;have cm:Hid (R=some zs):=Md0;have Iz:=zHi (zgH HZ.o.good HZ.o.names);have aW:=zHi cy;clear hx oE hB hZ cy;go_wp2_with fail
    go_ret
    exact⟨ZA,zc,zs,rfl,BC.o,ak.o.trans (aW.o.mono lY),by have:=Iz.o;omega, .inl cm.o⟩
end Go.Proofs.YtckkbkdcdkhglaaGreatDoor
