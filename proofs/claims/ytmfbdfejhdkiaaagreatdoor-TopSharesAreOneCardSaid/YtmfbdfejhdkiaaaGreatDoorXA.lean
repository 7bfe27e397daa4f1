/- Walk of the reference's spread. -/
import Derived.Test.YtmfbdfejhdkiaaaGreatDoorWX
set_option linter.all false
set_option maxRecDepth 100000
set_option maxHeartbeats 4000000
namespace Go.Proofs.YtmfbdfejhdkiaaaGreatDoor
open Go.RowKit Go.Shelf
attribute [local go_sem] World.cell?_alloc_mark zae za4 zao za8 zav zaw zax zay zaz za0 za1
attribute [local go_sem] zap zac
structure Srch (cs:List (ByteArray×ByteArray)) (nm:ByteArray) (all:List ByteArray) (i:Nat):Prop where
 desc:∀y∈all,Relation.TransGen (fun x y=>y∈zdj cs x) nm y
 mine:∀c∈zdj cs nm,c∈all
 done:∀y∈all.take i,∀c∈zdj cs y,c∈all
 few:∃n,n<=(zdj cs nm).length/\(all.drop n).Nodup/\n<=all.length
theorem zhX(cs:List (ByteArray×ByteArray))(n:ByteArray):(zdj cs n).length<=cs.length:=by
 unfold zdj;exact MbC
theorem ziP{cs:List (ByteArray×ByteArray)}{n c:ByteArray}(h:c∈zdj cs n):c∈cs.map (·.2):=by
 unfold zdj at h;obtain⟨p,hp,rfl⟩:=List.mem_map.1 h;exact List.mem_map_of_mem (List.mem_filter.1 hp).1
theorem Srch.len{cs:List (ByteArray×ByteArray)}{nm:ByteArray}{all:List ByteArray}{i:Nat}(h:Srch cs nm all i):all.length<=2*cs.length:=by
 obtain⟨n,h1,h2,h3⟩:=h.few;have h4:=zhX cs nm;haveI:DecidableEq ByteArray:=fun a b=>Classical.propDecidable _
 have h5:(all.drop n).length<=(cs.map (·.2)).length:=zkj h2 fun y hy=>by
  cases h.desc y (List.mem_of_mem_drop hy)with
  |single h=>exact ziP h
  |tail _ h=>exact ziP h
 rw[List.length_drop,List.length_map]at h5;omega
theorem zoY(cs:List (ByteArray×ByteArray))(nm:ByteArray):Srch cs nm (zdj cs nm) 0:=
 ⟨fun y hy=> .single hy,fun c h=>h,by simp,(zdj cs nm).length,Qc,by simp,Qc⟩
theorem srch_end{cs:List (ByteArray×ByteArray)}{nm:ByteArray}{all:List ByteArray}{i:Nat}(h:Srch cs nm all i)(hi:all.length<=i)(y:ByteArray):y∈all↔Relation.TransGen (fun x y=>y∈zdj cs x) nm y:=by
 refine⟨h.desc y,fun hd=>?_⟩;have jV:=h.done;rw[List.take_of_length_le hi]at jV;induction hd with
 |single h1=>exact h.mine _ h1
 |tail _ h1 ih=>exact jV _ ih _ h1
def zdh(all more:List ByteArray):List ByteArray:=more.foldl (fun a c=>if a.any (zaf c)then a else a++[c]) all
theorem zne{all more:List ByteArray}{k:Nat}(h:k<more.length):zdh all (more.take (k+1))=if(zdh all (more.take k)).any (zaf more[k])then zdh all (more.take k)else zdh all (more.take k)++[more[k]]:=by
 unfold zdh;rw[List.take_add_one,List.getElem?_eq_getElem h,List.foldl_append];rfl
theorem zfF:∀(more all:List ByteArray),∃t,zdh all more=all++t/\(∀c∈t,c∈more)/\(∀c∈more,c∈zdh all more)/\(∀n,n<=all.length->(all.drop n).Nodup->(∀c∈t,c∉all)/\((zdh all more).drop n).Nodup)
 | [],all=>⟨[],by simp[zdh],by simp,by simp,fun n _ h=>⟨by simp,h⟩⟩
 |c::more,all=>by
  have e:zdh all (c::more)=zdh (if all.any (zaf c)then all else all++[c]) more:=rfl;rw[e];split
  ·rename_i hc
   obtain⟨t,h1,h2,h3,h4⟩:=zfF more all;refine⟨t,h1,fun x hx=>List.mem_cons_of_mem _ (h2 x hx),fun x hx=>?_,h4⟩;rcases List.mem_cons.1 hx with rfl|hx
   ·rw[h1];exact List.mem_append_left _ (zf1.1 hc)
   ·exact h3 x hx
  ·rename_i hc
   have aI:c∉all:=fun h=>hc (zf1.2 h)
   obtain⟨t,h1,h2,h3,h4⟩:=zfF more (all++[c]);refine⟨c::t,by rw[h1];simp,fun x hx=>?_,fun x hx=>?_,fun n hn cR=>?_⟩
   ·rcases List.mem_cons.1 hx with rfl|hx
    ·simp
    ·exact List.mem_cons_of_mem _ (h2 x hx)
   ·rcases List.mem_cons.1 hx with rfl|hx
    ·rw[h1];simp
    ·exact h3 x hx
   ·have hd:((all++[c]).drop n).Nodup:=by
     rw[List.drop_append_of_le_length hn]
     exact List.nodup_append.2 ⟨cR,by simp,fun a ha b hb e=>by
      rw[List.mem_singleton.1 hb]at e
      exact aI (e▸List.mem_of_mem_drop ha)⟩
    obtain⟨h5,h6⟩:=h4 n Mcw hd;refine⟨fun x hx=>?_,h6⟩;rcases List.mem_cons.1 hx with rfl|hx
    ·exact aI
    ·exact fun h=>h5 x hx (List.mem_append_left _ h)
theorem srch_next{cs:List (ByteArray×ByteArray)}{nm:ByteArray}{all:List ByteArray}{i:Nat}(h:Srch cs nm all i)(hi:i<all.length):Srch cs nm (zdh all (zdj cs all[i])) (i+1):=by
 obtain⟨t,h1,h2,h3,h4⟩:=zfF (zdj cs all[i]) all;obtain⟨n,f1,f2,f3⟩:=h.few;have h5:=(h4 n f3 f2).2;rw[h1]at h3 h5⊢;refine⟨fun y hy=>?_,fun c hc=>List.mem_append_left _ (h.mine c hc),fun y hy c hc=>?_,n,f1,h5,by simp;omega⟩
 ·rcases List.mem_append.1 hy with hy|hy
  ·exact h.desc y hy
  ·exact .tail (h.desc _ (List.getElem_mem hi)) (h2 y hy)
 ·rw[List.take_append_of_le_length Mcq,List.take_add_one,List.getElem?_eq_getElem hi]at hy;rcases List.mem_append.1 hy with hy|hy
  ·exact List.mem_append_left _ (h.done y hy c hc)
  ·obtain rfl:y=all[i]:=by simpa using hy
   exact h3 c hc
def DescR(w:World)(cs:List (ByteArray×ByteArray))(nm:ByteArray)(e:Ending)(w':World):Prop:=
 ∃v ys,e=.returned v/\OwnS w' w.heap.size 9 1 sC v ys/\(∀y,y∈ys↔Relation.TransGen (fun x y=>y∈zdj cs x) nm y)/\AscT ys/\ys.length<=2*cs.length/\Qa w w'
theorem rDesc_any(cs:List (ByteArray×ByteArray))(n:ByteArray)(LA CA MA DA WA RA GA:Option Addr)(n0 c0 n1 c1 n2 c2 n3 c3 n4 c4 n5 c5 n6 c6:Nat)(w:World)(hl:cs.length<=1000)(hS:Sl w 2 zaX CA cs):
 Calls Tryz.prog 129 #[.agg #[.slice LA n0 c0,.slice CA cs.length c1,.slice MA n2 c2,.slice DA n3 c3,.slice WA n4 c4,.slice RA n5 c5,.slice GA n6 c6],.string n] w (DescR w cs n):=by
 have pK:=zHi (fun x W (h:Qa w W)=>zgH cs x LA CA MA DA WA RA GA n0 c0 cs.length c1 n2 c2 n3 c3 n4 c4 n5 c5 n6 c6 W Mcq (hS.keep h));unfold DescR;clear hS;go_enter Tryz.func129,Tryz.ntmps129
 go_upto_region 1 with fail
 generalize am:w.alloc _=W0;obtain⟨g0,aS⟩:=boxed am;have fw:=zaK g0;have l0:=zab g0;have aw:=aS.size;have aj:=zHi aS
 have au:=zHi (fun W (h:Qa W0 W)=>(show W.cell? ⟨w.heap.size,0,none⟩=some (.slice LA n0 c0)/\W.cell? ⟨w.heap.size,1,none⟩=some (.slice CA cs.length c1)/\W.cell? ⟨w.heap.size,2,none⟩=some (.slice MA n2 c2)/\W.cell? ⟨w.heap.size,3,none⟩=some (.slice DA n3 c3)/\W.cell? ⟨w.heap.size,4,none⟩=some (.slice WA n4 c4)/\W.cell? ⟨w.heap.size,5,none⟩=some (.slice RA n5 c5)/\W.cell? ⟨w.heap.size,6,none⟩=some (.slice GA n6 c6) from by
  obtain⟨d0,d1,d2,d3,d4,d5,d6⟩:=fw
  exact⟨(zah h l0).trans d0,(zah h l0).trans d1,(zah h l0).trans d2,(zah h l0).trans d3,(zah h l0).trans d4,(zah h l0).trans d5,(zah h l0).trans d6⟩))
 obtain⟨d0,d1,d2,d3,d4,d5,d6⟩:=fw;clear am aS g0
 go_upto_region 3 with(go_at_call 128
                       go_must(refine(pK.o _ _ Mdf).mono ?_)
                       rintro e w1 ⟨v1,rfl,o1,b1⟩)
 obtain⟨aE,fR⟩:=yH2 b1 o1;clear o1 b1 d0 d1 d2 d3 d4 d5 d6;go_loopw [5,6,7,8] (fun v i _ _ wr=>∃(k:Nat) (all:List ByteArray),k<=all.length/\i=.int .i64 k/\Hid (Srch cs n all k)/\OwnS wr W0.heap.size 9 1 sC v all/\Qa W0 wr) (fun _ i _ _ _=>2*cs.length-(intOf i).toNat)
 case atStart=>exact⟨0,_,Nat.zero_le _,rfl,zHi (zoY cs n),fR.o,aE.o⟩
 case round=>
  obtain⟨k,all,hk,rfl,rB,ac,hB⟩:=hrel;obtain⟨WR,mn⟩:=Qd wr
  subst mn;have hal:=rB.o.len;have g7:k<=2000:=Mcq;obtain⟨VA,vc,rfl,gH,kf⟩:=ac.sl zaH;have aW:=hB.size;obtain⟨HB,HO⟩:=yH2 hB ac;by_cases aa:k<all.length
  ·obtain⟨b,off,rfl,hb,ah⟩:=gH.at aa;have bN:=srch_next rB.o aa;have ak:=zHi aa;generalize all[k]=x at*;have i0:WR.cell? ⟨b,off+k,none⟩=some (.string x):=Mc7;have ar:(k:Int)<(all.length:Int):=Mcq;have aR:(0:Int)<=(k:Int):=Mcq;have dI:=zHi bN;have Iy:Hid (all.length<=(zdh all (zdj cs x)).length):=by
    show _<=_;obtain⟨t,h1,_⟩:=zfF (zdj cs x) all;rw[h1,List.length_append];omega
   have zr:=zHi hal;have bU:=zHi (fun W (h:Qa WR W)=>(show(W.cell? ⟨w.heap.size,0,none⟩=some (.slice LA n0 c0)/\W.cell? ⟨w.heap.size,1,none⟩=some (.slice CA cs.length c1)/\W.cell? ⟨w.heap.size,2,none⟩=some (.slice MA n2 c2)/\W.cell? ⟨w.heap.size,3,none⟩=some (.slice DA n3 c3)/\W.cell? ⟨w.heap.size,4,none⟩=some (.slice WA n4 c4)/\W.cell? ⟨w.heap.size,5,none⟩=some (.slice RA n5 c5)/\W.cell? ⟨w.heap.size,6,none⟩=some (.slice GA n6 c6))/\W.cell? ⟨b,off+k,none⟩=some (.string x) from⟨au.o W (HB.o.trans (h.mono aW)),(zah h hb).trans i0⟩));have IK:=zHi (fun W (h:Qa WR W)=>pK.o x W (aj.o.trans ((HB.o.trans (h.mono aW)).mono aw)));generalize iZ:zdj cs x=ks at*;have dO:ks.length<=1000:=by rw[<-iZ];exact Nat.le_trans (zhX cs x) hl
   have oo:=zHi dO;clear ah ac hB gH aa bN iZ hal i0 dO;go_upto_region 5 with fail
   refine zaJ 5 (fun bb w'=>bb=true\/((w'.cell? ⟨w.heap.size,0,none⟩=some (.slice LA n0 c0)/\w'.cell? ⟨w.heap.size,1,none⟩=some (.slice CA cs.length c1)/\w'.cell? ⟨w.heap.size,2,none⟩=some (.slice MA n2 c2)/\w'.cell? ⟨w.heap.size,3,none⟩=some (.slice DA n3 c3)/\w'.cell? ⟨w.heap.size,4,none⟩=some (.slice WA n4 c4)/\w'.cell? ⟨w.heap.size,5,none⟩=some (.slice RA n5 c5)/\w'.cell? ⟨w.heap.size,6,none⟩=some (.slice GA n6 c6))/\w'.cell? ⟨b,off+k,none⟩=some (.string x))) Mcs (.inr (bU.o _ (zaF Qb))) ?hrest
   case hrest=>
    intro hHeld;refine TkM 0 ?_;refine TkM 1 ?_;refine TkM 2 ?_;refine TkM 3 ?_;refine TkM 4 ?_;refine OnM 5 true fun K hK=>?_
    go_simp
    refine(IK.o _ (zaF Qb)).mono ?_;rintro e w5 ⟨v5,rfl,o5,aq⟩;refine NxM hK fun hHeld=>?_
    clear hK K;refine OnM 6 true fun K hK=>?_
    go_simp
    refine NxM hK fun hHeld=>?_
    clear hK K;refine zaV Mcs ?_ _;clear hHeld;have dL:Qa WR w5:=(zaF Qb:Qa WR WR.drew).trans aq;have o5':OwnS w5 WR.heap.size 9 1 sC v5 ks:=o5;obtain⟨KA,kc,rfl,_,_⟩:=o5'.sl zaH;obtain⟨bn,kX⟩:=yH2 dL o5';have CF:=dL.size;clear aq dL o5 o5';go_upto_region 7 with fail
    go_loopw [5,8] (fun v j wr=>∃m:Nat,m<=ks.length/\j=.int .i64 m/\OwnS wr W0.heap.size 9 1 sC v (zdh all (ks.take m))/\Hid (∀g,za6 v=some g->za6 (.slice KA ks.length kc)≠some g)/\OwnS wr WR.heap.size 9 1 sC (.slice KA ks.length kc) ks/\Qa W0 wr/\w5.heap.size<=wr.heap.size/\(zdh all (ks.take m)).length<=all.length+m) (fun _ j _=>ks.length-(intOf j).toNat)
    case atStart=>exact⟨0,Nat.zero_le _,rfl,HO.o.keep bn.o,zHi (fun g h1 h2=>by have:=(kX.o.ge g h2).1;have:=(HO.o.ge g h1).2;omega),kX.o,HB.o.trans (bn.o.mono aW),Qc,by simp[zdh]⟩
    case round=>
     obtain⟨m,hm,rfl,uB,iL,bs,gB,NC,Hv⟩:=hrel;have Hz:m<=1000:=by have:=oo.o;omega
     by_cases kF:m<ks.length
     ·have ai:=zne (all:=all) kF;obtain⟨b2,off2,m9,bC,d8⟩:=(ziM zaH bs).1.at kF;have jd:=zHi kF;generalize zdh all (ks.take m)=ys at*;obtain⟨VY,vy,rfl,so,tG⟩:=uB.sl zaH;generalize ks[m]=y at*;subst m9;have j0:wr.cell? ⟨b2,off2+m,none⟩=some (.string y):=Md4;have iC:(m:Int)<(ks.length:Int):=Mcq;have pj:(0:Int)<=(m:Int):=Mcq;have C0:Hid (ys.length<=100000):=by show _<=_;have:=zr.o;have:=oo.o;omega
      obtain⟨ft,eo,cY,fE,jN⟩:=yH5 (fun W (h:Qa wr W)=>zd5 ys y VY vy W C0.o tG (so.keep h)) uB bs gB Hv;have EX:=gB.size;clear d8 uB bs gB so kF Hv;cases aM:ys.any (zaf y)
      ·have aA:Hid (zdh all (ks.take (m+1))=ys++[y]):=by show _=_;rw[ai,aM];rfl
       rw[aM]at ft;clear ai aM
       go_wp2_with (first
        |(go_at_call 127;go_must(refine(ft.o _ Bw).mono ?_);rintro e wq ⟨rfl,rfl⟩)
        |(at_builtin
          go_loud(refine zas (v:=.slice VY ys.length vy) (n:=ys.length) (m:=1) rfl _ _ rfl zbJ zaH zbI rfl (xs:=ys) (ys:=[y]) (eo.o.keep (n:=wr.heap.size) Bw) rfl rfl rfl (zgg (zat _ _ _ rfl)) (by have:=C0.o;simp[maxLen];omega) (by have:=C0.o;omega) Mcw ?_)
          intro v3 w3 h1 h2 h3;have av:=Below.grown (B:=W0.heap.size) (a:=W0) (fE.o.trans (Below.mono (B:=wr.heap.size) (zad Qb _) EX)) h2 Mcw (fun j hj=>(eo.o.ge j hj).1);have uy:=(cY.o.keep (n:=wr.heap.size) (zad Qb (.cells #[.string y] 9))).grown h2 (.inr fun e=>iL.o _ e.symm rfl);have AQ:∀g,za6 v3=some g->za6 (.slice (some ⟨b2,off2,none⟩) ks.length kc)≠some g:=fun g e1 e2=>by
           rcases h3 g e1 with h|h
           ·exact iL.o g h e2
           ·have:=(cY.o.ge g e2).2;simp at h;omega
          have eA:=h2.size;obtain⟨H1,aJ,J4,zK⟩:=yH4 h1 av uy AQ;simp only[World.size_alloc]at eA
          clear h1 h2 h3 av uy AQ))
       go_round
       case rel=>exact⟨m+1,jd.o,by go_num,by rw[aA.o];exact H1.o,zK,J4.o,aJ.o,by omega,by rw[aA.o,List.length_append];have:=jN.o;simp;omega⟩
       case measure=>have:=jd.o;simp only[intOf];omega
      ·have aA:Hid (zdh all (ks.take (m+1))=ys):=by show _=_;rw[ai,aM];rfl
       rw[aM]at ft;clear ai aM;go_wp2_with (go_at_call 127;go_must(refine(ft.o _ Bw).mono ?_);rintro e wq ⟨rfl,rfl⟩)
       go_round
       case rel=>exact⟨m+1,jd.o,by go_num,by rw[aA.o];exact eo.o,iL,cY.o,fE.o,NC,by rw[aA.o];have:=jN.o;omega⟩
       case measure=>have:=jd.o;simp only[intOf];omega
     ·have iC:¬(m:Int)<(ks.length:Int):=Mcq;rw[List.take_of_length_le Mcq]at uB;obtain⟨eo,fE⟩:=yH2 uB gB;clear uB bs gB;go_wp2_with fail
      go_round
      case rel=>exact⟨k+1,_,by have:=Iy.o;have:=ak.o;omega,by go_num,dI,eo.o,fE.o⟩
      case measure=>have:=ak.o;have:=zr.o;simp only[intOf];omega
  ·have ar:¬(k:Int)<(all.length:Int):=Mcq;obtain⟨BD,nH,zr⟩:=yH3 (srch_end rB.o Mcq) (fun W (h:Qa WR W)=>znd all VA vc W Mcq (gH.keep h)) hal;clear gH ac hB hal;go_wp2_with (go_at_call 157;go_must(refine(nH.o _ Bw).mono ?_);rintro e wq ⟨vq,rfl,oq,bq⟩)
   go_ret
   exact⟨_,zdg all,rfl,oq.base_le Mcq,fun y=>znb.trans (BD.o y),znc all,Nat.le_trans (ziO all) zr.o,aj.o.trans ((HB.o.trans (bq.mono aW)).mono aw)⟩
structure StIn (w:World) (laws:List Law) (s:St) (wd rd:List Deed) (LA CA MA DA WA RA GA:Option Addr) (c0 c1 c2 c3 c4 c5 c6:Nat):Prop where
 laws:Sl w 4 Law.cells LA laws
 kids:Sl w 2 zaX CA s.children
 marr:Sl w 2 zaX MA s.marriages
 dead:Sl w 1 sC DA s.dead
 wills:SlW w 7 zfL WA wd
 ren:SlW w 7 zfL RA rd
 graves:SlW w 5 zia GA s.graves
 deadc:s.dead.length<=c3
theorem StIn.keep{w W:World}{laws:List Law}{s:St}{wd rd:List Deed}{LA CA MA DA WA RA GA:Option Addr}{c0 c1 c2 c3 c4 c5 c6 n:Nat}(h:StIn w laws s wd rd LA CA MA DA WA RA GA c0 c1 c2 c3 c4 c5 c6)(hB:Below n w W)(hn:w.heap.size<=n:=by first|exact Qc|omega):StIn W laws s wd rd LA CA MA DA WA RA GA c0 c1 c2 c3 c4 c5 c6:=
 ⟨h.laws.keep hB hn,h.kids.keep hB hn,h.marr.keep hB hn,h.dead.keep hB hn,h.wills.keep zbP hB hn,h.ren.keep zbP hB hn,h.graves.keep zfX hB hn,h.deadc⟩
structure StLink (s:St) (wd rd:List Deed):Prop where
 wills:s.wills=wd.map fun d=>(d.frm,zan d.to)
 shares:∀d∈wd,∀p∈d.to,zaA 16 p.num p.den=true
 ren:s.renounce=rd.map fun d=>(d.frm,zbh d)
 tos:∀d∈rd,d.to≠[]
structure StFew (s:St) (wd rd:List Deed):Prop where
 kids:s.children.length<=1000
 marr:s.marriages.length<=1000
 dead:s.dead.length<=1000
 wills:wd.length<=1000
 ren:rd.length<=1000
 graves:s.graves.length<=1000
section
variable {laws:List Law} {s:St} {wd rd:List Deed} {LA CA MA DA WA RA GA:Option Addr} {c0 c1 c2 c3 c4 c5 c6:Nat}
theorem sAble(n frm:ByteArray)(w:World)(h:StIn w laws s wd rd LA CA MA DA WA RA GA c0 c1 c2 c3 c4 c5 c6)(hk:StLink s wd rd)(hf:StFew s wd rd):Calls Tryz.prog 159 #[.agg #[.slice LA laws.length c0,.slice CA s.children.length c1,.slice MA s.marriages.length c2,.slice DA s.dead.length c3,.slice WA wd.length c4,.slice RA rd.length c5,.slice GA s.graves.length c6],.string n,.string frm] w (Ret w (.bool (zeb s n frm))):=by
 rw[<-ableR_eq s rd hk.ren];exact rAble_any rd s.dead n frm LA CA MA DA WA RA GA laws.length c0 s.children.length c1 s.marriages.length c2 s.dead.length c3 wd.length c4 rd.length c5 s.graves.length c6 w (by have:=hf.ren;omega) hk.tos h.ren Mew h.deadc h.dead
theorem sDead(n:ByteArray)(w:World)(h:StIn w laws s wd rd LA CA MA DA WA RA GA c0 c1 c2 c3 c4 c5 c6)(hf:StFew s wd rd):Calls Tryz.prog 80 #[.agg #[.slice LA laws.length c0,.slice CA s.children.length c1,.slice MA s.marriages.length c2,.slice DA s.dead.length c3,.slice WA wd.length c4,.slice RA rd.length c5,.slice GA s.graves.length c6],.string n] w (Ret w (.bool (zaP s n))):=
 zeE s.dead n LA CA MA DA WA RA GA laws.length c0 s.children.length c1 s.marriages.length c2 s.dead.length c3 wd.length c4 rd.length c5 s.graves.length c6 w Mew h.deadc h.dead
theorem sKids(n:ByteArray)(w:World)(h:StIn w laws s wd rd LA CA MA DA WA RA GA c0 c1 c2 c3 c4 c5 c6)(hf:StFew s wd rd):Calls Tryz.prog 128 #[.agg #[.slice LA laws.length c0,.slice CA s.children.length c1,.slice MA s.marriages.length c2,.slice DA s.dead.length c3,.slice WA wd.length c4,.slice RA rd.length c5,.slice GA s.graves.length c6],.string n] w (zd6 w (zaj s n)):=
 zgH s.children n LA CA MA DA WA RA GA laws.length c0 s.children.length c1 s.marriages.length c2 s.dead.length c3 wd.length c4 rd.length c5 s.graves.length c6 w (by have:=hf.kids;omega) h.kids
theorem sSpouse(n:ByteArray)(w:World)(h:StIn w laws s wd rd LA CA MA DA WA RA GA c0 c1 c2 c3 c4 c5 c6)(hf:StFew s wd rd):Calls Tryz.prog 130 #[.agg #[.slice LA laws.length c0,.slice CA s.children.length c1,.slice MA s.marriages.length c2,.slice DA s.dead.length c3,.slice WA wd.length c4,.slice RA rd.length c5,.slice GA s.graves.length c6],.string n] w (Ret w (.string (zaM s n))):=by
 rw[<-zoN];exact zmX s.marriages s.dead n LA CA MA DA WA RA GA laws.length c0 s.children.length c1 s.marriages.length c2 s.dead.length c3 wd.length c4 rd.length c5 s.graves.length c6 w (by have:=hf.marr;omega) h.marr Mew h.deadc h.dead
theorem zlZ(place:ByteArray)(day:Int)(w:World)(h:StIn w laws s wd rd LA CA MA DA WA RA GA c0 c1 c2 c3 c4 c5 c6)(hf:StFew s wd rd):Calls Tryz.prog 116 #[.agg #[.slice LA laws.length c0,.slice CA s.children.length c1,.slice MA s.marriages.length c2,.slice DA s.dead.length c3,.slice WA wd.length c4,.slice RA rd.length c5,.slice GA s.graves.length c6],.string place,.int .i64 day] w (Ret w (.int .i64 (zk1 s.graves place day))):=
 zo8 s.graves place day LA CA MA DA WA RA GA laws.length c0 s.children.length c1 s.marriages.length c2 s.dead.length c3 wd.length c4 rd.length c5 s.graves.length c6 w (by have:=hf.graves;omega) h.graves
theorem sDesc(n:ByteArray)(w:World)(h:StIn w laws s wd rd LA CA MA DA WA RA GA c0 c1 c2 c3 c4 c5 c6)(hf:StFew s wd rd):Calls Tryz.prog 129 #[.agg #[.slice LA laws.length c0,.slice CA s.children.length c1,.slice MA s.marriages.length c2,.slice DA s.dead.length c3,.slice WA wd.length c4,.slice RA rd.length c5,.slice GA s.graves.length c6],.string n] w (DescR w s.children n):=
 rDesc_any s.children n LA CA MA DA WA RA GA laws.length c0 s.children.length c1 s.marriages.length c2 s.dead.length c3 wd.length c4 rd.length c5 s.graves.length c6 w hf.kids h.kids
theorem zma(l:List RPart)(A:Option Addr)(c:Nat)(w:World)(h:StIn w laws s wd rd LA CA MA DA WA RA GA c0 c1 c2 c3 c4 c5 c6)(hf:StFew s wd rd)(hl:l.length<=1000000)(hS:Sl w 3 RPart.cells A l):Calls Tryz.prog 117 #[.agg #[.slice LA laws.length c0,.slice CA s.children.length c1,.slice MA s.marriages.length c2,.slice DA s.dead.length c3,.slice WA wd.length c4,.slice RA rd.length c5,.slice GA s.graves.length c6],.slice A l.length c] w (Ret w (.bool (ze1 s l))):=
 zk2 l A c s.dead LA CA MA DA WA RA GA laws.length c0 s.children.length c1 s.marriages.length c2 s.dead.length c3 wd.length c4 rd.length c5 s.graves.length c6 w hl hS Mew h.deadc h.dead
end
def zdA(s:St)(stems:Bool)(frm:ByteArray):Nat->ByteArray->List ByteArray
 |0,_=>[]
 |f+1,n=>(zaj s n).filter fun c=>(zcV s stems frm f c).isSome
theorem zgP{α β:Type}(g:α->Option β):∀l:List α,(l.filterMap g).length=(l.filter fun x=>(g x).isSome).length
 | []=>rfl
 |x::l=>by
  have ih:=zgP g l;cases hg:g x
  ·rw[List.filterMap_cons_none hg,List.filter_cons_of_neg (by simp[hg]),ih]
  ·rw[List.filterMap_cons_some hg,List.filter_cons_of_pos (by simp[hg]),List.length_cons,List.length_cons,ih]
theorem zgQ(s:St)(stems:Bool)(frm:ByteArray):∀(f:Nat) (n:ByteArray),(zb4 s stems frm f n).length=(zdA s stems frm f n).length
 |0,_=>rfl
 |f+1,n=>by rw[zfA,zgP];rfl
theorem znf{α:Type}(p:α->Bool)(l:List α){k:Nat}(h:k<l.length):(l.take (k+1)).filter p=(l.take k).filter p++if p l[k]then[l[k]]else[]:=by
 rw[List.take_add_one,List.getElem?_eq_getElem h,List.filter_append];simp only[Option.toList_some,List.filter_cons,List.filter_nil]
theorem rLeads_of(laws:List Law)(s:St)(wd rd:List Deed)(LA CA MA DA WA RA GA:Option Addr)(c0 c1 c2 c3 c4 c5 c6:Nat)(law:Law)(frm:ByteArray)(hk:StLink s wd rd)(hf:StFew s wd rd)(f:Nat)(n:ByteArray)(w:World)(h:StIn w laws s wd rd LA CA MA DA WA RA GA c0 c1 c2 c3 c4 c5 c6)
 (IH:∀W,Qa w W->Calls Tryz.prog 160 #[.agg #[.slice LA laws.length c0,.slice CA s.children.length c1,.slice MA s.marriages.length c2,.slice DA s.dead.length c3,.slice WA wd.length c4,.slice RA rd.length c5,.slice GA s.graves.length c6],law.v,.string n,.string frm] W (zd6 W (zdA s law.stems frm f n))):
 Calls Tryz.prog 177 #[.agg #[.slice LA laws.length c0,.slice CA s.children.length c1,.slice MA s.marriages.length c2,.slice DA s.dead.length c3,.slice WA wd.length c4,.slice RA rd.length c5,.slice GA s.graves.length c6],law.v,.string n,.string frm] w (Ret w (.bool (zcV s law.stems frm f n).isSome)):=by
 have fD:=zHi (fun W (hB:Qa w W)=>sAble n frm W (h.keep hB) hk hf);have dE:(zcV s law.stems frm f n).isSome=(zeb s n frm||law.stems&&decide (0<(zdA s law.stems frm f n).length)):=by
  rw[<-zgQ];unfold zcV;cases zeb s n frm
  ·cases law.stems
   ·rfl
   ·cases zb4 s true frm f n<;>rfl
  ·rfl
 rw[dE];unfold Law.v at IH⊢;generalize zeb s n frm=ab at*;generalize zdA s law.stems frm f n=ls at*;have J2:=zHi IH;clear dE IH h;go_enter Tryz.func177,Tryz.ntmps177
 go_upto_region 1 with fail
 obtain⟨W0,am⟩:=Qd ((w.alloc (.cells #[.slice LA laws.length c0,.slice CA s.children.length c1,.slice MA s.marriages.length c2,.slice DA s.dead.length c3,.slice WA wd.length c4,.slice RA rd.length c5,.slice GA s.graves.length c6] 35)).alloc (.cells #[.int .i64 law.frm,.bool law.stems,.int .i64 law.num,.int .i64 law.den] 72))
 have g0:W0.heap[w.heap.size]?=some (.cells #[.slice LA laws.length c0,.slice CA s.children.length c1,.slice MA s.marriages.length c2,.slice DA s.dead.length c3,.slice WA wd.length c4,.slice RA rd.length c5,.slice GA s.graves.length c6] 35):=MdM;have g1:W0.heap[w.heap.size+1]?=some (.cells #[.int .i64 law.frm,.bool law.stems,.int .i64 law.num,.int .i64 law.den] 72):=by rw[am];exact zat _ _ _ Mcv
 have aS:Qa w W0:=Mc1;rw[<-am];clear am;obtain⟨d0,d1,d2,d3,d4,d5,d6⟩:=zaK g0;obtain⟨e0,e1,e2,e3⟩:=cF4 g1;have l0:=zab g0;have l1:=zab g1;have aw:=aS.size;have aj:=zHi aS;clear aS g0 g1;cases ab
 ·generalize law.stems=st at*;cases st
  ·exact MaR
  ·go_upto_region 5 with(go_at_call 159;go_must(refine(fD.o _ Mdf).mono ?_);rintro e wq ⟨rfl,z,rfl⟩)
   by_cases hz:0<ls.length
   ·have nz:(0:Int)<(ls.length:Int):=Mcq;exact Mad
   ·have nz:¬(0:Int)<(ls.length:Int):=Mcq;exact Mad
 ·exact MaR
theorem zhv(laws:List Law)(s:St)(wd rd:List Deed)(LA CA MA DA WA RA GA:Option Addr)(c0 c1 c2 c3 c4 c5 c6:Nat)(law:Law)(frm:ByteArray)(hk:StLink s wd rd)(hf:StFew s wd rd):∀(f:Nat) (n:ByteArray) (w:World),StIn w laws s wd rd LA CA MA DA WA RA GA c0 c1 c2 c3 c4 c5 c6->Deep s f n->
 Calls Tryz.prog 160 #[.agg #[.slice LA laws.length c0,.slice CA s.children.length c1,.slice MA s.marriages.length c2,.slice DA s.dead.length c3,.slice WA wd.length c4,.slice RA rd.length c5,.slice GA s.graves.length c6],law.v,.string n,.string frm] w (zd6 w (zdA s law.stems frm f n))
 |0,n,w,_,hd=>hd.elim
 |f+1,n,w,h,hd=>by
  obtain⟨BU,kT⟩:=yH2 (fun(c:ByteArray) (W:World) (hc:c∈zaj s n) (hB:Qa w W)=>rLeads_of laws s wd rd LA CA MA DA WA RA GA c0 c1 c2 c3 c4 c5 c6 law frm hk hf f c W (h.keep hB) fun W' jP=>zhv laws s wd rd LA CA MA DA WA RA GA c0 c1 c2 c3 c4 c5 c6 law frm hk hf f c W' ((h.keep hB).keep jP) (hd c hc)) (fun W (hB:Qa w W)=>sKids n W (h.keep hB) hf);have dO:(zaj s n).length<=1000:=Nat.le_trans (zhX s.children n) hf.kids;rw[show zdA s law.stems frm (f+1) n=(zaj s n).filter (fun c=>(zcV s law.stems frm f c).isSome) from rfl];unfold zd6;unfold Law.v at BU⊢;generalize zaj s n=ks at*;generalize hP:(fun c=>(zcV s law.stems frm f c).isSome)=P at*;have Ja:Hid (∀c W,c∈ks->Qa w W->Calls Tryz.prog 177 #[.agg #[.slice LA laws.length c0,.slice CA s.children.length c1,.slice MA s.marriages.length c2,.slice DA s.dead.length c3,.slice WA wd.length c4,.slice RA rd.length c5,.slice GA s.graves.length c6],.agg #[.int .i64 law.frm,.bool law.stems,.int .i64 law.num,.int .i64 law.den],.string c,.string frm] W (Ret W (.bool (P c)))):=zHi (by rw[<-hP];exact BU.o);obtain⟨dI,oo⟩:=yH2 (fun k hk=>znf P ks (k:=k) hk) dO;clear hP BU h hd dO;go_enter Tryz.func160,Tryz.ntmps160
  go_upto_region 1 with fail
  obtain⟨W0,am⟩:=Qd ((w.alloc (.cells #[.slice LA laws.length c0,.slice CA s.children.length c1,.slice MA s.marriages.length c2,.slice DA s.dead.length c3,.slice WA wd.length c4,.slice RA rd.length c5,.slice GA s.graves.length c6] 35)).alloc (.cells #[.int .i64 law.frm,.bool law.stems,.int .i64 law.num,.int .i64 law.den] 72))
  have g0:W0.heap[w.heap.size]?=some (.cells #[.slice LA laws.length c0,.slice CA s.children.length c1,.slice MA s.marriages.length c2,.slice DA s.dead.length c3,.slice WA wd.length c4,.slice RA rd.length c5,.slice GA s.graves.length c6] 35):=MdM;have g1:W0.heap[w.heap.size+1]?=some (.cells #[.int .i64 law.frm,.bool law.stems,.int .i64 law.num,.int .i64 law.den] 72):=by rw[am];exact zat _ _ _ Mcv
  have aS:Qa w W0:=Mc1;rw[<-am];clear am;obtain⟨d0,d1,d2,d3,d4,d5,d6⟩:=zaK g0;have l0:=zab g0;have l1:=zab g1;have aj:=zHi aS;go_upto_region 4 with(go_at_call 128;go_must(refine(kT.o _ Mdf).mono ?_);rintro e w1 ⟨v1,rfl,o1,b1⟩)
  obtain⟨KA,kc,rfl,jR,_⟩:=o1.sl zaH;obtain⟨G0,G1,aE,ii⟩:=yH4 ((b1.block _ l0).trans g0) ((b1.block _ l1).trans g1) (aS.trans (b1.mono aS.size)) jR;have im:=aE.o.size;have bc:w.heap.size+1<w1.heap.size:=Nat.lt_of_lt_of_le l1 b1.size;clear o1 b1 aS d0 d1 d2 d3 d4 d5 d6 g0 g1 jR kT l0 l1;go_loopw [10,11] (fun v i wr=>∃k:Nat,k<=ks.length/\i=.int .i64 k/\OwnS wr w1.heap.size 9 1 sC v ((ks.take k).filter P)/\Qa w1 wr) (fun _ i _=>ks.length-(intOf i).toNat)
  case atStart=>exact⟨0,Nat.zero_le _,rfl,OwnS.nil,Qb⟩
  case round=>
   obtain⟨k,hk,rfl,ac,hB⟩:=hrel;have g7:k<=1000:=by have:=oo.o;omega
   have aW:=hB.size;obtain⟨HO,HB⟩:=yH2 ac hB;by_cases aa:k<ks.length
   ·have ai:=dI.o k aa;have bh:=List.getElem_mem aa;have bX:((ks.take k).filter P).length<=1000:=by
     have h1:=List.length_filter_le P (ks.take k);rw[List.length_take]at h1;have:=oo.o;omega
    generalize(ks.take k).filter P=xs at*;obtain⟨VA,vc,rfl,_,kf⟩:=ac.sl zaH;obtain⟨b,off,rfl,hb,ah⟩:=(ii.o.keep hB).at aa;have ak:=zHi aa;generalize ks[k]=x at*;have i0:wr.cell? ⟨b,off+k,none⟩=some (.string x):=Mc7;obtain⟨d0,d1,d2,d3,d4,d5,d6⟩:=zaK ((hB.block _ Mcq).trans G0.o);have g1:=(hB.block _ Mcq).trans G1.o;obtain⟨e0,e1,e2,e3⟩:=cF4 g1;have ar:(k:Int)<(ks.length:Int):=Mcq;have aR:(0:Int)<=(k:Int):=Mcq;have iS:=zHi bX;have FF:=zHi (aE.o.trans (hB.mono im));have lR:=zHi (fun W (hW:Qa wr W)=>Ja.o x W bh (FF.o.trans (hW.mono FF.o.size)));have bY:w.heap.size<wr.heap.size:=Mcq;have zf:w.heap.size+1<wr.heap.size:=Mcq;clear ah aa ac hB bX g1 bh;go_upto_region 6 with fail
    cases hp:P x
    ·have aA:Hid ((ks.take (k+1)).filter P=xs):=by show _=_;rw[ai,hp];simp
     rw[hp]at lR;clear ai hp
     (refine zam Mcs Mcs ?_
      repeat(first|go_big_quiet_skip|(go_big_quiet_want;go_big_quiet_op;first|go_big_quiet_on|(apply Exists.intro;refine⟨fun _=>?_,?_⟩;(go_at_call 177;exact quietx (lR.o _ Bw));go_big_quiet_on)))
      refine wpQuiet_nil ?_
      rintro _ ⟨zq,rfl⟩)
     go_wp2_with fail
     go_round
     case rel=>exact⟨k+1,ak.o,by go_num,by rw[aA.o];exact HO.o.keep (n:=wr.heap.size) (zaq wr zq),zaZ HB.o zq⟩
     case measure=>have:=ak.o;simp only[intOf];omega
    ·have aA:Hid ((ks.take (k+1)).filter P=xs++[x]):=by show _=_;rw[ai,hp];rfl
     rw[hp]at lR;clear ai hp
     (refine zam Mcs Mcs ?_
      repeat(first|go_big_quiet_skip|(go_big_quiet_want;go_big_quiet_op;first|go_big_quiet_on|(apply Exists.intro;refine⟨fun _=>?_,?_⟩;(go_at_call 177;exact quietx (lR.o _ Bw));go_big_quiet_on)))
      refine wpQuiet_nil ?_
      rintro _ ⟨zq,rfl⟩)
     go_wp2_with (at_builtin
                  go_loud(refine zas (v:=.slice VA xs.length vc) (n:=xs.length) (m:=1) rfl _ _ rfl zbJ zaH zbI rfl (xs:=xs) (ys:=[x]) (HO.o.keep (n:=wr.heap.size) Bw) rfl rfl rfl (zgg (zat _ _ _ MdF)) McX Mc4 McA ?_)
                  intro v3 w3 h1 h2 h3;have av:=Below.grown (B:=w1.heap.size) (a:=w1) (HB.o.trans (Below.mono (B:=wr.heap.size) (zad (zaq wr zq) _) aW)) h2 McA (fun j hj=>(HO.o.ge j hj).1);obtain⟨H1,aJ⟩:=yH2 h1 av
                  clear h1 h2 h3 av)
     exact Maf
   ·have ar:¬(k:Int)<(ks.length:Int):=Mcq;rw[List.take_of_length_le Mcq]at HO ac;obtain⟨VA,vc,rfl,_,_⟩:=ac.sl zaH;clear ac hB;go_wp2_with fail
    go_ret
    exact⟨.slice VA (ks.filter P).length vc,rfl,HO.o.base_le im,aE.o.trans (HB.o.mono im)⟩
def zeJ(share:Rat)(T:List Tree)(out:Parts):Option Parts:=if bigQ (share*(1/(T.length:Rat)))then none else zbB (share*(1/(T.length:Rat))) T out
theorem zh9(a:Rat)(n:Nat):a/(n:Rat)=a*(1/(n:Rat)):=by grind
theorem tree_node{each:Rat}{l:List Tree}{out:Parts}:zeo each (.node l) out=zeJ each l out:=by
 rw[zeo,zeJ,zh9]
mutual
theorem zgR{each:Rat}{L:List ByteArray}:∀ {l:List Tree} {out o:Parts},zbB each l out=some o->zc7 L l->zcl out L->zcl o L
 | [],out,o,h,_,hn=>by
   rw[zbB]at h;cases h;exact hn
 |x::l,out,o,h,hl,hn=>by
  rw[zc7]at hl;rw[zbB]at h;cases ht:zeo each x out with
  |none=>rw[ht]at h;cases h
  |some o1=>
   rw[ht]at h;exact zgR (l:=l) h hl.2 (ziQ ht hl.1 hn)
theorem ziQ{each:Rat}{L:List ByteArray}:∀ {x:Tree} {out o:Parts},zeo each x out=some o->zfq L x->zcl out L->zcl o L
 | .leaf n,out,o,h,hl,hn=>by
   rw[zfq]at hl;rw[zeo]at h;split at h
   ·cases h
   ·cases h;intro p hp;rcases zfb hp with e|hp
    ·rw[e];exact hl
    ·exact hn p hp
 | .node l,out,o,h,hl,hn=>by
   rw[zfq]at hl;rw[zeo]at h;split at h
   ·cases h
   ·exact zgR (l:=l) h hl hn
end
theorem zgS{out:Parts}{L:List ByteArray}(hg:GoodParts out)(h:zcl out L):out.length<=L.length:=by
 haveI:DecidableEq ByteArray:=fun a b=>Classical.propDecidable _
 have hn:(out.map (·.1)).Nodup:=by
  rw[List.nodup_iff_pairwise_ne,List.pairwise_map];exact hg.asc.imp fun h=>zcJ h
 have:=ziE hn (m:=L) fun x hx=>by
  obtain⟨p,hp,rfl⟩:=List.mem_map.1 hx;exact h p hp
 simpa using this
theorem ziR{out:Parts}{L:List ByteArray}{n:ByteArray}{q:Rat}(h:zcl out L)(hn:n∈L):zcl (za5 out n q) L:=fun p hp=>by
 rcases zfb hp with e|hp
 ·rw[e];exact hn
 ·exact h p hp
theorem zoe{α β:Type}(g:α->Option β):∀(l:List α) (k:Nat) (x:α),(l.filter fun x=>(g x).isSome)[k]?=some x->x∈l/\∃t,g x=some t/\(l.filterMap g)[k]?=some t
 | [],k,x,h=>by simp at h
 |y::l,k,x,h=>by
  cases hg:g y with
  |none=>
   rw[List.filter_cons_of_neg (by simp[hg])]at h;rw[List.filterMap_cons_none hg];exact MbO
  |some t=>
   rw[List.filter_cons_of_pos (by simp[hg])]at h;rw[List.filterMap_cons_some hg];cases k with
   |zero=>
    obtain rfl:y=x:=by simpa using h
    exact⟨by simp,t,hg,rfl⟩
   |succ k=>
    exact MbO
structure Hd (out:Parts) (L:List ByteArray):Prop where
 good:GoodParts out
 small:zaG out=false
 names:zcl out L
theorem Hd.parts{out:Parts}{L:List ByteArray}(h:Hd out L)(hs:sumQ out<=1):∀p∈out,zaL p.2:=fun p hp=>(zdO (hs:=out) ⟨h.good,h.small,hs⟩ hp).2.2
def SprPost(w:World)(R:Option Parts)(e:Ending)(w':World):Prop:=
 ∃(A:Option Addr) (c:Nat) (xs:Parts),e=.returned (.slice A xs.length c)/\Sl w' 3 zaa A xs/\Qa w w'/\xs.length<=100000/\(R=some xs\/(R=none/\zaG xs=true))
theorem zjT{L:List ByteArray}:∀ {T:List Tree},zc7 L T->∀t∈T,zfq L t
 | [],_,t,ht=>by cases ht
 |x::T,h,t,ht=>by
  rw[zc7]at h;rcases List.mem_cons.1 ht with rfl|ht
  ·exact h.1
  ·exact zjT h.2 t ht
theorem ziS(laws:List Law)(s:St)(wd rd:List Deed)(LA CA MA DA WA RA GA:Option Addr)(c0 c1 c2 c3 c4 c5 c6:Nat)(law:Law)(frm:ByteArray)(L:List ByteArray)(hk:StLink s wd rd)(hf:StFew s wd rd)(hL:∀c∈s.children,c.2∈L)(ui:L.length<=90000):
 ∀(f:Nat) (n:ByteArray) (share:Rat) (A:Option Addr) (c:Nat) (out:Parts) (w:World),StIn w laws s wd rd LA CA MA DA WA RA GA c0 c1 c2 c3 c4 c5 c6->Deep s f n->Sl w 3 zaa A out->Hd out L->0<=share->zaL share->sumQ out+share<=1->0<(zdA s law.stems frm f n).length->
 Calls Tryz.prog 161 #[.agg #[.slice LA laws.length c0,.slice CA s.children.length c1,.slice MA s.marriages.length c2,.slice DA s.dead.length c3,.slice WA wd.length c4,.slice RA rd.length c5,.slice GA s.graves.length c6],law.v,.string n,.string frm,zaD share,.slice A out.length c] w (SprPost w (zeJ share (zb4 s law.stems frm f n) out))
 |0,n,_,_,_,_,w,_,hd,_,_,_,_,_,_=>hd.elim
 |f+1,n,share,A,c,out,w,h,hd,hS,hH,aw,tA,dS,ag=>by
  obtain⟨cX,fD,ru⟩:=yH3 (fun W (hB:Qa w W)=>zhv laws s wd rd LA CA MA DA WA RA GA c0 c1 c2 c3 c4 c5 c6 law frm hk hf (f+1) n W (h.keep hB) hd) (fun x W (hB:Qa w W)=>sAble x frm W (h.keep hB) hk hf) (fun(x:ByteArray) (hx:x∈zaj s n) (share:Rat) (A:Option Addr) (c:Nat) (out:Parts) (W:World) (hB:Qa w W)=>ziS laws s wd rd LA CA MA DA WA RA GA c0 c1 c2 c3 c4 c5 c6 law frm L hk hf hL ui f x share A c out W (h.keep hB) (hd x hx));have fM:=zgQ s law.stems frm (f+1) n;have dO:(zdA s law.stems frm (f+1) n).length<=1000:=Nat.le_trans (List.length_filter_le _ _) (Nat.le_trans (zhX s.children n) hf.kids);have i7:=fun k x hx=>zoe (zcV s law.stems frm f) (zaj s n) k x hx
  rw[<-show zdA s law.stems frm (f+1) n=(zaj s n).filter (fun c=>(zcV s law.stems frm f c).isSome) from rfl,<-zfA]at i7;have bs:=zkb s law.stems frm (f+1) n;have Hu:=zfr (stems:=law.stems) (frm:=frm) hL (f+1) n;unfold zeJ;rw[fM];obtain⟨cM,fB,Hx,Hy⟩:=zhR ag;have qo:=zlz ag dO;have je:=zHi (fun W=>zgB share (1/((zdA s law.stems frm (f+1) n).length:Rat)) W tA qo);unfold zaD at je ru⊢;rw[cM,fB]at je;have eZ:share*(1/((zdA s law.stems frm (f+1) n).length:Rat))*((zdA s law.stems frm (f+1) n).length:Rat)=share:=by
   have:=ratN (Nat.pos_iff_ne_zero.1 ag);grind
  have GU:0<=share*(1/((zdA s law.stems frm (f+1) n).length:Rat)):=Rat.mul_nonneg aw Hx;have qb:share*(1/((zdA s law.stems frm (f+1) n).length:Rat))<=share:=by
   have:=Rat.mul_le_mul_of_nonneg_left Hy aw;rwa [Rat.mul_one]at this
  generalize zdA s law.stems frm (f+1) n=ls at*;generalize zb4 s law.stems frm (f+1) n=T at*;generalize share*(1/(ls.length:Rat))=each at*;obtain⟨R,hR⟩:∃R,R=if bigQ each then none else zbB each T out:=⟨_,rfl⟩
  rw[<-hR];obtain⟨HR,HS,Iz,IZ,qV⟩:=yH5 hR hS i7 hH GU;have qC:0<=sumQ out:=zbu fun p hp=>by have:=hH.good.pos p hp;grind
  have gw:Hid (each<=1):=by show _<=_;grind
  have ji:Hid (sumQ out+each*(ls.length:Rat)<=1):=by show _<=_;rw[eZ];exact dS
  obtain⟨jN,oo,cY,Jb⟩:=yH4 fM dO bs Hu;unfold Law.v at cX ru⊢;unfold SprPost;clear h hd hS hH tA dS fM dO i7 bs Hu cM fB Hx Hy qo eZ GU qb hR qC aw;go_enter Tryz.func161,Tryz.ntmps161
  go_upto_region 1 with fail
  obtain⟨W0,am⟩:=Qd (((w.alloc (.cells #[.slice LA laws.length c0,.slice CA s.children.length c1,.slice MA s.marriages.length c2,.slice DA s.dead.length c3,.slice WA wd.length c4,.slice RA rd.length c5,.slice GA s.graves.length c6] 35)).alloc (.cells #[.int .i64 law.frm,.bool law.stems,.int .i64 law.num,.int .i64 law.den] 72)).alloc (.cells #[.int .i64 share.num,.int .i64 share.den] 57))
  have g0:W0.heap[w.heap.size]?=some (.cells #[.slice LA laws.length c0,.slice CA s.children.length c1,.slice MA s.marriages.length c2,.slice DA s.dead.length c3,.slice WA wd.length c4,.slice RA rd.length c5,.slice GA s.graves.length c6] 35):=Mdv;have g1:W0.heap[w.heap.size+1]?=some (.cells #[.int .i64 law.frm,.bool law.stems,.int .i64 law.num,.int .i64 law.den] 72):=by rw[am];exact zal (zat _ _ _ Mcv)
  have g2:W0.heap[w.heap.size+2]?=some (.cells #[.int .i64 share.num,.int .i64 share.den] 57):=by rw[am];exact zat _ _ _ Mcv
  have aS:Qa w W0:=Mc1;rw[<-am];clear am;have l2:=zab g2;have aj:=zHi aS;have m8:=aS.size
  have au:=zHi (fun W (hB:Qa W0 W)=>(show(W.cell? ⟨w.heap.size,0,none⟩=some (.slice LA laws.length c0)/\W.cell? ⟨w.heap.size,1,none⟩=some (.slice CA s.children.length c1)/\W.cell? ⟨w.heap.size,2,none⟩=some (.slice MA s.marriages.length c2)/\W.cell? ⟨w.heap.size,3,none⟩=some (.slice DA s.dead.length c3)/\W.cell? ⟨w.heap.size,4,none⟩=some (.slice WA wd.length c4)/\W.cell? ⟨w.heap.size,5,none⟩=some (.slice RA rd.length c5)/\W.cell? ⟨w.heap.size,6,none⟩=some (.slice GA s.graves.length c6))/\(W.cell? ⟨w.heap.size+1,0,none⟩=some (.int .i64 law.frm)/\W.cell? ⟨w.heap.size+1,1,none⟩=some (.bool law.stems)/\W.cell? ⟨w.heap.size+1,2,none⟩=some (.int .i64 law.num)/\W.cell? ⟨w.heap.size+1,3,none⟩=some (.int .i64 law.den))/\(W.cell? ⟨w.heap.size+2,0,none⟩=some (.int .i64 share.num)/\W.cell? ⟨w.heap.size+2,1,none⟩=some (.int .i64 share.den)) from by
   have x0:=(hB.block _ Mcq).trans g0;have x1:=(hB.block _ Mcq).trans g1;have x2:=(hB.block _ l2).trans g2
   refine⟨zaK x0,⟨?_,?_,?_,?_⟩,zbj x2⟩<;>(simp only[World.cell?,x1];rfl)))
  obtain⟨⟨d0,d1,d2,d3,d4,d5,d6⟩,⟨e0,e1,e2,e3⟩,q0,q1⟩:=au.o W0 Qb;clear g0 g1 g2 aS;go_upto_region 3 with(go_at_call 160;go_must(refine(cX.o _ Mdf).mono ?_);rintro e w1 ⟨v1,rfl,o1,b1⟩)
  obtain⟨KA,kc,rfl,jR,_⟩:=o1.sl zaH;obtain⟨aE,ii⟩:=yH2 b1 jR;have im:=b1.size;clear o1 b1 jR cX d0 d1 d2 d3 d4 d5 d6 e0 e1 e2 e3 q0 q1;go_loopw [5,14,15] (fun v i _ wr=>∃(k:Nat) (ys:Parts) (YA:Option Addr) (yc:Nat),k<=ls.length/\v=.slice YA ys.length yc/\i=.int .i64 k/\Hid (R=if bigQ each then none else zbB each (T.drop k) ys)/\Hid (Hd ys L)/\Hid (sumQ ys+each*((ls.length-k:Nat):Rat)<=1)/\(0<k->bigQ each=false)/\Sl wr 3 zaa YA ys/\Qa w1 wr) (fun _ i _ _=>ls.length-(intOf i).toNat)
  case atStart=>exact⟨0,out,A,c,Nat.zero_le _,rfl,rfl,zHi (by rw[List.drop_zero];exact HR.o),IZ,zHi (by rw[Nat.sub_zero];exact ji.o),fun h=>absurd h Mcq,(HS.o.keep aj.o).keep aE.o,Qb⟩
  case round=>
   obtain⟨k,zs,ZA,zc,hk,rfl,rfl,HX,HZ,zW,kw,hZ,hB⟩:=hrel;have g7:k<=1000:=by have:=oo.o;omega
   have aW:=hB.size;obtain⟨HB,pT⟩:=yH2 hB hZ;have cw:=aE.o.trans (hB.mono im);by_cases aa:k<ls.length
   ·obtain⟨nv,t,bT,dw⟩:=Iz.o k ls[k] (List.getElem?_eq_getElem aa);obtain⟨b,off,rfl,hb,ah⟩:=(ii.o.keep hB).at aa;generalize ls[k]=x at*;have i0:wr.cell? ⟨b,off+k,none⟩=some (.string x):=Mc7;have EO:t∈T:=List.mem_of_getElem? dw;have gI:T.drop k=t::T.drop (k+1):=by
     have h1:=(List.getElem?_eq_some_iff.1 dw)
     rw[List.drop_eq_getElem_cons h1.1,h1.2]
    have mE:((ls.length-k:Nat):Rat)=((ls.length-(k+1):Nat):Rat)+1:=by
     rw[show ls.length-k=(ls.length-(k+1))+1 by omega];exact zgF _
    have iD:0<=each*((ls.length-(k+1):Nat):Rat):=Rat.mul_nonneg qV.o Rat.natCast_nonneg;have zo:sumQ zs+each<=1:=by have:=zW.o;rw[mE]at this;grind
    have hx:=HX.o;rw[gI,zbB]at hx;obtain⟨R1,wO⟩:=Qd (zeo each t zs)
    rw[<-wO]at hx
    have gX:Hid (∀ys,R1=some ys->bigQ each=false->Hid (R=if bigQ each then none else zbB each (T.drop (k+1)) ys)/\Hid (Hd ys L)/\Hid (sumQ ys+each*((ls.length-(k+1):Nat):Rat)<=1)):=zHi (fun ys h1 h2=>by
     rw[wO]at h1;have hg:=zih qV.o HZ.o.good HZ.o.small h1;refine⟨zHi (by rw[hx,wO,h1];rfl),zHi ⟨hg.1,hg.2,ziQ h1 (zjT Jb.o t EO) HZ.o.names⟩,zHi ?_⟩;have h3:=znA (zmv.1 cY.o t EO) h1;have h4:=zW.o;rw[mE]at h4;rw[h3]
     grind)
    have Jj:Hid (R1=none->R=none):=zHi (fun h1=>by rw[hx,h1];split<;>rfl);have ar:(k:Int)<(ls.length:Int):=Mcq;have aR:(0:Int)<=(k:Int):=Mcq;obtain⟨⟨d0,d1,d2,d3,d4,d5,d6⟩,⟨e0,e1,e2,e3⟩,q0,q1⟩:=au.o wr cw;have zf:w.heap.size+2<wr.heap.size:=Mcq;obtain⟨ak,bp,rF,iN,FK,aU⟩:=yH6 aa nv bT wO zo cw;clear ah hB hZ hx gI mE iD zo EO dw bT wO nv cw aa;go_upto_region 6 with(go_at_call 122;go_must(refine(je.o _).mono ?_);rintro e wq ⟨rfl,z,rfl⟩)
    obtain⟨E,hE⟩:=Qd (wr.heap.size+z.os.size)
    obtain⟨WE,An⟩:=Qd ((wr.ext z).alloc (.cells #[.int .i64 each.num,.int .i64 each.den] 57))
    have gE:WE.heap[E]?=some (.cells #[.int .i64 each.num,.int .i64 each.den] 57):=by rw[An];exact zat _ _ _ (by rw[hE];simp[zae])
    have sx:Qa wr WE:=by rw[An];exact zad (zaq wr z) _
    rw[<-An,<-hE];clear An hE d0 d1 d2 d3 d4 d5 d6 e0 e1 e2 e3 q0 q1;obtain⟨v0,v1⟩:=zbj gE;have FZ:=sx.size;have FY:=zab gE
    have bU:=zHi (fun W (h:Qa WE W)=>(show((W.cell? ⟨w.heap.size,0,none⟩=some (.slice LA laws.length c0)/\W.cell? ⟨w.heap.size,1,none⟩=some (.slice CA s.children.length c1)/\W.cell? ⟨w.heap.size,2,none⟩=some (.slice MA s.marriages.length c2)/\W.cell? ⟨w.heap.size,3,none⟩=some (.slice DA s.dead.length c3)/\W.cell? ⟨w.heap.size,4,none⟩=some (.slice WA wd.length c4)/\W.cell? ⟨w.heap.size,5,none⟩=some (.slice RA rd.length c5)/\W.cell? ⟨w.heap.size,6,none⟩=some (.slice GA s.graves.length c6))/\(W.cell? ⟨w.heap.size+1,0,none⟩=some (.int .i64 law.frm)/\W.cell? ⟨w.heap.size+1,1,none⟩=some (.bool law.stems)/\W.cell? ⟨w.heap.size+1,2,none⟩=some (.int .i64 law.num)/\W.cell? ⟨w.heap.size+1,3,none⟩=some (.int .i64 law.den))/\W.cell? ⟨b,off+k,none⟩=some (.string x)/\W.cell? ⟨E,0,none⟩=some (.int .i64 each.num)/\W.cell? ⟨E,1,none⟩=some (.int .i64 each.den)) from by
     have hw:=au.o W (aU.o.trans ((sx.trans (h.mono FZ)).mono aU.o.size))
     exact⟨hw.1,hw.2.1,(zah (sx.trans (h.mono FZ)) hb).trans i0,(zah h FY).trans v0,(zah h FY).trans v1⟩))
    obtain⟨F4,lF,FL⟩:=yH3 (HB.o.trans (sx.mono aW)) (aU.o.trans (sx.mono aU.o.size)) (pT.o.keep sx);clear gE sx i0 pT;by_cases hbig:bigQ each=true
    ·have dp:1000000000<(each.den:Int):=by unfold bigQ at hbig;simpa using hbig
     have pO:Hid (R=none):=by show _=_;rw[HX.o,if_pos hbig]
     have IB:=zHi hbig;clear hbig;go_wp2_with fail
     go_ret
     exact⟨_,_,[((⟨#[]⟩:ByteArray),each)],rfl,zde (zat _ _ _ rfl),aj.o.trans ((zad lF.o _).mono m8),by simp,.inr ⟨pO.o,by simp[zaG,IB.o]⟩⟩
    ·have kx:bigQ each=false:=by simpa using hbig
     have dp:¬1000000000<(each.den:Int):=by unfold bigQ at kx;simpa using kx
     have Ih:=zbZ qV.o gw.o kx;obtain⟨vF,Bn,zR⟩:=yH3 (fun ys h=>gX.o ys h kx) kx Ih;have kP:=zHi (fun W (h:Qa WE W)=>fD.o x W (aj.o.trans ((lF.o.trans (h.mono lF.o.size)).mono m8)));obtain⟨⟨d0,d1,d2,d3,d4,d5,d6⟩,⟨e0,e1,e2,e3⟩,j0,v0,v1⟩:=bU.o WE Qb;have hwE:w.heap.size<WE.heap.size:=Mcq;have KZ:b<WE.heap.size:=Mcq;clear kx hbig Ih gX HX;go_upto_region 8 with fail
     have dE:=rF.o;unfold zcV at dE;cases cH:zeb s x frm
     ·rw[cH]at kP dE;simp only[Bool.false_eq_true,if_false]at dE;have ht:t=.node (zb4 s law.stems frm f x)/\0<(zdA s law.stems frm f x).length:=by
       split at dE
       ·rename_i h
        cases dE;refine⟨rfl,?_⟩;rw[<-zgQ];rw[Bool.and_eq_true]at h;cases hT:zb4 s law.stems frm f x with
        |nil=>rw[hT]at h;simp at h
        |cons=>simp
       ·cases dE
      have rv:=zHi (fun W (h:Qa WE W)=>ru.o x bp.o each ZA zc zs W (aj.o.trans ((lF.o.trans (h.mono lF.o.size)).mono m8)) (FL.o.keep h) HZ.o qV.o zR.o FK.o ht.2);have fk:R1=zeJ each (zb4 s law.stems frm f x) zs:=by rw[iN.o,ht.1,tree_node]
      rw[<-fk]at rv;clear fk ht dE cH
      (refine zam Mcs Mcs ?_
       repeat(first|go_big_quiet_skip|(go_big_quiet_want;go_big_quiet_op;first|go_big_quiet_on|(apply Exists.intro;refine⟨fun _=>?_,?_⟩;(go_at_call 159;exact quietx (kP.o _ Bw));go_big_quiet_on)))
       refine wpQuiet_nil ?_
       rintro _ ⟨zq,rfl⟩)
      obtain⟨WQ,oM⟩:=Qd (WE.ext zq)
      have mx:Qa WE WQ:=Meu;rw[<-oM];clear oM;go_upto_region 10 with fail
      refine zaJ 9 (fun bb w'=>bb=true\/((w'.cell? ⟨w.heap.size,0,none⟩=some (.slice LA laws.length c0)/\w'.cell? ⟨w.heap.size,1,none⟩=some (.slice CA s.children.length c1)/\w'.cell? ⟨w.heap.size,2,none⟩=some (.slice MA s.marriages.length c2)/\w'.cell? ⟨w.heap.size,3,none⟩=some (.slice DA s.dead.length c3)/\w'.cell? ⟨w.heap.size,4,none⟩=some (.slice WA wd.length c4)/\w'.cell? ⟨w.heap.size,5,none⟩=some (.slice RA rd.length c5)/\w'.cell? ⟨w.heap.size,6,none⟩=some (.slice GA s.graves.length c6))/\(w'.cell? ⟨w.heap.size+1,0,none⟩=some (.int .i64 law.frm)/\w'.cell? ⟨w.heap.size+1,1,none⟩=some (.bool law.stems)/\w'.cell? ⟨w.heap.size+1,2,none⟩=some (.int .i64 law.num)/\w'.cell? ⟨w.heap.size+1,3,none⟩=some (.int .i64 law.den))/\w'.cell? ⟨b,off+k,none⟩=some (.string x)/\w'.cell? ⟨E,0,none⟩=some (.int .i64 each.num)/\w'.cell? ⟨E,1,none⟩=some (.int .i64 each.den))) Mcs (.inr (bU.o _ (zaF mx))) ?hrest
      case hrest=>
       intro hHeld;refine TkM 0 ?_;refine TkM 1 ?_;refine TkM 2 ?_;refine TkM 3 ?_;refine TkM 4 ?_;refine TkM 5 ?_;refine TkM 6 ?_;refine TkM 7 ?_;refine TkM 8 ?_;refine OnM 9 true fun K hK=>?_
       go_simp
       refine(rv.o _ (zaF mx)).mono ?_;rintro e w5 ⟨YA,yc,ys,rfl,wZ,Dv,KU,KV⟩;refine NxM hK fun hHeld=>?_
       clear hK K;refine OnM 10 true fun K hK=>?_
       go_simp
       refine NxM hK fun hHeld=>?_
       clear hK K;refine zaV Mcs ?_ _;clear hHeld;obtain⟨Ch,kp⟩:=yH2 KV KU;exact My
     ·rw[cH]at kP dE;simp only[if_true]at dE;have ht:t=.leaf x:=by cases dE;rfl
      have qJ:=zgS HZ.o.good HZ.o.names;have rv:=zHi (fun W (h:Qa WE W)=>zcW zs x each ZA zc W Mcq (HZ.o.parts (by have:=FK.o;have:=qV.o;grind)) zR.o (FL.o.keep h));have fk:R1=if zaG (za5 zs x each)then none else some (za5 zs x each):=by rw[iN.o,ht,zeo]
      have Ch:Hid (R1=some (za5 zs x each)\/(R1=none/\zaG (za5 zs x each)=true)):=zHi (by
       rw[fk];cases h:zaG (za5 zs x each)
       ·exact .inl rfl
       ·exact .inr ⟨rfl,rfl⟩)
      have kp:Hid ((za5 zs x each).length<=100000):=zHi (by have:=zc0 x each zs;omega);generalize za5 zs x each=ys at*;unfold zaD at rv;clear fk ht dE cH qJ
      (refine zam Mcs Mcs ?_
       repeat(first|go_big_quiet_skip|(go_big_quiet_want;go_big_quiet_op;first|go_big_quiet_on|(apply Exists.intro;refine⟨fun _=>?_,?_⟩;(go_at_call 159;exact quietx (kP.o _ Bw));go_big_quiet_on)))
       refine wpQuiet_nil ?_
       rintro _ ⟨zq,rfl⟩)
      obtain⟨WQ,oM⟩:=Qd (WE.ext zq)
      have mx:Qa WE WQ:=Meu;rw[<-oM];clear oM;go_upto_region 9 with fail
      refine zaJ 6 (fun bb w'=>bb=true\/((w'.cell? ⟨w.heap.size,0,none⟩=some (.slice LA laws.length c0)/\w'.cell? ⟨w.heap.size,1,none⟩=some (.slice CA s.children.length c1)/\w'.cell? ⟨w.heap.size,2,none⟩=some (.slice MA s.marriages.length c2)/\w'.cell? ⟨w.heap.size,3,none⟩=some (.slice DA s.dead.length c3)/\w'.cell? ⟨w.heap.size,4,none⟩=some (.slice WA wd.length c4)/\w'.cell? ⟨w.heap.size,5,none⟩=some (.slice RA rd.length c5)/\w'.cell? ⟨w.heap.size,6,none⟩=some (.slice GA s.graves.length c6))/\(w'.cell? ⟨w.heap.size+1,0,none⟩=some (.int .i64 law.frm)/\w'.cell? ⟨w.heap.size+1,1,none⟩=some (.bool law.stems)/\w'.cell? ⟨w.heap.size+1,2,none⟩=some (.int .i64 law.num)/\w'.cell? ⟨w.heap.size+1,3,none⟩=some (.int .i64 law.den))/\w'.cell? ⟨b,off+k,none⟩=some (.string x)/\w'.cell? ⟨E,0,none⟩=some (.int .i64 each.num)/\w'.cell? ⟨E,1,none⟩=some (.int .i64 each.den))) Mcs (.inr (bU.o _ (zaF mx))) ?hrest
      case hrest=>
       intro hHeld;refine TkM 0 ?_;refine TkM 1 ?_;refine TkM 2 ?_;refine TkM 3 ?_;refine TkM 4 ?_;refine TkM 5 ?_;refine OnM 6 true fun K hK=>?_
       go_simp
       refine(rv.o _ (zaF mx)).mono ?_;rintro e w5 ⟨v5,rfl,o5,Dv⟩;obtain⟨YA,yc,rfl,wZ,_⟩:=o5.sl zai;refine NxM hK fun hHeld=>?_
       clear hK K;refine OnM 7 true fun K hK=>?_
       go_simp
       refine NxM hK fun hHeld=>?_
       clear hK K;refine zaV Mcs ?_ _;clear hHeld;exact My
   ·have ar:¬(k:Int)<(ls.length:Int):=Mcq;have hx:=HX.o;have kE:k=ls.length:=Mcq;rw[kw Mcq,List.drop_of_length_le (by rw[jN.o];omega),zbB]at hx;have cE:Hid (R=some zs):=Md9;obtain⟨JS,aU⟩:=yH2 (zgS HZ.o.good HZ.o.names) cw;clear hx kE hB hZ cw;go_wp2_with fail
    go_ret
    exact⟨ZA,zc,zs,rfl,pT.o,aj.o.trans (aU.o.mono m8),by have:=JS.o;omega,.inl cE.o⟩
