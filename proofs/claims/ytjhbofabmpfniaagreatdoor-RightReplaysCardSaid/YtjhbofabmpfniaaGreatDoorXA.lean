/- Walk of the reference's spread. -/
import Derived.Test.YtjhbofabmpfniaaGreatDoorWX
set_option linter.unusedSimpArgs false
set_option linter.unusedVariables false
set_option maxRecDepth 100000
set_option maxHeartbeats 4000000
namespace Go.Proofs.YtjhbofabmpfniaaGreatDoor
open Go.RowKit Go.Shelf
attribute [local go_sem] World.cell?_alloc_mark zae za3 zam za6 zas zat zau zav zaw zax zay
attribute [local go_sem] zaj zac
structure Srch (cs:List (ByteArray×ByteArray)) (nm:ByteArray) (all:List ByteArray) (i:Nat):Prop where
 desc: ∀y∈all,Relation.TransGen (fun x y=>y∈zdi cs x) nm y
 mine: ∀c∈zdi cs nm,c∈all
 done: ∀y∈all.take i,∀c∈zdi cs y,c∈all
 few: ∃n,n<=(zdi cs nm).length/\(all.drop n).Nodup/\n<=all.length
theorem zhX (cs:List (ByteArray×ByteArray)) (n:ByteArray):(zdi cs n).length<=cs.length:=by
 unfold zdi;rw[List.length_map];exact List.length_filter_le _ _
theorem zja {cs:List (ByteArray×ByteArray)} {n c:ByteArray} (h:c∈zdi cs n):c∈cs.map (·.2):=by
 unfold zdi at h;obtain⟨p,hp,rfl⟩:=List.mem_map.1 h;exact List.mem_map_of_mem (List.mem_filter.1 hp).1
theorem Srch.len {cs:List (ByteArray×ByteArray)} {nm:ByteArray} {all:List ByteArray} {i:Nat} (h:Srch cs nm all i):all.length<=2*cs.length:=by
 obtain⟨n,h1,h2,h3⟩:=h.few;have h4:=zhX cs nm;haveI:DecidableEq ByteArray:=fun a b=>Classical.propDecidable _
 have h5:(all.drop n).length<=(cs.map (·.2)).length:=zkx h2 fun y hy=>by
  cases h.desc y (List.mem_of_mem_drop hy)with
  |single h=>exact zja h
  |tail _ h=>exact zja h
 rw[List.length_drop,List.length_map]at h5;omega
theorem zpe (cs:List (ByteArray×ByteArray)) (nm:ByteArray):Srch cs nm (zdi cs nm) 0:=
 ⟨fun y hy=> .single hy,fun c h=>h,by simp,(zdi cs nm).length,Nat.le_refl _,by simp,Nat.le_refl _⟩
theorem srch_end {cs:List (ByteArray×ByteArray)} {nm:ByteArray} {all:List ByteArray} {i:Nat} (h:Srch cs nm all i) (hi:all.length<=i) (y:ByteArray):y∈all↔Relation.TransGen (fun x y=>y∈zdi cs x) nm y:=by
 refine⟨h.desc y,fun hd=> ?_⟩;have jY:=h.done;rw[List.take_of_length_le hi]at jY;induction hd with
 |single h1=>exact h.mine _ h1
 |tail _ h1 ih=>exact jY _ ih _ h1
def zdg (all more:List ByteArray):List ByteArray:=more.foldl (fun a c=>if a.any (zaf c)then a else a++[c]) all
theorem znw {all more:List ByteArray} {k:Nat} (h:k<more.length):zdg all (more.take (k+1))=if(zdg all (more.take k)).any (zaf more[k])then zdg all (more.take k)else zdg all (more.take k)++[more[k]]:=by
 unfold zdg;rw[List.take_add_one,List.getElem?_eq_getElem h,List.foldl_append];rfl
theorem zfK: ∀(more all:List ByteArray),∃t,zdg all more=all++t/\(∀c∈t,c∈more)/\(∀c∈more,c∈zdg all more)/\(∀n,n<=all.length->(all.drop n).Nodup->(∀c∈t,c∉all)/\((zdg all more).drop n).Nodup)
 | [],all=>⟨[],by simp[zdg],by simp,by simp,fun n _ h=>⟨by simp,h⟩⟩
 |c::more,all=>by
  have e:zdg all (c::more)=zdg (if all.any (zaf c)then all else all++[c]) more:=rfl;rw[e];split
  ·rename_i hc
   obtain⟨t,h1,h2,h3,h4⟩:=zfK more all;refine⟨t,h1,fun x hx=>List.mem_cons_of_mem _ (h2 x hx),fun x hx=> ?_,h4⟩;rcases List.mem_cons.1 hx with rfl|hx
   ·rw[h1];exact List.mem_append_left _ (zf4.1 hc)
   ·exact h3 x hx
  ·rename_i hc
   have aV:c∉all:=fun h=>hc (zf4.2 h)
   obtain⟨t,h1,h2,h3,h4⟩:=zfK more (all++[c]);refine⟨c::t,by rw[h1];simp,fun x hx=> ?_,fun x hx=> ?_,fun n hn cQ=> ?_⟩
   ·rcases List.mem_cons.1 hx with rfl|hx
    ·simp
    ·exact List.mem_cons_of_mem _ (h2 x hx)
   ·rcases List.mem_cons.1 hx with rfl|hx
    ·rw[h1];simp
    ·exact h3 x hx
   ·have hd:((all++[c]).drop n).Nodup:=by
     rw[List.drop_append_of_le_length hn]
     exact List.nodup_append.2 ⟨cQ,by simp,fun a ha b hb e=>by
      rw[List.mem_singleton.1 hb]at e
      exact aV (e▸List.mem_of_mem_drop ha)⟩
    obtain⟨h5,h6⟩:=h4 n Mcr hd;refine⟨fun x hx=> ?_,h6⟩;rcases List.mem_cons.1 hx with rfl|hx
    ·exact aV
    ·exact fun h=>h5 x hx (List.mem_append_left _ h)
theorem srch_next {cs:List (ByteArray×ByteArray)} {nm:ByteArray} {all:List ByteArray} {i:Nat} (h:Srch cs nm all i) (hi:i<all.length):Srch cs nm (zdg all (zdi cs all[i])) (i+1):=by
 obtain⟨t,h1,h2,h3,h4⟩:=zfK (zdi cs all[i]) all;obtain⟨n,f1,f2,f3⟩:=h.few;have h5:=(h4 n f3 f2).2;rw[h1]at h3 h5⊢;refine⟨fun y hy=> ?_,fun c hc=>List.mem_append_left _ (h.mine c hc),fun y hy c hc=> ?_,n,f1,h5,by simp;omega⟩
 ·rcases List.mem_append.1 hy with hy|hy
  ·exact h.desc y hy
  ·exact .tail (h.desc _ (List.getElem_mem hi)) (h2 y hy)
 ·rw[List.take_append_of_le_length Mcn,List.take_add_one,List.getElem?_eq_getElem hi]at hy;rcases List.mem_append.1 hy with hy|hy
  ·exact List.mem_append_left _ (h.done y hy c hc)
  ·obtain rfl:y=all[i]:=by simpa using hy
   exact h3 c hc
def DescR (w:World) (cs:List (ByteArray×ByteArray)) (nm:ByteArray) (e:Ending) (w':World):Prop:=
 ∃v ys,e= .returned v/\OwnS w' w.heap.size 9 1 sC v ys/\(∀y,y∈ys↔Relation.TransGen (fun x y=>y∈zdi cs x) nm y)/\AscT ys/\ys.length<=2*cs.length/\Below w.heap.size w w'
theorem rDesc_any (cs:List (ByteArray×ByteArray)) (n:ByteArray) (LA CA MA DA WA RA GA:Option Addr) (n0 c0 n1 c1 n2 c2 n3 c3 n4 c4 n5 c5 n6 c6:Nat) (w:World) (hl:cs.length<=1000) (hS:Sl w 2 zaT CA cs):
 Calls Tryz.prog 49 #[.agg #[.slice LA n0 c0, .slice CA cs.length c1, .slice MA n2 c2, .slice DA n3 c3, .slice WA n4 c4, .slice RA n5 c5, .slice GA n6 c6], .string n] w (DescR w cs n):=by
 have oY:=zHi (fun x W (h:Below w.heap.size w W)=>zgB cs x LA CA MA DA WA RA GA n0 c0 cs.length c1 n2 c2 n3 c3 n4 c4 n5 c5 n6 c6 W Mcn (hS.keep h));unfold DescR;clear hS;go_enter Tryz.func49,Tryz.ntmps49
 go_upto_region 1 with fail
 generalize ao:w.alloc _=W0;obtain⟨g0,aJ⟩:=boxed ao;have fx:=zaG g0;have l0:=zab g0;have aw:=aJ.size;have ak:=zHi aJ
 have ax:=zHi (fun W (h:Below W0.heap.size W0 W)=>(show W.cell? ⟨w.heap.size,0,none⟩=some (.slice LA n0 c0)/\W.cell? ⟨w.heap.size,1,none⟩=some (.slice CA cs.length c1)/\W.cell? ⟨w.heap.size,2,none⟩=some (.slice MA n2 c2)/\W.cell? ⟨w.heap.size,3,none⟩=some (.slice DA n3 c3)/\W.cell? ⟨w.heap.size,4,none⟩=some (.slice WA n4 c4)/\W.cell? ⟨w.heap.size,5,none⟩=some (.slice RA n5 c5)/\W.cell? ⟨w.heap.size,6,none⟩=some (.slice GA n6 c6) from by
  obtain⟨d0,d1,d2,d3,d4,d5,d6⟩:=fx
  exact⟨(zah h l0).trans d0,(zah h l0).trans d1,(zah h l0).trans d2,(zah h l0).trans d3,(zah h l0).trans d4,(zah h l0).trans d5,(zah h l0).trans d6⟩))
 obtain⟨d0,d1,d2,d3,d4,d5,d6⟩:=fx;clear ao aJ g0
 go_upto_region 3 with(go_at_call 101
                       go_must(refine(oY.o _ _ Mdi).mono ?_)
                       rintro e w1 ⟨v1,rfl,o1,b1⟩)
 have aA:=zHi b1;have fO:=zHi o1;clear o1 b1 d0 d1 d2 d3 d4 d5 d6;go_loopw [5,6,7,8] (fun v i _ _ wr=> ∃(k:Nat) (all:List ByteArray),k<=all.length/\i= .int .i64 k/\Hid (Srch cs n all k)/\OwnS wr W0.heap.size 9 1 sC v all/\Below W0.heap.size W0 wr) (fun _ i _ _ _=>2*cs.length-(intOf i).toNat)
 case atStart=>exact⟨0,_,Nat.zero_le _,rfl,zHi (zpe cs n),fO.o,aA.o⟩
 case round=>
  obtain⟨k,all,hk,rfl,qH,ae,hB⟩:=hrel;obtain⟨WR,oo⟩: ∃WR,WR=wr:=⟨_,rfl⟩
  subst oo;have jU:=qH.o.len;have hJ:k<=2000:=Mcn;obtain⟨VA,vc,rfl,jo,ka⟩:=ae.sl zaD;have aE:=hB.size;have HB:=zHi hB;have HO:=zHi ae;by_cases aa:k<all.length
  ·obtain⟨b,off,rfl,hb,ah⟩:=jo.at aa;have bU:=srch_next qH.o aa;have am:=zHi aa;generalize all[k]=x at*;have i0:WR.cell? ⟨b,off+k,none⟩=some (.string x):=McO;have ar:(k:Int)<(all.length:Int):=Mcn;have aT:(0:Int)<=(k:Int):=Mcn;have ej:=zHi bU;have GU:Hid (all.length<=(zdg all (zdi cs x)).length):=by
    show _<=_;obtain⟨t,h1,_⟩:=zfK (zdi cs x) all;rw[h1,List.length_append];omega
   have yH:=zHi jU;have bX:=zHi (fun W (h:Below WR.heap.size WR W)=>(show(W.cell? ⟨w.heap.size,0,none⟩=some (.slice LA n0 c0)/\W.cell? ⟨w.heap.size,1,none⟩=some (.slice CA cs.length c1)/\W.cell? ⟨w.heap.size,2,none⟩=some (.slice MA n2 c2)/\W.cell? ⟨w.heap.size,3,none⟩=some (.slice DA n3 c3)/\W.cell? ⟨w.heap.size,4,none⟩=some (.slice WA n4 c4)/\W.cell? ⟨w.heap.size,5,none⟩=some (.slice RA n5 c5)/\W.cell? ⟨w.heap.size,6,none⟩=some (.slice GA n6 c6))/\W.cell? ⟨b,off+k,none⟩=some (.string x) from⟨ax.o W (HB.o.trans (h.mono aE)),(zah h hb).trans i0⟩));have Hk:=zHi (fun W (h:Below WR.heap.size WR W)=>oY.o x W (ak.o.trans ((HB.o.trans (h.mono aE)).mono aw)));generalize iR:zdi cs x=ks at*;have bR:ks.length<=1000:=by rw[<-iR];exact Nat.le_trans (zhX cs x) hl
   have nQ:=zHi bR;clear ah ae hB jo aa bU iR jU i0 bR;go_upto_region 5 with fail
   refine zaC 5 (fun bb w'=>bb=true\/((w'.cell? ⟨w.heap.size,0,none⟩=some (.slice LA n0 c0)/\w'.cell? ⟨w.heap.size,1,none⟩=some (.slice CA cs.length c1)/\w'.cell? ⟨w.heap.size,2,none⟩=some (.slice MA n2 c2)/\w'.cell? ⟨w.heap.size,3,none⟩=some (.slice DA n3 c3)/\w'.cell? ⟨w.heap.size,4,none⟩=some (.slice WA n4 c4)/\w'.cell? ⟨w.heap.size,5,none⟩=some (.slice RA n5 c5)/\w'.cell? ⟨w.heap.size,6,none⟩=some (.slice GA n6 c6))/\w'.cell? ⟨b,off+k,none⟩=some (.string x))) Mco (.inr (bX.o _ (zaH (Below.refl _ _)))) ?hrest
   case hrest=>
    intro hHeld;refine TkM 0 ?_;refine TkM 1 ?_;refine TkM 2 ?_;refine TkM 3 ?_;refine TkM 4 ?_;refine OnM 5 true fun K hK=> ?_
    go_simp
    refine(Hk.o _ (zaH (Below.refl _ _))).mono ?_;rintro e w5 ⟨v5,rfl,o5,aq⟩;refine NxM hK fun hHeld=> ?_
    clear hK K;refine OnM 6 true fun K hK=> ?_
    go_simp
    refine NxM hK fun hHeld=> ?_
    clear hK K;refine zaN Mco ?_ _;clear hHeld;have cH:Below WR.heap.size WR w5:=(zaH (Below.refl _ _):Below WR.heap.size WR WR.drew).trans aq;have o5':OwnS w5 WR.heap.size 9 1 sC v5 ks:=o5;obtain⟨KA,kc,rfl,_,_⟩:=o5'.sl zaD;have bi:=zHi cH;have kM:=zHi o5';have BS:=cH.size;clear aq cH o5 o5';go_upto_region 7 with fail
    go_loopw [5,8] (fun v j wr=> ∃m:Nat,m<=ks.length/\j= .int .i64 m/\OwnS wr W0.heap.size 9 1 sC v (zdg all (ks.take m))/\Hid (∀g,zaA v=some g->zaA (.slice KA ks.length kc)≠some g)/\OwnS wr WR.heap.size 9 1 sC (.slice KA ks.length kc) ks/\Below W0.heap.size W0 wr/\w5.heap.size<=wr.heap.size/\(zdg all (ks.take m)).length<=all.length+m) (fun _ j _=>ks.length-(intOf j).toNat)
    case atStart=>exact⟨0,Nat.zero_le _,rfl,HO.o.keep bi.o,zHi (fun g h1 h2=>by have:=(kM.o.ge g h2).1;have:=(HO.o.ge g h1).2;omega),kM.o,HB.o.trans (bi.o.mono aE),Nat.le_refl _,by simp[zdg]⟩
    case round=>
     obtain⟨m,hm,rfl,tU,iK,bJ,gx,Lf,Ga⟩:=hrel;have Ge:m<=1000:=by have:=nQ.o;omega
     by_cases fh:m<ks.length
     ·have aj:=znw (all:=all) fh;obtain⟨b2,off2,lV,bn,cr⟩:=(ziT zaD bJ).1.at fh;have nS:=zHi fh;generalize zdg all (ks.take m)=ys at*;obtain⟨VY,vy,rfl,rD,sI⟩:=tU.sl zaD;generalize ks[m]=y at*;subst lV;have j0:wr.cell? ⟨b2,off2+m,none⟩=some (.string y):=Md4;have fK:(m:Int)<(ks.length:Int):=Mcn;have nD:(0:Int)<=(m:Int):=Mcn;have B9:Hid (ys.length<=100000):=by show _<=_;have:=yH.o;have:=nQ.o;omega
      have fq:=zHi (fun W (h:Below wr.heap.size wr W)=>zdy ys y VY vy W B9.o sI (rD.keep h));have dJ:=zHi tU;have dI:=zHi bJ;have fE:=zHi gx;have lH:=zHi Ga;have DS:=gx.size;clear cr tU bJ gx rD fh Ga;cases aO:ys.any (zaf y)
      ·have aD:Hid (zdg all (ks.take (m+1))=ys++[y]):=by show _=_;rw[aj,aO];rfl
       rw[aO]at fq;clear aj aO
       go_wp2_with (first
        |(go_at_call 83;go_must(refine(fq.o _ Bw).mono ?_);rintro e wq ⟨rfl,rfl⟩)
        |(at_builtin
          go_loud(refine za1 (v:= .slice VY ys.length vy) (n:=ys.length) (m:=1) rfl _ _ rfl zbL zaD zbK rfl (xs:=ys) (ys:=[y]) (dJ.o.keep (n:=wr.heap.size) Bw) rfl rfl rfl (zga (zar _ _ _ rfl)) (by have:=B9.o;simp[maxLen];omega) (by have:=B9.o;omega) Mcr ?_)
          intro v3 w3 h1 h2 h3;have ay:=Below.grown (B:=W0.heap.size) (a:=W0) (fE.o.trans (Below.mono (B:=wr.heap.size) (zad (Below.refl _ _) _) DS)) h2 Mcr (fun j hj=>(dJ.o.ge j hj).1);have tO:=(dI.o.keep (n:=wr.heap.size) (zad (Below.refl _ _) (.cells #[.string y] 9))).grown h2 (.inr fun e=>iK.o _ e.symm rfl);have Aj: ∀g,zaA v3=some g->zaA (.slice (some ⟨b2,off2,none⟩) ks.length kc)≠some g:=fun g e1 e2=>by
           rcases h3 g e1 with h|h
           ·exact iK.o g h e2
           ·have:=(dI.o.ge g e2).2;simp at h;omega
          have fV:=h2.size;have H1:=zHi h1;have aH:=zHi ay;have I4:=zHi tO;have Ig:=zHi Aj;simp only[World.size_alloc]at fV
          clear h1 h2 h3 ay tO Aj))
       go_round
       case rel=>exact⟨m+1,nS.o,by go_num,by rw[aD.o];exact H1.o,Ig,I4.o,aH.o,by omega,by rw[aD.o,List.length_append];have:=lH.o;simp;omega⟩
       case measure=>have:=nS.o;simp only[intOf];omega
      ·have aD:Hid (zdg all (ks.take (m+1))=ys):=by show _=_;rw[aj,aO];rfl
       rw[aO]at fq;clear aj aO;go_wp2_with (go_at_call 83;go_must(refine(fq.o _ Bw).mono ?_);rintro e wq ⟨rfl,rfl⟩)
       go_round
       case rel=>exact⟨m+1,nS.o,by go_num,by rw[aD.o];exact dJ.o,iK,dI.o,fE.o,Lf,by rw[aD.o];have:=lH.o;omega⟩
       case measure=>have:=nS.o;simp only[intOf];omega
     ·have fK: ¬(m:Int)<(ks.length:Int):=Mcn;rw[List.take_of_length_le Mcn]at tU;have dJ:=zHi tU;have fE:=zHi gx;clear tU bJ gx;go_wp2_with fail
      go_round
      case rel=>exact⟨k+1,_,by have:=GU.o;have:=am.o;omega,by go_num,ej,dJ.o,fE.o⟩
      case measure=>have:=am.o;have:=yH.o;simp only[intOf];omega
  ·have ar: ¬(k:Int)<(all.length:Int):=Mcn;have AK:=zHi (srch_end qH.o Mcn);have ni:=zHi (fun W (h:Below WR.heap.size WR W)=>znv all VA vc W Mcn (jo.keep h));have yH:=zHi jU;clear jo ae hB jU;go_wp2_with (go_at_call 98;go_must(refine(ni.o _ Bw).mono ?_);rintro e wq ⟨vq,rfl,oq,bq⟩)
   go_ret
   exact⟨_,zdf all,rfl,oq.base_le Mcn,fun y=>znt.trans (AK.o y),znu all,Nat.le_trans (ziZ all) yH.o,ak.o.trans ((HB.o.trans (bq.mono aE)).mono aw)⟩
structure StIn (w:World) (laws:List Law) (s:St) (wd rd:List Deed) (LA CA MA DA WA RA GA:Option Addr) (c0 c1 c2 c3 c4 c5 c6:Nat):Prop where
 laws:Sl w 4 Law.cells LA laws
 kids:Sl w 2 zaT CA s.children
 marr:Sl w 2 zaT MA s.marriages
 dead:Sl w 1 sC DA s.dead
 wills:SlW w 7 zfc WA wd
 ren:SlW w 7 zfc RA rd
 graves:SlW w 5 zid GA s.graves
 deadc:s.dead.length<=c3
theorem StIn.keep {w W:World} {laws:List Law} {s:St} {wd rd:List Deed} {LA CA MA DA WA RA GA:Option Addr} {c0 c1 c2 c3 c4 c5 c6 n:Nat} (h:StIn w laws s wd rd LA CA MA DA WA RA GA c0 c1 c2 c3 c4 c5 c6) (hB:Below n w W) (hn:w.heap.size<=n:=by first|exact Nat.le_refl _|omega):StIn W laws s wd rd LA CA MA DA WA RA GA c0 c1 c2 c3 c4 c5 c6:=
 ⟨h.laws.keep hB hn,h.kids.keep hB hn,h.marr.keep hB hn,h.dead.keep hB hn,h.wills.keep zbM hB hn,h.ren.keep zbM hB hn,h.graves.keep zfT hB hn,h.deadc⟩
structure StLink (s:St) (wd rd:List Deed):Prop where
 wills:s.wills=wd.map fun d=>(d.frm,zap d.to)
 shares: ∀d∈wd,∀p∈d.to,za9 16 p.num p.den=true
 ren:s.renounce=rd.map fun d=>(d.frm,zbf d)
 tos: ∀d∈rd,d.to≠[]
structure StFew (s:St) (wd rd:List Deed):Prop where
 kids:s.children.length<=1000
 marr:s.marriages.length<=1000
 dead:s.dead.length<=1000
 wills:wd.length<=1000
 ren:rd.length<=1000
 graves:s.graves.length<=1000
section
variable {laws:List Law} {s:St} {wd rd:List Deed} {LA CA MA DA WA RA GA:Option Addr} {c0 c1 c2 c3 c4 c5 c6:Nat}
theorem sAble (n frm:ByteArray) (w:World) (h:StIn w laws s wd rd LA CA MA DA WA RA GA c0 c1 c2 c3 c4 c5 c6) (hk:StLink s wd rd) (hf:StFew s wd rd):Calls Tryz.prog 86 #[.agg #[.slice LA laws.length c0, .slice CA s.children.length c1, .slice MA s.marriages.length c2, .slice DA s.dead.length c3, .slice WA wd.length c4, .slice RA rd.length c5, .slice GA s.graves.length c6], .string n, .string frm] w (Ret w (.bool (zdZ s n frm))):=by
 rw[<-ableR_eq s rd hk.ren];exact rAble_any rd s.dead n frm LA CA MA DA WA RA GA laws.length c0 s.children.length c1 s.marriages.length c2 s.dead.length c3 wd.length c4 rd.length c5 s.graves.length c6 w (by have:=hf.ren;omega) hk.tos h.ren Meu h.deadc h.dead
theorem sDead (n:ByteArray) (w:World) (h:StIn w laws s wd rd LA CA MA DA WA RA GA c0 c1 c2 c3 c4 c5 c6) (hf:StFew s wd rd):Calls Tryz.prog 32 #[.agg #[.slice LA laws.length c0, .slice CA s.children.length c1, .slice MA s.marriages.length c2, .slice DA s.dead.length c3, .slice WA wd.length c4, .slice RA rd.length c5, .slice GA s.graves.length c6], .string n] w (Ret w (.bool (zaK s n))):=
 zeK s.dead n LA CA MA DA WA RA GA laws.length c0 s.children.length c1 s.marriages.length c2 s.dead.length c3 wd.length c4 rd.length c5 s.graves.length c6 w Meu h.deadc h.dead
theorem sKids (n:ByteArray) (w:World) (h:StIn w laws s wd rd LA CA MA DA WA RA GA c0 c1 c2 c3 c4 c5 c6) (hf:StFew s wd rd):Calls Tryz.prog 101 #[.agg #[.slice LA laws.length c0, .slice CA s.children.length c1, .slice MA s.marriages.length c2, .slice DA s.dead.length c3, .slice WA wd.length c4, .slice RA rd.length c5, .slice GA s.graves.length c6], .string n] w (zdz w (zai s n)):=
 zgB s.children n LA CA MA DA WA RA GA laws.length c0 s.children.length c1 s.marriages.length c2 s.dead.length c3 wd.length c4 rd.length c5 s.graves.length c6 w (by have:=hf.kids;omega) h.kids
theorem sSpouse (n:ByteArray) (w:World) (h:StIn w laws s wd rd LA CA MA DA WA RA GA c0 c1 c2 c3 c4 c5 c6) (hf:StFew s wd rd):Calls Tryz.prog 48 #[.agg #[.slice LA laws.length c0, .slice CA s.children.length c1, .slice MA s.marriages.length c2, .slice DA s.dead.length c3, .slice WA wd.length c4, .slice RA rd.length c5, .slice GA s.graves.length c6], .string n] w (Ret w (.string (zaJ s n))):=by
 rw[<-zoI];exact zmZ s.marriages s.dead n LA CA MA DA WA RA GA laws.length c0 s.children.length c1 s.marriages.length c2 s.dead.length c3 wd.length c4 rd.length c5 s.graves.length c6 w (by have:=hf.marr;omega) h.marr Meu h.deadc h.dead
theorem zmo (place:ByteArray) (day:Int) (w:World) (h:StIn w laws s wd rd LA CA MA DA WA RA GA c0 c1 c2 c3 c4 c5 c6) (hf:StFew s wd rd):Calls Tryz.prog 23 #[.agg #[.slice LA laws.length c0, .slice CA s.children.length c1, .slice MA s.marriages.length c2, .slice DA s.dead.length c3, .slice WA wd.length c4, .slice RA rd.length c5, .slice GA s.graves.length c6], .string place, .int .i64 day] w (Ret w (.int .i64 (zk6 s.graves place day))):=
 zoF s.graves place day LA CA MA DA WA RA GA laws.length c0 s.children.length c1 s.marriages.length c2 s.dead.length c3 wd.length c4 rd.length c5 s.graves.length c6 w (by have:=hf.graves;omega) h.graves
theorem sDesc (n:ByteArray) (w:World) (h:StIn w laws s wd rd LA CA MA DA WA RA GA c0 c1 c2 c3 c4 c5 c6) (hf:StFew s wd rd):Calls Tryz.prog 49 #[.agg #[.slice LA laws.length c0, .slice CA s.children.length c1, .slice MA s.marriages.length c2, .slice DA s.dead.length c3, .slice WA wd.length c4, .slice RA rd.length c5, .slice GA s.graves.length c6], .string n] w (DescR w s.children n):=
 rDesc_any s.children n LA CA MA DA WA RA GA laws.length c0 s.children.length c1 s.marriages.length c2 s.dead.length c3 wd.length c4 rd.length c5 s.graves.length c6 w hf.kids h.kids
theorem zmp (l:List RPart) (A:Option Addr) (c:Nat) (w:World) (h:StIn w laws s wd rd LA CA MA DA WA RA GA c0 c1 c2 c3 c4 c5 c6) (hf:StFew s wd rd) (hl:l.length<=1000000) (hS:Sl w 3 RPart.cells A l):Calls Tryz.prog 233 #[.agg #[.slice LA laws.length c0, .slice CA s.children.length c1, .slice MA s.marriages.length c2, .slice DA s.dead.length c3, .slice WA wd.length c4, .slice RA rd.length c5, .slice GA s.graves.length c6], .slice A l.length c] w (Ret w (.bool (ze3 s l))):=
 zk7 l A c s.dead LA CA MA DA WA RA GA laws.length c0 s.children.length c1 s.marriages.length c2 s.dead.length c3 wd.length c4 rd.length c5 s.graves.length c6 w hl hS Meu h.deadc h.dead
end
def zd4 (s:St) (stems:Bool) (frm:ByteArray):Nat->ByteArray->List ByteArray
 |0,_=>[]
 |f+1,n=>(zai s n).filter fun c=>(zcR s stems frm f c).isSome
theorem zgK {α β:Type} (g:α->Option β): ∀l:List α,(l.filterMap g).length=(l.filter fun x=>(g x).isSome).length
 | []=>rfl
 |x::l=>by
  have ih:=zgK g l;cases hg:g x
  ·rw[List.filterMap_cons_none hg,List.filter_cons_of_neg (by simp[hg]),ih]
  ·rw[List.filterMap_cons_some hg,List.filter_cons_of_pos (by simp[hg]),List.length_cons,List.length_cons,ih]
theorem zgL (s:St) (stems:Bool) (frm:ByteArray): ∀(f:Nat) (n:ByteArray),(zb5 s stems frm f n).length=(zd4 s stems frm f n).length
 |0,_=>rfl
 |f+1,n=>by rw[zfD,zgK];rfl
theorem znx {α:Type} (p:α->Bool) (l:List α) {k:Nat} (h:k<l.length):(l.take (k+1)).filter p=(l.take k).filter p++if p l[k]then[l[k]]else[]:=by
 rw[List.take_add_one,List.getElem?_eq_getElem h,List.filter_append];simp only[Option.toList_some,List.filter_cons,List.filter_nil]
theorem rLeads_of (laws:List Law) (s:St) (wd rd:List Deed) (LA CA MA DA WA RA GA:Option Addr) (c0 c1 c2 c3 c4 c5 c6:Nat) (law:Law) (frm:ByteArray) (hk:StLink s wd rd) (hf:StFew s wd rd) (f:Nat) (n:ByteArray) (w:World) (h:StIn w laws s wd rd LA CA MA DA WA RA GA c0 c1 c2 c3 c4 c5 c6)
 (IH: ∀W,Below w.heap.size w W->Calls Tryz.prog 88 #[.agg #[.slice LA laws.length c0, .slice CA s.children.length c1, .slice MA s.marriages.length c2, .slice DA s.dead.length c3, .slice WA wd.length c4, .slice RA rd.length c5, .slice GA s.graves.length c6],law.v, .string n, .string frm] W (zdz W (zd4 s law.stems frm f n))):
 Calls Tryz.prog 155 #[.agg #[.slice LA laws.length c0, .slice CA s.children.length c1, .slice MA s.marriages.length c2, .slice DA s.dead.length c3, .slice WA wd.length c4, .slice RA rd.length c5, .slice GA s.graves.length c6],law.v, .string n, .string frm] w (Ret w (.bool (zcR s law.stems frm f n).isSome)):=by
 have fD:=zHi (fun W (hB:Below w.heap.size w W)=>sAble n frm W (h.keep hB) hk hf);have dG:(zcR s law.stems frm f n).isSome=(zdZ s n frm||law.stems&&decide (0<(zd4 s law.stems frm f n).length)):=by
  rw[<-zgL];unfold zcR;cases zdZ s n frm
  ·cases law.stems
   ·rfl
   ·cases zb5 s true frm f n<;>rfl
  ·rfl
 rw[dG];unfold Law.v at IH⊢;generalize zdZ s n frm=ab at*;generalize zd4 s law.stems frm f n=ls at*;have I2:=zHi IH;clear dG IH h;go_enter Tryz.func155,Tryz.ntmps155
 go_upto_region 1 with fail
 obtain⟨W0,ao⟩: ∃W0,W0=(w.alloc (.cells #[.slice LA laws.length c0, .slice CA s.children.length c1, .slice MA s.marriages.length c2, .slice DA s.dead.length c3, .slice WA wd.length c4, .slice RA rd.length c5, .slice GA s.graves.length c6] 36)).alloc (.cells #[.int .i64 law.frm, .bool law.stems, .int .i64 law.num, .int .i64 law.den] 130):=⟨_,rfl⟩
 have g0:W0.heap[w.heap.size]?=some (.cells #[.slice LA laws.length c0, .slice CA s.children.length c1, .slice MA s.marriages.length c2, .slice DA s.dead.length c3, .slice WA wd.length c4, .slice RA rd.length c5, .slice GA s.graves.length c6] 36):=Mdl;have g1:W0.heap[w.heap.size+1]?=some (.cells #[.int .i64 law.frm, .bool law.stems, .int .i64 law.num, .int .i64 law.den] 130):=by rw[ao];exact zar _ _ _ Mcq
 have aJ:Below w.heap.size w W0:=McU;rw[<-ao];clear ao;obtain⟨d0,d1,d2,d3,d4,d5,d6⟩:=zaG g0;obtain⟨e0,e1,e2,e3⟩:=cF4 g1;have l0:=zab g0;have l1:=zab g1;have aw:=aJ.size;have ak:=zHi aJ;clear aJ g0 g1;cases ab
 ·generalize law.stems=st at*;cases st
  ·exact MaM
  ·go_upto_region 5 with(go_at_call 86;go_must(refine(fD.o _ Mdi).mono ?_);rintro e wq ⟨rfl,z,rfl⟩)
   by_cases hz:0<ls.length
   ·have ja:(0:Int)<(ls.length:Int):=Mcn;exact Maf
   ·have ja: ¬(0:Int)<(ls.length:Int):=Mcn;exact Maf
 ·exact MaM
theorem zhn (laws:List Law) (s:St) (wd rd:List Deed) (LA CA MA DA WA RA GA:Option Addr) (c0 c1 c2 c3 c4 c5 c6:Nat) (law:Law) (frm:ByteArray) (hk:StLink s wd rd) (hf:StFew s wd rd): ∀(f:Nat) (n:ByteArray) (w:World),StIn w laws s wd rd LA CA MA DA WA RA GA c0 c1 c2 c3 c4 c5 c6->Deep s f n->
 Calls Tryz.prog 88 #[.agg #[.slice LA laws.length c0, .slice CA s.children.length c1, .slice MA s.marriages.length c2, .slice DA s.dead.length c3, .slice WA wd.length c4, .slice RA rd.length c5, .slice GA s.graves.length c6],law.v, .string n, .string frm] w (zdz w (zd4 s law.stems frm f n))
 |0,n,w,_,hd=>hd.elim
 |f+1,n,w,h,hd=>by
  have AV:=zHi (fun(c:ByteArray) (W:World) (hc:c∈zai s n) (hB:Below w.heap.size w W)=>rLeads_of laws s wd rd LA CA MA DA WA RA GA c0 c1 c2 c3 c4 c5 c6 law frm hk hf f c W (h.keep hB) fun W' ft=>zhn laws s wd rd LA CA MA DA WA RA GA c0 c1 c2 c3 c4 c5 c6 law frm hk hf f c W' ((h.keep hB).keep ft) (hd c hc));have jQ:=zHi (fun W (hB:Below w.heap.size w W)=>sKids n W (h.keep hB) hf);have bR:(zai s n).length<=1000:=Nat.le_trans (zhX s.children n) hf.kids;rw[show zd4 s law.stems frm (f+1) n=(zai s n).filter (fun c=>(zcR s law.stems frm f c).isSome) from rfl];unfold zdz;unfold Law.v at AV⊢;generalize zai s n=ks at*;generalize hP:(fun c=>(zcR s law.stems frm f c).isSome)=P at*;have I9:Hid (∀c W,c∈ks->Below w.heap.size w W->Calls Tryz.prog 155 #[.agg #[.slice LA laws.length c0, .slice CA s.children.length c1, .slice MA s.marriages.length c2, .slice DA s.dead.length c3, .slice WA wd.length c4, .slice RA rd.length c5, .slice GA s.graves.length c6], .agg #[.int .i64 law.frm, .bool law.stems, .int .i64 law.num, .int .i64 law.den], .string c, .string frm] W (Ret W (.bool (P c)))):=zHi (by rw[<-hP];exact AV.o);have ej:=zHi (fun k hk=>znx P ks (k:=k) hk);have nQ:=zHi bR;clear hP AV h hd bR;go_enter Tryz.func88,Tryz.ntmps88
  go_upto_region 1 with fail
  obtain⟨W0,ao⟩: ∃W0,W0=(w.alloc (.cells #[.slice LA laws.length c0, .slice CA s.children.length c1, .slice MA s.marriages.length c2, .slice DA s.dead.length c3, .slice WA wd.length c4, .slice RA rd.length c5, .slice GA s.graves.length c6] 36)).alloc (.cells #[.int .i64 law.frm, .bool law.stems, .int .i64 law.num, .int .i64 law.den] 130):=⟨_,rfl⟩
  have g0:W0.heap[w.heap.size]?=some (.cells #[.slice LA laws.length c0, .slice CA s.children.length c1, .slice MA s.marriages.length c2, .slice DA s.dead.length c3, .slice WA wd.length c4, .slice RA rd.length c5, .slice GA s.graves.length c6] 36):=Mdl;have g1:W0.heap[w.heap.size+1]?=some (.cells #[.int .i64 law.frm, .bool law.stems, .int .i64 law.num, .int .i64 law.den] 130):=by rw[ao];exact zar _ _ _ Mcq
  have aJ:Below w.heap.size w W0:=McU;rw[<-ao];clear ao;obtain⟨d0,d1,d2,d3,d4,d5,d6⟩:=zaG g0;have l0:=zab g0;have l1:=zab g1;have ak:=zHi aJ;go_upto_region 4 with(go_at_call 101;go_must(refine(jQ.o _ Mdi).mono ?_);rintro e w1 ⟨v1,rfl,o1,b1⟩)
  obtain⟨KA,kc,rfl,im,_⟩:=o1.sl zaD;have G0:=zHi ((b1.block _ l0).trans g0);have G1:=zHi ((b1.block _ l1).trans g1);have aA:=zHi (aJ.trans (b1.mono aJ.size));have ic:=zHi im;have gw:=aA.o.size;have aU:w.heap.size+1<w1.heap.size:=Nat.lt_of_lt_of_le l1 b1.size;clear o1 b1 aJ d0 d1 d2 d3 d4 d5 d6 g0 g1 im jQ l0 l1;go_loopw [10,11] (fun v i wr=> ∃k:Nat,k<=ks.length/\i= .int .i64 k/\OwnS wr w1.heap.size 9 1 sC v ((ks.take k).filter P)/\Below w1.heap.size w1 wr) (fun _ i _=>ks.length-(intOf i).toNat)
  case atStart=>exact⟨0,Nat.zero_le _,rfl,OwnS.nil,Below.refl _ _⟩
  case round=>
   obtain⟨k,hk,rfl,ae,hB⟩:=hrel;have hJ:k<=1000:=by have:=nQ.o;omega
   have aE:=hB.size;have HO:=zHi ae;have HB:=zHi hB;by_cases aa:k<ks.length
   ·have aj:=ej.o k aa;have bH:=List.getElem_mem aa;have bv:((ks.take k).filter P).length<=1000:=by
     have h1:=List.length_filter_le P (ks.take k);rw[List.length_take]at h1;have:=nQ.o;omega
    generalize(ks.take k).filter P=xs at*;obtain⟨VA,vc,rfl,_,ka⟩:=ae.sl zaD;obtain⟨b,off,rfl,hb,ah⟩:=(ic.o.keep hB).at aa;have am:=zHi aa;generalize ks[k]=x at*;have i0:wr.cell? ⟨b,off+k,none⟩=some (.string x):=McO;obtain⟨d0,d1,d2,d3,d4,d5,d6⟩:=zaG ((hB.block _ Mcn).trans G0.o);have g1:=(hB.block _ Mcn).trans G1.o;obtain⟨e0,e1,e2,e3⟩:=cF4 g1;have ar:(k:Int)<(ks.length:Int):=Mcn;have aT:(0:Int)<=(k:Int):=Mcn;have fP:=zHi bv;have EE:=zHi (aA.o.trans (hB.mono gw));have lI:=zHi (fun W (hW:Below wr.heap.size wr W)=>I9.o x W bH (EE.o.trans (hW.mono EE.o.size)));have bS:w.heap.size<wr.heap.size:=Mcn;have yx:w.heap.size+1<wr.heap.size:=Mcn;clear ah aa ae hB bv g1 bH;go_upto_region 6 with fail
    cases hp:P x
    ·have aD:Hid ((ks.take (k+1)).filter P=xs):=by show _=_;rw[aj,hp];simp
     rw[hp]at lI;clear aj hp
     (refine zan Mco Mco ?_
      repeat(first|go_big_quiet_skip|(go_big_quiet_want;go_big_quiet_op;first|go_big_quiet_on|(apply Exists.intro;refine⟨fun _=> ?_,?_⟩;(go_at_call 155;exact quietx (lI.o _ Bw));go_big_quiet_on)))
      refine wpQuiet_nil ?_
      rintro _ ⟨zq,rfl⟩)
     go_wp2_with fail
     go_round
     case rel=>exact⟨k+1,am.o,by go_num,by rw[aD.o];exact HO.o.keep (n:=wr.heap.size) (zaq wr zq),zb6 HB.o zq⟩
     case measure=>have:=am.o;simp only[intOf];omega
    ·have aD:Hid ((ks.take (k+1)).filter P=xs++[x]):=by show _=_;rw[aj,hp];rfl
     rw[hp]at lI;clear aj hp
     (refine zan Mco Mco ?_
      repeat(first|go_big_quiet_skip|(go_big_quiet_want;go_big_quiet_op;first|go_big_quiet_on|(apply Exists.intro;refine⟨fun _=> ?_,?_⟩;(go_at_call 155;exact quietx (lI.o _ Bw));go_big_quiet_on)))
      refine wpQuiet_nil ?_
      rintro _ ⟨zq,rfl⟩)
     go_wp2_with (at_builtin
                  go_loud(refine za1 (v:= .slice VA xs.length vc) (n:=xs.length) (m:=1) rfl _ _ rfl zbL zaD zbK rfl (xs:=xs) (ys:=[x]) (HO.o.keep (n:=wr.heap.size) Bw) rfl rfl rfl (zga (zar _ _ _ MdG)) McX Mc3 Mcw ?_)
                  intro v3 w3 h1 h2 h3;have ay:=Below.grown (B:=w1.heap.size) (a:=w1) (HB.o.trans (Below.mono (B:=wr.heap.size) (zad (zaq wr zq) _) aE)) h2 Mcw (fun j hj=>(HO.o.ge j hj).1);have H1:=zHi h1;have aH:=zHi ay
                  clear h1 h2 h3 ay)
     exact Mah
   ·have ar: ¬(k:Int)<(ks.length:Int):=Mcn;rw[List.take_of_length_le Mcn]at HO ae;obtain⟨VA,vc,rfl,_,_⟩:=ae.sl zaD;clear ae hB;go_wp2_with fail
    go_ret
    exact⟨.slice VA (ks.filter P).length vc,rfl,HO.o.base_le gw,aA.o.trans (HB.o.mono gw)⟩
def zeN (share:Rat) (T:List Tree) (out:Parts):Option Parts:=if bigQ (share*(1/(T.length:Rat)))then none else zbE (share*(1/(T.length:Rat))) T out
theorem zh5 (a:Rat) (n:Nat):a/(n:Rat)=a*(1/(n:Rat)):=by grind
theorem tree_node {each:Rat} {l:List Tree} {out:Parts}:zem each (.node l) out=zeN each l out:=by
 rw[zem,zeN,zh5]
mutual
theorem zgM {each:Rat} {L:List ByteArray}: ∀ {l:List Tree} {out o:Parts},zbE each l out=some o->zc5 L l->zci out L->zci o L
 | [],out,o,h,_,hn=>by
   rw[zbE]at h;cases h;exact hn
 |x::l,out,o,h,hl,hn=>by
  rw[zc5]at hl;rw[zbE]at h;cases ht:zem each x out with
  |none=>rw[ht]at h;cases h
  |some o1=>
   rw[ht]at h;exact zgM (l:=l) h hl.2 (zjb ht hl.1 hn)
theorem zjb {each:Rat} {L:List ByteArray}: ∀ {x:Tree} {out o:Parts},zem each x out=some o->zfs L x->zci out L->zci o L
 | .leaf n,out,o,h,hl,hn=>by
   rw[zfs]at hl;rw[zem]at h;split at h
   ·cases h
   ·cases h;intro p hp;rcases zfe hp with e|hp
    ·rw[e];exact hl
    ·exact hn p hp
 | .node l,out,o,h,hl,hn=>by
   rw[zfs]at hl;rw[zem]at h;split at h
   ·cases h
   ·exact zgM (l:=l) h hl hn
end
theorem zgN {out:Parts} {L:List ByteArray} (hg:GoodParts out) (h:zci out L):out.length<=L.length:=by
 haveI:DecidableEq ByteArray:=fun a b=>Classical.propDecidable _
 have hn:(out.map (·.1)).Nodup:=by
  rw[List.nodup_iff_pairwise_ne,List.pairwise_map];exact hg.asc.imp fun h=>zcH h
 have:=ziK hn (m:=L) fun x hx=>by
  obtain⟨p,hp,rfl⟩:=List.mem_map.1 hx;exact h p hp
 simpa using this
theorem zjc {out:Parts} {L:List ByteArray} {n:ByteArray} {q:Rat} (h:zci out L) (hn:n∈L):zci (za4 out n q) L:=fun p hp=>by
 rcases zfe hp with e|hp
 ·rw[e];exact hn
 ·exact h p hp
theorem zoh {α β:Type} (g:α->Option β): ∀(l:List α) (k:Nat) (x:α),(l.filter fun x=>(g x).isSome)[k]?=some x->x∈l/\ ∃t,g x=some t/\(l.filterMap g)[k]?=some t
 | [],k,x,h=>by simp at h
 |y::l,k,x,h=>by
  cases hg:g y with
  |none=>
   rw[List.filter_cons_of_neg (by simp[hg])]at h;rw[List.filterMap_cons_none hg];exact MbN
  |some t=>
   rw[List.filter_cons_of_pos (by simp[hg])]at h;rw[List.filterMap_cons_some hg];cases k with
   |zero=>
    obtain rfl:y=x:=by simpa using h
    exact⟨by simp,t,hg,rfl⟩
   |succ k=>
    exact MbN
structure Hd (out:Parts) (L:List ByteArray):Prop where
 good:GoodParts out
 small:zaF out=false
 names:zci out L
theorem Hd.parts {out:Parts} {L:List ByteArray} (h:Hd out L) (hs:sumQ out<=1): ∀p∈out,zaI p.2:=fun p hp=>(zdJ (hs:=out) ⟨h.good,h.small,hs⟩ hp).2.2
def SprPost (w:World) (R:Option Parts) (e:Ending) (w':World):Prop:=
 ∃(A:Option Addr) (c:Nat) (xs:Parts),e= .returned (.slice A xs.length c)/\Sl w' 3 zaa A xs/\Below w.heap.size w w'/\xs.length<=100000/\(R=some xs\/(R=none/\zaF xs=true))
theorem zka {L:List ByteArray}: ∀ {T:List Tree},zc5 L T-> ∀t∈T,zfs L t
 | [],_,t,ht=>by cases ht
 |x::T,h,t,ht=>by
  rw[zc5]at h;rcases List.mem_cons.1 ht with rfl|ht
  ·exact h.1
  ·exact zka h.2 t ht
theorem zjd (laws:List Law) (s:St) (wd rd:List Deed) (LA CA MA DA WA RA GA:Option Addr) (c0 c1 c2 c3 c4 c5 c6:Nat) (law:Law) (frm:ByteArray) (L:List ByteArray) (hk:StLink s wd rd) (hf:StFew s wd rd) (hL: ∀c∈s.children,c.2∈L) (tw:L.length<=90000):
 ∀(f:Nat) (n:ByteArray) (share:Rat) (A:Option Addr) (c:Nat) (out:Parts) (w:World),StIn w laws s wd rd LA CA MA DA WA RA GA c0 c1 c2 c3 c4 c5 c6->Deep s f n->Sl w 3 zaa A out->Hd out L->0<=share->zaI share->sumQ out+share<=1->0<(zd4 s law.stems frm f n).length->
 Calls Tryz.prog 89 #[.agg #[.slice LA laws.length c0, .slice CA s.children.length c1, .slice MA s.marriages.length c2, .slice DA s.dead.length c3, .slice WA wd.length c4, .slice RA rd.length c5, .slice GA s.graves.length c6],law.v, .string n, .string frm,zaB share, .slice A out.length c] w (SprPost w (zeN share (zb5 s law.stems frm f n) out))
 |0,n,_,_,_,_,w,_,hd,_,_,_,_,_,_=>hd.elim
 |f+1,n,share,A,c,out,w,h,hd,hS,hH,aw,sE,dR,ai=>by
  have cU:=zHi (fun W (hB:Below w.heap.size w W)=>zhn laws s wd rd LA CA MA DA WA RA GA c0 c1 c2 c3 c4 c5 c6 law frm hk hf (f+1) n W (h.keep hB) hd);have fD:=zHi (fun x W (hB:Below w.heap.size w W)=>sAble x frm W (h.keep hB) hk hf);have qF:=zHi (fun(x:ByteArray) (hx:x∈zai s n) (share:Rat) (A:Option Addr) (c:Nat) (out:Parts) (W:World) (hB:Below w.heap.size w W)=>zjd laws s wd rd LA CA MA DA WA RA GA c0 c1 c2 c3 c4 c5 c6 law frm L hk hf hL tw f x share A c out W (h.keep hB) (hd x hx));have fg:=zgL s law.stems frm (f+1) n;have bR:(zd4 s law.stems frm (f+1) n).length<=1000:=Nat.le_trans (List.length_filter_le _ _) (Nat.le_trans (zhX s.children n) hf.kids);have gW:=fun k x hx=>zoh (zcR s law.stems frm f) (zai s n) k x hx
  rw[<-show zd4 s law.stems frm (f+1) n=(zai s n).filter (fun c=>(zcR s law.stems frm f c).isSome) from rfl,<-zfD]at gW;have bJ:=zkj s law.stems frm (f+1) n;have sk:=zft (stems:=law.stems) (frm:=frm) hL (f+1) n;unfold zeN;rw[fg];obtain⟨ct,fC,Gc,Gd⟩:=zhP ai;have mJ:=zl6 ai bR;have jd:=zHi (fun W=>zg7 share (1/((zd4 s law.stems frm (f+1) n).length:Rat)) W sE mJ);unfold zaB at jd qF⊢;rw[ct,fC]at jd;have gF:share*(1/((zd4 s law.stems frm (f+1) n).length:Rat))*((zd4 s law.stems frm (f+1) n).length:Rat)=share:=by
   have:=ratN (Nat.pos_iff_ne_zero.1 ai);grind
  have FJ:0<=share*(1/((zd4 s law.stems frm (f+1) n).length:Rat)):=Rat.mul_nonneg aw Gc;have pB:share*(1/((zd4 s law.stems frm (f+1) n).length:Rat))<=share:=by
   have:=Rat.mul_le_mul_of_nonneg_left Gd aw;rwa [Rat.mul_one]at this
  generalize zd4 s law.stems frm (f+1) n=ls at*;generalize zb5 s law.stems frm (f+1) n=T at*;generalize share*(1/(ls.length:Rat))=each at*;obtain⟨R,hR⟩: ∃R,R=if bigQ each then none else zbE each T out:=⟨_,rfl⟩
  rw[<-hR];have HR:=zHi hR;have HS:=zHi hS;have GW:=zHi gW;have Hz:=zHi hH;have us:=zHi FJ;have tX:0<=sumQ out:=zbp fun p hp=>by have:=hH.good.pos p hp;grind
  have eO:Hid (each<=1):=by show _<=_;grind
  have t8:Hid (sumQ out+each*(ls.length:Rat)<=1):=by show _<=_;rw[gF];exact dR
  have lH:=zHi fg;have nQ:=zHi bR;have dI:=zHi bJ;have Ia:=zHi sk;unfold Law.v at cU qF⊢;unfold SprPost;clear h hd hS hH sE dR fg bR gW bJ sk ct fC Gc Gd mJ gF FJ pB hR tX aw;go_enter Tryz.func89,Tryz.ntmps89
  go_upto_region 1 with fail
  obtain⟨W0,ao⟩: ∃W0,W0=((w.alloc (.cells #[.slice LA laws.length c0, .slice CA s.children.length c1, .slice MA s.marriages.length c2, .slice DA s.dead.length c3, .slice WA wd.length c4, .slice RA rd.length c5, .slice GA s.graves.length c6] 36)).alloc (.cells #[.int .i64 law.frm, .bool law.stems, .int .i64 law.num, .int .i64 law.den] 130)).alloc (.cells #[.int .i64 share.num, .int .i64 share.den] 71):=⟨_,rfl⟩
  have g0:W0.heap[w.heap.size]?=some (.cells #[.slice LA laws.length c0, .slice CA s.children.length c1, .slice MA s.marriages.length c2, .slice DA s.dead.length c3, .slice WA wd.length c4, .slice RA rd.length c5, .slice GA s.graves.length c6] 36):=Mdq;have g1:W0.heap[w.heap.size+1]?=some (.cells #[.int .i64 law.frm, .bool law.stems, .int .i64 law.num, .int .i64 law.den] 130):=by rw[ao];exact zal (zar _ _ _ Mcq)
  have g2:W0.heap[w.heap.size+2]?=some (.cells #[.int .i64 share.num, .int .i64 share.den] 71):=by rw[ao];exact zar _ _ _ Mcq
  have aJ:Below w.heap.size w W0:=McU;rw[<-ao];clear ao;have l2:=zab g2;have ak:=zHi aJ;have lT:=aJ.size
  have ax:=zHi (fun W (hB:Below W0.heap.size W0 W)=>(show(W.cell? ⟨w.heap.size,0,none⟩=some (.slice LA laws.length c0)/\W.cell? ⟨w.heap.size,1,none⟩=some (.slice CA s.children.length c1)/\W.cell? ⟨w.heap.size,2,none⟩=some (.slice MA s.marriages.length c2)/\W.cell? ⟨w.heap.size,3,none⟩=some (.slice DA s.dead.length c3)/\W.cell? ⟨w.heap.size,4,none⟩=some (.slice WA wd.length c4)/\W.cell? ⟨w.heap.size,5,none⟩=some (.slice RA rd.length c5)/\W.cell? ⟨w.heap.size,6,none⟩=some (.slice GA s.graves.length c6))/\(W.cell? ⟨w.heap.size+1,0,none⟩=some (.int .i64 law.frm)/\W.cell? ⟨w.heap.size+1,1,none⟩=some (.bool law.stems)/\W.cell? ⟨w.heap.size+1,2,none⟩=some (.int .i64 law.num)/\W.cell? ⟨w.heap.size+1,3,none⟩=some (.int .i64 law.den))/\(W.cell? ⟨w.heap.size+2,0,none⟩=some (.int .i64 share.num)/\W.cell? ⟨w.heap.size+2,1,none⟩=some (.int .i64 share.den)) from by
   have x0:=(hB.block _ Mcn).trans g0;have x1:=(hB.block _ Mcn).trans g1;have x2:=(hB.block _ l2).trans g2
   refine⟨zaG x0,⟨?_,?_,?_,?_⟩,zbu x2⟩<;>(simp only[World.cell?,x1];rfl)))
  obtain⟨⟨d0,d1,d2,d3,d4,d5,d6⟩,⟨e0,e1,e2,e3⟩,q0,q1⟩:=ax.o W0 (Below.refl _ _);clear g0 g1 g2 aJ;go_upto_region 3 with(go_at_call 88;go_must(refine(cU.o _ Mdi).mono ?_);rintro e w1 ⟨v1,rfl,o1,b1⟩)
  obtain⟨KA,kc,rfl,im,_⟩:=o1.sl zaD;have aA:=zHi b1;have ic:=zHi im;have gw:=b1.size;clear o1 b1 im cU d0 d1 d2 d3 d4 d5 d6 e0 e1 e2 e3 q0 q1;go_loopw [5,14,15] (fun v i _ wr=> ∃(k:Nat) (ys:Parts) (YA:Option Addr) (yc:Nat),k<=ls.length/\v= .slice YA ys.length yc/\i= .int .i64 k/\Hid (R=if bigQ each then none else zbE each (T.drop k) ys)/\Hid (Hd ys L)/\Hid (sumQ ys+each*((ls.length-k:Nat):Rat)<=1)/\(0<k->bigQ each=false)/\Sl wr 3 zaa YA ys/\Below w1.heap.size w1 wr) (fun _ i _ _=>ls.length-(intOf i).toNat)
  case atStart=>exact⟨0,out,A,c,Nat.zero_le _,rfl,rfl,zHi (by rw[List.drop_zero];exact HR.o),Hz,zHi (by rw[Nat.sub_zero];exact t8.o),fun h=>absurd h Mcn,(HS.o.keep ak.o).keep aA.o,Below.refl _ _⟩
  case round=>
   obtain⟨k,zs,ZA,zc,hk,rfl,rfl,HX,HZ,th,kr,hZ,hB⟩:=hrel;have hJ:k<=1000:=by have:=nQ.o;omega
   have aE:=hB.size;have HB:=zHi hB;have ph:=zHi hZ;have cw:=aA.o.trans (hB.mono gw);by_cases aa:k<ls.length
   ·obtain⟨mU,t,cK,dS⟩:=GW.o k ls[k] (List.getElem?_eq_getElem aa);obtain⟨b,off,rfl,hb,ah⟩:=(ic.o.keep hB).at aa;generalize ls[k]=x at*;have i0:wr.cell? ⟨b,off+k,none⟩=some (.string x):=McO;have oR:t∈T:=List.mem_of_getElem? dS;have gD:T.drop k=t::T.drop (k+1):=by
     have h1:=(List.getElem?_eq_some_iff.1 dS)
     rw[List.drop_eq_getElem_cons h1.1,h1.2]
    have mn:((ls.length-k:Nat):Rat)=((ls.length-(k+1):Nat):Rat)+1:=by
     rw[show ls.length-k=(ls.length-(k+1))+1 by omega];exact zg5 _
    have i8:0<=each*((ls.length-(k+1):Nat):Rat):=Rat.mul_nonneg us.o Rat.natCast_nonneg;have yG:sumQ zs+each<=1:=by have:=th.o;rw[mn]at this;grind
    have hx:=HX.o;rw[gD,zbE]at hx;obtain⟨R1,vR⟩: ∃R1,R1=zem each t zs:=⟨_,rfl⟩
    rw[<-vR]at hx
    have ig:Hid (∀ys,R1=some ys->bigQ each=false->Hid (R=if bigQ each then none else zbE each (T.drop (k+1)) ys)/\Hid (Hd ys L)/\Hid (sumQ ys+each*((ls.length-(k+1):Nat):Rat)<=1)):=zHi (fun ys h1 h2=>by
     rw[vR]at h1;have hg:=zik us.o HZ.o.good HZ.o.small h1;refine⟨zHi (by rw[hx,vR,h1];rfl),zHi ⟨hg.1,hg.2,zjb h1 (zka Ia.o t oR) HZ.o.names⟩,zHi ?_⟩;have h3:=znA (zmw.1 dI.o t oR) h1;have h4:=th.o;rw[mn]at h4;rw[h3]
     grind)
    have ng:Hid (R1=none->R=none):=zHi (fun h1=>by rw[hx,h1];split<;>rfl);have ar:(k:Int)<(ls.length:Int):=Mcn;have aT:(0:Int)<=(k:Int):=Mcn;obtain⟨⟨d0,d1,d2,d3,d4,d5,d6⟩,⟨e0,e1,e2,e3⟩,q0,q1⟩:=ax.o wr cw;have yx:w.heap.size+2<wr.heap.size:=Mcn;have am:=zHi aa;have bs:=zHi mU;have Ix:=zHi cK;have jS:=zHi vR;have zi:=zHi yG;have aW:=zHi cw;clear ah hB hZ hx gD mn i8 yG oR dS cK vR mU cw aa;go_upto_region 6 with(go_at_call 40;go_must(refine(jd.o _).mono ?_);rintro e wq ⟨rfl,z,rfl⟩)
    obtain⟨E,hE⟩: ∃E,E=wr.heap.size+z.os.size:=⟨_,rfl⟩
    obtain⟨WE,zH⟩: ∃WE,WE=(wr.ext z).alloc (.cells #[.int .i64 each.num, .int .i64 each.den] 71):=⟨_,rfl⟩
    have gE:WE.heap[E]?=some (.cells #[.int .i64 each.num, .int .i64 each.den] 71):=by rw[zH];exact zar _ _ _ (by rw[hE];simp[zae])
    have rI:Below wr.heap.size wr WE:=by rw[zH];exact zad (zaq wr z) _
    rw[<-zH,<-hE];clear zH hE d0 d1 d2 d3 d4 d5 d6 e0 e1 e2 e3 q0 q1;obtain⟨v0,v1⟩:=zbu gE;have EZ:=rI.size;have EY:=zab gE
    have bX:=zHi (fun W (h:Below WE.heap.size WE W)=>(show((W.cell? ⟨w.heap.size,0,none⟩=some (.slice LA laws.length c0)/\W.cell? ⟨w.heap.size,1,none⟩=some (.slice CA s.children.length c1)/\W.cell? ⟨w.heap.size,2,none⟩=some (.slice MA s.marriages.length c2)/\W.cell? ⟨w.heap.size,3,none⟩=some (.slice DA s.dead.length c3)/\W.cell? ⟨w.heap.size,4,none⟩=some (.slice WA wd.length c4)/\W.cell? ⟨w.heap.size,5,none⟩=some (.slice RA rd.length c5)/\W.cell? ⟨w.heap.size,6,none⟩=some (.slice GA s.graves.length c6))/\(W.cell? ⟨w.heap.size+1,0,none⟩=some (.int .i64 law.frm)/\W.cell? ⟨w.heap.size+1,1,none⟩=some (.bool law.stems)/\W.cell? ⟨w.heap.size+1,2,none⟩=some (.int .i64 law.num)/\W.cell? ⟨w.heap.size+1,3,none⟩=some (.int .i64 law.den))/\W.cell? ⟨b,off+k,none⟩=some (.string x)/\W.cell? ⟨E,0,none⟩=some (.int .i64 each.num)/\W.cell? ⟨E,1,none⟩=some (.int .i64 each.den)) from by
     have hw:=ax.o W (aW.o.trans ((rI.trans (h.mono EZ)).mono aW.o.size))
     exact⟨hw.1,hw.2.1,(zah (rI.trans (h.mono EZ)) hb).trans i0,(zah h EY).trans v0,(zah h EY).trans v1⟩))
    have qe:=zHi (HB.o.trans (rI.mono aE));have lq:=zHi (aW.o.trans (rI.mono aW.o.size));have EL:=zHi (ph.o.keep rI);clear gE rI i0 ph;by_cases hbig:bigQ each=true
    ·have dg:1000000000<(each.den:Int):=by unfold bigQ at hbig;simpa using hbig
     have kQ:Hid (R=none):=by show _=_;rw[HX.o,if_pos hbig]
     have GZ:=zHi hbig;clear hbig;go_wp2_with fail
     go_ret
     exact⟨_,_,[((⟨#[]⟩:ByteArray),each)],rfl,zdd (zar _ _ _ rfl),ak.o.trans ((zad lq.o _).mono lT),by simp, .inr ⟨kQ.o,by simp[zaF,GZ.o]⟩⟩
    ·have ku:bigQ each=false:=by simpa using hbig
     have dg: ¬1000000000<(each.den:Int):=by unfold bigQ at ku;simpa using ku
     have ya:=zcc us.o eO.o ku;have uM:=zHi (fun ys h=>ig.o ys h ku);have Az:=zHi ku;have zd:=zHi ya;have kG:=zHi (fun W (h:Below WE.heap.size WE W)=>fD.o x W (ak.o.trans ((lq.o.trans (h.mono lq.o.size)).mono lT)));obtain⟨⟨d0,d1,d2,d3,d4,d5,d6⟩,⟨e0,e1,e2,e3⟩,j0,v0,v1⟩:=bX.o WE (Below.refl _ _);have hwE:w.heap.size<WE.heap.size:=Mcn;have JI:b<WE.heap.size:=Mcn;clear ku hbig ya ig HX;go_upto_region 8 with fail
     have dG:=Ix.o;unfold zcR at dG;cases cG:zdZ s x frm
     ·rw[cG]at kG dG;simp only[Bool.false_eq_true,if_false]at dG;have ht:t= .node (zb5 s law.stems frm f x)/\0<(zd4 s law.stems frm f x).length:=by
       split at dG
       ·rename_i h
        cases dG;refine⟨rfl,?_⟩;rw[<-zgL];rw[Bool.and_eq_true]at h;cases hT:zb5 s law.stems frm f x with
        |nil=>rw[hT]at h;simp at h
        |cons=>simp
       ·cases dG
      have uV:=zHi (fun W (h:Below WE.heap.size WE W)=>qF.o x bs.o each ZA zc zs W (ak.o.trans ((lq.o.trans (h.mono lq.o.size)).mono lT)) (EL.o.keep h) HZ.o us.o zd.o zi.o ht.2);have fL:R1=zeN each (zb5 s law.stems frm f x) zs:=by rw[jS.o,ht.1,tree_node]
      rw[<-fL]at uV;clear fL ht dG cG
      (refine zan Mco Mco ?_
       repeat(first|go_big_quiet_skip|(go_big_quiet_want;go_big_quiet_op;first|go_big_quiet_on|(apply Exists.intro;refine⟨fun _=> ?_,?_⟩;(go_at_call 86;exact quietx (kG.o _ Bw));go_big_quiet_on)))
       refine wpQuiet_nil ?_
       rintro _ ⟨zq,rfl⟩)
      obtain⟨WQ,om⟩: ∃WQ,WQ=WE.ext zq:=⟨_,rfl⟩
      have me:Below WE.heap.size WE WQ:=Mes;rw[<-om];clear om;go_upto_region 10 with fail
      refine zaC 9 (fun bb w'=>bb=true\/((w'.cell? ⟨w.heap.size,0,none⟩=some (.slice LA laws.length c0)/\w'.cell? ⟨w.heap.size,1,none⟩=some (.slice CA s.children.length c1)/\w'.cell? ⟨w.heap.size,2,none⟩=some (.slice MA s.marriages.length c2)/\w'.cell? ⟨w.heap.size,3,none⟩=some (.slice DA s.dead.length c3)/\w'.cell? ⟨w.heap.size,4,none⟩=some (.slice WA wd.length c4)/\w'.cell? ⟨w.heap.size,5,none⟩=some (.slice RA rd.length c5)/\w'.cell? ⟨w.heap.size,6,none⟩=some (.slice GA s.graves.length c6))/\(w'.cell? ⟨w.heap.size+1,0,none⟩=some (.int .i64 law.frm)/\w'.cell? ⟨w.heap.size+1,1,none⟩=some (.bool law.stems)/\w'.cell? ⟨w.heap.size+1,2,none⟩=some (.int .i64 law.num)/\w'.cell? ⟨w.heap.size+1,3,none⟩=some (.int .i64 law.den))/\w'.cell? ⟨b,off+k,none⟩=some (.string x)/\w'.cell? ⟨E,0,none⟩=some (.int .i64 each.num)/\w'.cell? ⟨E,1,none⟩=some (.int .i64 each.den))) Mco (.inr (bX.o _ (zaH me))) ?hrest
      case hrest=>
       intro hHeld;refine TkM 0 ?_;refine TkM 1 ?_;refine TkM 2 ?_;refine TkM 3 ?_;refine TkM 4 ?_;refine TkM 5 ?_;refine TkM 6 ?_;refine TkM 7 ?_;refine TkM 8 ?_;refine OnM 9 true fun K hK=> ?_
       go_simp
       refine(uV.o _ (zaH me)).mono ?_;rintro e w5 ⟨YA,yc,ys,rfl,wg,Cv,JD,JE⟩;refine NxM hK fun hHeld=> ?_
       clear hK K;refine OnM 10 true fun K hK=> ?_
       go_simp
       refine NxM hK fun hHeld=> ?_
       clear hK K;refine zaN Mco ?_ _;clear hHeld;have Bv:=zHi JE;have ko:=zHi JD;exact My
     ·rw[cG]at kG dG;simp only[if_true]at dG;have ht:t= .leaf x:=by cases dG;rfl
      have oW:=zgN HZ.o.good HZ.o.names;have uV:=zHi (fun W (h:Below WE.heap.size WE W)=>zcS zs x each ZA zc W Mcn (HZ.o.parts (by have:=zi.o;have:=us.o;grind)) zd.o (EL.o.keep h));have fL:R1=if zaF (za4 zs x each)then none else some (za4 zs x each):=by rw[jS.o,ht,zem]
      have Bv:Hid (R1=some (za4 zs x each)\/(R1=none/\zaF (za4 zs x each)=true)):=zHi (by
       rw[fL];cases h:zaF (za4 zs x each)
       ·exact .inl rfl
       ·exact .inr ⟨rfl,rfl⟩)
      have ko:Hid ((za4 zs x each).length<=100000):=zHi (by have:=zcz x each zs;omega);generalize za4 zs x each=ys at*;unfold zaB at uV;clear fL ht dG cG oW
      (refine zan Mco Mco ?_
       repeat(first|go_big_quiet_skip|(go_big_quiet_want;go_big_quiet_op;first|go_big_quiet_on|(apply Exists.intro;refine⟨fun _=> ?_,?_⟩;(go_at_call 86;exact quietx (kG.o _ Bw));go_big_quiet_on)))
       refine wpQuiet_nil ?_
       rintro _ ⟨zq,rfl⟩)
      obtain⟨WQ,om⟩: ∃WQ,WQ=WE.ext zq:=⟨_,rfl⟩
      have me:Below WE.heap.size WE WQ:=Mes;rw[<-om];clear om;go_upto_region 9 with fail
      refine zaC 6 (fun bb w'=>bb=true\/((w'.cell? ⟨w.heap.size,0,none⟩=some (.slice LA laws.length c0)/\w'.cell? ⟨w.heap.size,1,none⟩=some (.slice CA s.children.length c1)/\w'.cell? ⟨w.heap.size,2,none⟩=some (.slice MA s.marriages.length c2)/\w'.cell? ⟨w.heap.size,3,none⟩=some (.slice DA s.dead.length c3)/\w'.cell? ⟨w.heap.size,4,none⟩=some (.slice WA wd.length c4)/\w'.cell? ⟨w.heap.size,5,none⟩=some (.slice RA rd.length c5)/\w'.cell? ⟨w.heap.size,6,none⟩=some (.slice GA s.graves.length c6))/\(w'.cell? ⟨w.heap.size+1,0,none⟩=some (.int .i64 law.frm)/\w'.cell? ⟨w.heap.size+1,1,none⟩=some (.bool law.stems)/\w'.cell? ⟨w.heap.size+1,2,none⟩=some (.int .i64 law.num)/\w'.cell? ⟨w.heap.size+1,3,none⟩=some (.int .i64 law.den))/\w'.cell? ⟨b,off+k,none⟩=some (.string x)/\w'.cell? ⟨E,0,none⟩=some (.int .i64 each.num)/\w'.cell? ⟨E,1,none⟩=some (.int .i64 each.den))) Mco (.inr (bX.o _ (zaH me))) ?hrest
      case hrest=>
       intro hHeld;refine TkM 0 ?_;refine TkM 1 ?_;refine TkM 2 ?_;refine TkM 3 ?_;refine TkM 4 ?_;refine TkM 5 ?_;refine OnM 6 true fun K hK=> ?_
       go_simp
       refine(uV.o _ (zaH me)).mono ?_;rintro e w5 ⟨v5,rfl,o5,Cv⟩;obtain⟨YA,yc,rfl,wg,_⟩:=o5.sl zao;refine NxM hK fun hHeld=> ?_
       clear hK K;refine OnM 7 true fun K hK=> ?_
       go_simp
       refine NxM hK fun hHeld=> ?_
       clear hK K;refine zaN Mco ?_ _;clear hHeld;exact My
   ·have ar: ¬(k:Int)<(ls.length:Int):=Mcn;have hx:=HX.o;have kx:k=ls.length:=Mcn;rw[kr Mcn,List.drop_of_length_le (by rw[lH.o];omega),zbE]at hx;have bz:Hid (R=some zs):=Md7;have IQ:=zHi (zgN HZ.o.good HZ.o.names);have aW:=zHi cw;clear hx kx hB hZ cw;go_wp2_with fail
    go_ret
    exact⟨ZA,zc,zs,rfl,ph.o,ak.o.trans (aW.o.mono lT),by have:=IQ.o;omega, .inl bz.o⟩
end Go.Proofs.YtjhbofabmpfniaaGreatDoor
