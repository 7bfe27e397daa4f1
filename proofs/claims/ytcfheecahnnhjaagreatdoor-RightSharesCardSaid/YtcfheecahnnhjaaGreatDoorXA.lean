import Derived.Test.YtcfheecahnnhjaaGreatDoorWX
set_option linter.all false
set_option maxRecDepth 100000
set_option maxHeartbeats 4000000
namespace Go.Proofs.YtcfheecahnnhjaaGreatDoor
open Go.RowKit Go.Shelf
attribute [local go_sem] World.cell?_alloc_mark zag za4 zar zaB zaw zax zay zaz za0 za1 za2
attribute [local go_sem] zas zad
structure Srch (cs:List (ByteArray×ByteArray)) (nm:ByteArray) (all:List ByteArray) (i:Nat):Prop where
 desc:∀y∈all,Relation.TransGen (fun x y=>y∈zdn cs x) nm y
 mine:∀c∈zdn cs nm,c∈all
 done:∀y∈all.take i,∀c∈zdn cs y,c∈all
 few:∃n,n<=(zdn cs nm).length/\(all.drop n).Nodup/\n<=all.length
theorem zhU(cs:List (ByteArray×ByteArray))(n:ByteArray):(zdn cs n).length<=cs.length:=by
 unfold zdn;exact MbH
theorem zjc{cs:List (ByteArray×ByteArray)}{n c:ByteArray}(h:c∈zdn cs n):c∈cs.map (·.2):=by
 unfold zdn at h;obtain⟨p,hp,rfl⟩:=List.mem_map.1 h;exact List.mem_map_of_mem (List.mem_filter.1 hp).1
theorem Srch.len{cs:List (ByteArray×ByteArray)}{nm:ByteArray}{all:List ByteArray}{i:Nat}(h:Srch cs nm all i):all.length<=2*cs.length:=by
 obtain⟨n,h1,h2,h3⟩:=h.few;have h4:=zhU cs nm;haveI:DecidableEq ByteArray:=fun a b=>Classical.propDecidable _
 have h5:(all.drop n).length<=(cs.map (·.2)).length:=zkv h2 fun y hy=>by
  cases h.desc y (List.mem_of_mem_drop hy)with
  |single h=>exact zjc h
  |tail _ h=>exact zjc h
 rw[List.length_drop,List.length_map]at h5;omega
theorem zpt(cs:List (ByteArray×ByteArray))(nm:ByteArray):Srch cs nm (zdn cs nm) 0:=
 ⟨fun y hy=> .single hy,fun c h=>h,by simp,(zdn cs nm).length,Nat.le_refl _,by simp,Nat.le_refl _⟩
theorem srch_end{cs:List (ByteArray×ByteArray)}{nm:ByteArray}{all:List ByteArray}{i:Nat}(h:Srch cs nm all i)(hi:all.length<=i)(y:ByteArray):y∈all↔Relation.TransGen (fun x y=>y∈zdn cs x) nm y:=by
 refine⟨h.desc y,fun hd=>?_⟩;have jJ:=h.done;rw[List.take_of_length_le hi]at jJ;induction hd with
 |single h1=>exact h.mine _ h1
 |tail _ h1 ih=>exact jJ _ ih _ h1
def zdl(all more:List ByteArray):List ByteArray:=more.foldl (fun a c=>if a.any (zae c)then a else a++[c]) all
theorem znw{all more:List ByteArray}{k:Nat}(h:k<more.length):zdl all (more.take (k+1))=if(zdl all (more.take k)).any (zae more[k])then zdl all (more.take k)else zdl all (more.take k)++[more[k]]:=by
 unfold zdl;rw[List.take_add_one,List.getElem?_eq_getElem h,List.foldl_append];rfl
theorem zfD:∀(more all:List ByteArray),∃t,zdl all more=all++t/\(∀c∈t,c∈more)/\(∀c∈more,c∈zdl all more)/\(∀n,n<=all.length->(all.drop n).Nodup->(∀c∈t,c∉all)/\((zdl all more).drop n).Nodup)
 | [],all=>⟨[],by simp[zdl],by simp,by simp,fun n _ h=>⟨by simp,h⟩⟩
 |c::more,all=>by
  have e:zdl all (c::more)=zdl (if all.any (zae c)then all else all++[c]) more:=rfl;rw[e];split
  ·rename_i hc
   obtain⟨t,h1,h2,h3,h4⟩:=zfD more all;refine⟨t,h1,fun x hx=>List.mem_cons_of_mem _ (h2 x hx),fun x hx=>?_,h4⟩;rcases List.mem_cons.1 hx with rfl|hx
   ·rw[h1];exact List.mem_append_left _ (zee.1 hc)
   ·exact h3 x hx
  ·rename_i hc
   have aM:c∉all:=fun h=>hc (zee.2 h)
   obtain⟨t,h1,h2,h3,h4⟩:=zfD more (all++[c]);refine⟨c::t,by rw[h1];simp,fun x hx=>?_,fun x hx=>?_,fun n hn cZ=>?_⟩
   ·rcases List.mem_cons.1 hx with rfl|hx
    ·simp
    ·exact List.mem_cons_of_mem _ (h2 x hx)
   ·rcases List.mem_cons.1 hx with rfl|hx
    ·rw[h1];simp
    ·exact h3 x hx
   ·have hd:((all++[c]).drop n).Nodup:=by
     rw[List.drop_append_of_le_length hn]
     exact List.nodup_append.2 ⟨cZ,by simp,fun a ha b hb e=>by
      rw[List.mem_singleton.1 hb]at e
      exact aM (e▸List.mem_of_mem_drop ha)⟩
    obtain⟨h5,h6⟩:=h4 n Mcz hd;refine⟨fun x hx=>?_,h6⟩;rcases List.mem_cons.1 hx with rfl|hx
    ·exact aM
    ·exact fun h=>h5 x hx (List.mem_append_left _ h)
theorem srch_next{cs:List (ByteArray×ByteArray)}{nm:ByteArray}{all:List ByteArray}{i:Nat}(h:Srch cs nm all i)(hi:i<all.length):Srch cs nm (zdl all (zdn cs all[i])) (i+1):=by
 obtain⟨t,h1,h2,h3,h4⟩:=zfD (zdn cs all[i]) all;obtain⟨n,f1,f2,f3⟩:=h.few;have h5:=(h4 n f3 f2).2;rw[h1]at h3 h5⊢;refine⟨fun y hy=>?_,fun c hc=>List.mem_append_left _ (h.mine c hc),fun y hy c hc=>?_,n,f1,h5,by simp;omega⟩
 ·rcases List.mem_append.1 hy with hy|hy
  ·exact h.desc y hy
  ·exact .tail (h.desc _ (List.getElem_mem hi)) (h2 y hy)
 ·rw[List.take_append_of_le_length Mcu,List.take_add_one,List.getElem?_eq_getElem hi]at hy;rcases List.mem_append.1 hy with hy|hy
  ·exact List.mem_append_left _ (h.done y hy c hc)
  ·obtain rfl:y=all[i]:=by simpa using hy
   exact h3 c hc
def DescR(w:World)(cs:List (ByteArray×ByteArray))(nm:ByteArray)(e:Ending)(w':World):Prop:=
 ∃v ys,e=.returned v/\OwnS w' w.heap.size 9 1 sC v ys/\(∀y,y∈ys↔Relation.TransGen (fun x y=>y∈zdn cs x) nm y)/\AscT ys/\ys.length<=2*cs.length/\Below w.heap.size w w'
theorem rDesc_any(cs:List (ByteArray×ByteArray))(n:ByteArray)(LA CA MA DA WA RA GA:Option Addr)(n0 c0 n1 c1 n2 c2 n3 c3 n4 c4 n5 c5 n6 c6:Nat)(w:World)(hl:cs.length<=1000)(hS:Sl w 2 zaV CA cs):
 Calls Tryz.prog 165 #[.agg #[.slice LA n0 c0,.slice CA cs.length c1,.slice MA n2 c2,.slice DA n3 c3,.slice WA n4 c4,.slice RA n5 c5,.slice GA n6 c6],.string n] w (DescR w cs n):=by
 have pg:=zHi (fun x W (h:Below w.heap.size w W)=>zg4 cs x LA CA MA DA WA RA GA n0 c0 cs.length c1 n2 c2 n3 c3 n4 c4 n5 c5 n6 c6 W Mcu (hS.keep h));unfold DescR;clear hS;go_enter Tryz.func165,Tryz.ntmps165
 go_upto_region 1 with fail
 generalize ak:w.alloc _=W0;obtain⟨g0,aE⟩:=boxed ak;have hJ:=zaH g0;have l0:=zab g0;have au:=aE.size;have aj:=zHi aE
 have aw:=zHi (fun W (h:Below W0.heap.size W0 W)=>(show W.cell? ⟨w.heap.size,0,none⟩=some (.slice LA n0 c0)/\W.cell? ⟨w.heap.size,1,none⟩=some (.slice CA cs.length c1)/\W.cell? ⟨w.heap.size,2,none⟩=some (.slice MA n2 c2)/\W.cell? ⟨w.heap.size,3,none⟩=some (.slice DA n3 c3)/\W.cell? ⟨w.heap.size,4,none⟩=some (.slice WA n4 c4)/\W.cell? ⟨w.heap.size,5,none⟩=some (.slice RA n5 c5)/\W.cell? ⟨w.heap.size,6,none⟩=some (.slice GA n6 c6) from by
  obtain⟨d0,d1,d2,d3,d4,d5,d6⟩:=hJ
  exact⟨(zah h l0).trans d0,(zah h l0).trans d1,(zah h l0).trans d2,(zah h l0).trans d3,(zah h l0).trans d4,(zah h l0).trans d5,(zah h l0).trans d6⟩))
 obtain⟨d0,d1,d2,d3,d4,d5,d6⟩:=hJ;clear ak aE g0
 go_upto_region 3 with(go_at_call 164
                       go_must(refine(pg.o _ _ Mdl).mono ?_)
                       rintro e w1 ⟨v1,rfl,o1,b1⟩)
 obtain⟨aC,dg⟩:=yH2 b1 o1;clear o1 b1 d0 d1 d2 d3 d4 d5 d6;go_loopw [5,6,7,8] (fun v i _ _ wr=>∃(k:Nat) (all:List ByteArray),k<=all.length/\i=.int .i64 k/\Hid (Srch cs n all k)/\OwnS wr W0.heap.size 9 1 sC v all/\Below W0.heap.size W0 wr) (fun _ i _ _ _=>2*cs.length-(intOf i).toNat)
 case atStart=>exact⟨0,_,Nat.zero_le _,rfl,zHi (zpt cs n),dg.o,aC.o⟩
 case round=>
  obtain⟨k,all,hk,rfl,qV,aa,hB⟩:=hrel;obtain⟨WR,oA⟩:∃WR,WR=wr:=⟨_,rfl⟩
  subst oA;have jI:=qV.o.len;have iy:k<=2000:=Mcu;obtain⟨VA,vc,rfl,fU,jx⟩:=aa.sl za9;have aI:=hB.size;obtain⟨HB,HO⟩:=yH2 hB aa;by_cases ae:k<all.length
  ·obtain⟨b,off,rfl,hb,ah⟩:=fU.at ae;have bw:=srch_next qV.o ae;have am:=zHi ae;generalize all[k]=x at*;have i0:WR.cell? ⟨b,off+k,none⟩=some (.string x):=McW;have ar:(k:Int)<(all.length:Int):=Mcu;have aT:(0:Int)<=(k:Int):=Mcu;have bT:=zHi bw;have Ht:Hid (all.length<=(zdl all (zdn cs x)).length):=by
    show _<=_;obtain⟨t,h1,_⟩:=zfD (zdn cs x) all;rw[h1,List.length_append];omega
   have zB:=zHi jI;have bZ:=zHi (fun W (h:Below WR.heap.size WR W)=>(show(W.cell? ⟨w.heap.size,0,none⟩=some (.slice LA n0 c0)/\W.cell? ⟨w.heap.size,1,none⟩=some (.slice CA cs.length c1)/\W.cell? ⟨w.heap.size,2,none⟩=some (.slice MA n2 c2)/\W.cell? ⟨w.heap.size,3,none⟩=some (.slice DA n3 c3)/\W.cell? ⟨w.heap.size,4,none⟩=some (.slice WA n4 c4)/\W.cell? ⟨w.heap.size,5,none⟩=some (.slice RA n5 c5)/\W.cell? ⟨w.heap.size,6,none⟩=some (.slice GA n6 c6))/\W.cell? ⟨b,off+k,none⟩=some (.string x) from⟨aw.o W (HB.o.trans (h.mono aI)),(zah h hb).trans i0⟩));have I3:=zHi (fun W (h:Below WR.heap.size WR W)=>pg.o x W (aj.o.trans ((HB.o.trans (h.mono aI)).mono au)));generalize fE:zdn cs x=ks at*;have bX:ks.length<=1000:=by rw[<-fE];exact Nat.le_trans (zhU cs x) hl
   have nX:=zHi bX;clear ah aa hB fU ae bw fE jI i0 bX;go_upto_region 5 with fail
   refine za7 5 (fun bb w'=>bb=true\/((w'.cell? ⟨w.heap.size,0,none⟩=some (.slice LA n0 c0)/\w'.cell? ⟨w.heap.size,1,none⟩=some (.slice CA cs.length c1)/\w'.cell? ⟨w.heap.size,2,none⟩=some (.slice MA n2 c2)/\w'.cell? ⟨w.heap.size,3,none⟩=some (.slice DA n3 c3)/\w'.cell? ⟨w.heap.size,4,none⟩=some (.slice WA n4 c4)/\w'.cell? ⟨w.heap.size,5,none⟩=some (.slice RA n5 c5)/\w'.cell? ⟨w.heap.size,6,none⟩=some (.slice GA n6 c6))/\w'.cell? ⟨b,off+k,none⟩=some (.string x))) Mcv (.inr (bZ.o _ (zaE (Below.refl _ _)))) ?hrest
   case hrest=>
    intro hHeld;refine TkM 0 ?_;refine TkM 1 ?_;refine TkM 2 ?_;refine TkM 3 ?_;refine TkM 4 ?_;refine OnM 5 true fun K hK=>?_
    go_simp
    refine(I3.o _ (zaE (Below.refl _ _))).mono ?_;rintro e w5 ⟨v5,rfl,o5,aq⟩;refine NxM hK fun hHeld=>?_
    clear hK K;refine OnM 6 true fun K hK=>?_
    go_simp
    refine NxM hK fun hHeld=>?_
    clear hK K;refine zaG Mcv ?_ _;clear hHeld;have aX:Below WR.heap.size WR w5:=(zaE (Below.refl _ _):Below WR.heap.size WR WR.drew).trans aq;have o5':OwnS w5 WR.heap.size 9 1 sC v5 ks:=o5;obtain⟨KA,kc,rfl,_,_⟩:=o5'.sl za9;obtain⟨bo,kO⟩:=yH2 aX o5';have C6:=aX.size;clear aq aX o5 o5';go_upto_region 7 with fail
    go_loopw [5,8] (fun v j wr=>∃m:Nat,m<=ks.length/\j=.int .i64 m/\OwnS wr W0.heap.size 9 1 sC v (zdl all (ks.take m))/\Hid (∀g,za5 v=some g->za5 (.slice KA ks.length kc)≠some g)/\OwnS wr WR.heap.size 9 1 sC (.slice KA ks.length kc) ks/\Below W0.heap.size W0 wr/\w5.heap.size<=wr.heap.size/\(zdl all (ks.take m)).length<=all.length+m) (fun _ j _=>ks.length-(intOf j).toNat)
    case atStart=>exact⟨0,Nat.zero_le _,rfl,HO.o.keep bo.o,zHi (fun g h1 h2=>by have:=(kO.o.ge g h2).1;have:=(HO.o.ge g h1).2;omega),kO.o,HB.o.trans (bo.o.mono aI),Nat.le_refl _,by simp[zdl]⟩
    case round=>
     obtain⟨m,hm,rfl,uv,gU,bv,gB,LI,Gu⟩:=hrel;have AF:m<=1000:=by have:=nX.o;omega
     by_cases fJ:m<ks.length
     ·have ao:=znw (all:=all) fJ;obtain⟨b2,off2,m9,bs,cD⟩:=(ziT za9 bv).1.at fJ;have nZ:=zHi fJ;generalize zdl all (ks.take m)=ys at*;obtain⟨VY,vy,rfl,rQ,Lx⟩:=uv.sl za9;generalize ks[m]=y at*;subst m9;have j0:wr.cell? ⟨b2,off2+m,none⟩=some (.string y):=Md3;have fI:(m:Int)<(ks.length:Int):=Mcu;have nN:(0:Int)<=(m:Int):=Mcu;have Bq:Hid (ys.length<=100000):=by show _<=_;have:=zB.o;have:=nX.o;omega
      obtain⟨fj,dN,dr,fA,lP⟩:=yH5 (fun W (h:Below wr.heap.size wr W)=>zd5 ys y VY vy W Bq.o Lx (rQ.keep h)) uv bv gB Gu;have Ee:=gB.size;clear cD uv bv gB rQ fJ Gu;cases aJ:ys.any (zae y)
      ·have aK:Hid (zdl all (ks.take (m+1))=ys++[y]):=by show _=_;rw[ao,aJ];rfl
       rw[aJ]at fj;clear ao aJ
       go_wp2_with (first
        |(go_at_call 163;go_must(refine(fj.o _ Bw).mono ?_);rintro e wq ⟨rfl,rfl⟩)
        |(at_builtin
          go_loud(refine zat (v:=.slice VY ys.length vy) (n:=ys.length) (m:=1) rfl _ _ rfl zb9 za9 zb8 rfl (xs:=ys) (ys:=[y]) (dN.o.keep (n:=wr.heap.size) Bw) rfl rfl rfl (zfT (zaq _ _ _ rfl)) (by have:=Bq.o;simp[maxLen];omega) (by have:=Bq.o;omega) Mcz ?_)
          intro v3 w3 h1 h2 h3;have ay:=Below.grown (B:=W0.heap.size) (a:=W0) (fA.o.trans (Below.mono (B:=wr.heap.size) (zac (Below.refl _ _) _) Ee)) h2 Mcz (fun j hj=>(dN.o.ge j hj).1);have uq:=(dr.o.keep (n:=wr.heap.size) (zac (Below.refl _ _) (.cells #[.string y] 9))).grown h2 (.inr fun e=>gU.o _ e.symm rfl);have AH:∀g,za5 v3=some g->za5 (.slice (some ⟨b2,off2,none⟩) ks.length kc)≠some g:=fun g e1 e2=>by
           rcases h3 g e1 with h|h
           ·exact gU.o g h e2
           ·have:=(dr.o.ge g e2).2;simp at h;omega
          have g8:=h2.size;obtain⟨H1,aH,Ip,IF⟩:=yH4 h1 ay uq AH;simp only[World.size_alloc]at g8
          clear h1 h2 h3 ay uq AH))
       go_round
       case rel=>exact⟨m+1,nZ.o,by go_num,by rw[aK.o];exact H1.o,IF,Ip.o,aH.o,by omega,by rw[aK.o,List.length_append];have:=lP.o;simp;omega⟩
       case measure=>have:=nZ.o;simp only[intOf];omega
      ·have aK:Hid (zdl all (ks.take (m+1))=ys):=by show _=_;rw[ao,aJ];rfl
       rw[aJ]at fj;clear ao aJ;go_wp2_with (go_at_call 163;go_must(refine(fj.o _ Bw).mono ?_);rintro e wq ⟨rfl,rfl⟩)
       go_round
       case rel=>exact⟨m+1,nZ.o,by go_num,by rw[aK.o];exact dN.o,gU,dr.o,fA.o,LI,by rw[aK.o];have:=lP.o;omega⟩
       case measure=>have:=nZ.o;simp only[intOf];omega
     ·have fI:¬(m:Int)<(ks.length:Int):=Mcu;rw[List.take_of_length_le Mcu]at uv;obtain⟨dN,fA⟩:=yH2 uv gB;clear uv bv gB;go_wp2_with fail
      go_round
      case rel=>exact⟨k+1,_,by have:=Ht.o;have:=am.o;omega,by go_num,bT,dN.o,fA.o⟩
      case measure=>have:=am.o;have:=zB.o;simp only[intOf];omega
  ·have ar:¬(k:Int)<(all.length:Int):=Mcu;obtain⟨Ba,kR,zB⟩:=yH3 (srch_end qV.o Mcu) (fun W (h:Below WR.heap.size WR W)=>ziZ all VA vc W Mcu (fU.keep h)) jI;clear fU aa hB jI;go_wp2_with (go_at_call 32;go_must(refine(kR.o _ Bw).mono ?_);rintro e wq ⟨vq,rfl,oq,bq⟩)
   go_ret
   exact⟨_,zcG all,rfl,oq.base_le Mcu,fun y=>ziX.trans (Ba.o y),ziY all,Nat.le_trans (ziW all) zB.o,aj.o.trans ((HB.o.trans (bq.mono aI)).mono au)⟩
structure StIn (w:World) (laws:List Law) (s:St) (wd rd:List Deed) (LA CA MA DA WA RA GA:Option Addr) (c0 c1 c2 c3 c4 c5 c6:Nat):Prop where
 laws:Sl w 4 Law.cells LA laws
 kids:Sl w 2 zaV CA s.children
 marr:Sl w 2 zaV MA s.marriages
 dead:Sl w 1 sC DA s.dead
 wills:SlW w 7 zfE WA wd
 ren:SlW w 7 zfE RA rd
 graves:SlW w 5 zhZ GA s.graves
 deadc:s.dead.length<=c3
theorem StIn.keep{w W:World}{laws:List Law}{s:St}{wd rd:List Deed}{LA CA MA DA WA RA GA:Option Addr}{c0 c1 c2 c3 c4 c5 c6 n:Nat}(h:StIn w laws s wd rd LA CA MA DA WA RA GA c0 c1 c2 c3 c4 c5 c6)(hB:Below n w W)(hn:w.heap.size<=n:=by first|exact Nat.le_refl _|omega):StIn W laws s wd rd LA CA MA DA WA RA GA c0 c1 c2 c3 c4 c5 c6:=
 ⟨h.laws.keep hB hn,h.kids.keep hB hn,h.marr.keep hB hn,h.dead.keep hB hn,h.wills.keep zch hB hn,h.ren.keep zch hB hn,h.graves.keep zfL hB hn,h.deadc⟩
structure StLink (s:St) (wd rd:List Deed):Prop where
 wills:s.wills=wd.map fun d=>(d.frm,zan d.to)
 shares:∀d∈wd,∀p∈d.to,za8 16 p.num p.den=true
 ren:s.renounce=rd.map fun d=>(d.frm,zbi d)
 tos:∀d∈rd,d.to≠[]
structure StFew (s:St) (wd rd:List Deed):Prop where
 kids:s.children.length<=1000
 marr:s.marriages.length<=1000
 dead:s.dead.length<=1000
 wills:wd.length<=1000
 ren:rd.length<=1000
 graves:s.graves.length<=1000
section
variable {laws:List Law} {s:St} {wd rd:List Deed} {LA CA MA DA WA RA GA:Option Addr} {c0 c1 c2 c3 c4 c5 c6:Nat}
theorem sAble(n frm:ByteArray)(w:World)(h:StIn w laws s wd rd LA CA MA DA WA RA GA c0 c1 c2 c3 c4 c5 c6)(hk:StLink s wd rd)(hf:StFew s wd rd):Calls Tryz.prog 184 #[.agg #[.slice LA laws.length c0,.slice CA s.children.length c1,.slice MA s.marriages.length c2,.slice DA s.dead.length c3,.slice WA wd.length c4,.slice RA rd.length c5,.slice GA s.graves.length c6],.string n,.string frm] w (Ret w (.bool (zed s n frm))):=by
 rw[<-ableR_eq s rd hk.ren];exact rAble_any rd s.dead n frm LA CA MA DA WA RA GA laws.length c0 s.children.length c1 s.marriages.length c2 s.dead.length c3 wd.length c4 rd.length c5 s.graves.length c6 w (by have:=hf.ren;omega) hk.tos h.ren Mev h.deadc h.dead
theorem sDead(n:ByteArray)(w:World)(h:StIn w laws s wd rd LA CA MA DA WA RA GA c0 c1 c2 c3 c4 c5 c6)(hf:StFew s wd rd):Calls Tryz.prog 135 #[.agg #[.slice LA laws.length c0,.slice CA s.children.length c1,.slice MA s.marriages.length c2,.slice DA s.dead.length c3,.slice WA wd.length c4,.slice RA rd.length c5,.slice GA s.graves.length c6],.string n] w (Ret w (.bool (zaN s n))):=
 zeJ s.dead n LA CA MA DA WA RA GA laws.length c0 s.children.length c1 s.marriages.length c2 s.dead.length c3 wd.length c4 rd.length c5 s.graves.length c6 w Mev h.deadc h.dead
theorem sKids(n:ByteArray)(w:World)(h:StIn w laws s wd rd LA CA MA DA WA RA GA c0 c1 c2 c3 c4 c5 c6)(hf:StFew s wd rd):Calls Tryz.prog 164 #[.agg #[.slice LA laws.length c0,.slice CA s.children.length c1,.slice MA s.marriages.length c2,.slice DA s.dead.length c3,.slice WA wd.length c4,.slice RA rd.length c5,.slice GA s.graves.length c6],.string n] w (zdj w (zai s n)):=
 zg4 s.children n LA CA MA DA WA RA GA laws.length c0 s.children.length c1 s.marriages.length c2 s.dead.length c3 wd.length c4 rd.length c5 s.graves.length c6 w (by have:=hf.kids;omega) h.kids
theorem sSpouse(n:ByteArray)(w:World)(h:StIn w laws s wd rd LA CA MA DA WA RA GA c0 c1 c2 c3 c4 c5 c6)(hf:StFew s wd rd):Calls Tryz.prog 166 #[.agg #[.slice LA laws.length c0,.slice CA s.children.length c1,.slice MA s.marriages.length c2,.slice DA s.dead.length c3,.slice WA wd.length c4,.slice RA rd.length c5,.slice GA s.graves.length c6],.string n] w (Ret w (.string (zaK s n))):=by
 rw[<-zpc];exact znb s.marriages s.dead n LA CA MA DA WA RA GA laws.length c0 s.children.length c1 s.marriages.length c2 s.dead.length c3 wd.length c4 rd.length c5 s.graves.length c6 w (by have:=hf.marr;omega) h.marr Mev h.deadc h.dead
theorem zkb(place:ByteArray)(day:Int)(w:World)(h:StIn w laws s wd rd LA CA MA DA WA RA GA c0 c1 c2 c3 c4 c5 c6)(hf:StFew s wd rd):Calls Tryz.prog 35 #[.agg #[.slice LA laws.length c0,.slice CA s.children.length c1,.slice MA s.marriages.length c2,.slice DA s.dead.length c3,.slice WA wd.length c4,.slice RA rd.length c5,.slice GA s.graves.length c6],.string place,.int .i64 day] w (Ret w (.int .i64 (zkK s.graves place day))):=
 zoY s.graves place day LA CA MA DA WA RA GA laws.length c0 s.children.length c1 s.marriages.length c2 s.dead.length c3 wd.length c4 rd.length c5 s.graves.length c6 w (by have:=hf.graves;omega) h.graves
theorem sDesc(n:ByteArray)(w:World)(h:StIn w laws s wd rd LA CA MA DA WA RA GA c0 c1 c2 c3 c4 c5 c6)(hf:StFew s wd rd):Calls Tryz.prog 165 #[.agg #[.slice LA laws.length c0,.slice CA s.children.length c1,.slice MA s.marriages.length c2,.slice DA s.dead.length c3,.slice WA wd.length c4,.slice RA rd.length c5,.slice GA s.graves.length c6],.string n] w (DescR w s.children n):=
 rDesc_any s.children n LA CA MA DA WA RA GA laws.length c0 s.children.length c1 s.marriages.length c2 s.dead.length c3 wd.length c4 rd.length c5 s.graves.length c6 w hf.kids h.kids
theorem zmu(l:List RPart)(A:Option Addr)(c:Nat)(w:World)(h:StIn w laws s wd rd LA CA MA DA WA RA GA c0 c1 c2 c3 c4 c5 c6)(hf:StFew s wd rd)(hl:l.length<=1000000)(hS:Sl w 3 RPart.cells A l):Calls Tryz.prog 154 #[.agg #[.slice LA laws.length c0,.slice CA s.children.length c1,.slice MA s.marriages.length c2,.slice DA s.dead.length c3,.slice WA wd.length c4,.slice RA rd.length c5,.slice GA s.graves.length c6],.slice A l.length c] w (Ret w (.bool (ze5 s l))):=
 zkR l A c s.dead LA CA MA DA WA RA GA laws.length c0 s.children.length c1 s.marriages.length c2 s.dead.length c3 wd.length c4 rd.length c5 s.graves.length c6 w hl hS Mev h.deadc h.dead
end
def zd8(s:St)(stems:Bool)(frm:ByteArray):Nat->ByteArray->List ByteArray
 |0,_=>[]
 |f+1,n=>(zai s n).filter fun c=>(zcY s stems frm f c).isSome
theorem zgE{α β:Type}(g:α->Option β):∀l:List α,(l.filterMap g).length=(l.filter fun x=>(g x).isSome).length
 | []=>rfl
 |x::l=>by
  have ih:=zgE g l;cases hg:g x
  ·rw[List.filterMap_cons_none hg,List.filter_cons_of_neg (by simp[hg]),ih]
  ·rw[List.filterMap_cons_some hg,List.filter_cons_of_pos (by simp[hg]),List.length_cons,List.length_cons,ih]
theorem zgF(s:St)(stems:Bool)(frm:ByteArray):∀(f:Nat) (n:ByteArray),(zb7 s stems frm f n).length=(zd8 s stems frm f n).length
 |0,_=>rfl
 |f+1,n=>by rw[zf6,zgE];rfl
theorem znx{α:Type}(p:α->Bool)(l:List α){k:Nat}(h:k<l.length):(l.take (k+1)).filter p=(l.take k).filter p++if p l[k]then[l[k]]else[]:=by
 rw[List.take_add_one,List.getElem?_eq_getElem h,List.filter_append];simp only[Option.toList_some,List.filter_cons,List.filter_nil]
theorem rLeads_of(laws:List Law)(s:St)(wd rd:List Deed)(LA CA MA DA WA RA GA:Option Addr)(c0 c1 c2 c3 c4 c5 c6:Nat)(law:Law)(frm:ByteArray)(hk:StLink s wd rd)(hf:StFew s wd rd)(f:Nat)(n:ByteArray)(w:World)(h:StIn w laws s wd rd LA CA MA DA WA RA GA c0 c1 c2 c3 c4 c5 c6)
 (IH:∀W,Below w.heap.size w W->Calls Tryz.prog 185 #[.agg #[.slice LA laws.length c0,.slice CA s.children.length c1,.slice MA s.marriages.length c2,.slice DA s.dead.length c3,.slice WA wd.length c4,.slice RA rd.length c5,.slice GA s.graves.length c6],law.v,.string n,.string frm] W (zdj W (zd8 s law.stems frm f n))):
 Calls Tryz.prog 201 #[.agg #[.slice LA laws.length c0,.slice CA s.children.length c1,.slice MA s.marriages.length c2,.slice DA s.dead.length c3,.slice WA wd.length c4,.slice RA rd.length c5,.slice GA s.graves.length c6],law.v,.string n,.string frm] w (Ret w (.bool (zcY s law.stems frm f n).isSome)):=by
 have fx:=zHi (fun W (hB:Below w.heap.size w W)=>sAble n frm W (h.keep hB) hk hf);have cY:(zcY s law.stems frm f n).isSome=(zed s n frm||law.stems&&decide (0<(zd8 s law.stems frm f n).length)):=by
  rw[<-zgF];unfold zcY;cases zed s n frm
  ·cases law.stems
   ·rfl
   ·cases zb7 s true frm f n<;>rfl
  ·rfl
 rw[cY];unfold Law.v at IH⊢;generalize zed s n frm=ab at*;generalize zd8 s law.stems frm f n=ls at*;have In:=zHi IH;clear cY IH h;go_enter Tryz.func201,Tryz.ntmps201
 go_upto_region 1 with fail
 obtain⟨W0,ak⟩:∃W0,W0=(w.alloc (.cells #[.slice LA laws.length c0,.slice CA s.children.length c1,.slice MA s.marriages.length c2,.slice DA s.dead.length c3,.slice WA wd.length c4,.slice RA rd.length c5,.slice GA s.graves.length c6] 44)).alloc (.cells #[.int .i64 law.frm,.bool law.stems,.int .i64 law.num,.int .i64 law.den] 100):=⟨_,rfl⟩
 have g0:W0.heap[w.heap.size]?=some (.cells #[.slice LA laws.length c0,.slice CA s.children.length c1,.slice MA s.marriages.length c2,.slice DA s.dead.length c3,.slice WA wd.length c4,.slice RA rd.length c5,.slice GA s.graves.length c6] 44):=Mdr;have g1:W0.heap[w.heap.size+1]?=some (.cells #[.int .i64 law.frm,.bool law.stems,.int .i64 law.num,.int .i64 law.den] 100):=by rw[ak];exact zaq _ _ _ Mcx
 have aE:Below w.heap.size w W0:=Mc5;rw[<-ak];clear ak;obtain⟨d0,d1,d2,d3,d4,d5,d6⟩:=zaH g0;obtain⟨e0,e1,e2,e3⟩:=cF4 g1;have l0:=zab g0;have l1:=zab g1;have au:=aE.size;have aj:=zHi aE;clear aE g0 g1;cases ab
 ·generalize law.stems=st at*;cases st
  ·exact MaL
  ·go_upto_region 5 with(go_at_call 184;go_must(refine(fx.o _ Mdl).mono ?_);rintro e wq ⟨rfl,z,rfl⟩)
   by_cases hz:0<ls.length
   ·have iH:(0:Int)<(ls.length:Int):=Mcu;exact Mab
   ·have iH:¬(0:Int)<(ls.length:Int):=Mcu;exact Mab
 ·exact MaL
theorem zhm(laws:List Law)(s:St)(wd rd:List Deed)(LA CA MA DA WA RA GA:Option Addr)(c0 c1 c2 c3 c4 c5 c6:Nat)(law:Law)(frm:ByteArray)(hk:StLink s wd rd)(hf:StFew s wd rd):∀(f:Nat) (n:ByteArray) (w:World),StIn w laws s wd rd LA CA MA DA WA RA GA c0 c1 c2 c3 c4 c5 c6->Deep s f n->
 Calls Tryz.prog 185 #[.agg #[.slice LA laws.length c0,.slice CA s.children.length c1,.slice MA s.marriages.length c2,.slice DA s.dead.length c3,.slice WA wd.length c4,.slice RA rd.length c5,.slice GA s.graves.length c6],law.v,.string n,.string frm] w (zdj w (zd8 s law.stems frm f n))
 |0,n,w,_,hd=>hd.elim
 |f+1,n,w,h,hd=>by
  obtain⟨Bj,jT⟩:=yH2 (fun(c:ByteArray) (W:World) (hc:c∈zai s n) (hB:Below w.heap.size w W)=>rLeads_of laws s wd rd LA CA MA DA WA RA GA c0 c1 c2 c3 c4 c5 c6 law frm hk hf f c W (h.keep hB) fun W' eC=>zhm laws s wd rd LA CA MA DA WA RA GA c0 c1 c2 c3 c4 c5 c6 law frm hk hf f c W' ((h.keep hB).keep eC) (hd c hc)) (fun W (hB:Below w.heap.size w W)=>sKids n W (h.keep hB) hf);have bX:(zai s n).length<=1000:=Nat.le_trans (zhU s.children n) hf.kids;rw[show zd8 s law.stems frm (f+1) n=(zai s n).filter (fun c=>(zcY s law.stems frm f c).isSome) from rfl];unfold zdj;unfold Law.v at Bj⊢;generalize zai s n=ks at*;generalize hP:(fun c=>(zcY s law.stems frm f c).isSome)=P at*;have Iw:Hid (∀c W,c∈ks->Below w.heap.size w W->Calls Tryz.prog 201 #[.agg #[.slice LA laws.length c0,.slice CA s.children.length c1,.slice MA s.marriages.length c2,.slice DA s.dead.length c3,.slice WA wd.length c4,.slice RA rd.length c5,.slice GA s.graves.length c6],.agg #[.int .i64 law.frm,.bool law.stems,.int .i64 law.num,.int .i64 law.den],.string c,.string frm] W (Ret W (.bool (P c)))):=zHi (by rw[<-hP];exact Bj.o);obtain⟨bT,nX⟩:=yH2 (fun k hk=>znx P ks (k:=k) hk) bX;clear hP Bj h hd bX;go_enter Tryz.func185,Tryz.ntmps185
  go_upto_region 1 with fail
  obtain⟨W0,ak⟩:∃W0,W0=(w.alloc (.cells #[.slice LA laws.length c0,.slice CA s.children.length c1,.slice MA s.marriages.length c2,.slice DA s.dead.length c3,.slice WA wd.length c4,.slice RA rd.length c5,.slice GA s.graves.length c6] 44)).alloc (.cells #[.int .i64 law.frm,.bool law.stems,.int .i64 law.num,.int .i64 law.den] 100):=⟨_,rfl⟩
  have g0:W0.heap[w.heap.size]?=some (.cells #[.slice LA laws.length c0,.slice CA s.children.length c1,.slice MA s.marriages.length c2,.slice DA s.dead.length c3,.slice WA wd.length c4,.slice RA rd.length c5,.slice GA s.graves.length c6] 44):=Mdr;have g1:W0.heap[w.heap.size+1]?=some (.cells #[.int .i64 law.frm,.bool law.stems,.int .i64 law.num,.int .i64 law.den] 100):=by rw[ak];exact zaq _ _ _ Mcx
  have aE:Below w.heap.size w W0:=Mc5;rw[<-ak];clear ak;obtain⟨d0,d1,d2,d3,d4,d5,d6⟩:=zaH g0;have l0:=zab g0;have l1:=zab g1;have aj:=zHi aE;go_upto_region 4 with(go_at_call 164;go_must(refine(jT.o _ Mdl).mono ?_);rintro e w1 ⟨v1,rfl,o1,b1⟩)
  obtain⟨KA,kc,rfl,fR,_⟩:=o1.sl za9;obtain⟨G0,G1,aC,fg⟩:=yH4 ((b1.block _ l0).trans g0) ((b1.block _ l1).trans g1) (aE.trans (b1.mono aE.size)) fR;have ii:=aC.o.size;have bp:w.heap.size+1<w1.heap.size:=Nat.lt_of_lt_of_le l1 b1.size;clear o1 b1 aE d0 d1 d2 d3 d4 d5 d6 g0 g1 fR jT l0 l1;go_loopw [10,11] (fun v i wr=>∃k:Nat,k<=ks.length/\i=.int .i64 k/\OwnS wr w1.heap.size 9 1 sC v ((ks.take k).filter P)/\Below w1.heap.size w1 wr) (fun _ i _=>ks.length-(intOf i).toNat)
  case atStart=>exact⟨0,Nat.zero_le _,rfl,OwnS.nil,Below.refl _ _⟩
  case round=>
   obtain⟨k,hk,rfl,aa,hB⟩:=hrel;have iy:k<=1000:=by have:=nX.o;omega
   have aI:=hB.size;obtain⟨HO,HB⟩:=yH2 aa hB;by_cases ae:k<ks.length
   ·have ao:=bT.o k ae;have bH:=List.getElem_mem ae;have bR:((ks.take k).filter P).length<=1000:=by
     have h1:=List.length_filter_le P (ks.take k);rw[List.length_take]at h1;have:=nX.o;omega
    generalize(ks.take k).filter P=xs at*;obtain⟨VA,vc,rfl,_,jx⟩:=aa.sl za9;obtain⟨b,off,rfl,hb,ah⟩:=(fg.o.keep hB).at ae;have am:=zHi ae;generalize ks[k]=x at*;have i0:wr.cell? ⟨b,off+k,none⟩=some (.string x):=McW;obtain⟨d0,d1,d2,d3,d4,d5,d6⟩:=zaH ((hB.block _ Mcu).trans G0.o);have g1:=(hB.block _ Mcu).trans G1.o;obtain⟨e0,e1,e2,e3⟩:=cF4 g1;have ar:(k:Int)<(ks.length:Int):=Mcu;have aT:(0:Int)<=(k:Int):=Mcu;have fP:=zHi bR;have EY:=zHi (aC.o.trans (hB.mono ii));have jU:=zHi (fun W (hW:Below wr.heap.size wr W)=>Iw.o x W bH (EY.o.trans (hW.mono EY.o.size)));have cG:w.heap.size<wr.heap.size:=Mcu;have zo:w.heap.size+1<wr.heap.size:=Mcu;clear ah ae aa hB bR g1 bH;go_upto_region 6 with fail
    cases hp:P x
    ·have aK:Hid ((ks.take (k+1)).filter P=xs):=by show _=_;rw[ao,hp];simp
     rw[hp]at jU;clear ao hp
     (refine zaj Mcv Mcv ?_
      repeat(first|go_big_quiet_skip|(go_big_quiet_want;go_big_quiet_op;first|go_big_quiet_on|(apply Exists.intro;refine⟨fun _=>?_,?_⟩;(go_at_call 201;exact quietx (jU.o _ Bw));go_big_quiet_on)))
      refine wpQuiet_nil ?_
      rintro _ ⟨zq,rfl⟩)
     go_wp2_with fail
     go_round
     case rel=>exact⟨k+1,am.o,by go_num,by rw[aK.o];exact HO.o.keep (n:=wr.heap.size) (zao wr zq),zbg HB.o zq⟩
     case measure=>have:=am.o;simp only[intOf];omega
    ·have aK:Hid ((ks.take (k+1)).filter P=xs++[x]):=by show _=_;rw[ao,hp];rfl
     rw[hp]at jU;clear ao hp
     (refine zaj Mcv Mcv ?_
      repeat(first|go_big_quiet_skip|(go_big_quiet_want;go_big_quiet_op;first|go_big_quiet_on|(apply Exists.intro;refine⟨fun _=>?_,?_⟩;(go_at_call 201;exact quietx (jU.o _ Bw));go_big_quiet_on)))
      refine wpQuiet_nil ?_
      rintro _ ⟨zq,rfl⟩)
     go_wp2_with (at_builtin
                  go_loud(refine zat (v:=.slice VA xs.length vc) (n:=xs.length) (m:=1) rfl _ _ rfl zb9 za9 zb8 rfl (xs:=xs) (ys:=[x]) (HO.o.keep (n:=wr.heap.size) Bw) rfl rfl rfl (zfT (zaq _ _ _ MdI)) Mc4 Mde McD ?_)
                  intro v3 w3 h1 h2 h3;have ay:=Below.grown (B:=w1.heap.size) (a:=w1) (HB.o.trans (Below.mono (B:=wr.heap.size) (zac (zao wr zq) _) aI)) h2 McD (fun j hj=>(HO.o.ge j hj).1);obtain⟨H1,aH⟩:=yH2 h1 ay
                  clear h1 h2 h3 ay)
     exact Mad
   ·have ar:¬(k:Int)<(ks.length:Int):=Mcu;rw[List.take_of_length_le Mcu]at HO aa;obtain⟨VA,vc,rfl,_,_⟩:=aa.sl za9;clear aa hB;go_wp2_with fail
    go_ret
    exact⟨.slice VA (ks.filter P).length vc,rfl,HO.o.base_le ii,aC.o.trans (HB.o.mono ii)⟩
def zeP(share:Rat)(T:List Tree)(out:Parts):Option Parts:=if bigQ (share*(1/(T.length:Rat)))then none else zbJ (share*(1/(T.length:Rat))) T out
theorem zh6(a:Rat)(n:Nat):a/(n:Rat)=a*(1/(n:Rat)):=by grind
theorem tree_node{each:Rat}{l:List Tree}{out:Parts}:zep each (.node l) out=zeP each l out:=by
 rw[zep,zeP,zh6]
mutual
theorem zgG{each:Rat}{L:List ByteArray}:∀ {l:List Tree} {out o:Parts},zbJ each l out=some o->zcA L l->zco out L->zco o L
 | [],out,o,h,_,hn=>by
   rw[zbJ]at h;cases h;exact hn
 |x::l,out,o,h,hl,hn=>by
  rw[zcA]at hl;rw[zbJ]at h;cases ht:zep each x out with
  |none=>rw[ht]at h;cases h
  |some o1=>
   rw[ht]at h;exact zgG (l:=l) h hl.2 (zjd ht hl.1 hn)
theorem zjd{each:Rat}{L:List ByteArray}:∀ {x:Tree} {out o:Parts},zep each x out=some o->zfo L x->zco out L->zco o L
 | .leaf n,out,o,h,hl,hn=>by
   rw[zfo]at hl;rw[zep]at h;split at h
   ·cases h
   ·cases h;intro p hp;rcases zfd hp with e|hp
    ·rw[e];exact hl
    ·exact hn p hp
 | .node l,out,o,h,hl,hn=>by
   rw[zfo]at hl;rw[zep]at h;split at h
   ·cases h
   ·exact zgG (l:=l) h hl hn
end
theorem zgH{out:Parts}{L:List ByteArray}(hg:GoodParts out)(h:zco out L):out.length<=L.length:=by
 haveI:DecidableEq ByteArray:=fun a b=>Classical.propDecidable _
 have hn:(out.map (·.1)).Nodup:=by
  rw[List.nodup_iff_pairwise_ne,List.pairwise_map];exact hg.asc.imp fun h=>zc8 h
 have:=ziM hn (m:=L) fun x hx=>by
  obtain⟨p,hp,rfl⟩:=List.mem_map.1 hx;exact h p hp
 simpa using this
theorem zje{out:Parts}{L:List ByteArray}{n:ByteArray}{q:Rat}(h:zco out L)(hn:n∈L):zco (za3 out n q) L:=fun p hp=>by
 rcases zfd hp with e|hp
 ·rw[e];exact hn
 ·exact h p hp
theorem zon{α β:Type}(g:α->Option β):∀(l:List α) (k:Nat) (x:α),(l.filter fun x=>(g x).isSome)[k]?=some x->x∈l/\∃t,g x=some t/\(l.filterMap g)[k]?=some t
 | [],k,x,h=>by simp at h
 |y::l,k,x,h=>by
  cases hg:g y with
  |none=>
   rw[List.filter_cons_of_neg (by simp[hg])]at h;rw[List.filterMap_cons_none hg];exact MbV
  |some t=>
   rw[List.filter_cons_of_pos (by simp[hg])]at h;rw[List.filterMap_cons_some hg];cases k with
   |zero=>
    obtain rfl:y=x:=by simpa using h
    exact⟨by simp,t,hg,rfl⟩
   |succ k=>
    exact MbV
structure Hd (out:Parts) (L:List ByteArray):Prop where
 good:GoodParts out
 small:zaF out=false
 names:zco out L
theorem Hd.parts{out:Parts}{L:List ByteArray}(h:Hd out L)(hs:sumQ out<=1):∀p∈out,zaJ p.2:=fun p hp=>(zdO (hs:=out) ⟨h.good,h.small,hs⟩ hp).2.2
def SprPost(w:World)(R:Option Parts)(e:Ending)(w':World):Prop:=
 ∃(A:Option Addr) (c:Nat) (xs:Parts),e=.returned (.slice A xs.length c)/\Sl w' 3 zaa A xs/\Below w.heap.size w w'/\xs.length<=100000/\(R=some xs\/(R=none/\zaF xs=true))
theorem zkc{L:List ByteArray}:∀ {T:List Tree},zcA L T->∀t∈T,zfo L t
 | [],_,t,ht=>by cases ht
 |x::T,h,t,ht=>by
  rw[zcA]at h;rcases List.mem_cons.1 ht with rfl|ht
  ·exact h.1
  ·exact zkc h.2 t ht
theorem zjf(laws:List Law)(s:St)(wd rd:List Deed)(LA CA MA DA WA RA GA:Option Addr)(c0 c1 c2 c3 c4 c5 c6:Nat)(law:Law)(frm:ByteArray)(L:List ByteArray)(hk:StLink s wd rd)(hf:StFew s wd rd)(hL:∀c∈s.children,c.2∈L)(u4:L.length<=90000):
 ∀(f:Nat) (n:ByteArray) (share:Rat) (A:Option Addr) (c:Nat) (out:Parts) (w:World),StIn w laws s wd rd LA CA MA DA WA RA GA c0 c1 c2 c3 c4 c5 c6->Deep s f n->Sl w 3 zaa A out->Hd out L->0<=share->zaJ share->sumQ out+share<=1->0<(zd8 s law.stems frm f n).length->
 Calls Tryz.prog 186 #[.agg #[.slice LA laws.length c0,.slice CA s.children.length c1,.slice MA s.marriages.length c2,.slice DA s.dead.length c3,.slice WA wd.length c4,.slice RA rd.length c5,.slice GA s.graves.length c6],law.v,.string n,.string frm,zaA share,.slice A out.length c] w (SprPost w (zeP share (zb7 s law.stems frm f n) out))
 |0,n,_,_,_,_,w,_,hd,_,_,_,_,_,_=>hd.elim
 |f+1,n,share,A,c,out,w,h,hd,hS,hH,au,nO,dU,ai=>by
  obtain⟨df,fx,qP⟩:=yH3 (fun W (hB:Below w.heap.size w W)=>zhm laws s wd rd LA CA MA DA WA RA GA c0 c1 c2 c3 c4 c5 c6 law frm hk hf (f+1) n W (h.keep hB) hd) (fun x W (hB:Below w.heap.size w W)=>sAble x frm W (h.keep hB) hk hf) (fun(x:ByteArray) (hx:x∈zai s n) (share:Rat) (A:Option Addr) (c:Nat) (out:Parts) (W:World) (hB:Below w.heap.size w W)=>zjf laws s wd rd LA CA MA DA WA RA GA c0 c1 c2 c3 c4 c5 c6 law frm L hk hf hL u4 f x share A c out W (h.keep hB) (hd x hx));have fH:=zgF s law.stems frm (f+1) n;have bX:(zd8 s law.stems frm (f+1) n).length<=1000:=Nat.le_trans (List.length_filter_le _ _) (Nat.le_trans (zhU s.children n) hf.kids);have gX:=fun k x hx=>zon (zcY s law.stems frm f) (zai s n) k x hx
  rw[<-show zd8 s law.stems frm (f+1) n=(zai s n).filter (fun c=>(zcY s law.stems frm f c).isSome) from rfl,<-zf6]at gX;have bv:=zkl s law.stems frm (f+1) n;have sI:=zfp (stems:=law.stems) (frm:=frm) hL (f+1) n;unfold zeP;rw[fH];obtain⟨cf,dX,Gw,y8⟩:=zhO ai;have mN:=zlB ai bX;have iV:=zHi (fun W=>zgz share (1/((zd8 s law.stems frm (f+1) n).length:Rat)) W nO mN);unfold zaA at iV qP⊢;rw[cf,dX]at iV;have jn:share*(1/((zd8 s law.stems frm (f+1) n).length:Rat))*((zd8 s law.stems frm (f+1) n).length:Rat)=share:=by
   have:=ratN (Nat.pos_iff_ne_zero.1 ai);grind
  have Gb:0<=share*(1/((zd8 s law.stems frm (f+1) n).length:Rat)):=Rat.mul_nonneg au Gw;have pM:share*(1/((zd8 s law.stems frm (f+1) n).length:Rat))<=share:=by
   have:=Rat.mul_le_mul_of_nonneg_left y8 au;rwa [Rat.mul_one]at this
  generalize zd8 s law.stems frm (f+1) n=ls at*;generalize zb7 s law.stems frm (f+1) n=T at*;generalize share*(1/(ls.length:Rat))=each at*;obtain⟨R,hR⟩:∃R,R=if bigQ each then none else zbJ each T out:=⟨_,rfl⟩
  rw[<-hR];obtain⟨HR,HS,Hu,Ik,pi⟩:=yH5 hR hS gX hH Gb;have qg:0<=sumQ out:=zbt fun p hp=>by have:=hH.good.pos p hp;grind
  have eL:Hid (each<=1):=by show _<=_;grind
  have tL:Hid (sumQ out+each*(ls.length:Rat)<=1):=by show _<=_;rw[jn];exact dU
  obtain⟨lP,nX,dr,Ix⟩:=yH4 fH bX bv sI;unfold Law.v at df qP⊢;unfold SprPost;clear h hd hS hH nO dU fH bX gX bv sI cf dX Gw y8 mN jn Gb pM hR qg au;go_enter Tryz.func186,Tryz.ntmps186
  go_upto_region 1 with fail
  obtain⟨W0,ak⟩:∃W0,W0=((w.alloc (.cells #[.slice LA laws.length c0,.slice CA s.children.length c1,.slice MA s.marriages.length c2,.slice DA s.dead.length c3,.slice WA wd.length c4,.slice RA rd.length c5,.slice GA s.graves.length c6] 44)).alloc (.cells #[.int .i64 law.frm,.bool law.stems,.int .i64 law.num,.int .i64 law.den] 100)).alloc (.cells #[.int .i64 share.num,.int .i64 share.den] 31):=⟨_,rfl⟩
  have g0:W0.heap[w.heap.size]?=some (.cells #[.slice LA laws.length c0,.slice CA s.children.length c1,.slice MA s.marriages.length c2,.slice DA s.dead.length c3,.slice WA wd.length c4,.slice RA rd.length c5,.slice GA s.graves.length c6] 44):=Mdv;have g1:W0.heap[w.heap.size+1]?=some (.cells #[.int .i64 law.frm,.bool law.stems,.int .i64 law.num,.int .i64 law.den] 100):=by rw[ak];exact zal (zaq _ _ _ Mcx)
  have g2:W0.heap[w.heap.size+2]?=some (.cells #[.int .i64 share.num,.int .i64 share.den] 31):=by rw[ak];exact zaq _ _ _ Mcx
  have aE:Below w.heap.size w W0:=Mc5;rw[<-ak];clear ak;have l2:=zab g2;have aj:=zHi aE;have m8:=aE.size
  have aw:=zHi (fun W (hB:Below W0.heap.size W0 W)=>(show(W.cell? ⟨w.heap.size,0,none⟩=some (.slice LA laws.length c0)/\W.cell? ⟨w.heap.size,1,none⟩=some (.slice CA s.children.length c1)/\W.cell? ⟨w.heap.size,2,none⟩=some (.slice MA s.marriages.length c2)/\W.cell? ⟨w.heap.size,3,none⟩=some (.slice DA s.dead.length c3)/\W.cell? ⟨w.heap.size,4,none⟩=some (.slice WA wd.length c4)/\W.cell? ⟨w.heap.size,5,none⟩=some (.slice RA rd.length c5)/\W.cell? ⟨w.heap.size,6,none⟩=some (.slice GA s.graves.length c6))/\(W.cell? ⟨w.heap.size+1,0,none⟩=some (.int .i64 law.frm)/\W.cell? ⟨w.heap.size+1,1,none⟩=some (.bool law.stems)/\W.cell? ⟨w.heap.size+1,2,none⟩=some (.int .i64 law.num)/\W.cell? ⟨w.heap.size+1,3,none⟩=some (.int .i64 law.den))/\(W.cell? ⟨w.heap.size+2,0,none⟩=some (.int .i64 share.num)/\W.cell? ⟨w.heap.size+2,1,none⟩=some (.int .i64 share.den)) from by
   have x0:=(hB.block _ Mcu).trans g0;have x1:=(hB.block _ Mcu).trans g1;have x2:=(hB.block _ l2).trans g2
   refine⟨zaH x0,⟨?_,?_,?_,?_⟩,zby x2⟩<;>(simp only[World.cell?,x1];rfl)))
  obtain⟨⟨d0,d1,d2,d3,d4,d5,d6⟩,⟨e0,e1,e2,e3⟩,q0,q1⟩:=aw.o W0 (Below.refl _ _);clear g0 g1 g2 aE;go_upto_region 3 with(go_at_call 185;go_must(refine(df.o _ Mdl).mono ?_);rintro e w1 ⟨v1,rfl,o1,b1⟩)
  obtain⟨KA,kc,rfl,fR,_⟩:=o1.sl za9;obtain⟨aC,fg⟩:=yH2 b1 fR;have ii:=b1.size;clear o1 b1 fR df d0 d1 d2 d3 d4 d5 d6 e0 e1 e2 e3 q0 q1;go_loopw [5,14,15] (fun v i _ wr=>∃(k:Nat) (ys:Parts) (YA:Option Addr) (yc:Nat),k<=ls.length/\v=.slice YA ys.length yc/\i=.int .i64 k/\Hid (R=if bigQ each then none else zbJ each (T.drop k) ys)/\Hid (Hd ys L)/\Hid (sumQ ys+each*((ls.length-k:Nat):Rat)<=1)/\(0<k->bigQ each=false)/\Sl wr 3 zaa YA ys/\Below w1.heap.size w1 wr) (fun _ i _ _=>ls.length-(intOf i).toNat)
  case atStart=>exact⟨0,out,A,c,Nat.zero_le _,rfl,rfl,zHi (by rw[List.drop_zero];exact HR.o),Ik,zHi (by rw[Nat.sub_zero];exact tL.o),fun h=>absurd h Mcu,(HS.o.keep aj.o).keep aC.o,Below.refl _ _⟩
  case round=>
   obtain⟨k,zs,ZA,zc,hk,rfl,rfl,HX,HZ,zW,jh,hZ,hB⟩:=hrel;have iy:k<=1000:=by have:=nX.o;omega
   have aI:=hB.size;obtain⟨HB,C4⟩:=yH2 hB hZ;have cB:=aC.o.trans (hB.mono ii);by_cases ae:k<ls.length
   ·obtain⟨uF,t,cw,iS⟩:=Hu.o k ls[k] (List.getElem?_eq_getElem ae);obtain⟨b,off,rfl,hb,ah⟩:=(fg.o.keep hB).at ae;generalize ls[k]=x at*;have i0:wr.cell? ⟨b,off+k,none⟩=some (.string x):=McW;have p8:t∈T:=List.mem_of_getElem? iS;have gJ:T.drop k=t::T.drop (k+1):=by
     have h1:=(List.getElem?_eq_some_iff.1 iS)
     rw[List.drop_eq_getElem_cons h1.1,h1.2]
    have mx:((ls.length-k:Nat):Rat)=((ls.length-(k+1):Nat):Rat)+1:=by
     rw[show ls.length-k=(ls.length-(k+1))+1 by omega];exact zg2 _
    have i8:0<=each*((ls.length-(k+1):Nat):Rat):=Rat.mul_nonneg pi.o Rat.natCast_nonneg;have zA:sumQ zs+each<=1:=by have:=zW.o;rw[mx]at this;grind
    have hx:=HX.o;rw[gJ,zbJ]at hx;obtain⟨R1,ox⟩:∃R1,R1=zep each t zs:=⟨_,rfl⟩
    rw[<-ox]at hx
    have jV:Hid (∀ys,R1=some ys->bigQ each=false->Hid (R=if bigQ each then none else zbJ each (T.drop (k+1)) ys)/\Hid (Hd ys L)/\Hid (sumQ ys+each*((ls.length-(k+1):Nat):Rat)<=1)):=zHi (fun ys h1 h2=>by
     rw[ox]at h1;have hg:=zii pi.o HZ.o.good HZ.o.small h1;refine⟨zHi (by rw[hx,ox,h1];rfl),zHi ⟨hg.1,hg.2,zjd h1 (zkc Ix.o t p8) HZ.o.names⟩,zHi ?_⟩;have h3:=znC (zmy.1 dr.o t p8) h1;have h4:=zW.o;rw[mx]at h4;rw[h3]
     grind)
    have nv:Hid (R1=none->R=none):=zHi (fun h1=>by rw[hx,h1];split<;>rfl);have ar:(k:Int)<(ls.length:Int):=Mcu;have aT:(0:Int)<=(k:Int):=Mcu;obtain⟨⟨d0,d1,d2,d3,d4,d5,d6⟩,⟨e0,e1,e2,e3⟩,q0,q1⟩:=aw.o wr cB;have zo:w.heap.size+2<wr.heap.size:=Mcu;obtain⟨am,br,IY,gV,zU,b8⟩:=yH6 ae uF cw ox zA cB;clear ah hB hZ hx gJ mx i8 zA p8 iS cw ox uF cB ae;go_upto_region 6 with(go_at_call 158;go_must(refine(iV.o _).mono ?_);rintro e wq ⟨rfl,z,rfl⟩)
    obtain⟨E,hE⟩:∃E,E=wr.heap.size+z.os.size:=⟨_,rfl⟩
    obtain⟨WE,An⟩:∃WE,WE=(wr.ext z).alloc (.cells #[.int .i64 each.num,.int .i64 each.den] 31):=⟨_,rfl⟩
    have gE:WE.heap[E]?=some (.cells #[.int .i64 each.num,.int .i64 each.den] 31):=by rw[An];exact zaq _ _ _ (by rw[hE];simp[zag])
    have rW:Below wr.heap.size wr WE:=by rw[An];exact zac (zao wr z) _
    rw[<-An,<-hE];clear An hE d0 d1 d2 d3 d4 d5 d6 e0 e1 e2 e3 q0 q1;obtain⟨v0,v1⟩:=zby gE;have Fh:=rW.size;have Fg:=zab gE
    have bZ:=zHi (fun W (h:Below WE.heap.size WE W)=>(show((W.cell? ⟨w.heap.size,0,none⟩=some (.slice LA laws.length c0)/\W.cell? ⟨w.heap.size,1,none⟩=some (.slice CA s.children.length c1)/\W.cell? ⟨w.heap.size,2,none⟩=some (.slice MA s.marriages.length c2)/\W.cell? ⟨w.heap.size,3,none⟩=some (.slice DA s.dead.length c3)/\W.cell? ⟨w.heap.size,4,none⟩=some (.slice WA wd.length c4)/\W.cell? ⟨w.heap.size,5,none⟩=some (.slice RA rd.length c5)/\W.cell? ⟨w.heap.size,6,none⟩=some (.slice GA s.graves.length c6))/\(W.cell? ⟨w.heap.size+1,0,none⟩=some (.int .i64 law.frm)/\W.cell? ⟨w.heap.size+1,1,none⟩=some (.bool law.stems)/\W.cell? ⟨w.heap.size+1,2,none⟩=some (.int .i64 law.num)/\W.cell? ⟨w.heap.size+1,3,none⟩=some (.int .i64 law.den))/\W.cell? ⟨b,off+k,none⟩=some (.string x)/\W.cell? ⟨E,0,none⟩=some (.int .i64 each.num)/\W.cell? ⟨E,1,none⟩=some (.int .i64 each.den)) from by
     have hw:=aw.o W (b8.o.trans ((rW.trans (h.mono Fh)).mono b8.o.size))
     exact⟨hw.1,hw.2.1,(zah (rW.trans (h.mono Fh)) hb).trans i0,(zah h Fg).trans v0,(zah h Fg).trans v1⟩))
    obtain⟨lC,lD,F4⟩:=yH3 (HB.o.trans (rW.mono aI)) (b8.o.trans (rW.mono b8.o.size)) (C4.o.keep rW);clear gE rW i0 C4;by_cases hbig:bigQ each=true
    ·have dt:1000000000<(each.den:Int):=by unfold bigQ at hbig;simpa using hbig
     have pA:Hid (R=none):=by show _=_;rw[HX.o,if_pos hbig]
     have Hv:=zHi hbig;clear hbig;go_wp2_with fail
     go_ret
     exact⟨_,_,[((⟨#[]⟩:ByteArray),each)],rfl,zdi (zaq _ _ _ rfl),aj.o.trans ((zac lD.o _).mono m8),by simp,.inr ⟨pA.o,by simp[zaF,Hv.o]⟩⟩
    ·have kh:bigQ each=false:=by simpa using hbig
     have dt:¬1000000000<(each.den:Int):=by unfold bigQ at kh;simpa using kh
     have GY:=zcd pi.o eL.o kh;obtain⟨vC,AU,od⟩:=yH3 (fun ys h=>jV.o ys h kh) kh GY;have kF:=zHi (fun W (h:Below WE.heap.size WE W)=>fx.o x W (aj.o.trans ((lD.o.trans (h.mono lD.o.size)).mono m8)));obtain⟨⟨d0,d1,d2,d3,d4,d5,d6⟩,⟨e0,e1,e2,e3⟩,j0,v0,v1⟩:=bZ.o WE (Below.refl _ _);have hwE:w.heap.size<WE.heap.size:=Mcu;have Kf:b<WE.heap.size:=Mcu;clear kh hbig GY jV HX;go_upto_region 8 with fail
     have cY:=IY.o;unfold zcY at cY;cases cJ:zed s x frm
     ·rw[cJ]at kF cY;simp only[Bool.false_eq_true,if_false]at cY;have ht:t=.node (zb7 s law.stems frm f x)/\0<(zd8 s law.stems frm f x).length:=by
       split at cY
       ·rename_i h
        cases cY;refine⟨rfl,?_⟩;rw[<-zgF];rw[Bool.and_eq_true]at h;cases hT:zb7 s law.stems frm f x with
        |nil=>rw[hT]at h;simp at h
        |cons=>simp
       ·cases cY
      have vN:=zHi (fun W (h:Below WE.heap.size WE W)=>qP.o x br.o each ZA zc zs W (aj.o.trans ((lD.o.trans (h.mono lD.o.size)).mono m8)) (F4.o.keep h) HZ.o pi.o od.o zU.o ht.2);have fL:R1=zeP each (zb7 s law.stems frm f x) zs:=by rw[gV.o,ht.1,tree_node]
      rw[<-fL]at vN;clear fL ht cY cJ
      (refine zaj Mcv Mcv ?_
       repeat(first|go_big_quiet_skip|(go_big_quiet_want;go_big_quiet_op;first|go_big_quiet_on|(apply Exists.intro;refine⟨fun _=>?_,?_⟩;(go_at_call 184;exact quietx (kF.o _ Bw));go_big_quiet_on)))
       refine wpQuiet_nil ?_
       rintro _ ⟨zq,rfl⟩)
      obtain⟨WQ,oz⟩:∃WQ,WQ=WE.ext zq:=⟨_,rfl⟩
      have mn:Below WE.heap.size WE WQ:=Met;rw[<-oz];clear oz;go_upto_region 10 with fail
      refine za7 9 (fun bb w'=>bb=true\/((w'.cell? ⟨w.heap.size,0,none⟩=some (.slice LA laws.length c0)/\w'.cell? ⟨w.heap.size,1,none⟩=some (.slice CA s.children.length c1)/\w'.cell? ⟨w.heap.size,2,none⟩=some (.slice MA s.marriages.length c2)/\w'.cell? ⟨w.heap.size,3,none⟩=some (.slice DA s.dead.length c3)/\w'.cell? ⟨w.heap.size,4,none⟩=some (.slice WA wd.length c4)/\w'.cell? ⟨w.heap.size,5,none⟩=some (.slice RA rd.length c5)/\w'.cell? ⟨w.heap.size,6,none⟩=some (.slice GA s.graves.length c6))/\(w'.cell? ⟨w.heap.size+1,0,none⟩=some (.int .i64 law.frm)/\w'.cell? ⟨w.heap.size+1,1,none⟩=some (.bool law.stems)/\w'.cell? ⟨w.heap.size+1,2,none⟩=some (.int .i64 law.num)/\w'.cell? ⟨w.heap.size+1,3,none⟩=some (.int .i64 law.den))/\w'.cell? ⟨b,off+k,none⟩=some (.string x)/\w'.cell? ⟨E,0,none⟩=some (.int .i64 each.num)/\w'.cell? ⟨E,1,none⟩=some (.int .i64 each.den))) Mcv (.inr (bZ.o _ (zaE mn))) ?hrest
      case hrest=>
       intro hHeld;refine TkM 0 ?_;refine TkM 1 ?_;refine TkM 2 ?_;refine TkM 3 ?_;refine TkM 4 ?_;refine TkM 5 ?_;refine TkM 6 ?_;refine TkM 7 ?_;refine TkM 8 ?_;refine OnM 9 true fun K hK=>?_
       go_simp
       refine(vN.o _ (zaE mn)).mono ?_;rintro e w5 ⟨YA,yc,ys,rfl,wX,CL,Ka,Kb⟩;refine NxM hK fun hHeld=>?_
       clear hK K;refine OnM 10 true fun K hK=>?_
       go_simp
       refine NxM hK fun hHeld=>?_
       clear hK K;refine zaG Mcv ?_ _;clear hHeld;obtain⟨BK,kU⟩:=yH2 Kb Ka;exact Mx
     ·rw[cJ]at kF cY;simp only[if_true]at cY;have ht:t=.leaf x:=by cases cY;rfl
      have zw:=zgH HZ.o.good HZ.o.names;have vN:=zHi (fun W (h:Below WE.heap.size WE W)=>zcZ zs x each ZA zc W Mcu (HZ.o.parts (by have:=zU.o;have:=pi.o;grind)) od.o (F4.o.keep h));have fL:R1=if zaF (za3 zs x each)then none else some (za3 zs x each):=by rw[gV.o,ht,zep]
      have BK:Hid (R1=some (za3 zs x each)\/(R1=none/\zaF (za3 zs x each)=true)):=zHi (by
       rw[fL];cases h:zaF (za3 zs x each)
       ·exact .inl rfl
       ·exact .inr ⟨rfl,rfl⟩)
      have kU:Hid ((za3 zs x each).length<=100000):=zHi (by have:=zc1 x each zs;omega);generalize za3 zs x each=ys at*;unfold zaA at vN;clear fL ht cY cJ zw
      (refine zaj Mcv Mcv ?_
       repeat(first|go_big_quiet_skip|(go_big_quiet_want;go_big_quiet_op;first|go_big_quiet_on|(apply Exists.intro;refine⟨fun _=>?_,?_⟩;(go_at_call 184;exact quietx (kF.o _ Bw));go_big_quiet_on)))
       refine wpQuiet_nil ?_
       rintro _ ⟨zq,rfl⟩)
      obtain⟨WQ,oz⟩:∃WQ,WQ=WE.ext zq:=⟨_,rfl⟩
      have mn:Below WE.heap.size WE WQ:=Met;rw[<-oz];clear oz;go_upto_region 9 with fail
      refine za7 6 (fun bb w'=>bb=true\/((w'.cell? ⟨w.heap.size,0,none⟩=some (.slice LA laws.length c0)/\w'.cell? ⟨w.heap.size,1,none⟩=some (.slice CA s.children.length c1)/\w'.cell? ⟨w.heap.size,2,none⟩=some (.slice MA s.marriages.length c2)/\w'.cell? ⟨w.heap.size,3,none⟩=some (.slice DA s.dead.length c3)/\w'.cell? ⟨w.heap.size,4,none⟩=some (.slice WA wd.length c4)/\w'.cell? ⟨w.heap.size,5,none⟩=some (.slice RA rd.length c5)/\w'.cell? ⟨w.heap.size,6,none⟩=some (.slice GA s.graves.length c6))/\(w'.cell? ⟨w.heap.size+1,0,none⟩=some (.int .i64 law.frm)/\w'.cell? ⟨w.heap.size+1,1,none⟩=some (.bool law.stems)/\w'.cell? ⟨w.heap.size+1,2,none⟩=some (.int .i64 law.num)/\w'.cell? ⟨w.heap.size+1,3,none⟩=some (.int .i64 law.den))/\w'.cell? ⟨b,off+k,none⟩=some (.string x)/\w'.cell? ⟨E,0,none⟩=some (.int .i64 each.num)/\w'.cell? ⟨E,1,none⟩=some (.int .i64 each.den))) Mcv (.inr (bZ.o _ (zaE mn))) ?hrest
      case hrest=>
       intro hHeld;refine TkM 0 ?_;refine TkM 1 ?_;refine TkM 2 ?_;refine TkM 3 ?_;refine TkM 4 ?_;refine TkM 5 ?_;refine OnM 6 true fun K hK=>?_
       go_simp
       refine(vN.o _ (zaE mn)).mono ?_;rintro e w5 ⟨v5,rfl,o5,CL⟩;obtain⟨YA,yc,rfl,wX,_⟩:=o5.sl zam;refine NxM hK fun hHeld=>?_
       clear hK K;refine OnM 7 true fun K hK=>?_
       go_simp
       refine NxM hK fun hHeld=>?_
       clear hK K;refine zaG Mcv ?_ _;clear hHeld;exact Mx
   ·have ar:¬(k:Int)<(ls.length:Int):=Mcu;have hx:=HX.o;have oM:k=ls.length:=Mcu;rw[jh Mcu,List.drop_of_length_le (by rw[lP.o];omega),zbJ]at hx;have cn:Hid (R=some zs):=Md6;obtain⟨Jf,b8⟩:=yH2 (zgH HZ.o.good HZ.o.names) cB;clear hx oM hB hZ cB;go_wp2_with fail
    go_ret
    exact⟨ZA,zc,zs,rfl,C4.o,aj.o.trans (b8.o.mono m8),by have:=Jf.o;omega,.inl cn.o⟩
