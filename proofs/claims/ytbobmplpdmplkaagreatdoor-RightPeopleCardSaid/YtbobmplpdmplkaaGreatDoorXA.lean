import Derived.Test.YtbobmplpdmplkaaGreatDoorWX
set_option linter.all false
set_option maxRecDepth 100000
set_option maxHeartbeats 4000000
namespace Go.Proofs.YtbobmplpdmplkaaGreatDoor
open Go.RowKit Go.Shelf
attribute [local go_sem] World.cell?_alloc_mark zaf za4 zam za7 zaw zax zay zaz za0 za1 za2
attribute [local go_sem] zan zac
structure Srch (cs:List (ByteArray×ByteArray)) (nm:ByteArray) (all:List ByteArray) (i:Nat):Prop where
 desc:∀y∈all,Relation.TransGen (fun x y=>y∈zdi cs x) nm y
 mine:∀c∈zdi cs nm,c∈all
 done:∀y∈all.take i,∀c∈zdi cs y,c∈all
 few:∃n,n<=(zdi cs nm).length/\(all.drop n).Nodup/\n<=all.length
theorem zhO(cs:List (ByteArray×ByteArray))(n:ByteArray):(zdi cs n).length<=cs.length:=by
 unfold zdi;exact MbH
theorem ziT{cs:List (ByteArray×ByteArray)}{n c:ByteArray}(h:c∈zdi cs n):c∈cs.map (·.2):=by
 unfold zdi at h;obtain⟨p,hp,rfl⟩:=List.mem_map.1 h;exact List.mem_map_of_mem (List.mem_filter.1 hp).1
theorem Srch.len{cs:List (ByteArray×ByteArray)}{nm:ByteArray}{all:List ByteArray}{i:Nat}(h:Srch cs nm all i):all.length<=2*cs.length:=by
 obtain⟨n,h1,h2,h3⟩:=h.few;have h4:=zhO cs nm;haveI:DecidableEq ByteArray:=fun a b=>Classical.propDecidable _
 have h5:(all.drop n).length<=(cs.map (·.2)).length:=zki h2 fun y hy=>by
  cases h.desc y (List.mem_of_mem_drop hy)with
  |single h=>exact ziT h
  |tail _ h=>exact ziT h
 rw[List.length_drop,List.length_map]at h5;omega
theorem zpn(cs:List (ByteArray×ByteArray))(nm:ByteArray):Srch cs nm (zdi cs nm) 0:=
 ⟨fun y hy=> .single hy,fun c h=>h,by simp,(zdi cs nm).length,Nat.le_refl _,by simp,Nat.le_refl _⟩
theorem srch_end{cs:List (ByteArray×ByteArray)}{nm:ByteArray}{all:List ByteArray}{i:Nat}(h:Srch cs nm all i)(hi:all.length<=i)(y:ByteArray):y∈all↔Relation.TransGen (fun x y=>y∈zdi cs x) nm y:=by
 refine⟨h.desc y,fun hd=>?_⟩;have jM:=h.done;rw[List.take_of_length_le hi]at jM;induction hd with
 |single h1=>exact h.mine _ h1
 |tail _ h1 ih=>exact jM _ ih _ h1
def zdg(all more:List ByteArray):List ByteArray:=more.foldl (fun a c=>if a.any (zae c)then a else a++[c]) all
theorem zns{all more:List ByteArray}{k:Nat}(h:k<more.length):zdg all (more.take (k+1))=if(zdg all (more.take k)).any (zae more[k])then zdg all (more.take k)else zdg all (more.take k)++[more[k]]:=by
 unfold zdg;rw[List.take_add_one,List.getElem?_eq_getElem h,List.foldl_append];rfl
theorem zf8:∀(more all:List ByteArray),∃t,zdg all more=all++t/\(∀c∈t,c∈more)/\(∀c∈more,c∈zdg all more)/\(∀n,n<=all.length->(all.drop n).Nodup->(∀c∈t,c∉all)/\((zdg all more).drop n).Nodup)
 | [],all=>⟨[],by simp[zdg],by simp,by simp,fun n _ h=>⟨by simp,h⟩⟩
 |c::more,all=>by
  have e:zdg all (c::more)=zdg (if all.any (zae c)then all else all++[c]) more:=rfl;rw[e];split
  ·rename_i hc
   obtain⟨t,h1,h2,h3,h4⟩:=zf8 more all;refine⟨t,h1,fun x hx=>List.mem_cons_of_mem _ (h2 x hx),fun x hx=>?_,h4⟩;rcases List.mem_cons.1 hx with rfl|hx
   ·rw[h1];exact List.mem_append_left _ (zdV.1 hc)
   ·exact h3 x hx
  ·rename_i hc
   have aN:c∉all:=fun h=>hc (zdV.2 h)
   obtain⟨t,h1,h2,h3,h4⟩:=zf8 more (all++[c]);refine⟨c::t,by rw[h1];simp,fun x hx=>?_,fun x hx=>?_,fun n hn cW=>?_⟩
   ·rcases List.mem_cons.1 hx with rfl|hx
    ·simp
    ·exact List.mem_cons_of_mem _ (h2 x hx)
   ·rcases List.mem_cons.1 hx with rfl|hx
    ·rw[h1];simp
    ·exact h3 x hx
   ·have hd:((all++[c]).drop n).Nodup:=by
     rw[List.drop_append_of_le_length hn]
     exact List.nodup_append.2 ⟨cW,by simp,fun a ha b hb e=>by
      rw[List.mem_singleton.1 hb]at e
      exact aN (e▸List.mem_of_mem_drop ha)⟩
    obtain⟨h5,h6⟩:=h4 n McD hd;refine⟨fun x hx=>?_,h6⟩;rcases List.mem_cons.1 hx with rfl|hx
    ·exact aN
    ·exact fun h=>h5 x hx (List.mem_append_left _ h)
theorem srch_next{cs:List (ByteArray×ByteArray)}{nm:ByteArray}{all:List ByteArray}{i:Nat}(h:Srch cs nm all i)(hi:i<all.length):Srch cs nm (zdg all (zdi cs all[i])) (i+1):=by
 obtain⟨t,h1,h2,h3,h4⟩:=zf8 (zdi cs all[i]) all;obtain⟨n,f1,f2,f3⟩:=h.few;have h5:=(h4 n f3 f2).2;rw[h1]at h3 h5⊢;refine⟨fun y hy=>?_,fun c hc=>List.mem_append_left _ (h.mine c hc),fun y hy c hc=>?_,n,f1,h5,by simp;omega⟩
 ·rcases List.mem_append.1 hy with hy|hy
  ·exact h.desc y hy
  ·exact .tail (h.desc _ (List.getElem_mem hi)) (h2 y hy)
 ·rw[List.take_append_of_le_length Mcy,List.take_add_one,List.getElem?_eq_getElem hi]at hy;rcases List.mem_append.1 hy with hy|hy
  ·exact List.mem_append_left _ (h.done y hy c hc)
  ·obtain rfl:y=all[i]:=by simpa using hy
   exact h3 c hc
def zpo(w:World)(cs:List (ByteArray×ByteArray))(nm:ByteArray)(e:Ending)(w':World):Prop:=
 ∃v ys,e=.returned v/\OwnS w' w.heap.size 9 1 sC v ys/\(∀y,y∈ys↔Relation.TransGen (fun x y=>y∈zdi cs x) nm y)/\AscT ys/\ys.length<=2*cs.length/\Below w.heap.size w w'
theorem rDesc_any(cs:List (ByteArray×ByteArray))(n:ByteArray)(LA CA MA DA WA RA GA:Option Addr)(n0 c0 n1 c1 n2 c2 n3 c3 n4 c4 n5 c5 n6 c6:Nat)(w:World)(hl:cs.length<=1000)(hS:Sl w 2 zaT CA cs):
 Calls Tryz.prog 21 #[.agg #[.slice LA n0 c0,.slice CA cs.length c1,.slice MA n2 c2,.slice DA n3 c3,.slice WA n4 c4,.slice RA n5 c5,.slice GA n6 c6],.string n] w (zpo w cs n):=by
 have p9:=zHi (fun x W (h:Below w.heap.size w W)=>zg6 cs x LA CA MA DA WA RA GA n0 c0 cs.length c1 n2 c2 n3 c3 n4 c4 n5 c5 n6 c6 W Mcy (hS.keep h));unfold zpo;clear hS;go_enter Tryz.func21,Tryz.ntmps21
 go_upto_region 1 with fail
 generalize am:w.alloc _=W0;obtain⟨g0,aK⟩:=boxed am;have gV:=zaF g0;have l0:=zab g0;have aw:=aK.size;have aj:=zHi aK
 have av:=zHi (fun W (h:Below W0.heap.size W0 W)=>(show W.cell? ⟨w.heap.size,0,none⟩=some (.slice LA n0 c0)/\W.cell? ⟨w.heap.size,1,none⟩=some (.slice CA cs.length c1)/\W.cell? ⟨w.heap.size,2,none⟩=some (.slice MA n2 c2)/\W.cell? ⟨w.heap.size,3,none⟩=some (.slice DA n3 c3)/\W.cell? ⟨w.heap.size,4,none⟩=some (.slice WA n4 c4)/\W.cell? ⟨w.heap.size,5,none⟩=some (.slice RA n5 c5)/\W.cell? ⟨w.heap.size,6,none⟩=some (.slice GA n6 c6) from by
  obtain⟨d0,d1,d2,d3,d4,d5,d6⟩:=gV
  exact⟨(zah h l0).trans d0,(zah h l0).trans d1,(zah h l0).trans d2,(zah h l0).trans d3,(zah h l0).trans d4,(zah h l0).trans d5,(zah h l0).trans d6⟩))
 obtain⟨d0,d1,d2,d3,d4,d5,d6⟩:=gV;clear am aK g0
 go_upto_region 3 with(go_at_call 46
                       go_must(refine(p9.o _ _ Mdo).mono ?_)
                       rintro e w1 ⟨v1,rfl,o1,b1⟩)
 obtain⟨aA,da⟩:=yH2 b1 o1;clear o1 b1 d0 d1 d2 d3 d4 d5 d6;go_loopw [5,6,7,8] (fun v i _ _ wr=>∃(k:Nat) (all:List ByteArray),k<=all.length/\i=.int .i64 k/\Hid (Srch cs n all k)/\OwnS wr W0.heap.size 9 1 sC v all/\Below W0.heap.size W0 wr) (fun _ i _ _ _=>2*cs.length-(intOf i).toNat)
 case atStart=>exact⟨0,_,Nat.zero_le _,rfl,zHi (zpn cs n),da.o,aA.o⟩
 case round=>
  obtain⟨k,all,hk,rfl,qI,aa,hB⟩:=hrel;obtain⟨WR,oy⟩:∃WR,WR=wr:=⟨_,rfl⟩
  subst oy;have jJ:=qI.o.len;have ir:k<=2000:=Mcy;obtain⟨VA,vc,rfl,jb,kB⟩:=aa.sl za9;have aG:=hB.size;obtain⟨HB,HO⟩:=yH2 hB aa;by_cases ae:k<all.length
  ·obtain⟨b,off,rfl,hb,ah⟩:=jb.at ae;have bL:=srch_next qI.o ae;have ak:=zHi ae;generalize all[k]=x at*;have i0:WR.cell? ⟨b,off+k,none⟩=some (.string x):=McZ;have ar:(k:Int)<(all.length:Int):=Mcy;have aQ:(0:Int)<=(k:Int):=Mcy;have cN:=zHi bL;have Ha:Hid (all.length<=(zdg all (zdi cs x)).length):=by
    show _<=_;obtain⟨t,h1,_⟩:=zf8 (zdi cs x) all;rw[h1,List.length_append];omega
   have lq:=zHi jJ;have bY:=zHi (fun W (h:Below WR.heap.size WR W)=>(show(W.cell? ⟨w.heap.size,0,none⟩=some (.slice LA n0 c0)/\W.cell? ⟨w.heap.size,1,none⟩=some (.slice CA cs.length c1)/\W.cell? ⟨w.heap.size,2,none⟩=some (.slice MA n2 c2)/\W.cell? ⟨w.heap.size,3,none⟩=some (.slice DA n3 c3)/\W.cell? ⟨w.heap.size,4,none⟩=some (.slice WA n4 c4)/\W.cell? ⟨w.heap.size,5,none⟩=some (.slice RA n5 c5)/\W.cell? ⟨w.heap.size,6,none⟩=some (.slice GA n6 c6))/\W.cell? ⟨b,off+k,none⟩=some (.string x) from⟨av.o W (HB.o.trans (h.mono aG)),(zah h hb).trans i0⟩));have Hm:=zHi (fun W (h:Below WR.heap.size WR W)=>p9.o x W (aj.o.trans ((HB.o.trans (h.mono aG)).mono aw)));generalize fC:zdi cs x=ks at*;have bV:ks.length<=1000:=by rw[<-fC];exact Nat.le_trans (zhO cs x) hl
   have nX:=zHi bV;clear ah aa hB jb ae bL fC jJ i0 bV;go_upto_region 5 with fail
   refine zaB 5 (fun bb w'=>bb=true\/((w'.cell? ⟨w.heap.size,0,none⟩=some (.slice LA n0 c0)/\w'.cell? ⟨w.heap.size,1,none⟩=some (.slice CA cs.length c1)/\w'.cell? ⟨w.heap.size,2,none⟩=some (.slice MA n2 c2)/\w'.cell? ⟨w.heap.size,3,none⟩=some (.slice DA n3 c3)/\w'.cell? ⟨w.heap.size,4,none⟩=some (.slice WA n4 c4)/\w'.cell? ⟨w.heap.size,5,none⟩=some (.slice RA n5 c5)/\w'.cell? ⟨w.heap.size,6,none⟩=some (.slice GA n6 c6))/\w'.cell? ⟨b,off+k,none⟩=some (.string x))) Mcz (.inr (bY.o _ (zaK (Below.refl _ _)))) ?hrest
   case hrest=>
    intro hHeld;refine TkM 0 ?_;refine TkM 1 ?_;refine TkM 2 ?_;refine TkM 3 ?_;refine TkM 4 ?_;refine OnM 5 true fun K hK=>?_
    go_simp
    refine(Hm.o _ (zaK (Below.refl _ _))).mono ?_;rintro e w5 ⟨v5,rfl,o5,ao⟩;refine NxM hK fun hHeld=>?_
    clear hK K;refine OnM 6 true fun K hK=>?_
    go_simp
    refine NxM hK fun hHeld=>?_
    clear hK K;refine zaM Mcz ?_ _;clear hHeld;have ee:Below WR.heap.size WR w5:=(zaK (Below.refl _ _):Below WR.heap.size WR WR.drew).trans ao;have o5':OwnS w5 WR.heap.size 9 1 sC v5 ks:=o5;obtain⟨KA,kc,rfl,_,_⟩:=o5'.sl za9;obtain⟨aR,kO⟩:=yH2 ee o5';have BG:=ee.size;clear ao ee o5 o5';go_upto_region 7 with fail
    go_loopw [5,8] (fun v j wr=>∃m:Nat,m<=ks.length/\j=.int .i64 m/\OwnS wr W0.heap.size 9 1 sC v (zdg all (ks.take m))/\Hid (∀g,za5 v=some g->za5 (.slice KA ks.length kc)≠some g)/\OwnS wr WR.heap.size 9 1 sC (.slice KA ks.length kc) ks/\Below W0.heap.size W0 wr/\w5.heap.size<=wr.heap.size/\(zdg all (ks.take m)).length<=all.length+m) (fun _ j _=>ks.length-(intOf j).toNat)
    case atStart=>exact⟨0,Nat.zero_le _,rfl,HO.o.keep aR.o,zHi (fun g h1 h2=>by have:=(kO.o.ge g h2).1;have:=(HO.o.ge g h1).2;omega),kO.o,HB.o.trans (aR.o.mono aG),Nat.le_refl _,by simp[zdg]⟩
    case round=>
     obtain⟨m,hm,rfl,u7,gI,bE,gn,Ll,Ga⟩:=hrel;have Aa:m<=1000:=by have:=nX.o;omega
     by_cases ft:m<ks.length
     ·have aq:=zns (all:=all) ft;obtain⟨b2,off2,lW,bs,cx⟩:=(ziO za9 bE).1.at ft;have o8:=zHi ft;generalize zdg all (ks.take m)=ys at*;obtain⟨VY,vy,rfl,rE,Lc⟩:=u7.sl za9;generalize ks[m]=y at*;subst lW;have j0:wr.cell? ⟨b2,off2+m,none⟩=some (.string y):=Md7;have fG:(m:Int)<(ks.length:Int):=Mcy;have nK:(0:Int)<=(m:Int):=Mcy;have AS:Hid (ys.length<=100000):=by show _<=_;have:=lq.o;have:=nX.o;omega
      obtain⟨fh,dH,dG,fx,lL⟩:=yH5 (fun W (h:Below wr.heap.size wr W)=>zdy ys y VY vy W AS.o Lc (rE.keep h)) u7 bE gn Ga;have DI:=gn.size;clear cx u7 bE gn rE ft Ga;cases aH:ys.any (zae y)
      ·have aB:Hid (zdg all (ks.take (m+1))=ys++[y]):=by show _=_;rw[aq,aH];rfl
       rw[aH]at fh;clear aq aH
       go_wp2_with (first
        |(go_at_call 45;go_must(refine(fh.o _ Bw).mono ?_);rintro e wq ⟨rfl,rfl⟩)
        |(at_builtin
          go_loud(refine zat (v:=.slice VY ys.length vy) (n:=ys.length) (m:=1) rfl _ _ rfl zbB za9 zbA rfl (xs:=ys) (ys:=[y]) (dH.o.keep (n:=wr.heap.size) Bw) rfl rfl rfl (zfQ (zar _ _ _ rfl)) (by have:=AS.o;simp[maxLen];omega) (by have:=AS.o;omega) McD ?_)
          intro v3 w3 h1 h2 h3;have ax:=Below.grown (B:=W0.heap.size) (a:=W0) (fx.o.trans (Below.mono (B:=wr.heap.size) (zad (Below.refl _ _) _) DI)) h2 McD (fun j hj=>(dH.o.ge j hj).1);have tV:=(dG.o.keep (n:=wr.heap.size) (zad (Below.refl _ _) (.cells #[.string y] 9))).grown h2 (.inr fun e=>gI.o _ e.symm rfl);have Ac:∀g,za5 v3=some g->za5 (.slice (some ⟨b2,off2,none⟩) ks.length kc)≠some g:=fun g e1 e2=>by
           rcases h3 g e1 with h|h
           ·exact gI.o g h e2
           ·have:=(dG.o.ge g e2).2;simp at h;omega
          have iy:=h2.size;obtain⟨H1,aD,I5,Il⟩:=yH4 h1 ax tV Ac;simp only[World.size_alloc]at iy
          clear h1 h2 h3 ax tV Ac))
       go_round
       case rel=>exact⟨m+1,o8.o,by go_num,by rw[aB.o];exact H1.o,Il,I5.o,aD.o,by omega,by rw[aB.o,List.length_append];have:=lL.o;simp;omega⟩
       case measure=>have:=o8.o;simp only[intOf];omega
      ·have aB:Hid (zdg all (ks.take (m+1))=ys):=by show _=_;rw[aq,aH];rfl
       rw[aH]at fh;clear aq aH;go_wp2_with (go_at_call 45;go_must(refine(fh.o _ Bw).mono ?_);rintro e wq ⟨rfl,rfl⟩)
       go_round
       case rel=>exact⟨m+1,o8.o,by go_num,by rw[aB.o];exact dH.o,gI,dG.o,fx.o,Ll,by rw[aB.o];have:=lL.o;omega⟩
       case measure=>have:=o8.o;simp only[intOf];omega
     ·have fG:¬(m:Int)<(ks.length:Int):=Mcy;rw[List.take_of_length_le Mcy]at u7;obtain⟨dH,fx⟩:=yH2 u7 gn;clear u7 bE gn;go_wp2_with fail
      go_round
      case rel=>exact⟨k+1,_,by have:=Ha.o;have:=ak.o;omega,by go_num,cN,dH.o,fx.o⟩
      case measure=>have:=ak.o;have:=lq.o;simp only[intOf];omega
  ·have ar:¬(k:Int)<(all.length:Int):=Mcy;obtain⟨Az,nr,lq⟩:=yH3 (srch_end qI.o Mcy) (fun W (h:Below WR.heap.size WR W)=>znm all VA vc W Mcy (jb.keep h)) jJ;clear jb aa hB jJ;go_wp2_with (go_at_call 39;go_must(refine(nr.o _ Bw).mono ?_);rintro e wq ⟨vq,rfl,oq,bq⟩)
   go_ret
   exact⟨_,zdf all,rfl,oq.base_le Mcy,fun y=>znk.trans (Az.o y),znl all,Nat.le_trans (ziQ all) lq.o,aj.o.trans ((HB.o.trans (bq.mono aG)).mono aw)⟩
structure StIn (w:World) (laws:List Law) (s:St) (wd rd:List Deed) (LA CA MA DA WA RA GA:Option Addr) (c0 c1 c2 c3 c4 c5 c6:Nat):Prop where
 laws:Sl w 4 Law.cells LA laws
 kids:Sl w 2 zaT CA s.children
 marr:Sl w 2 zaT MA s.marriages
 dead:Sl w 1 sC DA s.dead
 wills:SlW w 7 zf9 WA wd
 ren:SlW w 7 zf9 RA rd
 graves:SlW w 5 zhT GA s.graves
 deadc:s.dead.length<=c3
theorem StIn.keep{w W:World}{laws:List Law}{s:St}{wd rd:List Deed}{LA CA MA DA WA RA GA:Option Addr}{c0 c1 c2 c3 c4 c5 c6 n:Nat}(h:StIn w laws s wd rd LA CA MA DA WA RA GA c0 c1 c2 c3 c4 c5 c6)(hB:Below n w W)(hn:w.heap.size<=n:=by first|exact Nat.le_refl _|omega):StIn W laws s wd rd LA CA MA DA WA RA GA c0 c1 c2 c3 c4 c5 c6:=
 ⟨h.laws.keep hB hn,h.kids.keep hB hn,h.marr.keep hB hn,h.dead.keep hB hn,h.wills.keep zcc hB hn,h.ren.keep zcc hB hn,h.graves.keep zfG hB hn,h.deadc⟩
structure StLink (s:St) (wd rd:List Deed):Prop where
 wills:s.wills=wd.map fun d=>(d.frm,zao d.to)
 shares:∀d∈wd,∀p∈d.to,za8 16 p.num p.den=true
 ren:s.renounce=rd.map fun d=>(d.frm,zbf d)
 tos:∀d∈rd,d.to≠[]
structure StFew (s:St) (wd rd:List Deed):Prop where
 kids:s.children.length<=1000
 marr:s.marriages.length<=1000
 dead:s.dead.length<=1000
 wills:wd.length<=1000
 ren:rd.length<=1000
 graves:s.graves.length<=1000
section
variable {laws:List Law} {s:St} {wd rd:List Deed} {LA CA MA DA WA RA GA:Option Addr} {c0 c1 c2 c3 c4 c5 c6:Nat}
theorem sAble(n frm:ByteArray)(w:World)(h:StIn w laws s wd rd LA CA MA DA WA RA GA c0 c1 c2 c3 c4 c5 c6)(hk:StLink s wd rd)(hf:StFew s wd rd):Calls Tryz.prog 189 #[.agg #[.slice LA laws.length c0,.slice CA s.children.length c1,.slice MA s.marriages.length c2,.slice DA s.dead.length c3,.slice WA wd.length c4,.slice RA rd.length c5,.slice GA s.graves.length c6],.string n,.string frm] w (Ret w (.bool (zdT s n frm))):=by
 rw[<-ableR_eq s rd hk.ren];exact rAble_any rd s.dead n frm LA CA MA DA WA RA GA laws.length c0 s.children.length c1 s.marriages.length c2 s.dead.length c3 wd.length c4 rd.length c5 s.graves.length c6 w (by have:=hf.ren;omega) hk.tos h.ren Mez h.deadc h.dead
theorem sDead(n:ByteArray)(w:World)(h:StIn w laws s wd rd LA CA MA DA WA RA GA c0 c1 c2 c3 c4 c5 c6)(hf:StFew s wd rd):Calls Tryz.prog 19 #[.agg #[.slice LA laws.length c0,.slice CA s.children.length c1,.slice MA s.marriages.length c2,.slice DA s.dead.length c3,.slice WA wd.length c4,.slice RA rd.length c5,.slice GA s.graves.length c6],.string n] w (Ret w (.bool (zaJ s n))):=
 zeD s.dead n LA CA MA DA WA RA GA laws.length c0 s.children.length c1 s.marriages.length c2 s.dead.length c3 wd.length c4 rd.length c5 s.graves.length c6 w Mez h.deadc h.dead
theorem sKids(n:ByteArray)(w:World)(h:StIn w laws s wd rd LA CA MA DA WA RA GA c0 c1 c2 c3 c4 c5 c6)(hf:StFew s wd rd):Calls Tryz.prog 46 #[.agg #[.slice LA laws.length c0,.slice CA s.children.length c1,.slice MA s.marriages.length c2,.slice DA s.dead.length c3,.slice WA wd.length c4,.slice RA rd.length c5,.slice GA s.graves.length c6],.string n] w (zdz w (zai s n)):=
 zg6 s.children n LA CA MA DA WA RA GA laws.length c0 s.children.length c1 s.marriages.length c2 s.dead.length c3 wd.length c4 rd.length c5 s.graves.length c6 w (by have:=hf.kids;omega) h.kids
theorem znt(n:ByteArray)(w:World)(h:StIn w laws s wd rd LA CA MA DA WA RA GA c0 c1 c2 c3 c4 c5 c6)(hf:StFew s wd rd):Calls Tryz.prog 20 #[.agg #[.slice LA laws.length c0,.slice CA s.children.length c1,.slice MA s.marriages.length c2,.slice DA s.dead.length c3,.slice WA wd.length c4,.slice RA rd.length c5,.slice GA s.graves.length c6],.string n] w (Ret w (.string (zaG s n))):=by
 rw[<-zoV];exact zmV s.marriages s.dead n LA CA MA DA WA RA GA laws.length c0 s.children.length c1 s.marriages.length c2 s.dead.length c3 wd.length c4 rd.length c5 s.graves.length c6 w (by have:=hf.marr;omega) h.marr Mez h.deadc h.dead
theorem zml(place:ByteArray)(day:Int)(w:World)(h:StIn w laws s wd rd LA CA MA DA WA RA GA c0 c1 c2 c3 c4 c5 c6)(hf:StFew s wd rd):Calls Tryz.prog 42 #[.agg #[.slice LA laws.length c0,.slice CA s.children.length c1,.slice MA s.marriages.length c2,.slice DA s.dead.length c3,.slice WA wd.length c4,.slice RA rd.length c5,.slice GA s.graves.length c6],.string place,.int .i64 day] w (Ret w (.int .i64 (zk7 s.graves place day))):=
 zoP s.graves place day LA CA MA DA WA RA GA laws.length c0 s.children.length c1 s.marriages.length c2 s.dead.length c3 wd.length c4 rd.length c5 s.graves.length c6 w (by have:=hf.graves;omega) h.graves
theorem sDesc(n:ByteArray)(w:World)(h:StIn w laws s wd rd LA CA MA DA WA RA GA c0 c1 c2 c3 c4 c5 c6)(hf:StFew s wd rd):Calls Tryz.prog 21 #[.agg #[.slice LA laws.length c0,.slice CA s.children.length c1,.slice MA s.marriages.length c2,.slice DA s.dead.length c3,.slice WA wd.length c4,.slice RA rd.length c5,.slice GA s.graves.length c6],.string n] w (zpo w s.children n):=
 rDesc_any s.children n LA CA MA DA WA RA GA laws.length c0 s.children.length c1 s.marriages.length c2 s.dead.length c3 wd.length c4 rd.length c5 s.graves.length c6 w hf.kids h.kids
theorem zmm(l:List RPart)(A:Option Addr)(c:Nat)(w:World)(h:StIn w laws s wd rd LA CA MA DA WA RA GA c0 c1 c2 c3 c4 c5 c6)(hf:StFew s wd rd)(hl:l.length<=1000000)(hS:Sl w 3 RPart.cells A l):Calls Tryz.prog 164 #[.agg #[.slice LA laws.length c0,.slice CA s.children.length c1,.slice MA s.marriages.length c2,.slice DA s.dead.length c3,.slice WA wd.length c4,.slice RA rd.length c5,.slice GA s.graves.length c6],.slice A l.length c] w (Ret w (.bool (zdU s l))):=
 zk8 l A c s.dead LA CA MA DA WA RA GA laws.length c0 s.children.length c1 s.marriages.length c2 s.dead.length c3 wd.length c4 rd.length c5 s.graves.length c6 w hl hS Mez h.deadc h.dead
end
def zd2(s:St)(stems:Bool)(frm:ByteArray):Nat->ByteArray->List ByteArray
 |0,_=>[]
 |f+1,n=>(zai s n).filter fun c=>(zcS s stems frm f c).isSome
theorem zgA{α β:Type}(g:α->Option β):∀l:List α,(l.filterMap g).length=(l.filter fun x=>(g x).isSome).length
 | []=>rfl
 |x::l=>by
  have ih:=zgA g l;cases hg:g x
  ·rw[List.filterMap_cons_none hg,List.filter_cons_of_neg (by simp[hg]),ih]
  ·rw[List.filterMap_cons_some hg,List.filter_cons_of_pos (by simp[hg]),List.length_cons,List.length_cons,ih]
theorem zgB(s:St)(stems:Bool)(frm:ByteArray):∀(f:Nat) (n:ByteArray),(zb2 s stems frm f n).length=(zd2 s stems frm f n).length
 |0,_=>rfl
 |f+1,n=>by rw[zf0,zgA];rfl
theorem znu{α:Type}(p:α->Bool)(l:List α){k:Nat}(h:k<l.length):(l.take (k+1)).filter p=(l.take k).filter p++if p l[k]then[l[k]]else[]:=by
 rw[List.take_add_one,List.getElem?_eq_getElem h,List.filter_append];simp only[Option.toList_some,List.filter_cons,List.filter_nil]
theorem rLeads_of(laws:List Law)(s:St)(wd rd:List Deed)(LA CA MA DA WA RA GA:Option Addr)(c0 c1 c2 c3 c4 c5 c6:Nat)(law:Law)(frm:ByteArray)(hk:StLink s wd rd)(hf:StFew s wd rd)(f:Nat)(n:ByteArray)(w:World)(h:StIn w laws s wd rd LA CA MA DA WA RA GA c0 c1 c2 c3 c4 c5 c6)
 (IH:∀W,Below w.heap.size w W->Calls Tryz.prog 190 #[.agg #[.slice LA laws.length c0,.slice CA s.children.length c1,.slice MA s.marriages.length c2,.slice DA s.dead.length c3,.slice WA wd.length c4,.slice RA rd.length c5,.slice GA s.graves.length c6],law.v,.string n,.string frm] W (zdz W (zd2 s law.stems frm f n))):
 Calls Tryz.prog 205 #[.agg #[.slice LA laws.length c0,.slice CA s.children.length c1,.slice MA s.marriages.length c2,.slice DA s.dead.length c3,.slice WA wd.length c4,.slice RA rd.length c5,.slice GA s.graves.length c6],law.v,.string n,.string frm] w (Ret w (.bool (zcS s law.stems frm f n).isSome)):=by
 have fw:=zHi (fun W (hB:Below w.heap.size w W)=>sAble n frm W (h.keep hB) hk hf);have cV:(zcS s law.stems frm f n).isSome=(zdT s n frm||law.stems&&decide (0<(zd2 s law.stems frm f n).length)):=by
  rw[<-zgB];unfold zcS;cases zdT s n frm
  ·cases law.stems
   ·rfl
   ·cases zb2 s true frm f n<;>rfl
  ·rfl
 rw[cV];unfold Law.v at IH⊢;generalize zdT s n frm=ab at*;generalize zd2 s law.stems frm f n=ls at*;have I4:=zHi IH;clear cV IH h;go_enter Tryz.func205,Tryz.ntmps205
 go_upto_region 1 with fail
 obtain⟨W0,am⟩:∃W0,W0=(w.alloc (.cells #[.slice LA laws.length c0,.slice CA s.children.length c1,.slice MA s.marriages.length c2,.slice DA s.dead.length c3,.slice WA wd.length c4,.slice RA rd.length c5,.slice GA s.graves.length c6] 44)).alloc (.cells #[.int .i64 law.frm,.bool law.stems,.int .i64 law.num,.int .i64 law.den] 109):=⟨_,rfl⟩
 have g0:W0.heap[w.heap.size]?=some (.cells #[.slice LA laws.length c0,.slice CA s.children.length c1,.slice MA s.marriages.length c2,.slice DA s.dead.length c3,.slice WA wd.length c4,.slice RA rd.length c5,.slice GA s.graves.length c6] 44):=MdT;have g1:W0.heap[w.heap.size+1]?=some (.cells #[.int .i64 law.frm,.bool law.stems,.int .i64 law.num,.int .i64 law.den] 109):=by rw[am];exact zar _ _ _ McB
 have aK:Below w.heap.size w W0:=Mdb;rw[<-am];clear am;obtain⟨d0,d1,d2,d3,d4,d5,d6⟩:=zaF g0;obtain⟨e0,e1,e2,e3⟩:=cF4 g1;have l0:=zab g0;have l1:=zab g1;have aw:=aK.size;have aj:=zHi aK;clear aK g0 g1;cases ab
 ·generalize law.stems=st at*;cases st
  ·exact MaK
  ·go_upto_region 5 with(go_at_call 189;go_must(refine(fw.o _ Mdo).mono ?_);rintro e wq ⟨rfl,z,rfl⟩)
   by_cases hz:0<ls.length
   ·have iT:(0:Int)<(ls.length:Int):=Mcy;exact Maa
   ·have iT:¬(0:Int)<(ls.length:Int):=Mcy;exact Maa
 ·exact MaK
theorem zhh(laws:List Law)(s:St)(wd rd:List Deed)(LA CA MA DA WA RA GA:Option Addr)(c0 c1 c2 c3 c4 c5 c6:Nat)(law:Law)(frm:ByteArray)(hk:StLink s wd rd)(hf:StFew s wd rd):∀(f:Nat) (n:ByteArray) (w:World),StIn w laws s wd rd LA CA MA DA WA RA GA c0 c1 c2 c3 c4 c5 c6->Deep s f n->
 Calls Tryz.prog 190 #[.agg #[.slice LA laws.length c0,.slice CA s.children.length c1,.slice MA s.marriages.length c2,.slice DA s.dead.length c3,.slice WA wd.length c4,.slice RA rd.length c5,.slice GA s.graves.length c6],law.v,.string n,.string frm] w (zdz w (zd2 s law.stems frm f n))
 |0,n,w,_,hd=>hd.elim
 |f+1,n,w,h,hd=>by
  obtain⟨AL,jT⟩:=yH2 (fun(c:ByteArray) (W:World) (hc:c∈zai s n) (hB:Below w.heap.size w W)=>rLeads_of laws s wd rd LA CA MA DA WA RA GA c0 c1 c2 c3 c4 c5 c6 law frm hk hf f c W (h.keep hB) fun W' dD=>zhh laws s wd rd LA CA MA DA WA RA GA c0 c1 c2 c3 c4 c5 c6 law frm hk hf f c W' ((h.keep hB).keep dD) (hd c hc)) (fun W (hB:Below w.heap.size w W)=>sKids n W (h.keep hB) hf);have bV:(zai s n).length<=1000:=Nat.le_trans (zhO s.children n) hf.kids;rw[show zd2 s law.stems frm (f+1) n=(zai s n).filter (fun c=>(zcS s law.stems frm f c).isSome) from rfl];unfold zdz;unfold Law.v at AL⊢;generalize zai s n=ks at*;generalize hP:(fun c=>(zcS s law.stems frm f c).isSome)=P at*;have Ib:Hid (∀c W,c∈ks->Below w.heap.size w W->Calls Tryz.prog 205 #[.agg #[.slice LA laws.length c0,.slice CA s.children.length c1,.slice MA s.marriages.length c2,.slice DA s.dead.length c3,.slice WA wd.length c4,.slice RA rd.length c5,.slice GA s.graves.length c6],.agg #[.int .i64 law.frm,.bool law.stems,.int .i64 law.num,.int .i64 law.den],.string c,.string frm] W (Ret W (.bool (P c)))):=zHi (by rw[<-hP];exact AL.o);obtain⟨cN,nX⟩:=yH2 (fun k hk=>znu P ks (k:=k) hk) bV;clear hP AL h hd bV;go_enter Tryz.func190,Tryz.ntmps190
  go_upto_region 1 with fail
  obtain⟨W0,am⟩:∃W0,W0=(w.alloc (.cells #[.slice LA laws.length c0,.slice CA s.children.length c1,.slice MA s.marriages.length c2,.slice DA s.dead.length c3,.slice WA wd.length c4,.slice RA rd.length c5,.slice GA s.graves.length c6] 44)).alloc (.cells #[.int .i64 law.frm,.bool law.stems,.int .i64 law.num,.int .i64 law.den] 109):=⟨_,rfl⟩
  have g0:W0.heap[w.heap.size]?=some (.cells #[.slice LA laws.length c0,.slice CA s.children.length c1,.slice MA s.marriages.length c2,.slice DA s.dead.length c3,.slice WA wd.length c4,.slice RA rd.length c5,.slice GA s.graves.length c6] 44):=MdT;have g1:W0.heap[w.heap.size+1]?=some (.cells #[.int .i64 law.frm,.bool law.stems,.int .i64 law.num,.int .i64 law.den] 109):=by rw[am];exact zar _ _ _ McB
  have aK:Below w.heap.size w W0:=Mdb;rw[<-am];clear am;obtain⟨d0,d1,d2,d3,d4,d5,d6⟩:=zaF g0;have l0:=zab g0;have l1:=zab g1;have aj:=zHi aK;go_upto_region 4 with(go_at_call 46;go_must(refine(jT.o _ Mdo).mono ?_);rintro e w1 ⟨v1,rfl,o1,b1⟩)
  obtain⟨KA,kc,rfl,fO,_⟩:=o1.sl za9;obtain⟨G0,G1,aA,fg⟩:=yH4 ((b1.block _ l0).trans g0) ((b1.block _ l1).trans g1) (aK.trans (b1.mono aK.size)) fO;have ie:=aA.o.size;have bz:w.heap.size+1<w1.heap.size:=Nat.lt_of_lt_of_le l1 b1.size;clear o1 b1 aK d0 d1 d2 d3 d4 d5 d6 g0 g1 fO jT l0 l1;go_loopw [10,11] (fun v i wr=>∃k:Nat,k<=ks.length/\i=.int .i64 k/\OwnS wr w1.heap.size 9 1 sC v ((ks.take k).filter P)/\Below w1.heap.size w1 wr) (fun _ i _=>ks.length-(intOf i).toNat)
  case atStart=>exact⟨0,Nat.zero_le _,rfl,OwnS.nil,Below.refl _ _⟩
  case round=>
   obtain⟨k,hk,rfl,aa,hB⟩:=hrel;have ir:k<=1000:=by have:=nX.o;omega
   have aG:=hB.size;obtain⟨HO,HB⟩:=yH2 aa hB;by_cases ae:k<ks.length
   ·have aq:=cN.o k ae;have bD:=List.getElem_mem ae;have bM:((ks.take k).filter P).length<=1000:=by
     have h1:=List.length_filter_le P (ks.take k);rw[List.length_take]at h1;have:=nX.o;omega
    generalize(ks.take k).filter P=xs at*;obtain⟨VA,vc,rfl,_,kB⟩:=aa.sl za9;obtain⟨b,off,rfl,hb,ah⟩:=(fg.o.keep hB).at ae;have ak:=zHi ae;generalize ks[k]=x at*;have i0:wr.cell? ⟨b,off+k,none⟩=some (.string x):=McZ;obtain⟨d0,d1,d2,d3,d4,d5,d6⟩:=zaF ((hB.block _ Mcy).trans G0.o);have g1:=(hB.block _ Mcy).trans G1.o;obtain⟨e0,e1,e2,e3⟩:=cF4 g1;have ar:(k:Int)<(ks.length:Int):=Mcy;have aQ:(0:Int)<=(k:Int):=Mcy;have fN:=zHi bM;have Et:=zHi (aA.o.trans (hB.mono ie));have jU:=zHi (fun W (hW:Below wr.heap.size wr W)=>Ib.o x W bD (Et.o.trans (hW.mono Et.o.size)));have cG:w.heap.size<wr.heap.size:=Mcy;have yy:w.heap.size+1<wr.heap.size:=Mcy;clear ah ae aa hB bM g1 bD;go_upto_region 6 with fail
    cases hp:P x
    ·have aB:Hid ((ks.take (k+1)).filter P=xs):=by show _=_;rw[aq,hp];simp
     rw[hp]at jU;clear aq hp
     (refine zaj Mcz Mcz ?_
      repeat(first|go_big_quiet_skip|(go_big_quiet_want;go_big_quiet_op;first|go_big_quiet_on|(apply Exists.intro;refine⟨fun _=>?_,?_⟩;(go_at_call 205;exact quietx (jU.o _ Bw));go_big_quiet_on)))
      refine wpQuiet_nil ?_
      rintro _ ⟨zq,rfl⟩)
     go_wp2_with fail
     go_round
     case rel=>exact⟨k+1,ak.o,by go_num,by rw[aB.o];exact HO.o.keep (n:=wr.heap.size) (zaq wr zq),zbv HB.o zq⟩
     case measure=>have:=ak.o;simp only[intOf];omega
    ·have aB:Hid ((ks.take (k+1)).filter P=xs++[x]):=by show _=_;rw[aq,hp];rfl
     rw[hp]at jU;clear aq hp
     (refine zaj Mcz Mcz ?_
      repeat(first|go_big_quiet_skip|(go_big_quiet_want;go_big_quiet_op;first|go_big_quiet_on|(apply Exists.intro;refine⟨fun _=>?_,?_⟩;(go_at_call 205;exact quietx (jU.o _ Bw));go_big_quiet_on)))
      refine wpQuiet_nil ?_
      rintro _ ⟨zq,rfl⟩)
     go_wp2_with (at_builtin
                  go_loud(refine zat (v:=.slice VA xs.length vc) (n:=xs.length) (m:=1) rfl _ _ rfl zbB za9 zbA rfl (xs:=xs) (ys:=[x]) (HO.o.keep (n:=wr.heap.size) Bw) rfl rfl rfl (zfQ (zar _ _ _ MdO)) Mc7 Mdh McH ?_)
                  intro v3 w3 h1 h2 h3;have ax:=Below.grown (B:=w1.heap.size) (a:=w1) (HB.o.trans (Below.mono (B:=wr.heap.size) (zad (zaq wr zq) _) aG)) h2 McH (fun j hj=>(HO.o.ge j hj).1);obtain⟨H1,aD⟩:=yH2 h1 ax
                  clear h1 h2 h3 ax)
     exact Mac
   ·have ar:¬(k:Int)<(ks.length:Int):=Mcy;rw[List.take_of_length_le Mcy]at HO aa;obtain⟨VA,vc,rfl,_,_⟩:=aa.sl za9;clear aa hB;go_wp2_with fail
    go_ret
    exact⟨.slice VA (ks.filter P).length vc,rfl,HO.o.base_le ie,aA.o.trans (HB.o.mono ie)⟩
def zeG(share:Rat)(T:List Tree)(out:Parts):Option Parts:=if bigQ (share*(1/(T.length:Rat)))then none else zbG (share*(1/(T.length:Rat))) T out
theorem zh0(a:Rat)(n:Nat):a/(n:Rat)=a*(1/(n:Rat)):=by grind
theorem tree_node{each:Rat}{l:List Tree}{out:Parts}:zeg each (.node l) out=zeG each l out:=by
 rw[zeg,zeG,zh0]
mutual
theorem zgC{each:Rat}{L:List ByteArray}:∀ {l:List Tree} {out o:Parts},zbG each l out=some o->zc8 L l->zci out L->zci o L
 | [],out,o,h,_,hn=>by
   rw[zbG]at h;cases h;exact hn
 |x::l,out,o,h,hl,hn=>by
  rw[zc8]at hl;rw[zbG]at h;cases ht:zeg each x out with
  |none=>rw[ht]at h;cases h
  |some o1=>
   rw[ht]at h;exact zgC (l:=l) h hl.2 (ziU ht hl.1 hn)
theorem ziU{each:Rat}{L:List ByteArray}:∀ {x:Tree} {out o:Parts},zeg each x out=some o->zfi L x->zci out L->zci o L
 | .leaf n,out,o,h,hl,hn=>by
   rw[zfi]at hl;rw[zeg]at h;split at h
   ·cases h
   ·cases h;intro p hp;rcases zeS hp with e|hp
    ·rw[e];exact hl
    ·exact hn p hp
 | .node l,out,o,h,hl,hn=>by
   rw[zfi]at hl;rw[zeg]at h;split at h
   ·cases h
   ·exact zgC (l:=l) h hl hn
end
theorem zgD{out:Parts}{L:List ByteArray}(hg:GoodParts out)(h:zci out L):out.length<=L.length:=by
 haveI:DecidableEq ByteArray:=fun a b=>Classical.propDecidable _
 have hn:(out.map (·.1)).Nodup:=by
  rw[List.nodup_iff_pairwise_ne,List.pairwise_map];exact hg.asc.imp fun h=>zc5 h
 have:=ziJ hn (m:=L) fun x hx=>by
  obtain⟨p,hp,rfl⟩:=List.mem_map.1 hx;exact h p hp
 simpa using this
theorem ziV{out:Parts}{L:List ByteArray}{n:ByteArray}{q:Rat}(h:zci out L)(hn:n∈L):zci (za3 out n q) L:=fun p hp=>by
 rcases zeS hp with e|hp
 ·rw[e];exact hn
 ·exact h p hp
theorem zoi{α β:Type}(g:α->Option β):∀(l:List α) (k:Nat) (x:α),(l.filter fun x=>(g x).isSome)[k]?=some x->x∈l/\∃t,g x=some t/\(l.filterMap g)[k]?=some t
 | [],k,x,h=>by simp at h
 |y::l,k,x,h=>by
  cases hg:g y with
  |none=>
   rw[List.filter_cons_of_neg (by simp[hg])]at h;rw[List.filterMap_cons_none hg];exact MbY
  |some t=>
   rw[List.filter_cons_of_pos (by simp[hg])]at h;rw[List.filterMap_cons_some hg];cases k with
   |zero=>
    obtain rfl:y=x:=by simpa using h
    exact⟨by simp,t,hg,rfl⟩
   |succ k=>
    exact MbY
structure Hd (out:Parts) (L:List ByteArray):Prop where
 good:GoodParts out
 small:zaE out=false
 names:zci out L
theorem Hd.parts{out:Parts}{L:List ByteArray}(h:Hd out L)(hs:sumQ out<=1):∀p∈out,zaI p.2:=fun p hp=>(zdF (hs:=out) ⟨h.good,h.small,hs⟩ hp).2.2
def SprPost(w:World)(R:Option Parts)(e:Ending)(w':World):Prop:=
 ∃(A:Option Addr) (c:Nat) (xs:Parts),e=.returned (.slice A xs.length c)/\Sl w' 3 zaa A xs/\Below w.heap.size w w'/\xs.length<=100000/\(R=some xs\/(R=none/\zaE xs=true))
theorem zjS{L:List ByteArray}:∀ {T:List Tree},zc8 L T->∀t∈T,zfi L t
 | [],_,t,ht=>by cases ht
 |x::T,h,t,ht=>by
  rw[zc8]at h;rcases List.mem_cons.1 ht with rfl|ht
  ·exact h.1
  ·exact zjS h.2 t ht
theorem ziW(laws:List Law)(s:St)(wd rd:List Deed)(LA CA MA DA WA RA GA:Option Addr)(c0 c1 c2 c3 c4 c5 c6:Nat)(law:Law)(frm:ByteArray)(L:List ByteArray)(hk:StLink s wd rd)(hf:StFew s wd rd)(hL:∀c∈s.children,c.2∈L)(tF:L.length<=90000):
 ∀(f:Nat) (n:ByteArray) (share:Rat) (A:Option Addr) (c:Nat) (out:Parts) (w:World),StIn w laws s wd rd LA CA MA DA WA RA GA c0 c1 c2 c3 c4 c5 c6->Deep s f n->Sl w 3 zaa A out->Hd out L->0<=share->zaI share->sumQ out+share<=1->0<(zd2 s law.stems frm f n).length->
 Calls Tryz.prog 191 #[.agg #[.slice LA laws.length c0,.slice CA s.children.length c1,.slice MA s.marriages.length c2,.slice DA s.dead.length c3,.slice WA wd.length c4,.slice RA rd.length c5,.slice GA s.graves.length c6],law.v,.string n,.string frm,zaA share,.slice A out.length c] w (SprPost w (zeG share (zb2 s law.stems frm f n) out))
 |0,n,_,_,_,_,w,_,hd,_,_,_,_,_,_=>hd.elim
 |f+1,n,share,A,c,out,w,h,hd,hS,hH,aw,nM,dO,ai=>by
  obtain⟨d9,fw,qE⟩:=yH3 (fun W (hB:Below w.heap.size w W)=>zhh laws s wd rd LA CA MA DA WA RA GA c0 c1 c2 c3 c4 c5 c6 law frm hk hf (f+1) n W (h.keep hB) hd) (fun x W (hB:Below w.heap.size w W)=>sAble x frm W (h.keep hB) hk hf) (fun(x:ByteArray) (hx:x∈zai s n) (share:Rat) (A:Option Addr) (c:Nat) (out:Parts) (W:World) (hB:Below w.heap.size w W)=>ziW laws s wd rd LA CA MA DA WA RA GA c0 c1 c2 c3 c4 c5 c6 law frm L hk hf hL tF f x share A c out W (h.keep hB) (hd x hx));have fF:=zgB s law.stems frm (f+1) n;have bV:(zd2 s law.stems frm (f+1) n).length<=1000:=Nat.le_trans (List.length_filter_le _ _) (Nat.le_trans (zhO s.children n) hf.kids);have gT:=fun k x hx=>zoi (zcS s law.stems frm f) (zai s n) k x hx
  rw[<-show zd2 s law.stems frm (f+1) n=(zai s n).filter (fun c=>(zcS s law.stems frm f c).isSome) from rfl,<-zf0]at gT;have bE:=zka s law.stems frm (f+1) n;have su:=zfj (stems:=law.stems) (frm:=frm) hL (f+1) n;unfold zeG;rw[fF];obtain⟨cd,cF,Gc,xx⟩:=zhH ai;have mM:=zlw ai bV;have iW:=zHi (fun W=>zg1 share (1/((zd2 s law.stems frm (f+1) n).length:Rat)) W nM mM);unfold zaA at iW qE⊢;rw[cd,cF]at iW;have jo:share*(1/((zd2 s law.stems frm (f+1) n).length:Rat))*((zd2 s law.stems frm (f+1) n).length:Rat)=share:=by
   have:=ratN (Nat.pos_iff_ne_zero.1 ai);grind
  have FH:0<=share*(1/((zd2 s law.stems frm (f+1) n).length:Rat)):=Rat.mul_nonneg aw Gc;have pG:share*(1/((zd2 s law.stems frm (f+1) n).length:Rat))<=share:=by
   have:=Rat.mul_le_mul_of_nonneg_left xx aw;rwa [Rat.mul_one]at this
  generalize zd2 s law.stems frm (f+1) n=ls at*;generalize zb2 s law.stems frm (f+1) n=T at*;generalize share*(1/(ls.length:Rat))=each at*;obtain⟨R,hR⟩:∃R,R=if bigQ each then none else zbG each T out:=⟨_,rfl⟩
  rw[<-hR];obtain⟨HR,HS,Hc,I1,uB⟩:=yH5 hR hS gT hH FH;have q8:0<=sumQ out:=zbr fun p hp=>by have:=hH.good.pos p hp;grind
  have eG:Hid (each<=1):=by show _<=_;grind
  have jZ:Hid (sumQ out+each*(ls.length:Rat)<=1):=by show _<=_;rw[jo];exact dO
  obtain⟨lL,nX,dG,Ic⟩:=yH4 fF bV bE su;unfold Law.v at d9 qE⊢;unfold SprPost;clear h hd hS hH nM dO fF bV gT bE su cd cF Gc xx mM jo FH pG hR q8 aw;go_enter Tryz.func191,Tryz.ntmps191
  go_upto_region 1 with fail
  obtain⟨W0,am⟩:∃W0,W0=((w.alloc (.cells #[.slice LA laws.length c0,.slice CA s.children.length c1,.slice MA s.marriages.length c2,.slice DA s.dead.length c3,.slice WA wd.length c4,.slice RA rd.length c5,.slice GA s.graves.length c6] 44)).alloc (.cells #[.int .i64 law.frm,.bool law.stems,.int .i64 law.num,.int .i64 law.den] 109)).alloc (.cells #[.int .i64 share.num,.int .i64 share.den] 31):=⟨_,rfl⟩
  have g0:W0.heap[w.heap.size]?=some (.cells #[.slice LA laws.length c0,.slice CA s.children.length c1,.slice MA s.marriages.length c2,.slice DA s.dead.length c3,.slice WA wd.length c4,.slice RA rd.length c5,.slice GA s.graves.length c6] 44):=Mdy;have g1:W0.heap[w.heap.size+1]?=some (.cells #[.int .i64 law.frm,.bool law.stems,.int .i64 law.num,.int .i64 law.den] 109):=by rw[am];exact zal (zar _ _ _ McB)
  have g2:W0.heap[w.heap.size+2]?=some (.cells #[.int .i64 share.num,.int .i64 share.den] 31):=by rw[am];exact zar _ _ _ McB
  have aK:Below w.heap.size w W0:=Mdb;rw[<-am];clear am;have l2:=zab g2;have aj:=zHi aK;have lV:=aK.size
  have av:=zHi (fun W (hB:Below W0.heap.size W0 W)=>(show(W.cell? ⟨w.heap.size,0,none⟩=some (.slice LA laws.length c0)/\W.cell? ⟨w.heap.size,1,none⟩=some (.slice CA s.children.length c1)/\W.cell? ⟨w.heap.size,2,none⟩=some (.slice MA s.marriages.length c2)/\W.cell? ⟨w.heap.size,3,none⟩=some (.slice DA s.dead.length c3)/\W.cell? ⟨w.heap.size,4,none⟩=some (.slice WA wd.length c4)/\W.cell? ⟨w.heap.size,5,none⟩=some (.slice RA rd.length c5)/\W.cell? ⟨w.heap.size,6,none⟩=some (.slice GA s.graves.length c6))/\(W.cell? ⟨w.heap.size+1,0,none⟩=some (.int .i64 law.frm)/\W.cell? ⟨w.heap.size+1,1,none⟩=some (.bool law.stems)/\W.cell? ⟨w.heap.size+1,2,none⟩=some (.int .i64 law.num)/\W.cell? ⟨w.heap.size+1,3,none⟩=some (.int .i64 law.den))/\(W.cell? ⟨w.heap.size+2,0,none⟩=some (.int .i64 share.num)/\W.cell? ⟨w.heap.size+2,1,none⟩=some (.int .i64 share.den)) from by
   have x0:=(hB.block _ Mcy).trans g0;have x1:=(hB.block _ Mcy).trans g1;have x2:=(hB.block _ l2).trans g2
   refine⟨zaF x0,⟨?_,?_,?_,?_⟩,zbt x2⟩<;>(simp only[World.cell?,x1];rfl)))
  obtain⟨⟨d0,d1,d2,d3,d4,d5,d6⟩,⟨e0,e1,e2,e3⟩,q0,q1⟩:=av.o W0 (Below.refl _ _);clear g0 g1 g2 aK;go_upto_region 3 with(go_at_call 190;go_must(refine(d9.o _ Mdo).mono ?_);rintro e w1 ⟨v1,rfl,o1,b1⟩)
  obtain⟨KA,kc,rfl,fO,_⟩:=o1.sl za9;obtain⟨aA,fg⟩:=yH2 b1 fO;have ie:=b1.size;clear o1 b1 fO d9 d0 d1 d2 d3 d4 d5 d6 e0 e1 e2 e3 q0 q1;go_loopw [5,14,15] (fun v i _ wr=>∃(k:Nat) (ys:Parts) (YA:Option Addr) (yc:Nat),k<=ls.length/\v=.slice YA ys.length yc/\i=.int .i64 k/\Hid (R=if bigQ each then none else zbG each (T.drop k) ys)/\Hid (Hd ys L)/\Hid (sumQ ys+each*((ls.length-k:Nat):Rat)<=1)/\(0<k->bigQ each=false)/\Sl wr 3 zaa YA ys/\Below w1.heap.size w1 wr) (fun _ i _ _=>ls.length-(intOf i).toNat)
  case atStart=>exact⟨0,out,A,c,Nat.zero_le _,rfl,rfl,zHi (by rw[List.drop_zero];exact HR.o),I1,zHi (by rw[Nat.sub_zero];exact jZ.o),fun h=>absurd h Mcy,(HS.o.keep aj.o).keep aA.o,Below.refl _ _⟩
  case round=>
   obtain⟨k,zs,ZA,zc,hk,rfl,rfl,HX,HZ,zf,ji,hZ,hB⟩:=hrel;have ir:k<=1000:=by have:=nX.o;omega
   have aG:=hB.size;obtain⟨HB,BE⟩:=yH2 hB hZ;have cv:=aA.o.trans (hB.mono ie);by_cases ae:k<ls.length
   ·obtain⟨uj,t,cn,iQ⟩:=Hc.o k ls[k] (List.getElem?_eq_getElem ae);obtain⟨b,off,rfl,hb,ah⟩:=(fg.o.keep hB).at ae;generalize ls[k]=x at*;have i0:wr.cell? ⟨b,off+k,none⟩=some (.string x):=McZ;have oX:t∈T:=List.mem_of_getElem? iQ;have gy:T.drop k=t::T.drop (k+1):=by
     have h1:=(List.getElem?_eq_some_iff.1 iQ)
     rw[List.drop_eq_getElem_cons h1.1,h1.2]
    have mq:((ls.length-k:Nat):Rat)=((ls.length-(k+1):Nat):Rat)+1:=by
     rw[show ls.length-k=(ls.length-(k+1))+1 by omega];exact zgu _
    have gX:0<=each*((ls.length-(k+1):Nat):Rat):=Rat.mul_nonneg uB.o Rat.natCast_nonneg;have yF:sumQ zs+each<=1:=by have:=zf.o;rw[mq]at this;grind
    have hx:=HX.o;rw[gy,zbG]at hx;obtain⟨R1,ov⟩:∃R1,R1=zeg each t zs:=⟨_,rfl⟩
    rw[<-ov]at hx
    have jV:Hid (∀ys,R1=some ys->bigQ each=false->Hid (R=if bigQ each then none else zbG each (T.drop (k+1)) ys)/\Hid (Hd ys L)/\Hid (sumQ ys+each*((ls.length-(k+1):Nat):Rat)<=1)):=zHi (fun ys h1 h2=>by
     rw[ov]at h1;have hg:=zhZ uB.o HZ.o.good HZ.o.small h1;refine⟨zHi (by rw[hx,ov,h1];rfl),zHi ⟨hg.1,hg.2,ziU h1 (zjS Ic.o t oX) HZ.o.names⟩,zHi ?_⟩;have h3:=zn5 (zmq.1 dG.o t oX) h1;have h4:=zf.o;rw[mq]at h4;rw[h3]
     grind)
    have ni:Hid (R1=none->R=none):=zHi (fun h1=>by rw[hx,h1];split<;>rfl);have ar:(k:Int)<(ls.length:Int):=Mcy;have aQ:(0:Int)<=(k:Int):=Mcy;obtain⟨⟨d0,d1,d2,d3,d4,d5,d6⟩,⟨e0,e1,e2,e3⟩,q0,q1⟩:=av.o wr cv;have yy:w.heap.size+2<wr.heap.size:=Mcy;obtain⟨ak,bo,IE,gJ,zd,b8⟩:=yH6 ae uj cn ov yF cv;clear ah hB hZ hx gy mq gX yF oX iQ cn ov uj cv ae;go_upto_region 6 with(go_at_call 168;go_must(refine(iW.o _).mono ?_);rintro e wq ⟨rfl,z,rfl⟩)
    obtain⟨E,hE⟩:∃E,E=wr.heap.size+z.os.size:=⟨_,rfl⟩
    obtain⟨WE,zD⟩:∃WE,WE=(wr.ext z).alloc (.cells #[.int .i64 each.num,.int .i64 each.den] 31):=⟨_,rfl⟩
    have gE:WE.heap[E]?=some (.cells #[.int .i64 each.num,.int .i64 each.den] 31):=by rw[zD];exact zar _ _ _ (by rw[hE];simp[zaf])
    have rJ:Below wr.heap.size wr WE:=by rw[zD];exact zad (zaq wr z) _
    rw[<-zD,<-hE];clear zD hE d0 d1 d2 d3 d4 d5 d6 e0 e1 e2 e3 q0 q1;obtain⟨v0,v1⟩:=zbt gE;have EU:=rJ.size;have ET:=zab gE
    have bY:=zHi (fun W (h:Below WE.heap.size WE W)=>(show((W.cell? ⟨w.heap.size,0,none⟩=some (.slice LA laws.length c0)/\W.cell? ⟨w.heap.size,1,none⟩=some (.slice CA s.children.length c1)/\W.cell? ⟨w.heap.size,2,none⟩=some (.slice MA s.marriages.length c2)/\W.cell? ⟨w.heap.size,3,none⟩=some (.slice DA s.dead.length c3)/\W.cell? ⟨w.heap.size,4,none⟩=some (.slice WA wd.length c4)/\W.cell? ⟨w.heap.size,5,none⟩=some (.slice RA rd.length c5)/\W.cell? ⟨w.heap.size,6,none⟩=some (.slice GA s.graves.length c6))/\(W.cell? ⟨w.heap.size+1,0,none⟩=some (.int .i64 law.frm)/\W.cell? ⟨w.heap.size+1,1,none⟩=some (.bool law.stems)/\W.cell? ⟨w.heap.size+1,2,none⟩=some (.int .i64 law.num)/\W.cell? ⟨w.heap.size+1,3,none⟩=some (.int .i64 law.den))/\W.cell? ⟨b,off+k,none⟩=some (.string x)/\W.cell? ⟨E,0,none⟩=some (.int .i64 each.num)/\W.cell? ⟨E,1,none⟩=some (.int .i64 each.den)) from by
     have hw:=av.o W (b8.o.trans ((rJ.trans (h.mono EU)).mono b8.o.size))
     exact⟨hw.1,hw.2.1,(zah (rJ.trans (h.mono EU)) hb).trans i0,(zah h ET).trans v0,(zah h ET).trans v1⟩))
    obtain⟨lB,lC,EC⟩:=yH3 (HB.o.trans (rJ.mono aG)) (b8.o.trans (rJ.mono b8.o.size)) (BE.o.keep rJ);clear gE rJ i0 BE;by_cases hbig:bigQ each=true
    ·have dl:1000000000<(each.den:Int):=by unfold bigQ at hbig;simpa using hbig
     have pm:Hid (R=none):=by show _=_;rw[HX.o,if_pos hbig]
     have He:=zHi hbig;clear hbig;go_wp2_with fail
     go_ret
     exact⟨_,_,[((⟨#[]⟩:ByteArray),each)],rfl,zde (zar _ _ _ rfl),aj.o.trans ((zad lC.o _).mono lV),by simp,.inr ⟨pm.o,by simp[zaE,He.o]⟩⟩
    ·have kh:bigQ each=false:=by simpa using hbig
     have dl:¬1000000000<(each.den:Int):=by unfold bigQ at kh;simpa using kh
     have Gv:=zbZ uB.o eG.o kh;obtain⟨uT,Ao,og⟩:=yH3 (fun ys h=>jV.o ys h kh) kh Gv;have kD:=zHi (fun W (h:Below WE.heap.size WE W)=>fw.o x W (aj.o.trans ((lC.o.trans (h.mono lC.o.size)).mono lV)));obtain⟨⟨d0,d1,d2,d3,d4,d5,d6⟩,⟨e0,e1,e2,e3⟩,j0,v0,v1⟩:=bY.o WE (Below.refl _ _);have hwE:w.heap.size<WE.heap.size:=Mcy;have JP:b<WE.heap.size:=Mcy;clear kh hbig Gv jV HX;go_upto_region 8 with fail
     have cV:=IE.o;unfold zcS at cV;cases cI:zdT s x frm
     ·rw[cI]at kD cV;simp only[Bool.false_eq_true,if_false]at cV;have ht:t=.node (zb2 s law.stems frm f x)/\0<(zd2 s law.stems frm f x).length:=by
       split at cV
       ·rename_i h
        cases cV;refine⟨rfl,?_⟩;rw[<-zgB];rw[Bool.and_eq_true]at h;cases hT:zb2 s law.stems frm f x with
        |nil=>rw[hT]at h;simp at h
        |cons=>simp
       ·cases cV
      have ve:=zHi (fun W (h:Below WE.heap.size WE W)=>qE.o x bo.o each ZA zc zs W (aj.o.trans ((lC.o.trans (h.mono lC.o.size)).mono lV)) (EC.o.keep h) HZ.o uB.o og.o zd.o ht.2);have fH:R1=zeG each (zb2 s law.stems frm f x) zs:=by rw[gJ.o,ht.1,tree_node]
      rw[<-fH]at ve;clear fH ht cV cI
      (refine zaj Mcz Mcz ?_
       repeat(first|go_big_quiet_skip|(go_big_quiet_want;go_big_quiet_op;first|go_big_quiet_on|(apply Exists.intro;refine⟨fun _=>?_,?_⟩;(go_at_call 189;exact quietx (kD.o _ Bw));go_big_quiet_on)))
       refine wpQuiet_nil ?_
       rintro _ ⟨zq,rfl⟩)
      obtain⟨WQ,ox⟩:∃WQ,WQ=WE.ext zq:=⟨_,rfl⟩
      have mg:Below WE.heap.size WE WQ:=Mex;rw[<-ox];clear ox;go_upto_region 10 with fail
      refine zaB 9 (fun bb w'=>bb=true\/((w'.cell? ⟨w.heap.size,0,none⟩=some (.slice LA laws.length c0)/\w'.cell? ⟨w.heap.size,1,none⟩=some (.slice CA s.children.length c1)/\w'.cell? ⟨w.heap.size,2,none⟩=some (.slice MA s.marriages.length c2)/\w'.cell? ⟨w.heap.size,3,none⟩=some (.slice DA s.dead.length c3)/\w'.cell? ⟨w.heap.size,4,none⟩=some (.slice WA wd.length c4)/\w'.cell? ⟨w.heap.size,5,none⟩=some (.slice RA rd.length c5)/\w'.cell? ⟨w.heap.size,6,none⟩=some (.slice GA s.graves.length c6))/\(w'.cell? ⟨w.heap.size+1,0,none⟩=some (.int .i64 law.frm)/\w'.cell? ⟨w.heap.size+1,1,none⟩=some (.bool law.stems)/\w'.cell? ⟨w.heap.size+1,2,none⟩=some (.int .i64 law.num)/\w'.cell? ⟨w.heap.size+1,3,none⟩=some (.int .i64 law.den))/\w'.cell? ⟨b,off+k,none⟩=some (.string x)/\w'.cell? ⟨E,0,none⟩=some (.int .i64 each.num)/\w'.cell? ⟨E,1,none⟩=some (.int .i64 each.den))) Mcz (.inr (bY.o _ (zaK mg))) ?hrest
      case hrest=>
       intro hHeld;refine TkM 0 ?_;refine TkM 1 ?_;refine TkM 2 ?_;refine TkM 3 ?_;refine TkM 4 ?_;refine TkM 5 ?_;refine TkM 6 ?_;refine TkM 7 ?_;refine TkM 8 ?_;refine OnM 9 true fun K hK=>?_
       go_simp
       refine(ve.o _ (zaK mg)).mono ?_;rintro e w5 ⟨YA,yc,ys,rfl,wt,Ch,JL,JM⟩;refine NxM hK fun hHeld=>?_
       clear hK K;refine OnM 10 true fun K hK=>?_
       go_simp
       refine NxM hK fun hHeld=>?_
       clear hK K;refine zaM Mcz ?_ _;clear hHeld;obtain⟨Bf,kS⟩:=yH2 JM JL;exact Mx
     ·rw[cI]at kD cV;simp only[if_true]at cV;have ht:t=.leaf x:=by cases cV;rfl
      have yE:=zgD HZ.o.good HZ.o.names;have ve:=zHi (fun W (h:Below WE.heap.size WE W)=>zcT zs x each ZA zc W Mcy (HZ.o.parts (by have:=zd.o;have:=uB.o;grind)) og.o (EC.o.keep h));have fH:R1=if zaE (za3 zs x each)then none else some (za3 zs x each):=by rw[gJ.o,ht,zeg]
      have Bf:Hid (R1=some (za3 zs x each)\/(R1=none/\zaE (za3 zs x each)=true)):=zHi (by
       rw[fH];cases h:zaE (za3 zs x each)
       ·exact .inl rfl
       ·exact .inr ⟨rfl,rfl⟩)
      have kS:Hid ((za3 zs x each).length<=100000):=zHi (by have:=zcx x each zs;omega);generalize za3 zs x each=ys at*;unfold zaA at ve;clear fH ht cV cI yE
      (refine zaj Mcz Mcz ?_
       repeat(first|go_big_quiet_skip|(go_big_quiet_want;go_big_quiet_op;first|go_big_quiet_on|(apply Exists.intro;refine⟨fun _=>?_,?_⟩;(go_at_call 189;exact quietx (kD.o _ Bw));go_big_quiet_on)))
       refine wpQuiet_nil ?_
       rintro _ ⟨zq,rfl⟩)
      obtain⟨WQ,ox⟩:∃WQ,WQ=WE.ext zq:=⟨_,rfl⟩
      have mg:Below WE.heap.size WE WQ:=Mex;rw[<-ox];clear ox;go_upto_region 9 with fail
      refine zaB 6 (fun bb w'=>bb=true\/((w'.cell? ⟨w.heap.size,0,none⟩=some (.slice LA laws.length c0)/\w'.cell? ⟨w.heap.size,1,none⟩=some (.slice CA s.children.length c1)/\w'.cell? ⟨w.heap.size,2,none⟩=some (.slice MA s.marriages.length c2)/\w'.cell? ⟨w.heap.size,3,none⟩=some (.slice DA s.dead.length c3)/\w'.cell? ⟨w.heap.size,4,none⟩=some (.slice WA wd.length c4)/\w'.cell? ⟨w.heap.size,5,none⟩=some (.slice RA rd.length c5)/\w'.cell? ⟨w.heap.size,6,none⟩=some (.slice GA s.graves.length c6))/\(w'.cell? ⟨w.heap.size+1,0,none⟩=some (.int .i64 law.frm)/\w'.cell? ⟨w.heap.size+1,1,none⟩=some (.bool law.stems)/\w'.cell? ⟨w.heap.size+1,2,none⟩=some (.int .i64 law.num)/\w'.cell? ⟨w.heap.size+1,3,none⟩=some (.int .i64 law.den))/\w'.cell? ⟨b,off+k,none⟩=some (.string x)/\w'.cell? ⟨E,0,none⟩=some (.int .i64 each.num)/\w'.cell? ⟨E,1,none⟩=some (.int .i64 each.den))) Mcz (.inr (bY.o _ (zaK mg))) ?hrest
      case hrest=>
       intro hHeld;refine TkM 0 ?_;refine TkM 1 ?_;refine TkM 2 ?_;refine TkM 3 ?_;refine TkM 4 ?_;refine TkM 5 ?_;refine OnM 6 true fun K hK=>?_
       go_simp
       refine(ve.o _ (zaK mg)).mono ?_;rintro e w5 ⟨v5,rfl,o5,Ch⟩;obtain⟨YA,yc,rfl,wt,_⟩:=o5.sl zap;refine NxM hK fun hHeld=>?_
       clear hK K;refine OnM 7 true fun K hK=>?_
       go_simp
       refine NxM hK fun hHeld=>?_
       clear hK K;refine zaM Mcz ?_ _;clear hHeld;exact Mx
   ·have ar:¬(k:Int)<(ls.length:Int):=Mcy;have hx:=HX.o;have oJ:k=ls.length:=Mcy;rw[ji Mcy,List.drop_of_length_le (by rw[lL.o];omega),zbG]at hx;have ck:Hid (R=some zs):=Mea;obtain⟨IT,b8⟩:=yH2 (zgD HZ.o.good HZ.o.names) cv;clear hx oJ hB hZ cv;go_wp2_with fail
    go_ret
    exact⟨ZA,zc,zs,rfl,BE.o,aj.o.trans (b8.o.mono lV),by have:=IT.o;omega,.inl ck.o⟩
