import Derived.Test.YtogklihlgindkaaGreatDoorWX
set_option linter.all false
set_option maxRecDepth 100000
set_option maxHeartbeats 4000000
namespace Go.Proofs.YtogklihlgindkaaGreatDoor
open Go.RowKit Go.Shelf
attribute [local go_sem] World.cell?_alloc_mark zaf za3 zam za6 zat zau zav zaw zax zay zaz
attribute [local go_sem] zao zac
structure Srch (cs:List (ByteArray×ByteArray)) (nm:ByteArray) (all:List ByteArray) (i:Nat):Prop where
 desc:∀y∈all,Relation.TransGen (λx y=>y∈zdk cs x) nm y
 mine:∀c∈zdk cs nm,c∈all
 done:∀y∈all.take i,∀c∈zdk cs y,c∈all
 few:∃n,n<=(zdk cs nm).length/\(all.drop n).Nodup/\n<=all.length
def zib(cs:List (ByteArray×ByteArray))(n:ByteArray):(zdk cs n).length<=cs.length:=by
 unfold zdk;exact Mbw
variable{cs:List (ByteArray×ByteArray)}{n:ByteArray}
def zjg{c:ByteArray}(h:c∈zdk cs n):c∈cs.map (·.2):=by
 unfold zdk at h;obtain⟨p,hp,rfl⟩:=List.mem_map.1 h;exact List.mem_map_of_mem (List.mem_filter.1 hp).1
variable{nm:ByteArray}{all:List ByteArray}{i:Nat}
def Srch.len(h:Srch cs nm all i):all.length<=2*cs.length:=by
 obtain⟨n,h1,h2,h3⟩:=h.few;have h4:=zib cs nm;haveI:DecidableEq ByteArray:=λa b=>Classical.propDecidable _
 have h5:(all.drop n).length<=(cs.map (·.2)).length:=zk5 h2 λy hy=>by
  cases h.desc y (List.mem_of_mem_drop hy)with
  |single h=>exact zjg h
  |tail _ h=>exact zjg h
 rw[List.length_drop,List.length_map]at h5;omega
def zpF(cs:List (ByteArray×ByteArray))(nm:ByteArray):Srch cs nm (zdk cs nm) 0:=
 ⟨λy hy=> .single hy,λc h=>h,by simp,(zdk cs nm).length,Qc,by simp,Qc⟩
def srch_end(h:Srch cs nm all i)(hi:all.length<=i)(y:ByteArray):y∈all↔Relation.TransGen (λx y=>y∈zdk cs x) nm y:=by
 refine⟨h.desc y,λhd=>?_⟩;have kj:=h.done;rw[List.take_of_length_le hi]at kj;induction hd with
 |single h1=>exact h.mine _ h1
 |tail _ h1 ih=>exact kj _ ih _ h1
def zdi(all more:List ByteArray):List ByteArray:=more.foldl (λa c=>if a.any (zae c)then a else a++[c]) all
variable{k:Nat}
def znH{more:List ByteArray}(h:k<more.length):zdi all (more.take (k+1))=if(zdi all (more.take k)).any (zae more[k])then zdi all (more.take k)else zdi all (more.take k)++[more[k]]:=by
 unfold zdi;rw[List.take_add_one,List.getElem?_eq_getElem h,List.foldl_append];rfl
def zfF:∀(more all:List ByteArray),∃t,zdi all more=all++t/\(∀c∈t,c∈more)/\(∀c∈more,c∈zdi all more)/\(∀n,n<=all.length->(all.drop n).Nodup->(∀c∈t,c∉all)/\((zdi all more).drop n).Nodup)
 | [],all=>⟨[],by simp[zdi],by simp,by simp,λn _ h=>⟨by simp,h⟩⟩
 |c::more,all=>by
  have e:zdi all (c::more)=zdi (if all.any (zae c)then all else all++[c]) more:=rfl;rw[e];split
  ·rename_i hc
   obtain⟨t,h1,h2,h3,h4⟩:=zfF more all;refine⟨t,h1,λx hx=>List.mem_cons_of_mem _ (h2 x hx),λx hx=>?_,h4⟩;rcases List.mem_cons.1 hx with rfl|hx
   ·rw[h1];exact List.mem_append_left _ (zf1.1 hc)
   ·exact h3 x hx
  ·rename_i hc
   have aE:c∉all:=λh=>hc (zf1.2 h)
   obtain⟨t,h1,h2,h3,h4⟩:=zfF more (all++[c]);refine⟨c::t,by rw[h1];simp,λx hx=>?_,λx hx=>?_,λn hn cY=>?_⟩
   ·rcases List.mem_cons.1 hx with rfl|hx
    ·simp
    ·exact List.mem_cons_of_mem _ (h2 x hx)
   ·rcases List.mem_cons.1 hx with rfl|hx
    ·rw[h1];simp
    ·exact h3 x hx
   ·have hd:((all++[c]).drop n).Nodup:=by
     rw[List.drop_append_of_le_length hn]
     exact List.nodup_append.2 ⟨cY,by simp,λa ha b hb e=>by
      rw[List.mem_singleton.1 hb]at e
      exact aE (e▸List.mem_of_mem_drop ha)⟩
    obtain⟨h5,h6⟩:=h4 n McX hd;refine⟨λx hx=>?_,h6⟩;rcases List.mem_cons.1 hx with rfl|hx
    ·exact aE
    ·exact λh=>h5 x hx (List.mem_append_left _ h)
def srch_next(h:Srch cs nm all i)(hi:i<all.length):Srch cs nm (zdi all (zdk cs all[i])) (i+1):=by
 obtain⟨t,h1,h2,h3,h4⟩:=zfF (zdk cs all[i]) all;obtain⟨n,f1,f2,f3⟩:=h.few;have h5:=(h4 n f3 f2).2;rw[h1]at h3 h5⊢;refine⟨λy hy=>?_,λc hc=>List.mem_append_left _ (h.mine c hc),λy hy c hc=>?_,n,f1,h5,by simp;omega⟩
 ·rcases List.mem_append.1 hy with hy|hy
  ·exact h.desc y hy
  ·exact .tail (h.desc _ (List.getElem_mem hi)) (h2 y hy)
 ·rw[List.take_append_of_le_length McS,List.take_add_one,List.getElem?_eq_getElem hi]at hy;rcases List.mem_append.1 hy with hy|hy
  ·exact List.mem_append_left _ (h.done y hy c hc)
  ·obtain rfl:y=all[i]:=by simpa using hy
   exact h3 c hc
def DescR(w:World)(cs:List (ByteArray×ByteArray))(nm:ByteArray)(e:Ending)(w':World):Prop:=
 ∃v ys,e=.returned v/\OwnS w' w.heap.size 9 1 sC v ys/\(∀y,y∈ys↔Relation.TransGen (λx y=>y∈zdk cs x) nm y)/\AscT ys/\ys.length<=2*cs.length/\Qa w w'
def rDesc_any(cs:List (ByteArray×ByteArray))(n:ByteArray)(LA CA MA DA WA RA GA:Option Addr)(n0 c0 n1 c1 n2 c2 n3 c3 n4 c4 n5 c5 n6 c6:Nat)(w:World)(hl:cs.length<=1000)(hS:Sl w 2 zaW CA cs):
 Calls Tryz.prog 170 #[.agg #[.slice LA n0 c0,.slice CA cs.length c1,.slice MA n2 c2,.slice DA n3 c3,.slice WA n4 c4,.slice RA n5 c5,.slice GA n6 c6],.string n] w (DescR w cs n):=by
 have pO:=zHi (λx W (h:Qa w W)=>zg8 cs x LA CA MA DA WA RA GA n0 c0 cs.length c1 n2 c2 n3 c3 n4 c4 n5 c5 n6 c6 W McS (hS.keep h));unfold DescR;clear hS;go_enter Tryz.func170,Tryz.ntmps170
 go_upto_region 1 with fail
 generalize am:w.alloc _=W0;obtain⟨g0,aO⟩:=boxed am;have iq:=zaG g0;have l0:=zab g0;have ay:=aO.size;have ak:=zHi aO
 have av:=zHi (λW (h:Qa W0 W)=>(show W.cell? ⟨w.heap.size,0,none⟩=some (.slice LA n0 c0)/\W.cell? ⟨w.heap.size,1,none⟩=some (.slice CA cs.length c1)/\W.cell? ⟨w.heap.size,2,none⟩=some (.slice MA n2 c2)/\W.cell? ⟨w.heap.size,3,none⟩=some (.slice DA n3 c3)/\W.cell? ⟨w.heap.size,4,none⟩=some (.slice WA n4 c4)/\W.cell? ⟨w.heap.size,5,none⟩=some (.slice RA n5 c5)/\W.cell? ⟨w.heap.size,6,none⟩=some (.slice GA n6 c6) from by
  obtain⟨d0,d1,d2,d3,d4,d5,d6⟩:=iq
  exact⟨(zai h l0).trans d0,(zai h l0).trans d1,(zai h l0).trans d2,(zai h l0).trans d3,(zai h l0).trans d4,(zai h l0).trans d5,(zai h l0).trans d6⟩))
 obtain⟨d0,d1,d2,d3,d4,d5,d6⟩:=iq;clear am aO g0
 go_upto_region 3 with(go_at_call 169
                       go_must(refine(pO.o _ _ MdJ).mono ?_)
                       rintro e w1 ⟨v1,rfl,o1,b1⟩)
 obtain⟨aL,gy⟩:=yH2 b1 o1;clear o1 b1 d0 d1 d2 d3 d4 d5 d6;go_loopw [5,6,7,8] (λv i _ _ wr=>∃(k:Nat) (all:List ByteArray),k<=all.length/\i=.int .i64 k/\Hid (Srch cs n all k)/\OwnS wr W0.heap.size 9 1 sC v all/\Qa W0 wr) (λ_ i _ _ _=>2*cs.length-(intOf i).toNat)
 case atStart=>exact⟨0,_,Nat.zero_le _,rfl,zHi (zpF cs n),gy.o,aL.o⟩
 case round=>
  obtain⟨k,all,hk,rfl,rC,aa,hB⟩:=hrel;obtain⟨WR,kI⟩:=Qd wr
  subst kI;have fV:=rC.o.len;have iR:k<=2000:=McS;obtain⟨VA,vc,rfl,fk,gu⟩:=aa.sl zaB;have aM:=hB.size;obtain⟨HB,HO⟩:=yH2 hB aa;by_cases ae:k<all.length
  ·obtain⟨b,off,rfl,hb,ah⟩:=fk.at ae;have bC:=srch_next rC.o ae;have aj:=zHi ae;generalize all[k]=x at*;have i0:WR.cell? ⟨b,off+k,none⟩=some (.string x):=Mdk;have au:(k:Int)<(all.length:Int):=McS;have aR:(0:Int)<=(k:Int):=McS;have cM:=zHi bC;have Iz:Hid (all.length<=(zdi all (zdk cs x)).length):=by
    show _<=_;obtain⟨t,h1,_⟩:=zfF (zdk cs x) all;rw[h1,List.length_append];omega
   have ox:=zHi fV;have bZ:=zHi (λW (h:Qa WR W)=>(show(W.cell? ⟨w.heap.size,0,none⟩=some (.slice LA n0 c0)/\W.cell? ⟨w.heap.size,1,none⟩=some (.slice CA cs.length c1)/\W.cell? ⟨w.heap.size,2,none⟩=some (.slice MA n2 c2)/\W.cell? ⟨w.heap.size,3,none⟩=some (.slice DA n3 c3)/\W.cell? ⟨w.heap.size,4,none⟩=some (.slice WA n4 c4)/\W.cell? ⟨w.heap.size,5,none⟩=some (.slice RA n5 c5)/\W.cell? ⟨w.heap.size,6,none⟩=some (.slice GA n6 c6))/\W.cell? ⟨b,off+k,none⟩=some (.string x) from⟨av.o W (HB.o.trans (h.mono aM)),(zai h hb).trans i0⟩));have IL:=zHi (λW (h:Qa WR W)=>pO.o x W (ak.o.trans ((HB.o.trans (h.mono aM)).mono ay)));generalize je:zdk cs x=ks at*;have cf:ks.length<=1000:=by rw[<-je];exact Nat.le_trans (zib cs x) hl
   have oF:=zHi cf;clear ah aa hB fk ae bC je fV i0 cf;go_upto_region 5 with fail
   refine za9 5 (λbb w'=>bb=true\/((w'.cell? ⟨w.heap.size,0,none⟩=some (.slice LA n0 c0)/\w'.cell? ⟨w.heap.size,1,none⟩=some (.slice CA cs.length c1)/\w'.cell? ⟨w.heap.size,2,none⟩=some (.slice MA n2 c2)/\w'.cell? ⟨w.heap.size,3,none⟩=some (.slice DA n3 c3)/\w'.cell? ⟨w.heap.size,4,none⟩=some (.slice WA n4 c4)/\w'.cell? ⟨w.heap.size,5,none⟩=some (.slice RA n5 c5)/\w'.cell? ⟨w.heap.size,6,none⟩=some (.slice GA n6 c6))/\w'.cell? ⟨b,off+k,none⟩=some (.string x))) McT (.inr (bZ.o _ (zaF Qb))) ?hrest
   case hrest=>
    intro hHeld;refine TkM 0 ?_;refine TkM 1 ?_;refine TkM 2 ?_;refine TkM 3 ?_;refine TkM 4 ?_;refine OnM 5 true λK hK=>?_
    go_simp
    refine(IL.o _ (zaF Qb)).mono ?_;rintro e w5 ⟨v5,rfl,o5,ar⟩;refine NxM hK λhHeld=>?_
    clear hK K;refine OnM 6 true λK hK=>?_
    go_simp
    refine NxM hK λhHeld=>?_
    clear hK K;refine zaO McT ?_ _;clear hHeld;have cq:Qa WR w5:=(zaF Qb:Qa WR WR.drew).trans ar;have o5':OwnS w5 WR.heap.size 9 1 sC v5 ks:=o5;obtain⟨KA,kc,rfl,_,_⟩:=o5'.sl zaB;obtain⟨bf,ll⟩:=yH2 cq o5';have CC:=cq.size;clear ar cq o5 o5';go_upto_region 7 with fail
    go_loopw [5,8] (λv j wr=>∃m:Nat,m<=ks.length/\j=.int .i64 m/\OwnS wr W0.heap.size 9 1 sC v (zdi all (ks.take m))/\Hid (∀g,za4 v=some g->za4 (.slice KA ks.length kc)≠some g)/\OwnS wr WR.heap.size 9 1 sC (.slice KA ks.length kc) ks/\Qa W0 wr/\w5.heap.size<=wr.heap.size/\(zdi all (ks.take m)).length<=all.length+m) (λ_ j _=>ks.length-(intOf j).toNat)
    case atStart=>exact⟨0,Nat.zero_le _,rfl,HO.o.keep bf.o,zHi (λg h1 h2=>by have:=(ll.o.ge g h2).1;have:=(HO.o.ge g h1).2;omega),ll.o,HB.o.trans (bf.o.mono aM),Qc,by simp[zdi]⟩
    case round=>
     obtain⟨m,hm,rfl,uH,fF,bE,gU,Nm,Hy⟩:=hrel;have I1:m<=1000:=by have:=oF.o;omega
     by_cases gn:m<ks.length
     ·have aq:=znH (all:=all) gn;obtain⟨b2,off2,mJ,bM,cD⟩:=(zja zaB bE).1.at gn;have js:=zHi gn;generalize zdi all (ks.take m)=ys at*;obtain⟨VY,vy,rfl,sm,Nd⟩:=uH.sl zaB;generalize ks[m]=y at*;subst mJ;have j0:wr.cell? ⟨b2,off2+m,none⟩=some (.string y):=Mer;have iw:(m:Int)<(ks.length:Int):=McS;have nv:(0:Int)<=(m:Int):=McS;have BX:Hid (ys.length<=100000):=by show _<=_;have:=ox.o;have:=oF.o;omega
      obtain⟨fH,cR,dt,fQ,mz⟩:=yH5 (λW (h:Qa wr W)=>zd1 ys y VY vy W BX.o Nd (sm.keep h)) uH bE gU Hy;have F1:=gU.size;clear cD uH bE gU sm gn Hy;cases aQ:ys.any (zae y)
      ·have aK:Hid (zdi all (ks.take (m+1))=ys++[y]):=by show _=_;rw[aq,aQ];rfl
       rw[aQ]at fH;clear aq aQ
       go_wp2_with (first
        |(go_at_call 168;go_must(refine(fH.o _ Bw).mono ?_);rintro e wq ⟨rfl,rfl⟩)
        |(at_builtin
          go_loud(refine zar (v:=.slice VY ys.length vy) (n:=ys.length) (m:=1) rfl _ _ rfl zbL zaB zbK rfl (xs:=ys) (ys:=[y]) (cR.o.keep (n:=wr.heap.size) Bw) rfl rfl rfl (zfW (zas _ _ _ rfl)) (by have:=BX.o;simp[maxLen];omega) (by have:=BX.o;omega) McX ?_)
          intro v3 w3 h1 h2 h3;have ax:=Below.grown (B:=W0.heap.size) (a:=W0) (fQ.o.trans (Below.mono (B:=wr.heap.size) (zad Qb _) F1)) h2 McX (λj hj=>(cR.o.ge j hj).1);have uE:=(dt.o.keep (n:=wr.heap.size) (zad Qb (.cells #[.string y] 9))).grown h2 (.inr λe=>fF.o _ e.symm rfl);have B8:∀g,za4 v3=some g->za4 (.slice (some ⟨b2,off2,none⟩) ks.length kc)≠some g:=λg e1 e2=>by
           rcases h3 g e1 with h|h
           ·exact fF.o g h e2
           ·have:=(dt.o.ge g e2).2;simp at h;omega
          have dH:=h2.size;obtain⟨H1,aG,J3,Ji⟩:=yH4 h1 ax uE B8;simp only[World.size_alloc]at dH
          clear h1 h2 h3 ax uE B8))
       go_round
       case rel=>exact⟨m+1,js.o,by go_num,by rw[aK.o];exact H1.o,Ji,J3.o,aG.o,by omega,by rw[aK.o,List.length_append];have:=mz.o;simp;omega⟩
       case measure=>have:=js.o;simp only[intOf];omega
      ·have aK:Hid (zdi all (ks.take (m+1))=ys):=by show _=_;rw[aq,aQ];rfl
       rw[aQ]at fH;clear aq aQ;go_wp2_with (go_at_call 168;go_must(refine(fH.o _ Bw).mono ?_);rintro e wq ⟨rfl,rfl⟩)
       go_round
       case rel=>exact⟨m+1,js.o,by go_num,by rw[aK.o];exact cR.o,fF,dt.o,fQ.o,Nm,by rw[aK.o];have:=mz.o;omega⟩
       case measure=>have:=js.o;simp only[intOf];omega
     ·have iw:¬(m:Int)<(ks.length:Int):=McS;rw[List.take_of_length_le McS]at uH;obtain⟨cR,fQ⟩:=yH2 uH gU;clear uH bE gU;go_wp2_with fail
      go_round
      case rel=>exact⟨k+1,_,by have:=Iz.o;have:=aj.o;omega,by go_num,cM,cR.o,fQ.o⟩
      case measure=>have:=aj.o;have:=ox.o;simp only[intOf];omega
  ·have au:¬(k:Int)<(all.length:Int):=McS;obtain⟨BF,nR,ox⟩:=yH3 (srch_end rC.o McS) (λW (h:Qa WR W)=>znB all VA vc W McS (fk.keep h)) fV;clear fk aa hB fV;go_wp2_with (go_at_call 186;go_must(refine(nR.o _ Bw).mono ?_);rintro e wq ⟨vq,rfl,oq,bq⟩)
   go_ret
   exact⟨_,zdh all,rfl,oq.base_le McS,λy=>zn9.trans (BF.o y),znA all,Nat.le_trans (zjd all) ox.o,ak.o.trans ((HB.o.trans (bq.mono aM)).mono ay)⟩
structure StIn (w:World) (laws:List Law) (s:St) (wd rd:List Deed) (LA CA MA DA WA RA GA:Option Addr) (c0 c1 c2 c3 c4 c5 c6:Nat):Prop where
 laws:Sl w 4 Law.cells LA laws
 kids:Sl w 2 zaW CA s.children
 marr:Sl w 2 zaW MA s.marriages
 dead:Sl w 1 sC DA s.dead
 wills:SlW w 7 zfG WA wd
 ren:SlW w 7 zfG RA rd
 graves:SlW w 5 zij GA s.graves
 deadc:s.dead.length<=c3
def StIn.keep{w W:World}{laws:List Law}{s:St}{wd rd:List Deed}{LA CA MA DA WA RA GA:Option Addr}{c0 c1 c2 c3 c4 c5 c6 n:Nat}(h:StIn w laws s wd rd LA CA MA DA WA RA GA c0 c1 c2 c3 c4 c5 c6)(hB:Below n w W)(hn:w.heap.size<=n:=by first|exact Qc|omega):StIn W laws s wd rd LA CA MA DA WA RA GA c0 c1 c2 c3 c4 c5 c6:=
 ⟨h.laws.keep hB hn,h.kids.keep hB hn,h.marr.keep hB hn,h.dead.keep hB hn,h.wills.keep zbS hB hn,h.ren.keep zbS hB hn,h.graves.keep zfP hB hn,h.deadc⟩
structure StLink (s:St) (wd rd:List Deed):Prop where
 wills:s.wills=wd.map λd=>(d.frm,zaq d.to)
 shares:∀d∈wd,∀p∈d.to,za8 16 p.num p.den=true
 ren:s.renounce=rd.map λd=>(d.frm,zbh d)
 tos:∀d∈rd,d.to≠[]
structure StFew (s:St) (wd rd:List Deed):Prop where
 kids:s.children.length<=1000
 marr:s.marriages.length<=1000
 dead:s.dead.length<=1000
 wills:wd.length<=1000
 ren:rd.length<=1000
 graves:s.graves.length<=1000
section
variable {laws:List Law} {s:St} {wd rd:List Deed} {LA CA MA DA WA RA GA:Option Addr} {c0 c1 c2 c3 c4 c5 c6:Nat}
def sAble(n frm:ByteArray)(w:World)(h:StIn w laws s wd rd LA CA MA DA WA RA GA c0 c1 c2 c3 c4 c5 c6)(hk:StLink s wd rd)(hf:StFew s wd rd):Calls Tryz.prog 188 #[.agg #[.slice LA laws.length c0,.slice CA s.children.length c1,.slice MA s.marriages.length c2,.slice DA s.dead.length c3,.slice WA wd.length c4,.slice RA rd.length c5,.slice GA s.graves.length c6],.string n,.string frm] w (Ret w (.bool (zdY s n frm))):=by
 rw[<-ableR_eq s rd hk.ren];exact rAble_any rd s.dead n frm LA CA MA DA WA RA GA laws.length c0 s.children.length c1 s.marriages.length c2 s.dead.length c3 wd.length c4 rd.length c5 s.graves.length c6 w (by have:=hf.ren;omega) hk.tos h.ren MeW h.deadc h.dead
def sDead(n:ByteArray)(w:World)(h:StIn w laws s wd rd LA CA MA DA WA RA GA c0 c1 c2 c3 c4 c5 c6)(hf:StFew s wd rd):Calls Tryz.prog 137 #[.agg #[.slice LA laws.length c0,.slice CA s.children.length c1,.slice MA s.marriages.length c2,.slice DA s.dead.length c3,.slice WA wd.length c4,.slice RA rd.length c5,.slice GA s.graves.length c6],.string n] w (Ret w (.bool (zaN s n))):=
 zeH s.dead n LA CA MA DA WA RA GA laws.length c0 s.children.length c1 s.marriages.length c2 s.dead.length c3 wd.length c4 rd.length c5 s.graves.length c6 w MeW h.deadc h.dead
def sKids(n:ByteArray)(w:World)(h:StIn w laws s wd rd LA CA MA DA WA RA GA c0 c1 c2 c3 c4 c5 c6)(hf:StFew s wd rd):Calls Tryz.prog 169 #[.agg #[.slice LA laws.length c0,.slice CA s.children.length c1,.slice MA s.marriages.length c2,.slice DA s.dead.length c3,.slice WA wd.length c4,.slice RA rd.length c5,.slice GA s.graves.length c6],.string n] w (zd2 w (zaj s n)):=
 zg8 s.children n LA CA MA DA WA RA GA laws.length c0 s.children.length c1 s.marriages.length c2 s.dead.length c3 wd.length c4 rd.length c5 s.graves.length c6 w (by have:=hf.kids;omega) h.kids
def sSpouse(n:ByteArray)(w:World)(h:StIn w laws s wd rd LA CA MA DA WA RA GA c0 c1 c2 c3 c4 c5 c6)(hf:StFew s wd rd):Calls Tryz.prog 171 #[.agg #[.slice LA laws.length c0,.slice CA s.children.length c1,.slice MA s.marriages.length c2,.slice DA s.dead.length c3,.slice WA wd.length c4,.slice RA rd.length c5,.slice GA s.graves.length c6],.string n] w (Ret w (.string (zaK s n))):=by
 rw[<-zpx];exact znw s.marriages s.dead n LA CA MA DA WA RA GA laws.length c0 s.children.length c1 s.marriages.length c2 s.dead.length c3 wd.length c4 rd.length c5 s.graves.length c6 w (by have:=hf.marr;omega) h.marr MeW h.deadc h.dead
def zki(place:ByteArray)(day:Int)(w:World)(h:StIn w laws s wd rd LA CA MA DA WA RA GA c0 c1 c2 c3 c4 c5 c6)(hf:StFew s wd rd):Calls Tryz.prog 59 #[.agg #[.slice LA laws.length c0,.slice CA s.children.length c1,.slice MA s.marriages.length c2,.slice DA s.dead.length c3,.slice WA wd.length c4,.slice RA rd.length c5,.slice GA s.graves.length c6],.string place,.int .i64 day] w (Ret w (.int .i64 (zkF s.graves place day))):=
 zpo s.graves place day LA CA MA DA WA RA GA laws.length c0 s.children.length c1 s.marriages.length c2 s.dead.length c3 wd.length c4 rd.length c5 s.graves.length c6 w (by have:=hf.graves;omega) h.graves
def sDesc(n:ByteArray)(w:World)(h:StIn w laws s wd rd LA CA MA DA WA RA GA c0 c1 c2 c3 c4 c5 c6)(hf:StFew s wd rd):Calls Tryz.prog 170 #[.agg #[.slice LA laws.length c0,.slice CA s.children.length c1,.slice MA s.marriages.length c2,.slice DA s.dead.length c3,.slice WA wd.length c4,.slice RA rd.length c5,.slice GA s.graves.length c6],.string n] w (DescR w s.children n):=
 rDesc_any s.children n LA CA MA DA WA RA GA laws.length c0 s.children.length c1 s.marriages.length c2 s.dead.length c3 wd.length c4 rd.length c5 s.graves.length c6 w hf.kids h.kids
def zm2(l:List RPart)(A:Option Addr)(c:Nat)(w:World)(h:StIn w laws s wd rd LA CA MA DA WA RA GA c0 c1 c2 c3 c4 c5 c6)(hf:StFew s wd rd)(hl:l.length<=1000000)(hS:Sl w 3 RPart.cells A l):Calls Tryz.prog 158 #[.agg #[.slice LA laws.length c0,.slice CA s.children.length c1,.slice MA s.marriages.length c2,.slice DA s.dead.length c3,.slice WA wd.length c4,.slice RA rd.length c5,.slice GA s.graves.length c6],.slice A l.length c] w (Ret w (.bool (zdZ s l))):=
 zkG l A c s.dead LA CA MA DA WA RA GA laws.length c0 s.children.length c1 s.marriages.length c2 s.dead.length c3 wd.length c4 rd.length c5 s.graves.length c6 w hl hS MeW h.deadc h.dead
end
def zd6(s:St)(stems:Bool)(frm:ByteArray):Nat->ByteArray->List ByteArray
 |0,_=>[]
 |f+1,n=>(zaj s n).filter λc=>(zcV s stems frm f c).isSome
def zgI{α β:Type}(g:α->Option β):∀l:List α,(l.filterMap g).length=(l.filter λx=>(g x).isSome).length
 | []=>rfl
 |x::l=>by
  have ih:=zgI g l;cases hg:g x
  ·rw[List.filterMap_cons_none hg,List.filter_cons_of_neg (by simp[hg]),ih]
  ·rw[List.filterMap_cons_some hg,List.filter_cons_of_pos (by simp[hg]),List.length_cons,List.length_cons,ih]
def zgJ(s:St)(stems:Bool)(frm:ByteArray):∀(f:Nat) (n:ByteArray),(zb6 s stems frm f n).length=(zd6 s stems frm f n).length
 |0,_=>rfl
 |f+1,n=>by rw[zf9,zgI];rfl
variable{α:Type}
def znI(p:α->Bool)(l:List α)(h:k<l.length):(l.take (k+1)).filter p=(l.take k).filter p++if p l[k]then[l[k]]else[]:=by
 rw[List.take_add_one,List.getElem?_eq_getElem h,List.filter_append];simp only[Option.toList_some,List.filter_cons,List.filter_nil]
def rLeads_of(laws:List Law)(s:St)(wd rd:List Deed)(LA CA MA DA WA RA GA:Option Addr)(c0 c1 c2 c3 c4 c5 c6:Nat)(law:Law)(frm:ByteArray)(hk:StLink s wd rd)(hf:StFew s wd rd)(f:Nat)(n:ByteArray)(w:World)(h:StIn w laws s wd rd LA CA MA DA WA RA GA c0 c1 c2 c3 c4 c5 c6)
 (IH:∀W,Qa w W->Calls Tryz.prog 189 #[.agg #[.slice LA laws.length c0,.slice CA s.children.length c1,.slice MA s.marriages.length c2,.slice DA s.dead.length c3,.slice WA wd.length c4,.slice RA rd.length c5,.slice GA s.graves.length c6],law.v,.string n,.string frm] W (zd2 W (zd6 s law.stems frm f n))):
 Calls Tryz.prog 211 #[.agg #[.slice LA laws.length c0,.slice CA s.children.length c1,.slice MA s.marriages.length c2,.slice DA s.dead.length c3,.slice WA wd.length c4,.slice RA rd.length c5,.slice GA s.graves.length c6],law.v,.string n,.string frm] w (Ret w (.bool (zcV s law.stems frm f n).isSome)):=by
 have fP:=zHi (λW (hB:Qa w W)=>sAble n frm W (h.keep hB) hk hf);have dM:(zcV s law.stems frm f n).isSome=(zdY s n frm||law.stems&&decide (0<(zd6 s law.stems frm f n).length)):=by
  rw[<-zgJ];unfold zcV;cases zdY s n frm
  ·cases law.stems
   ·rfl
   ·cases zb6 s true frm f n<;>rfl
  ·rfl
 rw[dM];unfold Law.v at IH⊢;generalize zdY s n frm=ab at*;generalize zd6 s law.stems frm f n=ls at*;have J1:=zHi IH;clear dM IH h;go_enter Tryz.func211,Tryz.ntmps211
 go_upto_region 1 with fail
 obtain⟨W0,am⟩:=Qd ((w.alloc (.cells #[.slice LA laws.length c0,.slice CA s.children.length c1,.slice MA s.marriages.length c2,.slice DA s.dead.length c3,.slice WA wd.length c4,.slice RA rd.length c5,.slice GA s.graves.length c6] 86)).alloc (.cells #[.int .i64 law.frm,.bool law.stems,.int .i64 law.num,.int .i64 law.den] 94))
 have g0:W0.heap[w.heap.size]?=some (.cells #[.slice LA laws.length c0,.slice CA s.children.length c1,.slice MA s.marriages.length c2,.slice DA s.dead.length c3,.slice WA wd.length c4,.slice RA rd.length c5,.slice GA s.graves.length c6] 86):=by rw[am];exact zal (zas _ _ _ rfl)
 have g1:W0.heap[w.heap.size+1]?=some (.cells #[.int .i64 law.frm,.bool law.stems,.int .i64 law.num,.int .i64 law.den] 94):=by rw[am];exact zas _ _ _ McV
 have aO:Qa w W0:=Mdz;rw[<-am];clear am;obtain⟨d0,d1,d2,d3,d4,d5,d6⟩:=zaG g0;obtain⟨e0,e1,e2,e3⟩:=cF4 g1;have l0:=zab g0;have l1:=zab g1;have ay:=aO.size;have ak:=zHi aO;clear aO g0 g1;cases ab
 ·generalize law.stems=st at*;cases st
  ·exact Ma1
  ·go_upto_region 5 with(go_at_call 188;go_must(refine(fP.o _ MdJ).mono ?_);rintro e wq ⟨rfl,z,rfl⟩)
   by_cases hz:0<ls.length
   ·have jp:(0:Int)<(ls.length:Int):=McS;exact Mal
   ·have jp:¬(0:Int)<(ls.length:Int):=McS;exact Mal
 ·exact Ma1
def zht(laws:List Law)(s:St)(wd rd:List Deed)(LA CA MA DA WA RA GA:Option Addr)(c0 c1 c2 c3 c4 c5 c6:Nat)(law:Law)(frm:ByteArray)(hk:StLink s wd rd)(hf:StFew s wd rd):∀(f:Nat) (n:ByteArray) (w:World),StIn w laws s wd rd LA CA MA DA WA RA GA c0 c1 c2 c3 c4 c5 c6->Deep s f n->
 Calls Tryz.prog 189 #[.agg #[.slice LA laws.length c0,.slice CA s.children.length c1,.slice MA s.marriages.length c2,.slice DA s.dead.length c3,.slice WA wd.length c4,.slice RA rd.length c5,.slice GA s.graves.length c6],law.v,.string n,.string frm] w (zd2 w (zd6 s law.stems frm f n))
 |0,n,w,_,hd=>hd.elim
 |f+1,n,w,h,hd=>by
  obtain⟨BR,ky⟩:=yH2 (λ(c:ByteArray) (W:World) (hc:c∈zaj s n) (hB:Qa w W)=>rLeads_of laws s wd rd LA CA MA DA WA RA GA c0 c1 c2 c3 c4 c5 c6 law frm hk hf f c W (h.keep hB) λW' fJ=>zht laws s wd rd LA CA MA DA WA RA GA c0 c1 c2 c3 c4 c5 c6 law frm hk hf f c W' ((h.keep hB).keep fJ) (hd c hc)) (λW (hB:Qa w W)=>sKids n W (h.keep hB) hf);have cf:(zaj s n).length<=1000:=Nat.le_trans (zib s.children n) hf.kids;rw[show zd6 s law.stems frm (f+1) n=(zaj s n).filter (λc=>(zcV s law.stems frm f c).isSome) from rfl];unfold zd2;unfold Law.v at BR⊢;generalize zaj s n=ks at*;generalize hP:(λc=>(zcV s law.stems frm f c).isSome)=P at*;have Ja:Hid (∀c W,c∈ks->Qa w W->Calls Tryz.prog 211 #[.agg #[.slice LA laws.length c0,.slice CA s.children.length c1,.slice MA s.marriages.length c2,.slice DA s.dead.length c3,.slice WA wd.length c4,.slice RA rd.length c5,.slice GA s.graves.length c6],.agg #[.int .i64 law.frm,.bool law.stems,.int .i64 law.num,.int .i64 law.den],.string c,.string frm] W (Ret W (.bool (P c)))):=zHi (by rw[<-hP];exact BR.o);obtain⟨cM,oF⟩:=yH2 (λk hk=>znI P ks (k:=k) hk) cf;clear hP BR h hd cf;go_enter Tryz.func189,Tryz.ntmps189
  go_upto_region 1 with fail
  obtain⟨W0,am⟩:=Qd ((w.alloc (.cells #[.slice LA laws.length c0,.slice CA s.children.length c1,.slice MA s.marriages.length c2,.slice DA s.dead.length c3,.slice WA wd.length c4,.slice RA rd.length c5,.slice GA s.graves.length c6] 86)).alloc (.cells #[.int .i64 law.frm,.bool law.stems,.int .i64 law.num,.int .i64 law.den] 94))
  have g0:W0.heap[w.heap.size]?=some (.cells #[.slice LA laws.length c0,.slice CA s.children.length c1,.slice MA s.marriages.length c2,.slice DA s.dead.length c3,.slice WA wd.length c4,.slice RA rd.length c5,.slice GA s.graves.length c6] 86):=by rw[am];exact zal (zas _ _ _ rfl)
  have g1:W0.heap[w.heap.size+1]?=some (.cells #[.int .i64 law.frm,.bool law.stems,.int .i64 law.num,.int .i64 law.den] 94):=by rw[am];exact zas _ _ _ McV
  have aO:Qa w W0:=Mdz;rw[<-am];clear am;obtain⟨d0,d1,d2,d3,d4,d5,d6⟩:=zaG g0;have l0:=zab g0;have l1:=zab g1;have ak:=zHi aO;go_upto_region 4 with(go_at_call 169;go_must(refine(ky.o _ MdJ).mono ?_);rintro e w1 ⟨v1,rfl,o1,b1⟩)
  obtain⟨KA,kc,rfl,iH,_⟩:=o1.sl zaB;obtain⟨G0,G1,aL,iA⟩:=yH4 ((b1.block _ l0).trans g0) ((b1.block _ l1).trans g1) (aO.trans (b1.mono aO.size)) iH;have iE:=aL.o.size;have bH:w.heap.size+1<w1.heap.size:=Nat.lt_of_lt_of_le l1 b1.size;clear o1 b1 aO d0 d1 d2 d3 d4 d5 d6 g0 g1 iH ky l0 l1;go_loopw [10,11] (λv i wr=>∃k:Nat,k<=ks.length/\i=.int .i64 k/\OwnS wr w1.heap.size 9 1 sC v ((ks.take k).filter P)/\Qa w1 wr) (λ_ i _=>ks.length-(intOf i).toNat)
  case atStart=>exact⟨0,Nat.zero_le _,rfl,OwnS.nil,Qb⟩
  case round=>
   obtain⟨k,hk,rfl,aa,hB⟩:=hrel;have iR:k<=1000:=by have:=oF.o;omega
   have aM:=hB.size;obtain⟨HO,HB⟩:=yH2 aa hB;by_cases ae:k<ks.length
   ·have aq:=cM.o k ae;have bm:=List.getElem_mem ae;have bx:((ks.take k).filter P).length<=1000:=by
     have h1:=List.length_filter_le P (ks.take k);rw[List.length_take]at h1;have:=oF.o;omega
    generalize(ks.take k).filter P=xs at*;obtain⟨VA,vc,rfl,_,gu⟩:=aa.sl zaB;obtain⟨b,off,rfl,hb,ah⟩:=(iA.o.keep hB).at ae;have aj:=zHi ae;generalize ks[k]=x at*;have i0:wr.cell? ⟨b,off+k,none⟩=some (.string x):=Mdk;obtain⟨d0,d1,d2,d3,d4,d5,d6⟩:=zaG ((hB.block _ McS).trans G0.o);have g1:=(hB.block _ McS).trans G1.o;obtain⟨e0,e1,e2,e3⟩:=cF4 g1;have au:(k:Int)<(ks.length:Int):=McS;have aR:(0:Int)<=(k:Int):=McS;have dw:=zHi bx;have FD:=zHi (aL.o.trans (hB.mono iE));have mA:=zHi (λW (hW:Qa wr W)=>Ja.o x W bm (FD.o.trans (hW.mono FD.o.size)));have cK:w.heap.size<wr.heap.size:=McS;have zE:w.heap.size+1<wr.heap.size:=McS;clear ah ae aa hB bx g1 bm;go_upto_region 6 with fail
    cases hp:P x
    ·have aK:Hid ((ks.take (k+1)).filter P=xs):=by show _=_;rw[aq,hp];simp
     rw[hp]at mA;clear aq hp
     (refine zag McT McT ?_
      repeat(first|go_big_quiet_skip|(go_big_quiet_want;go_big_quiet_op;first|go_big_quiet_on|(apply Exists.intro;refine⟨λ_=>?_,?_⟩;(go_at_call 211;exact quietx (mA.o _ Bw));go_big_quiet_on)))
      refine wpQuiet_nil ?_
      rintro _ ⟨zq,rfl⟩)
     go_wp2_with fail
     go_round
     case rel=>exact⟨k+1,aj.o,by go_num,by rw[aK.o];exact HO.o.keep (n:=wr.heap.size) (zan wr zq),zb2 HB.o zq⟩
     case measure=>have:=aj.o;simp only[intOf];omega
    ·have aK:Hid ((ks.take (k+1)).filter P=xs++[x]):=by show _=_;rw[aq,hp];rfl
     rw[hp]at mA;clear aq hp
     (refine zag McT McT ?_
      repeat(first|go_big_quiet_skip|(go_big_quiet_want;go_big_quiet_op;first|go_big_quiet_on|(apply Exists.intro;refine⟨λ_=>?_,?_⟩;(go_at_call 211;exact quietx (mA.o _ Bw));go_big_quiet_on)))
      refine wpQuiet_nil ?_
      rintro _ ⟨zq,rfl⟩)
     go_wp2_with (at_builtin
                  go_loud(refine zar (v:=.slice VA xs.length vc) (n:=xs.length) (m:=1) rfl _ _ rfl zbL zaB zbK rfl (xs:=xs) (ys:=[x]) (HO.o.keep (n:=wr.heap.size) Bw) rfl rfl rfl (zfW (zas _ _ _ Md8)) Mdr Mdw Mc1 ?_)
                  intro v3 w3 h1 h2 h3;have ax:=Below.grown (B:=w1.heap.size) (a:=w1) (HB.o.trans (Below.mono (B:=wr.heap.size) (zad (zan wr zq) _) aM)) h2 Mc1 (λj hj=>(HO.o.ge j hj).1);obtain⟨H1,aG⟩:=yH2 h1 ax
                  clear h1 h2 h3 ax)
     exact Mao
   ·have au:¬(k:Int)<(ks.length:Int):=McS;rw[List.take_of_length_le McS]at HO aa;obtain⟨VA,vc,rfl,_,_⟩:=aa.sl zaB;clear aa hB;go_wp2_with fail
    go_ret
    exact⟨.slice VA (ks.filter P).length vc,rfl,HO.o.base_le iE,aL.o.trans (HB.o.mono iE)⟩
def zeL(share:Rat)(T:List Tree)(out:Parts):Option Parts:=if bigQ (share*(1/(T.length:Rat)))then none else zbE (share*(1/(T.length:Rat))) T out
def zhB(a:Rat)(n:Nat):a/(n:Rat)=a*(1/(n:Rat)):=by grind
variable{out:Parts}
def tree_node{each:Rat}{l:List Tree}:zeo each (.node l) out=zeL each l out:=by
 rw[zeo,zeL,zhB]
mutual
def zgK{each:Rat}{L:List ByteArray}:∀ {l:List Tree} {out o:Parts},zbE each l out=some o->zc9 L l->zck out L->zck o L
 | [],out,o,h,_,hn=>by
   rw[zbE]at h;cases h;exact hn
 |x::l,out,o,h,hl,hn=>by
  rw[zc9]at hl;rw[zbE]at h;cases ht:zeo each x out with
  |none=>rw[ht]at h;cases h
  |some o1=>
   rw[ht]at h;exact zgK (l:=l) h hl.2 (zjh ht hl.1 hn)
def zjh{each:Rat}{L:List ByteArray}:∀ {x:Tree} {out o:Parts},zeo each x out=some o->zfo L x->zck out L->zck o L
 | .leaf n,out,o,h,hl,hn=>by
   rw[zfo]at hl;rw[zeo]at h;split at h
   ·cases h
   ·cases h;intro p hp;rcases zfa hp with e|hp
    ·rw[e];exact hl
    ·exact hn p hp
 | .node l,out,o,h,hl,hn=>by
   rw[zfo]at hl;rw[zeo]at h;split at h
   ·cases h
   ·exact zgK (l:=l) h hl hn
end
variable{L:List ByteArray}
def zgL(hg:GoodParts out)(h:zck out L):out.length<=L.length:=by
 haveI:DecidableEq ByteArray:=λa b=>Classical.propDecidable _
 have hn:(out.map (·.1)).Nodup:=by
  rw[List.nodup_iff_pairwise_ne,List.pairwise_map];exact hg.asc.imp λh=>zcJ h
 have:=ziQ hn (m:=L) λx hx=>by
  obtain⟨p,hp,rfl⟩:=List.mem_map.1 hx;exact h p hp
 simpa using this
def zji{q:Rat}(h:zck out L)(hn:n∈L):zck (za5 out n q) L:=λp hp=>by
 rcases zfa hp with e|hp
 ·rw[e];exact hn
 ·exact h p hp
def zoA{β:Type}(g:α->Option β):∀(l:List α) (k:Nat) (x:α),(l.filter λx=>(g x).isSome)[k]?=some x->x∈l/\∃t,g x=some t/\(l.filterMap g)[k]?=some t
 | [],k,x,h=>by simp at h
 |y::l,k,x,h=>by
  cases hg:g y with
  |none=>
   rw[List.filter_cons_of_neg (by simp[hg])]at h;rw[List.filterMap_cons_none hg];exact Mb9
  |some t=>
   rw[List.filter_cons_of_pos (by simp[hg])]at h;rw[List.filterMap_cons_some hg];cases k with
   |zero=>
    obtain rfl:y=x:=by simpa using h
    exact⟨by simp,t,hg,rfl⟩
   |succ k=>
    exact Mb9
structure Hd (out:Parts) (L:List ByteArray):Prop where
 good:GoodParts out
 small:zaE out=false
 names:zck out L
def Hd.parts(h:Hd out L)(hs:sumQ out<=1):∀p∈out,zaJ p.2:=λp hp=>(zdK (hs:=out) ⟨h.good,h.small,hs⟩ hp).2.2
def SprPost(w:World)(R:Option Parts)(e:Ending)(w':World):Prop:=
 ∃(A:Option Addr) (c:Nat) (xs:Parts),e=.returned (.slice A xs.length c)/\Sl w' 3 zaa A xs/\Qa w w'/\xs.length<=100000/\(R=some xs\/(R=none/\zaE xs=true))
def zkj{L:List ByteArray}:∀ {T:List Tree},zc9 L T->∀t∈T,zfo L t
 | [],_,t,ht=>by cases ht
 |x::T,h,t,ht=>by
  rw[zc9]at h;rcases List.mem_cons.1 ht with rfl|ht
  ·exact h.1
  ·exact zkj h.2 t ht
def zjj(laws:List Law)(s:St)(wd rd:List Deed)(LA CA MA DA WA RA GA:Option Addr)(c0 c1 c2 c3 c4 c5 c6:Nat)(law:Law)(frm:ByteArray)(L:List ByteArray)(hk:StLink s wd rd)(hf:StFew s wd rd)(hL:∀c∈s.children,c.2∈L)(um:L.length<=90000):
 ∀(f:Nat) (n:ByteArray) (share:Rat) (A:Option Addr) (c:Nat) (out:Parts) (w:World),StIn w laws s wd rd LA CA MA DA WA RA GA c0 c1 c2 c3 c4 c5 c6->Deep s f n->Sl w 3 zaa A out->Hd out L->0<=share->zaJ share->sumQ out+share<=1->0<(zd6 s law.stems frm f n).length->
 Calls Tryz.prog 190 #[.agg #[.slice LA laws.length c0,.slice CA s.children.length c1,.slice MA s.marriages.length c2,.slice DA s.dead.length c3,.slice WA wd.length c4,.slice RA rd.length c5,.slice GA s.graves.length c6],law.v,.string n,.string frm,zaA share,.slice A out.length c] w (SprPost w (zeL share (zb6 s law.stems frm f n) out))
 |0,n,_,_,_,_,w,_,hd,_,_,_,_,_,_=>hd.elim
 |f+1,n,share,A,c,out,w,h,hd,hS,hH,ay,tw,dS,ai=>by
  obtain⟨dh,fP,rv⟩:=yH3 (λW (hB:Qa w W)=>zht laws s wd rd LA CA MA DA WA RA GA c0 c1 c2 c3 c4 c5 c6 law frm hk hf (f+1) n W (h.keep hB) hd) (λx W (hB:Qa w W)=>sAble x frm W (h.keep hB) hk hf) (λ(x:ByteArray) (hx:x∈zaj s n) (share:Rat) (A:Option Addr) (c:Nat) (out:Parts) (W:World) (hB:Qa w W)=>zjj laws s wd rd LA CA MA DA WA RA GA c0 c1 c2 c3 c4 c5 c6 law frm L hk hf hL um f x share A c out W (h.keep hB) (hd x hx));have g9:=zgJ s law.stems frm (f+1) n;have cf:(zd6 s law.stems frm (f+1) n).length<=1000:=Nat.le_trans (List.length_filter_le _ _) (Nat.le_trans (zib s.children n) hf.kids);have im:=λk x hx=>zoA (zcV s law.stems frm f) (zaj s n) k x hx
  rw[<-show zd6 s law.stems frm (f+1) n=(zaj s n).filter (λc=>(zcV s law.stems frm f c).isSome) from rfl,<-zf9]at im;have bE:=zks s law.stems frm (f+1) n;have sY:=zfp (stems:=law.stems) (frm:=frm) hL (f+1) n;unfold zeL;rw[g9];obtain⟨ct,fA,En,I0⟩:=zhW ai;have ny:=zlJ ai cf;have jt:=zHi (λW=>zg0 share (1/((zd6 s law.stems frm (f+1) n).length:Rat)) W tw ny);unfold zaA at jt rv⊢;rw[ct,fA]at jt;have iv:share*(1/((zd6 s law.stems frm (f+1) n).length:Rat))*((zd6 s law.stems frm (f+1) n).length:Rat)=share:=by
   have:=ratN (Nat.pos_iff_ne_zero.1 ai);grind
  have Hc:0<=share*(1/((zd6 s law.stems frm (f+1) n).length:Rat)):=Rat.mul_nonneg ay En;have qg:share*(1/((zd6 s law.stems frm (f+1) n).length:Rat))<=share:=by
   have:=Rat.mul_le_mul_of_nonneg_left I0 ay;rwa [Rat.mul_one]at this
  generalize zd6 s law.stems frm (f+1) n=ls at*;generalize zb6 s law.stems frm (f+1) n=T at*;generalize share*(1/(ls.length:Rat))=each at*;obtain⟨R,hR⟩:∃R,R=if bigQ each then none else zbE each T out:=⟨_,rfl⟩
  rw[<-hR];obtain⟨HR,HS,IA,IY,pQ⟩:=yH5 hR hS im hH Hc;have qB:0<=sumQ out:=zbq λp hp=>by have:=hH.good.pos p hp;grind
  have eX:Hid (each<=1):=by show _<=_;grind
  have u7:Hid (sumQ out+each*(ls.length:Rat)<=1):=by show _<=_;rw[iv];exact dS
  obtain⟨mz,oF,dt,Jb⟩:=yH4 g9 cf bE sY;unfold Law.v at dh rv⊢;unfold SprPost;clear h hd hS hH tw dS g9 cf im bE sY ct fA En I0 ny iv Hc qg hR qB ay;go_enter Tryz.func190,Tryz.ntmps190
  go_upto_region 1 with fail
  obtain⟨W0,am⟩:=Qd (((w.alloc (.cells #[.slice LA laws.length c0,.slice CA s.children.length c1,.slice MA s.marriages.length c2,.slice DA s.dead.length c3,.slice WA wd.length c4,.slice RA rd.length c5,.slice GA s.graves.length c6] 86)).alloc (.cells #[.int .i64 law.frm,.bool law.stems,.int .i64 law.num,.int .i64 law.den] 94)).alloc (.cells #[.int .i64 share.num,.int .i64 share.den] 50))
  have g0:W0.heap[w.heap.size]?=some (.cells #[.slice LA laws.length c0,.slice CA s.children.length c1,.slice MA s.marriages.length c2,.slice DA s.dead.length c3,.slice WA wd.length c4,.slice RA rd.length c5,.slice GA s.graves.length c6] 86):=MdS;have g1:W0.heap[w.heap.size+1]?=some (.cells #[.int .i64 law.frm,.bool law.stems,.int .i64 law.num,.int .i64 law.den] 94):=by rw[am];exact zal (zas _ _ _ McV)
  have g2:W0.heap[w.heap.size+2]?=some (.cells #[.int .i64 share.num,.int .i64 share.den] 50):=by rw[am];exact zas _ _ _ McV
  have aO:Qa w W0:=Mdz;rw[<-am];clear am;have l2:=zab g2;have ak:=zHi aO;have mI:=aO.size
  have av:=zHi (λW (hB:Qa W0 W)=>(show(W.cell? ⟨w.heap.size,0,none⟩=some (.slice LA laws.length c0)/\W.cell? ⟨w.heap.size,1,none⟩=some (.slice CA s.children.length c1)/\W.cell? ⟨w.heap.size,2,none⟩=some (.slice MA s.marriages.length c2)/\W.cell? ⟨w.heap.size,3,none⟩=some (.slice DA s.dead.length c3)/\W.cell? ⟨w.heap.size,4,none⟩=some (.slice WA wd.length c4)/\W.cell? ⟨w.heap.size,5,none⟩=some (.slice RA rd.length c5)/\W.cell? ⟨w.heap.size,6,none⟩=some (.slice GA s.graves.length c6))/\(W.cell? ⟨w.heap.size+1,0,none⟩=some (.int .i64 law.frm)/\W.cell? ⟨w.heap.size+1,1,none⟩=some (.bool law.stems)/\W.cell? ⟨w.heap.size+1,2,none⟩=some (.int .i64 law.num)/\W.cell? ⟨w.heap.size+1,3,none⟩=some (.int .i64 law.den))/\(W.cell? ⟨w.heap.size+2,0,none⟩=some (.int .i64 share.num)/\W.cell? ⟨w.heap.size+2,1,none⟩=some (.int .i64 share.den)) from by
   have x0:=(hB.block _ McS).trans g0;have x1:=(hB.block _ McS).trans g1;have x2:=(hB.block _ l2).trans g2
   refine⟨zaG x0,⟨?_,?_,?_,?_⟩,zbx x2⟩<;>(simp only[World.cell?,x1];rfl)))
  obtain⟨⟨d0,d1,d2,d3,d4,d5,d6⟩,⟨e0,e1,e2,e3⟩,q0,q1⟩:=av.o W0 Qb;clear g0 g1 g2 aO;go_upto_region 3 with(go_at_call 189;go_must(refine(dh.o _ MdJ).mono ?_);rintro e w1 ⟨v1,rfl,o1,b1⟩)
  obtain⟨KA,kc,rfl,iH,_⟩:=o1.sl zaB;obtain⟨aL,iA⟩:=yH2 b1 iH;have iE:=b1.size;clear o1 b1 iH dh d0 d1 d2 d3 d4 d5 d6 e0 e1 e2 e3 q0 q1;go_loopw [5,14,15] (λv i _ wr=>∃(k:Nat) (ys:Parts) (YA:Option Addr) (yc:Nat),k<=ls.length/\v=.slice YA ys.length yc/\i=.int .i64 k/\Hid (R=if bigQ each then none else zbE each (T.drop k) ys)/\Hid (Hd ys L)/\Hid (sumQ ys+each*((ls.length-k:Nat):Rat)<=1)/\(0<k->bigQ each=false)/\Sl wr 3 zaa YA ys/\Qa w1 wr) (λ_ i _ _=>ls.length-(intOf i).toNat)
  case atStart=>exact⟨0,out,A,c,Nat.zero_le _,rfl,rfl,zHi (by rw[List.drop_zero];exact HR.o),IY,zHi (by rw[Nat.sub_zero];exact u7.o),λh=>absurd h McS,(HS.o.keep ak.o).keep aL.o,Qb⟩
  case round=>
   obtain⟨k,zs,ZA,zc,hk,rfl,rfl,HX,HZ,Aj,io,hZ,hB⟩:=hrel;have iR:k<=1000:=by have:=oF.o;omega
   have aM:=hB.size;obtain⟨HB,Cz⟩:=yH2 hB hZ;have cB:=aL.o.trans (hB.mono iE);by_cases ae:k<ls.length
   ·obtain⟨uQ,t,cF,fD⟩:=IA.o k ls[k] (List.getElem?_eq_getElem ae);obtain⟨b,off,rfl,hb,ah⟩:=(iA.o.keep hB).at ae;generalize ls[k]=x at*;have i0:wr.cell? ⟨b,off+k,none⟩=some (.string x):=Mdk;have pH:t∈T:=List.mem_of_getElem? fD;have i8:T.drop k=t::T.drop (k+1):=by
     have h1:=(List.getElem?_eq_some_iff.1 fD)
     rw[List.drop_eq_getElem_cons h1.1,h1.2]
    have mU:((ls.length-k:Nat):Rat)=((ls.length-(k+1):Nat):Rat)+1:=by
     rw[show ls.length-k=(ls.length-(k+1))+1 by omega];exact zg2 _
    have ix:0<=each*((ls.length-(k+1):Nat):Rat):=Rat.mul_nonneg pQ.o Rat.natCast_nonneg;have zM:sumQ zs+each<=1:=by have:=Aj.o;rw[mU]at this;grind
    have hx:=HX.o;rw[i8,zbE]at hx;obtain⟨R1,wQ⟩:=Qd (zeo each t zs)
    rw[<-wQ]at hx
    have kA:Hid (∀ys,R1=some ys->bigQ each=false->Hid (R=if bigQ each then none else zbE each (T.drop (k+1)) ys)/\Hid (Hd ys L)/\Hid (sumQ ys+each*((ls.length-(k+1):Nat):Rat)<=1)):=zHi (λys h1 h2=>by
     rw[wQ]at h1;have hg:=ziq pQ.o HZ.o.good HZ.o.small h1;refine⟨zHi (by rw[hx,wQ,h1];rfl),zHi ⟨hg.1,hg.2,zjh h1 (zkj Jb.o t pH) HZ.o.names⟩,zHi ?_⟩;have h3:=zod (zmJ.1 dt.o t pH) h1;have h4:=Aj.o;rw[mU]at h4;rw[h3]
     grind)
    have nP:Hid (R1=none->R=none):=zHi (λh1=>by rw[hx,h1];split<;>rfl);have au:(k:Int)<(ls.length:Int):=McS;have aR:(0:Int)<=(k:Int):=McS;obtain⟨⟨d0,d1,d2,d3,d4,d5,d6⟩,⟨e0,e1,e2,e3⟩,q0,q1⟩:=av.o wr cB;have zE:w.heap.size+2<wr.heap.size:=McS;obtain⟨aj,bw,lB,ke,Ah,bk⟩:=yH6 ae uQ cF wQ zM cB;clear ah hB hZ hx i8 mU ix zM pH fD cF wQ uQ cB ae;go_upto_region 6 with(go_at_call 163;go_must(refine(jt.o _).mono ?_);rintro e wq ⟨rfl,z,rfl⟩)
    obtain⟨E,hE⟩:=Qd (wr.heap.size+z.os.size)
    obtain⟨WE,AF⟩:=Qd ((wr.ext z).alloc (.cells #[.int .i64 each.num,.int .i64 each.den] 50))
    have gE:WE.heap[E]?=some (.cells #[.int .i64 each.num,.int .i64 each.den] 50):=by rw[AF];exact zas _ _ _ (by rw[hE];simp[zaf])
    have sx:Qa wr WE:=by rw[AF];exact zad (zan wr z) _
    rw[<-AF,<-hE];clear AF hE d0 d1 d2 d3 d4 d5 d6 e0 e1 e2 e3 q0 q1;obtain⟨v0,v1⟩:=zbx gE;have G9:=sx.size;have G8:=zab gE
    have bZ:=zHi (λW (h:Qa WE W)=>(show((W.cell? ⟨w.heap.size,0,none⟩=some (.slice LA laws.length c0)/\W.cell? ⟨w.heap.size,1,none⟩=some (.slice CA s.children.length c1)/\W.cell? ⟨w.heap.size,2,none⟩=some (.slice MA s.marriages.length c2)/\W.cell? ⟨w.heap.size,3,none⟩=some (.slice DA s.dead.length c3)/\W.cell? ⟨w.heap.size,4,none⟩=some (.slice WA wd.length c4)/\W.cell? ⟨w.heap.size,5,none⟩=some (.slice RA rd.length c5)/\W.cell? ⟨w.heap.size,6,none⟩=some (.slice GA s.graves.length c6))/\(W.cell? ⟨w.heap.size+1,0,none⟩=some (.int .i64 law.frm)/\W.cell? ⟨w.heap.size+1,1,none⟩=some (.bool law.stems)/\W.cell? ⟨w.heap.size+1,2,none⟩=some (.int .i64 law.num)/\W.cell? ⟨w.heap.size+1,3,none⟩=some (.int .i64 law.den))/\W.cell? ⟨b,off+k,none⟩=some (.string x)/\W.cell? ⟨E,0,none⟩=some (.int .i64 each.num)/\W.cell? ⟨E,1,none⟩=some (.int .i64 each.den)) from by
     have hw:=av.o W (bk.o.trans ((sx.trans (h.mono G9)).mono bk.o.size))
     exact⟨hw.1,hw.2.1,(zai (sx.trans (h.mono G9)) hb).trans i0,(zai h G8).trans v0,(zai h G8).trans v1⟩))
    obtain⟨qK,me,FL⟩:=yH3 (HB.o.trans (sx.mono aM)) (bk.o.trans (sx.mono bk.o.size)) (Cz.o.keep sx);clear gE sx i0 Cz;by_cases hbig:bigQ each=true
    ·have dA:1000000000<(each.den:Int):=by unfold bigQ at hbig;simpa using hbig
     have pW:Hid (R=none):=by show _=_;rw[HX.o,if_pos hbig]
     have IC:=zHi hbig;clear hbig;go_wp2_with fail
     go_ret
     exact⟨_,_,[((⟨#[]⟩:ByteArray),each)],rfl,zdf (zas _ _ _ rfl),ak.o.trans ((zad me.o _).mono mI),by simp,.inr ⟨pW.o,by simp[zaE,IC.o]⟩⟩
    ·have kK:bigQ each=false:=by simpa using hbig
     have dA:¬1000000000<(each.den:Int):=by unfold bigQ at kK;simpa using kK
     have Ih:=zca pQ.o eX.o kK;obtain⟨vK,Br,Ad⟩:=yH3 (λys h=>kA.o ys h kK) kK Ih;have kX:=zHi (λW (h:Qa WE W)=>fP.o x W (ak.o.trans ((me.o.trans (h.mono me.o.size)).mono mI)));obtain⟨⟨d0,d1,d2,d3,d4,d5,d6⟩,⟨e0,e1,e2,e3⟩,j0,v0,v1⟩:=bZ.o WE Qb;have hwE:w.heap.size<WE.heap.size:=McS;have KM:b<WE.heap.size:=McS;clear kK hbig Ih kA HX;go_upto_region 8 with fail
     have dM:=lB.o;unfold zcV at dM;cases bL:zdY s x frm
     ·rw[bL]at kX dM;simp only[Bool.false_eq_true,if_false]at dM;have ht:t=.node (zb6 s law.stems frm f x)/\0<(zd6 s law.stems frm f x).length:=by
       split at dM
       ·rename_i h
        cases dM;refine⟨rfl,?_⟩;rw[<-zgJ];rw[Bool.and_eq_true]at h;cases hT:zb6 s law.stems frm f x with
        |nil=>rw[hT]at h;simp at h
        |cons=>simp
       ·cases dM
      have vV:=zHi (λW (h:Qa WE W)=>rv.o x bw.o each ZA zc zs W (ak.o.trans ((me.o.trans (h.mono me.o.size)).mono mI)) (FL.o.keep h) HZ.o pQ.o Ad.o Ah.o ht.2);have gq:R1=zeL each (zb6 s law.stems frm f x) zs:=by rw[ke.o,ht.1,tree_node]
      rw[<-gq]at vV;clear gq ht dM bL
      (refine zag McT McT ?_
       repeat(first|go_big_quiet_skip|(go_big_quiet_want;go_big_quiet_op;first|go_big_quiet_on|(apply Exists.intro;refine⟨λ_=>?_,?_⟩;(go_at_call 188;exact quietx (kX.o _ Bw));go_big_quiet_on)))
       refine wpQuiet_nil ?_
       rintro _ ⟨zq,rfl⟩)
      obtain⟨WQ,oU⟩:=Qd (WE.ext zq)
      have mQ:Qa WE WQ:=MeV;rw[<-oU];clear oU;go_upto_region 10 with fail
      refine za9 9 (λbb w'=>bb=true\/((w'.cell? ⟨w.heap.size,0,none⟩=some (.slice LA laws.length c0)/\w'.cell? ⟨w.heap.size,1,none⟩=some (.slice CA s.children.length c1)/\w'.cell? ⟨w.heap.size,2,none⟩=some (.slice MA s.marriages.length c2)/\w'.cell? ⟨w.heap.size,3,none⟩=some (.slice DA s.dead.length c3)/\w'.cell? ⟨w.heap.size,4,none⟩=some (.slice WA wd.length c4)/\w'.cell? ⟨w.heap.size,5,none⟩=some (.slice RA rd.length c5)/\w'.cell? ⟨w.heap.size,6,none⟩=some (.slice GA s.graves.length c6))/\(w'.cell? ⟨w.heap.size+1,0,none⟩=some (.int .i64 law.frm)/\w'.cell? ⟨w.heap.size+1,1,none⟩=some (.bool law.stems)/\w'.cell? ⟨w.heap.size+1,2,none⟩=some (.int .i64 law.num)/\w'.cell? ⟨w.heap.size+1,3,none⟩=some (.int .i64 law.den))/\w'.cell? ⟨b,off+k,none⟩=some (.string x)/\w'.cell? ⟨E,0,none⟩=some (.int .i64 each.num)/\w'.cell? ⟨E,1,none⟩=some (.int .i64 each.den))) McT (.inr (bZ.o _ (zaF mQ))) ?hrest
      case hrest=>
       intro hHeld;refine TkM 0 ?_;refine TkM 1 ?_;refine TkM 2 ?_;refine TkM 3 ?_;refine TkM 4 ?_;refine TkM 5 ?_;refine TkM 6 ?_;refine TkM 7 ?_;refine TkM 8 ?_;refine OnM 9 true λK hK=>?_
       go_simp
       refine(vV.o _ (zaF mQ)).mono ?_;rintro e w5 ⟨YA,yc,ys,rfl,xb,Dn,KH,KI⟩;refine NxM hK λhHeld=>?_
       clear hK K;refine OnM 10 true λK hK=>?_
       go_simp
       refine NxM hK λhHeld=>?_
       clear hK K;refine zaO McT ?_ _;clear hHeld;obtain⟨Cf,kH⟩:=yH2 KI KH;exact Mz
     ·rw[bL]at kX dM;simp only[if_true]at dM;have ht:t=.leaf x:=by cases dM;rfl
      have zK:=zgL HZ.o.good HZ.o.names;have vV:=zHi (λW (h:Qa WE W)=>zcW zs x each ZA zc W McS (HZ.o.parts (by have:=Ah.o;have:=pQ.o;grind)) Ad.o (FL.o.keep h));have gq:R1=if zaE (za5 zs x each)then none else some (za5 zs x each):=by rw[ke.o,ht,zeo]
      have Cf:Hid (R1=some (za5 zs x each)\/(R1=none/\zaE (za5 zs x each)=true)):=zHi (by
       rw[gq];cases h:zaE (za5 zs x each)
       ·exact .inl rfl
       ·exact .inr ⟨rfl,rfl⟩)
      have kH:Hid ((za5 zs x each).length<=100000):=zHi (by have:=zcz x each zs;omega);generalize za5 zs x each=ys at*;unfold zaA at vV;clear gq ht dM bL zK
      (refine zag McT McT ?_
       repeat(first|go_big_quiet_skip|(go_big_quiet_want;go_big_quiet_op;first|go_big_quiet_on|(apply Exists.intro;refine⟨λ_=>?_,?_⟩;(go_at_call 188;exact quietx (kX.o _ Bw));go_big_quiet_on)))
       refine wpQuiet_nil ?_
       rintro _ ⟨zq,rfl⟩)
      obtain⟨WQ,oU⟩:=Qd (WE.ext zq)
      have mQ:Qa WE WQ:=MeV;rw[<-oU];clear oU;go_upto_region 9 with fail
      refine za9 6 (λbb w'=>bb=true\/((w'.cell? ⟨w.heap.size,0,none⟩=some (.slice LA laws.length c0)/\w'.cell? ⟨w.heap.size,1,none⟩=some (.slice CA s.children.length c1)/\w'.cell? ⟨w.heap.size,2,none⟩=some (.slice MA s.marriages.length c2)/\w'.cell? ⟨w.heap.size,3,none⟩=some (.slice DA s.dead.length c3)/\w'.cell? ⟨w.heap.size,4,none⟩=some (.slice WA wd.length c4)/\w'.cell? ⟨w.heap.size,5,none⟩=some (.slice RA rd.length c5)/\w'.cell? ⟨w.heap.size,6,none⟩=some (.slice GA s.graves.length c6))/\(w'.cell? ⟨w.heap.size+1,0,none⟩=some (.int .i64 law.frm)/\w'.cell? ⟨w.heap.size+1,1,none⟩=some (.bool law.stems)/\w'.cell? ⟨w.heap.size+1,2,none⟩=some (.int .i64 law.num)/\w'.cell? ⟨w.heap.size+1,3,none⟩=some (.int .i64 law.den))/\w'.cell? ⟨b,off+k,none⟩=some (.string x)/\w'.cell? ⟨E,0,none⟩=some (.int .i64 each.num)/\w'.cell? ⟨E,1,none⟩=some (.int .i64 each.den))) McT (.inr (bZ.o _ (zaF mQ))) ?hrest
      case hrest=>
       intro hHeld;refine TkM 0 ?_;refine TkM 1 ?_;refine TkM 2 ?_;refine TkM 3 ?_;refine TkM 4 ?_;refine TkM 5 ?_;refine OnM 6 true λK hK=>?_
       go_simp
       refine(vV.o _ (zaF mQ)).mono ?_;rintro e w5 ⟨v5,rfl,o5,Dn⟩;obtain⟨YA,yc,rfl,xb,_⟩:=o5.sl zak;refine NxM hK λhHeld=>?_
       clear hK K;refine OnM 7 true λK hK=>?_
       go_simp
       refine NxM hK λhHeld=>?_
       clear hK K;refine zaO McT ?_ _;clear hHeld;exact Mz
   ·have au:¬(k:Int)<(ls.length:Int):=McS;have hx:=HX.o;have ph:k=ls.length:=McS;rw[io McS,List.drop_of_length_le (by rw[mz.o];omega),zbE]at hx;have cn:Hid (R=some zs):=Mex;obtain⟨JP,bk⟩:=yH2 (zgL HZ.o.good HZ.o.names) cB;clear hx ph hB hZ cB;go_wp2_with fail
    go_ret
    exact⟨ZA,zc,zs,rfl,Cz.o,ak.o.trans (bk.o.mono mI),by have:=JP.o;omega,.inl cn.o⟩
