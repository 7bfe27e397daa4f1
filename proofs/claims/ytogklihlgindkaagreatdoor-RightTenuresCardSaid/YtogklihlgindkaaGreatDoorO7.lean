import Derived.Test.YtogklihlgindkaaGreatDoorJO
import Derived.Test.YtogklihlgindkaaGreatDoorRD
set_option linter.all false
set_option maxRecDepth 100000
set_option maxHeartbeats 4000000
namespace Go.Proofs.YtogklihlgindkaaGreatDoor
open Go.RowKit
attribute [local go_sem] World.cell?_alloc_mark zaf za3 zam za6 zat zau zav zaw zax zay zaz
attribute [local go_sem] zao zac
section
open Go.Shelf
section
variable {base k:Nat} {W W':World} {B:List Nat} {es:Array MapEntry} {ec:Nat}
def TombAt.keptM{T:Nat}{g:Grave}(h:TombAt W base B T g)(hg:W.grownBy W' (some k))(hx:W.heap[k]?=some (.map es ec)):TombAt W' base B T g:=by
 obtain⟨H,hc,D,dc,fr',t1,t2,t3,t4,t5,t6,t7⟩:=h;exact⟨H,hc,D,dc,fr',(hg.block T (zab t1) (λe=>by simp only[Option.some.injEq]at e;subst e;unfold zbt at t1;rw[t1]at hx;simp at hx)).trans t1,t2,t3,t4,t5.keptM hg hx,t6.keptM hg hx,t7⟩
def TombsAt.keptM{ps:List Nat}{tv:Value}{gs:List Grave}(h:TombsAt base W B tv ps gs)(hg:W.grownBy W' (some k))(hx:W.heap[k]?=some (.map es ec)):TombsAt base W' B tv ps gs:=
 ⟨h.own.keptM hg hx,h.len,h.nd,λi T g e1 e2=>(h.all i T g e1 e2).keptM hg hx⟩
def WldC.keptM{b d c p wl r:Nat}{mv tv:Value}{la co:Int}(h:WldC W b d c p wl r mv tv la co)(hg:W.grownBy W' (some k))(hx:W.heap[k]?=some (.map es ec)):WldC W' b d c p wl r mv tv la co:=
 (hg.block b (zab h) (λe=>by simp only[Option.some.injEq]at e;subst e;unfold WldC at h;rw[h]at hx;simp at hx)).trans h
def RowIs.keptM{m:List (ByteArray×Value)}{n:ByteArray}{xs:List ByteArray}(h:RowIs W base m n xs)(hg:W.grownBy W' (some k))(hx:W.heap[k]?=some (.map es ec)):RowIs W' base m n xs:=by
 rcases h with h|⟨v,h1,h2⟩
 ·exact .inl h
 ·exact .inr ⟨v,h1,h2.keptM hg hx⟩
def WillIs.keptM{m:List (ByteArray×Value)}{n:ByteArray}{xs:Parts}(h:WillIs W m n xs)(hg:W.grownBy W' (some k))(hx:W.heap[k]?=some (.map es ec)):WillIs W' m n xs:=by
 rcases h with h|⟨A,c,h1,h2⟩
 ·exact .inl h
 ·exact .inr ⟨A,c,h1,h2.keptM hg hx⟩
def RowIs.kept{m:List (ByteArray×Value)}{n:ByteArray}{xs:List ByteArray}{cs:Array Value}{t:TypeId}{fr:Nat×Nat}(h:RowIs W base m n xs)(hg:W.grownBy W' (some k))(hx:W.heap[k]?=some (.cells cs t fr))(ht:t≠9):RowIs W' base m n xs:=by
 rcases h with h|⟨v,h1,h2⟩
 ·exact .inl h
 ·exact .inr ⟨v,h1,h2.kept hg hx ht⟩
def WillIs.kept{m:List (ByteArray×Value)}{n:ByteArray}{xs:Parts}{cs:Array Value}{t:TypeId}{fr:Nat×Nat}(h:WillIs W m n xs)(hg:W.grownBy W' (some k))(hx:W.heap[k]?=some (.cells cs t fr))(ht:t≠55):WillIs W' m n xs:=by
 rcases h with h|⟨A,c,h1,h2⟩
 ·exact .inl h
 ·exact .inr ⟨A,c,h1,h2.kept hg hx ht⟩
def zbz{b:Nat}{K V:Type}{ek:K->Value}{ev:V->Value}{m:List (K×V)}(h:MapS W b ek ev m):∃es c,W.heap[b]?=some (.map es c):=by
 obtain⟨es,c,h1,_⟩:=h;exact⟨es,c,h1⟩
variable {d c p wl r:Nat} {mv tv:Value} {s:St}
def ppl_will(h:PplAt base W B d c p wl r mv s)(hg:W.grownBy W' (some wl)){ws:List (ByteArray×Parts)}{m':List (ByteArray×Value)}(h1:MapS W' wl ekS (λv:Value=>v) m')(h2:∀n,WillIs W' m' n (zbv {s with wills:=ws} n)):PplAt base W' B d c p wl r mv {s with wills:=ws}:=by
 obtain⟨mc,mp,k1,k2,k3,k4,k5,k6⟩:=h.rows;obtain⟨m,k7,k8⟩:=h.wills;obtain⟨es,ec,hx⟩:=zbz k7;have cY:=h.nd;simp only[List.nodup_cons,List.mem_cons,List.not_mem_nil,or_false,not_or]at cY;obtain⟨⟨n1,n2,n3,n4⟩,⟨n5,n6,n7⟩,⟨n8,n9⟩,n10,_⟩:=cY;refine⟨h.nd,h.ge,h.dead.grown hg (by simpa using n3),⟨mc,mp,k1.grown hg (by simpa using n6),k2.grown hg (by simpa using n8),λn=>(k3 n).keptM hg hx,λn=>(k4 n).keptM hg hx,k5,k6⟩,h.marr.keptM hg hx,⟨m',h1,h2⟩,h.ren.grown hg (by simpa using λe=>n10 e.symm)⟩
def ppl_ren(h:PplAt base W B d c p wl r mv s)(hg:W.grownBy W' (some r)){rs:List (ByteArray×ByteArray)}(h1:MapS W' r ekP evB (rs.map λx=>(x,true))):PplAt base W' B d c p wl r mv {s with renounce:=rs}:=by
 obtain⟨mc,mp,k1,k2,k3,k4,k5,k6⟩:=h.rows;obtain⟨m,k7,k8⟩:=h.wills;obtain⟨es,ec,hx⟩:=zbz h.ren;have cY:=h.nd;simp only[List.nodup_cons,List.mem_cons,List.not_mem_nil,or_false,not_or]at cY;obtain⟨⟨n1,n2,n3,n4⟩,⟨n5,n6,n7⟩,⟨n8,n9⟩,n10,_⟩:=cY;refine⟨h.nd,h.ge,h.dead.grown hg (by simpa using n4),⟨mc,mp,k1.grown hg (by simpa using n7),k2.grown hg (by simpa using n9),λn=>(k3 n).keptM hg hx,λn=>(k4 n).keptM hg hx,k5,k6⟩,h.marr.keptM hg hx,⟨m,k7.grown hg (by simpa using n10),λn=>(k8 n).keptM hg hx⟩,h1⟩
def ppl_dead(h:PplAt base W B d c p wl r mv s)(hg:W.grownBy W' (some d)){ds:List ByteArray}{gs:List Grave}(h1:MapS W' d ekS evB (ds.map λn=>(n,true))):PplAt base W' B d c p wl r mv {s with dead:=ds,graves:=gs}:=by
 obtain⟨mc,mp,k1,k2,k3,k4,k5,k6⟩:=h.rows;obtain⟨m,k7,k8⟩:=h.wills;obtain⟨es,ec,hx⟩:=zbz h.dead;have cY:=h.nd;simp only[List.nodup_cons,List.mem_cons,List.not_mem_nil,or_false,not_or]at cY;obtain⟨⟨n1,n2,n3,n4⟩,⟨n5,n6,n7⟩,⟨n8,n9⟩,n10,_⟩:=cY;refine⟨h.nd,h.ge,h1,⟨mc,mp,k1.grown hg (by simpa using λe=>n1 e.symm),k2.grown hg (by simpa using λe=>n2 e.symm),λn=>(k3 n).keptM hg hx,λn=>(k4 n).keptM hg hx,k5,k6⟩,h.marr.keptM hg hx,⟨m,k7.grown hg (by simpa using λe=>n3 e.symm),λn=>(k8 n).keptM hg hx⟩,h.ren.grown hg (by simpa using λe=>n4 e.symm)⟩
end
def zkD{K V:Type}{eq:K->K->Bool}{k:K}{v:V}:∀ {m:List (K×V)},mget eq k m=none->mput eq k v m=m++[(k,v)]
 | [],_=>rfl
 |x::m,h=>by
  rw[mget]at h;rw[mput];cases hk:eq k x.1
  ·rw[hk]at h;simp only[Bool.false_eq_true,if_false]at h;rw[if_neg McV,zkD h];rfl
  ·rw[hk]at h;simp at h
def ziP{K:Type}{eq:K->K->Bool}{k:K}:∀ {l:List K},(mget eq k (l.map λx=>(x,true))).getD false=false->mget eq k (l.map λx=>(x,true))=none
 | [],_=>rfl
 |x::l,h=>by
  rw[List.map_cons,mget]at h⊢;cases hk:eq k x
  ·rw[hk]at h;simp only[Bool.false_eq_true,if_false]at h;rw[if_neg McV];exact ziP h
  ·rw[hk]at h;simp at h
def rat_cells{l:List RPart}(h:∀p∈l,za8 16 p.num p.den=true){W:World}{A:Option Addr}(hS:Sl W 3 RPart.cells A l):Sl W 3 zaa A (zaq l):=λhl=>by
 unfold zaq at hl;rw[List.length_map]at hl;obtain⟨b,off,hA,hb,hc⟩:=hS hl;refine⟨b,off,hA,hb,λk x hk j u hu=>?_⟩;unfold zaq at hk;rw[List.getElem?_map]at hk;cases hp:l[k]? with
 |none=>rw[hp]at hk;cases hk
 |some y=>
  rw[hp]at hk;simp only[Option.map_some,Option.some.injEq]at hk;subst hk;have hy:=ziC (h y (List.mem_of_getElem? hp));refine hc k y hp j u ?_;unfold zaa at hu;rw[hy.1,hy.2]at hu;exact hu
def znl{base b k:Nat}{W W':World}{B ps:List Nat}{d c p wl r:Nat}{mv tv:Value}{s':St}{gs:List Grave}{la co:Int}{es:Array MapEntry}{ec:Nat}(hb:base<=b)(hC:WldC W b d c p wl r mv tv la co)(hT:TombsAt base W B tv ps gs)(hg:W.grownBy W' (some k))(hx:W.heap[k]?=some (.map es ec))
 (dD:s'.graves=gs)(hP:PplAt base W' B d c p wl r mv s'):WldAt base W' b s' la co:=
 ⟨B,d,c,p,wl,r,mv,tv,ps,hb,hC.keptM hg hx,hP,by rw[dD];exact hT.keptM hg hx⟩
def wldC_set3{W:World}{b d c p wl r:Nat}{mv tv:Value}{la co:Int}(h:WldC W b d c p wl r mv tv la co)(v':Value):WldC (W.setCell ⟨b,3,none⟩ v') b d c p wl r v' tv la co:=by
 unfold WldC at*;have:=Joins.block_setCell (i:=3) h v';simpa using this
def wld_marry{base b:Nat}{W w1:World}{B ps:List Nat}{d c p wl r:Nat}{mv tv v':Value}{s:St}{ms:List (ByteArray×ByteArray)}{la co:Int}(hb:base<=b)(hC:WldC W b d c p wl r mv tv la co)(hP:PplAt base W B d c p wl r mv s)(hT:TombsAt base W B tv ps s.graves)
 (h1:OwnS w1 base 126 2 zaW v' ms)(h2:W.grownBy w1 (za4 mv)):WldAt base (w1.setCell ⟨b,3,none⟩ v') b {s with marriages:=ms} la co/\WldC w1 b d c p wl r mv tv la co:=by
 have cI:=zab hC;have aa:=hP.marr;have aY:∀k,za4 mv=some k->∃cs fr,W.heap[k]?=some (.cells cs 126 fr):=λk hk=>by
  exact Mbp
 have fW:za4 mv≠some b:=λe=>by
  obtain⟨cs,fr,hx⟩:=aY b e;exact Mcc
 have cS:WldC w1 b d c p wl r mv tv la co:=(h2.block b cI (λe=>fW e.symm)).trans hC;obtain⟨mc,mp,k1,k2,k3,k4,k5,k6⟩:=hP.rows;obtain⟨m,k7,k8⟩:=hP.wills;have aI:=za1 w1 b 3 v';refine⟨⟨B,d,c,p,wl,r,v',tv,ps,hb,wldC_set3 cS v',?_,?_⟩,cS⟩
 ·cases hk:za4 mv with
  |none=>
   rw[hk]at h2;have il:Qa W w1:=⟨h2.os,h2.tape,h2.output,h2.size,λi hi=>h2.block i hi McV⟩
   exact⟨hP.nd,hP.ge,(hP.dead.below il).keptC aI cS,⟨mc,mp,(k1.below il).keptC aI cS,(k2.below il).keptC aI cS,λn=>((k3 n).keep il).kept aI cS McU,λn=>((k4 n).keep il).kept aI cS McU,k5,k6⟩,h1.kept aI cS McU,⟨m,(k7.below il).keptC aI cS,λn=>((k8 n).keep il).kept aI cS McU⟩,(hP.ren.below il).keptC aI cS⟩
  |some k=>
   obtain⟨cs,fr,hx⟩:=aY k hk;rw[hk]at h2;exact⟨hP.nd,hP.ge,(hP.dead.keptC h2 hx).keptC aI cS,⟨mc,mp,(k1.keptC h2 hx).keptC aI cS,(k2.keptC h2 hx).keptC aI cS,λn=>((k3 n).kept h2 hx McU).kept aI cS McU,λn=>((k4 n).kept h2 hx McU).kept aI cS McU,k5,k6⟩,h1.kept aI cS McU,⟨m,(k7.keptC h2 hx).keptC aI cS,λn=>((k8 n).kept h2 hx McU).kept aI cS McU⟩,(hP.ren.keptC h2 hx).keptC aI cS⟩
 ·cases hk:za4 mv with
  |none=>
   rw[hk]at h2;have il:Qa W w1:=⟨h2.os,h2.tape,h2.output,h2.size,λi hi=>h2.block i hi McV⟩
   exact(hT.keep il).kept aI cS McU McU McU McU
  |some k=>
   obtain⟨cs,fr,hx⟩:=aY k hk;rw[hk]at h2;exact(hT.kept h2 hx McU McU McU McU).kept aI cS McU McU McU McU
end
def zlL(out:Parts)(p:ByteArray×Value):Option (ByteArray×Rat):=if 0<zah out p.1 then some (p.1,zah out p.1)else none
def colP(out:Parts)(l:List (ByteArray×Value)):Parts:=l.filterMap (zlL out)
def colP_snoc(out:Parts)(l:List (ByteArray×Value))(p:ByteArray×Value):colP out (l++[p])=colP out l++(zlL out p).toList:=by
 unfold colP;rw[List.filterMap_append];cases h:zlL out p<;>simp[List.filterMap,h]
variable{n:ByteArray}
def zpk{l:Parts}(h:zah l n≠0):(n,zah l n)∈l:=by
 unfold zah at h⊢;cases hf:l.find? (λp=>zae p.1 n)with
 |none=>rw[hf]at h;exact absurd rfl h
 |some p=>
  have h1:=List.mem_of_find?_eq_some hf;have h2:=List.find?_some hf;have h3:p.1=n:=za2.1 h2;rw[<-h3];exact h1
def zpl{l:Parts}(h:GoodParts l):l.Nodup:=by
 refine h.asc.imp λ{a b} bL e=>?_
 rw[e,zeZ]at bL;cases bL
def zo0{out:Parts}(hg:GoodParts out){mm:List (ByteArray×Value)}(cY:(mm.map (·.1)).Nodup)(iP:∀n,(mget eqS n mm=none/\zah out n=0)\/mget eqS n mm=some (zaA (zah out n))):(colP out mm).Perm out:=by
 refine(List.perm_ext_iff_of_nodup ?_ (zpl hg)).2 λa=>?_
 ·unfold colP;have h1:((mm.map (·.1)).filterMap λn=>if 0<zah out n then some (n,zah out n)else none).Nodup:=by
   refine List.Pairwise.filterMap _ ?_ cY;intro a b bL x hx y hy e;split at hx
   ·split at hy
    ·simp only[Option.some.injEq]at hx hy;rw[<-hx,<-hy]at e;exact bL (congrArg Prod.fst e)
    ·cases hy
   ·cases hx
  rw[List.filterMap_map]at h1;exact h1
 ·constructor
  ·intro ha;obtain⟨p,hp,h1⟩:=List.mem_filterMap.1 ha;unfold zlL at h1;split at h1
   ·rename_i h0
    simp only[Option.some.injEq]at h1;rw[<-h1];exact zpk (by intro e;rw[e]at h0;exact absurd h0 McU)
   ·cases h1
  ·intro ha;have h1:=share_mem hg ha;have h2:=hg.pos a ha;have h3:mget eqS a.1 mm=some (zaA (zah out a.1)):=by
    rcases iP a.1 with⟨_,h⟩|h
    ·rw[h1]at h;rw[h]at h2;exact absurd h2 McU
    ·exact h
   refine List.mem_filterMap.2 ⟨_,zdd h3,?_⟩;unfold zlL;rw[h1,if_pos h2]
def UpP(L:Parts):Prop:=L.Pairwise λa b=>zbn b.1 a.1=false
def zlM{ls L:Parts}(h:GoodParts ls)(hp:L.Perm ls)(hs:UpP L):L=ls:=by
 have dQ:L.Pairwise (λx y:ByteArray×Rat=>zbn y.1 x.1=false):=hs;refine List.Perm.eq_of_pairwise (le:=λx y:ByteArray×Rat=>zbn y.1 x.1=false) ?_ dQ ?_ hp
 ·intro a b ha hb h1 h2;have lE:a∈ls:=hp.mem_iff.1 ha;obtain⟨i,hi,rfl⟩:=List.getElem_of_mem lE;obtain⟨j,hj,rfl⟩:=List.getElem_of_mem hb;rcases Nat.lt_trichotomy i j with ed|ed|ed
  ·have:=List.pairwise_iff_getElem.1 h.asc i j hi hj ed;rw[this]at h2;cases h2
  ·subst ed;rfl
  ·have:=List.pairwise_iff_getElem.1 h.asc j i hj hi ed;rw[this]at h1;cases h1
 ·refine h.asc.imp λ{a b} bL=>?_
  exact zjH bL
def zjX{α:Type}{x:α}:∀ {l:List α} {i:Nat},l[i]?=some x->(x::l.eraseIdx i).Perm l
 | [],i,h=>by simp at h
 |y::l,0,h=>by
  simp only[List.getElem?_cons_zero,Option.some.injEq]at h;rw[h];exact List.Perm.refl _
 |y::l,i+1,h=>by
  simp only[List.getElem?_cons_succ]at h;rw[List.eraseIdx_cons_succ];exact(List.Perm.swap y x _).trans (List.Perm.cons y (zjX h))
variable{α:Type}{l:List α}
def done_perm{d m:List α}{i:Nat}{x:α}(h:(d++l).Perm m)(hx:l[i]?=some x):((d++[x])++l.eraseIdx i).Perm m:=by
 rw[List.append_assoc];refine List.Perm.trans ?_ h;exact List.Perm.append_left d (zjX hx)
def zh6(s:St)(frm:ByteArray):∀(a b:Parts) (x:Parts×Bool) (rest:Rat),zdj s frm (a++b) x rest=zdj s frm b (zdj s frm a x rest).1 (zdj s frm a x rest).2
 | [],_,_,_=>rfl
 |p::a,b,x,rest=>by
  rw[List.cons_append,zdj,zdj];split<;>exact zh6 s frm a b _ _
variable{k:Nat}
def will_snoc(s:St)(frm:ByteArray)(l:Parts)(x:Parts×Bool)(rest:Rat)(h:k<l.length):zdj s frm (l.take (k+1)) x rest=
 if zdY s l[k].1 frm then(zcT l[k].1 l[k].2 (zdj s frm (l.take k) x rest).1,(zdj s frm (l.take k) x rest).2-l[k].2)else zdj s frm (l.take k) x rest:=by
 rw[List.take_succ_eq_append_getElem h,zh6,zdj,zdj,zdj]
def zpm(a b:ByteArray):zae a b=zae b a:=by
 rw[Bool.eq_iff_iff,za2,za2];exact⟨Eq.symm,Eq.symm⟩
def zjY(fb sh:Bool)(frm:ByteArray):∀(l seen:List RPart) (L:List ByteArray) (s:Rat),(∀n,L.any (zae n)=seen.any (λq=>zae q.name n))->
 zcp fb sh frm l seen s=if(zdb l L&&l.all (λp=>!(zae p.name frm&&fb)))&&(if sh then l.all (λp=>za8 16 p.num p.den&&p.num != 0)else l.all (λp=>p.num==0&&p.den==0))then some (if sh then s+sumQ (zaq l)else s)else none
 | [],seen,L,s,h=>by
   rw[zcp];cases sh
   ·simp[zdb]
   ·simp[zdb,zaq,sumQ,Rat.add_zero]
 |p::l,seen,L,s,h=>by
  have ih:=λt=>zjY fb sh frm l (seen++[p]) (p.name::L) t (λn=>by
   rw[List.any_cons,List.any_append,h n,List.any_cons,List.any_nil,Bool.or_false,Bool.or_comm,zpm n])
  have hs:sumQ (zaq (p::l))=p.rat+sumQ (zaq l):=rfl;rw[zcp,zdb,h p.name,List.all_cons,List.all_cons,List.all_cons,hs,ih,ih];cases h1:seen.any (λq=>zae q.name p.name)
  ·cases h2:(zae p.name frm&&fb)
   ·simp only[Bool.or_self,Bool.false_eq_true,if_false,Bool.not_false,Bool.true_and];cases sh
    ·simp only[Bool.not_false,if_true,Bool.false_eq_true,if_false];by_cases hz:p.num=0
     ·by_cases hy:p.den=0
      ·simp[hz,hy]
      ·simp[hz,hy]
     ·simp[hz]
    ·simp only[Bool.not_true,if_true,Bool.false_eq_true,if_false];cases h3:za8 16 p.num p.den
     ·simp
     ·by_cases hz:p.num=0
      ·simp[hz]
      ·have e:s+p.rat+sumQ (zaq l)=s+(p.rat+sumQ (zaq l)):=Mdl;simp[hz,e]
   ·simp
  ·simp
def zpn(s:Rat):decide (s.num<=(s.den:Int))=decide (s<=1):=by
 rw[Bool.eq_iff_iff,decide_eq_true_eq,decide_eq_true_eq,Rat.le_iff];simp
def znm(s:Rat):(s.num==(s.den:Int))=(s==1):=by
 rw[Bool.eq_iff_iff,beq_iff_eq,beq_iff_eq];constructor
 ·intro h;have h1:=Rat.num_divInt_den s;rw[h]at h1;rw[<-h1];have:=s.den_pos;rw[Rat.divInt_self'];omega
 ·intro h;rw[h];rfl
def sumOk_eq(fb sh al:Bool)(frm:ByteArray)(l:List RPart)(hf:fb=true\/∀p∈l,zae p.name frm=false):zgW sh al (zcp fb sh frm l [] 0)=zcF sh al frm l:=by
 have h0:∀n:ByteArray,([]:List ByteArray).any (zae n)=([]:List RPart).any (λq=>zae q.name n):=λn=>rfl
 rw[zjY fb sh frm l [] [] 0 h0];have L1:l.all (λp=>!(zae p.name frm&&fb))=l.all (λp=>!zae p.name frm):=by
  rcases hf with hf|hf
  ·subst hf;simp
  ·rw[Bool.eq_iff_iff,List.all_eq_true,List.all_eq_true];exact⟨λ_ p hp=>by rw[hf p hp];rfl,λ_ p hp=>by rw[hf p hp];rfl⟩
 rw[L1];unfold zcF;cases sh
 ·simp only[Bool.false_eq_true,if_false];split
  ·rename_i h;rw[h];rfl
  ·rename_i h
   rw[Bool.not_eq_true]at h;rw[h];rfl
 ·simp only[if_true];split
  ·rename_i h
   rw[Bool.and_eq_true,Bool.and_eq_true]at h;rw[h.1.1,h.1.2,h.2];simp only[zgW,Bool.not_true,Bool.false_or,Bool.true_and,Rat.zero_add,zpn,znm]
  ·rename_i h
   rw[Bool.not_eq_true]at h;simp only[zgW];cases h1:zdb l []<;>cases h2:l.all (λp=>!zae p.name frm)<;>cases h3:l.all (λp=>za8 16 p.num p.den&&p.num != 0)<;>simp_all
def noB_same{a b:ByteArray}(ha:noB a=false)(hb:noB b=true):zae a b=false:=by
 unfold noB at ha hb;unfold zae;cases h:(a.toList==b.toList)
 ·rfl
 ·rw[beq_iff_eq]at h;rw[h,hb]at ha;cases ha
def zhX{f:Form}{frm:ByteArray}{l:List RPart}(hf:f.frm=true\/∀p∈l,zae p.name frm=false):zhy f frm l=if f.parts then(!l.isEmpty&&(f.shares||l.length==1))&&zcF f.shares f.all frm l else l.isEmpty:=by
 unfold zhy;rw[sumOk_eq _ _ _ _ _ hf];cases f.parts
 ·simp
 ·cases l.isEmpty
  ·cases f.shares
   ·by_cases h:l.length=1
    ·simp[h]
    ·simp[h]
   ·simp
  ·simp
def zkE(d:Deed):zdp d=zaH d:=by
 obtain⟨kd,dy,pl,fr,ps,cl,yr⟩:=d;unfold zdp zaH;simp only;split
 ·rfl
 rename_i h1
 split
 ·rfl
 rename_i h2
 split
 ·rfl
 rename_i h3
 have e4:(ps.any λp=>!zaU p.name)=!ps.all λp=>zaU p.name:=by rw[List.not_all_eq_any_not]
 rw[e4];split
 ·rfl
 rename_i h4
 have hn:∀p∈ps,noB p.name=false:=λp hp=>by
  cases ha:(ps.all λp=>zaU p.name)
  ·rw[ha]at h4;simp at h4
  ·exact zgk (List.all_eq_true.1 ha p hp)
 simp only[Bool.not_eq_true',Bool.not_eq_false,zf4]at h1;have hk:kd=0\/kd=1\/kd=2\/kd=3\/kd=4\/kd=5\/kd=6\/kd=7\/kd=8:=McS;have hg:noB fr=true->∀p∈ps,zae p.name fr=false:=λhb p hp=>noB_same (hn p hp) hb
 clear h1 h2 h3 h4 hn e4;have FM:(0:Int)=0:=rfl;rcases hk with rfl|rfl|rfl|rfl|rfl|rfl|rfl|rfl|rfl
 all_goals
  simp only[zfK,zfN,Int.toNat_zero,Int.toNat_one,List.getD_cons_zero,show(2:Int).toNat=2 from rfl,show(3:Int).toNat=3 from rfl,show(4:Int).toNat=4 from rfl,show(5:Int).toNat=5 from rfl,show(6:Int).toNat=6 from rfl,show(7:Int).toNat=7 from rfl,show(8:Int).toNat=8 from rfl,List.getD_cons_succ]
 ·cases hb:noB fr
  ·simp
  ·rw[zhX (f:=⟨_,_,_,_,_,_,_,_⟩) (.inr (hg hb))];cases noB pl<;>cases hy:(yr==0)<;>cases hc:(cl==2)<;>simp
 ·exact Mab
 ·exact Mab
 ·cases hb:noB fr
  ·simp
  ·rw[zhX (f:=⟨_,_,_,_,_,_,_,_⟩) (.inr (hg hb))];cases noB pl<;>cases hy:(yr==0)<;>cases hc:(cl==0)<;>simp_all
 ·exact Mab
 ·exact Mat
 ·exact Mat
 ·exact Mat
 ·exact Mab
open Go.Shelf
def zlN(a b:ByteArray):zae a b=zae b a:=by rw[Bool.eq_iff_iff,za2,za2];exact⟨Eq.symm,Eq.symm⟩
def zd1(xs:List ByteArray)(s:ByteArray)(A:Option Addr)(c:Nat)(w:World)(hl:xs.length<=100000)(hc:xs.length<=c)(hS:Sl w 1 sC A xs):
 Calls Tryz.prog 168 #[.slice A xs.length c,.string s] w (Ret0 w (.bool (xs.any (zae s)))):=by
 have HS:=zHi hS;obtain⟨R,hR⟩:=Qd ((xs.drop 0).any (zae s))
 rw[show xs.any (zae s)=R from by rw[hR];rfl];have HR:=zHi hR;clear hS hR;go_enter Tryz.func168,Tryz.ntmps168
 go_wp2_with fail
 go_loopw [5] (λi wr=>∃j:Nat,j<=xs.length/\i=.int .i64 j/\w=wr/\Hid (R=(xs.drop j).any (zae s))) (λi _=>xs.length-(intOf i).toNat)
 case atStart=>exact⟨0,Nat.zero_le _,rfl,rfl,HR.o⟩
 case round=>
  obtain⟨j,hj,rfl,rfl,HX⟩:=hrel;by_cases ae:j<xs.length
  ·obtain⟨b,off,rfl,hb,ah⟩:=HS.o.at ae;have hx:=HX.o;rw[List.drop_eq_getElem_cons ae,List.any_cons]at hx;obtain⟨aw,aj⟩:=yH2 hx ae;generalize xs[j]=x at*;have x0:w.cell? ⟨b,off+j,none⟩=some (.string x):=Mdk;have bu:(j:Int)<(xs.length:Int):=McS;have oh:(0:Int)<=(j:Int):=McS;clear hx ah ae;cases he:(x.toList==s.toList)
   ·have sJ:zae s x=false:=by rw[zlN];exact he
    have kx:=zHi sJ;clear sJ;go_wp2_with fail
    go_round
    case rel=>exact⟨j+1,aj.o,by go_num,by first|exact True.intro|rfl,by show _=_;rw[aw.o,kx.o,Bool.false_or]⟩
    case measure=>have:=aj.o;simp only[intOf];omega
   ·have sJ:zae s x=true:=by rw[zlN];exact he
    have kx:=zHi sJ;clear sJ;go_wp2_with fail
    go_ret
    exact⟨by rw[aw.o,kx.o,Bool.true_or];rfl,rfl⟩
  ·have kP:¬((j:Int)<(xs.length:Int)):=McS;have hx:=HX.o;rw[List.drop_of_length_le McS,List.any_nil]at hx;have aw:=zHi hx;clear hx;go_wp2_with fail
   go_ret
   exact⟨by rw[aw.o];rfl,rfl⟩
def zeH(dd:List ByteArray)(n:ByteArray)(LA CA MA DA WA RA GA:Option Addr)(n0 c0 n1 c1 n2 c2 n3 c3 n4 c4 n5 c5 n6 c6:Nat)(w:World)(hl:dd.length<=100000)(hc:dd.length<=c3)(hS:Sl w 1 sC DA dd):
 Calls Tryz.prog 137 #[.agg #[.slice LA n0 c0,.slice CA n1 c1,.slice MA n2 c2,.slice DA dd.length c3,.slice WA n4 c4,.slice RA n5 c5,.slice GA n6 c6],.string n] w (Ret w (.bool (dd.any (zae n)))):=by
 have ri:=zHi (λW (h:Qa w W)=>zd1 dd n DA c3 W hl hc (hS.keep h));generalize dd.any (zae n)=R at*;clear hS;go_enter Tryz.func137,Tryz.ntmps137
 go_wp2_with (go_at_call 168;go_must(refine(ri.o _ Bw).mono ?_);rintro e wq ⟨rfl,rfl⟩)
 go_ret
 exact Ret.of rfl Bw
def zdk(cs:List (ByteArray×ByteArray))(n:ByteArray):List ByteArray:=(cs.filter λc=>zae c.1 n).map (·.2)
def kids_snoc{cs:List (ByteArray×ByteArray)}(h:k<cs.length):zdk (cs.take (k+1)) n=zdk (cs.take k) n++(if zae cs[k].1 n then[cs[k].2]else[]):=by
 unfold zdk;rw[List.take_add_one,List.getElem?_eq_getElem h,List.filter_append,List.map_append];simp only[Option.toList_some,List.filter_cons,List.filter_nil];cases zae cs[k].1 n<;>rfl
def zd2(w:World)(xs:List ByteArray)(e:Ending)(w':World):Prop:= ∃v,e=.returned v/\OwnS w' w.heap.size 9 1 sC v xs/\Qa w w'
def zfW{w:World}{b:Nat}{t:TypeId}{fr:Nat×Nat}{x:ByteArray}(h:w.heap[b]?=some (.cells #[.string x] t fr)):Sl w 1 sC (some ⟨b,0,none⟩) [x]:=λ_=>
 ⟨b,0,rfl,zab h,λk y hk j u hu=>by
   match k,hk with
   |0,hk=>
    obtain rfl:x=y:=by simpa using hk
    simp only[World.cell?,h];match j,hu with
    |0,hu=>exact hu⟩
def zg8(cs:List (ByteArray×ByteArray))(n:ByteArray)(LA CA MA DA WA RA GA:Option Addr)(n0 c0 n1 c1 n2 c2 n3 c3 n4 c4 n5 c5 n6 c6:Nat)(w:World)(hl:cs.length<=100000)(hS:Sl w 2 zaW CA cs):
 Calls Tryz.prog 169 #[.agg #[.slice LA n0 c0,.slice CA cs.length c1,.slice MA n2 c2,.slice DA n3 c3,.slice WA n4 c4,.slice RA n5 c5,.slice GA n6 c6],.string n] w (zd2 w (zdk cs n)):=by
 have gK:=zHi hS;unfold zd2;clear hS;go_enter Tryz.func169,Tryz.ntmps169
 go_upto_region 1 with fail
 obtain⟨W0,am⟩:=Qd (w.alloc (.cells #[.slice LA n0 c0,.slice CA cs.length c1,.slice MA n2 c2,.slice DA n3 c3,.slice WA n4 c4,.slice RA n5 c5,.slice GA n6 c6] 86))
 have b0:W0.heap[w.heap.size]?=some (.cells #[.slice LA n0 c0,.slice CA cs.length c1,.slice MA n2 c2,.slice DA n3 c3,.slice WA n4 c4,.slice RA n5 c5,.slice GA n6 c6] 86):=MdK;have aO:Qa w W0:=Mdz;rw[<-am];obtain⟨ak,HS⟩:=yH2 aO (gK.o.keep aO);obtain⟨-,k1⟩:=cF2 b0;have l0:=zab b0;clear am b0 aO gK;go_upto_region 3 with fail
 go_loopw [5,6] (λv i wr=>∃k:Nat,k<=cs.length/\i=.int .i64 k/\OwnS wr W0.heap.size 9 1 sC v (zdk (cs.take k) n)/\Qa W0 wr) (λ_ i _=>cs.length-(intOf i).toNat)
 case atStart=>exact⟨0,Nat.zero_le _,rfl,OwnS.nil,Qb⟩
 case round=>
  obtain⟨k,hk,rfl,aa,hB⟩:=hrel;have aM:=hB.size;obtain⟨HO,HB⟩:=yH2 aa hB;have d1:wr.cell? ⟨w.heap.size,1,none⟩=some (.slice CA cs.length c1):=(zai hB l0).trans k1;by_cases ae:k<cs.length
  ·have aq:=kids_snoc (n:=n) ae;have bx:(zdk (cs.take k) n).length<=100000:=by
    unfold zdk;rw[List.length_map];exact Ma9
   generalize zdk (cs.take k) n=xs at*;obtain⟨VA,vc,rfl,_,gu⟩:=aa.sl zaB;obtain⟨b,off,rfl,hb,ah⟩:=(HS.o.keep hB).at ae;have aj:=zHi ae;generalize cs[k]=x at*;obtain⟨nm,kd⟩:=x;have i0:wr.cell? ⟨b,off+k*2,none⟩=some (.string nm):=ah 0 _ rfl;have i1:wr.cell? ⟨b,off+k*2+1,none⟩=some (.string kd):=ah 1 _ rfl;have au:(k:Int)<(cs.length:Int):=McS;have aR:(0:Int)<=(k:Int):=McS;have dw:=zHi bx;clear ah ae aa hB bx;cases hs:zae nm n
   ·have aK:Hid (zdk (cs.take (k+1)) n=xs):=Meq;have bi:(nm.toList==n.toList)=false:=hs;exact MaW
   ·have aK:Hid (zdk (cs.take (k+1)) n=xs++[kd]):=Meq;have bi:(nm.toList==n.toList)=true:=hs;clear aq hs
    go_wp2_with (at_builtin
                 go_loud(refine zar (v:=.slice VA xs.length vc) (n:=xs.length) (m:=1) rfl _ _ rfl zbL zaB zbK rfl (xs:=xs) (ys:=[kd]) (HO.o.keep (n:=wr.heap.size) Bw) rfl rfl rfl (zfW (zas _ _ _ rfl)) Mdr Mdw McX ?_)
                 intro v3 w3 h1 h2 h3;have ax:=Below.grown (B:=W0.heap.size) (a:=W0) (HB.o.trans (Below.mono (B:=wr.heap.size) (zad Qb _) aM)) h2 McX (λj hj=>(HO.o.ge j hj).1);obtain⟨H1,aG⟩:=yH2 h1 ax
                 clear h1 h2 h3 ax)
    exact Mao
  ·have au:¬(k:Int)<(cs.length:Int):=McS;rw[List.take_of_length_le McS]at HO;clear aa hB;go_wp2_with fail
   go_ret
   exact⟨_,rfl,HO.o.base_le ak.o.size,ak.o.trans (HB.o.mono ak.o.size)⟩
def ixI{α:Type}(p:α->Bool)(l:List α)(k:Nat):Int:=match(l.drop k).findIdx? p with
 |none=> -1
 |some i=>((k+i:Nat):Int)
variable{p:α->Bool}
def ixI_step(h:k<l.length):ixI p l k=if p l[k]then(k:Int)else ixI p l (k+1):=by
 unfold ixI;rw[List.drop_eq_getElem_cons h,List.findIdx?_cons];cases hs:p l[k]
 ·rw[if_neg McV,if_neg McV];cases(l.drop (k+1)).findIdx? p with
  |none=>rfl
  |some i=>
   simp only[Option.map_some];omega
 ·rw[if_pos rfl,if_pos rfl];simp
def ixI_end(h:¬k<l.length):ixI p l k= -1:=by
 unfold ixI;rw[List.drop_of_length_le McS];rfl
def zlO(place:ByteArray)(day:Int)(g:Grave):Bool:=zae g.place place&&zaM g day
def zkF(gs:List Grave)(place:ByteArray)(day:Int):Int:=ixI (zlO place day) gs 0
def zo1(s:St)(place:ByteArray)(day:Int):zkF s.graves place day=match zaL s place day with
 |none=> -1
 |some i=>(i:Int):=by
 unfold zkF ixI zaL;rw[List.drop_zero];show(match s.graves.findIdx? (zlO place day)with|none=>(-1:Int)|some i=>((0+i:Nat):Int))=match s.graves.findIdx? (zlO place day)with|none=>(-1:Int)|some i=>(i:Int)
 cases s.graves.findIdx? (zlO place day)with
 |none=>rfl
 |some i=>simp
def zpo(gs:List Grave)(place:ByteArray)(day:Int)(LA CA MA DA WA RA GA:Option Addr)(n0 c0 n1 c1 n2 c2 n3 c3 n4 c4 n5 c5 n6 c6:Nat)(w:World)(hl:gs.length<=100000)(hS:SlW w 5 zij GA gs):
 Calls Tryz.prog 59 #[.agg #[.slice LA n0 c0,.slice CA n1 c1,.slice MA n2 c2,.slice DA n3 c3,.slice WA n4 c4,.slice RA n5 c5,.slice GA gs.length c6],.string place,.int .i64 day] w (Ret w (.int .i64 (zkF gs place day))):=by
 have gK:=zHi hS;obtain⟨R,hR⟩:=Qd (zkF gs place day)
 rw[<-hR];have HR:=zHi hR;clear hS hR;go_enter Tryz.func59,Tryz.ntmps59
 go_upto_region 1 with fail
 obtain⟨W0,am⟩:=Qd (w.alloc (.cells #[.slice LA n0 c0,.slice CA n1 c1,.slice MA n2 c2,.slice DA n3 c3,.slice WA n4 c4,.slice RA n5 c5,.slice GA gs.length c6] 86))
 have b0:W0.heap[w.heap.size]?=some (.cells #[.slice LA n0 c0,.slice CA n1 c1,.slice MA n2 c2,.slice DA n3 c3,.slice WA n4 c4,.slice RA n5 c5,.slice GA gs.length c6] 86):=MdK;have aO:Qa w W0:=Mdz;rw[<-am];obtain⟨ak,HS⟩:=yH2 aO (gK.o.keep zfP aO);obtain⟨-,-,-,-,-,-,k1⟩:=cF7 b0;have l0:=zab b0;clear am b0 aO gK;go_upto_region 2 with fail
 go_loopw [7,8] (λi _ wr=>∃k:Nat,k<=gs.length/\i=.int .i64 k/\Hid (R=ixI (zlO place day) gs k)/\Qa W0 wr) (λi _ _=>gs.length-(intOf i).toNat)
 case atStart=>exact⟨0,Nat.zero_le _,rfl,HR.o,Qb⟩
 case round=>
  obtain⟨k,hk,rfl,HX,hB⟩:=hrel;have aM:=hB.size;have HB:=zHi hB;have d1:wr.cell? ⟨w.heap.size,6,none⟩=some (.slice GA gs.length c6):=(zai hB l0).trans k1;by_cases ae:k<gs.length
  ·obtain⟨b,off,cs,hA,hb,hr,ah⟩:=(HS.o.keep zfP hB).at ae;have hx:=HX.o;rw[ixI_step ae]at hx;obtain⟨aw,aj⟩:=yH2 hx ae;generalize gs[k]=x at*;obtain⟨H,hc,D,dc,rfl,_,_⟩:=hr;obtain⟨pl,cl,fi,hd,di⟩:=x;subst hA;have i0:=ah 0 _ rfl;have i1:=ah 1 _ rfl;have i2:=ah 2 _ rfl;have i3:=ah 3 _ rfl;have i4:=ah 4 _ rfl;simp only[Nat.add_zero]at i0 i1 i2 i3 i4;have au:(k:Int)<(gs.length:Int):=McS;have aR:(0:Int)<=(k:Int):=McS;clear ah ae hB hx;go_upto_region 5 with fail
   obtain⟨WZ,iI⟩:=Qd (wr.alloc (.cells #[.string pl,.int .i64 cl,.int .i64 fi,.slice H hd.length hc,.slice D di.length dc] 91))
   have a0:WZ.heap[wr.heap.size]?=some (.cells #[.string pl,.int .i64 cl,.int .i64 fi,.slice H hd.length hc,.slice D di.length dc] 91):=by rw[iI];exact zas _ _ _ rfl
   have iF:Qa W0 WZ:=by rw[iI];exact zad HB.o _
   rw[<-iI];have dN:=zHi iF;obtain⟨p0,-,p2,p3⟩:=cF4 a0;clear iI a0 iF i0 i1 i2 i3 i4;cases dJ:zae pl place
   ·have bi:(pl.toList==place.toList)=false:=dJ;exact MU
   ·have bi:(pl.toList==place.toList)=true:=dJ;by_cases hz:0<hd.length
    ·have jo:(0:Int)<(hd.length:Int):=McS;have jp:hd.isEmpty=false:=by cases hd<;>simp_all
     by_cases hf:fi<0
     ·exact MaC
     ·by_cases hy:day<fi
      ·exact MaC
      ·exact MU
    ·have jo:¬(0:Int)<(hd.length:Int):=McS;have jp:hd.isEmpty=true:=by cases hd<;>simp_all
     exact MU
  ·have au:¬(k:Int)<(gs.length:Int):=McS;have HE:Hid (R= -1):=by show _=_;rw[HX.o,ixI_end ae]
   clear hB;go_wp2_with fail
   go_ret
   exact Ret.of (zb7 HE.o.symm) (ak.o.trans (HB.o.mono ak.o.size))
def zhY(w:World):Calls Tryz.prog 129 #[] w (Ret w (.agg #[.int .i64 1,.int .i64 1])):=by
 go_enter Tryz.func129,Tryz.ntmps129
 go_wp2_with fail
 refine bodyPost_ret (v:=.agg #[.int .i64 1,.int .i64 1]) ?_ rfl ?_
 ·exact Mb5
 ·exact Ret.of rfl Bw
def rQuoI(a b c d:Int)(w:World)(ha:a.natAbs<=1000000000)(hb:b.natAbs<=1000000000)(hc:c.natAbs<=1000000000)(hd:d.natAbs<=1000000000)(ba:0<b)(iK:0<d)(jc:0<c):Calls Tryz.prog 167 #[.agg #[.int .i64 a,.int .i64 b],.agg #[.int .i64 c,.int .i64 d]] w (Ret w (zaA (Rat.divInt (a*d) (b*c)))):=by
 have m1:=zaQ ha hd;have m2:=zaQ hc hb;have m3:=zaQ hb hd;have m4:0<b*d:=Int.mul_pos ba iK;obtain⟨m1,n1⟩:=m1;obtain⟨m2,n2⟩:=m2;obtain⟨m3,n3⟩:=m3;have w1:IntKind.i64.wrap (a*d)=a*d:=IntWalk.i64_in _ McS;have w2:IntKind.i64.wrap (c*b)=c*b:=IntWalk.i64_in _ McS;have w3:IntKind.i64.wrap (b*d)=b*d:=IntWalk.i64_in _ McS;have m5:=zaQ ha hc;obtain⟨m5,n5⟩:=m5;have m6:=zaQ hb hc;obtain⟨m6,n6⟩:=m6;have w5:IntKind.i64.wrap (a*c)=a*c:=IntWalk.i64_in _ McS;have w6:IntKind.i64.wrap (b*c)=b*c:=IntWalk.i64_in _ McS;have hs:(a*d).natAbs<=4611686018427387904:=McS;have hl:(b*c)<=4611686018427387904:=McS;have h4:0<(b*c):=Int.mul_pos ba jc;obtain⟨HS,HL,H4⟩:=yH3 hs hl h4;clear hs hl m4 h4 ha hb hc hd;go_enter Tryz.func167,Tryz.ntmps167
 go_wp2_with (go_at_call 183;go_must(refine(zeG _ _ _ HS.o H4.o HL.o).mono ?_);rintro e w1 ⟨rfl,z1,rfl⟩;simp only[zaA])
 refine bodyPost_ret (v:=zaA (Rat.divInt (a*d) (b*c))) ?_ rfl ?_
 ·exact MaI
 ·exact Ret.of rfl Bw
def rQuo_any(p q:Rat)(w:World)(cw:zaJ p)(dR:zaJ q)(h0:0<q):Calls Tryz.prog 167 #[zaA p,zaA q] w (Ret w (zaA (p/q))):=by
 rw[zjD p q h0];exact rQuoI _ _ _ _ _ cw.1 (by have:=cw.2;omega) dR.1 (by have:=dR.2;omega) (zbU p) (zbU q) (by have:=(Rat.lt_iff 0 q).1 h0;simpa using this)
def renT(n frm:ByteArray)(d:Deed):Bool:=zae d.frm n&&zae (zbh d) frm
def ableR(rd:List Deed)(dd:List ByteArray)(n frm:ByteArray):Bool:=!rd.any (renT n frm)&&(!noB n&&(!zae n frm&&!dd.any (zae n)))
def ableR_eq(s:St)(rd:List Deed)(h:s.renounce=rd.map λd=>(d.frm,zbh d))(n frm:ByteArray):ableR rd s.dead n frm=zdY s n frm:=by
 unfold ableR zdY zaN;rw[h,List.any_map];show(!rd.any (renT n frm)&&(!noB n&&(!zae n frm&&!s.dead.any (zae n))))=(!noB n&&!zae n frm&&!s.dead.any (zae n)&&!rd.any (renT n frm))
 cases rd.any (renT n frm)<;>cases noB n<;>cases zae n frm<;>cases s.dead.any (zae n)<;>rfl
def rAble_any(rd:List Deed)(dd:List ByteArray)(n frm:ByteArray)(LA CA MA DA WA RA GA:Option Addr)(n0 c0 n1 c1 n2 c2 n3 c3 n4 c4 n5 c5 n6 c6:Nat)(w:World)(hl:rd.length<=100000)(iX:∀d∈rd,d.to≠[])(hS:SlW w 7 zfG RA rd)(bA:dd.length<=100000)(lI:dd.length<=c3)(hD:Sl w 1 sC DA dd):
 Calls Tryz.prog 188 #[.agg #[.slice LA n0 c0,.slice CA n1 c1,.slice MA n2 c2,.slice DA dd.length c3,.slice WA n4 c4,.slice RA rd.length c5,.slice GA n6 c6],.string n,.string frm] w (Ret w (.bool (ableR rd dd n frm))):=by
 obtain⟨gK,JC,fR⟩:=yH3 hS iX (λW (h:Qa w W)=>zeH dd n LA CA MA DA WA RA GA n0 c0 n1 c1 n2 c2 dd.length c3 n4 c4 rd.length c5 n6 c6 W bA lI (hD.keep h));obtain⟨R,hR⟩:=Qd (ableR rd dd n frm)
 rw[<-hR];obtain⟨D,FW⟩:=Qd (dd.any (zae n))
 unfold ableR at hR;rw[<-FW]at hR fR;have HR:Hid (R=(!(rd.drop 0).any (renT n frm)&&(!noB n&&(!zae n frm&&!D)))):=MeL;clear hS hR iX hD FW;go_enter Tryz.func188,Tryz.ntmps188
 go_upto_region 1 with fail
 obtain⟨W0,am⟩:=Qd (w.alloc (.cells #[.slice LA n0 c0,.slice CA n1 c1,.slice MA n2 c2,.slice DA dd.length c3,.slice WA n4 c4,.slice RA rd.length c5,.slice GA n6 c6] 86))
 have b0:W0.heap[w.heap.size]?=some (.cells #[.slice LA n0 c0,.slice CA n1 c1,.slice MA n2 c2,.slice DA dd.length c3,.slice WA n4 c4,.slice RA rd.length c5,.slice GA n6 c6] 86):=MdK;have aO:Qa w W0:=Mdz;rw[<-am];obtain⟨ak,HS⟩:=yH2 aO (gK.o.keep zbS aO);obtain⟨k0,k1,k2,k3,k4,k5,k6⟩:=cF7 b0;clear am b0 aO gK;go_upto_region 2 with fail
 go_loopw [7] (λi wr=>∃k:Nat,k<=rd.length/\i=.int .i64 k/\W0=wr/\Hid (R=(!(rd.drop k).any (renT n frm)&&(!noB n&&(!zae n frm&&!D))))) (λi _=>rd.length-(intOf i).toNat)
 case atStart=>exact⟨0,Nat.zero_le _,rfl,rfl,HR.o⟩
 case round=>
  obtain⟨k,hk,rfl,rfl,HX⟩:=hrel;by_cases ae:k<rd.length
  ·obtain⟨b,off,cs,rfl,hb,hr,ah⟩:=HS.o.at ae;have hx:=HX.o;rw[List.drop_eq_getElem_cons ae,List.any_cons]at hx;have ai:=JC.o _ (List.getElem_mem ae);obtain⟨aw,aj⟩:=yH2 hx ae;generalize rd[k]=x at*;obtain⟨B,c,hc,rfl,hP⟩:=hr;obtain⟨kd,dy,pl,fr,ts,cl,yr⟩:=x;simp only at ai hc hP ah;cases ts with
   |nil=>exact absurd rfl ai
   |cons p ts=>
    obtain⟨tb,tof,rfl,Ij,tB⟩:=hP.at (k:=0) (Nat.succ_pos _);obtain⟨pn,pu,pd⟩:=p;have t0:W0.cell? ⟨tb,tof,none⟩=some (.string pn):=Md9;have dU:zbh ⟨kd,dy,pl,fr,⟨pn,pu,pd⟩::ts,cl,yr⟩=pn:=rfl;have i3:=ah 3 _ rfl;have i4:=ah 4 _ rfl;have au:(k:Int)<(rd.length:Int):=McS;have aR:(0:Int)<=(k:Int):=McS;generalize cX:(⟨pn,pu,pd⟩::ts:List RPart).length=ln at*;have jM:(0:Int)<(ln:Int):=by rw[<-cX];simp
    have Eh:0<ln:=McS;clear ah ae hx ai hP tB cX hc;cases eo:zae fr n
    ·have bi:(fr.toList==n.toList)=false:=eo;have HE:Hid (R=(!(rd.drop (k+1)).any (renT n frm)&&(!noB n&&(!zae n frm&&!D)))):=by show _=_;rw[aw.o];simp[renT,eo]
     go_wp2_with fail
     exact ML
    ·have bi:(fr.toList==n.toList)=true:=eo;cases dH:zae pn frm
     ·have zb:(pn.toList==frm.toList)=false:=dH;have HE:Hid (R=(!(rd.drop (k+1)).any (renT n frm)&&(!noB n&&(!zae n frm&&!D)))):=by show _=_;rw[aw.o];simp[renT,dU,dH]
      go_wp2_with fail
      exact ML
     ·have zb:(pn.toList==frm.toList)=true:=dH;have HE:Hid (R=false):=by show _=_;rw[aw.o];simp[renT,dU,eo,dH]
      exact Mbq
  ·have au:¬(k:Int)<(rd.length:Int):=McS;have hx:=HX.o;rw[List.drop_of_length_le McS]at hx;have aw:=zHi hx;clear hx;cases z1:noB n
   ·have y1:n.toList.isEmpty=false:=z1;have w1:¬n.toList=[]:=by simpa using y1
    cases eo:zae n frm
    ·have bi:(n.toList==frm.toList)=false:=eo;have HE:Hid (R=!D):=by show _=_;rw[aw.o,z1,eo];simp
     go_wp2_with (go_at_call 137;go_must(refine(fR.o _ MdJ).mono ?_);rintro e wq ⟨rfl,z,rfl⟩)
     go_ret
     exact Ret.of (zaT HE.o.symm) (zb2 ak.o z)
    ·have bi:(n.toList==frm.toList)=true:=eo;have HE:Hid (R=false):=by show _=_;rw[aw.o,z1,eo];simp
     exact Mbq
   ·have y1:n.toList.isEmpty=true:=z1;have w1:n.toList=[]:=by simpa using y1
    have HE:Hid (R=false):=by show _=_;rw[aw.o,z1];simp
    exact Mbq
def znn(dd:List ByteArray)(p:RPart):Bool:=dd.any (zae p.name)
def zkG(l:List RPart)(A:Option Addr)(c:Nat)(dd:List ByteArray)(LA CA MA DA WA RA GA:Option Addr)(n0 c0 n1 c1 n2 c2 n3 c3 n4 c4 n5 c5 n6 c6:Nat)(w:World)(hl:l.length<=1000000)(hS:Sl w 3 RPart.cells A l)(bA:dd.length<=100000)(lI:dd.length<=c3)(hD:Sl w 1 sC DA dd):
 Calls Tryz.prog 158 #[.agg #[.slice LA n0 c0,.slice CA n1 c1,.slice MA n2 c2,.slice DA dd.length c3,.slice WA n4 c4,.slice RA n5 c5,.slice GA n6 c6],.slice A l.length c] w (Ret w (.bool (l.any (znn dd)))):=by
 obtain⟨gK,fR⟩:=yH2 hS (λx W (h:Qa w W)=>zeH dd x LA CA MA DA WA RA GA n0 c0 n1 c1 n2 c2 dd.length c3 n4 c4 n5 c5 n6 c6 W bA lI (hD.keep h));obtain⟨R,hR⟩:=Qd (l.any (znn dd))
 rw[<-hR];have HR:Hid (R=(l.drop 0).any (znn dd)):=MeL;clear hS hD hR;go_enter Tryz.func158,Tryz.ntmps158
 go_upto_region 1 with fail
 obtain⟨W0,am⟩:=Qd (w.alloc (.cells #[.slice LA n0 c0,.slice CA n1 c1,.slice MA n2 c2,.slice DA dd.length c3,.slice WA n4 c4,.slice RA n5 c5,.slice GA n6 c6] 86))
 have b0:W0.heap[w.heap.size]?=some (.cells #[.slice LA n0 c0,.slice CA n1 c1,.slice MA n2 c2,.slice DA dd.length c3,.slice WA n4 c4,.slice RA n5 c5,.slice GA n6 c6] 86):=MdK;have aO:Qa w W0:=Mdz;rw[<-am];obtain⟨ak,HS⟩:=yH2 aO (gK.o.keep aO);have mI:=aO.size;have l0:=zab b0
 have HC:=zHi (λ(W':World) (h:Qa W0 W')=>(show W'.cell? ⟨w.heap.size,0,none⟩=some (.slice LA n0 c0)/\W'.cell? ⟨w.heap.size,1,none⟩=some (.slice CA n1 c1)/\W'.cell? ⟨w.heap.size,2,none⟩=some (.slice MA n2 c2)/\W'.cell? ⟨w.heap.size,3,none⟩=some (.slice DA dd.length c3)/\W'.cell? ⟨w.heap.size,4,none⟩=some (.slice WA n4 c4)/\W'.cell? ⟨w.heap.size,5,none⟩=some (.slice RA n5 c5)/\W'.cell? ⟨w.heap.size,6,none⟩=some (.slice GA n6 c6) from by
  refine⟨?_,?_,?_,?_,?_,?_,?_⟩<;>(refine(zai h l0).trans ?_;simp only[World.cell?,b0];rfl)))
 clear am b0 aO gK;go_upto_region 2 with fail
 go_loopw [5] (λi wr=>∃k:Nat,k<=l.length/\i=.int .i64 k/\Hid (R=(l.drop k).any (znn dd))/\Qa W0 wr) (λi _=>l.length-(intOf i).toNat)
 case atStart=>exact⟨0,Nat.zero_le _,rfl,HR.o,Qb⟩
 case round=>
  obtain⟨k,hk,rfl,HX,hB⟩:=hrel;have HB:=zHi hB;have aM:=hB.size;have cK:w.heap.size<wr.heap.size:=McS;obtain⟨d0,d1,d2,d3,d4,d5,d6⟩:=HC.o _ hB;by_cases ae:k<l.length
  ·obtain⟨b,off,rfl,hb,ah⟩:=(HS.o.keep hB).at ae;have hx:=HX.o;rw[List.drop_eq_getElem_cons ae,List.any_cons]at hx;obtain⟨aw,aj⟩:=yH2 hx ae;generalize l[k]=x at*;obtain⟨nm,nu,de⟩:=x;have i0:wr.cell? ⟨b,off+k*3,none⟩=some (.string nm):=ah 0 _ rfl;have au:(k:Int)<(l.length:Int):=McS;have aR:(0:Int)<=(k:Int):=McS;have wf:=zHi (ak.o.trans (hB.mono mI));have gI:=zHi (λW (h:Qa wr W)=>fR.o nm W (wf.o.trans (h.mono wf.o.size)));clear ah hx ae hB;cases hd:dd.any (zae nm)
   ·have HE:Hid (R=(l.drop (k+1)).any (znn dd)):=by show _=_;rw[aw.o];unfold znn;rw[hd];rfl
    rw[hd]at gI;clear hd;go_upto_region 4 with fail
    (refine zag McT McT ?_
     repeat(first|go_big_quiet_skip|(go_big_quiet_want;go_big_quiet_op;first|go_big_quiet_on|(apply Exists.intro;refine⟨λ_=>?_,?_⟩;(go_at_call 137;exact quietx (gI.o _ Bw));go_big_quiet_on)))
     refine wpQuiet_nil ?_
     rintro _ ⟨zq,rfl⟩)
    go_wp2_with fail
    go_round
    case rel=>exact⟨k+1,aj.o,by go_num,HE.o,zb2 HB.o zq⟩
    case measure=>have:=aj.o;simp only[intOf];omega
   ·have HE:Hid (R=true):=by show _=_;rw[aw.o];unfold znn;rw[hd];rfl
    rw[hd]at gI;clear hd;go_upto_region 4 with fail
    (refine zag McT McT ?_
     repeat(first|go_big_quiet_skip|(go_big_quiet_want;go_big_quiet_op;first|go_big_quiet_on|(apply Exists.intro;refine⟨λ_=>?_,?_⟩;(go_at_call 137;exact quietx (gI.o _ Bw));go_big_quiet_on)))
     refine wpQuiet_nil ?_
     rintro _ ⟨zq,rfl⟩)
    go_wp2_with fail
    go_ret
    exact Ret.of (zaT HE.o.symm) (zb2 wf.o zq)
  ·have au:¬(k:Int)<(l.length:Int):=McS;have HE:Hid (R=false):=by show _=_;rw[HX.o,List.drop_of_length_le McS];rfl
   clear hB;go_wp2_with fail
   go_ret
   exact Ret.of (zaT HE.o.symm) (ak.o.trans (HB.o.mono mI))
