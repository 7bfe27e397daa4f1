/- Walk of the library's Compare at lists of numbers. -/
import Derived.Test.YtkhkhnellekofaaGreatDoorO1
import Derived.Test.YtkhkhnellekofaaGreatDoorO0
import Derived.Test.YtkhkhnellekofaaGreatDoorNG
import Derived.Test.YtkhkhnellekofaaGreatDoorJN
set_option linter.unusedSimpArgs false
set_option linter.unusedVariables false
namespace Go.Proofs.YtkhkhnellekofaaGreatDoor
open Go.RowKit
def heldQ (n:ByteArray) (day:Int) (g:Grave):Bool:=inForceP g day&&decide (0<(shareP g.holders n).num)
theorem num_pos7 {q:Rat}:0<q↔0<q.num:=by rw[Rat.lt_iff];simp
theorem held_same {s:St} {last day:Int} {n:ByteArray} {i:Nat} {g:Grave} (hG:GoodSt s last) (hl:last<=day) (hi:s.graves[i]?=some g):heldP s n day i g=heldQ n day g:=by
 have hgg:=hG.graves g (List.mem_of_getElem? hi)
 have hn:=share_nonneg hgg.good n
 have h1:(shareP g.holders n != 0)=decide (0<(shareP g.holders n).num):=by
  rw[Bool.eq_iff_iff,bne_iff_ne,decide_eq_true_eq,<-num_pos7]
  constructor
  ·intro h
   exact Rat.lt_of_le_of_ne hn (fun e=>h e.symm)
  ·intro h e
   rw[e]at h
   exact absurd h (by decide)
 have h2:(graveIx s g.place day==some i)=inForceP g day:=by
  cases hf:inForceP g day
  ·cases hx:graveIx s g.place day with
   |none=>rfl
   |some j=>
    obtain⟨gj,h3,h4,h5⟩:=graveIx_some hx
    cases hji:(some j==some i)
    ·rfl
    ·have e:j=i:=by simpa using hji
     subst e
     rw[h3]at hi
     simp only[Option.some.injEq]at hi
     rw[hi,hf]at h5
     cases h5
  ·cases hx:graveIx s g.place day with
   |none=>
    have:=graveIx_none hx g (List.mem_of_getElem? hi) rfl
    rw[hf]at this
    cases this
   |some j=>
    obtain⟨gj,h3,h4,h5⟩:=graveIx_some hx
    have:=hG.force j i gj g h3 hi h4 day hl h5 hf
    simp[this]
 unfold heldP heldQ
 rw[h1,h2,Bool.and_comm]
def heirOf (n:ByteArray) (h:Parts) (g:Grave) (f:Bool):Parts×Bool:=gainF (shareP g.holders n) h (setP g.holders n 0,f)
def diesQ (n:ByteArray) (day:Int) (h:Parts):List Grave->Bool->List Grave×Bool
 | [],f=>([],f)
 |g::l,f=>if heldQ n day g then(⟨g.place,g.cls,g.fin,(heirOf n h g f).1,g.died++[n]⟩::(diesQ n day h l (heirOf n h g f).2).1,(diesQ n day h l (heirOf n h g f).2).2)else(g::(diesQ n day h l f).1,(diesQ n day h l f).2)
theorem dies_mark {n:ByteArray} {day:Int} {h:Parts}: ∀ {l:List Grave} {f:Bool},f=true->(diesQ n day h l f).2=true
 | [],_,hf=>hf
 |g::l,f,hf=>by
  rw[diesQ]
  split
  ·exact dies_mark (gain_mark (by exact hf))
  ·exact dies_mark hf
theorem dies_some {s:St} {n:ByteArray} {day:Int} {h:Parts} (hh: ∀p∈h,0<=p.2): ∀ {l:List Grave} {i:Nat},(∀j g,l[j]?=some g->heldP s n day (i+j) g=heldQ n day g)->(∀g∈l,GoodG g)->
 (∀gs,diesGo s n day (some h) i l=some gs->diesQ n day h l false=(gs,false))/\(diesGo s n day (some h) i l=none->(diesQ n day h l false).2=true)
 | [],i,_,_=>by
   rw[diesGo,diesQ]
   exact⟨fun gs e=>by cases e;rfl,fun e=>by cases e⟩
 |g::l,i,hq,hg=>by
  have ih:=dies_some (s:=s) (n:=n) (day:=day) hh (l:=l) (i:=i+1) (fun j g' hj=>by
   have:=hq (j+1) g' (by simpa using hj)
   rw[show i+1+j=i+(j+1) by omega]
   exact this) (fun g' h'=>hg g' (by simp[h']))
  have h0:=hq 0 g rfl
  rw[Nat.add_zero]at h0
  rw[diesGo,diesQ,h0]
  have hgg:=hg g (by simp)
  cases hh2:heldQ n day g
  ·simp only[Bool.false_eq_true,if_false]
   refine⟨fun gs e=> ?_,fun e=> ?_⟩
   ·cases hd:diesGo s n day (some h) (i+1) l with
    |none=>rw[hd]at e;cases e
    |some r=>
     rw[hd]at e
     simp only[Option.map_some,Option.some.injEq]at e
     rw[ih.1 r hd,<-e]
   ·cases hd:diesGo s n day (some h) (i+1) l with
    |none=>exact ih.2 hd
    |some r=>rw[hd]at e;cases e
  ·simp only[if_true]
   have hz:setP g.holders n 0=withoutP g.holders n:=set_zero hgg.good.asc n
   obtain⟨g1,g2⟩:=gain_same (share_nonneg hgg.good n) hh (without_good hgg.good (n:=n)) (by
    have h1:largeP (setP g.holders n 0)=false:=small_set hgg.small (by decide)
    rw[<-hz]
    exact h1)
   have hy:heirOf n h g false=gainF (shareP g.holders n) h (withoutP g.holders n,false):=by unfold heirOf;rw[hz]
   rw[hy]
   cases hgo:gainGo (shareP g.holders n) h (withoutP g.holders n)with
   |none=>
    have h3:=g2 hgo
    refine⟨fun gs e=>by simp at e,fun _=> ?_⟩
    exact dies_mark h3
   |some o=>
    have h3:=g1 o hgo
    rw[h3]
    refine⟨fun gs e=> ?_,fun e=> ?_⟩
    ·cases hd:diesGo s n day (some h) (i+1) l with
     |none=>rw[hd]at e;cases e
     |some r=>
      rw[hd]at e
      simp only[Option.bind_some,Option.map_some,Option.some.injEq]at e
      rw[ih.1 r hd,<-e]
    ·cases hd:diesGo s n day (some h) (i+1) l with
     |none=>exact ih.2 hd
     |some r=>rw[hd]at e;cases e
theorem dies_none {s:St} {n:ByteArray} {day:Int} {h:Option Parts}: ∀ {l:List Grave} {i:Nat},(∀j g,l[j]?=some g->heldP s n day (i+j) g=heldQ n day g)->(l.any (heldQ n day)=false->diesGo s n day h i l=some l)/\(h=none->l.any (heldQ n day)=true->diesGo s n day h i l=none)
 | [],i,_=>by
   have e:diesGo s n day h i []=some []:=by simp[diesGo]
   rw[e]
   exact⟨fun _=>rfl,fun _ e=>by cases e⟩
 |g::l,i,hq=>by
  have ih:=dies_none (s:=s) (n:=n) (day:=day) (h:=h) (l:=l) (i:=i+1) (fun j g' hj=>by
   have:=hq (j+1) g' (by simpa using hj)
   rw[show i+1+j=i+(j+1) by omega]
   exact this)
  have h0:=hq 0 g rfl
  rw[Nat.add_zero]at h0
  unfold diesGo
  rw[h0,List.any_cons]
  cases hh2:heldQ n day g
  ·simp only[Bool.false_eq_true,if_false,Bool.false_or]
   exact⟨fun e=>by rw[ih.1 e];rfl,fun e1 e2=>by rw[ih.2 e1 e2];rfl⟩
  ·simp only[if_true,Bool.true_or]
   refine⟨fun e=>(by cases e),fun e _=> ?_⟩
   subst e
   rfl
theorem deathP_eq {laws:List Law} {s:St} {d:Deed} {last:Int} (hG:GoodSt s last) (hl:last<=d.day) (hw:isShareP 16 (lawOnP laws d.day).num (lawOnP laws d.day).den=true):
 deathP laws s d=if isDeadP s d.frm then(s,28)else if s.graves.any (heldQ d.frm d.day)then
  (if(diesQ d.frm d.day (estateF s (lawOnP laws d.day) d.frm).1 s.graves (estateF s (lawOnP laws d.day) d.frm).2).2 then(s,8)else
    ({s with graves:=(diesQ d.frm d.day (estateF s (lawOnP laws d.day) d.frm).1 s.graves (estateF s (lawOnP laws d.day) d.frm).2).1,dead:=s.dead++[d.frm]},0))
  else({s with dead:=s.dead++[d.frm]},0):=by
 have hq: ∀j g,s.graves[j]?=some g->heldP s d.frm d.day (0+j) g=heldQ d.frm d.day g:=fun j g hj=>by rw[Nat.zero_add];exact held_same hG hl hj
 obtain⟨e1,e2⟩:=estate_same (s:=s) (n:=d.frm) (hG.wills d.frm) hw
 have hn:=dies_none (s:=s) (n:=d.frm) (day:=d.day) (h:=estateP s (lawOnP laws d.day) d.frm) hq
 unfold deathP
 cases hd:isDeadP s d.frm
 ·simp only[Bool.false_eq_true,if_false]
  cases ha:s.graves.any (heldQ d.frm d.day)
  ·rw[hn.1 ha]
   simp
  ·simp only[if_true]
   cases he:estateP s (lawOnP laws d.day) d.frm with
   |none=>
    rw[he]at hn
    rw[hn.2 rfl ha,if_pos (dies_mark (e2 he))]
   |some h=>
    have hgd:=estate_good (hG.wills d.frm) hw he
    obtain⟨f1,f2⟩:=dies_some (s:=s) (n:=d.frm) (day:=d.day) (h:=h) (fun p hp=>by have:=hgd.1.pos p hp;grind) hq hG.graves
    rw[e1 h he]
    cases hx:diesGo s d.frm d.day (some h) 0 s.graves with
    |none=>
     simp only
     rw[if_pos (f2 hx)]
    |some gs=>
     simp only
     rw[f1 gs hx]
     simp
 ·simp
def heldFrom (n:ByteArray) (day:Int):Nat->List Grave->List Nat
 |_,[]=>[]
 |k,g::l=>if heldQ n day g then k::heldFrom n day (k+1) l else heldFrom n day (k+1) l
theorem held_append (n:ByteArray) (day:Int): ∀(k:Nat) (a b:List Grave),heldFrom n day k (a++b)=heldFrom n day k a++heldFrom n day (k+a.length) b
 |k,[],b=>by simp[heldFrom]
 |k,g::a,b=>by
  rw[List.cons_append,heldFrom,heldFrom,held_append n day (k+1) a b,List.length_cons]
  rw[show k+1+a.length=k+(a.length+1) by omega]
  split<;>simp
theorem held_snoc (n:ByteArray) (day:Int) (gs:List Grave) {k:Nat} (h:k<gs.length):heldFrom n day 0 (gs.take (k+1))=heldFrom n day 0 (gs.take k)++if heldQ n day gs[k]then[k]else[]:=by
 rw[List.take_succ_eq_append_getElem h,held_append,Nat.zero_add,List.length_take,Nat.min_eq_left (by omega),heldFrom,heldFrom]
theorem held_len (n:ByteArray) (day:Int): ∀(k:Nat) (l:List Grave),(heldFrom n day k l).length=(l.filter (heldQ n day)).length
 |_,[]=>rfl
 |k,g::l=>by
  rw[heldFrom,List.filter_cons]
  split<;>simp[held_len n day (k+1) l]
theorem held_get (n:ByteArray) (day:Int): ∀(l:List Grave) (k j i:Nat),(heldFrom n day k l)[j]?=some i->k<=i/\ ∃g,l[i-k]?=some g/\(l.filter (heldQ n day))[j]?=some g
 | [],k,j,i,h=>by simp[heldFrom]at h
 |g::l,k,j,i,h=>by
  rw[heldFrom]at h
  rw[List.filter_cons]
  cases hq:heldQ n day g
  ·rw[hq]at h
   simp only[Bool.false_eq_true,if_false]at h⊢
   obtain⟨h1,g',h2,h3⟩:=held_get n day l (k+1) j i h
   refine⟨by omega,g',?_,h3⟩
   rw[show i-k=(i-(k+1))+1 by omega,List.getElem?_cons_succ]
   exact h2
  ·rw[hq]at h
   simp only[if_true]at h⊢
   cases j with
   |zero=>
    simp only[List.getElem?_cons_zero,Option.some.injEq]at h
    subst h
    exact⟨Nat.le_refl _,g,by simp,by simp⟩
   |succ j=>
    simp only[List.getElem?_cons_succ]at h⊢
    obtain⟨h1,g',h2,h3⟩:=held_get n day l (k+1) j i h
    refine⟨by omega,g',?_,h3⟩
    rw[show i-k=(i-(k+1))+1 by omega,List.getElem?_cons_succ]
    exact h2
def nextF (n:ByteArray) (h:Parts):List Grave->Bool->List Grave×Bool
 | [],f=>([],f)
 |g::l,f=>(⟨g.place,g.cls,g.fin,(heirOf n h g f).1,g.died++[n]⟩::(nextF n h l (heirOf n h g f).2).1,(nextF n h l (heirOf n h g f).2).2)
theorem next_append (n:ByteArray) (h:Parts): ∀(a b:List Grave) (f:Bool),nextF n h (a++b) f=((nextF n h a f).1++(nextF n h b (nextF n h a f).2).1,(nextF n h b (nextF n h a f).2).2)
 | [],b,f=>by simp[nextF]
 |g::a,b,f=>by
  rw[List.cons_append,nextF,next_append n h a b,nextF]
  simp
theorem next_snoc (n:ByteArray) (h:Parts) (l:List Grave) (f:Bool) {k:Nat} (hk:k<l.length):nextF n h (l.take (k+1)) f=((nextF n h (l.take k) f).1++[⟨l[k].place,l[k].cls,l[k].fin,(heirOf n h l[k] (nextF n h (l.take k) f).2).1,l[k].died++[n]⟩],(heirOf n h l[k] (nextF n h (l.take k) f).2).2):=by
 rw[List.take_succ_eq_append_getElem hk,next_append,nextF,nextF]
theorem next_len (n:ByteArray) (h:Parts): ∀(l:List Grave) (f:Bool),(nextF n h l f).1.length=l.length
 | [],_=>rfl
 |g::l,f=>by rw[nextF];simp[next_len n h l]
def setAll:List Grave->List Nat->List Grave->List Grave
 |gs,i::H,x::X=>setAll (gs.set i x) H X
 |gs,_,_=>gs
theorem setAll_snoc: ∀(H:List Nat) (X:List Grave) (gs:List Grave) (i:Nat) (x:Grave),H.length=X.length->setAll gs (H++[i]) (X++[x])=(setAll gs H X).set i x
 | [],[],gs,i,x,_=>rfl
 | [],_::_,_,_,_,h=>by cases h
 |_::_,[],_,_,_,h=>by cases h
 |j::H,y::X,gs,i,x,h=>by
  rw[List.cons_append,List.cons_append,setAll,setAll]
  exact setAll_snoc H X _ i x (by simpa using h)
theorem setAll_len: ∀(H:List Nat) (X gs:List Grave),(setAll gs H X).length=gs.length
 | [],_,_=>by simp[setAll]
 |_::_,[],_=>by simp[setAll]
 |j::H,y::X,gs=>by rw[setAll,setAll_len H X];simp
theorem setAll_dies (n:ByteArray) (day:Int) (h:Parts): ∀(l A:List Grave) (f:Bool),setAll (A++l) (heldFrom n day A.length l) (nextF n h (l.filter (heldQ n day)) f).1=A++(diesQ n day h l f).1/\(nextF n h (l.filter (heldQ n day)) f).2=(diesQ n day h l f).2
 | [],A,f=>by simp[heldFrom,nextF,diesQ,setAll]
 |g::l,A,f=>by
  rw[heldFrom,List.filter_cons,diesQ]
  cases hq:heldQ n day g
  ·simp only[Bool.false_eq_true,if_false]
   have:=setAll_dies n day h l (A++[g]) f
   rw[List.length_append,List.length_singleton,List.append_assoc,List.singleton_append]at this
   exact⟨by rw[this.1];simp,this.2⟩
  ·simp only[if_true]
   rw[nextF,setAll]
   have:=setAll_dies n day h l (A++[⟨g.place,g.cls,g.fin,(heirOf n h g f).1,g.died++[n]⟩]) (heirOf n h g f).2
   rw[List.length_append,List.length_singleton,List.append_assoc,List.singleton_append]at this
   have e:(A++g::l).set A.length ⟨g.place,g.cls,g.fin,(heirOf n h g f).1,g.died++[n]⟩=A++⟨g.place,g.cls,g.fin,(heirOf n h g f).1,g.died++[n]⟩::l:=by
    rw[List.set_append_right _ _ (Nat.le_refl _),Nat.sub_self,List.set_cons_zero]
   exact⟨by rw[e,this.1];simp,this.2⟩
end Go.Proofs.YtkhkhnellekofaaGreatDoor
namespace Go.Proofs.YtkhkhnellekofaaGreatDoor
open Go.RowKit Go.Shelf
attribute [local go_sem] World.cell?_alloc_mark ext_size ext_cell ext_frozen lt_add_r lt_add_r2 lt_add_r3 lt_add_r4 lt_add_r5 lt_add_r6 lt_add_r7 lt_add_r8
attribute [local go_sem] ext_setCell alloc_setCell_lt
def intC (n:Nat):List Value:=[.int .i64 (n:Int)]
theorem intC_len (n:Nat):(intC n).length=1:=rfl
theorem intC_one (n:Nat): ∀u∈intC n,u.oneCell'=true:=by simp[intC,Value.oneCell']
theorem recC_len (x:Rec):(Rec.cells x).length=8:=rfl
theorem recC_one (x:Rec): ∀u∈Rec.cells x,u.oneCell'=true:=by simp[Rec.cells,Value.oneCell']
theorem elRec:ElTy Tryz.prog 22 65 8 88:=elTy_of (z:= .agg #[.int .i64 0, .string ⟨#[]⟩, .string ⟨#[]⟩, .string ⟨#[]⟩, .int .i64 0, .int .i64 0, .int .i64 0, .int .i64 0]) (by kernel_rfl) (by kernel_rfl) rfl (by decide)
theorem of_snoc {l:List Rec} {set:List Nat} {k:Nat} (hk:k<set.length) (hl:set[k]<l.length):ofP l (set.take (k+1))=ofP l (set.take k)++[l[set[k]]]:=by
 unfold ofP
 rw[List.take_succ_eq_append_getElem hk,List.filterMap_append]
 simp[List.getElem?_eq_getElem hl]
theorem of_len (l:List Rec) (set:List Nat):(ofP l set).length<=set.length:=List.length_filterMap_le _ _
theorem sl_rec {w:World} {b:Nat} {x:Rec} {t:TypeId} {fr:Nat×Nat} (h:w.heap[b]?=some (.cells (Rec.cells x).toArray t fr)):Sl w 8 Rec.cells (some ⟨b,0,none⟩) [x]:=fun _=>⟨b,0,rfl,blk_lt h,fun k y hy j u hu=>by
 have hk:k=0:=by have:=(List.getElem?_eq_some_iff.1 hy).1;simp at this;omega
 subst hk
 simp only[List.getElem?_cons_zero,Option.some.injEq]at hy
 subst hy
 simp only[World.cell?,h,Nat.zero_mul,Nat.zero_add,Nat.add_zero]
 simpa using hu⟩
set_option maxRecDepth 100000 in
set_option maxHeartbeats 2000000 in
theorem some_any (l:List Rec) (set:List Nat) (A:Option Addr) (c:Nat) (SA:Option Addr) (sc:Nat) (w:World) (hc:l.length<=c) (hsc:set.length<=sc) (hsl:set.length<=1000) (hin: ∀i∈set,i<l.length) (hS:Sl w 8 Rec.cells A l) (hT:Sl w 1 intC SA set):
 Calls Tryz.prog 39 #[.slice A l.length c, .slice SA set.length sc] w (fun e w'=> ∃v,e= .returned v/\OwnS w' w.heap.size 65 8 Rec.cells v (ofP l set)/\Below w.heap.size w w'):=by
 have HS:=Lib.hid hS
 have HT:=Lib.hid hT
 have HIN:=Lib.hid hin
 clear hS hT hin
 go_enter Tryz.func39,Tryz.ntmps39
 go_wp2_with fail
 go_loopw [5,10] (fun v i wr=> ∃k:Nat,k<=set.length/\i= .int .i64 k/\OwnS wr w.heap.size 65 8 Rec.cells v (ofP l (set.take k))/\Below w.heap.size w wr) (fun _ i _=>set.length-(intOf i).toNat)
 case atStart=>exact⟨0,Nat.zero_le _,rfl,OwnS.nil,Below.refl _ _⟩
 case round=>
  obtain⟨k,hk,rfl,hown,hB⟩:=hrel
  obtain⟨VA,vc,rfl,_,hvc⟩:=hown.sl recC_len
  have HO:=Lib.hid hown
  have HB:=Lib.hid hB
  have hbs:=hB.size
  by_cases hlt:k<set.length
  ·obtain⟨b,off,rfl,hb,hcc⟩:=(HT.out.keep hB).at hlt
   have hi:=HIN.out set[k] (List.getElem_mem hlt)
   have hsn:=of_snoc hlt hi
   have i0:wr.cell? ⟨b,off+k,none⟩=some (.int .i64 (set[k]:Int)):=by have:=hcc 0 _ rfl;simpa using this
   have hol:=of_len l (set.take k)
   rw[List.length_take]at hol
   have HSN:=Lib.hid hsn
   clear hsn hcc
   generalize set[k]=m at*
   obtain⟨rb,roff,rfl,hrb,hrc⟩:=(HS.out.keep hB).at hi
   have HLT:=Lib.hid hlt
   generalize l[m]=x at*
   generalize ofP l (set.take k)=acc at*
   obtain⟨kd,nm,ot,pl,dy,tl,nu,de⟩:=x
   have j0:wr.cell? ⟨rb,roff+m*8,none⟩=some (.int .i64 kd):=hrc 0 _ rfl
   have j1:wr.cell? ⟨rb,roff+m*8+1,none⟩=some (.string nm):=hrc 1 _ rfl
   have j2:wr.cell? ⟨rb,roff+m*8+2,none⟩=some (.string ot):=hrc 2 _ rfl
   have j3:wr.cell? ⟨rb,roff+m*8+3,none⟩=some (.string pl):=hrc 3 _ rfl
   have j4:wr.cell? ⟨rb,roff+m*8+4,none⟩=some (.int .i64 dy):=hrc 4 _ rfl
   have j5:wr.cell? ⟨rb,roff+m*8+5,none⟩=some (.int .i64 tl):=hrc 5 _ rfl
   have j6:wr.cell? ⟨rb,roff+m*8+6,none⟩=some (.int .i64 nu):=hrc 6 _ rfl
   have j7:wr.cell? ⟨rb,roff+m*8+7,none⟩=some (.int .i64 de):=hrc 7 _ rfl
   have hki:(k:Int)<(set.length:Int):=by omega
   have hk0:(0:Int)<=(k:Int):=by omega
   have hkc:(k:Int)<=(sc:Int):=by omega
   have hmi:(m:Int)<(l.length:Int):=by omega
   have hm0:(0:Int)<=(m:Int):=by omega
   have hmc:(m:Int)<=(c:Int):=by omega
   have hal:acc.length<=1000:=by omega
   clear hrc hown hB hol
   go_wp2_with (at_builtin
                go_loud(refine wpList_append_S (v:= .slice VA acc.length vc) (n:=acc.length) (m:=1) rfl _ _ rfl elRec recC_len recC_one rfl (xs:=acc) (ys:=[⟨kd,nm,ot,pl,dy,tl,nu,de⟩]) (HO.out.keep (n:=wr.heap.size) Bw) rfl rfl rfl (sl_rec (J_new _ _ _ rfl)) (by simp[maxLen];omega) (by omega) (by simp;omega) ?_)
                intro v3 w3 h1 h2 h3
                have hb3:=Below.grown (B:=w.heap.size) (a:=w) (HB.out.trans (Below.mono (B:=wr.heap.size) (B_alloc (Below.refl _ _) _) hbs)) h2 (by simp;omega) (fun j hj=>(HO.out.ge j hj).1)
                have H1:=Lib.hid h1
                have HB3:=Lib.hid hb3
                clear h1 h2 h3 hb3)
   go_round
   case rel=>exact⟨k+1,HLT.out,by go_num,by rw[HSN.out];exact H1.out,HB3.out⟩
   case measure=>have:=HLT.out;simp only[intOf];omega
  ·have hki: ¬(k:Int)<(set.length:Int):=by omega
   have hkt:set.take k=set:=List.take_of_length_le (by omega)
   clear hown
   generalize hxs:ofP l (set.take k)=xs at*
   rw[hkt]at hxs
   subst hxs
   clear hkt
   go_wp2_with fail
   go_ret
   exact⟨_,rfl,HO.out,HB.out⟩
end Go.Proofs.YtkhkhnellekofaaGreatDoor
namespace Go.Proofs.YtkhkhnellekofaaGreatDoor
open Go.RowKit Go.Shelf
attribute [local go_sem] World.cell?_alloc_mark ext_size ext_cell ext_frozen lt_add_r lt_add_r2 lt_add_r3 lt_add_r4 lt_add_r5 lt_add_r6 lt_add_r7 lt_add_r8
attribute [local go_sem] ext_setCell alloc_setCell_lt
def cmpJ (a b:Int):Int:=if a<b then-1 else if b<a then 1 else 0
set_option maxRecDepth 100000 in
set_option maxHeartbeats 2000000 in
theorem nanJ_any (n:Int) (w:World):Calls Tryz.prog 96 #[.int .i64 n] w (Ret0 w (.bool false)):=by
 go_enter Tryz.func96,Tryz.ntmps96
 go_wp2
 go_ret
 exact⟨by simp,rfl⟩
set_option maxRecDepth 100000 in
set_option maxHeartbeats 2000000 in
theorem cmpJ_any (a b:Int) (w:World):Calls Tryz.prog 66 #[.int .i64 a, .int .i64 b] w (Ret0 w (.int .i64 (cmpJ a b))):=by
 have hX:a<b/\cmpJ a b= -1\/ ¬a<b/\b<a/\cmpJ a b=1\/ ¬a<b/\ ¬b<a/\cmpJ a b=0:=by
  unfold cmpJ
  by_cases h:a<b
  ·exact .inl ⟨h,by simp[h]⟩
  ·by_cases h2:b<a
   ·exact .inr (.inl ⟨h,h2,by simp[h,h2]⟩)
   ·exact .inr (.inr ⟨h,h2,by simp[h,h2]⟩)
 rcases hX with⟨h1,hr⟩|⟨h1,h2,hr⟩|⟨h1,h2,hr⟩<;>rw[hr]<;>clear hr<;>
 (go_enter Tryz.func66,Tryz.ntmps66
  go_wp2_with (go_at_call 96;refine(nanJ_any _ _).mono ?_;rintro e wq ⟨rfl,rfl⟩)
  go_ret
  exact⟨rfl,rfl⟩)
def lexC:List Nat->List Nat->Int
 | [],[]=>0
 | [],_::_=> -1
 |_::_,[]=>1
 |a::x,b::y=>if a<b then-1 else if b<a then 1 else lexC x y
theorem lexC_lex: ∀ {a b:List Nat},a.length=b.length->decide (0<lexC a b)=lexB b a
 | [],[],_=>rfl
 | [],_::_,h=>by simp at h
 |_::_,[],h=>by simp at h
 |a::x,b::y,h=>by
  rw[lexC,lexB]
  by_cases h1:a<b
  ·have h2: ¬b<a:=by omega
   have h3:(b==a)=false:=by simp;omega
   simp[h1,h2,h3]
  ·by_cases h2:b<a
   ·simp[h1,h2]
   ·have h3:(b==a)=true:=by simp;omega
    simp only[h1,h2,h3,if_false,decide_false,Bool.false_or,Bool.true_and]
    exact lexC_lex (by simpa using h)
set_option maxRecDepth 100000 in
set_option maxHeartbeats 2000000 in
theorem compare_any (a b:List Nat) (A B:Option Addr) (ac bc:Nat) (w:World) (ha:a.length<=ac) (hb:b.length<=bc) (ha2:a.length<=1000) (hS:Sl w 1 intC A a) (hT:Sl w 1 intC B b):
 Calls Tryz.prog 37 #[.slice A a.length ac, .slice B b.length bc] w (Ret0 w (.int .i64 (lexC a b))):=by
 have HS:=Lib.hid hS
 have HT:=Lib.hid hT
 obtain⟨R,hR⟩: ∃R,R=lexC (a.drop 0) (b.drop 0):=⟨_,rfl⟩
 rw[show lexC a b=R from by rw[hR];rfl]
 have HR:=Lib.hid hR
 clear hS hT hR
 go_enter Tryz.func37,Tryz.ntmps37
 go_wp2_with fail
 go_loopw [11] (fun i wr=> ∃k:Nat,k<=a.length/\k<=b.length/\i= .int .i64 k/\Hid (wr=w)/\Hid (R=lexC (a.drop k) (b.drop k))) (fun i _=>a.length-(intOf i).toNat)
 case atStart=>exact⟨0,Nat.zero_le _,Nat.zero_le _,rfl,rfl,HR.out⟩
 case round=>
  obtain⟨k,hk,hk2,rfl,hw,HX⟩:=hrel
  have hw:=hw.out
  subst hw
  have hk0:(0:Int)<=(k:Int):=by omega
  have hkA:(k:Int)<=(ac:Int):=by omega
  have hkB:(k:Int)<=(bc:Int):=by omega
  by_cases hlt:k<a.length
  ·have hki:(k:Int)<(a.length:Int):=by omega
   obtain⟨b1,o1,rfl,_,c1⟩:=HS.out.at hlt
   have i0:=c1 0 _ rfl
   rw[Nat.mul_one,Nat.add_zero]at i0
   by_cases hlt2:k<b.length
   ·have hki2:(k:Int)<(b.length:Int):=by omega
    have hki3: ¬(b.length:Int)<=(k:Int):=by omega
    obtain⟨b2,o2,rfl,_,c2⟩:=HT.out.at hlt2
    have j0:=c2 0 _ rfl
    rw[Nat.mul_one,Nat.add_zero]at j0
    have hx:=HX.out
    rw[List.drop_eq_getElem_cons hlt,List.drop_eq_getElem_cons hlt2,lexC]at hx
    have HLT:=Lib.hid hlt
    have HLT2:=Lib.hid hlt2
    generalize a[k]=m at*
    generalize b[k]=n at*
    have HX2:=Lib.hid hx
    have HC:=Lib.hid (fun W=>cmpJ_any m n W)
    clear hx c1 c2
    by_cases h1:m<n
    ·have hc:cmpJ m n= -1:=by unfold cmpJ;rw[if_pos (by omega)]
     have HRX:Hid (R= -1):=by show _=_;rw[HX2.out,if_pos h1]
     rw[hc]at HC
     go_wp2_with (go_at_call 66;go_must(refine(HC.out _).mono ?_);rintro e wq ⟨rfl,rfl⟩)
     go_ret
     exact⟨by rw[HRX.out];rfl,rfl⟩
    ·by_cases h2:n<m
     ·have hc:cmpJ m n=1:=by unfold cmpJ;rw[if_neg (by omega),if_pos (by omega)]
      have HRX:Hid (R=1):=by show _=_;rw[HX2.out,if_neg h1,if_pos h2]
      rw[hc]at HC
      go_wp2_with (go_at_call 66;go_must(refine(HC.out _).mono ?_);rintro e wq ⟨rfl,rfl⟩)
      go_ret
      exact⟨by rw[HRX.out];rfl,rfl⟩
     ·have hc:cmpJ m n=0:=by unfold cmpJ;rw[if_neg (by omega),if_neg (by omega)]
      have HRX:Hid (R=lexC (a.drop (k+1)) (b.drop (k+1))):=by show _=_;rw[HX2.out,if_neg h1,if_neg h2]
      rw[hc]at HC
      go_wp2_with (go_at_call 66;go_must(refine(HC.out _).mono ?_);rintro e wq ⟨rfl,rfl⟩)
      go_round
      case rel=>exact⟨k+1,HLT.out,HLT2.out,by go_num,by first|exact True.intro|rfl,HRX.out⟩
      case measure=>have:=HLT.out;simp only[intOf];omega
   ·have hki3:(b.length:Int)<=(k:Int):=by omega
    have hx:=HX.out
    rw[List.drop_eq_getElem_cons hlt,show b.drop k=[]from List.drop_eq_nil_of_le (by omega),lexC]at hx
    have HRX:Hid (R=1):=hx
    clear hx c1
    go_wp2_with fail
    go_ret
    exact⟨by rw[HRX.out];rfl,rfl⟩
  ·have hki: ¬(k:Int)<(a.length:Int):=by omega
   have hx:=HX.out
   rw[show a.drop k=[]from List.drop_eq_nil_of_le (by omega)]at hx
   by_cases hlt2:k<b.length
   ·have hab:(a.length:Int)<(b.length:Int):=by omega
    rw[List.drop_eq_getElem_cons hlt2,lexC]at hx
    have HRX:Hid (R= -1):=hx
    clear hx
    go_wp2_with fail
    go_ret
    exact⟨by rw[HRX.out];rfl,rfl⟩
   ·have hab: ¬(a.length:Int)<(b.length:Int):=by omega
    rw[show b.drop k=[]from List.drop_eq_nil_of_le (by omega),lexC]at hx
    have HRX:Hid (R=0):=hx
    clear hx
    go_wp2_with fail
    go_ret
    exact⟨by rw[HRX.out];rfl,rfl⟩
end Go.Proofs.YtkhkhnellekofaaGreatDoor
