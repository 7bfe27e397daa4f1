import Derived.Test.YtogklihlgindkaaGreatDoorOA
set_option linter.all false
set_option maxRecDepth 100000
set_option maxHeartbeats 4000000
namespace Go.Proofs.YtogklihlgindkaaGreatDoor
open Go.RowKit
attribute [local go_sem] World.cell?_alloc_mark zaf za3 zam za6 zat zau zav zaw zax zay zaz
def zcA(n:ByteArray)(day:Int)(g:Grave):Bool:=zaM g day&&decide (0<(zah g.holders n).num)
variable{q:Rat}
def zkN:0<q↔0<q.num:=by rw[Rat.lt_iff];simp
variable{s:St}{last day:Int}{n:ByteArray}{i:Nat}{g:Grave}
def held_same(hG:GoodSt s last)(hl:last<=day)(hi:s.graves[i]?=some g):zdu s n day i g=zcA n day g:=by
 have bh:=hG.graves g (List.mem_of_getElem? hi);have hn:=zbA bh.good n;have h1:(zah g.holders n != 0)=decide (0<(zah g.holders n).num):=by
  rw[Bool.eq_iff_iff,bne_iff_ne,decide_eq_true_eq,<-zkN];constructor
  ·intro h;exact Rat.lt_of_le_of_ne hn (λe=>h e.symm)
  ·intro h e;rw[e]at h;exact absurd h McU
 have h2:(zaL s g.place day==some i)=zaM g day:=by
  cases hf:zaM g day
  ·cases hx:zaL s g.place day with
   |none=>rfl
   |some j=>
    obtain⟨gj,h3,h4,h5⟩:=zcg hx;cases cd:(some j==some i)
    ·rfl
    ·have e:j=i:=by simpa using cd
     subst e;rw[h3]at hi;simp only[Option.some.injEq]at hi;rw[hi,hf]at h5;cases h5
  ·cases hx:zaL s g.place day with
   |none=>
    have:=zhz hx g (List.mem_of_getElem? hi) rfl;rw[hf]at this;cases this
   |some j=>
    obtain⟨gj,h3,h4,h5⟩:=zcg hx;have:=hG.force j i gj g h3 hi h4 day hl h5 hf;simp[this]
 unfold zdu zcA;rw[h1,h2,Bool.and_comm]
def zd3(n:ByteArray)(h:Parts)(g:Grave)(f:Bool):Parts×Bool:=zei (zah g.holders n) h (setP g.holders n 0,f)
def zfH(n:ByteArray)(day:Int)(h:Parts):List Grave->Bool->List Grave×Bool
 | [],f=>([],f)
 |g::l,f=>if zcA n day g then(⟨g.place,g.cls,g.fin,(zd3 n h g f).1,g.died++[n]⟩::(zfH n day h l (zd3 n h g f).2).1,(zfH n day h l (zd3 n h g f).2).2)else(g::(zfH n day h l f).1,(zfH n day h l f).2)
def zgB{n:ByteArray}{day:Int}{h:Parts}:∀ {l:List Grave} {f:Bool},f=true->(zfH n day h l f).2=true
 | [],_,hf=>hf
 |g::l,f,hf=>by
  rw[zfH];split
  ·exact zgB (zfg (by exact hf))
  ·exact zgB hf
def zma{s:St}{n:ByteArray}{day:Int}{h:Parts}(hh:∀p∈h,0<=p.2):∀ {l:List Grave} {i:Nat},(∀j g,l[j]?=some g->zdu s n day (i+j) g=zcA n day g)->(∀g∈l,GoodG g)->
 (∀gs,zb1 s n day (some h) i l=some gs->zfH n day h l false=(gs,false))/\(zb1 s n day (some h) i l=none->(zfH n day h l false).2=true)
 | [],i,_,_=>by
   rw[zb1,zfH];exact⟨λgs e=>by cases e;rfl,λe=>by cases e⟩
 |g::l,i,hq,hg=>by
  have ih:=zma (s:=s) (n:=n) (day:=day) hh (l:=l) (i:=i+1) (λj g' hj=>by
   have:=hq (j+1) g' Meb;rw[show i+1+j=i+(j+1) by omega]
   exact this) (λg' h'=>hg g' (by simp[h']))
  have h0:=hq 0 g rfl;rw[Nat.add_zero]at h0;rw[zb1,zfH,h0];have bh:=hg g McV;cases uD:zcA n day g
  ·simp only[Bool.false_eq_true,if_false];refine⟨λgs e=>?_,λe=>?_⟩
   ·cases hd:zb1 s n day (some h) (i+1) l with
    |none=>rw[hd]at e;cases e
    |some r=>
     rw[hd]at e;simp only[Option.map_some,Option.some.injEq]at e;rw[ih.1 r hd,<-e]
   ·cases hd:zb1 s n day (some h) (i+1) l with
    |none=>exact ih.2 hd
    |some r=>rw[hd]at e;cases e
  ·simp only[if_true];have hz:setP g.holders n 0=za0 g.holders n:=zhM bh.good.asc n
   obtain⟨g1,g2⟩:=zi1 (zbA bh.good n) hh (zbJ bh.good (n:=n)) (by
    have h1:zaE (setP g.holders n 0)=false:=zeu bh.small McU;rw[<-hz]
    exact h1)
   have hy:zd3 n h g false=zei (zah g.holders n) h (za0 g.holders n,false):=by unfold zd3;rw[hz]
   rw[hy];cases dC:zb8 (zah g.holders n) h (za0 g.holders n)with
   |none=>
    have h3:=g2 dC;refine⟨λgs e=>by simp at e,λ_=>?_⟩;exact zgB h3
   |some o=>
    have h3:=g1 o dC;rw[h3];refine⟨λgs e=>?_,λe=>?_⟩
    ·cases hd:zb1 s n day (some h) (i+1) l with
     |none=>rw[hd]at e;cases e
     |some r=>
      rw[hd]at e;simp only[Option.bind_some,Option.map_some,Option.some.injEq]at e;rw[ih.1 r hd,<-e]
    ·cases hd:zb1 s n day (some h) (i+1) l with
     |none=>exact ih.2 hd
     |some r=>rw[hd]at e;cases e
def zmb{s:St}{n:ByteArray}{day:Int}{h:Option Parts}:∀ {l:List Grave} {i:Nat},(∀j g,l[j]?=some g->zdu s n day (i+j) g=zcA n day g)->(l.any (zcA n day)=false->zb1 s n day h i l=some l)/\(h=none->l.any (zcA n day)=true->zb1 s n day h i l=none)
 | [],i,_=>by
   have e:zb1 s n day h i []=some []:=by simp[zb1]
   rw[e];exact⟨λ_=>rfl,λ_ e=>by cases e⟩
 |g::l,i,hq=>by
  have ih:=zmb (s:=s) (n:=n) (day:=day) (h:=h) (l:=l) (i:=i+1) (λj g' hj=>by
   have:=hq (j+1) g' Meb;rw[show i+1+j=i+(j+1) by omega]
   exact this)
  have h0:=hq 0 g rfl;rw[Nat.add_zero]at h0;unfold zb1;rw[h0,List.any_cons];cases uD:zcA n day g
  ·simp only[Bool.false_eq_true,if_false,Bool.false_or];exact⟨λe=>by rw[ih.1 e];rfl,λe1 e2=>by rw[ih.2 e1 e2];rfl⟩
  ·simp only[if_true,Bool.true_or];refine⟨λe=>(by cases e),λe _=>?_⟩;subst e;rfl
variable{laws:List Law}{d:Deed}
def deathP_eq(hG:GoodSt s last)(hl:last<=d.day)(hw:za8 16 (zbc laws d.day).num (zbc laws d.day).den=true):
 zdM laws s d=if zaN s d.frm then(s,28)else if s.graves.any (zcA d.frm d.day)then
  (if(zfH d.frm d.day (zcj s (zbc laws d.day) d.frm).1 s.graves (zcj s (zbc laws d.day) d.frm).2).2 then(s,8)else
    ({s with graves:=(zfH d.frm d.day (zcj s (zbc laws d.day) d.frm).1 s.graves (zcj s (zbc laws d.day) d.frm).2).1,dead:=s.dead++[d.frm]},0))
  else({s with dead:=s.dead++[d.frm]},0):=by
 have hq:∀j g,s.graves[j]?=some g->zdu s d.frm d.day (0+j) g=zcA d.frm d.day g:=λj g hj=>by rw[Nat.zero_add];exact held_same hG hl hj
 obtain⟨e1,e2⟩:=zfV (s:=s) (n:=d.frm) (hG.wills d.frm) hw;have hn:=zmb (s:=s) (n:=d.frm) (day:=d.day) (h:=zcM s (zbc laws d.day) d.frm) hq;unfold zdM;cases hd:zaN s d.frm
 ·simp only[Bool.false_eq_true,if_false];cases ha:s.graves.any (zcA d.frm d.day)
  ·rw[hn.1 ha];simp
  ·simp only[if_true];cases he:zcM s (zbc laws d.day) d.frm with
   |none=>
    rw[he]at hn;rw[hn.2 rfl ha,if_pos (zgB (e2 he))]
   |some h=>
    have bB:=ze7 (hG.wills d.frm) hw he;obtain⟨f1,f2⟩:=zma (s:=s) (n:=d.frm) (day:=d.day) (h:=h) (λp hp=>by have:=bB.1.pos p hp;grind) hq hG.graves;rw[e1 h he];cases hx:zb1 s d.frm d.day (some h) 0 s.graves with
    |none=>
     simp only;rw[if_pos (f2 hx)]
    |some gs=>
     simp only;rw[f1 gs hx];simp
 ·simp
def zbf(n:ByteArray)(day:Int):Nat->List Grave->List Nat
 |_,[]=>[]
 |k,g::l=>if zcA n day g then k::zbf n day (k+1) l else zbf n day (k+1) l
def ziU(n:ByteArray)(day:Int):∀(k:Nat) (a b:List Grave),zbf n day k (a++b)=zbf n day k a++zbf n day (k+a.length) b
 |k,[],b=>by simp[zbf]
 |k,g::a,b=>by
  rw[List.cons_append,zbf,zbf,ziU n day (k+1) a b,List.length_cons];rw[show k+1+a.length=k+(a.length+1) by omega];split<;>simp
variable{k:Nat}
def held_snoc(n:ByteArray)(day:Int)(gs:List Grave)(h:k<gs.length):zbf n day 0 (gs.take (k+1))=zbf n day 0 (gs.take k)++if zcA n day gs[k]then[k]else[]:=by
 rw[List.take_succ_eq_append_getElem h,ziU,Nat.zero_add,List.length_take,Nat.min_eq_left McS,zbf,zbf]
def zfB(n:ByteArray)(day:Int):∀(k:Nat) (l:List Grave),(zbf n day k l).length=(l.filter (zcA n day)).length
 |_,[]=>rfl
 |k,g::l=>by
  rw[zbf,List.filter_cons];split<;>simp[zfB n day (k+1) l]
def zo4(n:ByteArray)(day:Int):∀(l:List Grave) (k j i:Nat),(zbf n day k l)[j]?=some i->k<=i/\∃g,l[i-k]?=some g/\(l.filter (zcA n day))[j]?=some g
 | [],k,j,i,h=>by simp[zbf]at h
 |g::l,k,j,i,h=>by
  rw[zbf]at h;rw[List.filter_cons];cases hq:zcA n day g
  ·rw[hq]at h;simp only[Bool.false_eq_true,if_false]at h⊢;exact Mbc
  ·rw[hq]at h;simp only[if_true]at h⊢;cases j with
   |zero=>
    simp only[List.getElem?_cons_zero,Option.some.injEq]at h;subst h;exact⟨Qc,g,by simp,by simp⟩
   |succ j=>
    simp only[List.getElem?_cons_succ]at h⊢;exact Mbc
def zcZ(n:ByteArray)(h:Parts):List Grave->Bool->List Grave×Bool
 | [],f=>([],f)
 |g::l,f=>(⟨g.place,g.cls,g.fin,(zd3 n h g f).1,g.died++[n]⟩::(zcZ n h l (zd3 n h g f).2).1,(zcZ n h l (zd3 n h g f).2).2)
def ziV(n:ByteArray)(h:Parts):∀(a b:List Grave) (f:Bool),zcZ n h (a++b) f=((zcZ n h a f).1++(zcZ n h b (zcZ n h a f).2).1,(zcZ n h b (zcZ n h a f).2).2)
 | [],b,f=>by simp[zcZ]
 |g::a,b,f=>by
  rw[List.cons_append,zcZ,ziV n h a b,zcZ];simp
def next_snoc(n:ByteArray)(h:Parts)(l:List Grave)(f:Bool)(hk:k<l.length):zcZ n h (l.take (k+1)) f=((zcZ n h (l.take k) f).1++[⟨l[k].place,l[k].cls,l[k].fin,(zd3 n h l[k] (zcZ n h (l.take k) f).2).1,l[k].died++[n]⟩],(zd3 n h l[k] (zcZ n h (l.take k) f).2).2):=by
 rw[List.take_succ_eq_append_getElem hk,ziV,zcZ,zcZ]
def zkO(n:ByteArray)(h:Parts):∀(l:List Grave) (f:Bool),(zcZ n h l f).1.length=l.length
 | [],_=>rfl
 |g::l,f=>by rw[zcZ];simp[zkO n h l]
def zd4:List Grave->List Nat->List Grave->List Grave
 |gs,i::H,x::X=>zd4 (gs.set i x) H X
 |gs,_,_=>gs
def ziW:∀(H:List Nat) (X:List Grave) (gs:List Grave) (i:Nat) (x:Grave),H.length=X.length->zd4 gs (H++[i]) (X++[x])=(zd4 gs H X).set i x
 | [],[],gs,i,x,_=>rfl
 | [],_::_,_,_,_,h=>by cases h
 |_::_,[],_,_,_,h=>by cases h
 |j::H,y::X,gs,i,x,h=>by
  rw[List.cons_append,List.cons_append,zd4,zd4];exact ziW H X _ i x MdG
def zjZ:∀(H:List Nat) (X gs:List Grave),(zd4 gs H X).length=gs.length
 | [],_,_=>by simp[zd4]
 |_::_,[],_=>by simp[zd4]
 |j::H,y::X,gs=>by rw[zd4,zjZ H X];simp
def zfZ(n:ByteArray)(day:Int)(h:Parts):∀(l A:List Grave) (f:Bool),zd4 (A++l) (zbf n day A.length l) (zcZ n h (l.filter (zcA n day)) f).1=A++(zfH n day h l f).1/\(zcZ n h (l.filter (zcA n day)) f).2=(zfH n day h l f).2
 | [],A,f=>by simp[zbf,zcZ,zfH,zd4]
 |g::l,A,f=>by
  rw[zbf,List.filter_cons,zfH];cases hq:zcA n day g
  ·simp only[Bool.false_eq_true,if_false];have:=zfZ n day h l (A++[g]) f;rw[List.length_append,List.length_singleton,List.append_assoc,List.singleton_append]at this;exact⟨by rw[this.1];simp,this.2⟩
  ·simp only[if_true];rw[zcZ,zd4];have:=zfZ n day h l (A++[⟨g.place,g.cls,g.fin,(zd3 n h g f).1,g.died++[n]⟩]) (zd3 n h g f).2;rw[List.length_append,List.length_singleton,List.append_assoc,List.singleton_append]at this;have e:(A++g::l).set A.length ⟨g.place,g.cls,g.fin,(zd3 n h g f).1,g.died++[n]⟩=A++⟨g.place,g.cls,g.fin,(zd3 n h g f).1,g.died++[n]⟩::l:=by
    rw[List.set_append_right _ _ Qc,Nat.sub_self,List.set_cons_zero]
   exact⟨by rw[e,this.1];simp,this.2⟩
structure FewS (k:Nat) (s:St):Prop where
 graves:s.graves.length<=k
 kids:s.children.length<=k
 marr:s.marriages.length<=k
 dead:s.dead.length<=k
 ren:s.renounce.length<=k
 wills:∀n,(zbv s n).length<=8
 held:∀g∈s.graves,g.holders.length<=80*k/\g.died.length<=k/\g.fin<=200000
def zkP(day years:Int):zcf day years<=200000:=by
 unfold zcf zbR;simp only;split
 ·decide
 ·split
  ·rename_i h
   have:=(zf4.1 h).2;omega
  ·decide
def zgC:FewS 0 zb3:=⟨Qc,Qc,Qc,Qc,Qc,λn=>by simp[zb3,zbv],by simp[zb3]⟩
def FewS.up(h:FewS k s):FewS (k+1) s:=
 ⟨Nat.le_succ_of_le h.graves,Nat.le_succ_of_le h.kids,Nat.le_succ_of_le h.marr,Nat.le_succ_of_le h.dead,Nat.le_succ_of_le h.ren,h.wills,λg hg=>by have:=h.held g hg;exact⟨by omega,by omega,this.2.2⟩⟩
def zdU(l:Parts)(n:ByteArray):(za0 l n).length<=l.length:=List.length_filter_le _ _
def zkQ{own:Rat}:∀ {l out o:Parts},zb8 own l out=some o->o.length<=out.length+l.length
 | [],out,o,h=>by
   rw[zb8]at h;cases h;simp
 |p::l,out,o,h=>by
  rw[zb8]at h;split at h
  ·cases h
  split at h
  ·cases h
  have:=zkQ h;have h2:=zcz p.1 (own*p.2) out;simp;omega
def FewS.withG{g':Grave}(h:FewS k s)(hi:s.graves[i]?=some g)(h1:g'.holders.length<=80*k+80)(h2:g'.died.length<=k+1)(h3:g'.fin<=200000):FewS (k+1) (s.withGrave i g'):=by
 refine {h.up with graves:= ?_,held:=λx hx=>?_}
 ·unfold St.withGrave;simp only[List.length_set];exact Nat.le_succ_of_le h.graves
 ·unfold St.withGrave at hx;rcases List.mem_or_eq_of_mem_set hx with hx|rfl
  ·exact h.up.held x hx
  ·exact⟨by omega,h2,h3⟩
def zh7{pl:ByteArray}(h:zaL s pl day=some i):∃g,s.graves[i]?=some g/\s.graves.getD i zfO=g/\g∈s.graves:=by
 obtain⟨g,h1,_⟩:=zcg h;exact⟨g,h1,zf5 h1,List.mem_of_getElem? h1⟩
def zkR{s':St}(h:FewS k s)(hk:k<60)(hG:GoodSt s last)(hd:OkD d)(hl:last<=d.day)(bH:zaC laws=0)(ht:zbp laws s d=(s',0)):FewS (k+1) s':=by
 have iX:=hd.len;have ck:=hd.kind;unfold zbp at ht;split at ht
 ·unfold zcR at ht;split at ht
  ·simp at ht
  split at ht
  ·simp at ht
  split at ht
  ·simp at ht
  simp only[Prod.mk.injEq,and_true]at ht;rw[<-ht];refine {h.up with graves:= ?_,held:=λg hg=>?_}
  ·have:=h.graves;simp;omega
  ·rcases List.mem_append.1 hg with hg|hg
   ·exact h.up.held g hg
   ·rw[List.mem_singleton.1 hg];have:=zfk d.to [];simp only[List.length_nil]at this⊢;refine⟨by omega,Nat.zero_le _,?_⟩;split
    ·exact zkP _ _
    ·decide
 split at ht
 ·unfold zbo at ht;split at ht
  ·simp at ht
  rename_i i hi
  obtain⟨g,bX,cj,pg⟩:=zh7 hi;rw[cj]at ht;simp only at ht;split at ht
  ·simp at ht
  split at ht
  ·simp at ht
  split at ht
  ·simp at ht
  split at ht
  ·simp at ht
  split at ht
  ·simp at ht
  rename_i out ho
  simp only[Prod.mk.injEq,and_true]at ht;rw[<-ht];have h1:=zkQ ho;have h2:=zcz d.frm (zah g.holders d.frm*(1-sumQ (zaq d.to))) (za0 g.holders d.frm);have h3:=zdU g.holders d.frm;have h4:=h.held g pg;have h5:(zaq d.to).length=d.to.length:=by unfold zaq;simp
  exact h.withG bX Mei Mei Mei
 split at ht
 ·unfold zbb at ht;split at ht
  ·simp at ht
  rename_i i hi
  obtain⟨g,bX,cj,pg⟩:=zh7 hi;rw[cj]at ht;simp only at ht;split at ht
  ·simp at ht
  split at ht
  ·simp at ht
  simp only[Prod.mk.injEq,and_true]at ht;rw[<-ht];have h3:=zdU g.holders d.frm;have h4:=h.held g pg;exact h.withG bX (by simp only[List.length_map];omega) Mei Mei
 split at ht
 ·unfold zdc at ht;split at ht
  ·simp at ht
  rename_i i hi
  obtain⟨g,bX,cj,pg⟩:=zh7 hi;rw[cj]at ht;simp only at ht;split at ht
  ·simp at ht
  split at ht
  ·simp at ht
  simp only[Prod.mk.injEq,and_true]at ht;rw[<-ht];have h4:=h.held g pg;exact h.withG bX Mei Mei (zkP _ _)
 split at ht
 ·unfold zgU at ht;split at ht
  ·simp at ht
  simp only[Prod.mk.injEq,and_true]at ht;rw[<-ht];refine {h.up with wills:=λn=>?_};rw[zfR];split
  ·unfold zaq;simpa using iX
  ·exact h.wills n
 split at ht
 ·unfold zb9 at ht;split at ht
  ·simp at ht
  split at ht
  ·simp at ht
  simp only[Prod.mk.injEq,and_true]at ht;rw[<-ht];exact {h.up with ren:=by have:=h.ren;simp;omega}
 split at ht
 ·unfold zcG at ht;split at ht
  ·simp at ht
  split at ht
  ·simp at ht
  split at ht
  ·simp at ht
  simp only[Prod.mk.injEq,and_true]at ht;rw[<-ht];exact {h.up with kids:=by have:=h.kids;simp;omega}
 split at ht
 ·unfold zdt at ht;split at ht
  ·simp at ht
  split at ht
  ·simp at ht
  simp only[Prod.mk.injEq,and_true]at ht;rw[<-ht];exact {h.up with marr:=by have:=h.marr;simp;omega}
 ·unfold zdM at ht;split at ht
  ·simp at ht
  split at ht
  ·simp at ht
  rename_i gs aI
  simp only[Prod.mk.injEq,and_true]at ht;rw[<-ht];obtain⟨ag,im⟩:=zmR aI;refine {h.up with graves:=by have:=h.graves;simp only;omega,dead:=by have:=h.dead;simp;omega,held:=λx hx=>?_};obtain⟨i,hi⟩:=List.mem_iff_getElem?.1 hx;obtain⟨g,g1,g2⟩:=im i x hi;have h4:=h.held g (List.mem_of_getElem? g1);rcases g2 with⟨rfl,_⟩|⟨_,hs,out,e1,e2,rfl⟩
  ·exact h.up.held x (List.mem_of_getElem? g1)
  ·have h1:=zkQ e2;have h3:=zdU g.holders d.frm;have bS:=zfc bH d.day;have bB:=ze7 (hG.wills d.frm) bS e1;have iv:=(zfV (s:=s) (n:=d.frm) (hG.wills d.frm) bS).1 hs e1;have lL:=ziR (s:=s) (law:=zbc laws d.day) (n:=d.frm) (by rw[iv];exact bB.1);rw[iv]at lL;have:=h.wills d.frm;have:=h.kids;simp only[List.length_append,List.length_singleton]at*;exact⟨by omega,by omega,h4.2.2⟩
abbrev Spot:=ByteArray×Int
def eqSp(a b:Spot):Bool:=zae a.1 b.1&&a.2==b.2
def zfC{a b:Spot}:eqSp a b=true↔a=b:=by
 obtain⟨a1,a2⟩:=a;obtain⟨b1,b2⟩:=b;simp[eqSp,za2]
def eqSp_refl(a:Spot):eqSp a a=true:=zfC.2 rfl
def eqSp_sym(a b:Spot):eqSp a b=eqSp b a:=by rw[Bool.eq_iff_iff,zfC,zfC];exact⟨Eq.symm,Eq.symm⟩
def ziX{V:Type}{k n:Spot}{v:V}:∀ {m:List (Spot×V)},mget eqSp n (mput eqSp k v m)=if eqSp n k then some v else mget eqSp n m
 | []=>rfl
 |x::m=>by
  rw[mput];cases hk:eqSp k x.1
  ·simp only[Bool.false_eq_true,if_false];rw[mget,mget,ziX (m:=m)];cases hn:eqSp n x.1
   ·simp
   ·have e:=zfC.1 hn;subst e;rw[eqSp_sym,hk];simp
  ·simp only[if_true];have e:=zfC.1 hk;rw[mget,mget,<-e];cases hn:eqSp n k<;>simp
def ekSp(s:Spot):Value:=.agg #[.string s.1,.int .i64 s.2]
def equal_sp(a:ByteArray)(c:Int)(a':ByteArray)(c':Int)(w:World):(Op.equal 161 (.agg #[.string a,.int .i64 c]) (.agg #[.string a',.int .i64 c'])).run Tryz.prog w=.ok (zae a a'&&c==c') w:=by
 simp only[Op.equal,Op.maxDepth];go_simp
 unfold zae;by_cases h1:a.toList=a'.toList<;>by_cases h2:c=c'<;>simp[h1,h2]
def zpu(v:Value)(e:MapEntry)(es:List MapEntry)(fs:Array Field)(i:Nat):Instr.findNow (.struct fs) v (e::es) i=none:=by
 unfold Instr.findNow;cases v<;>simp[Instr.sameNow]
def zgD{V:Type}(ev:V->Value)(p:Spot)(w:World):∀(es:List MapEntry) (m:List (Spot×V)),es.map (λe=>(e.key,e.val))=m.map (λp=>(ekSp p.1,ev p.2))->∀i,
 (Instr.findAsking 161 (ekSp p) es i).run Tryz.prog w=.ok ((locate eqSp p m i).map λp=>(p.1,ev p.2)) w
 | [],[],_,_=>by simp[Instr.findAsking,locate]
 | [],_::_,h,_=>by simp at h
 |_::_,[],h,_=>by simp at h
 |e::es,q::m,h,i=>by
  simp only[List.map_cons,List.cons.injEq,Prod.mk.injEq]at h;obtain⟨⟨hk,hv⟩,ht⟩:=h;unfold Instr.findAsking locate;have h1:=equal_sp p.1 p.2 q.1.1 q.1.2 w;have h2:=zgD ev p w es m ht (i+1);rw[hk,hv];simp only[ekSp]at h1 h2⊢;simp only[Sem.run_bind,h1,Result.andThen_ok];change Sem.run _ (if(eqSp p q.1)=true then _ else _) w=_;cases hq:eqSp p q.1
  ·simpa using h2
  ·simp
def zns(e:Bool)(p:Spot)(w:World):(Instr.checkKey e 10000 161 (ekSp p)).run Tryz.prog w=.ok () w:=by
 obtain⟨a,c⟩:=p;cases e<;>kernel_rfl
def znt(a:ByteArray)(c:Int):Instr.sameBits 10000 (.agg #[.string a,.int .i64 c]) (.agg #[.string a,.int .i64 c])=true:=by
 have h2:∀n,Instr.sameBits (n+1) (.agg #[.string a,.int .i64 c]) (.agg #[.string a,.int .i64 c])=true:=λn=>by
  have h:∀n (k:IntKind) (x:Int),Instr.sameBits n (.int k x) (.int k x)=true:=λn k x=>by cases n<;>simp[Instr.sameBits]
  simp[Instr.sameBits,zgR,beq_toListBytes,h]
 exact h2 9999
variable{t et:TypeId}
def zo5{V:Type}{ev:V->Value}{z:V}(ht:Tryz.prog.underlying t=some (.map 161 et))(hz:∀w,(zeroValue et).run Tryz.prog w=.ok (ev z) w):MapTy Tryz.prog t 161 et ekSp ev z eqSp where
 ht:=ht
 hz:=hz
 hck:=zns
 hfind:=λk es m h w=>by
  have hu:∃fs,Tryz.prog.underlying 161=some (.struct fs):=⟨_,Tryz.underlying161⟩
  obtain⟨fs,hu⟩:=hu;match es,m,h with
  | [],[],_=>simp[Instr.findKey,run_underlying hu,Instr.findNow,locate]
  | [],_::_,h=>simp at h
  |e::es,m,h=>
   simp only[Instr.findKey,Sem.run_bind,run_underlying hu,Result.andThen_ok,zpu];exact zgD ev k w (e::es) m h 0
 hsame:=λk k' h=>by
  have e:=zfC.1 h;subst e;exact znt k.1 k.2
def mapPV:MapTy Tryz.prog 158 161 3 ekSp (λv:Value=>v) (.int .i64 0) eqSp:=zo5 Tryz.underlying158 (λw=>by kernel_rfl)
def mapPM:MapTy Tryz.prog 159 161 66 ekSp (λv:Value=>v) (.map none) eqSp:=zo5 Tryz.underlying159 (λw=>by kernel_rfl)
def znu(n:ByteArray)(w:World):(Instr.lookup 66 (.map none) (.string n) false).run Tryz.prog w=.ok (.bool false) w:=by
 kernel_rfl
def zka{K V:Type}{eq:K->K->Bool}{k:K}:∀ {m:List (K×V)} {i j:Nat} {v:V},locate eq k m i=some (j,v)->(m[j-i]?).map (·.2)=some v
 | [],_,_,_,h=>by cases h
 |p::l,i,j,v,h=>by
  unfold locate at h;split at h
  ·simp only[Option.some.injEq,Prod.mk.injEq]at h;obtain⟨rfl,rfl⟩:=h;simp
  ·obtain⟨h1,_⟩:=zdL h;have e:j-i=(j-(i+1))+1:=McS;rw[e];simpa using zka h
variable{P:Program}{w:World}{b:Nat}
def zkS{kt:TypeId}{K:Type}{ek:K->Value}{z:Value}{eq:K->K->Bool}{m:List (K×Value)}(T:MapTy P t kt et ek (λv:Value=>v) z eq)(h:MapS w b ek (λv:Value=>v) m)(k:K):
 ∃w' st j,(Instr.mapEntry t (.map (some b)) (ek k)).run P w=.ok (.tuple #[(mget eq k m).getD z,.int .i64 (st:Nat)]) w'/\StampAt w' b ek (mput eq k ((mget eq k m).getD z) m) j st/\(∀v,(mput eq k ((mget eq k m).getD z) m).set j (k,v)=mput eq k v m)/\((mput eq k ((mget eq k m).getD z) m)[j]?).map (·.1)=some k/\w.grownBy w' (some b)/\w'.heap.size=w.heap.size:=by
 obtain⟨es,c,hh,hm,hb,hn⟩:=h;have h1:=T.hfind k es.toList m hm w;have ae:=(Array.getElem?_eq_some_iff.1 hh).1;have eQ:=zfy eq k m 0;cases hl:locate eq k m 0 with
 |none=>
  rw[hl]at eQ;rw[<-eQ];have hp:=λv'=>ze1 hl v'
  refine⟨_,c,m.length,?_,?_,?_,by rw[hp];simp,zgy w b (.map (es.push {key:=ek k,val:=z,born:=c}) (c+1)),by simp⟩
  ·exact MbK
  ·refine⟨es.push {key:=ek k,val:=z,born:=c},c+1,by simp[Array.getElem?_setIfInBounds,ae],?_,?_,?_,?_⟩
   ·rw[hp];simp[hm]
   ·exact Ma3
   ·exact Mau
   ·exact MbS
  ·intro v;rw[hp,hp,List.set_append_right _ _ Qc];simp
 |some p=>
  obtain⟨j,u⟩:=p;rw[hl]at eQ;rw[<-eQ];have sY:=zka hl;obtain⟨_,q,hq,he,fC⟩:=zdL hl;simp only[Nat.sub_zero]at hq fC sY;rw[hq]at sY;simp only[Option.map_some,Option.some.injEq]at sY;have hj:j<m.length:=(List.getElem?_eq_some_iff.1 hq).1;have ag:es.toList.length=m.length:=MdV;have ee:j<es.size:=by
   have h0:es.size=m.length:=by simpa using ag
   omega
  have pi:(es[j]).key=ek q.1:=by
   exact MbY
  have iZ:(es[j]).val=u:=by
   have:=congrArg (λl=>l[j]?) hm;simp[List.getElem?_map,hq,ee]at this;rw[<-sY];exact this.2
  have dX:(es.modify j λe=> {e with key:=ek k}).toList.map (·.born)=es.toList.map (·.born):=by
   exact M9
  refine⟨_,(es[j]).born,j,?_,?_,?_,by rw[fC];simp[hj],zgy w b (.map (es.modify j λe=> {e with key:=ek k}) c),by simp⟩
  ·exact Ma5
  ·rw[Option.map_some,Option.getD_some,fC];exact MM
  ·intro v;rw[Option.map_some,Option.getD_some,fC,fC,List.set_set]
variable{j:Nat}
def StampAt.mapAt{K:Type}{ek:K->Value}{m:List (K×Value)}{st:Nat}(h:StampAt w b ek m j st):MapAt w b ek (λv:Value=>v) m:=by
 obtain⟨es,c,h1,h2,_⟩:=h;exact⟨es,c,h1,h2⟩
def znv{ops:Array Oper}{o:Oper}{a:Act}{K:Act->World->Prop}{Q:Exit->Act->World->Prop}{E:Prop}{T:TypeId}(bB:o.guard=none)(x i u:Operand)(ho:o.op=.mapUpdate T x i u)(vx vi vu:Value)(hx:a.eval x=vx)(hi:a.eval i=vi)(hu:a.eval u=vu)(w':World)
 (hrun:(Instr.mapUpdate T vx vi vu).run P w=.ok () w')(h:K (a.put o.dst undef) w'):if Region.wanted o (yielded ops a.tmps)=true then Oper.wp P o a w K Q else E:=by
 exact Mai
section
open Go.Shelf
attribute [local go_sem] zao zac
def zh8:List Rec->List Rec->Bool
 |_,[]=>false
 |pre,a::r=>pre.any (λb=>zbD a b)||zh8 (pre++[a]) r
def zmc:∀(l pre:List Rec),zh8 pre l=((l.any λa=>pre.any λb=>zbD a b)||zkq l)
 | [],pre=>by simp[zh8,zkq]
 |a::r,pre=>by
  rw[zh8,zmc r (pre++[a]),zkq,List.any_cons];have h:(r.any λa'=>(pre++[a]).any λb=>zbD a' b)=((r.any λa'=>pre.any λb=>zbD a' b)||r.any λy=>zbD y a):=by
   induction r with
   |nil=>rfl
   |cons x r ih=>
    rw[List.any_cons,List.any_cons,List.any_cons,ih,List.any_append,List.any_cons,List.any_nil,Bool.or_false];cases pre.any (λb=>zbD x b)<;>cases zbD x a<;>cases(r.any λa'=>pre.any λb=>zbD a' b)<;>rfl
  rw[h];cases pre.any (λb=>zbD a b)<;>cases(r.any λa'=>pre.any λb=>zbD a' b)<;>cases(r.any λy=>zbD y a)<;>simp
def sl_take5{α:Type}{w:World}{size:Nat}{f:α->List Value}{A:Option Addr}{xs:List α}(h:Sl w size f A xs)(k:Nat):Sl w size f A (xs.take k):=λhl=>by
 obtain⟨b,off,hA,hb,hc⟩:=h (by rw[List.length_take]at hl;omega);refine⟨b,off,hA,hb,λj x hx=>hc j x ?_⟩;rw[List.getElem?_take]at hx;split at hx
 ·exact hx
 ·cases hx
def conC_any(a b:Rec)(P:Nat)(w:World)(ha:0<=a.kind/\a.kind<=4)(hb:0<=b.kind/\b.kind<=4)(hP:w.heap[P]?=some (recO a)):Calls Tryz.prog 69 #[b.v,.pointer (some ⟨P,0,none⟩)] w (Ret w (.bool (zbD a b))):=by
 have HA:=zHi (λW=>znc a b W ha hb);generalize zbD a b=r at*;obtain⟨kd,nm,ot,pl,dy,tl,nu,de⟩:=a;obtain⟨kd2,nm2,ot2,pl2,dy2,tl2,nu2,de2⟩:=b;have hl:=zab hP;have hn:P≠w.heap.size:=McS;unfold recO at hP;obtain⟨c0,c1,c2,c3,c4,c5,c6,c7⟩:=cF8 hP;clear hP ha hb;unfold Rec.v at HA⊢;go_enter Tryz.func69,Tryz.ntmps69
 go_wp2_with (go_at_call 70;go_must(refine(HA.o _).mono ?_);rintro e wq ⟨rfl,z,rfl⟩)
 go_ret
 exact Ret.of rfl Bw
def zj3(l:List Rec)(A:Option Addr)(c:Nat)(ci tm:Bool)(w:World)(hc:l.length<=c)(hl:l.length<=1000)(hk:∀x∈l,0<=x.kind/\x.kind<=4)(hS:Sl w 8 Rec.cells A l)
 (uw:∀W,Qa w W->Calls Tryz.prog 71 #[.slice A l.length c] W (Ret W (.bool ci)))(pH:∀W,Qa w W->Calls Tryz.prog 72 #[.slice A l.length c] W (Ret W (.bool tm))):
 Calls Tryz.prog 39 #[.slice A l.length c] w (Ret w (.bool (zkq l||ci||tm))):=by
 have eg:∀args w,(callFunc 69 args).run Tryz.prog w=.ok (.enter 69 args) w:=enters_of Tryz.func69 McT rfl;obtain⟨IS,HS,HK,Fa,Fy⟩:=yH5 eg hS hk uw pH;have jl:zkq l=zh8 (l.take 0) (l.drop 0):=by rw[List.take_zero,List.drop_zero,zmc];simp
 generalize zkq l=R at*;have HP:=zHi jl;clear hS hk uw pH eg jl;go_enter Tryz.func39,Tryz.ntmps39
 go_wp2_with fail
 go_loopw [7] (λi wr=>∃k:Nat,k<=l.length/\i=.int .i64 k/\Hid (R=zh8 (l.take k) (l.drop k))/\Qa w wr) (λi _=>l.length-(intOf i).toNat)
 case atStart=>exact⟨0,Nat.zero_le _,rfl,HP.o,Qb⟩
 case round=>
  obtain⟨k,hk,rfl,HX,hB⟩:=hrel;have HB:=zHi hB;have aM:=hB.size;by_cases ae:k<l.length
  ·have hx:=HX.o;rw[List.drop_eq_getElem_cons ae,zh8,<-List.take_succ_eq_append_getElem ae]at hx;have xo:∀W,Qa wr W->W.heap[wr.heap.size]?=some (recO l[k])->Calls Tryz.prog 68 #[.slice A k c,.func (.func 69) #[] #[.pointer (some ⟨wr.heap.size,0,none⟩)]] W (Ret W (.bool ((l.take k).any λb=>zbD l[k] b))):=λW hW hP=>by
    refine cfRec_any 69 _ IS.o _ A k c (l.take k) W MdC MdC ((sl_take5 HS.o k).keep (HB.o.trans (hW.mono aM))) λx hx W' qb=>?_
    refine(conC_any l[k] x wr.heap.size W' (HK.o _ (List.getElem_mem ae)) (HK.o x (List.mem_of_mem_take hx)) ((qb.block _ (zab hP)).trans hP)).mono ?_;rintro e wq ⟨rfl,z,rfl⟩;exact⟨rfl,qb.trans ((zan W' z).mono qb.size)⟩
   obtain⟨b,off,hA,hb,ah⟩:=(HS.o.keep hB).at ae;obtain⟨aw,tN,aj⟩:=yH3 hx xo ae;generalize l[k]=x at*;generalize((l.take k).any λb=>zbD x b)=an at*;obtain⟨kd,nm,ot,pl,dy,tl,nu,de⟩:=x;have i0:wr.cell? ⟨b,off+k*8,none⟩=some (.int .i64 kd):=ah 0 _ rfl;have i1:wr.cell? ⟨b,off+k*8+1,none⟩=some (.string nm):=ah 1 _ rfl;have i2:wr.cell? ⟨b,off+k*8+2,none⟩=some (.string ot):=ah 2 _ rfl;have i3:wr.cell? ⟨b,off+k*8+3,none⟩=some (.string pl):=ah 3 _ rfl;have i4:wr.cell? ⟨b,off+k*8+4,none⟩=some (.int .i64 dy):=ah 4 _ rfl;have i5:wr.cell? ⟨b,off+k*8+5,none⟩=some (.int .i64 tl):=ah 5 _ rfl;have i6:wr.cell? ⟨b,off+k*8+6,none⟩=some (.int .i64 nu):=ah 6 _ rfl;have i7:wr.cell? ⟨b,off+k*8+7,none⟩=some (.int .i64 de):=ah 7 _ rfl;have au:(k:Int)<(l.length:Int):=McS;have aR:(0:Int)<=(k:Int):=McS;have fZ:(k:Int)<=(c:Int):=McS;subst hA;clear ah hx xo HX hB;cases an
   ·go_wp2_with (go_at_call 68;go_must(refine(tN.o _ Bw (zas _ _ _ rfl)).mono ?_);rintro e wq ⟨rfl,z,rfl⟩)
    go_round
    case rel=>exact⟨k+1,aj.o,by go_num,by show _=_;rw[aw.o,Bool.false_or],HB.o.trans (Below.mono (B:=wr.heap.size) Bw aM)⟩
    case measure=>have:=aj.o;simp only[intOf];omega
   ·have cn:Hid (R=true):=by show _=_;rw[aw.o,Bool.true_or]
    go_wp2_with (go_at_call 68;go_must(refine(tN.o _ Bw (zas _ _ _ rfl)).mono ?_);rintro e wq ⟨rfl,z,rfl⟩)
    exact MaN
  ·have au:¬(k:Int)<(l.length:Int):=McS;have hx:=HX.o;rw[List.drop_eq_nil_of_le McS,zh8]at hx;have cn:Hid (R=false):=hx;clear hx;have uw:=λW (hW:Qa wr W)=>Fa.o W (hB.trans (hW.mono aM))
   have pH:=λW (hW:Qa wr W)=>Fy.o W (hB.trans (hW.mono aM))
   obtain⟨uZ,JB⟩:=yH2 uw pH;clear uw pH hB Fa Fy;cases ci
   ·go_wp2_with (first
     |(go_at_call 71;go_must(refine(uZ.o _ Bw).mono ?_);rintro e wq ⟨rfl,z,rfl⟩)
     |(go_at_call 72;go_must(refine(JB.o _ Bw).mono ?_);rintro e wq2 ⟨rfl,z2,rfl⟩))
    exact MaN
   ·go_wp2_with (go_at_call 71;go_must(refine(uZ.o _ Bw).mono ?_);rintro e wq ⟨rfl,z,rfl⟩)
    exact MaN
end
def zC(n:Int):List Value:=[.int .i64 n]
def zed(n:Int):(zC n).length=1:=rfl
def zC_one(n:Int):∀u∈zC n,u.oneCell'=true:=by simp[zC,Value.oneCell']
def zc3(n lo hi:Int)(w:World):
 Calls Tryz.prog 58 #[.int .i64 n,.int .i64 lo,.int .i64 hi] w (Ret0 w (.bool (inR n lo hi))):=by
 go_enter Tryz.func58,Tryz.ntmps58
 go_wp2
 all_goals go_ret
 all_goals(refine⟨?_,rfl⟩;simp[inR, *])
 omega
def zkb(n:Int)(w:World):Calls Tryz.prog 56 #[.int .u8 n] w (Ret0 w (.bool (zda n))):=by
 go_enter Tryz.func56,Tryz.ntmps56
 go_wp2
 all_goals go_ret
 all_goals refine⟨?_,rfl⟩
 all_goals refine znW ?_
 all_goals go_tidy
 all_goals simp[zda]
 all_goals omega
def zmd(n:Int)(w:World):Calls Tryz.prog 57 #[.int .u8 n] w (Ret0 w (.bool (zln n))):=by
 go_enter Tryz.func57,Tryz.ntmps57
 go_wp2
 all_goals go_ret
 all_goals refine⟨?_,rfl⟩
 all_goals refine znW ?_
 all_goals go_tidy
 all_goals simp[zln]
 all_goals omega
open Go.Shelf
attribute [local go_sem] zao zac
def zhE(p:RPart):Bool:=p.num==0&&p.den==0
def rBare_any(l:List RPart)(A:Option Addr)(c:Nat)(w:World)(hl:l.length<=1000000000)(hS:Sl w 3 RPart.cells A l):Calls Tryz.prog 127 #[.slice A l.length c] w (Ret0 w (.bool (l.all zhE))):=by
 have HS:=zHi hS;obtain⟨R,hR⟩:=Qd (l.all zhE)
 rw[<-hR];have HR:Hid (R=(l.drop 0).all zhE):=MeL;clear hS hR;go_enter Tryz.func127,Tryz.ntmps127
 go_upto_region 2 with fail
 go_loopw [3] (λi wr=>∃k:Nat,k<=l.length/\i=.int .i64 k/\w=wr/\Hid (R=(l.drop k).all zhE)) (λi _=>l.length-(intOf i).toNat)
 case atStart=>exact⟨0,Nat.zero_le _,rfl,rfl,HR.o⟩
 case round=>
  obtain⟨k,hk,rfl,rfl,HX⟩:=hrel;by_cases ae:k<l.length
  ·obtain⟨b,off,rfl,hb,ah⟩:=HS.o.at ae;have hx:=HX.o;rw[List.drop_eq_getElem_cons ae,List.all_cons]at hx;obtain⟨aw,aj⟩:=yH2 hx ae;generalize l[k]=x at*;obtain⟨nm,nu,de⟩:=x;have i1:w.cell? ⟨b,off+k*3+1,none⟩=some (.int .i64 nu):=ah 1 _ rfl;have i2:w.cell? ⟨b,off+k*3+2,none⟩=some (.int .i64 de):=ah 2 _ rfl;have au:(k:Int)<(l.length:Int):=McS;have aR:(0:Int)<=(k:Int):=McS;clear ah hx ae;by_cases h1:nu=0
   ·subst h1;by_cases h2:de=0
    ·subst h2;have HE:Hid (R=(l.drop (k+1)).all zhE):=Mea;go_wp2_with fail
     exact ML
    ·have h3:(de==0)=false:=MeI;have HE:Hid (R=false):=by show _=_;rw[aw.o];simp[zhE,h3]
     exact Mac
   ·have h3:(nu==0)=false:=Mdp;have HE:Hid (R=false):=by show _=_;rw[aw.o];simp[zhE,h3]
    exact Mac
  ·have au:¬(k:Int)<(l.length:Int):=McS;have HE:Hid (R=true):=by show _=_;rw[HX.o,List.drop_of_length_le McS];rfl
   exact Mac
def zd5(l:List RPart)(frm:ByteArray)(k:Nat):Bool:=zdb (l.drop k) ((l.take k).map (·.name)).reverse&&(l.drop k).all λp=>!zae p.name frm
def clash(l:List RPart)(x:ByteArray)(j m:Nat):Bool:=((l.take m).drop j).any λp=>zae x p.name
variable{l:List RPart}
def zpv{frm:ByteArray}(h:k<l.length):zd5 l frm k=(!clash l l[k].name 0 k&&(!zae l[k].name frm&&zd5 l frm (k+1))):=by
 unfold zd5 clash;rw[List.drop_eq_getElem_cons h,zdb,List.all_cons,List.take_add_one,List.getElem?_eq_getElem h,List.drop_zero];have e:((l.take k).map (·.name)).reverse.any (zae l[k].name)=(l.take k).any λp=>zae l[k].name p.name:=by
  rw[List.any_reverse,List.any_map];rfl
 rw[e];simp only[Option.toList_some,List.map_append,List.map_cons,List.map_nil,List.reverse_append,List.reverse_cons,List.reverse_nil,List.nil_append,List.singleton_append];cases(l.take k).any λp=>zae l[k].name p.name<;>cases zae l[k].name frm<;>simp
variable{x:ByteArray}
def zpw{m:Nat}(h:j<m)(hm:m<l.length):clash l x j m=(zae x (l[j]' McS).name||clash l x (j+1) m):=by
 unfold clash;have hj:j<(l.take m).length:=MdC;rw[List.drop_eq_getElem_cons hj,List.any_cons,List.getElem_take]
def clash_end{m:Nat}(h:¬j<m):clash l x j m=false:=by
 unfold clash;rw[List.drop_of_length_le MdC];rfl
def zme(n o:ByteArray)(m:ByteArray×ByteArray):ByteArray:=if zae m.1 n then m.2 else o
def spSt(n o:ByteArray)(m:ByteArray×ByteArray):ByteArray:=if zae m.2 n then m.1 else zme n o m
def spGo(n:ByteArray)(l:List (ByteArray×ByteArray))(o:ByteArray):ByteArray:=l.foldl (spSt n) o
def zmf(n:ByteArray)(l:List (ByteArray×ByteArray))(m:ByteArray×ByteArray)(o:ByteArray):spGo n (l++[m]) o=spSt n (spGo n l o) m:=by
 unfold spGo;rw[List.foldl_append];rfl
def spGo_eq(n:ByteArray)(l:List (ByteArray×ByteArray)):spGo n l.reverse ⟨#[]⟩=zdr n l:=by
 induction l with
 |nil=>rfl
 |cons m l ih=>
  rw[List.reverse_cons,zmf,ih];obtain⟨a,b⟩:=m;rw[zdr];unfold spSt zme;simp only;cases h1:zae a n
  ·cases h2:zae b n<;>simp
  ·cases h2:zae b n
   ·simp
   ·simp only[if_true];exact(za2.1 h1).trans (za2.1 h2).symm
def zga(ms:List (ByteArray×ByteArray))(dd:List ByteArray)(n:ByteArray):ByteArray:=if dd.any (zae (spGo n ms ⟨#[]⟩))then⟨#[]⟩else spGo n ms ⟨#[]⟩
def zpx(s:St)(n:ByteArray):zga s.marriages s.dead n=zaK s n:=by
 have h:=spGo_eq n s.marriages.reverse;rw[List.reverse_reverse]at h;unfold zga zaK zaN;rw[h]
def znw(ms:List (ByteArray×ByteArray))(dd:List ByteArray)(n:ByteArray)(LA CA MA DA WA RA GA:Option Addr)(n0 c0 n1 c1 n2 c2 n3 c3 n4 c4 n5 c5 n6 c6:Nat)(w:World)(hl:ms.length<=100000)(hS:Sl w 2 zaW MA ms)(bA:dd.length<=100000)(lI:dd.length<=c3)(hD:Sl w 1 sC DA dd):
 Calls Tryz.prog 171 #[.agg #[.slice LA n0 c0,.slice CA n1 c1,.slice MA ms.length c2,.slice DA dd.length c3,.slice WA n4 c4,.slice RA n5 c5,.slice GA n6 c6],.string n] w (Ret w (.string (zga ms dd n))):=by
 obtain⟨gK,fR⟩:=yH2 hS (λx W (h:Qa w W)=>zeH dd x LA CA MA DA WA RA GA n0 c0 n1 c1 ms.length c2 dd.length c3 n4 c4 n5 c5 n6 c6 W bA lI (hD.keep h));clear hS hD;go_enter Tryz.func171,Tryz.ntmps171
 go_upto_region 1 with fail
 obtain⟨W0,am⟩:=Qd (w.alloc (.cells #[.slice LA n0 c0,.slice CA n1 c1,.slice MA ms.length c2,.slice DA dd.length c3,.slice WA n4 c4,.slice RA n5 c5,.slice GA n6 c6] 86))
 have b0:W0.heap[w.heap.size]?=some (.cells #[.slice LA n0 c0,.slice CA n1 c1,.slice MA ms.length c2,.slice DA dd.length c3,.slice WA n4 c4,.slice RA n5 c5,.slice GA n6 c6] 86):=MdK;have aO:Qa w W0:=Mdz;rw[<-am];obtain⟨ak,HS⟩:=yH2 aO (gK.o.keep aO);obtain⟨k0,k1,k2,k3,k4,k5,k6⟩:=cF7 b0;clear am b0 aO gK;go_upto_region 3 with fail
 go_loopw [5,6,7] (λv i _ wr=>∃(k:Nat) (o:ByteArray),k<=ms.length/\i=.int .i64 k/\v=.string o/\W0=wr/\Hid (o=spGo n (ms.take k) ⟨#[]⟩)) (λ_ i _ _=>ms.length-(intOf i).toNat)
 case atStart=>exact⟨0,⟨#[]⟩,Nat.zero_le _,rfl,rfl,rfl,zHi rfl⟩
 case round=>
  obtain⟨k,o,hk,rfl,rfl,rfl,HX⟩:=hrel;by_cases ae:k<ms.length
  ·obtain⟨b,off,rfl,hb,ah⟩:=HS.o.at ae;have fD:ms.take (k+1)=ms.take k++[ms[k]]:=by rw[List.take_add_one,List.getElem?_eq_getElem ae];rfl
   have aj:=zHi ae;have aw:Hid (spGo n (ms.take (k+1)) ⟨#[]⟩=spSt n o ms[k]):=by show _=_;rw[fD,zmf,<-HX.o];rfl
   generalize ms[k]=m at*;obtain⟨ma,mb⟩:=m;have i0:W0.cell? ⟨b,off+k*2,none⟩=some (.string ma):=ah 0 _ rfl;have i1:W0.cell? ⟨b,off+k*2+1,none⟩=some (.string mb):=ah 1 _ rfl;have au:(k:Int)<(ms.length:Int):=McS;have aR:(0:Int)<=(k:Int):=McS;clear ah ae fD;go_upto_region 6 with fail
   go_loopw [5,7] (λv z wr=>W0=wr/\((z=.int .i64 0/\v=.string o)\/(z=.int .i64 1/\v=.string (zme n o (ma,mb)))\/(z=.int .i64 2/\v=.string (spSt n o (ma,mb))))) (λ_ z _=>2-(intOf z).toNat)
   case atStart=>exact⟨rfl,.inl ⟨rfl,rfl⟩⟩
   case round=>
    obtain⟨rfl,⟨rfl,rfl⟩|⟨rfl,rfl⟩|⟨rfl,rfl⟩⟩:=hrel
    ·cases hs:zae ma n
     ·have bi:(ma.toList==n.toList)=false:=hs;have he:zme n o (ma,mb)=o:=by unfold zme;simp[hs]
      exact MaA
     ·have bi:(ma.toList==n.toList)=true:=hs;have he:zme n o (ma,mb)=mb:=by unfold zme;simp[hs]
      exact MaA
    ·generalize hmid:zme n o (ma,mb)=o2 at*;have HM:=zHi hmid;clear hmid;cases hs:zae mb n
     ·have bi:(mb.toList==n.toList)=false:=hs;have HE:Hid (spSt n o (ma,mb)=o2):=by show _=_;unfold spSt;rw[HM.o];simp[hs]
      exact Ma0
     ·have bi:(mb.toList==n.toList)=true:=hs;have HE:Hid (spSt n o (ma,mb)=ma):=by show _=_;unfold spSt;simp[hs]
      exact Ma0
    ·go_wp2_with fail
     go_round
     case rel=>exact⟨k+1,_,aj.o,by go_num,rfl,by first|exact True.intro|rfl,zHi aw.o.symm⟩
     case measure=>have:=aj.o;simp only[intOf];omega
  ·have au:¬(k:Int)<(ms.length:Int):=McS;have hx:=HX.o;rw[List.take_of_length_le McS]at hx;have oB:=zHi (λW h=>fR.o o W h);cases hd:dd.any (zae o)
   ·have HE:Hid (zga ms dd n=o):=by show _=_;unfold zga;rw[<-hx,hd];rfl
    exact MaD
   ·have HE:Hid (zga ms dd n=⟨#[]⟩):=by show _=_;unfold zga;rw[<-hx,hd];rfl
    exact MaD
def given_nil(h:q≠0):za5 [] n q=[(n,q)]:=by
 unfold za5;rw[if_neg MdG]
def zpy{p:ByteArray×Rat}{r:Parts}(h:q≠0):za5 (p::r) n q=if zbn p.1 n then p::za5 r n q else if zae p.1 n then(n,p.2+q)::r else(n,q)::p::r:=by
 rw[za5,if_neg MdG]
def given_zer(l:Parts)(n:ByteArray):za5 l n 0=l:=by
 cases l with
 |nil=>rfl
 |cons p r=>rw[za5,if_pos McV]
def zmg(done:Bool)(l:Parts)(n:ByteArray)(q:Rat):Parts:=if done then l else za5 l n q
def zcW(l:Parts)(n:ByteArray)(q:Rat)(A:Option Addr)(c:Nat)(w:World)(hl:l.length<=100000)(hs:∀p∈l,zaJ p.2)(hq:zaJ q)(hS:Sl w 3 zaa A l):Calls Tryz.prog 160 #[.slice A l.length c,.string n,zaA q] w (zg7 w (za5 l n q)):=by
 obtain⟨gK,fG,HQ⟩:=yH3 hS hs hq;obtain⟨R,hR⟩:=Qd (za5 l n q)
 rw[<-hR];have HR:=zHi hR;unfold zg7 zaA;clear hS hs hq hR;go_enter Tryz.func160,Tryz.ntmps160
 go_upto_region 2 with fail
 obtain⟨W0,am⟩:=Qd (w.alloc (.cells #[.int .i64 q.num,.int .i64 q.den] 50))
 have b0:W0.heap[w.heap.size]?=some (.cells #[.int .i64 q.num,.int .i64 q.den] 50):=MdK;have aO:Qa w W0:=Mdz;rw[<-am];obtain⟨ak,HS⟩:=yH2 aO (gK.o.keep aO);obtain⟨c0,c1⟩:=cF2 b0;have l0:=zab b0;clear am b0 aO gK;go_upto_region 4 with fail
 go_loopw [7,8,9] (λv d i wr=>∃(k:Nat) (done:Bool) (out:Parts),k<=l.length/\d=.bool done/\i=.int .i64 k/\Hid (R=out++zmg done (l.drop k) n q)/\Hid (done=false->q≠0)/\Hid (out.length<=k+(if done then 1 else 0))/\OwnS wr W0.heap.size 55 3 zaa v out/\Qa W0 wr) (λ_ _ i _=>l.length-(intOf i).toNat)
 case atStart=>
  refine⟨0,q.num==0,[],Nat.zero_le _,rfl,rfl,zHi ?_,zHi ?_,zHi McV,OwnS.nil,Qb⟩
  ·rw[List.drop_zero,List.nil_append,HR.o];unfold zmg;cases hz:q.num==0
   ·rfl
   ·have:q=0:=Rat.num_eq_zero.1 MdZ;rw[this,given_zer];rfl
  ·intro h e;rw[e]at h;exact absurd h McU
 case round=>
  obtain⟨k,done,out,hk,rfl,rfl,HX,HD,rL,aa,hB⟩:=hrel;have aM:=hB.size;obtain⟨HO,HB⟩:=yH2 aa hB;have Cv:Hid (out.length<=k+1):=by show _<=_;have:=rL.o;split at this<;>omega
  have dw:Hid (out.length<=200000):=by show _<=_;have:=Cv.o;omega
  obtain⟨VA,vc,rfl,_,gu⟩:=aa.sl zak;have d0:wr.cell? ⟨w.heap.size,0,none⟩=some (.int .i64 q.num):=(zai hB l0).trans c0;have d1:wr.cell? ⟨w.heap.size,1,none⟩=some (.int .i64 q.den):=(zai hB l0).trans c1;have cK:w.heap.size<wr.heap.size:=McS;by_cases ae:k<l.length
  ·obtain⟨b,off,rfl,hb,ah⟩:=HS.o.at ae;have hx:=HX.o;rw[List.drop_eq_getElem_cons ae]at hx;have cw:=fG.o _ (List.getElem_mem ae);have aj:=zHi ae;generalize l[k]=x at*;obtain⟨nm,r⟩:=x;have e0:W0.cell? ⟨b,off+k*3,none⟩=some (.string nm):=ah 0 _ rfl;have e1:W0.cell? ⟨b,off+k*3+1,none⟩=some (.int .i64 r.num):=ah 1 _ rfl;have e2:W0.cell? ⟨b,off+k*3+2,none⟩=some (.int .i64 r.den):=ah 2 _ rfl;have i0:wr.cell? ⟨b,off+k*3,none⟩=some (.string nm):=(zai hB hb).trans e0;have i1:wr.cell? ⟨b,off+k*3+1,none⟩=some (.int .i64 r.num):=(zai hB hb).trans e1;have i2:wr.cell? ⟨b,off+k*3+2,none⟩=some (.int .i64 r.den):=(zai hB hb).trans e2;have au:(k:Int)<(l.length:Int):=McS;have aR:(0:Int)<=(k:Int):=McS;obtain⟨aw,jw⟩:=yH2 hx cw;clear ah ae aa hB hx cw;cases done
   ·have fO:=HD.o rfl;have hx:=aw.o;rw[show zmg false ((nm,r)::l.drop (k+1)) n q=za5 ((nm,r)::l.drop (k+1)) n q from rfl,zpy fO]at hx;have Ju:=zHi fO;cases jg:zbn nm n
    ·have El:Op.bytesLess nm.toList n.toList=false:=jg;rw[jg,if_neg McV]at hx;cases dJ:zae nm n
     ·have bi:(nm.toList==n.toList)=false:=dJ;rw[dJ,if_neg McV]at hx;have du:=zHi hx;clear hx jg dJ fO
      go_upto_region 11 with(at_builtin
                             go_loud(refine zar (v:=.slice VA out.length vc) (n:=out.length) (m:=1) rfl _ _ rfl zdR zak zcc rfl (xs:=out) (ys:=[(n,q)]) (HO.o.keep (n:=wr.heap.size) Bw) rfl rfl rfl (zdf (zas _ _ _ rfl)) Mdr Mdw McX ?_)
                             intro v3 w3 h1 h2 h3;have ax:=Below.grown (B:=W0.heap.size) (a:=W0) (HB.o.trans (Below.mono (B:=wr.heap.size) (zad Qb _) aM)) h2 McX (λj hj=>(HO.o.ge j hj).1);obtain⟨H1,aG⟩:=yH2 h1 ax
                             clear h1 h2 h3 ax)
      obtain⟨VB,vb,Im,_,Nb⟩:=H1.o.sl zak;rw[List.length_append]at Im;subst Im;have jD:=aG.o.size;have j0:w3.cell? ⟨b,off+k*3,none⟩=some (.string nm):=(zai aG.o hb).trans e0;have j1:w3.cell? ⟨b,off+k*3+1,none⟩=some (.int .i64 r.num):=(zai aG.o hb).trans e1;have j2:w3.cell? ⟨b,off+k*3+2,none⟩=some (.int .i64 r.den):=(zai aG.o hb).trans e2
      go_wp2_with (at_builtin
                   go_loud(refine zar (v:=.slice VB (out.length+[(n,q)].length) vb) (n:=out.length+[(n,q)].length) (m:=1) rfl _ _ rfl zdR zak zcc rfl (xs:=out++[(n,q)]) (ys:=[(nm,r)]) (H1.o.keep (n:=w3.heap.size) Bw) McV rfl rfl (zdf (zas _ _ _ rfl)) Mdr (by have:=dw.o;simp;omega) McX ?_)
                   intro v4 w4 g1 g2 g3;have aB:=Below.grown (B:=W0.heap.size) (a:=W0) (aG.o.trans (Below.mono (B:=w3.heap.size) (zad Qb _) jD)) g2 McX (λj hj=>(H1.o.ge j hj).1);obtain⟨G1,dL⟩:=yH2 g1 aB
                   clear g1 g2 g3 aB)
      go_round
      case rel=>exact⟨k+1,true,out++[(n,q)]++[(nm,r)],aj.o,rfl,by go_num,zHi (by rw[du.o,List.append_assoc,List.append_assoc];rfl),zHi (λh=>by cases h),zHi (by have:=rL.o;simp at this⊢;omega),G1.o,dL.o⟩
      case measure=>have:=aj.o;simp only[intOf];omega
     ·have bi:(nm.toList==n.toList)=true:=dJ;rw[dJ,if_pos rfl]at hx;have du:=zHi hx;clear hx jg dJ fO;have bn:b<wr.heap.size:=Nat.lt_of_lt_of_le hb aM;obtain⟨aJ,kr⟩:=yH2 (λ(w':World) (h:Qa wr w')=>(show w'.cell? ⟨b,off+k*3+1,none⟩=some (.int .i64 r.num)/\w'.cell? ⟨b,off+k*3+2,none⟩=some (.int .i64 r.den)/\w'.cell? ⟨w.heap.size,0,none⟩=some (.int .i64 q.num)/\w'.cell? ⟨w.heap.size,1,none⟩=some (.int .i64 q.den) from⟨(zai h bn).trans i1,(zai h bn).trans i2,(zai h cK).trans d0,(zai h cK).trans d1⟩)) (λW=>zow r q W jw.o HQ.o);unfold zaA at kr;go_upto_region 9 with fail
      refine za9 11 (λbb w'=>bb=true\/(w'.cell? ⟨b,off+k*3+1,none⟩=some (.int .i64 r.num)/\w'.cell? ⟨b,off+k*3+2,none⟩=some (.int .i64 r.den)/\w'.cell? ⟨w.heap.size,0,none⟩=some (.int .i64 q.num)/\w'.cell? ⟨w.heap.size,1,none⟩=some (.int .i64 q.den))) McT (.inr (aJ.o _ (zaF Qb))) ?hrest
      case hrest=>
       intro hHeld;refine TkM 0 ?_;refine TkM 1 ?_;refine TkM 2 ?_;refine TkM 3 ?_;refine TkM 4 ?_;refine TkM 5 ?_;refine TkM 6 ?_;refine TkM 7 ?_;refine OnM 8 false λK hK=>?_
       go_simp
       refine(kr.o _).mono ?_;rintro e w5 ⟨rfl,z,rfl⟩;have ar:Qa wr (wr.drew.ext z):=zb2 (zaF Qb) z;refine NxM hK (λhHeld=>?_) (.inr (aJ.o _ ar));clear hK K;refine TkM 9 ?_;refine OnM 10 false λK hK=>?_
       go_simp
       have aS:Qa wr ((wr.drew.ext z).alloc (.cells #[.string n,.int .i64 (r+q).num,.int .i64 (r+q).den] 55)):=zad ar _;have n6:((wr.drew.ext z).alloc (.cells #[.string n,.int .i64 (r+q).num,.int .i64 (r+q).den] 55)).heap[(wr.drew.ext z).heap.size]?=some (.cells #[.string n,.int .i64 (r+q).num,.int .i64 (r+q).den] 55):=zas _ _ _ rfl;refine NxM hK (λhHeld=>?_) (.inr (aJ.o _ aS));clear hK K;refine OnM 11 true λK hK=>?_
       refine zap (v:=.slice VA out.length vc) (n:=out.length) (m:=1) rfl _ _ rfl zdR zak zcc rfl (xs:=out) (ys:=[(n,r+q)]) (HO.o.keep (n:=wr.heap.size) aS) rfl rfl rfl (zdf (zas _ _ _ Md8)) (by have:=dw.o;simp only[maxLen];omega) Mdw Md6 ?_;intro v7 w7 h1 h2 h3;obtain⟨A7,c7,kU,_,_⟩:=h1.sl zak;rw[List.length_append]at kU;subst kU;have bj:Qa W0 w7:=Below.grown (HB.o.trans (aS.mono aM)) h2 Md6 (λj hj=>(HO.o.ge j hj).1);refine NxM hK λhHeld=>?_
       clear hK K;refine OnM 12 true λK hK=>?_
       go_simp
       refine NxM hK λhHeld=>?_
       clear hK K;refine zaO McT ?_ _;clear hHeld;obtain⟨H7,bT⟩:=yH2 h1 bj;clear h1 h2 h3 bj;go_wp2_with fail
       go_round
       case rel=>exact⟨k+1,true,out++[(n,r+q)],aj.o,rfl,by go_num,zHi (by rw[du.o,List.append_assoc];rfl),zHi (λh=>by cases h),zHi MdL,H7.o,bT.o⟩
       case measure=>have:=aj.o;simp only[intOf];omega
    ·have El:Op.bytesLess nm.toList n.toList=true:=jg;rw[jg,if_pos rfl]at hx;have du:=zHi hx;clear hx jg fO
     go_wp2_with (at_builtin
                  go_loud(refine zar (v:=.slice VA out.length vc) (n:=out.length) (m:=1) rfl _ _ rfl zdR zak zcc rfl (xs:=out) (ys:=[(nm,r)]) (HO.o.keep (n:=wr.heap.size) Bw) rfl rfl rfl (zdf (zas _ _ _ rfl)) Mdr Mdw McX ?_)
                  intro v3 w3 h1 h2 h3;have ax:=Below.grown (B:=W0.heap.size) (a:=W0) (HB.o.trans (Below.mono (B:=wr.heap.size) (zad Qb _) aM)) h2 McX (λj hj=>(HO.o.ge j hj).1);obtain⟨H1,aG⟩:=yH2 h1 ax
                  clear h1 h2 h3 ax)
     go_round
     case rel=>exact⟨k+1,false,out++[(nm,r)],aj.o,rfl,by go_num,zHi (by rw[du.o,List.append_assoc];rfl),zHi (λ_=>Ju.o),zHi MdL,H1.o,aG.o⟩
     case measure=>have:=aj.o;simp only[intOf];omega
   ·go_wp2_with (at_builtin
                 go_loud(refine zar (v:=.slice VA out.length vc) (n:=out.length) (m:=1) rfl _ _ rfl zdR zak zcc rfl (xs:=out) (ys:=[(nm,r)]) (HO.o.keep (n:=wr.heap.size) Bw) rfl rfl rfl (zdf (zas _ _ _ rfl)) Mdr Mdw McX ?_)
                 intro v3 w3 h1 h2 h3;have ax:=Below.grown (B:=W0.heap.size) (a:=W0) (HB.o.trans (Below.mono (B:=wr.heap.size) (zad Qb _) aM)) h2 McX (λj hj=>(HO.o.ge j hj).1);obtain⟨H1,aG⟩:=yH2 h1 ax
                 clear h1 h2 h3 ax)
    go_round
    case rel=>exact⟨k+1,true,out++[(nm,r)],aj.o,rfl,by go_num,zHi (by rw[aw.o,List.append_assoc];rfl),zHi (λh=>by cases h),zHi MdL,H1.o,aG.o⟩
    case measure=>have:=aj.o;simp only[intOf];omega
  ·have au:¬(k:Int)<(l.length:Int):=McS;have hx:=HX.o;rw[List.drop_of_length_le McS]at hx;clear aa hB;cases done
   ·have fO:=HD.o rfl;rw[show zmg false [] n q=za5 [] n q from rfl,given_nil fO]at hx;have aw:=zHi hx;clear hx fO
    go_wp2_with (at_builtin
                 go_loud(refine zar (v:=.slice VA out.length vc) (n:=out.length) (m:=1) rfl _ _ rfl zdR zak zcc rfl (xs:=out) (ys:=[(n,q)]) (HO.o.keep (n:=wr.heap.size) Bw) rfl rfl rfl (zdf (zas _ _ _ rfl)) Mdr Mdw McX ?_)
                 intro v3 w3 h1 h2 h3;have ax:=Below.grown (B:=W0.heap.size) (a:=W0) (HB.o.trans (Below.mono (B:=wr.heap.size) (zad Qb _) aM)) h2 McX (λj hj=>(HO.o.ge j hj).1);obtain⟨H1,aG⟩:=yH2 h1 ax
                 clear h1 h2 h3 ax)
    go_ret
    exact⟨_,rfl,by rw[aw.o];exact H1.o.base_le ak.o.size,ak.o.trans (aG.o.mono ak.o.size)⟩
   ·rw[show zmg true [] n q=[]from rfl,List.append_nil]at hx;have aw:=zHi hx;clear hx;go_wp2_with fail
    go_ret
    exact⟨_,rfl,by rw[aw.o];exact HO.o.base_le ak.o.size,ak.o.trans (HB.o.mono ak.o.size)⟩
