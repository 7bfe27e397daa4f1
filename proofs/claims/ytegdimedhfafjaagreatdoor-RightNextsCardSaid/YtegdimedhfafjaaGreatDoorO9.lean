import Derived.Test.YtegdimedhfafjaaGreatDoorO8
set_option linter.all false
set_option maxRecDepth 100000
set_option maxHeartbeats 4000000
namespace Go.Proofs.YtegdimedhfafjaaGreatDoor
open Go.RowKit
attribute [local go_sem] World.cell?_alloc_mark zaf za5 zao za8 zav zaw zax zay zaz za0 za1
def zc2(n:ByteArray)(day:Int)(g:Grave):Bool:=zaT g day&&decide (0<(zag g.holders n).num)
theorem zk9{q:Rat}:0<q↔0<q.num:=by rw[Rat.lt_iff];simp
theorem held_same{s:St}{last day:Int}{n:ByteArray}{i:Nat}{g:Grave}(hG:GoodSt s last)(hl:last<=day)(hi:s.graves[i]?=some g):zdo s n day i g=zc2 n day g:=by
 have bf:=hG.graves g (List.mem_of_getElem? hi);have hn:=zbB bf.good n;have h1:(zag g.holders n != 0)=decide (0<(zag g.holders n).num):=by
  rw[Bool.eq_iff_iff,bne_iff_ne,decide_eq_true_eq,<-zk9];constructor
  ·intro h;exact Rat.lt_of_le_of_ne hn (fun e=>h e.symm)
  ·intro h e;rw[e]at h;exact absurd h Mco
 have h2:(zaP s g.place day==some i)=zaT g day:=by
  cases hf:zaT g day
  ·cases hx:zaP s g.place day with
   |none=>rfl
   |some j=>
    obtain⟨gj,h3,h4,h5⟩:=zcf hx;cases cz:(some j==some i)
    ·rfl
    ·have e:j=i:=by simpa using cz
     subst e;rw[h3]at hi;simp only[Option.some.injEq]at hi;rw[hi,hf]at h5;cases h5
  ·cases hx:zaP s g.place day with
   |none=>
    have:=zhr hx g (List.mem_of_getElem? hi) rfl;rw[hf]at this;cases this
   |some j=>
    obtain⟨gj,h3,h4,h5⟩:=zcf hx;have:=hG.force j i gj g h3 hi h4 day hl h5 hf;simp[this]
 unfold zdo zc2;rw[h1,h2,Bool.and_comm]
def zdv(n:ByteArray)(h:Parts)(g:Grave)(f:Bool):Parts×Bool:=zef (zag g.holders n) h (setP g.holders n 0,f)
def zfJ(n:ByteArray)(day:Int)(h:Parts):List Grave->Bool->List Grave×Bool
 | [],f=>([],f)
 |g::l,f=>if zc2 n day g then(⟨g.place,g.cls,g.fin,(zdv n h g f).1,g.died++[n]⟩::(zfJ n day h l (zdv n h g f).2).1,(zfJ n day h l (zdv n h g f).2).2)else(g::(zfJ n day h l f).1,(zfJ n day h l f).2)
theorem zgA{n:ByteArray}{day:Int}{h:Parts}:∀ {l:List Grave} {f:Bool},f=true->(zfJ n day h l f).2=true
 | [],_,hf=>hf
 |g::l,f,hf=>by
  rw[zfJ];split
  ·exact zgA (zff (by exact hf))
  ·exact zgA hf
theorem zlI{s:St}{n:ByteArray}{day:Int}{h:Parts}(hh:∀p∈h,0<=p.2):∀ {l:List Grave} {i:Nat},(∀j g,l[j]?=some g->zdo s n day (i+j) g=zc2 n day g)->(∀g∈l,GoodG g)->
 (∀gs,zb2 s n day (some h) i l=some gs->zfJ n day h l false=(gs,false))/\(zb2 s n day (some h) i l=none->(zfJ n day h l false).2=true)
 | [],i,_,_=>by
   rw[zb2,zfJ];exact⟨fun gs e=>by cases e;rfl,fun e=>by cases e⟩
 |g::l,i,hq,hg=>by
  have ih:=zlI (s:=s) (n:=n) (day:=day) hh (l:=l) (i:=i+1) (fun j g' hj=>by
   have:=hq (j+1) g' Meu;rw[show i+1+j=i+(j+1) by omega]
   exact this) (fun g' h'=>hg g' (by simp[h']))
  have h0:=hq 0 g rfl;rw[Nat.add_zero]at h0;rw[zb2,zfJ,h0];have bf:=hg g Mcp;cases ub:zc2 n day g
  ·simp only[Bool.false_eq_true,if_false];refine⟨fun gs e=>?_,fun e=>?_⟩
   ·cases hd:zb2 s n day (some h) (i+1) l with
    |none=>rw[hd]at e;cases e
    |some r=>
     rw[hd]at e;simp only[Option.map_some,Option.some.injEq]at e;rw[ih.1 r hd,<-e]
   ·cases hd:zb2 s n day (some h) (i+1) l with
    |none=>exact ih.2 hd
    |some r=>rw[hd]at e;cases e
  ·simp only[if_true];have hz:setP g.holders n 0=zat g.holders n:=zhC bf.good.asc n
   obtain⟨g1,g2⟩:=zip (zbB bf.good n) hh (zbK bf.good (n:=n)) (by
    have h1:zaF (setP g.holders n 0)=false:=zer bf.small Mco;rw[<-hz]
    exact h1)
   have hy:zdv n h g false=zef (zag g.holders n) h (zat g.holders n,false):=by unfold zdv;rw[hz]
   rw[hy];cases dh:zb9 (zag g.holders n) h (zat g.holders n)with
   |none=>
    have h3:=g2 dh;refine⟨fun gs e=>by simp at e,fun _=>?_⟩;exact zgA h3
   |some o=>
    have h3:=g1 o dh;rw[h3];refine⟨fun gs e=>?_,fun e=>?_⟩
    ·cases hd:zb2 s n day (some h) (i+1) l with
     |none=>rw[hd]at e;cases e
     |some r=>
      rw[hd]at e;simp only[Option.bind_some,Option.map_some,Option.some.injEq]at e;rw[ih.1 r hd,<-e]
    ·cases hd:zb2 s n day (some h) (i+1) l with
     |none=>exact ih.2 hd
     |some r=>rw[hd]at e;cases e
theorem zlJ{s:St}{n:ByteArray}{day:Int}{h:Option Parts}:∀ {l:List Grave} {i:Nat},(∀j g,l[j]?=some g->zdo s n day (i+j) g=zc2 n day g)->(l.any (zc2 n day)=false->zb2 s n day h i l=some l)/\(h=none->l.any (zc2 n day)=true->zb2 s n day h i l=none)
 | [],i,_=>by
   have e:zb2 s n day h i []=some []:=by simp[zb2]
   rw[e];exact⟨fun _=>rfl,fun _ e=>by cases e⟩
 |g::l,i,hq=>by
  have ih:=zlJ (s:=s) (n:=n) (day:=day) (h:=h) (l:=l) (i:=i+1) (fun j g' hj=>by
   have:=hq (j+1) g' Meu;rw[show i+1+j=i+(j+1) by omega]
   exact this)
  have h0:=hq 0 g rfl;rw[Nat.add_zero]at h0;unfold zb2;rw[h0,List.any_cons];cases ub:zc2 n day g
  ·simp only[Bool.false_eq_true,if_false,Bool.false_or];exact⟨fun e=>by rw[ih.1 e];rfl,fun e1 e2=>by rw[ih.2 e1 e2];rfl⟩
  ·simp only[if_true,Bool.true_or];refine⟨fun e=>(by cases e),fun e _=>?_⟩;subst e;rfl
theorem deathP_eq{laws:List Law}{s:St}{d:Deed}{last:Int}(hG:GoodSt s last)(hl:last<=d.day)(hw:za9 16 (zbb laws d.day).num (zbb laws d.day).den=true):
 zdJ laws s d=if zaM s d.frm then(s,28)else if s.graves.any (zc2 d.frm d.day)then
  (if(zfJ d.frm d.day (zch s (zbb laws d.day) d.frm).1 s.graves (zch s (zbb laws d.day) d.frm).2).2 then(s,8)else
    ({s with graves:=(zfJ d.frm d.day (zch s (zbb laws d.day) d.frm).1 s.graves (zch s (zbb laws d.day) d.frm).2).1,dead:=s.dead++[d.frm]},0))
  else({s with dead:=s.dead++[d.frm]},0):=by
 have hq:∀j g,s.graves[j]?=some g->zdo s d.frm d.day (0+j) g=zc2 d.frm d.day g:=fun j g hj=>by rw[Nat.zero_add];exact held_same hG hl hj
 obtain⟨e1,e2⟩:=zfW (s:=s) (n:=d.frm) (hG.wills d.frm) hw;have hn:=zlJ (s:=s) (n:=d.frm) (day:=d.day) (h:=zcE s (zbb laws d.day) d.frm) hq;unfold zdJ;cases hd:zaM s d.frm
 ·simp only[Bool.false_eq_true,if_false];cases ha:s.graves.any (zc2 d.frm d.day)
  ·rw[hn.1 ha];simp
  ·simp only[if_true];cases he:zcE s (zbb laws d.day) d.frm with
   |none=>
    rw[he]at hn;rw[hn.2 rfl ha,if_pos (zgA (e2 he))]
   |some h=>
    have bP:=ze6 (hG.wills d.frm) hw he;obtain⟨f1,f2⟩:=zlI (s:=s) (n:=d.frm) (day:=d.day) (h:=h) (fun p hp=>by have:=bP.1.pos p hp;grind) hq hG.graves;rw[e1 h he];cases hx:zb2 s d.frm d.day (some h) 0 s.graves with
    |none=>
     simp only;rw[if_pos (f2 hx)]
    |some gs=>
     simp only;rw[f1 gs hx];simp
 ·simp
def zbe(n:ByteArray)(day:Int):Nat->List Grave->List Nat
 |_,[]=>[]
 |k,g::l=>if zc2 n day g then k::zbe n day (k+1) l else zbe n day (k+1) l
theorem ziG(n:ByteArray)(day:Int):∀(k:Nat) (a b:List Grave),zbe n day k (a++b)=zbe n day k a++zbe n day (k+a.length) b
 |k,[],b=>by simp[zbe]
 |k,g::a,b=>by
  rw[List.cons_append,zbe,zbe,ziG n day (k+1) a b,List.length_cons];rw[show k+1+a.length=k+(a.length+1) by omega];split<;>simp
theorem held_snoc(n:ByteArray)(day:Int)(gs:List Grave){k:Nat}(h:k<gs.length):zbe n day 0 (gs.take (k+1))=zbe n day 0 (gs.take k)++if zc2 n day gs[k]then[k]else[]:=by
 rw[List.take_succ_eq_append_getElem h,ziG,Nat.zero_add,List.length_take,Nat.min_eq_left Mcm,zbe,zbe]
theorem zfB(n:ByteArray)(day:Int):∀(k:Nat) (l:List Grave),(zbe n day k l).length=(l.filter (zc2 n day)).length
 |_,[]=>rfl
 |k,g::l=>by
  rw[zbe,List.filter_cons];split<;>simp[zfB n day (k+1) l]
theorem zoc(n:ByteArray)(day:Int):∀(l:List Grave) (k j i:Nat),(zbe n day k l)[j]?=some i->k<=i/\∃g,l[i-k]?=some g/\(l.filter (zc2 n day))[j]?=some g
 | [],k,j,i,h=>by simp[zbe]at h
 |g::l,k,j,i,h=>by
  rw[zbe]at h;rw[List.filter_cons];cases hq:zc2 n day g
  ·rw[hq]at h;simp only[Bool.false_eq_true,if_false]at h⊢;exact MaS
  ·rw[hq]at h;simp only[if_true]at h⊢;cases j with
   |zero=>
    simp only[List.getElem?_cons_zero,Option.some.injEq]at h;subst h;exact⟨Nat.le_refl _,g,by simp,by simp⟩
   |succ j=>
    simp only[List.getElem?_cons_succ]at h⊢;exact MaS
def zcQ(n:ByteArray)(h:Parts):List Grave->Bool->List Grave×Bool
 | [],f=>([],f)
 |g::l,f=>(⟨g.place,g.cls,g.fin,(zdv n h g f).1,g.died++[n]⟩::(zcQ n h l (zdv n h g f).2).1,(zcQ n h l (zdv n h g f).2).2)
theorem ziH(n:ByteArray)(h:Parts):∀(a b:List Grave) (f:Bool),zcQ n h (a++b) f=((zcQ n h a f).1++(zcQ n h b (zcQ n h a f).2).1,(zcQ n h b (zcQ n h a f).2).2)
 | [],b,f=>by simp[zcQ]
 |g::a,b,f=>by
  rw[List.cons_append,zcQ,ziH n h a b,zcQ];simp
theorem next_snoc(n:ByteArray)(h:Parts)(l:List Grave)(f:Bool){k:Nat}(hk:k<l.length):zcQ n h (l.take (k+1)) f=((zcQ n h (l.take k) f).1++[⟨l[k].place,l[k].cls,l[k].fin,(zdv n h l[k] (zcQ n h (l.take k) f).2).1,l[k].died++[n]⟩],(zdv n h l[k] (zcQ n h (l.take k) f).2).2):=by
 rw[List.take_succ_eq_append_getElem hk,ziH,zcQ,zcQ]
theorem zkA(n:ByteArray)(h:Parts):∀(l:List Grave) (f:Bool),(zcQ n h l f).1.length=l.length
 | [],_=>rfl
 |g::l,f=>by rw[zcQ];simp[zkA n h l]
def zdw:List Grave->List Nat->List Grave->List Grave
 |gs,i::H,x::X=>zdw (gs.set i x) H X
 |gs,_,_=>gs
theorem ziI:∀(H:List Nat) (X:List Grave) (gs:List Grave) (i:Nat) (x:Grave),H.length=X.length->zdw gs (H++[i]) (X++[x])=(zdw gs H X).set i x
 | [],[],gs,i,x,_=>rfl
 | [],_::_,_,_,_,h=>by cases h
 |_::_,[],_,_,_,h=>by cases h
 |j::H,y::X,gs,i,x,h=>by
  rw[List.cons_append,List.cons_append,zdw,zdw];exact ziI H X _ i x Mc8
theorem zjK:∀(H:List Nat) (X gs:List Grave),(zdw gs H X).length=gs.length
 | [],_,_=>by simp[zdw]
 |_::_,[],_=>by simp[zdw]
 |j::H,y::X,gs=>by rw[zdw,zjK H X];simp
theorem zfZ(n:ByteArray)(day:Int)(h:Parts):∀(l A:List Grave) (f:Bool),zdw (A++l) (zbe n day A.length l) (zcQ n h (l.filter (zc2 n day)) f).1=A++(zfJ n day h l f).1/\(zcQ n h (l.filter (zc2 n day)) f).2=(zfJ n day h l f).2
 | [],A,f=>by simp[zbe,zcQ,zfJ,zdw]
 |g::l,A,f=>by
  rw[zbe,List.filter_cons,zfJ];cases hq:zc2 n day g
  ·simp only[Bool.false_eq_true,if_false];have:=zfZ n day h l (A++[g]) f;rw[List.length_append,List.length_singleton,List.append_assoc,List.singleton_append]at this;exact⟨by rw[this.1];simp,this.2⟩
  ·simp only[if_true];rw[zcQ,zdw];have:=zfZ n day h l (A++[⟨g.place,g.cls,g.fin,(zdv n h g f).1,g.died++[n]⟩]) (zdv n h g f).2;rw[List.length_append,List.length_singleton,List.append_assoc,List.singleton_append]at this;have e:(A++g::l).set A.length ⟨g.place,g.cls,g.fin,(zdv n h g f).1,g.died++[n]⟩=A++⟨g.place,g.cls,g.fin,(zdv n h g f).1,g.died++[n]⟩::l:=by
    rw[List.set_append_right _ _ (Nat.le_refl _),Nat.sub_self,List.set_cons_zero]
   exact⟨by rw[e,this.1];simp,this.2⟩
theorem ziJ{α:Type}[DecidableEq α]:∀ {l m:List α},l.Nodup->(∀x∈l,x∈m)->l.length<=m.length
 | [],_,_,_=>Nat.zero_le _
 |x::l,m,hn,hm=>by
  rw[List.nodup_cons]at hn;have hx:=hm x Mcp;have:=ziJ (l:=l) (m:=m.erase x) hn.2 (fun y hy=>(List.mem_erase_of_ne (fun e=>hn.1 (by rw[<-e];exact hy))).2 (hm y (by simp[hy])));rw[List.length_erase_of_mem hx]at this;have:=List.length_pos_of_mem hx;simp;omega
def zci(out:Parts)(L:List ByteArray):Prop:= ∀p∈out,p.1∈L
theorem zeF{out:Parts}{fl:Bool}{n:ByteArray}{f:Rat}{L:List ByteArray}(h:zci out L)(hn:n∈L):zci (zcK n f (out,fl)).1 L:=fun p hp=>by
 rcases zkm hp with e|h'
 ·rw[e];exact hn
 ·exact h p h'
mutual
def zc3(L:List ByteArray):List Tree->Prop
 | []=>True
 |t::l=>zfn L t/\zc3 L l
def zfn(L:List ByteArray):Tree->Prop
 | .leaf n=>n∈L
 | .node l=>zc3 L l
end
mutual
theorem zeG{part:Rat}{L:List ByteArray}:∀ {l:List Tree} {out:Parts} {fl:Bool},zc3 L l->zci out L->zci (zbO part l (out,fl)).1 L
 | [],out,fl,_,h=>by rw[zbO];exact h
 |t::l,out,fl,hl,h=>by
  rw[zc3]at hl;rw[zbO];exact zeG (l:=l) (fl:=(zdR part t (out,fl)).2) hl.2 (zoM hl.1 h)
theorem zoM{part:Rat}{L:List ByteArray}:∀ {t:Tree} {out:Parts} {fl:Bool},zfn L t->zci out L->zci (zdR part t (out,fl)).1 L
 | .leaf n,out,fl,hl,h=>by
   rw[zfn]at hl;rw[zdR];exact zeF h hl
 | .node l,out,fl,hl,h=>by
   rw[zfn]at hl;rw[zdR];exact zeG (l:=l) hl h
end
theorem zlK{L:List ByteArray}:∀ {l:List Tree},(∀t∈l,zfn L t)->zc3 L l
 | [],_=>by rw[zc3];trivial
 |t::l,h=>by
  rw[zc3];exact⟨h t Mcp,zlK fun t' ht=>h t' (by simp[ht])⟩
theorem zfo{s:St}{stems:Bool}{frm:ByteArray}{L:List ByteArray}(hL:∀c∈s.children,c.2∈L):∀(f:Nat) (n:ByteArray),zc3 L (zb7 s stems frm f n)
 |0,_=>by rw[show zb7 s stems frm 0 _=[]from rfl,zc3];trivial
 |f+1,n=>by
  refine zlK fun t ht=>?_
  rw[zf9]at ht;obtain⟨c,hc,h1⟩:=List.mem_filterMap.1 ht;unfold zcL at h1;split at h1
  ·simp only[Option.some.injEq]at h1;rw[<-h1,zfn];exact hL (n,c) (zdp.1 hc)
  ·split at h1
   ·simp only[Option.some.injEq]at h1;rw[<-h1,zfn];exact zfo hL f c
   ·cases h1
theorem zhj{s:St}{frm:ByteArray}{L:List ByteArray}:∀ {l out:Parts} {fl:Bool} {rest:Rat},(∀p∈l,p.1∈L)->zci out L->zci (zdd s frm l (out,fl) rest).1.1 L
 | [],_,_,_,_,h=>h
 |p::l,out,fl,rest,hl,h=>by
  rw[zdd];split
  ·exact zhj (l:=l) (fun q hq=>hl q Mdl) (zeF (fl:=fl) h (hl p Mcp))
  ·exact zhj (l:=l) (fun q hq=>hl q Mdl) h
theorem ziK{s:St}{law:Law}{n:ByteArray}(hG:GoodParts (zch s law n).1):(zch s law n).1.length<=(zbw s n).length+s.children.length+1:=by
 let L:=((zbw s n).map (·.1))++(s.children.map (·.2))++[zcl s n]
 have hL:zci (zch s law n).1 L:=by
  have h1:∀p∈zbw s n,p.1∈L:=fun p hp=>List.mem_append_left _ (List.mem_append_left _ (List.mem_map.2 ⟨p,hp,rfl⟩))
  have h2:∀c∈s.children,c.2∈L:=fun c hc=>List.mem_append_left _ (List.mem_append_right _ (List.mem_map.2 ⟨c,hc,rfl⟩))
  have h3:zcl s n∈L:=List.mem_append_right _ Mcp;have h4:=zhj (s:=s) (frm:=n) (fl:=false) (rest:=1) h1 (show zci [] L from fun p hp=>by cases hp);have h5:=zfo (stems:=law.stems) (frm:=n) h2 (zaX s) n;unfold zch;generalize zdd s n (zbw s n) ([],false) 1=y at*;obtain⟨⟨o,f⟩,r⟩:=y;simp only;split
  ·exact zeF h4 h3
  ·split
   ·unfold zcv;exact zeG h5 h4
   ·unfold zcv;exact zeG (fl:=_) h5 (zeF (fl:=f) h4 h3)
 have hn:((zch s law n).1.map (·.1)).Nodup:=by
  rw[List.nodup_iff_pairwise_ne,List.pairwise_map];exact hG.asc.imp fun h=>zcC h
 have:=ziJ (m:=L) hn (fun x hx=>by
  obtain⟨p,hp,rfl⟩:=List.mem_map.1 hx
  exact hL p hp)
 simp only[L,List.length_append,List.length_map,List.length_singleton]at this;exact this
theorem zoN(a b:ByteArray):zae a b=zae b a:=by
 rw[Bool.eq_iff_iff,za2,za2];exact⟨Eq.symm,Eq.symm⟩
theorem zjL(fb sh:Bool)(frm:ByteArray):∀(l seen:List RPart) (L:List ByteArray) (s:Rat),(∀n,L.any (zae n)=seen.any (fun q=>zae q.name n))->
 zcn fb sh frm l seen s=if(zcU l L&&l.all (fun p=>!(zae p.name frm&&fb)))&&(if sh then l.all (fun p=>za9 16 p.num p.den&&p.num != 0)else l.all (fun p=>p.num==0&&p.den==0))then some (if sh then s+sumQ (zam l)else s)else none
 | [],seen,L,s,h=>by
   rw[zcn];cases sh
   ·simp[zcU]
   ·simp[zcU,zam,sumQ,Rat.add_zero]
 |p::l,seen,L,s,h=>by
  have ih:=fun t=>zjL fb sh frm l (seen++[p]) (p.name::L) t (fun n=>by
   rw[List.any_cons,List.any_append,h n,List.any_cons,List.any_nil,Bool.or_false,Bool.or_comm,zoN n])
  have hs:sumQ (zam (p::l))=p.rat+sumQ (zam l):=rfl;rw[zcn,zcU,h p.name,List.all_cons,List.all_cons,List.all_cons,hs,ih,ih];cases h1:seen.any (fun q=>zae q.name p.name)
  ·cases h2:(zae p.name frm&&fb)
   ·simp only[Bool.or_self,Bool.false_eq_true,if_false,Bool.not_false,Bool.true_and];cases sh
    ·simp only[Bool.not_false,if_true,Bool.false_eq_true,if_false];by_cases hz:p.num=0
     ·by_cases hy:p.den=0
      ·simp[hz,hy]
      ·simp[hz,hy]
     ·simp[hz]
    ·simp only[Bool.not_true,if_true,Bool.false_eq_true,if_false];cases h3:za9 16 p.num p.den
     ·simp
     ·by_cases hz:p.num=0
      ·simp[hz]
      ·have e:s+p.rat+sumQ (zam l)=s+(p.rat+sumQ (zam l)):=McG;simp[hz,e]
   ·simp
  ·simp
theorem zoO(s:Rat):decide (s.num<=(s.den:Int))=decide (s<=1):=by
 rw[Bool.eq_iff_iff,decide_eq_true_eq,decide_eq_true_eq,Rat.le_iff];simp
theorem zmU(s:Rat):(s.num==(s.den:Int))=(s==1):=by
 rw[Bool.eq_iff_iff,beq_iff_eq,beq_iff_eq];constructor
 ·intro h;have h1:=Rat.num_divInt_den s;rw[h]at h1;rw[<-h1];have:=s.den_pos;rw[Rat.divInt_self'];omega
 ·intro h;rw[h];rfl
theorem sumOk_eq(fb sh al:Bool)(frm:ByteArray)(l:List RPart)(hf:fb=true\/∀p∈l,zae p.name frm=false):zgU sh al (zcn fb sh frm l [] 0)=zc6 sh al frm l:=by
 have h0:∀n:ByteArray,([]:List ByteArray).any (zae n)=([]:List RPart).any (fun q=>zae q.name n):=fun n=>rfl
 rw[zjL fb sh frm l [] [] 0 h0];have KE:l.all (fun p=>!(zae p.name frm&&fb))=l.all (fun p=>!zae p.name frm):=by
  rcases hf with hf|hf
  ·subst hf;simp
  ·rw[Bool.eq_iff_iff,List.all_eq_true,List.all_eq_true];exact⟨fun _ p hp=>by rw[hf p hp];rfl,fun _ p hp=>by rw[hf p hp];rfl⟩
 rw[KE];unfold zc6;cases sh
 ·simp only[Bool.false_eq_true,if_false];split
  ·rename_i h;rw[h];rfl
  ·rename_i h
   rw[Bool.not_eq_true]at h;rw[h];rfl
 ·simp only[if_true];split
  ·rename_i h
   rw[Bool.and_eq_true,Bool.and_eq_true]at h;rw[h.1.1,h.1.2,h.2];simp only[zgU,Bool.not_true,Bool.false_or,Bool.true_and,Rat.zero_add,zoO,zmU]
  ·rename_i h
   rw[Bool.not_eq_true]at h;simp only[zgU];cases h1:zcU l []<;>cases h2:l.all (fun p=>!zae p.name frm)<;>cases h3:l.all (fun p=>za9 16 p.num p.den&&p.num != 0)<;>simp_all
theorem noB_same{a b:ByteArray}(ha:noB a=false)(hb:noB b=true):zae a b=false:=by
 unfold noB at ha hb;unfold zae;cases h:(a.toList==b.toList)
 ·rfl
 ·rw[beq_iff_eq]at h;rw[h,hb]at ha;cases ha
theorem zhP{f:Form}{frm:ByteArray}{l:List RPart}(hf:f.frm=true\/∀p∈l,zae p.name frm=false):zhq f frm l=if f.parts then(!l.isEmpty&&(f.shares||l.length==1))&&zc6 f.shares f.all frm l else l.isEmpty:=by
 unfold zhq;rw[sumOk_eq _ _ _ _ _ hf];cases f.parts
 ·simp
 ·cases l.isEmpty
  ·cases f.shares
   ·by_cases h:l.length=1
    ·simp[h]
    ·simp[h]
   ·simp
  ·simp
theorem zeH(d:Deed):zdi d=za3 d:=by
 obtain⟨kd,dy,pl,fr,ps,cl,yr⟩:=d;unfold zdi za3;simp only;split
 ·rfl
 rename_i h1
 split
 ·rfl
 rename_i h2
 split
 ·rfl
 rename_i h3
 have e4:(ps.any fun p=>!zaS p.name)=!ps.all fun p=>zaS p.name:=by rw[List.not_all_eq_any_not]
 rw[e4];split
 ·rfl
 rename_i h4
 have hn:∀p∈ps,noB p.name=false:=fun p hp=>by
  cases ha:(ps.all fun p=>zaS p.name)
  ·rw[ha]at h4;simp at h4
  ·exact zgo (List.all_eq_true.1 ha p hp)
 simp only[Bool.not_eq_true',Bool.not_eq_false,zf1]at h1;have hk:kd=0\/kd=1\/kd=2\/kd=3\/kd=4\/kd=5\/kd=6\/kd=7\/kd=8:=Mcm;have hg:noB fr=true->∀p∈ps,zae p.name fr=false:=fun hb p hp=>noB_same (hn p hp) hb
 clear h1 h2 h3 h4 hn e4;have F6:(0:Int)=0:=rfl;rcases hk with rfl|rfl|rfl|rfl|rfl|rfl|rfl|rfl|rfl
 all_goals
  simp only[zfM,zfP,Int.toNat_zero,Int.toNat_one,List.getD_cons_zero,show(2:Int).toNat=2 from rfl,show(3:Int).toNat=3 from rfl,show(4:Int).toNat=4 from rfl,show(5:Int).toNat=5 from rfl,show(6:Int).toNat=6 from rfl,show(7:Int).toNat=7 from rfl,show(8:Int).toNat=8 from rfl,List.getD_cons_succ]
 ·cases hb:noB fr
  ·simp
  ·rw[zhP (f:=⟨_,_,_,_,_,_,_,_⟩) (.inr (hg hb))];cases noB pl<;>cases hy:(yr==0)<;>cases hc:(cl==2)<;>simp
 ·exact M5
 ·exact M5
 ·cases hb:noB fr
  ·simp
  ·rw[zhP (f:=⟨_,_,_,_,_,_,_,_⟩) (.inr (hg hb))];cases noB pl<;>cases hy:(yr==0)<;>cases hc:(cl==0)<;>simp_all
 ·exact M5
 ·exact Mak
 ·exact Mak
 ·exact Mak
 ·exact M5
def ekSp(s:Spot):Value:=.agg #[.string s.1,.int .i64 s.2]
theorem equal_sp(a:ByteArray)(c:Int)(a':ByteArray)(c':Int)(w:World):(Op.equal 165 (.agg #[.string a,.int .i64 c]) (.agg #[.string a',.int .i64 c'])).run Tryz.prog w=.ok (zae a a'&&c==c') w:=by
 simp only[Op.equal,Op.maxDepth];go_simp
 unfold zae;by_cases h1:a.toList=a'.toList<;>by_cases h2:c=c'<;>simp[h1,h2]
theorem zoP(v:Value)(e:MapEntry)(es:List MapEntry)(fs:Array Field)(i:Nat):Instr.findNow (.struct fs) v (e::es) i=none:=by
 unfold Instr.findNow;cases v<;>simp[Instr.sameNow]
theorem zgB{V:Type}(ev:V->Value)(p:Spot)(w:World):∀(es:List MapEntry) (m:List (Spot×V)),es.map (fun e=>(e.key,e.val))=m.map (fun p=>(ekSp p.1,ev p.2))->∀i,
 (Instr.findAsking 165 (ekSp p) es i).run Tryz.prog w=.ok ((locate eqSp p m i).map fun p=>(p.1,ev p.2)) w
 | [],[],_,_=>by simp[Instr.findAsking,locate]
 | [],_::_,h,_=>by simp at h
 |_::_,[],h,_=>by simp at h
 |e::es,q::m,h,i=>by
  simp only[List.map_cons,List.cons.injEq,Prod.mk.injEq]at h;obtain⟨⟨hk,hv⟩,ht⟩:=h;unfold Instr.findAsking locate;have h1:=equal_sp p.1 p.2 q.1.1 q.1.2 w;have h2:=zgB ev p w es m ht (i+1);rw[hk,hv];simp only[ekSp]at h1 h2⊢;simp only[Sem.run_bind,h1,Result.andThen_ok];change Sem.run _ (if(eqSp p q.1)=true then _ else _) w=_;cases hq:eqSp p q.1
  ·simpa using h2
  ·simp
theorem zmV(e:Bool)(p:Spot)(w:World):(Instr.checkKey e 10000 165 (ekSp p)).run Tryz.prog w=.ok () w:=by
 obtain⟨a,c⟩:=p;cases e<;>kernel_rfl
theorem zmW(a:ByteArray)(c:Int):Instr.sameBits 10000 (.agg #[.string a,.int .i64 c]) (.agg #[.string a,.int .i64 c])=true:=by
 have h2:∀n,Instr.sameBits (n+1) (.agg #[.string a,.int .i64 c]) (.agg #[.string a,.int .i64 c])=true:=fun n=>by
  have h:∀n (k:IntKind) (x:Int),Instr.sameBits n (.int k x) (.int k x)=true:=fun n k x=>by cases n<;>simp[Instr.sameBits]
  simp[Instr.sameBits,zgP,beq_toListBytes,h]
 exact h2 9999
theorem zod{V:Type}{t et:TypeId}{ev:V->Value}{z:V}(ht:Tryz.prog.underlying t=some (.map 165 et))(hz:∀w,(zeroValue et).run Tryz.prog w=.ok (ev z) w):MapTy Tryz.prog t 165 et ekSp ev z eqSp where
 ht:=ht
 hz:=hz
 hck:=zmV
 hfind:=fun k es m h w=>by
  have hu:∃fs,Tryz.prog.underlying 165=some (.struct fs):=⟨_,Tryz.underlying165⟩
  obtain⟨fs,hu⟩:=hu;match es,m,h with
  | [],[],_=>simp[Instr.findKey,run_underlying hu,Instr.findNow,locate]
  | [],_::_,h=>simp at h
  |e::es,m,h=>
   simp only[Instr.findKey,Sem.run_bind,run_underlying hu,Result.andThen_ok,zoP];exact zgB ev k w (e::es) m h 0
 hsame:=fun k k' h=>by
  have e:=zf7.1 h;subst e;exact zmW k.1 k.2
theorem mapPV:MapTy Tryz.prog 162 165 3 ekSp (fun v:Value=>v) (.int .i64 0) eqSp:=zod Tryz.underlying162 (fun w=>by kernel_rfl)
theorem mapPM:MapTy Tryz.prog 163 165 89 ekSp (fun v:Value=>v) (.map none) eqSp:=zod Tryz.underlying163 (fun w=>by kernel_rfl)
theorem zmX(n:ByteArray)(w:World):(Instr.lookup 89 (.map none) (.string n) false).run Tryz.prog w=.ok (.bool false) w:=by
 kernel_rfl
theorem zjM{K V:Type}{eq:K->K->Bool}{k:K}:∀ {m:List (K×V)} {i j:Nat} {v:V},locate eq k m i=some (j,v)->(m[j-i]?).map (·.2)=some v
 | [],_,_,_,h=>by cases h
 |p::l,i,j,v,h=>by
  unfold locate at h;split at h
  ·simp only[Option.some.injEq,Prod.mk.injEq]at h;obtain⟨rfl,rfl⟩:=h;simp
  ·obtain⟨h1,_⟩:=zdI h;have e:j-i=(j-(i+1))+1:=Mcm;rw[e];simpa using zjM h
theorem zkB{P:Program}{t kt et:TypeId}{K:Type}{ek:K->Value}{z:Value}{eq:K->K->Bool}{w:World}{b:Nat}{m:List (K×Value)}(T:MapTy P t kt et ek (fun v:Value=>v) z eq)(h:MapS w b ek (fun v:Value=>v) m)(k:K):
 ∃w' st j,(Instr.mapEntry t (.map (some b)) (ek k)).run P w=.ok (.tuple #[(mget eq k m).getD z,.int .i64 (st:Nat)]) w'/\StampAt w' b ek (mput eq k ((mget eq k m).getD z) m) j st/\(∀v,(mput eq k ((mget eq k m).getD z) m).set j (k,v)=mput eq k v m)/\((mput eq k ((mget eq k m).getD z) m)[j]?).map (·.1)=some k/\w.grownBy w' (some b)/\w'.heap.size=w.heap.size:=by
 obtain⟨es,c,hh,hm,hb,hn⟩:=h;have h1:=T.hfind k es.toList m hm w;have aa:=(Array.getElem?_eq_some_iff.1 hh).1;have eD:=zfv eq k m 0;cases hl:locate eq k m 0 with
 |none=>
  rw[hl]at eD;rw[<-eD];have hp:=fun v'=>ze1 hl v'
  refine⟨_,c,m.length,?_,?_,?_,by rw[hp];simp,zgm w b (.map (es.push {key:=ek k,val:=z,born:=c}) (c+1)),by simp⟩
  ·simp[Instr.mapEntry,run_underlying T.ht,zb8 hh,T.hck,h1,hl,T.hz,zem hh,Result.andThen];rfl
  ·refine⟨es.push {key:=ek k,val:=z,born:=c},c+1,by simp[Array.getElem?_setIfInBounds,aa],?_,?_,?_,?_⟩
   ·rw[hp];simp[hm]
   ·intro e he;rw[Array.toList_push]at he;rcases List.mem_append.1 he with he|he
    ·have:=hb e he;omega
    ·rw[List.mem_singleton.1 he];exact Nat.lt_succ_self c
   ·rw[Array.toList_push,List.map_append,List.nodup_append];refine⟨hn,by simp,?_⟩;intro x hx y hy;obtain⟨e,he,rfl⟩:=List.mem_map.1 hx;simp only[List.map_cons,List.map_nil,List.mem_singleton]at hy;have:=hb e he;omega
   ·have ag:es.size=m.length:=by simpa using congrArg List.length hm
    rw[<-ag];simp
  ·intro v;rw[hp,hp,List.set_append_right _ _ (Nat.le_refl _)];simp
 |some p=>
  obtain⟨j,u⟩:=p;rw[hl]at eD;rw[<-eD];have sF:=zjM hl;obtain⟨_,q,hq,he,eX⟩:=zdI hl;simp only[Nat.sub_zero]at hq eX sF;rw[hq]at sF;simp only[Option.map_some,Option.some.injEq]at sF;have hj:j<m.length:=(List.getElem?_eq_some_iff.1 hq).1;have ag:es.toList.length=m.length:=by simpa using congrArg List.length hm
  have cy:j<es.size:=by
   have h0:es.size=m.length:=by simpa using ag
   omega
  have mE:(es[j]).key=ek q.1:=by
   have:=congrArg (fun l=>l[j]?) hm;simp[List.getElem?_map,hq,cy]at this;exact this.1
  have gU:(es[j]).val=u:=by
   have:=congrArg (fun l=>l[j]?) hm;simp[List.getElem?_map,hq,cy]at this;rw[<-sF];exact this.2
  have cv:(es.modify j fun e=> {e with key:=ek k}).toList.map (·.born)=es.toList.map (·.born):=by
   apply List.ext_getElem?;intro i;simp only[List.getElem?_map,Array.getElem?_toList,Array.getElem?_modify];by_cases cQ:j=i
   ·subst cQ;simp[cy,Array.getElem?_eq_getElem cy]
   ·simp[cQ]
  refine⟨_,(es[j]).born,j,?_,?_,?_,by rw[eX];simp[hj],zgm w b (.map (es.modify j fun e=> {e with key:=ek k}) c),by simp⟩
  ·simp[Instr.mapEntry,run_underlying T.ht,zb8 hh,T.hck,h1,hl,Instr.keyThatStays,Array.getElem?_eq_getElem cy,mE,T.hsame _ _ he,zem hh,Result.andThen];rfl
  ·rw[Option.map_some,Option.getD_some,eX];refine⟨es.modify j fun e=> {e with key:=ek k},c,by simp[Array.getElem?_setIfInBounds,aa],?_,?_,by rw[cv];exact hn,?_⟩
   ·apply List.ext_getElem?;intro i;have fH:=congrArg (fun l=>l[i]?) hm;simp only[List.getElem?_map,Array.getElem?_toList]at fH;simp only[List.getElem?_map,Array.getElem?_toList,Array.getElem?_modify,List.getElem?_set];by_cases cQ:j=i
    ·subst cQ;simp[cy,hj,Array.getElem?_eq_getElem cy,gU]
    ·simp[cQ,fH]
   ·intro e he;have h2:e.born∈(es.modify j fun e=> {e with key:=ek k}).toList.map (·.born):=List.mem_map.2 ⟨e,he,rfl⟩;rw[cv]at h2;obtain⟨e',mq,js⟩:=List.mem_map.1 h2;rw[<-js];exact hb e' mq
   ·simp[Array.getElem?_modify,Array.getElem?_eq_getElem cy]
  ·intro v;rw[Option.map_some,Option.getD_some,eX,eX,List.set_set]
theorem StampAt.mapAt{w:World}{b:Nat}{K:Type}{ek:K->Value}{m:List (K×Value)}{j st:Nat}(h:StampAt w b ek m j st):MapAt w b ek (fun v:Value=>v) m:=by
 obtain⟨es,c,h1,h2,_⟩:=h;exact⟨es,c,h1,h2⟩
theorem zmY{P:Program}{ops:Array Oper}{o:Oper}{a:Act}{w:World}{K:Act->World->Prop}{Q:Exit->Act->World->Prop}{E:Prop}{T:TypeId}(bP:o.guard=none)(x i u:Operand)(ho:o.op=.mapUpdate T x i u)(vx vi vu:Value)(hx:a.eval x=vx)(hi:a.eval i=vi)(hu:a.eval u=vu)(w':World)
 (hrun:(Instr.mapUpdate T vx vi vu).run P w=.ok () w')(h:K (a.put o.dst undef) w'):if Region.wanted o (yielded ops a.tmps)=true then Oper.wp P o a w K Q else E:=by
 exact Maa
open Go.Shelf
attribute [local go_sem] zaq zad
theorem elInt:ElTy Tryz.prog 52 3 1 8:=zd3 (z:=.int .i64 0) Mcn Mcn rfl Mco
def TzTab(w:World):Prop:=TabAt 2 Lib.deBruijn64tab w/\2<w.heap.size
theorem TzTab.keep{w W:World}{n:Nat}(h:TzTab w)(hB:Below n w W)(hn:w.heap.size<=n:=by first|exact Nat.le_refl _|omega):TzTab W:=
 ⟨fun j hj=>(zah hB (Nat.lt_of_lt_of_le h.2 hn)).trans (h.1 j hj),Nat.lt_of_lt_of_le h.2 hB.size⟩
theorem tz_any(x:Nat)(hx:x<4096)(w:World)(hT:TzTab w):Calls Tryz.prog 73 #[.int .u64 x] w (Ret0 w (.int .i64 (Lib.ctz 64 x))):=
 (Any7.bits_TrailingZeros tzBits x Mcm w (fun _=>hT.1)).mono fun _ _ h=>⟨h.1,h.2.symm⟩
theorem sl_int{w:World}{b n:Nat}{t:TypeId}{fr:Nat×Nat}(h:w.heap[b]?=some (.cells #[.int .i64 (n:Int)] t fr)):Sl w 1 intC (some ⟨b,0,none⟩) [n]:=fun _=>⟨b,0,rfl,zab h,fun k y hy j u hu=>by
 have hk:k=0:=Mcy;subst hk;simp only[List.getElem?_cons_zero,Option.some.injEq]at hy;subst hy;match j,hu with
 |0,hu=>simp[intC]at hu;simp[World.cell?,h,<-hu]
 |j+1,hu=>simp[intC]at hu⟩
theorem zlL(a b:Nat)(ha:a<4611686018427387904)(hb:b<4611686018427387904):bits .and .i64 (a:Int) (b:Int)=((a &&& b:Nat):Int):=by
 have hx:a &&& b<=a:=Nat.and_le_left;have h1:(BitVec.ofInt 64 (a:Int)).toNat=a:=by
  rw[BitVec.ofInt_natCast,BitVec.toNat_ofNat];exact Nat.mod_eq_of_lt Mcm
 have h2:(BitVec.ofInt 64 (b:Int)).toNat=b:=by
  rw[BitVec.ofInt_natCast,BitVec.toNat_ofNat];exact Nat.mod_eq_of_lt Mcm
 show IntKind.i64.wrap ((BitVec.ofInt 64 (a:Int) &&& BitVec.ofInt 64 (b:Int)).toNat:Int)=_;rw[BitVec.toNat_and,h1,h2,IntKind.wrap_i64];omega
theorem zoe(x:Nat)(hx:x<4096)(h0:x≠0):bits .and .i64 (x:Int) ((x:Int)-1)=((x &&& (x-1):Nat):Int):=by
 rw[show((x:Int)-1)=((x-1:Nat):Int) by omega];exact zlL x (x-1) Mcm Mcm
theorem zlM(n set:Nat)(w:World)(hn:n<=12)(hx:set<2^n)(hT:TzTab w):
 Calls Tryz.prog 39 #[.int .i64 set] w (fun e w'=>∃v,e=.returned v/\OwnS w' w.heap.size 3 1 intC v (zcP n set)/\Below w.heap.size w w'):=by
 have HT:=zHi hT;clear hT;go_enter Tryz.func39,Tryz.ntmps39
 go_wp2_with fail
 go_loopw [0,3] (fun v0 v wr=>∃(x:Nat) (acc:List Nat),v0=.int .i64 x/\x<2^n/\Hid (zcP n set=acc++zcP n x)/\OwnS wr w.heap.size 3 1 intC v acc/\Below w.heap.size w wr) (fun v0 _ _=>(intOf v0).toNat)
 case atStart=>exact⟨set,[],rfl,hx,rfl,OwnS.nil,Below.refl _ _⟩
 case round=>
  obtain⟨x,acc,rfl,dA,HX,ae,hB⟩:=hrel;obtain⟨VA,vc,rfl,_,jV⟩:=ae.sl zg6;obtain⟨HO,HB⟩:=yH2 ae hB;have ny:x<4096:=Nat.lt_of_lt_of_le dA (Nat.pow_le_pow_right (n:=2) Mco hn);by_cases h0:x=0
  ·subst h0;have Ed:=HX.o;rw[bits_none,List.append_nil]at Ed;have og:=zHi Ed;clear Ed ae;go_wp2_with fail
   go_ret
   exact⟨_,rfl,by rw[og.o];exact HO.o,HB.o⟩
  ·have ai:¬(x:Int)=0:=Mcm;have hcv:IntKind.u64.wrap (x:Int)=(x:Int):=by rw[IntKind.wrap_u64];omega
   have J3:=zHi (fun W (hW:Below wr.heap.size wr W)=>tz_any x ny W ((HT.o.keep HB.o).keep hW));have jQ:acc.length<=12:=by
    have h1:=congrArg List.length HX.o;have h2:(zcP n set).length<=n:=by unfold zcP;exact Nat.le_trans (List.length_filter_le _ _) Mcp
    rw[List.length_append]at h1;omega
   have aE:=hB.size;clear ae hB;go_upto_region 3 with
    (first
      |(go_at_call 73
        go_must(refine(J3.o _ Bw).mono ?_)
        rintro e wq ⟨rfl,rfl⟩)
      |(at_builtin
        go_loud(refine zau (v:=.slice VA acc.length vc) (n:=acc.length) (m:=1) rfl _ _ rfl elInt zg6 intC_one rfl (xs:=acc) (ys:=[Lib.ctz 64 x]) (HO.o.keep (n:=wr.heap.size) Bw) rfl rfl rfl (sl_int (zas _ _ _ rfl)) McL Mcm Mcr ?_)
        intro v3 w3 h1 h2 h3;have aC:=Below.grown (B:=w.heap.size) (a:=w) (HB.o.trans (Below.mono (B:=wr.heap.size) (zac (Below.refl _ _) _) aE)) h2 Mcr (fun j hj=>(HO.o.ge j hj).1);obtain⟨H1,aL⟩:=yH2 h1 aC
        clear h1 h2 h3 aC))
   go_wp2_with fail
   go_round
   case rel=>
    rw[zoe x ny h0];refine⟨x &&& (x-1),acc++[Lib.ctz 64 x],rfl,ziE dA,?_,H1.o,aL.o⟩;show _=_;rw[HX.o,bits_step hn dA h0];simp
   case measure=>
    rw[zoe x ny h0];have:=zl6 h0;simp only[intOf];omega
theorem rMulI(a b c d:Int)(w:World)(ha:a.natAbs<=1000000000)(hb:b.natAbs<=1000000000)(hc:c.natAbs<=1000000000)(hd:d.natAbs<=1000000000)(b8:0<b)(iv:0<d)(_h:True):Calls Tryz.prog 144 #[.agg #[.int .i64 a,.int .i64 b],.agg #[.int .i64 c,.int .i64 d]] w (Ret w (zaC (Rat.divInt (a*c) (b*d)))):=by
 have m1:=zaN ha hd;have m2:=zaN hc hb;have m3:=zaN hb hd;have m4:0<b*d:=Int.mul_pos b8 iv;obtain⟨m1,n1⟩:=m1;obtain⟨m2,n2⟩:=m2;obtain⟨m3,n3⟩:=m3;have w1:IntKind.i64.wrap (a*d)=a*d:=IntWalk.i64_in _ Mcm;have w2:IntKind.i64.wrap (c*b)=c*b:=IntWalk.i64_in _ Mcm;have w3:IntKind.i64.wrap (b*d)=b*d:=IntWalk.i64_in _ Mcm;have m5:=zaN ha hc;obtain⟨m5,n5⟩:=m5;have m6:=zaN hb hc;obtain⟨m6,n6⟩:=m6;have w5:IntKind.i64.wrap (a*c)=a*c:=IntWalk.i64_in _ Mcm;have w6:IntKind.i64.wrap (b*c)=b*c:=IntWalk.i64_in _ Mcm;have hs:(a*c).natAbs<=4611686018427387904:=Mcm;have hl:(b*d)<=4611686018427387904:=Mcm;have h4:0<(b*d):=m4;obtain⟨HS,HL,H4⟩:=yH3 hs hl h4;clear hs hl m4 h4 ha hb hc hd;go_enter Tryz.func144,Tryz.ntmps144
 go_wp2_with (go_at_call 165;go_must(refine(ze8 _ _ _ HS.o H4.o HL.o).mono ?_);rintro e w1 ⟨rfl,z1,rfl⟩;simp only[zaC])
 refine bodyPost_ret (v:=zaC (Rat.divInt (a*c) (b*d))) ?_ rfl ?_
 ·exact Maz
 ·exact Ret.of rfl Bw
theorem zgC(p q:Rat)(w:World)(cj:zaJ p)(dP:zaJ q):Calls Tryz.prog 144 #[zaC p,zaC q] w (Ret w (zaC (p*q))):=by
 rw[zgQ];exact rMulI _ _ _ _ _ cj.1 (by have:=cj.2;omega) dP.1 (by have:=dP.2;omega) (zbW p) (zbW q) trivial
def zh5(l:Parts)(n:ByteArray)(k:Nat):Int:=match(l.drop k).findIdx? fun p=>zae p.1 n with
 |none=> -1
 |some i=>((k+i:Nat):Int)
theorem zoQ{l:Parts}{n:ByteArray}{k:Nat}(h:k<l.length):zh5 l n k=if zae l[k].1 n then(k:Int)else zh5 l n (k+1):=by
 unfold zh5;rw[List.drop_eq_getElem_cons h,List.findIdx?_cons];cases hs:zae l[k].1 n
 ·rw[if_neg Mcp,if_neg Mcp];cases(l.drop (k+1)).findIdx? fun p=>zae p.1 n with
  |none=>rfl
  |some i=>
   simp only[Option.map_some];omega
 ·rw[if_pos rfl,if_pos rfl];simp
theorem partI_end{l:Parts}{n:ByteArray}{k:Nat}(h:¬k<l.length):zh5 l n k= -1:=by
 unfold zh5;rw[List.drop_of_length_le Mcm];rfl
theorem zmZ(l:Parts)(n:ByteArray):(zh5 l n 0= -1/\zag l n=0)\/∃(i:Nat) (h:i<l.length),zh5 l n 0=(i:Int)/\zag l n=l[i].2:=by
 unfold zh5 zag;rw[List.drop_zero];cases hx:l.findIdx? fun p=>zae p.1 n with
 |none=>
  refine .inl ⟨rfl,?_⟩;rw[List.findIdx?_eq_none_iff]at hx;have:l.find? (fun p=>zae p.1 n)=none:=by
   rw[List.find?_eq_none];intro p hp;rw[hx p hp];simp
  rw[this];rfl
 |some i=>
  rw[List.findIdx?_eq_some_iff_getElem]at hx;obtain⟨hi,h1,h2⟩:=hx;refine .inr ⟨i,hi,by simp,?_⟩;have:l.find? (fun p=>zae p.1 n)=some l[i]:=by
   rw[List.find?_eq_some_iff_getElem];exact⟨h1,i,hi,rfl,fun j hj=>by simpa using h2 j hj⟩
  rw[this];rfl
theorem rPart_any(l:Parts)(n:ByteArray)(A:Option Addr)(c:Nat)(w:World)(hl:l.length<=1000000000)(hS:Sl w 3 zaa A l):Calls Tryz.prog 167 #[.slice A l.length c,.string n] w (Ret0 w (.int .i64 (zh5 l n 0))):=by
 have HS:=zHi hS;obtain⟨R,hR⟩:∃R,R=zh5 l n 0:=⟨_,rfl⟩
 rw[<-hR];have HR:=zHi hR;clear hS hR;go_enter Tryz.func167,Tryz.ntmps167
 go_upto_region 2 with fail
 go_loopw [5] (fun i wr=>∃k:Nat,k<=l.length/\i=.int .i64 k/\w=wr/\Hid (R=zh5 l n k)) (fun i _=>l.length-(intOf i).toNat)
 case atStart=>exact⟨0,Nat.zero_le _,rfl,rfl,HR.o⟩
 case round=>
  obtain⟨k,hk,rfl,rfl,HX⟩:=hrel;by_cases aa:k<l.length
  ·obtain⟨b,off,rfl,hb,ah⟩:=HS.o.at aa;have hx:=HX.o;rw[zoQ aa]at hx;obtain⟨av,am⟩:=yH2 hx aa;generalize l[k]=x at*;obtain⟨nm,q⟩:=x;have i0:w.cell? ⟨b,off+k*3,none⟩=some (.string nm):=ah 0 _ rfl;have au:(k:Int)<(l.length:Int):=Mcm;have aP:(0:Int)<=(k:Int):=Mcm;clear ah hx aa;cases hs:zae nm n
   ·have HE:Hid (R=zh5 l n (k+1)):=by show _=_;rw[av.o,hs];rfl
    have bo:(nm.toList==n.toList)=false:=hs;go_wp2_with fail
    exact MK
   ·have HE:Hid (R=(k:Int)):=by show _=_;rw[av.o,hs];rfl
    have bo:(nm.toList==n.toList)=true:=hs;exact M6
  ·have au:¬(k:Int)<(l.length:Int):=Mcm;have HE:Hid (R= -1):=by show _=_;rw[HX.o,partI_end aa]
   exact M6
theorem zfp(l:Parts)(n:ByteArray)(A:Option Addr)(c:Nat)(w:World)(hl:l.length<=1000000000)(hS:Sl w 3 zaa A l):Calls Tryz.prog 142 #[.slice A l.length c,.string n] w (Ret w (zaC (zag l n))):=by
 have HP:=zHi (fun W (h:Below w.heap.size w W)=>rPart_any l n A c W hl (hS.keep h));rcases zmZ l n with⟨h1,h2⟩|⟨i,hi,h1,h2⟩
 ·rw[h1]at HP;rw[h2];clear hS;go_enter Tryz.func142,Tryz.ntmps142
  go_wp2_with (first
   |(go_at_call 167;go_must(refine(HP.o _ Bw).mono ?_);rintro e wq ⟨rfl,rfl⟩)
   |(go_at_call 136;go_must(refine(ziq _).mono ?_);rintro e wq ⟨rfl,z,rfl⟩))
  refine bodyPost_ret (v:=zaC 0) ?_ rfl ?_
  ·exact Mcb
  ·exact Ret.of rfl Bw
 ·rw[h1]at HP;rw[h2];obtain⟨b,off,rfl,hb,ah⟩:=hS.at hi;generalize l[i]=x at*;obtain⟨nm,q⟩:=x;have i1:w.cell? ⟨b,off+i*3+1,none⟩=some (.int .i64 q.num):=ah 1 _ rfl;have i2:w.cell? ⟨b,off+i*3+2,none⟩=some (.int .i64 q.den):=ah 2 _ rfl;have au:(i:Int)<(l.length:Int):=Mcm;have aP:(0:Int)<=(i:Int):=Mcm;clear hS ah h1 h2;go_enter Tryz.func142,Tryz.ntmps142
  go_wp2_with (go_at_call 167;go_must(refine(HP.o _ Bw).mono ?_);rintro e wq ⟨rfl,rfl⟩)
  refine bodyPost_ret (v:=zaC q) ?_ rfl ?_
  ·exact Mcb
  ·exact Ret.of rfl Bw
