import Derived.Test.YtcfheecahnnhjaaGreatDoorO7
import Derived.Test.YtcfheecahnnhjaaGreatDoorJQ
set_option linter.all false
set_option maxRecDepth 100000
set_option maxHeartbeats 4000000
namespace Go.Proofs.YtcfheecahnnhjaaGreatDoor
open Go.RowKit
attribute [local go_sem] World.cell?_alloc_mark zag za4 zar zaB zaw zax zay zaz za0 za1 za2
attribute [local go_sem] zas zad
theorem zlI(l:Parts)(h:∀p∈l,0<p.2)(k:Nat):sumQ (l.take k)<=sumQ l:=by
 induction l generalizing k with
 |nil=>simp
 |cons p l ih=>
  cases k with
  |zero=>
   have h1:0<=sumQ l:=by
    have:=ih (fun q hq=>h q MdH) 0;simpa[sumQ]using this
   have:=h p Mcx;rw[List.take_zero,sumQ,sumQ];grind
  |succ k=>
   have:=ih (fun q hq=>h q MdH) k;rw[List.take_succ_cons,sumQ,sumQ];grind
structure WillInv (y:(Parts×Bool)×Rat):Prop where
 flag:y.1.2=false
 bd:Bd y.1.1 (1-y.2)
 isN:IsN 720720 y.2
 nn:0<=y.2
 le:y.2<=1
 small:zaJ y.2
theorem zk6{s:St}{frm:ByteArray}{l:Parts}(hw:WillOk l)(k:Nat):WillInv (zdm s frm (l.take k) ([],false) 1):=by
 have hp:∀p∈l.take k,0<p.2:=fun p hp=>hw.pos p (List.mem_of_mem_take hp)
 have hN:∀p∈l.take k,IsN 720720 p.2:=fun p hp=>hw.isN p (List.mem_of_mem_take hp)
 have h1:=zgu (s:=s) (frm:=frm) (rest:=1) hp hN zdD Mcx;obtain⟨g1,g2,g3,g4,g5⟩:=zij (s:=s) (frm:=frm) (out:=[]) (rest:=1) hp hN (Rat.le_trans (zlI l hw.pos k) hw.le) zdD Mcx (zgX _);rw[h1];have gs:zaF (zcu s frm (l.take k) [] 1).1=false:=zc9 Mcw Mcw g2;have hn:=zbt (fun p hp=>by have:=g1.pos p hp;grind) (l:=(zcu s frm (l.take k) [] 1).1);have au:sumQ ([]:Parts)=0:=rfl;rw[au]at g5;have bP:(zcu s frm (l.take k) [] 1).2<=1:=McX;exact⟨rfl,⟨g1,gs,by grind⟩,g3,g4,bP,zcd g4 bP (zey Mcw Mcw g3)⟩
theorem zlJ{α:Type}{p q:α->Bool}:∀ {l:List α},(∀x∈l,p x=true->q x=true)->(∃x∈l,q x=true/\p x=false)->(l.filter p).length<(l.filter q).length
 | [],_,h=>by obtain⟨x,hx,_⟩:=h;cases hx
 |y::l,h1,h2=>by
  have bP:∀ {l:List α},(∀x∈l,p x=true->q x=true)->(l.filter p).length<=(l.filter q).length:=by
   intro l;induction l with
   |nil=>intro _;simp
   |cons z l ih=>
    intro h;have:=ih (fun x hx=>h x (by simp[hx]));cases hp:p z
    ·cases hq:q z<;>simp[hp,hq]<;>omega
    ·have hq:=h z Mcx hp;simp[hp,hq];omega
  have hl:=bP (l:=l) (fun x hx=>h1 x (by simp[hx]));obtain⟨x,hx,h3,h4⟩:=h2;rcases List.mem_cons.1 hx with rfl|hx
  ·simp[h3,h4];omega
  ·have:=zlJ (l:=l) (fun x hx=>h1 x (by simp[hx])) ⟨x,hx,h3,h4⟩;cases hp:p y
   ·cases hq:q y<;>simp[hp,hq]<;>omega
   ·have hq:=h1 y Mcx hp;simp[hp,hq];omega
open Classical in
noncomputable def zlK (s:St) (n:ByteArray):Nat:=(s.children.filter fun e=>decide (e.1=n\/Desc s n e.1)).length
theorem zmS{s:St}(ha:∀a,¬Desc s a a){n c:ByteArray}(hc:c∈zai s n):zlK s c<zlK s n:=by
 unfold zlK;have hd:=zfy hc;refine zlJ (fun e _ h=>?_) ⟨(n,c),zdx.1 hc,by simp,?_⟩
 ·simp only[decide_eq_true_eq]at h⊢;rcases h with h|h
  ·right;rw[h];exact hd
  ·right;exact zgQ hd h
 ·simp only[decide_eq_false_iff_not,not_or];refine⟨fun e=>?_,fun h=>?_⟩
  ·have Kn:Desc s n n:=by
    have:=hd;rw[<-show n=c from e]at this;exact this
   exact ha n Kn
  ·exact ha n (zgQ hd h)
theorem deep_of{s:St}(ha:∀a,¬Desc s a a):∀(f:Nat) (n:ByteArray),zlK s n<f->Deep s f n
 |0,_,h=>by omega
 |f+1,n,h=>fun c hc=>deep_of ha f c (by have:=zmS ha hc;omega)
theorem zk7{s:St}(ha:∀a,¬Desc s a a)(n:ByteArray):Deep s (zaX s) n:=deep_of ha _ n (by
 unfold zaX zlK
 exact Nat.lt_succ_of_le (List.length_filter_le _ _))
theorem part_big{q:Rat}(h0:0<q)(hb:bigQ q=false):1<=(1000000000:Rat)*q:=by
 unfold bigQ at hb;have hd:(q.den:Int)<=1000000000:=by simpa using hb
 have hz:((q.den:Int):Rat)≠0:=ratI (by have:=q.den_pos;omega);have h1:q=q.num/((q.den:Int):Rat):=by rw[<-Rat.divInt_eq_div,Rat.num_divInt_den]
 have pD:q*((q.den:Int):Rat)=q.num:=by
  have:=Rat.div_mul_cancel (a:=(q.num:Rat)) hz;rw[<-h1]at this;exact this
 have hq:0<q.num:=by have:=(Rat.lt_iff 0 q).1 h0;simpa using this
 have h2:((1:Int):Rat)<=(q.num:Rat):=Rat.intCast_le_intCast.2 hq;have h3:((q.den:Int):Rat)<=((1000000000:Int):Rat):=Rat.intCast_le_intCast.2 hd;have h4:=Rat.mul_le_mul_of_nonneg_left h3 (show(0:Rat)<=q by grind);rw[pD]at h4;have e1:((1:Int):Rat)=1:=rfl;have e2:((1000000000:Int):Rat)=1000000000:=rfl;rw[e1]at h2;rw[e2]at h4;grind
theorem zlL:∀ {l:Parts},(∀p∈l,0<p.2)->zaF l=false->(l.length:Rat)<=1000000000*sumQ l
 | [],_,_=>by
   have:((([]:Parts).length:Nat):Rat)=0:=rfl;rw[this,sumQ];grind
 |p::l,h1,h2=>by
  unfold zaF at h2;rw[List.any_cons,Bool.or_eq_false_iff]at h2;have h3:=part_big (h1 p Mcx) h2.1;have h4:=zlL (l:=l) (fun q hq=>h1 q MdH) h2.2;rw[List.length_cons,zg2,sumQ];grind
theorem Bd.len{out:Parts}{t:Rat}(h:Bd out t)(ht:t<=1):out.length<=1000000000:=by
 have h1:=zlL h.good.pos h.small;have h2:=h.le;have h3:((out.length:Int):Rat)<=((1000000000:Int):Rat):=by
  have e2:((1000000000:Int):Rat)=1000000000:=rfl;rw[e2,Rat.intCast_natCast];grind
 have:=Rat.intCast_le_intCast.1 h3;omega
def zcf(n:ByteArray)(day:Int)(g:Grave):Bool:=zaR g day&&decide (0<(zaf g.holders n).num)
theorem zk8{q:Rat}:0<q↔0<q.num:=by rw[Rat.lt_iff];simp
theorem held_same{s:St}{last day:Int}{n:ByteArray}{i:Nat}{g:Grave}(hG:GoodSt s last)(hl:last<=day)(hi:s.graves[i]?=some g):zdw s n day i g=zcf n day g:=by
 have aW:=hG.graves g (List.mem_of_getElem? hi);have hn:=zbF aW.good n;have h1:(zaf g.holders n != 0)=decide (0<(zaf g.holders n).num):=by
  rw[Bool.eq_iff_iff,bne_iff_ne,decide_eq_true_eq,<-zk8];constructor
  ·intro h;exact Rat.lt_of_le_of_ne hn (fun e=>h e.symm)
  ·intro h e;rw[e]at h;exact absurd h Mcw
 have h2:(zaL s g.place day==some i)=zaR g day:=by
  cases hf:zaR g day
  ·cases hx:zaL s g.place day with
   |none=>rfl
   |some j=>
    obtain⟨gj,h3,h4,h5⟩:=zbO hx;cases cr:(some j==some i)
    ·rfl
    ·have e:j=i:=by simpa using cr
     subst e;rw[h3]at hi;simp only[Option.some.injEq]at hi;rw[hi,hf]at h5;cases h5
  ·cases hx:zaL s g.place day with
   |none=>
    have:=zhr hx g (List.mem_of_getElem? hi) rfl;rw[hf]at this;cases this
   |some j=>
    obtain⟨gj,h3,h4,h5⟩:=zbO hx;have:=hG.force j i gj g h3 hi h4 day hl h5 hf;simp[this]
 unfold zdw zcf;rw[h1,h2,Bool.and_comm]
def zd6(n:ByteArray)(h:Parts)(g:Grave)(f:Bool):Parts×Bool:=zem (zaf g.holders n) h (setP g.holders n 0,f)
def zfF(n:ByteArray)(day:Int)(h:Parts):List Grave->Bool->List Grave×Bool
 | [],f=>([],f)
 |g::l,f=>if zcf n day g then(⟨g.place,g.cls,g.fin,(zd6 n h g f).1,g.died++[n]⟩::(zfF n day h l (zd6 n h g f).2).1,(zfF n day h l (zd6 n h g f).2).2)else(g::(zfF n day h l f).1,(zfF n day h l f).2)
theorem zg5{n:ByteArray}{day:Int}{h:Parts}:∀ {l:List Grave} {f:Bool},f=true->(zfF n day h l f).2=true
 | [],_,hf=>hf
 |g::l,f,hf=>by
  rw[zfF];split
  ·exact zg5 (zfj (by exact hf))
  ·exact zg5 hf
theorem zlM{s:St}{n:ByteArray}{day:Int}{h:Parts}(hh:∀p∈h,0<=p.2):∀ {l:List Grave} {i:Nat},(∀j g,l[j]?=some g->zdw s n day (i+j) g=zcf n day g)->(∀g∈l,GoodG g)->
 (∀gs,zb2 s n day (some h) i l=some gs->zfF n day h l false=(gs,false))/\(zb2 s n day (some h) i l=none->(zfF n day h l false).2=true)
 | [],i,_,_=>by
   rw[zb2,zfF];exact⟨fun gs e=>by cases e;rfl,fun e=>by cases e⟩
 |g::l,i,hq,hg=>by
  have ih:=zlM (s:=s) (n:=n) (day:=day) hh (l:=l) (i:=i+1) (fun j g' hj=>by
   have:=hq (j+1) g' Med;rw[show i+1+j=i+(j+1) by omega]
   exact this) (fun g' h'=>hg g' (by simp[h']))
  have h0:=hq 0 g rfl;rw[Nat.add_zero]at h0;rw[zb2,zfF,h0];have aW:=hg g Mcx;cases un:zcf n day g
  ·simp only[Bool.false_eq_true,if_false];refine⟨fun gs e=>?_,fun e=>?_⟩
   ·cases hd:zb2 s n day (some h) (i+1) l with
    |none=>rw[hd]at e;cases e
    |some r=>
     rw[hd]at e;simp only[Option.map_some,Option.some.injEq]at e;rw[ih.1 r hd,<-e]
   ·cases hd:zb2 s n day (some h) (i+1) l with
    |none=>exact ih.2 hd
    |some r=>rw[hd]at e;cases e
  ·simp only[if_true];have hz:setP g.holders n 0=zau g.holders n:=zhF aW.good.asc n
   obtain⟨g1,g2⟩:=ziz (zbF aW.good n) hh (zbN aW.good (n:=n)) (by
    have h1:zaF (setP g.holders n 0)=false:=zex aW.small Mcw;rw[<-hz]
    exact h1)
   have hy:zd6 n h g false=zem (zaf g.holders n) h (zau g.holders n,false):=by unfold zd6;rw[hz]
   rw[hy];cases dA:zbC (zaf g.holders n) h (zau g.holders n)with
   |none=>
    have h3:=g2 dA;refine⟨fun gs e=>by simp at e,fun _=>?_⟩;exact zg5 h3
   |some o=>
    have h3:=g1 o dA;rw[h3];refine⟨fun gs e=>?_,fun e=>?_⟩
    ·cases hd:zb2 s n day (some h) (i+1) l with
     |none=>rw[hd]at e;cases e
     |some r=>
      rw[hd]at e;simp only[Option.bind_some,Option.map_some,Option.some.injEq]at e;rw[ih.1 r hd,<-e]
    ·cases hd:zb2 s n day (some h) (i+1) l with
     |none=>exact ih.2 hd
     |some r=>rw[hd]at e;cases e
theorem zlN{s:St}{n:ByteArray}{day:Int}{h:Option Parts}:∀ {l:List Grave} {i:Nat},(∀j g,l[j]?=some g->zdw s n day (i+j) g=zcf n day g)->(l.any (zcf n day)=false->zb2 s n day h i l=some l)/\(h=none->l.any (zcf n day)=true->zb2 s n day h i l=none)
 | [],i,_=>by
   have e:zb2 s n day h i []=some []:=by simp[zb2]
   rw[e];exact⟨fun _=>rfl,fun _ e=>by cases e⟩
 |g::l,i,hq=>by
  have ih:=zlN (s:=s) (n:=n) (day:=day) (h:=h) (l:=l) (i:=i+1) (fun j g' hj=>by
   have:=hq (j+1) g' Med;rw[show i+1+j=i+(j+1) by omega]
   exact this)
  have h0:=hq 0 g rfl;rw[Nat.add_zero]at h0;unfold zb2;rw[h0,List.any_cons];cases un:zcf n day g
  ·simp only[Bool.false_eq_true,if_false,Bool.false_or];exact⟨fun e=>by rw[ih.1 e];rfl,fun e1 e2=>by rw[ih.2 e1 e2];rfl⟩
  ·simp only[if_true,Bool.true_or];refine⟨fun e=>(by cases e),fun e _=>?_⟩;subst e;rfl
theorem deathP_eq{laws:List Law}{s:St}{d:Deed}{last:Int}(hG:GoodSt s last)(hl:last<=d.day)(hw:za8 16 (zbc laws d.day).num (zbc laws d.day).den=true):
 zdQ laws s d=if zaN s d.frm then(s,28)else if s.graves.any (zcf d.frm d.day)then
  (if(zfF d.frm d.day (zcn s (zbc laws d.day) d.frm).1 s.graves (zcn s (zbc laws d.day) d.frm).2).2 then(s,8)else
    ({s with graves:=(zfF d.frm d.day (zcn s (zbc laws d.day) d.frm).1 s.graves (zcn s (zbc laws d.day) d.frm).2).1,dead:=s.dead++[d.frm]},0))
  else({s with dead:=s.dead++[d.frm]},0):=by
 have hq:∀j g,s.graves[j]?=some g->zdw s d.frm d.day (0+j) g=zcf d.frm d.day g:=fun j g hj=>by rw[Nat.zero_add];exact held_same hG hl hj
 obtain⟨e1,e2⟩:=zfS (s:=s) (n:=d.frm) (hG.wills d.frm) hw;have hn:=zlN (s:=s) (n:=d.frm) (day:=d.day) (h:=zcP s (zbc laws d.day) d.frm) hq;unfold zdQ;cases hd:zaN s d.frm
 ·simp only[Bool.false_eq_true,if_false];cases ha:s.graves.any (zcf d.frm d.day)
  ·rw[hn.1 ha];simp
  ·simp only[if_true];cases he:zcP s (zbc laws d.day) d.frm with
   |none=>
    rw[he]at hn;rw[hn.2 rfl ha,if_pos (zg5 (e2 he))]
   |some h=>
    have bG:=ze9 (hG.wills d.frm) hw he;obtain⟨f1,f2⟩:=zlM (s:=s) (n:=d.frm) (day:=d.day) (h:=h) (fun p hp=>by have:=bG.1.pos p hp;grind) hq hG.graves;rw[e1 h he];cases hx:zb2 s d.frm d.day (some h) 0 s.graves with
    |none=>
     simp only;rw[if_pos (f2 hx)]
    |some gs=>
     simp only;rw[f1 gs hx];simp
 ·simp
def zbf(n:ByteArray)(day:Int):Nat->List Grave->List Nat
 |_,[]=>[]
 |k,g::l=>if zcf n day g then k::zbf n day (k+1) l else zbf n day (k+1) l
theorem ziI(n:ByteArray)(day:Int):∀(k:Nat) (a b:List Grave),zbf n day k (a++b)=zbf n day k a++zbf n day (k+a.length) b
 |k,[],b=>by simp[zbf]
 |k,g::a,b=>by
  rw[List.cons_append,zbf,zbf,ziI n day (k+1) a b,List.length_cons];rw[show k+1+a.length=k+(a.length+1) by omega];split<;>simp
theorem held_snoc(n:ByteArray)(day:Int)(gs:List Grave){k:Nat}(h:k<gs.length):zbf n day 0 (gs.take (k+1))=zbf n day 0 (gs.take k)++if zcf n day gs[k]then[k]else[]:=by
 rw[List.take_succ_eq_append_getElem h,ziI,Nat.zero_add,List.length_take,Nat.min_eq_left Mcu,zbf,zbf]
theorem zf8(n:ByteArray)(day:Int):∀(k:Nat) (l:List Grave),(zbf n day k l).length=(l.filter (zcf n day)).length
 |_,[]=>rfl
 |k,g::l=>by
  rw[zbf,List.filter_cons];split<;>simp[zf8 n day (k+1) l]
theorem zod(n:ByteArray)(day:Int):∀(l:List Grave) (k j i:Nat),(zbf n day k l)[j]?=some i->k<=i/\∃g,l[i-k]?=some g/\(l.filter (zcf n day))[j]?=some g
 | [],k,j,i,h=>by simp[zbf]at h
 |g::l,k,j,i,h=>by
  rw[zbf]at h;rw[List.filter_cons];cases hq:zcf n day g
  ·rw[hq]at h;simp only[Bool.false_eq_true,if_false]at h⊢;exact MaT
  ·rw[hq]at h;simp only[if_true]at h⊢;cases j with
   |zero=>
    simp only[List.getElem?_cons_zero,Option.some.injEq]at h;subst h;exact⟨Nat.le_refl _,g,by simp,by simp⟩
   |succ j=>
    simp only[List.getElem?_cons_succ]at h⊢;exact MaT
def zdc(n:ByteArray)(h:Parts):List Grave->Bool->List Grave×Bool
 | [],f=>([],f)
 |g::l,f=>(⟨g.place,g.cls,g.fin,(zd6 n h g f).1,g.died++[n]⟩::(zdc n h l (zd6 n h g f).2).1,(zdc n h l (zd6 n h g f).2).2)
theorem ziJ(n:ByteArray)(h:Parts):∀(a b:List Grave) (f:Bool),zdc n h (a++b) f=((zdc n h a f).1++(zdc n h b (zdc n h a f).2).1,(zdc n h b (zdc n h a f).2).2)
 | [],b,f=>by simp[zdc]
 |g::a,b,f=>by
  rw[List.cons_append,zdc,ziJ n h a b,zdc];simp
theorem next_snoc(n:ByteArray)(h:Parts)(l:List Grave)(f:Bool){k:Nat}(hk:k<l.length):zdc n h (l.take (k+1)) f=((zdc n h (l.take k) f).1++[⟨l[k].place,l[k].cls,l[k].fin,(zd6 n h l[k] (zdc n h (l.take k) f).2).1,l[k].died++[n]⟩],(zd6 n h l[k] (zdc n h (l.take k) f).2).2):=by
 rw[List.take_succ_eq_append_getElem hk,ziJ,zdc,zdc]
theorem zk9(n:ByteArray)(h:Parts):∀(l:List Grave) (f:Bool),(zdc n h l f).1.length=l.length
 | [],_=>rfl
 |g::l,f=>by rw[zdc];simp[zk9 n h l]
def zd7:List Grave->List Nat->List Grave->List Grave
 |gs,i::H,x::X=>zd7 (gs.set i x) H X
 |gs,_,_=>gs
theorem ziK:∀(H:List Nat) (X:List Grave) (gs:List Grave) (i:Nat) (x:Grave),H.length=X.length->zd7 gs (H++[i]) (X++[x])=(zd7 gs H X).set i x
 | [],[],gs,i,x,_=>rfl
 | [],_::_,_,_,_,h=>by cases h
 |_::_,[],_,_,_,h=>by cases h
 |j::H,y::X,gs,i,x,h=>by
  rw[List.cons_append,List.cons_append,zd7,zd7];exact ziK H X _ i x Mdy
theorem zjN:∀(H:List Nat) (X gs:List Grave),(zd7 gs H X).length=gs.length
 | [],_,_=>by simp[zd7]
 |_::_,[],_=>by simp[zd7]
 |j::H,y::X,gs=>by rw[zd7,zjN H X];simp
theorem zfU(n:ByteArray)(day:Int)(h:Parts):∀(l A:List Grave) (f:Bool),zd7 (A++l) (zbf n day A.length l) (zdc n h (l.filter (zcf n day)) f).1=A++(zfF n day h l f).1/\(zdc n h (l.filter (zcf n day)) f).2=(zfF n day h l f).2
 | [],A,f=>by simp[zbf,zdc,zfF,zd7]
 |g::l,A,f=>by
  rw[zbf,List.filter_cons,zfF];cases hq:zcf n day g
  ·simp only[Bool.false_eq_true,if_false];have:=zfU n day h l (A++[g]) f;rw[List.length_append,List.length_singleton,List.append_assoc,List.singleton_append]at this;exact⟨by rw[this.1];simp,this.2⟩
  ·simp only[if_true];rw[zdc,zd7];have:=zfU n day h l (A++[⟨g.place,g.cls,g.fin,(zd6 n h g f).1,g.died++[n]⟩]) (zd6 n h g f).2;rw[List.length_append,List.length_singleton,List.append_assoc,List.singleton_append]at this;have e:(A++g::l).set A.length ⟨g.place,g.cls,g.fin,(zd6 n h g f).1,g.died++[n]⟩=A++⟨g.place,g.cls,g.fin,(zd6 n h g f).1,g.died++[n]⟩::l:=by
    rw[List.set_append_right _ _ (Nat.le_refl _),Nat.sub_self,List.set_cons_zero]
   exact⟨by rw[e,this.1];simp,this.2⟩
open Go.Shelf
theorem zlO(a b:ByteArray):zae a b=zae b a:=by rw[Bool.eq_iff_iff,zap,zap];exact⟨Eq.symm,Eq.symm⟩
theorem zoO(l:List RPart)(frm:ByteArray)(A:Option Addr)(c:Nat)(w:World)(hl:l.length<=1000000)(hS:Sl w 3 RPart.cells A l):Calls Tryz.prog 124 #[.slice A l.length c,.string frm] w (Ret w (.bool (zd4 l frm 0))):=by
 have HS:=zHi hS;obtain⟨R,hR⟩:∃R,R=zd4 l frm 0:=⟨_,rfl⟩
 rw[<-hR];have HR:=zHi hR;clear hS hR;go_enter Tryz.func124,Tryz.ntmps124
 go_upto_region 2 with fail
 go_loopw [5,6] (fun i _ wr=>∃k:Nat,k<=l.length/\i=.int .i64 k/\Hid (R=zd4 l frm k)/\Below w.heap.size w wr) (fun i _ _=>l.length-(intOf i).toNat)
 case atStart=>exact⟨0,Nat.zero_le _,rfl,HR.o,Below.refl _ _⟩
 case round=>
  obtain⟨k,hk,rfl,HX,hB⟩:=hrel;obtain⟨WR,oA⟩:∃WR,WR=wr:=⟨_,rfl⟩
  subst oA;have HB:=zHi hB;by_cases ae:k<l.length
  ·have hx:=HX.o;rw[zoD ae]at hx;obtain⟨av,am⟩:=yH2 hx ae;have ar:(k:Int)<(l.length:Int):=Mcu;have aT:(0:Int)<=(k:Int):=Mcu;clear hx hB;go_upto_region 5 with fail
   go_loopw [6] (fun v6 wr=>∃j:Nat,j<=k/\v6=.int .i64 j/\Hid (R=(!clash l (l[k]'ae).name j k&&(!zae (l[k]'ae).name frm&&zd4 l frm (k+1))))/\Below w.heap.size w wr) (fun v6 _=>k-(intOf v6).toNat)
   case atStart=>exact⟨0,Nat.zero_le _,rfl,av.o,HB.o⟩
   case round=>
    obtain⟨j,hj,rfl,HY,gB⟩:=hrel;have fA:=zHi gB;have ng:=gB.size;have xO:=(HS.o.keep gB).at ae;by_cases hjk:j<k
    ·have cQ:j<l.length:=Mcu;have hy:=HY.o;rw[zoE hjk ae]at hy;obtain⟨b,off,hA,hb,ah⟩:=xO;obtain⟨b2,off2,m9,_,xg⟩:=(HS.o.keep gB).at cQ;obtain⟨rfl,rfl⟩:b=b2/\off=off2:=by rw[hA]at m9;simpa using m9
     have i1:wr.cell? ⟨b,off+k*3,none⟩=some (.string (l[k]'ae).name):=ah 0 _ rfl;have i0:wr.cell? ⟨b,off+j*3,none⟩=some (.string (l[j]'cQ).name):=xg 0 _ rfl;obtain⟨vY,Ev⟩:=yH2 hy hjk;have Dw:(j:Int)<(k:Int):=Mcu;have pT:(0:Int)<=(j:Int):=Mcu;have KN:(j:Int)<(l.length:Int):=Mcu;clear ah xg m9 hy gB;subst hA;go_upto_region 7 with fail
     generalize cx:(l[k]'ae).name=n1 at*;generalize(l[j]'cQ).name=n0 at*;cases hs:zae n0 n1
     ·have aY:(n0.toList==n1.toList)=false:=hs;have g8:zae n1 n0=false:=by rw[zlO];exact hs
      have HE:Hid (R=(!clash l n1 (j+1) k&&(!zae n1 frm&&zd4 l frm (k+1)))):=by show _=_;rw[vY.o,g8];rfl
      (refine zaj Mcv Mcv ?_
       repeat(first|go_big_quiet_skip|(go_big_quiet_want;go_big_quiet_op;first|go_big_quiet_on|(apply Exists.intro;refine⟨fun _=>?_,?_⟩;(fail);go_big_quiet_on)))
       refine wpQuiet_nil ?_
       rintro _ ⟨zq,rfl⟩)
      go_wp2_with fail
      go_round
      case rel=>exact⟨j+1,Ev.o,by go_num,by(first|exact HE|(rw[cx];exact HE)),zbg fA.o zq⟩
      case measure=>have:=Ev.o;simp only[intOf];omega
     ·have aY:(n0.toList==n1.toList)=true:=hs;have g8:zae n1 n0=true:=by rw[zlO];exact hs
      have HE:Hid (R=false):=by show _=_;rw[vY.o,g8];rfl
      (refine zaj Mcv Mcv ?_
       repeat(first|go_big_quiet_skip|(go_big_quiet_want;go_big_quiet_op;first|go_big_quiet_on|(apply Exists.intro;refine⟨fun _=>?_,?_⟩;(fail);go_big_quiet_on)))
       refine wpQuiet_nil ?_
       rintro _ ⟨zq,rfl⟩)
      go_wp2_with fail
      go_ret
      exact Ret.of (zaP HE.o.symm) (zbg fA.o zq)
    ·have Dw:¬(j:Int)<(k:Int):=Mcu;have hy:=HY.o;rw[clash_end hjk]at hy;obtain⟨b,off,rfl,hb,ah⟩:=xO;have vY:=zHi hy;have i1:wr.cell? ⟨b,off+k*3,none⟩=some (.string (l[k]'ae).name):=ah 0 _ rfl;clear ah hy gB hjk hj av;generalize(l[k]'ae).name=n1 at*;cases hs:zae n1 frm
     ·have aY:(n1.toList==frm.toList)=false:=hs;have HE:Hid (R=zd4 l frm (k+1)):=by show _=_;rw[vY.o,hs];simp
      go_wp2_with fail
      go_round
      case rel=>exact⟨k+1,am.o,by go_num,HE.o,fA.o⟩
      case measure=>have:=am.o;simp only[intOf];omega
     ·have aY:(n1.toList==frm.toList)=true:=hs;have HE:Hid (R=false):=by show _=_;rw[vY.o,hs];simp
      go_wp2_with fail
      go_ret
      exact Ret.of (zaP HE.o.symm) fA.o
  ·have ar:¬(k:Int)<(l.length:Int):=Mcu;have HE:Hid (R=true):=by show _=_;rw[HX.o];unfold zd4;rw[List.drop_of_length_le Mcu];rfl
   clear hB;exact MR
