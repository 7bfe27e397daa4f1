import Derived.Test.YtogklihlgindkaaGreatDoorJL
import Derived.StillTail
import Derived.Deep.RegionHeld3
set_option linter.all false
set_option maxRecDepth 100000
set_option maxHeartbeats 4000000
namespace Go.Proofs.YtogklihlgindkaaGreatDoor
section
open Go.RowKit
def zlr:∀l:List UInt8,Op.bytesLess l l=false
 | []=>rfl
 |a::l=>by rw[Op.bytesLess,zlr l];simp
def zip:∀ {a b c:List UInt8},Op.bytesLess a b=true->Op.bytesLess b c=true->Op.bytesLess a c=true
 |_,[],_,h,_=>by unfold Op.bytesLess at h;simp at h
 |_,_::_,[],_,h=>by unfold Op.bytesLess at h;simp at h
 | [],_::_,_::_,_,_=>rfl
 |a::x,b::y,c::z,h1,h2=>by
  have ih:= @zip x y z;simp only[Op.bytesLess,Bool.or_eq_true,decide_eq_true_eq,Bool.and_eq_true,beq_iff_eq,UInt8.lt_iff_toNat_lt]at h1 h2⊢;rcases h1 with h1|⟨rfl,h1⟩<;>rcases h2 with h2|⟨rfl,h2⟩
  ·exact .inl (by omega)
  ·exact .inl h1
  ·exact .inl h2
  ·exact .inr ⟨rfl,ih h1 h2⟩
def zls:∀a b:List UInt8,Op.bytesLess a b=true\/a=b\/Op.bytesLess b a=true
 | [],[]=> .inr (.inl rfl)
 | [],_::_=> .inl rfl
 |_::_,[]=> .inr (.inr rfl)
 |a::x,b::y=>by
  have ih:=zls x y;simp only[Op.bytesLess,Bool.or_eq_true,decide_eq_true_eq,Bool.and_eq_true,beq_iff_eq,List.cons.injEq,UInt8.lt_iff_toNat_lt];rcases Nat.lt_trichotomy a.toNat b.toNat with h|h|h
  ·exact .inl (.inl h)
  ·have h':a=b:=UInt8.toNat_inj.1 h;subst h';rcases ih with ih|ih|ih
   ·exact .inl (.inr ⟨rfl,ih⟩)
   ·exact .inr (.inl ⟨rfl,ih⟩)
   ·exact .inr (.inr (.inr ⟨rfl,ih⟩))
  ·exact .inr (.inr (.inl h))
def zeZ(a:ByteArray):zbn a a=false:=zlr _
def zb5{a b c:ByteArray}(h:zbn a b=true)(k:zbn b c=true):zbn a c=true:=zip h k
def zdx(a b:ByteArray):zbn a b=true\/a=b\/zbn b a=true:=by
 rcases zls a.toList b.toList with h|h|h
 ·exact .inl h
 ·exact .inr (.inl (za2.1 (by unfold zae;simpa using h)))
 ·exact .inr (.inr h)
def zcJ{a b:ByteArray}(h:zbn a b=true):a≠b:=by
 rintro rfl;rw[zeZ]at h;cases h
def zjH{a b:ByteArray}(h:zbn a b=true):zbn b a=false:=by
 rw[<-Bool.not_eq_true];intro k;have:=zb5 h k;rw[zeZ]at this;cases this
structure GoodParts (l:Parts):Prop where
 asc:l.Pairwise λa b=>zbn a.1 b.1=true
 pos:∀p∈l,0<p.2
def zbW(n:ByteArray)(q:Rat):∀l:Parts,sumQ (za5 l n q)=sumQ l+q
 | []=>by
   unfold za5;split
   ·rename_i h
    have:q=0:=by simpa using h
    subst this;simp[sumQ];grind
   ·simp[sumQ];grind
 |p::r=>by
  have ih:=zbW n q r;unfold za5;split
  ·rename_i h
   have:q=0:=by simpa using h
   subst this;grind
  ·split
   ·rw[sumQ,ih,sumQ];grind
   ·split
    ·rw[sumQ,sumQ];grind
    ·rw[sumQ,sumQ];grind
def zfa{n:ByteArray}{q:Rat}:∀ {l:Parts} {p:ByteArray×Rat},p∈za5 l n q->p.1=n\/p∈l
 | [],p,h=>by
   unfold za5 at h;split at h
   ·exact .inr h
   ·simp at h;exact .inl (by rw[h])
 |x::r,p,h=>by
  unfold za5 at h;split at h
  ·exact .inr h
  ·split at h
   ·rcases List.mem_cons.1 h with rfl|h
    ·exact .inr (by simp)
    ·rcases zfa h with h|h
     ·exact .inl h
     ·exact .inr (by simp[h])
   ·split at h
    ·rcases List.mem_cons.1 h with rfl|h
     ·exact .inl rfl
     ·exact .inr (by simp[h])
    ·rcases List.mem_cons.1 h with rfl|h
     ·exact .inl rfl
     ·exact .inr h
def zby{n:ByteArray}{q:Rat}(hq:0<=q):∀ {l:Parts},GoodParts l->GoodParts (za5 l n q)
 | [],_=>by
   unfold za5;split
   ·exact⟨List.Pairwise.nil,by simp⟩
   ·rename_i h
    have:q≠0:=by simpa using h
    exact⟨by simp,by intro p hp;simp at hp;rw[hp];show 0<q;grind⟩
 |x::r,⟨h1,h2⟩=>by
  have hr:GoodParts r:=⟨(List.pairwise_cons.1 h1).2,λp hp=>h2 p (by simp[hp])⟩
  have hx:=(List.pairwise_cons.1 h1).1;unfold za5;split
  ·exact⟨h1,h2⟩
  ·rename_i h
   have fO:0<q:=by have:q≠0:=by simpa using h
                   grind
   split
   ·rename_i hl
    have ih:=zby (n:=n) hq hr;refine⟨List.pairwise_cons.2 ⟨λp hp=>?_,ih.asc⟩,λp hp=>?_⟩
    ·rcases zfa hp with e|hp
     ·rw[e];exact hl
     ·exact hx p hp
    ·rcases List.mem_cons.1 hp with rfl|hp
     ·exact h2 _ (by simp)
     ·exact ih.pos p hp
   ·rename_i hl
    split
    ·rename_i hs
     have e:=za2.1 hs;refine⟨List.pairwise_cons.2 ⟨λp hp=>by rw[<-e];exact hx p hp,hr.asc⟩,λp hp=>?_⟩;rcases List.mem_cons.1 hp with rfl|hp
     ·have:=h2 x (by simp);show 0<x.2+q;grind
     ·exact hr.pos p hp
    ·rename_i hs
     have jP:zbn n x.1=true:=by
      rcases zdx n x.1 with k|k|k
      ·exact k
      ·exact absurd (za2.2 k.symm) hs
      ·exact absurd k hl
     refine⟨List.pairwise_cons.2 ⟨λp hp=>?_,h1⟩,λp hp=>?_⟩
     ·rcases List.mem_cons.1 hp with rfl|hp
      ·exact jP
      ·exact zb5 jP (hx p hp)
     ·rcases List.mem_cons.1 hp with rfl|hp
      ·exact fO
      ·exact h2 p hp
def zdG{n:ByteArray}:∀ {l:Parts},(∀p∈l,p.1≠n)->zah l n=0/\za0 l n=l
 | [],_=>⟨rfl,rfl⟩
 |x::r,h=>by
  have ih:=zdG (l:=r) λp hp=>h p (by simp[hp])
  have hx:zae x.1 n=false:=zcd.2 (h x (by simp));unfold zah za0 at*;rw[List.find?_cons,hx,List.filter_cons,hx];exact⟨ih.1,by simpa using ih.2⟩
def zci{n:ByteArray}:∀ {l:Parts},GoodParts l->sumQ (za0 l n)+zah l n=sumQ l
 | [],_=>by simp only[za0,zah,sumQ,List.filter_nil,List.find?_nil,Option.map_none,Option.getD_none];grind
 |x::r,⟨h1,h2⟩=>by
  have hr:GoodParts r:=⟨(List.pairwise_cons.1 h1).2,λp hp=>h2 p (by simp[hp])⟩
  have hx:=(List.pairwise_cons.1 h1).1;have ih:=zci (n:=n) hr;by_cases hs:x.1=n
  ·have hn:=zdG (n:=n) (l:=r) λp hp e=>by
    have:=zcJ (hx p hp);exact this (by rw[e,hs])
   have e1:za0 (x::r) n=za0 r n:=by
    unfold za0;rw[List.filter_cons,za2.2 hs];rfl
   have e2:zah (x::r) n=x.2:=by
    unfold zah;rw[List.find?_cons,za2.2 hs];rfl
   rw[e1,e2,hn.2,sumQ];grind
  ·have hf:zae x.1 n=false:=zcd.2 hs;have e1:za0 (x::r) n=x::za0 r n:=by
    unfold za0;rw[List.filter_cons,hf];rfl
   have e2:zah (x::r) n=zah r n:=by
    unfold zah;rw[List.find?_cons,hf]
   rw[e1,e2,sumQ,sumQ,<-ih];grind
def zbJ{n:ByteArray}{l:Parts}(h:GoodParts l):GoodParts (za0 l n):=
 ⟨h.asc.sublist List.filter_sublist,λp hp=>h.pos p ((List.mem_filter.1 hp).1)⟩
def zbq:∀ {l:Parts},(∀p∈l,0<=p.2)->0<=sumQ l
 | [],_=>by simp[sumQ]
 |x::r,h=>by
  have ih:=zbq (l:=r) λp hp=>h p (by simp[hp])
  have hx:=h x (by simp);rw[sumQ];grind
def zgX:∀ {l:Parts},(∀p∈l,0<=p.2)->∀p∈l,p.2<=sumQ l
 |x::r,h,p,hp=>by
  have hr:=zbq (l:=r) λp hp=>h p (by simp[hp])
  have hx:=h x (by simp);rw[sumQ];rcases List.mem_cons.1 hp with rfl|hp
  ·grind
  ·have:=zgX (l:=r) (λp hp=>h p (by simp[hp])) p hp;grind
mutual
def okT:Tree->Bool
 | .leaf _=>true
 | .node l=>!l.isEmpty&&okL l
def okL:List Tree->Bool
 | []=>true
 |x::l=>okT x&&okL l
end
def zmJ:∀ {l:List Tree},okL l=true↔ ∀x∈l,okT x=true
 | []=>by simp[okL]
 |x::l=>by rw[okL,Bool.and_eq_true,zmJ];simp
def zks(s:St)(stems:Bool)(frm:ByteArray):∀(f:Nat) (n:ByteArray),okL (zb6 s stems frm f n)=true
 |0,_=>rfl
 |f+1,n=>by
  rw[zmJ];intro x hx;rw[zb6,List.mem_filterMap]at hx;obtain⟨c,_,hc⟩:=hx;split at hc
  ·cases hc;rfl
  ·split at hc
   ·rename_i hs
    cases hc;rw[Bool.and_eq_true]at hs;rw[okT,hs.2,zks s stems frm f c];rfl
   ·cases hc
def ratN{n:Nat}(h:n≠0):(n:Rat)≠0:=by
 intro e;apply h;have:((n:Int):Rat)=((0:Int):Rat):=by simpa using e
 have:=Rat.intCast_inj.1 this;omega
def zcH{a b:Rat}(h:0<=a)(hb:0<=b):0<=a/b:=by
 rw[Rat.div_def];by_cases h0:b=0
 ·subst h0;rw[Rat.inv_zero];grind
 ·have:0<b⁻¹:=Rat.inv_pos.2 (by grind);exact Rat.mul_nonneg h (by grind)
mutual
def zgY{each:Rat}:∀ {l:List Tree} {out o:Parts},okL l=true->zbE each l out=some o->sumQ o=sumQ out+each*(l.length:Rat)
 | [],out,o,_,h=>by
   rw[zbE]at h;cases h;simp only[List.length_nil];have:((0:Nat):Rat)=0:=rfl;grind
 |x::l,out,o,hk,h=>by
  rw[okL,Bool.and_eq_true]at hk;rw[zbE,Option.bind_eq_some_iff]at h;obtain⟨o1,h1,h2⟩:=h;have e1:=zod hk.1 h1;have e2:=zgY hk.2 h2;rw[e2,e1,List.length_cons];have:((l.length+1:Nat):Rat)=(l.length:Rat)+1:=by simp
  grind
def zod{each:Rat}:∀ {x:Tree} {out o:Parts},okT x=true->zeo each x out=some o->sumQ o=sumQ out+each
 | .leaf n,out,o,_,h=>by
   rw[zeo]at h;split at h
   ·cases h
   ·cases h;exact zbW n each out
 | .node l,out,o,hk,h=>by
   rw[okT,Bool.and_eq_true]at hk;rw[zeo]at h;split at h
   ·cases h
   ·have e:=zgY hk.2 h;rw[e];have h0:l.length≠0:=by
     intro e0;have:=List.eq_nil_of_length_eq_zero e0;rw[this]at hk;exact absurd hk.1 (by decide)
    have:=ratN h0;grind
end
mutual
def ze6{each:Rat}(he:0<=each):∀ {l:List Tree} {out o:Parts},GoodParts out->zaE out=false->zbE each l out=some o->GoodParts o/\zaE o=false
 | [],out,o,hg,hl,h=>by
   rw[zbE]at h;cases h;exact⟨hg,hl⟩
 |x::l,out,o,hg,hl,h=>by
  rw[zbE,Option.bind_eq_some_iff]at h;obtain⟨o1,h1,h2⟩:=h;have e1:=ziq he hg hl h1;exact ze6 he e1.1 e1.2 h2
def ziq{each:Rat}(he:0<=each):∀ {x:Tree} {out o:Parts},GoodParts out->zaE out=false->zeo each x out=some o->GoodParts o/\zaE o=false
 | .leaf n,out,o,hg,hl,h=>by
   rw[zeo]at h;split at h
   ·cases h
   ·rename_i hb
    cases h;exact⟨zby he hg,by simpa using hb⟩
 | .node l,out,o,hg,hl,h=>by
   rw[zeo]at h;split at h
   ·cases h
   ·exact ze6 (zcH he Rat.natCast_nonneg) hg hl h
end
def IsN(n:Nat)(q:Rat):Prop:= ∃k:Int,q*(n:Rat)=(k:Rat)
def zkt{n:Nat}{p q:Rat}(h:IsN n p)(k:IsN n q):IsN n (p+q):=by
 obtain⟨a,ha⟩:=h;obtain⟨b,hb⟩:=k;refine⟨a+b,?_⟩;rw[Rat.intCast_add,<-ha,<-hb];grind
def zgZ{n:Nat}{p q:Rat}(h:IsN n p)(k:IsN n q):IsN n (p-q):=by
 obtain⟨a,ha⟩:=h;obtain⟨b,hb⟩:=k;refine⟨a-b,?_⟩;rw[Rat.intCast_sub,<-ha,<-hb];grind
def zku{n m:Nat}{p q:Rat}(h:IsN n p)(k:IsN m q):IsN (n*m) (p*q):=by
 obtain⟨a,ha⟩:=h;obtain⟨b,hb⟩:=k;refine⟨a*b,?_⟩;rw[Rat.intCast_mul,<-ha,<-hb,Rat.natCast_mul];grind
def zlt{n m:Nat}{q:Rat}(h:IsN n q):IsN (n*m) q:=by
 obtain⟨a,ha⟩:=h;refine⟨a*m,?_⟩;rw[Rat.intCast_mul,<-ha,Rat.natCast_mul,Rat.intCast_natCast];grind
def zha(n:Nat):IsN n 1:=⟨n,by rw[Rat.intCast_natCast];grind⟩
def zkv(n:Nat):IsN n 0:=⟨0,by grind⟩
def zkw{n:Nat}{q:Rat}(hn:0<n)(h:IsN n q):(q.den:Int)<=n:=by
 obtain⟨a,ha⟩:=h;have h0:=ratN (n:=n) (by omega);have e:q=Rat.divInt a n:=by
  rw[Rat.divInt_eq_div,Rat.intCast_natCast,<-ha];grind
 rw[e,zem (by omega)];exact Int.ediv_le_self _ (by omega)
def zes{num den:Int}(h:za8 16 num den=true):IsN 720720 (Rat.divInt num den):=by
 have hs:=zbl h;unfold za8 at h;simp only[Bool.and_eq_true,decide_eq_true_eq]at h;obtain⟨⟨⟨h1,h2⟩,_⟩,_⟩:=h;obtain⟨m,hm⟩:∃m:Int,720720=den*m:=by
  have:den=1\/den=2\/den=3\/den=4\/den=5\/den=6\/den=7\/den=8\/den=9\/den=10\/den=11\/den=12\/den=13\/den=14\/den=15\/den=16:=by omega
  rcases this with rfl|rfl|rfl|rfl|rfl|rfl|rfl|rfl|rfl|rfl|rfl|rfl|rfl|rfl|rfl|rfl
  all_goals first|exact⟨720720,rfl⟩|exact⟨360360,rfl⟩|exact⟨240240,rfl⟩|exact⟨180180,rfl⟩|exact⟨144144,rfl⟩|exact⟨120120,rfl⟩|exact⟨102960,rfl⟩|exact⟨90090,rfl⟩|exact⟨80080,rfl⟩|exact⟨72072,rfl⟩|exact⟨65520,rfl⟩|exact⟨60060,rfl⟩|exact⟨55440,rfl⟩|exact⟨51480,rfl⟩|exact⟨48048,rfl⟩|exact⟨45045,rfl⟩
 refine⟨num*m,?_⟩;have hd:(den:Rat)≠0:=ratI (by omega);have e:((720720:Nat):Rat)=(den:Rat)*(m:Rat):=by
  rw[<-Rat.intCast_mul,<-hm];rfl
 rw[Rat.divInt_eq_div,e,Rat.intCast_mul];grind
def zcI{n:Nat}{nm:ByteArray}{q:Rat}(hq:IsN n q):∀ {l:Parts},(∀p∈l,IsN n p.2)->∀p∈za5 l nm q,IsN n p.2
 | [],_,p,hp=>by
   unfold za5 at hp;split at hp
   ·cases hp
   ·simp at hp;rw[hp];exact hq
 |x::r,h,p,hp=>by
  have hr:=zcI (nm:=nm) hq (l:=r) λp hp=>h p (by simp[hp])
  unfold za5 at hp;split at hp
  ·exact h p hp
  ·split at hp
   ·rcases List.mem_cons.1 hp with rfl|hp
    ·exact h _ (by simp)
    ·exact hr p hp
   ·split at hp
    ·rcases List.mem_cons.1 hp with rfl|hp
     ·exact zkt (h x (by simp)) hq
     ·exact h p (by simp[hp])
    ·rcases List.mem_cons.1 hp with rfl|hp
     ·exact hq
     ·exact h p hp
def zc8{n:Nat}(h0:0<n)(h1:n<=1000000000){l:Parts}(h:∀p∈l,IsN n p.2):zaE l=false:=by
 unfold zaE;rw[List.any_eq_false];intro p hp;have:=zkw h0 (h p hp);unfold bigQ;simp;omega
structure WillOk (l:Parts):Prop where
 pos:∀p∈l,0<p.2
 isN:∀p∈l,IsN 720720 p.2
 le:sumQ l<=1
def zir{s:St}{frm:ByteArray}:∀ {l out:Parts} {rest:Rat},(∀p∈l,0<p.2)->(∀p∈l,IsN 720720 p.2)->sumQ l<=rest->GoodParts out->(∀p∈out,IsN 720720 p.2)->IsN 720720 rest->
 GoodParts (zcq s frm l out rest).1/\(∀p∈(zcq s frm l out rest).1,IsN 720720 p.2)/\IsN 720720 (zcq s frm l out rest).2/\0<=(zcq s frm l out rest).2/\sumQ (zcq s frm l out rest).1+(zcq s frm l out rest).2=sumQ out+rest
 | [],out,rest,_,_,hs,hg,hn,hr=>by
   rw[zcq];exact⟨hg,hn,hr,by simpa[sumQ]using hs,rfl⟩
 |p::l,out,rest,hp,hN,hs,hg,hn,hr=>by
  have jl:=hp p (by simp);have hl:=λq (hq:q∈l)=>hp q (by simp[hq])
  have wI:=λq (hq:q∈l)=>hN q (by simp[hq])
  rw[sumQ]at hs;rw[zcq];split
  ·have ih:=zir (s:=s) (frm:=frm) hl wI (rest:=rest-p.2) (out:=za5 out p.1 p.2) (by grind) (zby (by grind) hg) (zcI (hN p (by simp)) hn) (zgZ hr (hN p (by simp)));refine⟨ih.1,ih.2.1,ih.2.2.1,ih.2.2.2.1,?_⟩;rw[ih.2.2.2.2,zbW];grind
  ·exact zir (s:=s) (frm:=frm) hl wI (by grind) hg hn hr
def zd9:GoodParts []:=⟨List.Pairwise.nil,by simp⟩
def ze7{s:St}{law:Law}{n:ByteArray}{o:Parts}(hw:WillOk (zbv s n))(hl:za8 16 law.num law.den=true)(h:zcM s law n=some o):GoodParts o/\sumQ o=1/\zaE o=false:=by
 unfold zcM at h;have hg:=zir (s:=s) (frm:=n) (out:=[]) (rest:=1) hw.pos hw.isN hw.le zd9 (by simp) (zha _);generalize hq:zcq s n (zbv s n) [] 1=q at*;obtain⟨out,rest⟩:=q;dsimp only at h hg;obtain⟨g1,g2,g3,g4,g5⟩:=hg;rw[sumQ]at g5;split at h
 ·rename_i h0
  cases h;have:rest=0:=by simpa using h0
  exact⟨g1,by grind,zc8 (by decide) (by decide) g2⟩
 rename_i h0
 have qy:rest≠0:=by simpa using h0
 generalize cw:(if zdY s (zaK s n) n=true then zaK s n else⟨#[]⟩)=sp at*;split at h
 ·cases h;refine⟨zby g4 g1,by rw[zbW];grind,zc8 (by decide) (by decide) (zcI g3 g2)⟩
 rename_i ai
 have ag:(zb6 s law.stems n (zaX s) n).length≠0:=by
  intro e;rw[List.eq_nil_of_length_eq_zero e]at ai;exact ai rfl
 have bE:=zks s law.stems n (zaX s) n;generalize zb6 s law.stems n (zaX s) n=ts at*;obtain⟨_,_,l1,l2⟩:=zbl hl;have hd:za8 16 law.num law.den=true:=hl;have hN:IsN 720720 (Rat.divInt law.num law.den):=zes hl;have key:∃own out2,own=(if noB sp=true then 0 else rest*Rat.divInt law.num law.den)/\out2=(if noB sp=true then out else za5 out sp own)/\0<=own/\own<=rest/\GoodParts out2/\sumQ out2=sumQ out+own/\zaE out2=false:=by
  by_cases hs:noB sp=true
  ·exact⟨0,out,by rw[if_pos hs],by rw[if_pos hs],by grind,g4,g1,by grind,zc8 (by decide) (by decide) g2⟩
  ·have h1:0<=rest*Rat.divInt law.num law.den:=Rat.mul_nonneg g4 l1;have h2:rest*Rat.divInt law.num law.den<=rest:=by
    have:=Rat.mul_le_mul_of_nonneg_left l2 g4;grind
   refine⟨rest*Rat.divInt law.num law.den,za5 out sp (rest*Rat.divInt law.num law.den),by rw[if_neg hs],by rw[if_neg hs],h1,h2,zby h1 g1,zbW _ _ _,?_⟩;have kN:∃d:Nat,0<d/\d<=16/\IsN d (Rat.divInt law.num law.den):=by
    unfold za8 at hd;simp only[Bool.and_eq_true,decide_eq_true_eq]at hd;refine⟨law.den.toNat,by omega,by omega,law.num,?_⟩;have hz:(law.den:Rat)≠0:=ratI (by omega);have e:((law.den.toNat:Nat):Rat)=(law.den:Rat):=by rw[<-Rat.intCast_natCast,Int.toNat_of_nonneg (by omega)]
    rw[Rat.divInt_eq_div,e];grind
   obtain⟨d,d0,d1,DN⟩:=kN;exact zc8 (n:=720720*d) (by omega) (by omega) (zcI (zku g3 DN) λp hp=>zlt (g2 p hp))
 obtain⟨own,out2,ho,uG,k0,k1,k2,k3,k4⟩:=key;rw[<-ho,<-uG]at h;split at h
 ·rename_i hz
  cases h;have:rest-own=0:=by simpa using hz
  exact⟨k2,by grind,k4⟩
 ·split at h
  ·cases h
  ·have ix:0<=(rest-own)/(ts.length:Rat):=zcH (by grind) Rat.natCast_nonneg;obtain⟨m1,m2⟩:=ze6 ix k2 k4 h;refine⟨m1,?_,m2⟩;rw[zgY bE h,k3];have:=ratN ag;grind
def zis{own:Rat}(h0:0<=own):∀ {l out o:Parts},(∀p∈l,0<=p.2)->GoodParts out->zaE out=false->zb8 own l out=some o->GoodParts o/\zaE o=false/\sumQ o=sumQ out+own*sumQ l
 | [],out,o,_,hg,hl,h=>by
   rw[zb8]at h;cases h;exact⟨hg,hl,by rw[sumQ];grind⟩
 |p::l,out,o,hp,hg,hl,h=>by
  rw[zb8]at h;split at h
  ·cases h
  split at h
  ·cases h
  ·rename_i hb
   have hm:0<=own*p.2:=Rat.mul_nonneg h0 (hp p (by simp));obtain⟨h1,h2,h3⟩:=zis h0 (λq hq=>hp q (by simp[hq])) (zby hm hg) (by simpa using hb) h;refine⟨h1,h2,?_⟩;rw[h3,zbW,sumQ];grind
structure GoodG (g:Grave):Prop where
 good:GoodParts g.holders
 small:zaE g.holders=false
 one:g.holders=[]\/sumQ g.holders=1
def zbA{l:Parts}(h:GoodParts l)(n:ByteArray):0<=zah l n:=by
 unfold zah;cases hf:l.find? (λp=>zae p.1 n)with
 |none=>exact Rat.le_refl
 |some p=>
  have:=h.pos p (List.mem_of_find?_eq_some hf);show 0<=p.2;grind
def zdo{l:Parts}{n:ByteArray}(h:zah l n≠0):l≠[]:=by
 rintro rfl;exact h rfl
def large_sub{l m:Parts}(h:∀p∈m,p∈l)(hl:zaE l=false):zaE m=false:=by
 unfold zaE at*;rw[List.any_eq_false]at*;exact λp hp=>hl p (h p hp)
def zdA{l:Parts}(n:ByteArray)(h:zaE l=false):zaE (za0 l n)=false:=large_sub (λp hp=>(List.mem_filter.1 hp).1) h
def zfQ{n:ByteArray}{q:Rat}(hq:bigQ q=false):∀ {l:Parts},(∀p∈l,p.1≠n)->zaE l=false->zaE (za5 l n q)=false
 | [],_,_=>by
   unfold za5;split
   ·rfl
   ·simp[zaE,hq]
 |x::r,hn,hl=>by
  have lO:bigQ x.2=false/\zaE r=false:=by simpa[zaE]using hl
  have ih:=zfQ hq (l:=r) (λp hp=>hn p (by simp[hp])) lO.2;unfold za5;split
  ·exact hl
  ·split
   ·unfold zaE at ih⊢;rw[List.any_cons,lO.1,ih];rfl
   ·split
    ·rename_i hs
     exact absurd (za2.1 hs) (hn x (by simp))
    ·unfold zaE at hl⊢;rw[List.any_cons,hq,hl];rfl
def zjI{l:Parts}{n:ByteArray}:∀p∈za0 l n,p.1≠n:=by
 intro p hp;unfold za0 at hp;have:=(List.mem_filter.1 hp).2;exact zcd.1 (by simpa using this)
def zkx{g:Grave}{frm:ByteArray}{l out:Parts}(hg:GoodG g)(hs:zah g.holders frm≠0)(hp:∀p∈l,0<p.2)(hl:sumQ l<=1)(hk:bigQ (zah g.holders frm*(1-sumQ l))=false)
 (h:zb8 (zah g.holders frm) l (za5 (za0 g.holders frm) frm (zah g.holders frm*(1-sumQ l)))=some out):GoodG {g with holders:=out}:=by
 have h0:=zbA hg.good frm;have jL:0<=zah g.holders frm*(1-sumQ l):=Rat.mul_nonneg h0 (by grind);obtain⟨h1,h2,h3⟩:=zis h0 (λp LR=>by have:=hp p LR;grind) (zby jL (zbJ hg.good)) (zfQ hk zjI (zdA frm hg.small)) h;refine⟨h1,h2,.inr ?_⟩;have hw:=zci (n:=frm) hg.good;rcases hg.one with e|e
 ·exact absurd e (zdo hs)
 ·show sumQ out=1;rw[h3,zbW];grind
def sum_div(d:Rat):∀l:Parts,sumQ (l.map λp=>(p.1,p.2/d))=sumQ l/d
 | []=>by simp only[List.map_nil,sumQ];rw[Rat.div_def];grind
 |p::l=>by
  rw[List.map_cons,sumQ,sumQ,sum_div d l];rw[Rat.div_def,Rat.div_def,Rat.div_def];grind
def sum_zero{l:Parts}(h:∀p∈l,0<p.2)(hs:sumQ l=0):l=[]:=by
 cases l with
 |nil=>rfl
 |cons x r=>
  have hx:=h x (by simp);have:=zbq (l:=r) λp hp=>by have:=h p (by simp[hp]);grind
  rw[sumQ]at hs;grind
def zjJ{l:Parts}(h:∀p∈l,0<p.2):0<=sumQ l:=zbq λp hp=>by have:=h p hp;grind
def zjy{g:Grave}{frm:ByteArray}(hg:GoodG g)(hs:zah g.holders frm≠0)(hl:zaE ((za0 g.holders frm).map λp=>(p.1,p.2/(1-zah g.holders frm)))=false):
 GoodG {g with holders:=(za0 g.holders frm).map λp=>(p.1,p.2/(1-zah g.holders frm))}:=by
 have hw:=zci (n:=frm) hg.good;have h1:sumQ g.holders=1:=by
  rcases hg.one with e|e
  ·exact absurd e (zdo hs)
  ·exact e
 have jd:=zbJ (n:=frm) hg.good;have ix:=zjJ jd.pos;by_cases hz:1-zah g.holders frm=0
 ·have he:za0 g.holders frm=[]:=sum_zero jd.pos (by grind);have e2:((za0 g.holders frm).map λp=>(p.1,p.2/(1-zah g.holders frm)))=[]:=by rw[he];rfl
  rw[e2];exact⟨zd9,rfl,.inl rfl⟩
 ·have hd:0<1-zah g.holders frm:=by grind
  refine⟨⟨List.pairwise_map.2 jd.asc,λp hp=>?_⟩,hl,.inr ?_⟩
  ·obtain⟨q,hq,rfl⟩:=List.mem_map.1 hp;have:=jd.pos q hq;show 0<q.2/(1-zah g.holders frm);rw[Rat.div_def];exact Rat.mul_pos this (Rat.inv_pos.2 hd)
  ·show sumQ _=1;rw[sum_div,show sumQ (za0 g.holders frm)=1-zah g.holders frm by grind,Rat.div_def];exact Rat.mul_inv_cancel _ hz
def zlu{g:Grave}{n:ByteArray}{bz out:Parts}(hg:GoodG g)(hs:zah g.holders n≠0)(hh:GoodParts bz)(h1:sumQ bz=1)(h:zb8 (zah g.holders n) bz (za0 g.holders n)=some out):GoodG {g with holders:=out,died:=g.died++[n]}:=by
 obtain⟨k1,k2,k3⟩:=zis (zbA hg.good n) (λp hp=>by have:=hh.pos p hp;grind) (zbJ hg.good) (zdA n hg.small) h;refine⟨k1,k2,.inr ?_⟩;have hw:=zci (n:=n) hg.good;rcases hg.one with e|e
 ·exact absurd e (zdo hs)
 ·show sumQ out=1;rw[k3,h1];grind
def zgk{s:ByteArray}(h:zaU s=true):noB s=false:=by
 unfold zaU at h;simp only[Bool.and_eq_true,Bool.not_eq_true']at h;exact h.2.1
structure OkD (d:Deed):Prop where
 kind:0<=d.kind/\d.kind<=8
 day:0<=d.day/\d.day<=200000
 years:0<=d.years/\d.years<=99
 cls:0<=d.cls/\d.cls<=4
 len:d.to.length<=8
 names:∀p∈d.to,zaU p.name=true
 place:(d.kind=0\/d.kind=1\/d.kind=2\/d.kind=3)->zaU d.place=true
 frm:¬(d.kind=0\/d.kind=3)->zaU d.frm=true
 grantor:(d.kind=0\/d.kind=3)->noB d.frm=true
 parts:(d.kind=0\/d.kind=1\/d.kind=4)->d.to≠[]/\zcF true (d.kind==0) d.frm d.to=true
 one:(d.kind=5\/d.kind=6\/d.kind=7)->d.to.length=1/\zcF false false d.frm d.to=true
 none:(d.kind=2\/d.kind=3\/d.kind=8)->d.to=[]
def zf4{n lo hi:Int}:inR n lo hi=true↔lo<=n/\n<=hi:=by unfold inR;simp
def ze8{d:Deed}(h:zaH d=0):OkD d:=by
 unfold zaH at h;split at h
 ·simp at h
 rename_i h1
 split at h
 ·simp at h
 rename_i h2
 split at h
 ·simp at h
 rename_i h3
 split at h
 ·simp at h
 rename_i h4
 split at h
 ·simp at h
 rename_i h5
 simp only[Bool.not_eq_true',Bool.not_eq_false,zf4]at h1;simp only[Bool.or_eq_true,Bool.not_eq_true',not_or,Bool.not_eq_false,zba,zf4]at h2;simp only[Bool.or_eq_true,Bool.not_eq_true',not_or,Bool.not_eq_false,List.all_eq_true,zb0]at h4;simp only[Bool.not_eq_true',Bool.not_eq_false]at h5;simp only[decide_eq_true_eq,Nat.not_lt]at h3;unfold zfN at h5;obtain⟨⟨hd,hc⟩,hy⟩:=h2;obtain⟨⟨hp,hf⟩,hn⟩:=h4;have fw:d.kind=0\/d.kind=1\/d.kind=2\/d.kind=3\/d.kind=4\/d.kind=5\/d.kind=6\/d.kind=7\/d.kind=8:=by omega
 refine⟨h1,hd,hy,hc,h3,hn,?_,?_,?_,?_,?_,?_⟩;all_goals rcases fw with k|k|k|k|k|k|k|k|k<;>simp_all
def zit{s:St}{a b x:ByteArray}:zaj {s with children:=s.children++[(a,b)]} x=zaj s x++(if zae a x then[b]else[]):=by
 unfold zaj;rw[List.filter_append,List.map_append];congr 1
 by_cases h:zae a x=true
 ·rw[if_pos h,List.filter_cons,if_pos h];rfl
 ·rw[if_neg h,List.filter_cons,if_neg h];rfl
def zmK{s:St}{a b:ByteArray}(h:∀x,¬Desc s x x)(hn:¬Desc s b a)(ai:a≠b):∀x,¬Desc {s with children:=s.children++[(a,b)]} x x:=by
 have key:∀x y,Desc {s with children:=s.children++[(a,b)]} x y->Desc s x y\/((x=a\/Desc s x a)/\(y=b\/Desc s b y)):=by
  intro x y fE;unfold Desc at fE;induction fE with
  |single hc=>
   rw[zit]at hc;rcases List.mem_append.1 hc with hc|hc
   ·exact .inl (zf2 hc)
   ·split at hc
    ·rename_i hs
     simp only[List.mem_singleton]at hc;exact .inr ⟨.inl (za2.1 hs).symm,.inl hc⟩
    ·cases hc
  |tail _ hc ih=>
   rw[zit]at hc;rcases List.mem_append.1 hc with hc|hc
   ·rcases ih with ih|⟨i1,i2⟩
    ·exact .inl (zim ih hc)
    ·refine .inr ⟨i1,.inr ?_⟩;rcases i2 with i2|i2
     ·rw[i2]at hc;exact zf2 hc
     ·exact zim i2 hc
   ·split at hc
    ·rename_i hs
     simp only[List.mem_singleton]at hc;have e:=za2.1 hs;rcases ih with ih|⟨i1,i2⟩
     ·exact .inr ⟨.inr (by rw[e];exact ih),.inl hc⟩
     ·exfalso
      rcases i2 with i2|i2
      ·exact ai (e.trans i2)
      ·exact hn (by rw[e];exact i2)
    ·cases hc
 intro x hx;rcases key x x hx with k|⟨k1,k2⟩
 ·exact h x k
 ·rcases k1 with rfl|k1<;>rcases k2 with k2|k2
  ·exact ai k2
  ·exact hn k2
  ·rw[k2]at k1;exact hn k1
  ·exact hn (zgV k2 k1)
structure GoodSt (s:St) (last:Int):Prop where
 graves:∀g∈s.graves,GoodG g
 force:∀(i j:Nat) (gi gj:Grave),s.graves[i]?=some gi->s.graves[j]?=some gj->gi.place=gj.place->∀day,last<=day->zaM gi day=true->zaM gj day=true->i=j
 wills:∀n,WillOk (zbv s n)
 acyc:∀a,¬Desc s a a
 kids:∀c∈s.children,noB c.1=false/\noB c.2=false
 marr:∀m∈s.marriages,m.1≠m.2/\noB m.1=false/\noB m.2=false
 willNames:∀w∈s.wills,∀p∈w.2,noB p.1=false
 dead:∀n∈s.dead,noB n=false
def zfb(last:Int):GoodSt zb3 last:=by
 refine⟨by simp[zb3],by simp[zb3],λn=>⟨by simp[zb3,zbv],by simp[zb3,zbv],by simp only[zb3,zbv,List.reverse_nil,List.find?_nil,Option.map_none,Option.getD_none,sumQ];decide⟩,λa=>zin rfl,by simp[zb3],by simp[zb3],by simp[zb3],by simp[zb3]⟩
def zhb{g:Grave}{d e:Int}(h:d<=e)(hf:zaM g e=true):zaM g d=true:=by
 unfold zaM at*;simp only[Bool.and_eq_true,Bool.or_eq_true,decide_eq_true_eq]at*;refine⟨hf.1,?_⟩;rcases hf.2 with k|k
 ·exact .inl k
 ·exact .inr (by omega)
def zcg{s:St}{place:ByteArray}{day:Int}{i:Nat}(h:zaL s place day=some i):∃g,s.graves[i]?=some g/\g.place=place/\zaM g day=true:=by
 unfold zaL at h;rw[List.findIdx?_eq_some_iff_getElem]at h;obtain⟨hi,h1,_⟩:=h;rw[Bool.and_eq_true,za2]at h1;exact⟨_,List.getElem?_eq_getElem hi,h1.1,h1.2⟩
def zhz{s:St}{place:ByteArray}{day:Int}(h:zaL s place day=none):∀g∈s.graves,g.place=place->zaM g day=false:=by
 unfold zaL at h;rw[List.findIdx?_eq_none_iff]at h;intro g hg hp;have:=h g hg;rw[za2.2 hp,Bool.true_and]at this;exact this
def GoodSt.later{s:St}{a b:Int}(h:GoodSt s a)(bL:a<=b):GoodSt s b:=
 {h with force:=λi j gi gj hi hj hp day hd h1 h2=>h.force i j gi gj hi hj hp day (by omega) h1 h2}
def ziu:∀ {l:List RPart} {out:Parts},GoodParts out->(∀p∈out,IsN 720720 p.2)->(∀p∈l,0<p.rat/\IsN 720720 p.rat)->
 GoodParts (zbe l out)/\(∀p∈zbe l out,IsN 720720 p.2)/\sumQ (zbe l out)=sumQ out+sumQ (zaq l)
 | [],out,h1,h2,_=>⟨h1,h2,by simp only[zbe,List.foldl_nil,zaq,List.map_nil,sumQ];grind⟩
 |p::l,out,h1,h2,h=>by
  obtain⟨p1,p2⟩:=h p (by simp);have ih:=ziu (l:=l) (zby (n:=p.name) (q:=p.rat) (by grind) h1) (zcI p2 h2) λq hq=>h q (by simp[hq])
  have e:zbe (p::l) out=zbe l (za5 out p.name p.rat):=rfl;rw[e];refine⟨ih.1,ih.2.1,?_⟩;rw[ih.2.2,zbW];simp only[zaq,List.map_cons,sumQ];grind
def zea{all:Bool}{frm:ByteArray}{l:List RPart}(h:zcF true all frm l=true):(∀p∈l,0<p.rat/\IsN 720720 p.rat/\za8 16 p.num p.den=true)/\sumQ (zaq l)<=1/\(all=true->sumQ (zaq l)=1)/\∀p∈l,p.name≠frm:=by
 unfold zcF at h;simp only[if_true,Bool.and_eq_true,List.all_eq_true,Bool.not_eq_true',decide_eq_true_eq,Bool.or_eq_true,bne_iff_ne,ne_eq,beq_iff_eq]at h;obtain⟨⟨_,hn⟩,⟨hs,bG⟩,aV⟩:=h;refine⟨λp hp=>?_,bG,λha=>?_,λp hp=>zcd.1 (hn p hp)⟩
 ·obtain⟨h1,h2⟩:=hs p hp;have h3:=zbl h1;refine⟨?_,zes h1,h1⟩;have ai:p.rat≠0:=by
   intro k;apply h2;rw[<-h3.1];unfold RPart.rat at k;rw[k];rfl
  have ix:0<=p.rat:=h3.2.2.1;grind
 ·rcases aV with k|k
  ·rw[ha]at k;cases k
  ·exact k
def zjK{all:Bool}{frm:ByteArray}{l:List RPart}(h:zcF true all frm l=true):WillOk (zaq l):=by
 obtain⟨h1,h2,_,_⟩:=zea h;refine⟨λp hp=>?_,λp hp=>?_,h2⟩
 ·obtain⟨q,hq,rfl⟩:=List.mem_map.1 hp;exact(h1 q hq).1
 ·obtain⟨q,hq,rfl⟩:=List.mem_map.1 hp;exact(h1 q hq).2.1
def zmL{s s':St}{d:Deed}{last:Int}(h:GoodSt s last)(hd:OkD d)(hl:last<=d.day)(hk:d.kind=0)(ht:zcR s d=(s',0)):GoodSt s' d.day:=by
 have h:=h.later hl;unfold zcR at ht;split at ht
 ·simp at ht
 rename_i h1
 split at ht
 ·simp at ht
 split at ht
 ·simp at ht
 simp only[Prod.mk.injEq,and_true]at ht;rw[<-ht];have hx:zaL s d.place d.day=none:=by simpa using h1
 have hn:=zhz hx;obtain⟨iX,yN⟩:=hd.parts (.inl hk);obtain⟨p1,p2,p3,_⟩:=zea yN;obtain⟨g1,g2,g3⟩:=ziu (l:=d.to) (out:=[]) zd9 (by simp) λp hp=>⟨(p1 p hp).1,(p1 p hp).2.1⟩
 have g4:sumQ (zbe d.to [])=1:=by
  rw[g3,p3 (by rw[hk];rfl),sumQ];grind
 generalize hg:(⟨d.place,d.cls,if decide (0<d.years)=true then zcf d.day d.years else-1,zbe d.to [],[]⟩:Grave)=g;have uC:g.place=d.place:=by rw[<-hg]
 have xI:GoodG g:=by rw[<-hg];exact⟨g1,zc8 (by decide) (by decide) g2,.inr g4⟩
 refine {h with graves:=λx hx=>?_,force:=λi j gi gj hi hj hp day kM f1 f2=>?_}
 ·rcases List.mem_append.1 hx with hx|hx
  ·exact h.graves x hx
  ·rw[List.mem_singleton.1 hx];exact xI
 ·have hi:(s.graves++[g])[i]?=some gi:=hi;have hj:(s.graves++[g])[j]?=some gj:=hj;rw[List.getElem?_append]at hi hj;split at hi<;>split at hj
  ·exact h.force i j gi gj hi hj hp day kM f1 f2
  ·exfalso
   have e:gj=g:=by
    rw[List.getElem?_cons]at hj;split at hj
    ·exact(Option.some.inj hj).symm
    ·simp at hj
   have:=hn gi (List.mem_of_getElem? hi) (by rw[hp,e,uC]);rw[zhb kM f1]at this;cases this
  ·exfalso
   have e:gi=g:=by
    rw[List.getElem?_cons]at hi;split at hi
    ·exact(Option.some.inj hi).symm
    ·simp at hi
   have:=hn gj (List.mem_of_getElem? hj) (by rw[<-hp,e,uC]);rw[zhb kM f2]at this;cases this
  ·have:=(List.getElem?_eq_some_iff.1 hi).1;have:=(List.getElem?_eq_some_iff.1 hj).1;simp at*;omega
def zjL{s:St}{i:Nat}{g g':Grave}{day:Int}(h:GoodSt s day)(hi:s.graves[i]?=some g)(hg:GoodG g')(hp:g'.place=g.place)(hf:∀e,day<=e->zaM g' e=true->zaM g e=true):GoodSt (s.withGrave i g') day:=by
 have eR:=(List.getElem?_eq_some_iff.1 hi).1;refine {h with graves:=λx hx=>?_,force:=λa b ga gb ha hb kn e he f1 f2=>?_}
 ·rcases List.mem_or_eq_of_mem_set hx with hx|hx
  ·exact h.graves x hx
  ·rw[hx];exact hg
 ·have ha:(s.graves.set i g')[a]?=some ga:=ha;have hb:(s.graves.set i g')[b]?=some gb:=hb;rw[List.getElem?_set]at ha hb;have one:∀(c:Nat) (gc:Grave),(if i=c then if i<s.graves.length then some g' else none else s.graves[c]?)=some gc->∃gc',s.graves[c]?=some gc'/\gc'.place=gc.place/\(zaM gc e=true->zaM gc' e=true):=by
   intro c gc hc;by_cases hic:i=c
   ·rw[if_pos hic,if_pos eR]at hc;cases hc;subst hic;exact⟨g,hi,hp.symm,hf e he⟩
   ·rw[if_neg hic]at hc;exact⟨gc,hc,rfl,id⟩
  obtain⟨ga',a1,a2,a3⟩:=one a ga ha;obtain⟨gb',b1,b2,b3⟩:=one b gb hb;exact h.force a b ga' gb' a1 b1 (by rw[a2,b2,kn]) e he (a3 f1) (b3 f2)
def zf5{s:St}{i:Nat}{g:Grave}(h:s.graves[i]?=some g):s.graves.getD i zfO=g:=by
 rw[List.getD_eq_getElem?_getD,h];rfl
def ze9{g:Grave}{out:Parts}{died:List ByteArray}{e:Int}(ai:g.holders≠[])(h:zaM {g with holders:=out,died:=died} e=true):zaM g e=true:=by
 unfold zaM at*;simp only[Bool.and_eq_true]at*;refine⟨?_,h.2⟩;cases hg:g.holders with
 |nil=>exact absurd hg ai
 |cons _ _=>rfl
def zjz{s s':St}{d:Deed}{last:Int}(h:GoodSt s last)(hd:OkD d)(hl:last<=d.day)(hk:d.kind=1)(ht:zbo s d=(s',0)):GoodSt s' d.day:=by
 have h:=h.later hl;unfold zbo at ht;split at ht
 ·simp at ht
 rename_i i hi
 obtain⟨g,g1,g2,g3⟩:=zcg hi;rw[zf5 g1]at ht;dsimp only at ht;split at ht
 ·simp at ht
 split at ht
 ·simp at ht
 rename_i hs
 have hs:zah g.holders d.frm≠0:=by simpa using hs
 split at ht
 ·simp at ht
 split at ht
 ·simp at ht
 rename_i hb
 split at ht
 ·simp at ht
 rename_i out ho
 simp only[Prod.mk.injEq,and_true]at ht;rw[<-ht];obtain⟨iX,yN⟩:=hd.parts (.inr (.inl hk));have hw:=zjK yN;have bh:=h.graves g (List.mem_of_getElem? g1);exact zjL h g1 (zkx bh hs hw.pos hw.le (by simpa using hb) ho) rfl λe _ hf=>ze9 (died:=g.died) (zdo hs) hf
def ziv{s s':St}{d:Deed}{last:Int}(h:GoodSt s last)(hl:last<=d.day)(ht:zbb s d=(s',0)):GoodSt s' d.day:=by
 have h:=h.later hl;unfold zbb at ht;split at ht
 ·simp at ht
 rename_i i hi
 obtain⟨g,g1,g2,g3⟩:=zcg hi;rw[zf5 g1]at ht;dsimp only at ht;split at ht
 ·simp at ht
 rename_i hs
 have hs:zah g.holders d.frm≠0:=by simpa using hs
 split at ht
 ·simp at ht
 rename_i hb
 simp only[Prod.mk.injEq,and_true]at ht;rw[<-ht];have bh:=h.graves g (List.mem_of_getElem? g1);exact zjL h g1 (zjy bh hs (by simpa using hb)) rfl λe _ hf=>ze9 (died:=g.died) (zdo hs) hf
def zmM{s s':St}{d:Deed}{last:Int}(h:GoodSt s last)(hl:last<=d.day)(ht:zdc s d=(s',0)):GoodSt s' d.day:=by
 have h:=h.later hl;unfold zdc at ht;split at ht
 ·simp at ht
 rename_i i hi
 obtain⟨g,g1,g2,g3⟩:=zcg hi;rw[zf5 g1]at ht;dsimp only at ht;split at ht
 ·simp at ht
 split at ht
 ·simp at ht
 simp only[Prod.mk.injEq,and_true]at ht;rw[<-ht];generalize zcf g.fin d.years=fin at*;have bh:=h.graves g (List.mem_of_getElem? g1);have eR:=(List.getElem?_eq_some_iff.1 g1).1;refine {h with graves:=λx hx=>?_,force:=λa b ga gb ha hb kn e he f1 f2=>?_}
 ·rcases List.mem_or_eq_of_mem_set hx with hx|hx
  ·exact h.graves x hx
  ·rw[hx];exact⟨bh.good,bh.small,bh.one⟩
 ·have ha:(s.graves.set i {g with fin:=fin})[a]?=some ga:=ha;have hb:(s.graves.set i {g with fin:=fin})[b]?=some gb:=hb;rw[List.getElem?_set]at ha hb;have one:∀(c:Nat) (gc:Grave),(if i=c then if i<s.graves.length then some ({g with fin:=fin}:Grave)else none else s.graves[c]?)=some gc->∃gc',s.graves[c]?=some gc'/\gc'.place=gc.place/\(zaM gc e=true->zaM gc' d.day=true):=by
   intro c gc hc;by_cases hic:i=c
   ·rw[if_pos hic,if_pos eR]at hc;cases hc;subst hic;exact⟨g,g1,rfl,λ_=>g3⟩
   ·rw[if_neg hic]at hc;exact⟨gc,hc,rfl,λhf=>zhb he hf⟩
  obtain⟨ga',a1,a2,a3⟩:=one a ga ha;obtain⟨gb',b1,b2,b3⟩:=one b gb hb;exact h.force a b ga' gb' a1 b1 (by rw[a2,b2,kn]) d.day (Int.le_refl _) (a3 f1) (b3 f2)
end
section
section
variable {P:Program} {ops:Array Oper} {md:Region.Mode} {w₀:World}
def fedBy(md:Region.Mode)(ops:Array Oper):Bool:=(List.range ops.size).all λi=>match ops[i]? with
 |none=>true
 |some o=>o.guard.isNone&&(o.after.all λe=>!Region.binds md e||decide (e.on<i))&&o.op.operands.toList.all λx=>match x with
  | .tmp t=>(List.range ops.size).all λj=>(match ops[j]? with|some oj=>oj.dst != some t||o.after.any (λe=>Region.binds md e&&e.on==j)|none=>true)
  |_=>true
end
def stays(w:World):∃z',w=w.ext z':=⟨⟨#[],w.drawn⟩,by simp[World.ext]⟩
section
variable {P:Program} {ops:Array Oper} {Q:Exit->Act->World->Prop} {md:Region.Mode} {m:Nat} {S:Bool->World->Prop}
def zhc(md:Region.Mode)(ops:Array Oper)(listed:Array Bool):Prop:= ∀(k:Nat) (o:Oper),ops[k]?=some o->listed.getD k false=true->∀e∈o.after,Region.binds md e=true->listed.getD e.on false=true
def zky(md:Region.Mode)(ops:Array Oper)(listed:Array Bool):Bool:=(List.range ops.size).all λk=>match ops[k]? with
 |some o=>!listed.getD k false||o.after.all λe=>!Region.binds md e||listed.getD e.on false
 |none=>true
def closed_of{listed:Array Bool}(h:zky md ops listed=true):zhc md ops listed:=λk o ho hl e he hb=>by
 unfold zky at h;have h1:=List.all_eq_true.1 h k (List.mem_range.2 (Array.getElem?_eq_some_iff.1 ho).1);simp only[ho,hl,Bool.not_true,Bool.false_or]at h1;rw[Array.all_eq_true]at h1;obtain⟨j,hj,rfl⟩:=Array.mem_iff_getElem.1 he;have h2:=h1 j hj;rw[hb]at h2;simpa using h2
def needs(md:Region.Mode)(ops:Array Oper)(i:Nat):Nat->Nat->Bool
 |0,k=>k==i
 |f+1,k=>k==i||match ops[k]? with
  |some o=>o.after.any λe=>Region.binds md e&&needs md ops i f e.on
  |none=>false
def zoe{i:Nat}{listed:Array Bool}(hc:zhc md ops listed):∀(f k:Nat),needs md ops i f k=true->listed.getD k false=true->listed.getD i false=true
 |0,k,h,hl=>by
  have:k=i:=by simpa[needs]using h
  rw[<-this];exact hl
 |f+1,k,h,hl=>by
  unfold needs at h;rw[Bool.or_eq_true]at h;rcases h with h|h
  ·have:k=i:=by simpa using h
   rw[<-this];exact hl
  ·cases ho:ops[k]? with
   |none=>rw[ho]at h;cases h
   |some o=>
    rw[ho]at h;simp only at h;rw[Array.any_eq_true]at h;obtain⟨j,hj,h2⟩:=h;rw[Bool.and_eq_true]at h2;exact zoe hc f _ h2.2 (hc k o ho hl o.after[j] (Array.getElem_mem hj) h2.1)
def zoP{listed:Array Bool}{j:Nat}(hc:zhc md ops listed)(hj:j∈Region.ready md ops listed):zhc md ops (listed.setIfInBounds j true):=λk o ho hl e he hb=>by
 obtain⟨h0,oj,jk,aV⟩:=mem_ready.1 hj;by_cases fX:j=k
 ·subst fX;rw[jk]at ho;simp only[Option.some.injEq]at ho;subst ho;exact getD_set_true (aV e he hb)
 ·rw[getD_set_ne false fX]at hl;exact getD_set_true (hc k o ho hl e he hb)
def zcr(P:Program)(md:Region.Mode)(ops:Array Oper)(Q:Exit->Act->World->Prop)(m:Nat)(S:Bool->World->Prop):Nat->Array Bool->Act->World->Prop
 |0,listed,a,w=>Region.ready md ops listed=[]/\Q .normal a w
 |fuel+1,listed,a,w=>
  (Region.ready md ops listed=[]->Q .normal a w)/\
  ∀i∈Region.ready md ops listed,wpOp P ops Q i (λa' w'=>S ((listed.setIfInBounds i true).getD m false) w'/\zcr P md ops Q m S fuel (listed.setIfInBounds i true) a' w') a w
def zjM:∀(fuel:Nat) (listed:Array Bool) (a:Act) (w:World),zcr P md ops Q m S fuel listed a w->wpAny P md ops Q fuel listed a w
 |0,_,_,_,h=>h
 |fuel+1,_,_,_,h=>⟨h.1,λi hi=>wpOp_mono (λa' w' h'=>zjM fuel _ a' w' h'.2) (h.2 i hi)⟩
def zlv{i:Nat}{oi:Oper}{v:Value}(jJ:i≠m)(hi:ops[i]?=some oi)(dI:∀(j:Nat) (o:Oper) cs b,ops[j]?=some o->o.op≠ .select cs b)
 (hQ:∀c a w,Q (.panic c) (a.put oi.dst v) w->Q (.panic c) a w)(f0:Nat)(ai:needs md ops i f0 m=true):
 ∀(fuel:Nat) (listed:Array Bool) (a:Act) (w:World),zhc md ops listed->
  (∀j oj,ops[j]?=some oj->j≠i->listed.getD j true=false->(∀e∈oj.after,Region.binds md e=true->e.on≠i)->oi.apart ops oj=true)->
  i∈Region.ready md ops listed->YieldsIf P ops (S false) oi v a->S false w->
  zcr P md ops Q m S fuel (listed.setIfInBounds i true) (a.put oi.dst v) w->zcr P md ops Q m S (fuel+1) listed a w:=by
 have d8:∀ {listed:Array Bool},zhc md ops listed->i∈Region.ready md ops listed->listed.getD m false=false:=λ{listed} hc hr=>by
  cases hx:listed.getD m false with
  |false=>rfl
  |true=>
   have h1:=zoe hc f0 m ai hx;have h2:=getD_both (mem_ready.1 hr).1;rw[h2]at h1;cases h1
 intro fuel;induction fuel with
 |zero=>
  intro listed a w hc _ hr hy hS H;refine⟨λh=>(by rw[h]at hr;cases hr),λj hj=>?_⟩;by_cases cd:j=i
  ·subst cd;exact hy.wpOp hi hS ⟨by rw[getD_set_ne false jJ,d8 hc hr];exact hS,H⟩
  ·have:=ready_mono hj cd;rw[H.1]at this;cases this
 |succ fuel ih=>
  intro listed a w hc eb hr hy hS H;refine⟨λh=>(by rw[h]at hr;cases hr),λj hj=>?_⟩;by_cases cd:j=i
  ·subst cd;exact hy.wpOp hi hS ⟨by rw[getD_set_ne false jJ,d8 hc hr];exact hS,H⟩
  ·have h1:=H.2 j (ready_mono hj cd);obtain⟨iQ,oj,jk,aV⟩:=mem_ready.1 hj;have nA:∀e∈oj.after,Region.binds md e=true->e.on≠i:=λe he hb xD=>by
    have h1:=aV e he hb;have h0:=(mem_ready.1 hr).1;rw[xD]at h1;rw[getD_both h0]at h1;cases h1
   have h2:=wpOp_putIf jk (eb j oj jk cd iQ nA) (λcs b=>dI i oi cs b hi) (λcs b=>dI j oj cs b jk) hQ hy h1;have jH:∀k ok,ops[k]?=some ok->k≠i->(listed.setIfInBounds j true).getD k true=false->
    (∀e∈ok.after,Region.binds md e=true->e.on≠i)->oi.apart ops ok=true:=λk ok hk au dm cZ=>by
    refine eb k ok hk au ?_ cZ;by_cases fX:j=k
    ·subst fX;exact iQ
    ·rw[getD_set_ne true fX]at dm;exact dm
   have aE:=zoP hc hj;have cx:=ready_mono hr (Ne.symm cd);have dQ:((listed.setIfInBounds i true).setIfInBounds j true).getD m false=(listed.setIfInBounds j true).getD m false:=by
    rw[Array.setIfInBounds_comm _ _ (Ne.symm cd),getD_set_ne false jJ]
   refine wpOp_mono (λa' w' h3=>?_) h2;have h4:=h3.2.1;rw[dQ]at h4;refine⟨h4,ih (listed.setIfInBounds j true) a' w' aE jH cx h3.1 ?_ ?_⟩
   ·rw[d8 aE cx]at h4;exact h4
   ·rw[Array.setIfInBounds_comm _ _ cd];exact h3.2.2
def zmN{i:Nat}{oi:Oper}{v:Value}{fuel:Nat}{listed:Array Bool}{a:Act}{w:World}(f0:Nat)(hi:ops[i]?=some oi)(jJ:i≠m)(ai:needs md ops i f0 m=true)(bp:zky md ops listed=true)
 (hs:Region.noSelect ops=true)(hf:Region.free md ops listed i=true)(hr:(Region.ready md ops listed).contains i=true)
 (hQ:∀c a w,Q (.panic c) (a.put oi.dst v) w->Q (.panic c) a w)(hy:YieldsIf P ops (S false) oi v a)(hS:S false w)
 (h:zcr P md ops Q m S fuel (listed.setIfInBounds i true) (a.put oi.dst v) w):zcr P md ops Q m S (fuel+1) listed a w:=
 zlv jJ hi (Region.noSelect_spec hs) hQ f0 ai fuel listed a w (closed_of bp) (Region.free_spec hi hf) (by simpa using hr) hy hS h
def zkz{i:Nat}{oi:Oper}{v:Value}(jJ:i≠m)(hi:ops[i]?=some oi)(dI:∀(j:Nat) (o:Oper) cs b,ops[j]?=some o->o.op≠ .select cs b)
 (hQ:∀c a w,Q (.panic c) (a.put oi.dst v) w->Q (.panic c) a w):
 ∀(fuel:Nat) (listed:Array Bool) (a:Act) (w:World),
  (∀j oj,ops[j]?=some oj->j≠i->listed.getD j true=false->(∀e∈oj.after,Region.binds md e=true->e.on≠i)->oi.apart ops oj=true)->
  i∈Region.ready md ops listed->YieldsIf P ops (λ_=>True) oi v a->S (listed.getD m false) w->
  zcr P md ops Q m S fuel (listed.setIfInBounds i true) (a.put oi.dst v) w->zcr P md ops Q m S (fuel+1) listed a w:=by
 intro fuel;induction fuel with
 |zero=>
  intro listed a w _ hr hy hS H;refine⟨λh=>(by rw[h]at hr;cases hr),λj hj=>?_⟩;by_cases cd:j=i
  ·subst cd;exact hy.wpOp hi trivial ⟨by rw[getD_set_ne false jJ];exact hS,H⟩
  ·have:=ready_mono hj cd;rw[H.1]at this;cases this
 |succ fuel ih=>
  intro listed a w eb hr hy hS H;refine⟨λh=>(by rw[h]at hr;cases hr),λj hj=>?_⟩;by_cases cd:j=i
  ·subst cd;exact hy.wpOp hi trivial ⟨by rw[getD_set_ne false jJ];exact hS,H⟩
  ·have h1:=H.2 j (ready_mono hj cd);obtain⟨iQ,oj,jk,aV⟩:=mem_ready.1 hj;have nA:∀e∈oj.after,Region.binds md e=true->e.on≠i:=λe he hb xD=>by
    have h1:=aV e he hb;have h0:=(mem_ready.1 hr).1;rw[xD]at h1;rw[getD_both h0]at h1;cases h1
   have h2:=wpOp_putIf jk (eb j oj jk cd iQ nA) (λcs b=>dI i oi cs b hi) (λcs b=>dI j oj cs b jk) hQ hy h1;have jH:∀k ok,ops[k]?=some ok->k≠i->(listed.setIfInBounds j true).getD k true=false->
    (∀e∈ok.after,Region.binds md e=true->e.on≠i)->oi.apart ops ok=true:=λk ok hk au dm cZ=>by
    refine eb k ok hk au ?_ cZ;by_cases fX:j=k
    ·subst fX;exact iQ
    ·rw[getD_set_ne true fX]at dm;exact dm
   have dQ:((listed.setIfInBounds i true).setIfInBounds j true).getD m false=(listed.setIfInBounds j true).getD m false:=by
    rw[Array.setIfInBounds_comm _ _ (Ne.symm cd),getD_set_ne false jJ]
   refine wpOp_mono (λa' w' h3=>?_) h2;have h4:=h3.2.1;rw[dQ]at h4;refine⟨h4,ih (listed.setIfInBounds j true) a' w' jH (ready_mono hr (Ne.symm cd)) h3.1 h4 ?_⟩;rw[Array.setIfInBounds_comm _ _ cd];exact h3.2.2
def zmO{i:Nat}{oi:Oper}{v:Value}{fuel:Nat}{listed:Array Bool}{a:Act}{w:World}(b:Bool)(hb:listed.getD m false=b)(hi:ops[i]?=some oi)(jJ:i≠m)
 (hs:Region.noSelect ops=true)(hf:Region.free md ops listed i=true)(hr:(Region.ready md ops listed).contains i=true)
 (hQ:∀c a w,Q (.panic c) (a.put oi.dst v) w->Q (.panic c) a w)(hy:YieldsIf P ops (λ_=>True) oi v a)(hS:S b w)
 (h:zcr P md ops Q m S fuel (listed.setIfInBounds i true) (a.put oi.dst v) w):zcr P md ops Q m S (fuel+1) listed a w:=
 zkz jJ hi (Region.noSelect_spec hs) hQ fuel listed a w (Region.free_spec hi hf) (by simpa using hr) hy (by rw[hb];exact hS) h
def AllReadyM(P:Program)(md:Region.Mode)(ops:Array Oper)(Q:Exit->Act->World->Prop)(m:Nat)(S:Bool->World->Prop)(fuel:Nat)(listed:Array Bool)(a:Act)(w:World)(rs:List Nat):Prop:=
 ∀i∈rs,wpOp P ops Q i (λa' w'=>S ((listed.setIfInBounds i true).getD m false) w'/\zcr P md ops Q m S fuel (listed.setIfInBounds i true) a' w') a w
def AllReadyM.nil{fuel:Nat}{listed:Array Bool}{a:Act}{w:World}:AllReadyM P md ops Q m S fuel listed a w []:=λ_ h=>by cases h
def AllReadyM.cons{fuel:Nat}{listed:Array Bool}{a:Act}{w:World}{i:Nat}{o:Oper}{rs:List Nat}(ho:ops[i]?=some o)(b:Bool)(hb:(listed.setIfInBounds i true).getD m false=b)
 (h:∀K':Act->World->Prop,Shut (∀a w,S b w->(S b w->zcr P md ops Q m S fuel (listed.setIfInBounds i true) a w)->K' a w)->if Region.wanted o (yielded ops a.tmps)=true then Oper.wp P o a w K' Q else K' (a.put o.dst undef) w)
 (hs:AllReadyM P md ops Q m S fuel listed a w rs):AllReadyM P md ops Q m S fuel listed a w (i::rs):=λj hj=>by
 rcases List.mem_cons.1 hj with rfl|hj
 ·rw[hb];exact wpOp_step ho (λK' hK=>h K' (λa w hS hW=>hK a w ⟨hS,hW hS⟩))
 ·exact hs j hj
def zeb{rs:List Nat}{fuel:Nat}{listed:Array Bool}{a:Act}{w:World}(hr:Region.ready md ops listed=rs)(ai:rs≠[])
 (h:AllReadyM P md ops Q m S fuel listed a w rs):zcr P md ops Q m S (fuel+1) listed a w:=⟨λh0=>absurd (hr▸h0) ai,hr▸h⟩
def zaO{listed:Array Bool}{a:Act}{w:World}(hr:Region.ready md ops listed=[])(h:Q .normal a w):∀fuel,zcr P md ops Q m S fuel listed a w
 |0=>⟨hr,h⟩
 |_+1=>⟨λ_=>h,by rw[hr];simp⟩
def za9{id:Nat}{a:Act}{w:World}(m:Nat)(S:Bool->World->Prop)(hm:P.follows .mixedOrders=true)(hS:S false w.drew)
 (h:S false w.drew->zcr P .any ops Q m S ops.size (Array.replicate ops.size false) a w.drew):(Code.region id ops true).wp P Q a w:=
 wp_region_any hm (zjM _ _ _ _ (h hS))
end
def TkM{P:Program}{ops:Array Oper}{Q:Exit->Act->World->Prop}{md:Region.Mode}{m:Nat}{S:Bool->World->Prop}(i:Nat){oi:Oper}{v:Value}{fuel:Nat}{listed:Array Bool}{a a':Act}{w:World}(h:zcr P md ops Q m S fuel (listed.setIfInBounds i true) a' w)(hi:ops[i]?=some oi:=by exact List.getElem?_toArray.trans rfl)(jJ:i≠m:=by decide)(ai:needs md ops i 9 m=true:=by kernel_rfl)(bp:zky md ops listed=true:=by kernel_rfl)
 (hs:Region.noSelect ops=true:=by kernel_rfl)(hf:Region.free md ops listed i=true:=by kernel_rfl)(hr:(Region.ready md ops listed).contains i=true:=by kernel_rfl)
 (hQ:∀c a w,Q (.panic c) (a.put oi.dst v) w->Q (.panic c) a w:=by exact λ_ _ _ h=>h)(hy:YieldsIf P ops (S false) oi v a:=by(refine Or.inl ⟨by rfl,?_⟩;intro w ut;(try dsimp only at ut);replace ut:=ut.resolve_left Bool.false_ne_true;go_simp;first|done|with_reducible rfl))(hS:S false w:=by assumption)
 (ha:a.put oi.dst v=a':=by((try simp only[Act.put,List.setIfInBounds_toArray,List.set_cons_zero,List.set_cons_succ]);rfl)):zcr P md ops Q m S (fuel+1) listed a w:=
 zmN 9 hi jJ ai bp hs hf hr hQ hy hS (ha▸h)
def OnM{P:Program}{ops:Array Oper}{Q:Exit->Act->World->Prop}{md:Region.Mode}{m:Nat}{S:Bool->World->Prop}(i:Nat)(b:Bool){o:Oper}{fuel:Nat}{listed:Array Bool}{a:Act}{w:World}(h:∀K':Act->World->Prop,Shut (∀a w,S b w->(S b w->zcr P md ops Q m S fuel (listed.setIfInBounds i true) a w)->K' a w)->if Region.wanted o (yielded ops a.tmps)=true then Oper.wp P o a w K' Q else K' (a.put o.dst undef) w)
 (hr:Region.ready md ops listed=[i]:=by kernel_rfl)(ho:ops[i]?=some o:=by exact List.getElem?_toArray.trans rfl)(hb:(listed.setIfInBounds i true).getD m false=b:=by kernel_rfl):zcr P md ops Q m S (fuel+1) listed a w:=zeb (rs:=[i]) hr (by simp) (AllReadyM.cons ho b hb h AllReadyM.nil)
def FrM{P:Program}{ops:Array Oper}{Q:Exit->Act->World->Prop}{md:Region.Mode}{m:Nat}{S:Bool->World->Prop}(i:Nat)(b:Bool){oi:Oper}{v:Value}{fuel:Nat}{listed:Array Bool}{a a':Act}{w:World}(h:zcr P md ops Q m S fuel (listed.setIfInBounds i true) a' w)(hb:listed.getD m false=b:=by kernel_rfl)(hi:ops[i]?=some oi:=by exact List.getElem?_toArray.trans rfl)(jJ:i≠m:=by decide)
 (hs:Region.noSelect ops=true:=by kernel_rfl)(hf:Region.free md ops listed i=true:=by kernel_rfl)(hr:(Region.ready md ops listed).contains i=true:=by kernel_rfl)
 (hQ:∀c a w,Q (.panic c) (a.put oi.dst v) w->Q (.panic c) a w:=by exact λ_ _ _ h=>h)(hy:YieldsIf P ops (λ_=>True) oi v a:=by(refine Or.inl ⟨by rfl,?_⟩;intro w ut;go_simp;first|done|with_reducible rfl))(hS:S b w:=by first|assumption|trivial)
 (ha:a.put oi.dst v=a':=by((try simp only[Act.put,List.setIfInBounds_toArray,List.set_cons_zero,List.set_cons_succ]);rfl)):zcr P md ops Q m S (fuel+1) listed a w:=
 zmO b hb hi jJ hs hf hr hQ hy hS (ha▸h)
def TwM{P:Program}{ops:Array Oper}{Q:Exit->Act->World->Prop}{md:Region.Mode}{m:Nat}{S:Bool->World->Prop}(i j:Nat){o p:Oper}{fuel:Nat}{listed:Array Bool}{a:Act}{w:World}(h:∀K':Act->World->Prop,Shut (∀a w,S false w->(S false w->zcr P md ops Q m S fuel (listed.setIfInBounds i true) a w)->K' a w)->if Region.wanted o (yielded ops a.tmps)=true then Oper.wp P o a w K' Q else K' (a.put o.dst undef) w)(k:∀K':Act->World->Prop,Shut (∀a w,S false w->(S false w->zcr P md ops Q m S fuel (listed.setIfInBounds j true) a w)->K' a w)->if Region.wanted p (yielded ops a.tmps)=true then Oper.wp P p a w K' Q else K' (a.put p.dst undef) w)
 (hr:Region.ready md ops listed=[i,j]:=by kernel_rfl)(ho:ops[i]?=some o:=by exact List.getElem?_toArray.trans rfl)(hp:ops[j]?=some p:=by exact List.getElem?_toArray.trans rfl)(hb:(listed.setIfInBounds i true).getD m false=false:=by kernel_rfl)(hc:(listed.setIfInBounds j true).getD m false=false:=by kernel_rfl):zcr P md ops Q m S (fuel+1) listed a w:=zeb (rs:=[i,j]) hr (by simp) (AllReadyM.cons ho false hb h (AllReadyM.cons hp false hc k AllReadyM.nil))
end
open Go.RowKit
def ofP(l:List Rec)(set:List Nat):List Rec:=set.filterMap λi=>l[i]?
def zcY(n set:Nat):List Nat:=(List.range n).filter λi=>set.testBit i
def zoQ:∀a b:Fin 64,a.val*64+b.val≠0->zcY 12 (a.val*64+b.val)=Lib.ctz 64 (a.val*64+b.val)::zcY 12 ((a.val*64+b.val) &&& (a.val*64+b.val-1)):=by decide+kernel
def zoR(x:Nat)(hx:x<4096)(h0:x≠0):zcY 12 x=Lib.ctz 64 x::zcY 12 (x &&& (x-1)):=by
 have h:=zoQ ⟨x/64,by omega⟩ ⟨x%64,by omega⟩;have e:x/64*64+x%64=x:=by omega
 simp only[e]at h;exact h h0
variable{n x:Nat}
def bits_up(hn:n<=12)(hx:x<2^n):zcY n x=zcY 12 x:=by
 unfold zcY;have h:List.range 12=List.range n++(List.range (12-n)).map (n+ ·):=by
  rw[<-List.range_add];congr 1
  omega
 rw[h,List.filter_append];have h2:((List.range (12-n)).map (n+ ·)).filter (λi=>x.testBit i)=[]:=by
  rw[List.filter_eq_nil_iff];intro i hi;obtain⟨j,_,rfl⟩:=List.mem_map.1 hi;have:x.testBit (n+j)=false:=Nat.testBit_lt_two_pow (Nat.lt_of_lt_of_le hx (Nat.pow_le_pow_right (by decide) (by omega)));rw[this];decide
 rw[h2,List.append_nil]
def ziw(hx:x<2^n):x &&& (x-1)<2^n:=Nat.lt_of_le_of_lt Nat.and_le_left hx
def bits_step(hn:n<=12)(hx:x<2^n)(h0:x≠0):zcY n x=Lib.ctz 64 x::zcY n (x &&& (x-1)):=by
 have nV:x<4096:=Nat.lt_of_lt_of_le hx (Nat.pow_le_pow_right (n:=2) (by decide) hn);rw[bits_up hn hx,bits_up hn (ziw hx)];exact zoR x nV h0
def bits_none(n:Nat):zcY n 0=[]:=by
 unfold zcY;rw[List.filter_eq_nil_iff];intro i _;simp
def zlw(h0:x≠0):x &&& (x-1)<x:=Nat.lt_of_le_of_lt Nat.and_le_right (by omega)
