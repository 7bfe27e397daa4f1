/- The library's sorts of texts and numbers, laid. -/
import Derived.Test.YtmfbdfejhdkiaaaGreatDoorDK
import Derived.Test.YtmfbdfejhdkiaaaGreatDoorJ2
import Derived.Shelf.SlLaysNS
set_option linter.all false
set_option maxRecDepth 100000
set_option maxHeartbeats 4000000
namespace Go.Proofs.YtmfbdfejhdkiaaaGreatDoor
open Go.RowKit
attribute [local go_sem] World.cell?_alloc_mark zae za4 zao za8 zav zaw zax zay zaz za0 za1
attribute [local go_sem] zap zac
theorem zlb:∀l:List UInt8,Op.bytesLess l l=false
 | []=>rfl
 |a::l=>by rw[Op.bytesLess,zlb l];simp
theorem zig:∀ {a b c:List UInt8},Op.bytesLess a b=true->Op.bytesLess b c=true->Op.bytesLess a c=true
 |_,[],_,h,_=>by unfold Op.bytesLess at h;simp at h
 |_,_::_,[],_,h=>by unfold Op.bytesLess at h;simp at h
 | [],_::_,_::_,_,_=>rfl
 |a::x,b::y,c::z,h1,h2=>by
  have ih:= @zig x y z;simp only[Op.bytesLess,Bool.or_eq_true,decide_eq_true_eq,Bool.and_eq_true,beq_iff_eq,UInt8.lt_iff_toNat_lt]at h1 h2⊢;rcases h1 with h1|⟨rfl,h1⟩<;>rcases h2 with h2|⟨rfl,h2⟩
  ·exact .inl (by omega)
  ·exact .inl h1
  ·exact .inl h2
  ·exact .inr ⟨rfl,ih h1 h2⟩
theorem zlc:∀a b:List UInt8,Op.bytesLess a b=true\/a=b\/Op.bytesLess b a=true
 | [],[]=> .inr (.inl rfl)
 | [],_::_=> .inl rfl
 |_::_,[]=> .inr (.inr rfl)
 |a::x,b::y=>by
  have ih:=zlc x y;simp only[Op.bytesLess,Bool.or_eq_true,decide_eq_true_eq,Bool.and_eq_true,beq_iff_eq,List.cons.injEq,UInt8.lt_iff_toNat_lt];rcases Nat.lt_trichotomy a.toNat b.toNat with h|h|h
  ·exact .inl (.inl h)
  ·have h':a=b:=UInt8.toNat_inj.1 h;subst h';rcases ih with ih|ih|ih
   ·exact .inl (.inr ⟨rfl,ih⟩)
   ·exact .inr (.inl ⟨rfl,ih⟩)
   ·exact .inr (.inr (.inr ⟨rfl,ih⟩))
  ·exact .inr (.inr (.inl h))
theorem zfa(a:ByteArray):zbr a a=false:=zlb _
theorem zb3{a b c:ByteArray}(h:zbr a b=true)(k:zbr b c=true):zbr a c=true:=zig h k
theorem zdx(a b:ByteArray):zbr a b=true\/a=b\/zbr b a=true:=by
 rcases zlc a.toList b.toList with h|h|h
 ·exact .inl h
 ·exact .inr (.inl (za3.1 (by unfold zaf;simpa using h)))
 ·exact .inr (.inr h)
theorem zcJ{a b:ByteArray}(h:zbr a b=true):a≠b:=by
 rintro rfl;rw[zfa]at h;cases h
theorem zj3{a b:ByteArray}(h:zbr a b=true):zbr b a=false:=by
 rw[<-Bool.not_eq_true];intro k;have:=zb3 h k;rw[zfa]at this;cases this
structure GoodParts (l:Parts):Prop where
 asc:l.Pairwise fun a b=>zbr a.1 b.1=true
 pos:∀p∈l,0<p.2
theorem zbU(n:ByteArray)(q:Rat):∀l:Parts,sumQ (za5 l n q)=sumQ l+q
 | []=>by
   unfold za5;split
   ·rename_i h
    have:q=0:=by simpa using h
    subst this;simp[sumQ];grind
   ·simp[sumQ];grind
 |p::r=>by
  have ih:=zbU n q r;unfold za5;split
  ·rename_i h
   have:q=0:=by simpa using h
   subst this;grind
  ·split
   ·rw[sumQ,ih,sumQ];grind
   ·split
    ·rw[sumQ,sumQ];grind
    ·rw[sumQ,sumQ];grind
theorem zfb{n:ByteArray}{q:Rat}:∀ {l:Parts} {p:ByteArray×Rat},p∈za5 l n q->p.1=n\/p∈l
 | [],p,h=>by
   unfold za5 at h;split at h
   ·exact .inr h
   ·simp at h;exact .inl (by rw[h])
 |x::r,p,h=>by
  unfold za5 at h;split at h
  ·exact .inr h
  ·split at h
   ·rcases List.mem_cons.1 h with rfl|h
    ·exact .inr (by simp)
    ·rcases zfb h with h|h
     ·exact .inl h
     ·exact .inr (by simp[h])
   ·split at h
    ·rcases List.mem_cons.1 h with rfl|h
     ·exact .inl rfl
     ·exact .inr (by simp[h])
    ·rcases List.mem_cons.1 h with rfl|h
     ·exact .inl rfl
     ·exact .inr h
theorem zbz{n:ByteArray}{q:Rat}(hq:0<=q):∀ {l:Parts},GoodParts l->GoodParts (za5 l n q)
 | [],_=>by
   unfold za5;split
   ·exact⟨List.Pairwise.nil,by simp⟩
   ·rename_i h
    have:q≠0:=by simpa using h
    exact⟨by simp,by intro p hp;simp at hp;rw[hp];show 0<q;grind⟩
 |x::r,⟨h1,h2⟩=>by
  have hr:GoodParts r:=⟨(List.pairwise_cons.1 h1).2,fun p hp=>h2 p (by simp[hp])⟩
  have hx:=(List.pairwise_cons.1 h1).1;unfold za5;split
  ·exact⟨h1,h2⟩
  ·rename_i h
   have eJ:0<q:=by have:q≠0:=by simpa using h
                   grind
   split
   ·rename_i hl
    have ih:=zbz (n:=n) hq hr;refine⟨List.pairwise_cons.2 ⟨fun p hp=>?_,ih.asc⟩,fun p hp=>?_⟩
    ·rcases zfb hp with e|hp
     ·rw[e];exact hl
     ·exact hx p hp
    ·rcases List.mem_cons.1 hp with rfl|hp
     ·exact h2 _ (by simp)
     ·exact ih.pos p hp
   ·rename_i hl
    split
    ·rename_i hs
     have e:=za3.1 hs;refine⟨List.pairwise_cons.2 ⟨fun p hp=>by rw[<-e];exact hx p hp,hr.asc⟩,fun p hp=>?_⟩;rcases List.mem_cons.1 hp with rfl|hp
     ·have:=h2 x (by simp);show 0<x.2+q;grind
     ·exact hr.pos p hp
    ·rename_i hs
     have jC:zbr n x.1=true:=by
      rcases zdx n x.1 with k|k|k
      ·exact k
      ·exact absurd (za3.2 k.symm) hs
      ·exact absurd k hl
     refine⟨List.pairwise_cons.2 ⟨fun p hp=>?_,h1⟩,fun p hp=>?_⟩
     ·rcases List.mem_cons.1 hp with rfl|hp
      ·exact jC
      ·exact zb3 jC (hx p hp)
     ·rcases List.mem_cons.1 hp with rfl|hp
      ·exact eJ
      ·exact h2 p hp
theorem zdM{n:ByteArray}:∀ {l:Parts},(∀p∈l,p.1≠n)->zag l n=0/\zar l n=l
 | [],_=>⟨rfl,rfl⟩
 |x::r,h=>by
  have ih:=zdM (l:=r) fun p hp=>h p (by simp[hp])
  have hx:zaf x.1 n=false:=zci.2 (h x (by simp));unfold zag zar at*;rw[List.find?_cons,hx,List.filter_cons,hx];exact⟨ih.1,by simpa using ih.2⟩
theorem zcj{n:ByteArray}:∀ {l:Parts},GoodParts l->sumQ (zar l n)+zag l n=sumQ l
 | [],_=>by simp only[zar,zag,sumQ,List.filter_nil,List.find?_nil,Option.map_none,Option.getD_none];grind
 |x::r,⟨h1,h2⟩=>by
  have hr:GoodParts r:=⟨(List.pairwise_cons.1 h1).2,fun p hp=>h2 p (by simp[hp])⟩
  have hx:=(List.pairwise_cons.1 h1).1;have ih:=zcj (n:=n) hr;by_cases hs:x.1=n
  ·have hn:=zdM (n:=n) (l:=r) fun p hp e=>by
    have:=zcJ (hx p hp);exact this (by rw[e,hs])
   have e1:zar (x::r) n=zar r n:=by
    unfold zar;rw[List.filter_cons,za3.2 hs];rfl
   have e2:zag (x::r) n=x.2:=by
    unfold zag;rw[List.find?_cons,za3.2 hs];rfl
   rw[e1,e2,hn.2,sumQ];grind
  ·have hf:zaf x.1 n=false:=zci.2 hs;have e1:zar (x::r) n=x::zar r n:=by
    unfold zar;rw[List.filter_cons,hf];rfl
   have e2:zag (x::r) n=zag r n:=by
    unfold zag;rw[List.find?_cons,hf]
   rw[e1,e2,sumQ,sumQ,<-ih];grind
theorem zbE{n:ByteArray}{l:Parts}(h:GoodParts l):GoodParts (zar l n):=
 ⟨h.asc.sublist List.filter_sublist,fun p hp=>h.pos p ((List.mem_filter.1 hp).1)⟩
theorem zbu:∀ {l:Parts},(∀p∈l,0<=p.2)->0<=sumQ l
 | [],_=>by simp[sumQ]
 |x::r,h=>by
  have ih:=zbu (l:=r) fun p hp=>h p (by simp[hp])
  have hx:=h x (by simp);rw[sumQ];grind
theorem zf4:∀ {l:Parts},(∀p∈l,0<=p.2)->∀p∈l,p.2<=sumQ l
 |x::r,h,p,hp=>by
  have hr:=zbu (l:=r) fun p hp=>h p (by simp[hp])
  have hx:=h x (by simp);rw[sumQ];rcases List.mem_cons.1 hp with rfl|hp
  ·grind
  ·have:=zf4 (l:=r) (fun p hp=>h p (by simp[hp])) p hp;grind
mutual
def okT:Tree->Bool
 | .leaf _=>true
 | .node l=>!l.isEmpty&&okL l
def okL:List Tree->Bool
 | []=>true
 |x::l=>okT x&&okL l
end
theorem zmv:∀ {l:List Tree},okL l=true↔ ∀x∈l,okT x=true
 | []=>by simp[okL]
 |x::l=>by rw[okL,Bool.and_eq_true,zmv];simp
theorem zkb(s:St)(stems:Bool)(frm:ByteArray):∀(f:Nat) (n:ByteArray),okL (zb4 s stems frm f n)=true
 |0,_=>rfl
 |f+1,n=>by
  rw[zmv];intro x hx;rw[zb4,List.mem_filterMap]at hx;obtain⟨c,_,hc⟩:=hx;split at hc
  ·cases hc;rfl
  ·split at hc
   ·rename_i hs
    cases hc;rw[Bool.and_eq_true]at hs;rw[okT,hs.2,zkb s stems frm f c];rfl
   ·cases hc
theorem ratN{n:Nat}(h:n≠0):(n:Rat)≠0:=by
 intro e;apply h;have:((n:Int):Rat)=((0:Int):Rat):=by simpa using e
 have:=Rat.intCast_inj.1 this;omega
theorem zcE{a b:Rat}(h:0<=a)(hb:0<=b):0<=a/b:=by
 rw[Rat.div_def];by_cases h0:b=0
 ·subst h0;rw[Rat.inv_zero];grind
 ·have:0<b⁻¹:=Rat.inv_pos.2 (by grind);exact Rat.mul_nonneg h (by grind)
mutual
theorem zhc{each:Rat}:∀ {l:List Tree} {out o:Parts},okL l=true->zbB each l out=some o->sumQ o=sumQ out+each*(l.length:Rat)
 | [],out,o,_,h=>by
   rw[zbB]at h;cases h;simp only[List.length_nil];have:((0:Nat):Rat)=0:=rfl;grind
 |x::l,out,o,hk,h=>by
  rw[okL,Bool.and_eq_true]at hk;rw[zbB,Option.bind_eq_some_iff]at h;obtain⟨o1,h1,h2⟩:=h;have e1:=znA hk.1 h1;have e2:=zhc hk.2 h2;rw[e2,e1,List.length_cons];have:((l.length+1:Nat):Rat)=(l.length:Rat)+1:=by simp
  grind
theorem znA{each:Rat}:∀ {x:Tree} {out o:Parts},okT x=true->zeo each x out=some o->sumQ o=sumQ out+each
 | .leaf n,out,o,_,h=>by
   rw[zeo]at h;split at h
   ·cases h
   ·cases h;exact zbU n each out
 | .node l,out,o,hk,h=>by
   rw[okT,Bool.and_eq_true]at hk;rw[zeo]at h;split at h
   ·cases h
   ·have e:=zhc hk.2 h;rw[e];have h0:l.length≠0:=by
     intro e0;have:=List.eq_nil_of_length_eq_zero e0;rw[this]at hk;exact absurd hk.1 (by decide)
    have:=ratN h0;grind
end
mutual
theorem ze4{each:Rat}(he:0<=each):∀ {l:List Tree} {out o:Parts},GoodParts out->zaG out=false->zbB each l out=some o->GoodParts o/\zaG o=false
 | [],out,o,hg,hl,h=>by
   rw[zbB]at h;cases h;exact⟨hg,hl⟩
 |x::l,out,o,hg,hl,h=>by
  rw[zbB,Option.bind_eq_some_iff]at h;obtain⟨o1,h1,h2⟩:=h;have e1:=zih he hg hl h1;exact ze4 he e1.1 e1.2 h2
theorem zih{each:Rat}(he:0<=each):∀ {x:Tree} {out o:Parts},GoodParts out->zaG out=false->zeo each x out=some o->GoodParts o/\zaG o=false
 | .leaf n,out,o,hg,hl,h=>by
   rw[zeo]at h;split at h
   ·cases h
   ·rename_i hb
    cases h;exact⟨zbz he hg,by simpa using hb⟩
 | .node l,out,o,hg,hl,h=>by
   rw[zeo]at h;split at h
   ·cases h
   ·exact ze4 (zcE he Rat.natCast_nonneg) hg hl h
end
def IsN(n:Nat)(q:Rat):Prop:= ∃k:Int,q*(n:Rat)=(k:Rat)
theorem zkc{n:Nat}{p q:Rat}(h:IsN n p)(k:IsN n q):IsN n (p+q):=by
 obtain⟨a,ha⟩:=h;obtain⟨b,hb⟩:=k;refine⟨a+b,?_⟩;rw[Rat.intCast_add,<-ha,<-hb];grind
theorem zhd{n:Nat}{p q:Rat}(h:IsN n p)(k:IsN n q):IsN n (p-q):=by
 obtain⟨a,ha⟩:=h;obtain⟨b,hb⟩:=k;refine⟨a-b,?_⟩;rw[Rat.intCast_sub,<-ha,<-hb];grind
theorem zkd{n m:Nat}{p q:Rat}(h:IsN n p)(k:IsN m q):IsN (n*m) (p*q):=by
 obtain⟨a,ha⟩:=h;obtain⟨b,hb⟩:=k;refine⟨a*b,?_⟩;rw[Rat.intCast_mul,<-ha,<-hb,Rat.natCast_mul];grind
theorem zld{n m:Nat}{q:Rat}(h:IsN n q):IsN (n*m) q:=by
 obtain⟨a,ha⟩:=h;refine⟨a*m,?_⟩;rw[Rat.intCast_mul,<-ha,Rat.natCast_mul,Rat.intCast_natCast];grind
theorem zhe(n:Nat):IsN n 1:=⟨n,by rw[Rat.intCast_natCast];grind⟩
theorem zke(n:Nat):IsN n 0:=⟨0,by grind⟩
theorem zkf{n:Nat}{q:Rat}(hn:0<n)(h:IsN n q):(q.den:Int)<=n:=by
 obtain⟨a,ha⟩:=h;have h0:=ratN (n:=n) (by omega);have e:q=Rat.divInt a n:=by
  rw[Rat.divInt_eq_div,Rat.intCast_natCast,<-ha];grind
 rw[e,zem (by omega)];exact Int.ediv_le_self _ (by omega)
theorem zer{num den:Int}(h:zaA 16 num den=true):IsN 720720 (Rat.divInt num den):=by
 have hs:=zbl h;unfold zaA at h;simp only[Bool.and_eq_true,decide_eq_true_eq]at h;obtain⟨⟨⟨h1,h2⟩,_⟩,_⟩:=h;obtain⟨m,hm⟩:∃m:Int,720720=den*m:=by
  have:den=1\/den=2\/den=3\/den=4\/den=5\/den=6\/den=7\/den=8\/den=9\/den=10\/den=11\/den=12\/den=13\/den=14\/den=15\/den=16:=by omega
  rcases this with rfl|rfl|rfl|rfl|rfl|rfl|rfl|rfl|rfl|rfl|rfl|rfl|rfl|rfl|rfl|rfl
  all_goals first|exact⟨720720,rfl⟩|exact⟨360360,rfl⟩|exact⟨240240,rfl⟩|exact⟨180180,rfl⟩|exact⟨144144,rfl⟩|exact⟨120120,rfl⟩|exact⟨102960,rfl⟩|exact⟨90090,rfl⟩|exact⟨80080,rfl⟩|exact⟨72072,rfl⟩|exact⟨65520,rfl⟩|exact⟨60060,rfl⟩|exact⟨55440,rfl⟩|exact⟨51480,rfl⟩|exact⟨48048,rfl⟩|exact⟨45045,rfl⟩
 refine⟨num*m,?_⟩;have hd:(den:Rat)≠0:=ratI (by omega);have e:((720720:Nat):Rat)=(den:Rat)*(m:Rat):=by
  rw[<-Rat.intCast_mul,<-hm];rfl
 rw[Rat.divInt_eq_div,e,Rat.intCast_mul];grind
theorem zcF{n:Nat}{nm:ByteArray}{q:Rat}(hq:IsN n q):∀ {l:Parts},(∀p∈l,IsN n p.2)->∀p∈za5 l nm q,IsN n p.2
 | [],_,p,hp=>by
   unfold za5 at hp;split at hp
   ·cases hp
   ·simp at hp;rw[hp];exact hq
 |x::r,h,p,hp=>by
  have hr:=zcF (nm:=nm) hq (l:=r) fun p hp=>h p (by simp[hp])
  unfold za5 at hp;split at hp
  ·exact h p hp
  ·split at hp
   ·rcases List.mem_cons.1 hp with rfl|hp
    ·exact h _ (by simp)
    ·exact hr p hp
   ·split at hp
    ·rcases List.mem_cons.1 hp with rfl|hp
     ·exact zkc (h x (by simp)) hq
     ·exact h p (by simp[hp])
    ·rcases List.mem_cons.1 hp with rfl|hp
     ·exact hq
     ·exact h p hp
theorem zc5{n:Nat}(h0:0<n)(h1:n<=1000000000){l:Parts}(h:∀p∈l,IsN n p.2):zaG l=false:=by
 unfold zaG;rw[List.any_eq_false];intro p hp;have:=zkf h0 (h p hp);unfold bigQ;simp;omega
structure WillOk (l:Parts):Prop where
 pos:∀p∈l,0<p.2
 isN:∀p∈l,IsN 720720 p.2
 le:sumQ l<=1
theorem zii{s:St}{frm:ByteArray}:∀ {l out:Parts} {rest:Rat},(∀p∈l,0<p.2)->(∀p∈l,IsN 720720 p.2)->sumQ l<=rest->GoodParts out->(∀p∈out,IsN 720720 p.2)->IsN 720720 rest->
 GoodParts (zcu s frm l out rest).1/\(∀p∈(zcu s frm l out rest).1,IsN 720720 p.2)/\IsN 720720 (zcu s frm l out rest).2/\0<=(zcu s frm l out rest).2/\sumQ (zcu s frm l out rest).1+(zcu s frm l out rest).2=sumQ out+rest
 | [],out,rest,_,_,hs,hg,hn,hr=>by
   rw[zcu];exact⟨hg,hn,hr,by simpa[sumQ]using hs,rfl⟩
 |p::l,out,rest,hp,hN,hs,hg,hn,hr=>by
  have kH:=hp p (by simp);have hl:=fun q (hq:q∈l)=>hp q (by simp[hq])
  have wG:=fun q (hq:q∈l)=>hN q (by simp[hq])
  rw[sumQ]at hs;rw[zcu];split
  ·have ih:=zii (s:=s) (frm:=frm) hl wG (rest:=rest-p.2) (out:=za5 out p.1 p.2) (by grind) (zbz (by grind) hg) (zcF (hN p (by simp)) hn) (zhd hr (hN p (by simp)));refine⟨ih.1,ih.2.1,ih.2.2.1,ih.2.2.2.1,?_⟩;rw[ih.2.2.2.2,zbU];grind
  ·exact zii (s:=s) (frm:=frm) hl wG (by grind) hg hn hr
theorem zdt:GoodParts []:=⟨List.Pairwise.nil,by simp⟩
theorem ze5{s:St}{law:Law}{n:ByteArray}{o:Parts}(hw:WillOk (zbx s n))(hl:zaA 16 law.num law.den=true)(h:zcO s law n=some o):GoodParts o/\sumQ o=1/\zaG o=false:=by
 unfold zcO at h;have hg:=zii (s:=s) (frm:=n) (out:=[]) (rest:=1) hw.pos hw.isN hw.le zdt (by simp) (zhe _);generalize hq:zcu s n (zbx s n) [] 1=q at*;obtain⟨out,rest⟩:=q;dsimp only at h hg;obtain⟨g1,g2,g3,g4,g5⟩:=hg;rw[sumQ]at g5;split at h
 ·rename_i h0
  cases h;have:rest=0:=by simpa using h0
  exact⟨g1,by grind,zc5 (by decide) (by decide) g2⟩
 rename_i h0
 have qy:rest≠0:=by simpa using h0
 generalize ck:(if zeb s (zaM s n) n=true then zaM s n else⟨#[]⟩)=sp at*;split at h
 ·cases h;refine⟨zbz g4 g1,by rw[zbU];grind,zc5 (by decide) (by decide) (zcF g3 g2)⟩
 rename_i ag
 have ae:(zb4 s law.stems n (zaW s) n).length≠0:=by
  intro e;rw[List.eq_nil_of_length_eq_zero e]at ag;exact ag rfl
 have bs:=zkb s law.stems n (zaW s) n;generalize zb4 s law.stems n (zaW s) n=ts at*;obtain⟨_,_,l1,l2⟩:=zbl hl;have hd:zaA 16 law.num law.den=true:=hl;have hN:IsN 720720 (Rat.divInt law.num law.den):=zer hl;have key:∃own out2,own=(if noB sp=true then 0 else rest*Rat.divInt law.num law.den)/\out2=(if noB sp=true then out else za5 out sp own)/\0<=own/\own<=rest/\GoodParts out2/\sumQ out2=sumQ out+own/\zaG out2=false:=by
  by_cases hs:noB sp=true
  ·exact⟨0,out,by rw[if_pos hs],by rw[if_pos hs],by grind,g4,g1,by grind,zc5 (by decide) (by decide) g2⟩
  ·have h1:0<=rest*Rat.divInt law.num law.den:=Rat.mul_nonneg g4 l1;have h2:rest*Rat.divInt law.num law.den<=rest:=by
    have:=Rat.mul_le_mul_of_nonneg_left l2 g4;grind
   refine⟨rest*Rat.divInt law.num law.den,za5 out sp (rest*Rat.divInt law.num law.den),by rw[if_neg hs],by rw[if_neg hs],h1,h2,zbz h1 g1,zbU _ _ _,?_⟩;have jU:∃d:Nat,0<d/\d<=16/\IsN d (Rat.divInt law.num law.den):=by
    unfold zaA at hd;simp only[Bool.and_eq_true,decide_eq_true_eq]at hd;refine⟨law.den.toNat,by omega,by omega,law.num,?_⟩;have hz:(law.den:Rat)≠0:=ratI (by omega);have e:((law.den.toNat:Nat):Rat)=(law.den:Rat):=by rw[<-Rat.intCast_natCast,Int.toNat_of_nonneg (by omega)]
    rw[Rat.divInt_eq_div,e];grind
   obtain⟨d,d0,d1,DS⟩:=jU;exact zc5 (n:=720720*d) (by omega) (by omega) (zcF (zkd g3 DS) fun p hp=>zld (g2 p hp))
 obtain⟨own,out2,ho,yv,k0,k1,k2,k3,k4⟩:=key;rw[<-ho,<-yv]at h;split at h
 ·rename_i hz
  cases h;have:rest-own=0:=by simpa using hz
  exact⟨k2,by grind,k4⟩
 ·split at h
  ·cases h
  ·have iD:0<=(rest-own)/(ts.length:Rat):=zcE (by grind) Rat.natCast_nonneg;obtain⟨m1,m2⟩:=ze4 iD k2 k4 h;refine⟨m1,?_,m2⟩;rw[zhc bs h,k3];have:=ratN ae;grind
theorem zij{own:Rat}(h0:0<=own):∀ {l out o:Parts},(∀p∈l,0<=p.2)->GoodParts out->zaG out=false->zb5 own l out=some o->GoodParts o/\zaG o=false/\sumQ o=sumQ out+own*sumQ l
 | [],out,o,_,hg,hl,h=>by
   rw[zb5]at h;cases h;exact⟨hg,hl,by rw[sumQ];grind⟩
 |p::l,out,o,hp,hg,hl,h=>by
  rw[zb5]at h;split at h
  ·cases h
  split at h
  ·cases h
  ·rename_i hb
   have hm:0<=own*p.2:=Rat.mul_nonneg h0 (hp p (by simp));obtain⟨h1,h2,h3⟩:=zij h0 (fun q hq=>hp q (by simp[hq])) (zbz hm hg) (by simpa using hb) h;refine⟨h1,h2,?_⟩;rw[h3,zbU,sumQ];grind
structure GoodG (g:Grave):Prop where
 good:GoodParts g.holders
 small:zaG g.holders=false
 one:g.holders=[]\/sumQ g.holders=1
theorem zb7{l:Parts}(h:GoodParts l)(n:ByteArray):0<=zag l n:=by
 unfold zag;cases hf:l.find? (fun p=>zaf p.1 n)with
 |none=>exact Rat.le_refl
 |some p=>
  have:=h.pos p (List.mem_of_find?_eq_some hf);show 0<=p.2;grind
theorem zdm{l:Parts}{n:ByteArray}(h:zag l n≠0):l≠[]:=by
 rintro rfl;exact h rfl
theorem large_sub{l m:Parts}(h:∀p∈m,p∈l)(hl:zaG l=false):zaG m=false:=by
 unfold zaG at*;rw[List.any_eq_false]at*;exact fun p hp=>hl p (h p hp)
theorem zdG{l:Parts}(n:ByteArray)(h:zaG l=false):zaG (zar l n)=false:=large_sub (fun p hp=>(List.mem_filter.1 hp).1) h
theorem zfY{n:ByteArray}{q:Rat}(hq:bigQ q=false):∀ {l:Parts},(∀p∈l,p.1≠n)->zaG l=false->zaG (za5 l n q)=false
 | [],_,_=>by
   unfold za5;split
   ·rfl
   ·simp[zaG,hq]
 |x::r,hn,hl=>by
  have nS:bigQ x.2=false/\zaG r=false:=by simpa[zaG]using hl
  have ih:=zfY hq (l:=r) (fun p hp=>hn p (by simp[hp])) nS.2;unfold za5;split
  ·exact hl
  ·split
   ·unfold zaG at ih⊢;rw[List.any_cons,nS.1,ih];rfl
   ·split
    ·rename_i hs
     exact absurd (za3.1 hs) (hn x (by simp))
    ·unfold zaG at hl⊢;rw[List.any_cons,hq,hl];rfl
theorem zj4{l:Parts}{n:ByteArray}:∀p∈zar l n,p.1≠n:=by
 intro p hp;unfold zar at hp;have:=(List.mem_filter.1 hp).2;exact zci.1 (by simpa using this)
theorem zkg{g:Grave}{frm:ByteArray}{l out:Parts}(hg:GoodG g)(hs:zag g.holders frm≠0)(hp:∀p∈l,0<p.2)(hl:sumQ l<=1)(hk:bigQ (zag g.holders frm*(1-sumQ l))=false)
 (h:zb5 (zag g.holders frm) l (za5 (zar g.holders frm) frm (zag g.holders frm*(1-sumQ l)))=some out):GoodG {g with holders:=out}:=by
 have h0:=zb7 hg.good frm;have jz:0<=zag g.holders frm*(1-sumQ l):=Rat.mul_nonneg h0 (by grind);obtain⟨h1,h2,h3⟩:=zij h0 (fun p N6=>by have:=hp p N6;grind) (zbz jz (zbE hg.good)) (zfY hk zj4 (zdG frm hg.small)) h;refine⟨h1,h2,.inr ?_⟩;have hw:=zcj (n:=frm) hg.good;rcases hg.one with e|e
 ·exact absurd e (zdm hs)
 ·show sumQ out=1;rw[h3,zbU];grind
theorem sum_div(d:Rat):∀l:Parts,sumQ (l.map fun p=>(p.1,p.2/d))=sumQ l/d
 | []=>by simp only[List.map_nil,sumQ];rw[Rat.div_def];grind
 |p::l=>by
  rw[List.map_cons,sumQ,sumQ,sum_div d l];rw[Rat.div_def,Rat.div_def,Rat.div_def];grind
theorem sum_zero{l:Parts}(h:∀p∈l,0<p.2)(hs:sumQ l=0):l=[]:=by
 cases l with
 |nil=>rfl
 |cons x r=>
  have hx:=h x (by simp);have:=zbu (l:=r) fun p hp=>by have:=h p (by simp[hp]);grind
  rw[sumQ]at hs;grind
theorem zhf{l:Parts}(h:∀p∈l,0<p.2):0<=sumQ l:=zbu fun p hp=>by have:=h p hp;grind
theorem zjk{g:Grave}{frm:ByteArray}(hg:GoodG g)(hs:zag g.holders frm≠0)(hl:zaG ((zar g.holders frm).map fun p=>(p.1,p.2/(1-zag g.holders frm)))=false):
 GoodG {g with holders:=(zar g.holders frm).map fun p=>(p.1,p.2/(1-zag g.holders frm))}:=by
 have hw:=zcj (n:=frm) hg.good;have h1:sumQ g.holders=1:=by
  rcases hg.one with e|e
  ·exact absurd e (zdm hs)
  ·exact e
 have iY:=zbE (n:=frm) hg.good;have iD:=zhf iY.pos;by_cases hz:1-zag g.holders frm=0
 ·have he:zar g.holders frm=[]:=sum_zero iY.pos (by grind);have e2:((zar g.holders frm).map fun p=>(p.1,p.2/(1-zag g.holders frm)))=[]:=by rw[he];rfl
  rw[e2];exact⟨zdt,rfl,.inl rfl⟩
 ·have hd:0<1-zag g.holders frm:=by grind
  refine⟨⟨List.pairwise_map.2 iY.asc,fun p hp=>?_⟩,hl,.inr ?_⟩
  ·obtain⟨q,hq,rfl⟩:=List.mem_map.1 hp;have:=iY.pos q hq;show 0<q.2/(1-zag g.holders frm);rw[Rat.div_def];exact Rat.mul_pos this (Rat.inv_pos.2 hd)
  ·show sumQ _=1;rw[sum_div,show sumQ (zar g.holders frm)=1-zag g.holders frm by grind,Rat.div_def];exact Rat.mul_inv_cancel _ hz
theorem zle{g:Grave}{n:ByteArray}{bz out:Parts}(hg:GoodG g)(hs:zag g.holders n≠0)(hh:GoodParts bz)(h1:sumQ bz=1)(h:zb5 (zag g.holders n) bz (zar g.holders n)=some out):GoodG {g with holders:=out,died:=g.died++[n]}:=by
 obtain⟨k1,k2,k3⟩:=zij (zb7 hg.good n) (fun p hp=>by have:=hh.pos p hp;grind) (zbE hg.good) (zdG n hg.small) h;refine⟨k1,k2,.inr ?_⟩;have hw:=zcj (n:=n) hg.good;rcases hg.one with e|e
 ·exact absurd e (zdm hs)
 ·show sumQ out=1;rw[k3,h1];grind
theorem zgu{s:ByteArray}(h:zaE s=true):noB s=false:=by
 unfold zaE at h;simp only[Bool.and_eq_true,Bool.not_eq_true']at h;exact h.2.1
structure OkD (d:Deed):Prop where
 kind:0<=d.kind/\d.kind<=8
 day:0<=d.day/\d.day<=200000
 years:0<=d.years/\d.years<=99
 cls:0<=d.cls/\d.cls<=4
 len:d.to.length<=8
 names:∀p∈d.to,zaE p.name=true
 place:(d.kind=0\/d.kind=1\/d.kind=2\/d.kind=3)->zaE d.place=true
 frm:¬(d.kind=0\/d.kind=3)->zaE d.frm=true
 grantor:(d.kind=0\/d.kind=3)->noB d.frm=true
 parts:(d.kind=0\/d.kind=1\/d.kind=4)->d.to≠[]/\zcA true (d.kind==0) d.frm d.to=true
 one:(d.kind=5\/d.kind=6\/d.kind=7)->d.to.length=1/\zcA false false d.frm d.to=true
 none:(d.kind=2\/d.kind=3\/d.kind=8)->d.to=[]
theorem zf5{n lo hi:Int}:inR n lo hi=true↔lo<=n/\n<=hi:=by unfold inR;simp
theorem zcP{d:Deed}(h:zaC d=0):OkD d:=by
 unfold zaC at h;split at h
 ·simp at h
 rename_i h1
 split at h
 ·simp at h
 rename_i h2
 split at h
 ·simp at h
 rename_i h3
 split at h
 ·simp at h
 rename_i h4
 split at h
 ·simp at h
 rename_i h5
 simp only[Bool.not_eq_true',Bool.not_eq_false,zf5]at h1;simp only[Bool.or_eq_true,Bool.not_eq_true',not_or,Bool.not_eq_false,zbm,zf5]at h2;simp only[Bool.or_eq_true,Bool.not_eq_true',not_or,Bool.not_eq_false,List.all_eq_true,zcC]at h4;simp only[Bool.not_eq_true',Bool.not_eq_false]at h5;simp only[decide_eq_true_eq,Nat.not_lt]at h3;unfold zfW at h5;obtain⟨⟨hd,hc⟩,hy⟩:=h2;obtain⟨⟨hp,hf⟩,hn⟩:=h4;have iz:d.kind=0\/d.kind=1\/d.kind=2\/d.kind=3\/d.kind=4\/d.kind=5\/d.kind=6\/d.kind=7\/d.kind=8:=by omega
 refine⟨h1,hd,hy,hc,h3,hn,?_,?_,?_,?_,?_,?_⟩;all_goals rcases iz with k|k|k|k|k|k|k|k|k<;>simp_all
theorem zik{s:St}{a b x:ByteArray}:zaj {s with children:=s.children++[(a,b)]} x=zaj s x++(if zaf a x then[b]else[]):=by
 unfold zaj;rw[List.filter_append,List.map_append];congr 1
 by_cases h:zaf a x=true
 ·rw[if_pos h,List.filter_cons,if_pos h];rfl
 ·rw[if_neg h,List.filter_cons,if_neg h];rfl
theorem zmw{s:St}{a b:ByteArray}(h:∀x,¬Desc s x x)(hn:¬Desc s b a)(ag:a≠b):∀x,¬Desc {s with children:=s.children++[(a,b)]} x x:=by
 have key:∀x y,Desc {s with children:=s.children++[(a,b)]} x y->Desc s x y\/((x=a\/Desc s x a)/\(y=b\/Desc s b y)):=by
  intro x y kO;unfold Desc at kO;induction kO with
  |single hc=>
   rw[zik]at hc;rcases List.mem_append.1 hc with hc|hc
   ·exact .inl (zf2 hc)
   ·split at hc
    ·rename_i hs
     simp only[List.mem_singleton]at hc;exact .inr ⟨.inl (za3.1 hs).symm,.inl hc⟩
    ·cases hc
  |tail _ hc ih=>
   rw[zik]at hc;rcases List.mem_append.1 hc with hc|hc
   ·rcases ih with ih|⟨i1,i2⟩
    ·exact .inl (zid ih hc)
    ·refine .inr ⟨i1,.inr ?_⟩;rcases i2 with i2|i2
     ·rw[i2]at hc;exact zf2 hc
     ·exact zid i2 hc
   ·split at hc
    ·rename_i hs
     simp only[List.mem_singleton]at hc;have e:=za3.1 hs;rcases ih with ih|⟨i1,i2⟩
     ·exact .inr ⟨.inr (by rw[e];exact ih),.inl hc⟩
     ·exfalso
      rcases i2 with i2|i2
      ·exact ag (e.trans i2)
      ·exact hn (by rw[e];exact i2)
    ·cases hc
 intro x hx;rcases key x x hx with k|⟨k1,k2⟩
 ·exact h x k
 ·rcases k1 with rfl|k1<;>rcases k2 with k2|k2
  ·exact ag k2
  ·exact hn k2
  ·rw[k2]at k1;exact hn k1
  ·exact hn (zha k2 k1)
structure GoodSt (s:St) (last:Int):Prop where
 graves:∀g∈s.graves,GoodG g
 force:∀(i j:Nat) (gi gj:Grave),s.graves[i]?=some gi->s.graves[j]?=some gj->gi.place=gj.place->∀day,last<=day->zaO gi day=true->zaO gj day=true->i=j
 wills:∀n,WillOk (zbx s n)
 acyc:∀a,¬Desc s a a
 kids:∀c∈s.children,noB c.1=false/\noB c.2=false
 marr:∀m∈s.marriages,m.1≠m.2/\noB m.1=false/\noB m.2=false
 willNames:∀w∈s.wills,∀p∈w.2,noB p.1=false
 dead:∀n∈s.dead,noB n=false
theorem zdT(last:Int):GoodSt zbb last:=by
 refine⟨by simp[zbb],by simp[zbb],fun n=>⟨by simp[zbb,zbx],by simp[zbb,zbx],by simp only[zbb,zbx,List.reverse_nil,List.find?_nil,Option.map_none,Option.getD_none,sumQ];decide⟩,fun a=>zie rfl,by simp[zbb],by simp[zbb],by simp[zbb],by simp[zbb]⟩
theorem zhg{g:Grave}{d e:Int}(h:d<=e)(hf:zaO g e=true):zaO g d=true:=by
 unfold zaO at*;simp only[Bool.and_eq_true,Bool.or_eq_true,decide_eq_true_eq]at*;refine⟨hf.1,?_⟩;rcases hf.2 with k|k
 ·exact .inl k
 ·exact .inr (by omega)
theorem zch{s:St}{place:ByteArray}{day:Int}{i:Nat}(h:zaS s place day=some i):∃g,s.graves[i]?=some g/\g.place=place/\zaO g day=true:=by
 unfold zaS at h;rw[List.findIdx?_eq_some_iff_getElem]at h;obtain⟨hi,h1,_⟩:=h;rw[Bool.and_eq_true,za3]at h1;exact⟨_,List.getElem?_eq_getElem hi,h1.1,h1.2⟩
theorem zhz{s:St}{place:ByteArray}{day:Int}(h:zaS s place day=none):∀g∈s.graves,g.place=place->zaO g day=false:=by
 unfold zaS at h;rw[List.findIdx?_eq_none_iff]at h;intro g hg hp;have:=h g hg;rw[za3.2 hp,Bool.true_and]at this;exact this
theorem GoodSt.later{s:St}{a b:Int}(h:GoodSt s a)(cH:a<=b):GoodSt s b:=
 {h with force:=fun i j gi gj hi hj hp day hd h1 h2=>h.force i j gi gj hi hj hp day (by omega) h1 h2}
theorem zil:∀ {l:List RPart} {out:Parts},GoodParts out->(∀p∈out,IsN 720720 p.2)->(∀p∈l,0<p.rat/\IsN 720720 p.rat)->
 GoodParts (zbe l out)/\(∀p∈zbe l out,IsN 720720 p.2)/\sumQ (zbe l out)=sumQ out+sumQ (zan l)
 | [],out,h1,h2,_=>⟨h1,h2,by simp only[zbe,List.foldl_nil,zan,List.map_nil,sumQ];grind⟩
 |p::l,out,h1,h2,h=>by
  obtain⟨p1,p2⟩:=h p (by simp);have ih:=zil (l:=l) (zbz (n:=p.name) (q:=p.rat) (by grind) h1) (zcF p2 h2) fun q hq=>h q (by simp[hq])
  have e:zbe (p::l) out=zbe l (za5 out p.name p.rat):=rfl;rw[e];refine⟨ih.1,ih.2.1,?_⟩;rw[ih.2.2,zbU];simp only[zan,List.map_cons,sumQ];grind
theorem zee{all:Bool}{frm:ByteArray}{l:List RPart}(h:zcA true all frm l=true):(∀p∈l,0<p.rat/\IsN 720720 p.rat/\zaA 16 p.num p.den=true)/\sumQ (zan l)<=1/\(all=true->sumQ (zan l)=1)/\∀p∈l,p.name≠frm:=by
 unfold zcA at h;simp only[if_true,Bool.and_eq_true,List.all_eq_true,Bool.not_eq_true',decide_eq_true_eq,Bool.or_eq_true,bne_iff_ne,ne_eq,beq_iff_eq]at h;obtain⟨⟨_,hn⟩,⟨hs,bu⟩,aH⟩:=h;refine⟨fun p hp=>?_,bu,fun ha=>?_,fun p hp=>zci.1 (hn p hp)⟩
 ·obtain⟨h1,h2⟩:=hs p hp;have h3:=zbl h1;refine⟨?_,zer h1,h1⟩;have ag:p.rat≠0:=by
   intro k;apply h2;rw[<-h3.1];unfold RPart.rat at k;rw[k];rfl
  have iD:0<=p.rat:=h3.2.2.1;grind
 ·rcases aH with k|k
  ·rw[ha]at k;cases k
  ·exact k
theorem zj5{all:Bool}{frm:ByteArray}{l:List RPart}(h:zcA true all frm l=true):WillOk (zan l):=by
 obtain⟨h1,h2,_,_⟩:=zee h;refine⟨fun p hp=>?_,fun p hp=>?_,h2⟩
 ·obtain⟨q,hq,rfl⟩:=List.mem_map.1 hp;exact(h1 q hq).1
 ·obtain⟨q,hq,rfl⟩:=List.mem_map.1 hp;exact(h1 q hq).2.1
theorem zmx{s s':St}{d:Deed}{last:Int}(h:GoodSt s last)(hd:OkD d)(hl:last<=d.day)(hk:d.kind=0)(ht:zcT s d=(s',0)):GoodSt s' d.day:=by
 have h:=h.later hl;unfold zcT at ht;split at ht
 ·simp at ht
 rename_i h1
 split at ht
 ·simp at ht
 split at ht
 ·simp at ht
 simp only[Prod.mk.injEq,and_true]at ht;rw[<-ht];have hx:zaS s d.place d.day=none:=by simpa using h1
 have hn:=zhz hx;obtain⟨fP,yE⟩:=hd.parts (.inl hk);obtain⟨p1,p2,p3,_⟩:=zee yE;obtain⟨g1,g2,g3⟩:=zil (l:=d.to) (out:=[]) zdt (by simp) fun p hp=>⟨(p1 p hp).1,(p1 p hp).2.1⟩
 have g4:sumQ (zbe d.to [])=1:=by
  rw[g3,p3 (by rw[hk];rfl),sumQ];grind
 generalize hg:(⟨d.place,d.cls,if decide (0<d.years)=true then zcg d.day d.years else-1,zbe d.to [],[]⟩:Grave)=g;have uw:g.place=d.place:=by rw[<-hg]
 have xw:GoodG g:=by rw[<-hg];exact⟨g1,zc5 (by decide) (by decide) g2,.inr g4⟩
 refine {h with graves:=fun x hx=>?_,force:=fun i j gi gj hi hj hp day cf f1 f2=>?_}
 ·rcases List.mem_append.1 hx with hx|hx
  ·exact h.graves x hx
  ·rw[List.mem_singleton.1 hx];exact xw
 ·have hi:(s.graves++[g])[i]?=some gi:=hi;have hj:(s.graves++[g])[j]?=some gj:=hj;rw[List.getElem?_append]at hi hj;split at hi<;>split at hj
  ·exact h.force i j gi gj hi hj hp day cf f1 f2
  ·exfalso
   have e:gj=g:=by
    rw[List.getElem?_cons]at hj;split at hj
    ·exact(Option.some.inj hj).symm
    ·simp at hj
   have:=hn gi (List.mem_of_getElem? hi) (by rw[hp,e,uw]);rw[zhg cf f1]at this;cases this
  ·exfalso
   have e:gi=g:=by
    rw[List.getElem?_cons]at hi;split at hi
    ·exact(Option.some.inj hi).symm
    ·simp at hi
   have:=hn gj (List.mem_of_getElem? hj) (by rw[<-hp,e,uw]);rw[zhg cf f2]at this;cases this
  ·have:=(List.getElem?_eq_some_iff.1 hi).1;have:=(List.getElem?_eq_some_iff.1 hj).1;simp at*;omega
theorem zj6{s:St}{i:Nat}{g g':Grave}{day:Int}(h:GoodSt s day)(hi:s.graves[i]?=some g)(hg:GoodG g')(hp:g'.place=g.place)(hf:∀e,day<=e->zaO g' e=true->zaO g e=true):GoodSt (s.withGrave i g') day:=by
 have fg:=(List.getElem?_eq_some_iff.1 hi).1;refine {h with graves:=fun x hx=>?_,force:=fun a b ga gb ha hb kI e he f1 f2=>?_}
 ·rcases List.mem_or_eq_of_mem_set hx with hx|hx
  ·exact h.graves x hx
  ·rw[hx];exact hg
 ·have ha:(s.graves.set i g')[a]?=some ga:=ha;have hb:(s.graves.set i g')[b]?=some gb:=hb;rw[List.getElem?_set]at ha hb;have one:∀(c:Nat) (gc:Grave),(if i=c then if i<s.graves.length then some g' else none else s.graves[c]?)=some gc->∃gc',s.graves[c]?=some gc'/\gc'.place=gc.place/\(zaO gc e=true->zaO gc' e=true):=by
   intro c gc hc;by_cases hic:i=c
   ·rw[if_pos hic,if_pos fg]at hc;cases hc;subst hic;exact⟨g,hi,hp.symm,hf e he⟩
   ·rw[if_neg hic]at hc;exact⟨gc,hc,rfl,id⟩
  obtain⟨ga',a1,a2,a3⟩:=one a ga ha;obtain⟨gb',b1,b2,b3⟩:=one b gb hb;exact h.force a b ga' gb' a1 b1 (by rw[a2,b2,kI]) e he (a3 f1) (b3 f2)
theorem zgv{s:St}{i:Nat}{g:Grave}(h:s.graves[i]?=some g):s.graves.getD i zjj=g:=by
 rw[List.getD_eq_getElem?_getD,h];rfl
theorem ze6{g:Grave}{out:Parts}{died:List ByteArray}{e:Int}(ag:g.holders≠[])(h:zaO {g with holders:=out,died:=died} e=true):zaO g e=true:=by
 unfold zaO at*;simp only[Bool.and_eq_true]at*;refine⟨?_,h.2⟩;cases hg:g.holders with
 |nil=>exact absurd hg ag
 |cons _ _=>rfl
theorem zjl{s s':St}{d:Deed}{last:Int}(h:GoodSt s last)(hd:OkD d)(hl:last<=d.day)(hk:d.kind=1)(ht:zbs s d=(s',0)):GoodSt s' d.day:=by
 have h:=h.later hl;unfold zbs at ht;split at ht
 ·simp at ht
 rename_i i hi
 obtain⟨g,g1,g2,g3⟩:=zch hi;rw[zgv g1]at ht;dsimp only at ht;split at ht
 ·simp at ht
 split at ht
 ·simp at ht
 rename_i hs
 have hs:zag g.holders d.frm≠0:=by simpa using hs
 split at ht
 ·simp at ht
 split at ht
 ·simp at ht
 rename_i hb
 split at ht
 ·simp at ht
 rename_i out ho
 simp only[Prod.mk.injEq,and_true]at ht;rw[<-ht];obtain⟨fP,yE⟩:=hd.parts (.inr (.inl hk));have hw:=zj5 yE;have bl:=h.graves g (List.mem_of_getElem? g1);exact zj6 h g1 (zkg bl hs hw.pos hw.le (by simpa using hb) ho) rfl fun e _ hf=>ze6 (died:=g.died) (zdm hs) hf
theorem zim{s s':St}{d:Deed}{last:Int}(h:GoodSt s last)(hl:last<=d.day)(ht:zba s d=(s',0)):GoodSt s' d.day:=by
 have h:=h.later hl;unfold zba at ht;split at ht
 ·simp at ht
 rename_i i hi
 obtain⟨g,g1,g2,g3⟩:=zch hi;rw[zgv g1]at ht;dsimp only at ht;split at ht
 ·simp at ht
 rename_i hs
 have hs:zag g.holders d.frm≠0:=by simpa using hs
 split at ht
 ·simp at ht
 rename_i hb
 simp only[Prod.mk.injEq,and_true]at ht;rw[<-ht];have bl:=h.graves g (List.mem_of_getElem? g1);exact zj6 h g1 (zjk bl hs (by simpa using hb)) rfl fun e _ hf=>ze6 (died:=g.died) (zdm hs) hf
theorem zmy{s s':St}{d:Deed}{last:Int}(h:GoodSt s last)(hl:last<=d.day)(ht:zdb s d=(s',0)):GoodSt s' d.day:=by
 have h:=h.later hl;unfold zdb at ht;split at ht
 ·simp at ht
 rename_i i hi
 obtain⟨g,g1,g2,g3⟩:=zch hi;rw[zgv g1]at ht;dsimp only at ht;split at ht
 ·simp at ht
 split at ht
 ·simp at ht
 simp only[Prod.mk.injEq,and_true]at ht;rw[<-ht];generalize zcg g.fin d.years=fin at*;have bl:=h.graves g (List.mem_of_getElem? g1);have fg:=(List.getElem?_eq_some_iff.1 g1).1;refine {h with graves:=fun x hx=>?_,force:=fun a b ga gb ha hb kI e he f1 f2=>?_}
 ·rcases List.mem_or_eq_of_mem_set hx with hx|hx
  ·exact h.graves x hx
  ·rw[hx];exact⟨bl.good,bl.small,bl.one⟩
 ·have ha:(s.graves.set i {g with fin:=fin})[a]?=some ga:=ha;have hb:(s.graves.set i {g with fin:=fin})[b]?=some gb:=hb;rw[List.getElem?_set]at ha hb;have one:∀(c:Nat) (gc:Grave),(if i=c then if i<s.graves.length then some ({g with fin:=fin}:Grave)else none else s.graves[c]?)=some gc->∃gc',s.graves[c]?=some gc'/\gc'.place=gc.place/\(zaO gc e=true->zaO gc' d.day=true):=by
   intro c gc hc;by_cases hic:i=c
   ·rw[if_pos hic,if_pos fg]at hc;cases hc;subst hic;exact⟨g,g1,rfl,fun _=>g3⟩
   ·rw[if_neg hic]at hc;exact⟨gc,hc,rfl,fun hf=>zhg he hf⟩
  obtain⟨ga',a1,a2,a3⟩:=one a ga ha;obtain⟨gb',b1,b2,b3⟩:=one b gb hb;exact h.force a b ga' gb' a1 b1 (by rw[a2,b2,kI]) d.day (Int.le_refl _) (a3 f1) (b3 f2)
theorem rAbs_any(n:Int)(w:World)(h:n.natAbs<=4611686018427387904):Calls Tryz.prog 114 #[.int .i64 n] w (Ret0 w (.int .i64 (n.natAbs:Int))):=by
 have h0: -4611686018427387904<=n:=by omega
 have h1:n<=4611686018427387904:=by omega
 have hw:IntKind.i64.wrap (-n)= -n:=by rw[IntKind.wrap_i64];omega
 clear h;go_enter Tryz.func114,Tryz.ntmps114
 by_cases h:n<0
 ·go_wp2_with fail
  go_ret
  exact⟨by rw[show((n.natAbs:Nat):Int)= -n by omega];first|rfl|(show Ending.returned (Value.int .i64 (max n (-n)))=_;rw[show max n (-n)= -n by omega]),rfl⟩
 ·by_cases h2:n=0
  ·subst h2;go_wp2_with fail
   go_ret
   exact⟨rfl,rfl⟩
  ·go_wp2_with fail
   go_ret
   exact⟨by rw[show((n.natAbs:Nat):Int)=n by omega];first|rfl|(show Ending.returned (Value.int .i64 (max n (-n)))=_;rw[show max n (-n)=n by omega]),rfl⟩
theorem znB(a b:Int)(w:World)(ha:a.natAbs<=4611686018427387904)(hb:b.natAbs<=4611686018427387904):Calls Tryz.prog 67 #[.int .i64 a,.int .i64 b] w (Ret w (.int .i64 (Int.gcd a b))):=by
 go_enter Tryz.func67,Tryz.ntmps67
 go_wp2_with fail
 go_loopw [0,1] (fun x y wr=>∃p q:Int,x=.int .i64 p/\y=.int .i64 q/\p.natAbs<=4611686018427387904/\q.natAbs<=4611686018427387904/\Hid (Int.gcd a b=Int.gcd p q)/\∃z,wr=w.ext z) (fun _ y _=>(intOf y).natAbs)
 case atStart=>exact⟨a,b,rfl,rfl,ha,hb,rfl,zaU Qb⟩
 case round=>
  obtain⟨p,q,rfl,rfl,hp,hq,HG,z,rfl⟩:=hrel;by_cases hz:q=0
  ·subst hz;have HP:=zHi hp;clear hp hq;go_wp2_with (go_at_call 114;go_must(refine(rAbs_any _ _ HP.o).mono ?_);rintro e wq ⟨rfl,rfl⟩)
   go_ret
   exact Ret.of (zcd (by rw[HG.o];simp[Int.gcd])) Bw
  ·have gV:(q==0)=false:=by simp[hz]
   have hm:=tmod_lt p q hz;have hG:=zHi (zn3 p q);have qF:IntKind.i64.wrap (p.tmod q)=p.tmod q:=IntWalk.i64_in _ (by omega);go_wp2_with fail
   go_quiet (fail)
   go_wp2_with fail
   all_goals(first
    |(go_round
      case rel=>exact⟨q,p.tmod q,rfl,rfl,hq,by omega,by show _=_;rw[HG.o,hG.o],zaU Bw⟩
      case measure=>simp only[intOf];omega))
theorem ze7(a b:Int)(w:World)(ha:a.natAbs<=4611686018427387904)(aN:0<b)(hb:b<=4611686018427387904):Calls Tryz.prog 63 #[.int .i64 a,.int .i64 b] w (Ret w (zaD (Rat.divInt a b))):=by
 have hg:=zn5 (a:=a) aN;obtain⟨g,HG⟩:∃g:Int,g=(Int.gcd a b:Int):=⟨_,rfl⟩
 have ur:0<g:=by omega
 have sS:(g==0)=false:=by simp;omega
 have e1:a.tdiv g=(Rat.divInt a b).num:=by rw[zf0 aN,HG,zen (Int.gcd_dvd_left ..)]
 have e2:b.tdiv g=((Rat.divInt a b).den:Int):=by rw[zem aN,HG,zen (Int.gcd_dvd_right ..)]
 have n1:(a.tdiv g).natAbs<=4611686018427387904:=Nat.le_trans (Int.natAbs_tdiv_le_natAbs _ _) ha;have n2:(b.tdiv g).natAbs<=4611686018427387904:=Nat.le_trans (Int.natAbs_tdiv_le_natAbs _ _) (by omega);have w1:wrap64 (a.tdiv g)=a.tdiv g:=by unfold wrap64;omega
 have w2:wrap64 (b.tdiv g)=b.tdiv g:=by unfold wrap64;omega
 have HA:=zHi ha;have i8:b.natAbs<=4611686018427387904:=by omega
 have L4:¬b<0:=by omega
 obtain⟨HB,E1,E2⟩:=yH3 i8 e1 e2;clear ha hb aN hg e1 e2 n1 n2 i8;go_enter Tryz.func63,Tryz.ntmps63
 go_wp2_with (go_at_call 67;refine(znB _ _ _ HA.o HB.o).mono ?_;rintro e w1 ⟨rfl,z1,rfl⟩;rw[<-HG])
 go_region
 go_wp2_with fail
 refine bodyPost_ret (v:=zaD (Rat.divInt a b)) ?_ rfl ?_
 ·refine zaT rfl _ _ w.heap.size _ _ rfl ?_ ?_
  ·rw[<-E1.o];simp[go_sem];rw[<-HG];exact w1
  ·rw[<-E2.o];simp[go_sem];rw[<-HG];exact w2
 ·exact Ret.of rfl Bw
theorem rAddI(a b c d:Int)(w:World)(ha:a.natAbs<=1000000000)(hb:b.natAbs<=1000000000)(hc:c.natAbs<=1000000000)(hd:d.natAbs<=1000000000)(aN:0<b)(fW:0<d)(_h:True):Calls Tryz.prog 34 #[.agg #[.int .i64 a,.int .i64 b],.agg #[.int .i64 c,.int .i64 d]] w (Ret w (zaD (Rat.divInt (a*d+c*b) (b*d)))):=by
 have m1:=zaQ ha hd;have m2:=zaQ hc hb;have m3:=zaQ hb hd;have m4:0<b*d:=Int.mul_pos aN fW;obtain⟨m1,n1⟩:=m1;obtain⟨m2,n2⟩:=m2;obtain⟨m3,n3⟩:=m3;have w1:IntKind.i64.wrap (a*d)=a*d:=IntWalk.i64_in _ (by omega);have w2:IntKind.i64.wrap (c*b)=c*b:=IntWalk.i64_in _ (by omega);have w3:IntKind.i64.wrap (b*d)=b*d:=IntWalk.i64_in _ (by omega);have m5:=zaQ ha hc;obtain⟨m5,n5⟩:=m5;have m6:=zaQ hb hc;obtain⟨m6,n6⟩:=m6;have w5:IntKind.i64.wrap (a*c)=a*c:=IntWalk.i64_in _ (by omega);have w6:IntKind.i64.wrap (b*c)=b*c:=IntWalk.i64_in _ (by omega);have hs:(a*d+c*b).natAbs<=4611686018427387904:=by omega
 have hl:(b*d)<=4611686018427387904:=by omega
 have h4:0<(b*d):=m4;obtain⟨HS,HL,H4⟩:=yH3 hs hl h4;clear hs hl m4 h4 ha hb hc hd;go_enter Tryz.func34,Tryz.ntmps34
 go_wp2_with (go_at_call 63;go_must(refine(ze7 _ _ _ HS.o H4.o HL.o).mono ?_);rintro e w1 ⟨rfl,z1,rfl⟩;simp only[zaD])
 refine bodyPost_ret (v:=zaD (Rat.divInt (a*d+c*b) (b*d))) ?_ rfl ?_
 ·refine zaT rfl _ _ _ _ _ rfl ?_ ?_
  ·simp[go_sem]
  ·simp[go_sem]
 ·exact Ret.of rfl Bw
theorem zkh(p q:Rat)(w:World)(ck:zaL p)(dR:zaL q):Calls Tryz.prog 34 #[zaD p,zaD q] w (Ret w (zaD (p+q))):=by
 rw[zjx];exact rAddI _ _ _ _ _ ck.1 (by have:=ck.2;omega) dR.1 (by have:=dR.2;omega) (zbS p) (zbS q) trivial
theorem rSubI(a b c d:Int)(w:World)(ha:a.natAbs<=1000000000)(hb:b.natAbs<=1000000000)(hc:c.natAbs<=1000000000)(hd:d.natAbs<=1000000000)(aN:0<b)(fW:0<d)(_h:True):Calls Tryz.prog 123 #[.agg #[.int .i64 a,.int .i64 b],.agg #[.int .i64 c,.int .i64 d]] w (Ret w (zaD (Rat.divInt (a*d-c*b) (b*d)))):=by
 have m1:=zaQ ha hd;have m2:=zaQ hc hb;have m3:=zaQ hb hd;have m4:0<b*d:=Int.mul_pos aN fW;obtain⟨m1,n1⟩:=m1;obtain⟨m2,n2⟩:=m2;obtain⟨m3,n3⟩:=m3;have w1:IntKind.i64.wrap (a*d)=a*d:=IntWalk.i64_in _ (by omega);have w2:IntKind.i64.wrap (c*b)=c*b:=IntWalk.i64_in _ (by omega);have w3:IntKind.i64.wrap (b*d)=b*d:=IntWalk.i64_in _ (by omega);have m5:=zaQ ha hc;obtain⟨m5,n5⟩:=m5;have m6:=zaQ hb hc;obtain⟨m6,n6⟩:=m6;have w5:IntKind.i64.wrap (a*c)=a*c:=IntWalk.i64_in _ (by omega);have w6:IntKind.i64.wrap (b*c)=b*c:=IntWalk.i64_in _ (by omega);have hs:(a*d-c*b).natAbs<=4611686018427387904:=by omega
 have hl:(b*d)<=4611686018427387904:=by omega
 have h4:0<(b*d):=m4;obtain⟨HS,HL,H4⟩:=yH3 hs hl h4;clear hs hl m4 h4 ha hb hc hd;go_enter Tryz.func123,Tryz.ntmps123
 go_wp2_with (go_at_call 63;go_must(refine(ze7 _ _ _ HS.o H4.o HL.o).mono ?_);rintro e w1 ⟨rfl,z1,rfl⟩;simp only[zaD])
 refine bodyPost_ret (v:=zaD (Rat.divInt (a*d-c*b) (b*d))) ?_ rfl ?_
 ·refine zaT rfl _ _ _ _ _ rfl ?_ ?_
  ·simp[go_sem]
  ·simp[go_sem]
 ·exact Ret.of rfl Bw
theorem zhG(p q:Rat)(w:World)(ck:zaL p)(dR:zaL q):Calls Tryz.prog 123 #[zaD p,zaD q] w (Ret w (zaD (p-q))):=by
 rw[zjy];exact rSubI _ _ _ _ _ ck.1 (by have:=ck.2;omega) dR.1 (by have:=dR.2;omega) (zbS p) (zbS q) trivial
theorem zin(w:World):Calls Tryz.prog 115 #[] w (Ret w (.agg #[.int .i64 0,.int .i64 1])):=by
 go_enter Tryz.func115,Tryz.ntmps115
 go_wp2_with fail
 refine bodyPost_ret (v:=.agg #[.int .i64 0,.int .i64 1]) ?_ rfl ?_
 ·refine zaT rfl _ _ w.heap.size _ _ rfl ?_ ?_
  ·simp[go_sem]
  ·simp[go_sem]
 ·exact Ret.of rfl Bw
open Go.Shelf
def zoq:Go.Shelf.Ren:=⟨fun|53=>28|64=>61|63=>60|78=>110|79=>111|70=>101|71=>102|72=>103|73=>104|74=>105|75=>106|59=>107|76=>108|77=>109|88=>149|89=>150|90=>151|91=>152|92=>153|68=>154|96=>169|n=>n,fun|22=>78|23=>3|3=>3|51=>114|0=>0|67=>154|69=>156|4=>4|61=>147|60=>146|44=>98|5=>5|9=>9|75=>188|79=>192|83=>204|84=>205|n=>n,fun|n=>n⟩
theorem srtInt:Go.Proofs.SlLaysN.n53 Tryz.prog zoq:= {
 mixed:=by kernel_rfl
 f53:=⟨Tryz.f28.name,by decide,Tryz.func28.trans (congrArg some (by kernel_rfl))⟩
 f59:=⟨Tryz.f107.name,by decide,Tryz.func107.trans (congrArg some (by kernel_rfl))⟩
 f63:=⟨Tryz.f60.name,by decide,Tryz.func60.trans (congrArg some (by kernel_rfl))⟩
 f64:=Tryz.func61.trans (congrArg some (by kernel_rfl))
 f68:=⟨Tryz.f154.name,by decide,Tryz.func154.trans (congrArg some (by kernel_rfl))⟩
 f70:=⟨Tryz.f101.name,by decide,Tryz.func101.trans (congrArg some (by kernel_rfl))⟩
 f71:=⟨Tryz.f102.name,by decide,Tryz.func102.trans (congrArg some (by kernel_rfl))⟩
 f72:=⟨Tryz.f103.name,by decide,Tryz.func103.trans (congrArg some (by kernel_rfl))⟩
 f73:=⟨Tryz.f104.name,by decide,Tryz.func104.trans (congrArg some (by kernel_rfl))⟩
 f74:=⟨Tryz.f105.name,by decide,Tryz.func105.trans (congrArg some (by kernel_rfl))⟩
 f75:=⟨Tryz.f106.name,by decide,Tryz.func106.trans (congrArg some (by kernel_rfl))⟩
 f76:=⟨Tryz.f108.name,by decide,Tryz.func108.trans (congrArg some (by kernel_rfl))⟩
 f77:=⟨Tryz.f109.name,by decide,Tryz.func109.trans (congrArg some (by kernel_rfl))⟩
 f78:=Tryz.func110.trans (congrArg some (by kernel_rfl))
 f79:=Tryz.func111.trans (congrArg some (by kernel_rfl))
 f88:=⟨Tryz.f149.name,by decide,Tryz.func149.trans (congrArg some (by kernel_rfl))⟩
 f89:=Tryz.func150.trans (congrArg some (by kernel_rfl))
 f90:=Tryz.func151.trans (congrArg some (by kernel_rfl))
 f91:=⟨Tryz.f152.name,by decide,Tryz.func152.trans (congrArg some (by kernel_rfl))⟩
 f92:=⟨Tryz.f153.name,by decide,Tryz.func153.trans (congrArg some (by kernel_rfl))⟩
 f96:=⟨Tryz.f169.name,by decide,Tryz.func169.trans (congrArg some (by kernel_rfl))⟩
 t0:=Tryz.underlying0
 a0:=Tryz.isAgg0
 z0:=Tryz.sizeOf0
 v0:=Tryz.zeroValue0
 t3:=Tryz.underlying3
 a3:=Tryz.isAgg3
 z3:=Tryz.sizeOf3
 v3:=Tryz.zeroValue3
 t4:=Tryz.underlying4
 a4:=Tryz.isAgg4
 z4:=Tryz.sizeOf4
 v4:=Tryz.zeroValue4
 t5:=Tryz.underlying5
 a5:=Tryz.isAgg5
 z5:=Tryz.sizeOf5
 v5:=Tryz.zeroValue5
 t9:=Tryz.underlying9
 a9:=Tryz.isAgg9
 z9:=Tryz.sizeOf9
 v9:=Tryz.zeroValue9
 t22:=Tryz.underlying78
 a22:=Tryz.isAgg78
 z22:=Tryz.sizeOf78
 v22:=Tryz.zeroValue78
 t23:=Tryz.underlying3
 a23:=Tryz.isAgg3
 z23:=Tryz.sizeOf3
 v23:=Tryz.zeroValue3
 t44:=Tryz.underlying98
 a44:=Tryz.isAgg98
 z44:=Tryz.sizeOf98
 v44:=Tryz.zeroValue98
 t51:=Tryz.underlying114
 a51:=Tryz.isAgg114
 z51:=Tryz.sizeOf114
 v51:=Tryz.zeroValue114
 t60:=Tryz.underlying146
 a60:=Tryz.isAgg146
 z60:=Tryz.sizeOf146
 v60:=Tryz.zeroValue146
 t61:=Tryz.underlying147
 a61:=Tryz.isAgg147
 z61:=Tryz.sizeOf147
 v61:=Tryz.zeroValue147
 t67:=Tryz.underlying154
 a67:=Tryz.isAgg154
 z67:=Tryz.sizeOf154
 v67:=Tryz.zeroValue154
 t69:=Tryz.underlying156
 a69:=Tryz.isAgg156
 z69:=Tryz.sizeOf156
 v69:=Tryz.zeroValue156
 t75:=Tryz.underlying188
 a75:=Tryz.isAgg188
 z75:=Tryz.sizeOf188
 v75:=Tryz.zeroValue188
 t79:=Tryz.underlying192
 a79:=Tryz.isAgg192
 z79:=Tryz.sizeOf192
 v79:=Tryz.zeroValue192
 t83:=Tryz.underlying204
 a83:=Tryz.isAgg204
 z83:=Tryz.sizeOf204
 v83:=Tryz.zeroValue204
 t84:=Tryz.underlying205
 a84:=Tryz.isAgg205
 z84:=Tryz.sizeOf205
 v84:=Tryz.zeroValue205}
