import Derived.Test.YthhgkjfgpkbliaaGreatDoorJL
import Derived.Shelf.SlSortCmp.NoneTotal
set_option linter.all false
set_option maxRecDepth 100000
set_option maxHeartbeats 4000000
namespace Go.Proofs.YthhgkjfgpkbliaaGreatDoor
open Go.RowKit
theorem zjk:∀l:List UInt8,Op.bytesLess l l=false
 | []=>rfl
 |a::l=>by rw[Op.bytesLess,zjk l];simp
theorem zgL:∀ {a b c:List UInt8},Op.bytesLess a b=true->Op.bytesLess b c=true->Op.bytesLess a c=true
 |_,[],_,h,_=>by unfold Op.bytesLess at h;simp at h
 |_,_::_,[],_,h=>by unfold Op.bytesLess at h;simp at h
 | [],_::_,_::_,_,_=>rfl
 |a::x,b::y,c::z,h1,h2=>by
  have ih:= @zgL x y z;simp only[Op.bytesLess,Bool.or_eq_true,decide_eq_true_eq,Bool.and_eq_true,beq_iff_eq,UInt8.lt_iff_toNat_lt]at h1 h2⊢;rcases h1 with h1|⟨rfl,h1⟩<;>rcases h2 with h2|⟨rfl,h2⟩
  ·exact .inl (by omega)
  ·exact .inl h1
  ·exact .inl h2
  ·exact .inr ⟨rfl,ih h1 h2⟩
theorem zjl:∀a b:List UInt8,Op.bytesLess a b=true\/a=b\/Op.bytesLess b a=true
 | [],[]=> .inr (.inl rfl)
 | [],_::_=> .inl rfl
 |_::_,[]=> .inr (.inr rfl)
 |a::x,b::y=>by
  have ih:=zjl x y;simp only[Op.bytesLess,Bool.or_eq_true,decide_eq_true_eq,Bool.and_eq_true,beq_iff_eq,List.cons.injEq,UInt8.lt_iff_toNat_lt];rcases Nat.lt_trichotomy a.toNat b.toNat with h|h|h
  ·exact .inl (.inl h)
  ·have h':a=b:=UInt8.toNat_inj.1 h;subst h';rcases ih with ih|ih|ih
   ·exact .inl (.inr ⟨rfl,ih⟩)
   ·exact .inr (.inl ⟨rfl,ih⟩)
   ·exact .inr (.inr (.inr ⟨rfl,ih⟩))
  ·exact .inr (.inr (.inl h))
theorem zeb(a:ByteArray):zbm a a=false:=zjk _
theorem zbx{a b c:ByteArray}(h:zbm a b=true)(k:zbm b c=true):zbm a c=true:=zgL h k
theorem zde(a b:ByteArray):zbm a b=true\/a=b\/zbm b a=true:=by
 rcases zjl a.toList b.toList with h|h|h
 ·exact .inl h
 ·exact .inr (.inl (zak.1 (by unfold zag;simpa using h)))
 ·exact .inr (.inr h)
theorem zcp{a b:ByteArray}(h:zbm a b=true):a≠b:=by
 rintro rfl;rw[zeb]at h;cases h
theorem zhZ{a b:ByteArray}(h:zbm a b=true):zbm b a=false:=by
 rw[<-Bool.not_eq_true];intro k;have:=zbx h k;rw[zeb]at this;cases this
structure GoodParts (l:Parts):Prop where
 asc:l.Pairwise fun a b=>zbm a.1 b.1=true
 pos:∀p∈l,0<p.2
theorem zc3(n:ByteArray)(q:Rat):∀l:Parts,sumQ (za6 l n q)=sumQ l+q
 | []=>by
   unfold za6;split
   ·rename_i h
    have:q=0:=by simpa using h
    subst this;simp[sumQ];grind
   ·simp[sumQ];grind
 |p::r=>by
  have ih:=zc3 n q r;unfold za6;split
  ·rename_i h
   have:q=0:=by simpa using h
   subst this;grind
  ·split
   ·rw[sumQ,ih,sumQ];grind
   ·split
    ·rw[sumQ,sumQ];grind
    ·rw[sumQ,sumQ];grind
theorem zgM{n:ByteArray}{q:Rat}:∀ {l:Parts} {p:ByteArray×Rat},p∈za6 l n q->p.1=n\/p∈l
 | [],p,h=>by
   unfold za6 at h;split at h
   ·exact .inr h
   ·simp at h;exact .inl (by rw[h])
 |x::r,p,h=>by
  unfold za6 at h;split at h
  ·exact .inr h
  ·split at h
   ·rcases List.mem_cons.1 h with rfl|h
    ·exact .inr (by simp)
    ·rcases zgM h with h|h
     ·exact .inl h
     ·exact .inr (by simp[h])
   ·split at h
    ·rcases List.mem_cons.1 h with rfl|h
     ·exact .inl rfl
     ·exact .inr (by simp[h])
    ·rcases List.mem_cons.1 h with rfl|h
     ·exact .inl rfl
     ·exact .inr h
theorem zb6{n:ByteArray}{q:Rat}(hq:0<=q):∀ {l:Parts},GoodParts l->GoodParts (za6 l n q)
 | [],_=>by
   unfold za6;split
   ·exact⟨List.Pairwise.nil,by simp⟩
   ·rename_i h
    have:q≠0:=by simpa using h
    exact⟨by simp,by intro p hp;simp at hp;rw[hp];show 0<q;grind⟩
 |x::r,⟨h1,h2⟩=>by
  have hr:GoodParts r:=⟨(List.pairwise_cons.1 h1).2,fun p hp=>h2 p (by simp[hp])⟩
  have hx:=(List.pairwise_cons.1 h1).1;unfold za6;split
  ·exact⟨h1,h2⟩
  ·rename_i h
   have mO:0<q:=by have:q≠0:=by simpa using h
                   grind
   split
   ·rename_i hl
    have ih:=zb6 (n:=n) hq hr;refine⟨List.pairwise_cons.2 ⟨fun p hp=>?_,ih.asc⟩,fun p hp=>?_⟩
    ·rcases zgM hp with e|hp
     ·rw[e];exact hl
     ·exact hx p hp
    ·rcases List.mem_cons.1 hp with rfl|hp
     ·exact h2 _ (by simp)
     ·exact ih.pos p hp
   ·rename_i hl
    split
    ·rename_i hs
     have e:=zak.1 hs;refine⟨List.pairwise_cons.2 ⟨fun p hp=>by rw[<-e];exact hx p hp,hr.asc⟩,fun p hp=>?_⟩;rcases List.mem_cons.1 hp with rfl|hp
     ·have:=h2 x (by simp);show 0<x.2+q;grind
     ·exact hr.pos p hp
    ·rename_i hs
     have eB:zbm n x.1=true:=by
      rcases zde n x.1 with k|k|k
      ·exact k
      ·exact absurd (zak.2 k.symm) hs
      ·exact absurd k hl
     refine⟨List.pairwise_cons.2 ⟨fun p hp=>?_,h1⟩,fun p hp=>?_⟩
     ·rcases List.mem_cons.1 hp with rfl|hp
      ·exact eB
      ·exact zbx eB (hx p hp)
     ·rcases List.mem_cons.1 hp with rfl|hp
      ·exact mO
      ·exact h2 p hp
theorem zcw{n:ByteArray}:∀ {l:Parts},(∀p∈l,p.1≠n)->zab l n=0/\zaj l n=l
 | [],_=>⟨rfl,rfl⟩
 |x::r,h=>by
  have ih:=zcw (l:=r) fun p hp=>h p (by simp[hp])
  have hx:zag x.1 n=false:=zb5.2 (h x (by simp));unfold zab zaj at*;rw[List.find?_cons,hx,List.filter_cons,hx];exact⟨ih.1,by simpa using ih.2⟩
theorem zcr{n:ByteArray}:∀ {l:Parts},GoodParts l->sumQ (zaj l n)+zab l n=sumQ l
 | [],_=>by simp only[zaj,zab,sumQ,List.filter_nil,List.find?_nil,Option.map_none,Option.getD_none];grind
 |x::r,⟨h1,h2⟩=>by
  have hr:GoodParts r:=⟨(List.pairwise_cons.1 h1).2,fun p hp=>h2 p (by simp[hp])⟩
  have hx:=(List.pairwise_cons.1 h1).1;have ih:=zcr (n:=n) hr;by_cases hs:x.1=n
  ·have hn:=zcw (n:=n) (l:=r) fun p hp e=>by
    have:=zcp (hx p hp);exact this (by rw[e,hs])
   have e1:zaj (x::r) n=zaj r n:=by
    unfold zaj;rw[List.filter_cons,zak.2 hs];rfl
   have e2:zab (x::r) n=x.2:=by
    unfold zab;rw[List.find?_cons,zak.2 hs];rfl
   rw[e1,e2,hn.2,sumQ];grind
  ·have hf:zag x.1 n=false:=zb5.2 hs;have e1:zaj (x::r) n=x::zaj r n:=by
    unfold zaj;rw[List.filter_cons,hf];rfl
   have e2:zab (x::r) n=zab r n:=by
    unfold zab;rw[List.find?_cons,hf]
   rw[e1,e2,sumQ,sumQ,<-ih];grind
theorem zbl{n:ByteArray}{l:Parts}(h:GoodParts l):GoodParts (zaj l n):=
 ⟨h.asc.sublist List.filter_sublist,fun p hp=>h.pos p ((List.mem_filter.1 hp).1)⟩
theorem zcC:∀ {l:Parts},(∀p∈l,0<=p.2)->0<=sumQ l
 | [],_=>by simp[sumQ]
 |x::r,h=>by
  have ih:=zcC (l:=r) fun p hp=>h p (by simp[hp])
  have hx:=h x (by simp);rw[sumQ];grind
theorem zex:∀ {l:Parts},(∀p∈l,0<=p.2)->∀p∈l,p.2<=sumQ l
 |x::r,h,p,hp=>by
  have hr:=zcC (l:=r) fun p hp=>h p (by simp[hp])
  have hx:=h x (by simp);rw[sumQ];rcases List.mem_cons.1 hp with rfl|hp
  ·grind
  ·have:=zex (l:=r) (fun p hp=>h p (by simp[hp])) p hp;grind
mutual
def okT:Tree->Bool
 | .leaf _=>true
 | .node l=>!l.isEmpty&&okL l
def okL:List Tree->Bool
 | []=>true
 |x::l=>okT x&&okL l
end
theorem okL_iff:∀ {l:List Tree},okL l=true↔ ∀x∈l,okT x=true
 | []=>by simp[okL]
 |x::l=>by rw[okL,Bool.and_eq_true,okL_iff];simp
theorem zlw(s:St)(stems:Bool)(frm:ByteArray):∀(f:Nat) (n:ByteArray),okL (zbF s stems frm f n)=true
 |0,_=>rfl
 |f+1,n=>by
  rw[okL_iff];intro x hx;rw[zbF,List.mem_filterMap]at hx;obtain⟨c,_,hc⟩:=hx;split at hc
  ·cases hc;rfl
  ·split at hc
   ·rename_i hs
    cases hc;rw[Bool.and_eq_true]at hs;rw[okT,hs.2,zlw s stems frm f c];rfl
   ·cases hc
theorem ratN{n:Nat}(h:n≠0):(n:Rat)≠0:=by
 intro e;apply h;have:((n:Int):Rat)=((0:Int):Rat):=by simpa using e
 have:=Rat.intCast_inj.1 this;omega
theorem zcn{a b:Rat}(h:0<=a)(hb:0<=b):0<=a/b:=by
 rw[Rat.div_def];by_cases h0:b=0
 ·subst h0;rw[Rat.inv_zero];grind
 ·have:0<b⁻¹:=Rat.inv_pos.2 (by grind);exact Rat.mul_nonneg h (by grind)
mutual
theorem zfD{each:Rat}:∀ {l:List Tree} {out o:Parts},okL l=true->zcq each l out=some o->sumQ o=sumQ out+each*(l.length:Rat)
 | [],out,o,_,h=>by
   rw[zcq]at h;cases h;simp only[List.length_nil];have:((0:Nat):Rat)=0:=rfl;grind
 |x::l,out,o,hk,h=>by
  rw[okL,Bool.and_eq_true]at hk;rw[zcq,Option.bind_eq_some_iff]at h;obtain⟨o1,h1,h2⟩:=h;have e1:=tree_sum hk.1 h1;have e2:=zfD hk.2 h2;rw[e2,e1,List.length_cons];have:((l.length+1:Nat):Rat)=(l.length:Rat)+1:=by simp
  grind
theorem tree_sum{each:Rat}:∀ {x:Tree} {out o:Parts},okT x=true->zgm each x out=some o->sumQ o=sumQ out+each
 | .leaf n,out,o,_,h=>by
   rw[zgm]at h;split at h
   ·cases h
   ·cases h;exact zc3 n each out
 | .node l,out,o,hk,h=>by
   rw[okT,Bool.and_eq_true]at hk;rw[zgm]at h;split at h
   ·cases h
   ·have e:=zfD hk.2 h;rw[e];have h0:l.length≠0:=by
     intro e0;have:=List.eq_nil_of_length_eq_zero e0;rw[this]at hk;exact absurd hk.1 (by decide)
    have:=ratN h0;grind
end
mutual
theorem zeG{each:Rat}(he:0<=each):∀ {l:List Tree} {out o:Parts},GoodParts out->zaC out=false->zcq each l out=some o->GoodParts o/\zaC o=false
 | [],out,o,hg,hl,h=>by
   rw[zcq]at h;cases h;exact⟨hg,hl⟩
 |x::l,out,o,hg,hl,h=>by
  rw[zcq,Option.bind_eq_some_iff]at h;obtain⟨o1,h1,h2⟩:=h;have e1:=zjm he hg hl h1;exact zeG he e1.1 e1.2 h2
theorem zjm{each:Rat}(he:0<=each):∀ {x:Tree} {out o:Parts},GoodParts out->zaC out=false->zgm each x out=some o->GoodParts o/\zaC o=false
 | .leaf n,out,o,hg,hl,h=>by
   rw[zgm]at h;split at h
   ·cases h
   ·rename_i hb
    cases h;exact⟨zb6 he hg,by simpa using hb⟩
 | .node l,out,o,hg,hl,h=>by
   rw[zgm]at h;split at h
   ·cases h
   ·exact zeG (zcn he Rat.natCast_nonneg) hg hl h
end
def IsN(n:Nat)(q:Rat):Prop:= ∃k:Int,q*(n:Rat)=(k:Rat)
theorem isN_add{n:Nat}{p q:Rat}(h:IsN n p)(k:IsN n q):IsN n (p+q):=by
 obtain⟨a,ha⟩:=h;obtain⟨b,hb⟩:=k;refine⟨a+b,?_⟩;rw[Rat.intCast_add,<-ha,<-hb];grind
theorem zkw{n:Nat}{p q:Rat}(h:IsN n p)(k:IsN n q):IsN n (p-q):=by
 obtain⟨a,ha⟩:=h;obtain⟨b,hb⟩:=k;refine⟨a-b,?_⟩;rw[Rat.intCast_sub,<-ha,<-hb];grind
theorem zkx{n m:Nat}{p q:Rat}(h:IsN n p)(k:IsN m q):IsN (n*m) (p*q):=by
 obtain⟨a,ha⟩:=h;obtain⟨b,hb⟩:=k;refine⟨a*b,?_⟩;rw[Rat.intCast_mul,<-ha,<-hb,Rat.natCast_mul];grind
theorem isN_up{n m:Nat}{q:Rat}(h:IsN n q):IsN (n*m) q:=by
 obtain⟨a,ha⟩:=h;refine⟨a*m,?_⟩;rw[Rat.intCast_mul,<-ha,Rat.natCast_mul,Rat.intCast_natCast];grind
theorem zi4(n:Nat):IsN n 1:=⟨n,by rw[Rat.intCast_natCast];grind⟩
theorem isN_zero(n:Nat):IsN n 0:=⟨0,by grind⟩
theorem isN_den{n:Nat}{q:Rat}(hn:0<n)(h:IsN n q):(q.den:Int)<=n:=by
 obtain⟨a,ha⟩:=h;have h0:=ratN (n:=n) (by omega);have e:q=Rat.divInt a n:=by
  rw[Rat.divInt_eq_div,Rat.intCast_natCast,<-ha];grind
 rw[e,zd0 (by omega)];exact Int.ediv_le_self _ (by omega)
theorem zjn{num den:Int}(h:za2 16 num den=true):IsN 720720 (Rat.divInt num den):=by
 have hs:=zbo h;unfold za2 at h;simp only[Bool.and_eq_true,decide_eq_true_eq]at h;obtain⟨⟨⟨h1,h2⟩,_⟩,_⟩:=h;obtain⟨m,hm⟩:∃m:Int,720720=den*m:=by
  have:den=1\/den=2\/den=3\/den=4\/den=5\/den=6\/den=7\/den=8\/den=9\/den=10\/den=11\/den=12\/den=13\/den=14\/den=15\/den=16:=by omega
  rcases this with rfl|rfl|rfl|rfl|rfl|rfl|rfl|rfl|rfl|rfl|rfl|rfl|rfl|rfl|rfl|rfl
  all_goals first|exact⟨720720,rfl⟩|exact⟨360360,rfl⟩|exact⟨240240,rfl⟩|exact⟨180180,rfl⟩|exact⟨144144,rfl⟩|exact⟨120120,rfl⟩|exact⟨102960,rfl⟩|exact⟨90090,rfl⟩|exact⟨80080,rfl⟩|exact⟨72072,rfl⟩|exact⟨65520,rfl⟩|exact⟨60060,rfl⟩|exact⟨55440,rfl⟩|exact⟨51480,rfl⟩|exact⟨48048,rfl⟩|exact⟨45045,rfl⟩
 refine⟨num*m,?_⟩;have hd:(den:Rat)≠0:=ratI (by omega);have e:((720720:Nat):Rat)=(den:Rat)*(m:Rat):=by
  rw[<-Rat.intCast_mul,<-hm];rfl
 rw[Rat.divInt_eq_div,e,Rat.intCast_mul];grind
theorem zdf{n:Nat}{nm:ByteArray}{q:Rat}(hq:IsN n q):∀ {l:Parts},(∀p∈l,IsN n p.2)->∀p∈za6 l nm q,IsN n p.2
 | [],_,p,hp=>by
   unfold za6 at hp;split at hp
   ·cases hp
   ·simp at hp;rw[hp];exact hq
 |x::r,h,p,hp=>by
  have hr:=zdf (nm:=nm) hq (l:=r) fun p hp=>h p (by simp[hp])
  unfold za6 at hp;split at hp
  ·exact h p hp
  ·split at hp
   ·rcases List.mem_cons.1 hp with rfl|hp
    ·exact h _ (by simp)
    ·exact hr p hp
   ·split at hp
    ·rcases List.mem_cons.1 hp with rfl|hp
     ·exact isN_add (h x (by simp)) hq
     ·exact h p (by simp[hp])
    ·rcases List.mem_cons.1 hp with rfl|hp
     ·exact hq
     ·exact h p hp
theorem zcI{n:Nat}(h0:0<n)(h1:n<=1000000000){l:Parts}(h:∀p∈l,IsN n p.2):zaC l=false:=by
 unfold zaC;rw[List.any_eq_false];intro p hp;have:=isN_den h0 (h p hp);unfold bigQ;simp;omega
structure WillOk (l:Parts):Prop where
 pos:∀p∈l,0<p.2
 isN:∀p∈l,IsN 720720 p.2
 le:sumQ l<=1
theorem zgN{s:St}{frm:ByteArray}:∀ {l out:Parts} {rest:Rat},(∀p∈l,0<p.2)->(∀p∈l,IsN 720720 p.2)->sumQ l<=rest->GoodParts out->(∀p∈out,IsN 720720 p.2)->IsN 720720 rest->
 GoodParts (zc2 s frm l out rest).1/\(∀p∈(zc2 s frm l out rest).1,IsN 720720 p.2)/\IsN 720720 (zc2 s frm l out rest).2/\0<=(zc2 s frm l out rest).2/\sumQ (zc2 s frm l out rest).1+(zc2 s frm l out rest).2=sumQ out+rest
 | [],out,rest,_,_,hs,hg,hn,hr=>by
   rw[zc2];exact⟨hg,hn,hr,by simpa[sumQ]using hs,rfl⟩
 |p::l,out,rest,hp,hN,hs,hg,hn,hr=>by
  have eD:=hp p (by simp);have hl:=fun q (hq:q∈l)=>hp q (by simp[hq])
  have pF:=fun q (hq:q∈l)=>hN q (by simp[hq])
  rw[sumQ]at hs;rw[zc2];split
  ·have ih:=zgN (s:=s) (frm:=frm) hl pF (rest:=rest-p.2) (out:=za6 out p.1 p.2) (by grind) (zb6 (by grind) hg) (zdf (hN p (by simp)) hn) (zkw hr (hN p (by simp)));refine⟨ih.1,ih.2.1,ih.2.2.1,ih.2.2.2.1,?_⟩;rw[ih.2.2.2.2,zc3];grind
  ·exact zgN (s:=s) (frm:=frm) hl pF (by grind) hg hn hr
theorem zcU:GoodParts []:=⟨List.Pairwise.nil,by simp⟩
theorem zeH{s:St}{law:Law}{n:ByteArray}{o:Parts}(hw:WillOk (zbp s n))(hl:za2 16 law.num law.den=true)(h:zdZ s law n=some o):GoodParts o/\sumQ o=1/\zaC o=false:=by
 unfold zdZ at h;have hg:=zgN (s:=s) (frm:=n) (out:=[]) (rest:=1) hw.pos hw.isN hw.le zcU (by simp) (zi4 _);generalize hq:zc2 s n (zbp s n) [] 1=q at*;obtain⟨out,rest⟩:=q;dsimp only at h hg;obtain⟨g1,g2,g3,g4,g5⟩:=hg;rw[sumQ]at g5;split at h
 ·rename_i h0
  cases h;have:rest=0:=by simpa using h0
  exact⟨g1,by grind,zcI (by decide) (by decide) g2⟩
 rename_i h0
 have kP:rest≠0:=by simpa using h0
 generalize cf:(if zgl s (zbi s n) n=true then zbi s n else⟨#[]⟩)=sp at*;split at h
 ·cases h;refine⟨zb6 g4 g1,by rw[zc3];grind,zcI (by decide) (by decide) (zdf g3 g2)⟩
 rename_i ag
 have af:(zbF s law.stems n (zaX s) n).length≠0:=by
  intro e;rw[List.eq_nil_of_length_eq_zero e]at ag;exact ag rfl
 have cr:=zlw s law.stems n (zaX s) n;generalize zbF s law.stems n (zaX s) n=ts at*;obtain⟨_,_,l1,l2⟩:=zbo hl;have hd:za2 16 law.num law.den=true:=hl;have hN:IsN 720720 (Rat.divInt law.num law.den):=zjn hl;have key:∃own out2,own=(if noB sp=true then 0 else rest*Rat.divInt law.num law.den)/\out2=(if noB sp=true then out else za6 out sp own)/\0<=own/\own<=rest/\GoodParts out2/\sumQ out2=sumQ out+own/\zaC out2=false:=by
  by_cases hs:noB sp=true
  ·exact⟨0,out,by rw[if_pos hs],by rw[if_pos hs],by grind,g4,g1,by grind,zcI (by decide) (by decide) g2⟩
  ·have h1:0<=rest*Rat.divInt law.num law.den:=Rat.mul_nonneg g4 l1;have h2:rest*Rat.divInt law.num law.den<=rest:=by
    have:=Rat.mul_le_mul_of_nonneg_left l2 g4;grind
   refine⟨rest*Rat.divInt law.num law.den,za6 out sp (rest*Rat.divInt law.num law.den),by rw[if_neg hs],by rw[if_neg hs],h1,h2,zb6 h1 g1,zc3 _ _ _,?_⟩;have mx:∃d:Nat,0<d/\d<=16/\IsN d (Rat.divInt law.num law.den):=by
    unfold za2 at hd;simp only[Bool.and_eq_true,decide_eq_true_eq]at hd;refine⟨law.den.toNat,by omega,by omega,law.num,?_⟩;have hz:(law.den:Rat)≠0:=ratI (by omega);have e:((law.den.toNat:Nat):Rat)=(law.den:Rat):=by rw[<-Rat.intCast_natCast,Int.toNat_of_nonneg (by omega)]
    rw[Rat.divInt_eq_div,e];grind
   obtain⟨d,d0,d1,C0⟩:=mx;exact zcI (n:=720720*d) (by omega) (by omega) (zdf (zkx g3 C0) fun p hp=>isN_up (g2 p hp))
 obtain⟨own,out2,ho,nV,k0,k1,k2,k3,k4⟩:=key;rw[<-ho,<-nV]at h;split at h
 ·rename_i hz
  cases h;have:rest-own=0:=by simpa using hz
  exact⟨k2,by grind,k4⟩
 ·split at h
  ·cases h
  ·have fF:0<=(rest-own)/(ts.length:Rat):=zcn (by grind) Rat.natCast_nonneg;obtain⟨m1,m2⟩:=zeG fF k2 k4 h;refine⟨m1,?_,m2⟩;rw[zfD cr h,k3];have:=ratN af;grind
theorem zgO{own:Rat}(h0:0<=own):∀ {l out o:Parts},(∀p∈l,0<=p.2)->GoodParts out->zaC out=false->zbI own l out=some o->GoodParts o/\zaC o=false/\sumQ o=sumQ out+own*sumQ l
 | [],out,o,_,hg,hl,h=>by
   rw[zbI]at h;cases h;exact⟨hg,hl,by rw[sumQ];grind⟩
 |p::l,out,o,hp,hg,hl,h=>by
  rw[zbI]at h;split at h
  ·cases h
  split at h
  ·cases h
  ·rename_i hb
   have hm:0<=own*p.2:=Rat.mul_nonneg h0 (hp p (by simp));obtain⟨h1,h2,h3⟩:=zgO h0 (fun q hq=>hp q (by simp[hq])) (zb6 hm hg) (by simpa using hb) h;refine⟨h1,h2,?_⟩;rw[h3,zc3,sumQ];grind
structure GoodG (g:Grave):Prop where
 good:GoodParts g.holders
 small:zaC g.holders=false
 one:g.holders=[]\/sumQ g.holders=1
theorem zbg{l:Parts}(h:GoodParts l)(n:ByteArray):0<=zab l n:=by
 unfold zab;cases hf:l.find? (fun p=>zag p.1 n)with
 |none=>exact Rat.le_refl
 |some p=>
  have:=h.pos p (List.mem_of_find?_eq_some hf);show 0<=p.2;grind
theorem zcD{l:Parts}{n:ByteArray}(h:zab l n≠0):l≠[]:=by
 rintro rfl;exact h rfl
theorem large_sub{l m:Parts}(h:∀p∈m,p∈l)(hl:zaC l=false):zaC m=false:=by
 unfold zaC at*;rw[List.any_eq_false]at*;exact fun p hp=>hl p (h p hp)
theorem zfc{l:Parts}(n:ByteArray)(h:zaC l=false):zaC (zaj l n)=false:=large_sub (fun p hp=>(List.mem_filter.1 hp).1) h
theorem zgP{n:ByteArray}{q:Rat}(hq:bigQ q=false):∀ {l:Parts},(∀p∈l,p.1≠n)->zaC l=false->zaC (za6 l n q)=false
 | [],_,_=>by
   unfold za6;split
   ·rfl
   ·simp[zaC,hq]
 |x::r,hn,hl=>by
  have sX:bigQ x.2=false/\zaC r=false:=by simpa[zaC]using hl
  have ih:=zgP hq (l:=r) (fun p hp=>hn p (by simp[hp])) sX.2;unfold za6;split
  ·exact hl
  ·split
   ·unfold zaC at ih⊢;rw[List.any_cons,sX.1,ih];rfl
   ·split
    ·rename_i hs
     exact absurd (zak.1 hs) (hn x (by simp))
    ·unfold zaC at hl⊢;rw[List.any_cons,hq,hl];rfl
theorem zia{l:Parts}{n:ByteArray}:∀p∈zaj l n,p.1≠n:=by
 intro p hp;unfold zaj at hp;have:=(List.mem_filter.1 hp).2;exact zb5.1 (by simpa using this)
theorem zi5{g:Grave}{frm:ByteArray}{l out:Parts}(hg:GoodG g)(hs:zab g.holders frm≠0)(hp:∀p∈l,0<p.2)(hl:sumQ l<=1)(hk:bigQ (zab g.holders frm*(1-sumQ l))=false)
 (h:zbI (zab g.holders frm) l (za6 (zaj g.holders frm) frm (zab g.holders frm*(1-sumQ l)))=some out):GoodG {g with holders:=out}:=by
 have h0:=zbg hg.good frm;have ix:0<=zab g.holders frm*(1-sumQ l):=Rat.mul_nonneg h0 (by grind);obtain⟨h1,h2,h3⟩:=zgO h0 (fun p CQ=>by have:=hp p CQ;grind) (zb6 ix (zbl hg.good)) (zgP hk zia (zfc frm hg.small)) h;refine⟨h1,h2,.inr ?_⟩;have hw:=zcr (n:=frm) hg.good;rcases hg.one with e|e
 ·exact absurd e (zcD hs)
 ·show sumQ out=1;rw[h3,zc3];grind
theorem sum_div(d:Rat):∀l:Parts,sumQ (l.map fun p=>(p.1,p.2/d))=sumQ l/d
 | []=>by simp only[List.map_nil,sumQ];rw[Rat.div_def];grind
 |p::l=>by
  rw[List.map_cons,sumQ,sumQ,sum_div d l];rw[Rat.div_def,Rat.div_def,Rat.div_def];grind
theorem sum_zero{l:Parts}(h:∀p∈l,0<p.2)(hs:sumQ l=0):l=[]:=by
 cases l with
 |nil=>rfl
 |cons x r=>
  have hx:=h x (by simp);have:=zcC (l:=r) fun p hp=>by have:=h p (by simp[hp]);grind
  rw[sumQ]at hs;grind
theorem zib{l:Parts}(h:∀p∈l,0<p.2):0<=sumQ l:=zcC fun p hp=>by have:=h p hp;grind
theorem zhG{g:Grave}{frm:ByteArray}(hg:GoodG g)(hs:zab g.holders frm≠0)(hl:zaC ((zaj g.holders frm).map fun p=>(p.1,p.2/(1-zab g.holders frm)))=false):
 GoodG {g with holders:=(zaj g.holders frm).map fun p=>(p.1,p.2/(1-zab g.holders frm))}:=by
 have hw:=zcr (n:=frm) hg.good;have h1:sumQ g.holders=1:=by
  rcases hg.one with e|e
  ·exact absurd e (zcD hs)
  ·exact e
 have mC:=zbl (n:=frm) hg.good;have fF:=zib mC.pos;by_cases hz:1-zab g.holders frm=0
 ·have he:zaj g.holders frm=[]:=sum_zero mC.pos (by grind);have e2:((zaj g.holders frm).map fun p=>(p.1,p.2/(1-zab g.holders frm)))=[]:=by rw[he];rfl
  rw[e2];exact⟨zcU,rfl,.inl rfl⟩
 ·have hd:0<1-zab g.holders frm:=by grind
  refine⟨⟨List.pairwise_map.2 mC.asc,fun p hp=>?_⟩,hl,.inr ?_⟩
  ·obtain⟨q,hq,rfl⟩:=List.mem_map.1 hp;have:=mC.pos q hq;show 0<q.2/(1-zab g.holders frm);rw[Rat.div_def];exact Rat.mul_pos this (Rat.inv_pos.2 hd)
  ·show sumQ _=1;rw[sum_div,show sumQ (zaj g.holders frm)=1-zab g.holders frm by grind,Rat.div_def];exact Rat.mul_inv_cancel _ hz
theorem zjo{g:Grave}{n:ByteArray}{aI out:Parts}(hg:GoodG g)(hs:zab g.holders n≠0)(hh:GoodParts aI)(h1:sumQ aI=1)(h:zbI (zab g.holders n) aI (zaj g.holders n)=some out):GoodG {g with holders:=out,died:=g.died++[n]}:=by
 obtain⟨k1,k2,k3⟩:=zgO (zbg hg.good n) (fun p hp=>by have:=hh.pos p hp;grind) (zbl hg.good) (zfc n hg.small) h;refine⟨k1,k2,.inr ?_⟩;have hw:=zcr (n:=n) hg.good;rcases hg.one with e|e
 ·exact absurd e (zcD hs)
 ·show sumQ out=1;rw[k3,h1];grind
theorem zfd{s:ByteArray}(h:zaR s=true):noB s=false:=by
 unfold zaR at h;simp only[Bool.and_eq_true,Bool.not_eq_true']at h;exact h.2.1
structure OkD (d:Deed):Prop where
 kind:0<=d.kind/\d.kind<=8
 day:0<=d.day/\d.day<=200000
 years:0<=d.years/\d.years<=99
 cls:0<=d.cls/\d.cls<=4
 len:d.to.length<=8
 names:∀p∈d.to,zaR p.name=true
 place:(d.kind=0\/d.kind=1\/d.kind=2\/d.kind=3)->zaR d.place=true
 frm:¬(d.kind=0\/d.kind=3)->zaR d.frm=true
 grantor:(d.kind=0\/d.kind=3)->noB d.frm=true
 parts:(d.kind=0\/d.kind=1\/d.kind=4)->d.to≠[]/\zc1 true (d.kind==0) d.frm d.to=true
 one:(d.kind=5\/d.kind=6\/d.kind=7)->d.to.length=1/\zc1 false false d.frm d.to=true
 none:(d.kind=2\/d.kind=3\/d.kind=8)->d.to=[]
theorem zgs{n lo hi:Int}:inR n lo hi=true↔lo<=n/\n<=hi:=by unfold inR;simp
theorem zdv{d:Deed}(h:za8 d=0):OkD d:=by
 unfold za8 at h;split at h
 ·simp at h
 rename_i h1
 split at h
 ·simp at h
 rename_i h2
 split at h
 ·simp at h
 rename_i h3
 split at h
 ·simp at h
 rename_i h4
 split at h
 ·simp at h
 rename_i h5
 simp only[Bool.not_eq_true',Bool.not_eq_false,zgs]at h1;simp only[Bool.or_eq_true,Bool.not_eq_true',not_or,Bool.not_eq_false,zbu,zgs]at h2;simp only[Bool.or_eq_true,Bool.not_eq_true',not_or,Bool.not_eq_false,List.all_eq_true,zbw]at h4;simp only[Bool.not_eq_true',Bool.not_eq_false]at h5;simp only[decide_eq_true_eq,Nat.not_lt]at h3;unfold zkt at h5;obtain⟨⟨hd,hc⟩,hy⟩:=h2;obtain⟨⟨hp,hf⟩,hn⟩:=h4;have dR:d.kind=0\/d.kind=1\/d.kind=2\/d.kind=3\/d.kind=4\/d.kind=5\/d.kind=6\/d.kind=7\/d.kind=8:=by omega
 refine⟨h1,hd,hy,hc,h3,hn,?_,?_,?_,?_,?_,?_⟩;all_goals rcases dR with k|k|k|k|k|k|k|k|k<;>simp_all
theorem zgQ{s:St}{a b x:ByteArray}:zaf {s with children:=s.children++[(a,b)]} x=zaf s x++(if zag a x then[b]else[]):=by
 unfold zaf;rw[List.filter_append,List.map_append];congr 1
 by_cases h:zag a x=true
 ·rw[if_pos h,List.filter_cons,if_pos h];rfl
 ·rw[if_neg h,List.filter_cons,if_neg h];rfl
theorem zky{s:St}{a b:ByteArray}(h:∀x,¬Desc s x x)(hn:¬Desc s b a)(ag:a≠b):∀x,¬Desc {s with children:=s.children++[(a,b)]} x x:=by
 have key:∀x y,Desc {s with children:=s.children++[(a,b)]} x y->Desc s x y\/((x=a\/Desc s x a)/\(y=b\/Desc s b y)):=by
  intro x y o9;unfold Desc at o9;induction o9 with
  |single hc=>
   rw[zgQ]at hc;rcases List.mem_append.1 hc with hc|hc
   ·exact .inl (zew hc)
   ·split at hc
    ·rename_i hs
     simp only[List.mem_singleton]at hc;exact .inr ⟨.inl (zak.1 hs).symm,.inl hc⟩
    ·cases hc
  |tail _ hc ih=>
   rw[zgQ]at hc;rcases List.mem_append.1 hc with hc|hc
   ·rcases ih with ih|⟨i1,i2⟩
    ·exact .inl (zgI ih hc)
    ·refine .inr ⟨i1,.inr ?_⟩;rcases i2 with i2|i2
     ·rw[i2]at hc;exact zew hc
     ·exact zgI i2 hc
   ·split at hc
    ·rename_i hs
     simp only[List.mem_singleton]at hc;have e:=zak.1 hs;rcases ih with ih|⟨i1,i2⟩
     ·exact .inr ⟨.inr (by rw[e];exact ih),.inl hc⟩
     ·exfalso
      rcases i2 with i2|i2
      ·exact ag (e.trans i2)
      ·exact hn (by rw[e];exact i2)
    ·cases hc
 intro x hx;rcases key x x hx with k|⟨k1,k2⟩
 ·exact h x k
 ·rcases k1 with rfl|k1<;>rcases k2 with k2|k2
  ·exact ag k2
  ·exact hn k2
  ·rw[k2]at k1;exact hn k1
  ·exact hn (zfB k2 k1)
structure GoodSt (s:St) (last:Int):Prop where
 graves:∀g∈s.graves,GoodG g
 force:∀(i j:Nat) (gi gj:Grave),s.graves[i]?=some gi->s.graves[j]?=some gj->gi.place=gj.place->∀day,last<=day->zaE gi day=true->zaE gj day=true->i=j
 wills:∀n,WillOk (zbp s n)
 acyc:∀a,¬Desc s a a
 kids:∀c∈s.children,noB c.1=false/\noB c.2=false
 marr:∀m∈s.marriages,m.1≠m.2/\noB m.1=false/\noB m.2=false
 willNames:∀w∈s.wills,∀p∈w.2,noB p.1=false
 dead:∀n∈s.dead,noB n=false
theorem zec(last:Int):GoodSt zbf last:=by
 refine⟨by simp[zbf],by simp[zbf],fun n=>⟨by simp[zbf,zbp],by simp[zbf,zbp],by simp only[zbf,zbp,List.reverse_nil,List.find?_nil,Option.map_none,Option.getD_none,sumQ];decide⟩,fun a=>zgJ rfl,by simp[zbf],by simp[zbf],by simp[zbf],by simp[zbf]⟩
theorem zfE{g:Grave}{d e:Int}(h:d<=e)(hf:zaE g e=true):zaE g d=true:=by
 unfold zaE at*;simp only[Bool.and_eq_true,Bool.or_eq_true,decide_eq_true_eq]at*;refine⟨hf.1,?_⟩;rcases hf.2 with k|k
 ·exact .inl k
 ·exact .inr (by omega)
theorem zbv{s:St}{place:ByteArray}{day:Int}{i:Nat}(h:zaH s place day=some i):∃g,s.graves[i]?=some g/\g.place=place/\zaE g day=true:=by
 unfold zaH at h;rw[List.findIdx?_eq_some_iff_getElem]at h;obtain⟨hi,h1,_⟩:=h;rw[Bool.and_eq_true,zak]at h1;exact⟨_,List.getElem?_eq_getElem hi,h1.1,h1.2⟩
theorem zgb{s:St}{place:ByteArray}{day:Int}(h:zaH s place day=none):∀g∈s.graves,g.place=place->zaE g day=false:=by
 unfold zaH at h;rw[List.findIdx?_eq_none_iff]at h;intro g hg hp;have:=h g hg;rw[zak.2 hp,Bool.true_and]at this;exact this
open Go.Shelf
def zjp:Go.Shelf.Ren:=⟨fun|6=>207|15=>106|14=>233|28=>164|29=>165|20=>175|21=>248|22=>249|23=>250|24=>251|25=>252|26=>253|27=>254|46=>259|47=>212|48=>213|49=>260|50=>261|57=>262|n=>n,fun|22=>26|24=>59|25=>141|3=>3|39=>162|0=>0|53=>206|55=>208|4=>4|46=>199|45=>198|50=>148|5=>5|9=>9|66=>241|70=>245|76=>262|77=>263|n=>n,fun|n=>n⟩
theorem zlx:Go.Proofs.SlLaysF0.n6 Tryz.prog zjp:= {
 mixed:=by kernel_rfl
 f6:=⟨Tryz.f207.name,by decide,Tryz.func207.trans (congrArg some (by kernel_rfl))⟩
 f14:=⟨Tryz.f233.name,by decide,Tryz.func233.trans (congrArg some (by kernel_rfl))⟩
 f15:=Tryz.func106.trans (congrArg some (by kernel_rfl))
 f20:=⟨Tryz.f175.name,by decide,Tryz.func175.trans (congrArg some (by kernel_rfl))⟩
 f21:=⟨Tryz.f248.name,by decide,Tryz.func248.trans (congrArg some (by kernel_rfl))⟩
 f22:=⟨Tryz.f249.name,by decide,Tryz.func249.trans (congrArg some (by kernel_rfl))⟩
 f23:=⟨Tryz.f250.name,by decide,Tryz.func250.trans (congrArg some (by kernel_rfl))⟩
 f24:=⟨Tryz.f251.name,by decide,Tryz.func251.trans (congrArg some (by kernel_rfl))⟩
 f25:=⟨Tryz.f252.name,by decide,Tryz.func252.trans (congrArg some (by kernel_rfl))⟩
 f26:=⟨Tryz.f253.name,by decide,Tryz.func253.trans (congrArg some (by kernel_rfl))⟩
 f27:=⟨Tryz.f254.name,by decide,Tryz.func254.trans (congrArg some (by kernel_rfl))⟩
 f28:=Tryz.func164.trans (congrArg some (by kernel_rfl))
 f29:=Tryz.func165.trans (congrArg some (by kernel_rfl))
 f46:=⟨Tryz.f259.name,by decide,Tryz.func259.trans (congrArg some (by kernel_rfl))⟩
 f47:=Tryz.func212.trans (congrArg some (by kernel_rfl))
 f48:=Tryz.func213.trans (congrArg some (by kernel_rfl))
 f49:=⟨Tryz.f260.name,by decide,Tryz.func260.trans (congrArg some (by kernel_rfl))⟩
 f50:=⟨Tryz.f261.name,by decide,Tryz.func261.trans (congrArg some (by kernel_rfl))⟩
 f57:=⟨Tryz.f262.name,by decide,Tryz.func262.trans (congrArg some (by kernel_rfl))⟩
 t0:=Tryz.underlying0
 a0:=Tryz.isAgg0
 z0:=Tryz.sizeOf0
 v0:=Tryz.zeroValue0
 t3:=Tryz.underlying3
 a3:=Tryz.isAgg3
 z3:=Tryz.sizeOf3
 v3:=Tryz.zeroValue3
 t4:=Tryz.underlying4
 a4:=Tryz.isAgg4
 z4:=Tryz.sizeOf4
 v4:=Tryz.zeroValue4
 t5:=Tryz.underlying5
 a5:=Tryz.isAgg5
 z5:=Tryz.sizeOf5
 v5:=Tryz.zeroValue5
 t9:=Tryz.underlying9
 a9:=Tryz.isAgg9
 z9:=Tryz.sizeOf9
 v9:=Tryz.zeroValue9
 t22:=Tryz.underlying26
 a22:=Tryz.isAgg26
 z22:=Tryz.sizeOf26
 v22:=Tryz.zeroValue26
 t25:=Tryz.underlying141
 a25:=Tryz.isAgg141
 z25:=Tryz.sizeOf141
 v25:=Tryz.zeroValue141
 t39:=Tryz.underlying162
 a39:=Tryz.isAgg162
 z39:=Tryz.sizeOf162
 v39:=Tryz.zeroValue162
 t45:=Tryz.underlying198
 a45:=Tryz.isAgg198
 z45:=Tryz.sizeOf198
 v45:=Tryz.zeroValue198
 t46:=Tryz.underlying199
 a46:=Tryz.isAgg199
 z46:=Tryz.sizeOf199
 v46:=Tryz.zeroValue199
 t50:=Tryz.underlying148
 a50:=Tryz.isAgg148
 z50:=Tryz.sizeOf148
 v50:=Tryz.zeroValue148
 t53:=Tryz.underlying206
 a53:=Tryz.isAgg206
 z53:=Tryz.sizeOf206
 v53:=Tryz.zeroValue206
 t55:=Tryz.underlying208
 a55:=Tryz.isAgg208
 z55:=Tryz.sizeOf208
 v55:=Tryz.zeroValue208
 t66:=Tryz.underlying241
 a66:=Tryz.isAgg241
 z66:=Tryz.sizeOf241
 v66:=Tryz.zeroValue241
 t70:=Tryz.underlying245
 a70:=Tryz.isAgg245
 z70:=Tryz.sizeOf245
 v70:=Tryz.zeroValue245
 t76:=Tryz.underlying262
 a76:=Tryz.isAgg262
 z76:=Tryz.sizeOf262
 v76:=Tryz.zeroValue262
 t77:=Tryz.underlying263
 a77:=Tryz.isAgg263
 z77:=Tryz.sizeOf263
 v77:=Tryz.zeroValue263}
