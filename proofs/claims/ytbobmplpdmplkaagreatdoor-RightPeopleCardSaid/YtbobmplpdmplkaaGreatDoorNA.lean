import Derived.Test.YtbobmplpdmplkaaGreatDoorJS
set_option linter.all false
set_option maxRecDepth 100000
set_option maxHeartbeats 4000000
namespace Go.Proofs.YtbobmplpdmplkaaGreatDoor
open Go.RowKit
def IsN(n:Nat)(q:Rat):Prop:= ∃k:Int,q*(n:Rat)=(k:Rat)
theorem zkb{n:Nat}{p q:Rat}(h:IsN n p)(k:IsN n q):IsN n (p+q):=by
 obtain⟨a,ha⟩:=h;obtain⟨b,hb⟩:=k;refine⟨a+b,?_⟩;rw[Rat.intCast_add,<-ha,<-hb];grind
theorem zgQ{n:Nat}{p q:Rat}(h:IsN n p)(k:IsN n q):IsN n (p-q):=by
 obtain⟨a,ha⟩:=h;obtain⟨b,hb⟩:=k;refine⟨a-b,?_⟩;rw[Rat.intCast_sub,<-ha,<-hb];grind
theorem zkc{n m:Nat}{p q:Rat}(h:IsN n p)(k:IsN m q):IsN (n*m) (p*q):=by
 obtain⟨a,ha⟩:=h;obtain⟨b,hb⟩:=k;refine⟨a*b,?_⟩;rw[Rat.intCast_mul,<-ha,<-hb,Rat.natCast_mul];grind
theorem zkY{n m:Nat}{q:Rat}(h:IsN n q):IsN (n*m) q:=by
 obtain⟨a,ha⟩:=h;refine⟨a*m,?_⟩;rw[Rat.intCast_mul,<-ha,Rat.natCast_mul,Rat.intCast_natCast];grind
theorem zgR(n:Nat):IsN n 1:=⟨n,by rw[Rat.intCast_natCast];grind⟩
theorem zkd(n:Nat):IsN n 0:=⟨0,by grind⟩
theorem zke{n:Nat}{q:Rat}(hn:0<n)(h:IsN n q):(q.den:Int)<=n:=by
 obtain⟨a,ha⟩:=h;have h0:=ratN (n:=n) (by omega);have e:q=Rat.divInt a n:=by
  rw[Rat.divInt_eq_div,Rat.intCast_natCast,<-ha];grind
 rw[e,zee (by omega)];exact Int.ediv_le_self _ (by omega)
theorem zel{num den:Int}(h:za8 16 num den=true):IsN 720720 (Rat.divInt num den):=by
 have hs:=zbm h;unfold za8 at h;simp only[Bool.and_eq_true,decide_eq_true_eq]at h;obtain⟨⟨⟨h1,h2⟩,_⟩,_⟩:=h;obtain⟨m,hm⟩:∃m:Int,720720=den*m:=by
  have:den=1\/den=2\/den=3\/den=4\/den=5\/den=6\/den=7\/den=8\/den=9\/den=10\/den=11\/den=12\/den=13\/den=14\/den=15\/den=16:=by omega
  rcases this with rfl|rfl|rfl|rfl|rfl|rfl|rfl|rfl|rfl|rfl|rfl|rfl|rfl|rfl|rfl|rfl
  all_goals first|exact⟨720720,rfl⟩|exact⟨360360,rfl⟩|exact⟨240240,rfl⟩|exact⟨180180,rfl⟩|exact⟨144144,rfl⟩|exact⟨120120,rfl⟩|exact⟨102960,rfl⟩|exact⟨90090,rfl⟩|exact⟨80080,rfl⟩|exact⟨72072,rfl⟩|exact⟨65520,rfl⟩|exact⟨60060,rfl⟩|exact⟨55440,rfl⟩|exact⟨51480,rfl⟩|exact⟨48048,rfl⟩|exact⟨45045,rfl⟩
 refine⟨num*m,?_⟩;have hd:(den:Rat)≠0:=ratI (by omega);have e:((720720:Nat):Rat)=(den:Rat)*(m:Rat):=by
  rw[<-Rat.intCast_mul,<-hm];rfl
 rw[Rat.divInt_eq_div,e,Rat.intCast_mul];grind
theorem zcG{n:Nat}{nm:ByteArray}{q:Rat}(hq:IsN n q):∀ {l:Parts},(∀p∈l,IsN n p.2)->∀p∈za3 l nm q,IsN n p.2
 | [],_,p,hp=>by
   unfold za3 at hp;split at hp
   ·cases hp
   ·simp at hp;rw[hp];exact hq
 |x::r,h,p,hp=>by
  have hr:=zcG (nm:=nm) hq (l:=r) fun p hp=>h p (by simp[hp])
  unfold za3 at hp;split at hp
  ·exact h p hp
  ·split at hp
   ·rcases List.mem_cons.1 hp with rfl|hp
    ·exact h _ (by simp)
    ·exact hr p hp
   ·split at hp
    ·rcases List.mem_cons.1 hp with rfl|hp
     ·exact zkb (h x (by simp)) hq
     ·exact h p (by simp[hp])
    ·rcases List.mem_cons.1 hp with rfl|hp
     ·exact hq
     ·exact h p hp
theorem zc6{n:Nat}(h0:0<n)(h1:n<=1000000000){l:Parts}(h:∀p∈l,IsN n p.2):zaE l=false:=by
 unfold zaE;rw[List.any_eq_false];intro p hp;have:=zke h0 (h p hp);unfold bigQ;simp;omega
structure WillOk (l:Parts):Prop where
 pos:∀p∈l,0<p.2
 isN:∀p∈l,IsN 720720 p.2
 le:sumQ l<=1
theorem zid{s:St}{frm:ByteArray}:∀ {l out:Parts} {rest:Rat},(∀p∈l,0<p.2)->(∀p∈l,IsN 720720 p.2)->sumQ l<=rest->GoodParts out->(∀p∈out,IsN 720720 p.2)->IsN 720720 rest->
 GoodParts (zcp s frm l out rest).1/\(∀p∈(zcp s frm l out rest).1,IsN 720720 p.2)/\IsN 720720 (zcp s frm l out rest).2/\0<=(zcp s frm l out rest).2/\sumQ (zcp s frm l out rest).1+(zcp s frm l out rest).2=sumQ out+rest
 | [],out,rest,_,_,hs,hg,hn,hr=>by
   rw[zcp];exact⟨hg,hn,hr,by simpa[sumQ]using hs,rfl⟩
 |p::l,out,rest,hp,hN,hs,hg,hn,hr=>by
  have iL:=hp p (by simp);have hl:=fun q (hq:q∈l)=>hp q (by simp[hq])
  have vR:=fun q (hq:q∈l)=>hN q (by simp[hq])
  rw[sumQ]at hs;rw[zcp];split
  ·have ih:=zid (s:=s) (frm:=frm) hl vR (rest:=rest-p.2) (out:=za3 out p.1 p.2) (by grind) (zbx (by grind) hg) (zcG (hN p (by simp)) hn) (zgQ hr (hN p (by simp)));refine⟨ih.1,ih.2.1,ih.2.2.1,ih.2.2.2.1,?_⟩;rw[ih.2.2.2.2,zbV];grind
  ·exact zid (s:=s) (frm:=frm) hl vR (by grind) hg hn hr
theorem zd6:GoodParts []:=⟨List.Pairwise.nil,by simp⟩
theorem ze3{s:St}{law:Law}{n:ByteArray}{o:Parts}(hw:WillOk (zbw s n))(hl:za8 16 law.num law.den=true)(h:zcK s law n=some o):GoodParts o/\sumQ o=1/\zaE o=false:=by
 unfold zcK at h;have hg:=zid (s:=s) (frm:=n) (out:=[]) (rest:=1) hw.pos hw.isN hw.le zd6 (by simp) (zgR _);generalize hq:zcp s n (zbw s n) [] 1=q at*;obtain⟨out,rest⟩:=q;dsimp only at h hg;obtain⟨g1,g2,g3,g4,g5⟩:=hg;rw[sumQ]at g5;split at h
 ·rename_i h0
  cases h;have:rest=0:=by simpa using h0
  exact⟨g1,by grind,zc6 (by decide) (by decide) g2⟩
 rename_i h0
 have pW:rest≠0:=by simpa using h0
 generalize bU:(if zdT s (zaG s n) n=true then zaG s n else⟨#[]⟩)=sp at*;split at h
 ·cases h;refine⟨zbx g4 g1,by rw[zbV];grind,zc6 (by decide) (by decide) (zcG g3 g2)⟩
 rename_i ai
 have ag:(zb2 s law.stems n (zaW s) n).length≠0:=by
  intro e;rw[List.eq_nil_of_length_eq_zero e]at ai;exact ai rfl
 have bE:=zka s law.stems n (zaW s) n;generalize zb2 s law.stems n (zaW s) n=ts at*;obtain⟨_,_,l1,l2⟩:=zbm hl;have hd:za8 16 law.num law.den=true:=hl;have hN:IsN 720720 (Rat.divInt law.num law.den):=zel hl;have key:∃own out2,own=(if noB sp=true then 0 else rest*Rat.divInt law.num law.den)/\out2=(if noB sp=true then out else za3 out sp own)/\0<=own/\own<=rest/\GoodParts out2/\sumQ out2=sumQ out+own/\zaE out2=false:=by
  by_cases hs:noB sp=true
  ·exact⟨0,out,by rw[if_pos hs],by rw[if_pos hs],by grind,g4,g1,by grind,zc6 (by decide) (by decide) g2⟩
  ·have h1:0<=rest*Rat.divInt law.num law.den:=Rat.mul_nonneg g4 l1;have h2:rest*Rat.divInt law.num law.den<=rest:=by
    have:=Rat.mul_le_mul_of_nonneg_left l2 g4;grind
   refine⟨rest*Rat.divInt law.num law.den,za3 out sp (rest*Rat.divInt law.num law.den),by rw[if_neg hs],by rw[if_neg hs],h1,h2,zbx h1 g1,zbV _ _ _,?_⟩;have jL:∃d:Nat,0<d/\d<=16/\IsN d (Rat.divInt law.num law.den):=by
    unfold za8 at hd;simp only[Bool.and_eq_true,decide_eq_true_eq]at hd;refine⟨law.den.toNat,by omega,by omega,law.num,?_⟩;have hz:(law.den:Rat)≠0:=ratI (by omega);have e:((law.den.toNat:Nat):Rat)=(law.den:Rat):=by rw[<-Rat.intCast_natCast,Int.toNat_of_nonneg (by omega)]
    rw[Rat.divInt_eq_div,e];grind
   obtain⟨d,d0,d1,CB⟩:=jL;exact zc6 (n:=720720*d) (by omega) (by omega) (zcG (zkc g3 CB) fun p hp=>zkY (g2 p hp))
 obtain⟨own,out2,ho,u4,k0,k1,k2,k3,k4⟩:=key;rw[<-ho,<-u4]at h;split at h
 ·rename_i hz
  cases h;have:rest-own=0:=by simpa using hz
  exact⟨k2,by grind,k4⟩
 ·split at h
  ·cases h
  ·have gX:0<=(rest-own)/(ts.length:Rat):=zcF (by grind) Rat.natCast_nonneg;obtain⟨m1,m2⟩:=ze0 gX k2 k4 h;refine⟨m1,?_,m2⟩;rw[zgO bE h,k3];have:=ratN ag;grind
theorem zie{own:Rat}(h0:0<=own):∀ {l out o:Parts},(∀p∈l,0<=p.2)->GoodParts out->zaE out=false->zb6 own l out=some o->GoodParts o/\zaE o=false/\sumQ o=sumQ out+own*sumQ l
 | [],out,o,_,hg,hl,h=>by
   rw[zb6]at h;cases h;exact⟨hg,hl,by rw[sumQ];grind⟩
 |p::l,out,o,hp,hg,hl,h=>by
  rw[zb6]at h;split at h
  ·cases h
  split at h
  ·cases h
  ·rename_i hb
   have hm:0<=own*p.2:=Rat.mul_nonneg h0 (hp p (by simp));obtain⟨h1,h2,h3⟩:=zie h0 (fun q hq=>hp q (by simp[hq])) (zbx hm hg) (by simpa using hb) h;refine⟨h1,h2,?_⟩;rw[h3,zbV,sumQ];grind
structure GoodG (g:Grave):Prop where
 good:GoodParts g.holders
 small:zaE g.holders=false
 one:g.holders=[]\/sumQ g.holders=1
theorem zb9{l:Parts}(h:GoodParts l)(n:ByteArray):0<=zag l n:=by
 unfold zag;cases hf:l.find? (fun p=>zae p.1 n)with
 |none=>exact Rat.le_refl
 |some p=>
  have:=h.pos p (List.mem_of_find?_eq_some hf);show 0<=p.2;grind
theorem zdm{l:Parts}{n:ByteArray}(h:zag l n≠0):l≠[]:=by
 rintro rfl;exact h rfl
theorem large_sub{l m:Parts}(h:∀p∈m,p∈l)(hl:zaE l=false):zaE m=false:=by
 unfold zaE at*;rw[List.any_eq_false]at*;exact fun p hp=>hl p (h p hp)
theorem zd7{l:Parts}(n:ByteArray)(h:zaE l=false):zaE (zas l n)=false:=large_sub (fun p hp=>(List.mem_filter.1 hp).1) h
theorem zfH{n:ByteArray}{q:Rat}(hq:bigQ q=false):∀ {l:Parts},(∀p∈l,p.1≠n)->zaE l=false->zaE (za3 l n q)=false
 | [],_,_=>by
   unfold za3;split
   ·rfl
   ·simp[zaE,hq]
 |x::r,hn,hl=>by
  have nJ:bigQ x.2=false/\zaE r=false:=by simpa[zaE]using hl
  have ih:=zfH hq (l:=r) (fun p hp=>hn p (by simp[hp])) nJ.2;unfold za3;split
  ·exact hl
  ·split
   ·unfold zaE at ih⊢;rw[List.any_cons,nJ.1,ih];rfl
   ·split
    ·rename_i hs
     exact absurd (zau.1 hs) (hn x (by simp))
    ·unfold zaE at hl⊢;rw[List.any_cons,hq,hl];rfl
theorem zj0{l:Parts}{n:ByteArray}:∀p∈zas l n,p.1≠n:=by
 intro p hp;unfold zas at hp;have:=(List.mem_filter.1 hp).2;exact zcn.1 (by simpa using this)
theorem zkf{g:Grave}{frm:ByteArray}{l out:Parts}(hg:GoodG g)(hs:zag g.holders frm≠0)(hp:∀p∈l,0<p.2)(hl:sumQ l<=1)(hk:bigQ (zag g.holders frm*(1-sumQ l))=false)
 (h:zb6 (zag g.holders frm) l (za3 (zas g.holders frm) frm (zag g.holders frm*(1-sumQ l)))=some out):GoodG {g with holders:=out}:=by
 have h0:=zb9 hg.good frm;have js:0<=zag g.holders frm*(1-sumQ l):=Rat.mul_nonneg h0 (by grind);obtain⟨h1,h2,h3⟩:=zie h0 (fun p KU=>by have:=hp p KU;grind) (zbx js (zbK hg.good)) (zfH hk zj0 (zd7 frm hg.small)) h;refine⟨h1,h2,.inr ?_⟩;have hw:=zcg (n:=frm) hg.good;rcases hg.one with e|e
 ·exact absurd e (zdm hs)
 ·show sumQ out=1;rw[h3,zbV];grind
theorem sum_div(d:Rat):∀l:Parts,sumQ (l.map fun p=>(p.1,p.2/d))=sumQ l/d
 | []=>by simp only[List.map_nil,sumQ];rw[Rat.div_def];grind
 |p::l=>by
  rw[List.map_cons,sumQ,sumQ,sum_div d l];rw[Rat.div_def,Rat.div_def,Rat.div_def];grind
theorem sum_zero{l:Parts}(h:∀p∈l,0<p.2)(hs:sumQ l=0):l=[]:=by
 cases l with
 |nil=>rfl
 |cons x r=>
  have hx:=h x (by simp);have:=zbr (l:=r) fun p hp=>by have:=h p (by simp[hp]);grind
  rw[sumQ]at hs;grind
theorem zj1{l:Parts}(h:∀p∈l,0<p.2):0<=sumQ l:=zbr fun p hp=>by have:=h p hp;grind
theorem zji{g:Grave}{frm:ByteArray}(hg:GoodG g)(hs:zag g.holders frm≠0)(hl:zaE ((zas g.holders frm).map fun p=>(p.1,p.2/(1-zag g.holders frm)))=false):
 GoodG {g with holders:=(zas g.holders frm).map fun p=>(p.1,p.2/(1-zag g.holders frm))}:=by
 have hw:=zcg (n:=frm) hg.good;have h1:sumQ g.holders=1:=by
  rcases hg.one with e|e
  ·exact absurd e (zdm hs)
  ·exact e
 have iG:=zbK (n:=frm) hg.good;have gX:=zj1 iG.pos;by_cases hz:1-zag g.holders frm=0
 ·have he:zas g.holders frm=[]:=sum_zero iG.pos (by grind);have e2:((zas g.holders frm).map fun p=>(p.1,p.2/(1-zag g.holders frm)))=[]:=by rw[he];rfl
  rw[e2];exact⟨zd6,rfl,.inl rfl⟩
 ·have hd:0<1-zag g.holders frm:=by grind
  refine⟨⟨List.pairwise_map.2 iG.asc,fun p hp=>?_⟩,hl,.inr ?_⟩
  ·obtain⟨q,hq,rfl⟩:=List.mem_map.1 hp;have:=iG.pos q hq;show 0<q.2/(1-zag g.holders frm);rw[Rat.div_def];exact Rat.mul_pos this (Rat.inv_pos.2 hd)
  ·show sumQ _=1;rw[sum_div,show sumQ (zas g.holders frm)=1-zag g.holders frm by grind,Rat.div_def];exact Rat.mul_inv_cancel _ hz
theorem zkZ{g:Grave}{n:ByteArray}{bp out:Parts}(hg:GoodG g)(hs:zag g.holders n≠0)(hh:GoodParts bp)(h1:sumQ bp=1)(h:zb6 (zag g.holders n) bp (zas g.holders n)=some out):GoodG {g with holders:=out,died:=g.died++[n]}:=by
 obtain⟨k1,k2,k3⟩:=zie (zb9 hg.good n) (fun p hp=>by have:=hh.pos p hp;grind) (zbK hg.good) (zd7 n hg.small) h;refine⟨k1,k2,.inr ?_⟩;have hw:=zcg (n:=n) hg.good;rcases hg.one with e|e
 ·exact absurd e (zdm hs)
 ·show sumQ out=1;rw[k3,h1];grind
theorem zgf{s:ByteArray}(h:zaS s=true):noB s=false:=by
 unfold zaS at h;simp only[Bool.and_eq_true,Bool.not_eq_true']at h;exact h.2.1
structure OkD (d:Deed):Prop where
 kind:0<=d.kind/\d.kind<=8
 day:0<=d.day/\d.day<=200000
 years:0<=d.years/\d.years<=99
 cls:0<=d.cls/\d.cls<=4
 len:d.to.length<=8
 names:∀p∈d.to,zaS p.name=true
 place:(d.kind=0\/d.kind=1\/d.kind=2\/d.kind=3)->zaS d.place=true
 frm:¬(d.kind=0\/d.kind=3)->zaS d.frm=true
 grantor:(d.kind=0\/d.kind=3)->noB d.frm=true
 parts:(d.kind=0\/d.kind=1\/d.kind=4)->d.to≠[]/\zcC true (d.kind==0) d.frm d.to=true
 one:(d.kind=5\/d.kind=6\/d.kind=7)->d.to.length=1/\zcC false false d.frm d.to=true
 none:(d.kind=2\/d.kind=3\/d.kind=8)->d.to=[]
theorem zfu{n lo hi:Int}:inR n lo hi=true↔lo<=n/\n<=hi:=by unfold inR;simp
theorem zeU{d:Deed}(h:zaH d=0):OkD d:=by
 unfold zaH at h;split at h
 ·simp at h
 rename_i h1
 split at h
 ·simp at h
 rename_i h2
 split at h
 ·simp at h
 rename_i h3
 split at h
 ·simp at h
 rename_i h4
 split at h
 ·simp at h
 rename_i h5
 simp only[Bool.not_eq_true',Bool.not_eq_false,zfu]at h1;simp only[Bool.or_eq_true,Bool.not_eq_true',not_or,Bool.not_eq_false,zbn,zfu]at h2;simp only[Bool.or_eq_true,Bool.not_eq_true',not_or,Bool.not_eq_false,List.all_eq_true,zbz]at h4;simp only[Bool.not_eq_true',Bool.not_eq_false]at h5;simp only[decide_eq_true_eq,Nat.not_lt]at h3;unfold zfF at h5;obtain⟨⟨hd,hc⟩,hy⟩:=h2;obtain⟨⟨hp,hf⟩,hn⟩:=h4;have fR:d.kind=0\/d.kind=1\/d.kind=2\/d.kind=3\/d.kind=4\/d.kind=5\/d.kind=6\/d.kind=7\/d.kind=8:=by omega
 refine⟨h1,hd,hy,hc,h3,hn,?_,?_,?_,?_,?_,?_⟩;all_goals rcases fR with k|k|k|k|k|k|k|k|k<;>simp_all
theorem zif{s:St}{a b x:ByteArray}:zai {s with children:=s.children++[(a,b)]} x=zai s x++(if zae a x then[b]else[]):=by
 unfold zai;rw[List.filter_append,List.map_append];congr 1
 by_cases h:zae a x=true
 ·rw[if_pos h,List.filter_cons,if_pos h];rfl
 ·rw[if_neg h,List.filter_cons,if_neg h];rfl
theorem zmr{s:St}{a b:ByteArray}(h:∀x,¬Desc s x x)(hn:¬Desc s b a)(ai:a≠b):∀x,¬Desc {s with children:=s.children++[(a,b)]} x x:=by
 have key:∀x y,Desc {s with children:=s.children++[(a,b)]} x y->Desc s x y\/((x=a\/Desc s x a)/\(y=b\/Desc s b y)):=by
  intro x y uk;unfold Desc at uk;induction uk with
  |single hc=>
   rw[zif]at hc;rcases List.mem_append.1 hc with hc|hc
   ·exact .inl (zfr hc)
   ·split at hc
    ·rename_i hs
     simp only[List.mem_singleton]at hc;exact .inr ⟨.inl (zau.1 hs).symm,.inl hc⟩
    ·cases hc
  |tail _ hc ih=>
   rw[zif]at hc;rcases List.mem_append.1 hc with hc|hc
   ·rcases ih with ih|⟨i1,i2⟩
    ·exact .inl (zhV ih hc)
    ·refine .inr ⟨i1,.inr ?_⟩;rcases i2 with i2|i2
     ·rw[i2]at hc;exact zfr hc
     ·exact zhV i2 hc
   ·split at hc
    ·rename_i hs
     simp only[List.mem_singleton]at hc;have e:=zau.1 hs;rcases ih with ih|⟨i1,i2⟩
     ·exact .inr ⟨.inr (by rw[e];exact ih),.inl hc⟩
     ·exfalso
      rcases i2 with i2|i2
      ·exact ai (e.trans i2)
      ·exact hn (by rw[e];exact i2)
    ·cases hc
 intro x hx;rcases key x x hx with k|⟨k1,k2⟩
 ·exact h x k
 ·rcases k1 with rfl|k1<;>rcases k2 with k2|k2
  ·exact ai k2
  ·exact hn k2
  ·rw[k2]at k1;exact hn k1
  ·exact hn (zgL k2 k1)
structure GoodSt (s:St) (last:Int):Prop where
 graves:∀g∈s.graves,GoodG g
 force:∀(i j:Nat) (gi gj:Grave),s.graves[i]?=some gi->s.graves[j]?=some gj->gi.place=gj.place->∀day,last<=day->zaV gi day=true->zaV gj day=true->i=j
 wills:∀n,WillOk (zbw s n)
 acyc:∀a,¬Desc s a a
 kids:∀c∈s.children,noB c.1=false/\noB c.2=false
 marr:∀m∈s.marriages,m.1≠m.2/\noB m.1=false/\noB m.2=false
 willNames:∀w∈s.wills,∀p∈w.2,noB p.1=false
 dead:∀n∈s.dead,noB n=false
theorem zeV(last:Int):GoodSt zb3 last:=by
 refine⟨by simp[zb3],by simp[zb3],fun n=>⟨by simp[zb3,zbw],by simp[zb3,zbw],by simp only[zb3,zbw,List.reverse_nil,List.find?_nil,Option.map_none,Option.getD_none,sumQ];decide⟩,fun a=>zhW rfl,by simp[zb3],by simp[zb3],by simp[zb3],by simp[zb3]⟩
theorem zgS{g:Grave}{d e:Int}(h:d<=e)(hf:zaV g e=true):zaV g d=true:=by
 unfold zaV at*;simp only[Bool.and_eq_true,Bool.or_eq_true,decide_eq_true_eq]at*;refine⟨hf.1,?_⟩;rcases hf.2 with k|k
 ·exact .inl k
 ·exact .inr (by omega)
theorem zce{s:St}{place:ByteArray}{day:Int}{i:Nat}(h:zaR s place day=some i):∃g,s.graves[i]?=some g/\g.place=place/\zaV g day=true:=by
 unfold zaR at h;rw[List.findIdx?_eq_some_iff_getElem]at h;obtain⟨hi,h1,_⟩:=h;rw[Bool.and_eq_true,zau]at h1;exact⟨_,List.getElem?_eq_getElem hi,h1.1,h1.2⟩
theorem zhl{s:St}{place:ByteArray}{day:Int}(h:zaR s place day=none):∀g∈s.graves,g.place=place->zaV g day=false:=by
 unfold zaR at h;rw[List.findIdx?_eq_none_iff]at h;intro g hg hp;have:=h g hg;rw[zau.2 hp,Bool.true_and]at this;exact this
theorem GoodSt.later{s:St}{a b:Int}(h:GoodSt s a)(cI:a<=b):GoodSt s b:=
 {h with force:=fun i j gi gj hi hj hp day hd h1 h2=>h.force i j gi gj hi hj hp day (by omega) h1 h2}
theorem zig:∀ {l:List RPart} {out:Parts},GoodParts out->(∀p∈out,IsN 720720 p.2)->(∀p∈l,0<p.rat/\IsN 720720 p.rat)->
 GoodParts (zbc l out)/\(∀p∈zbc l out,IsN 720720 p.2)/\sumQ (zbc l out)=sumQ out+sumQ (zao l)
 | [],out,h1,h2,_=>⟨h1,h2,by simp only[zbc,List.foldl_nil,zao,List.map_nil,sumQ];grind⟩
 |p::l,out,h1,h2,h=>by
  obtain⟨p1,p2⟩:=h p (by simp);have ih:=zig (l:=l) (zbx (n:=p.name) (q:=p.rat) (by grind) h1) (zcG p2 h2) fun q hq=>h q (by simp[hq])
  have e:zbc (p::l) out=zbc l (za3 out p.name p.rat):=rfl;rw[e];refine⟨ih.1,ih.2.1,?_⟩;rw[ih.2.2,zbV];simp only[zao,List.map_cons,sumQ];grind
theorem zdW{all:Bool}{frm:ByteArray}{l:List RPart}(h:zcC true all frm l=true):(∀p∈l,0<p.rat/\IsN 720720 p.rat/\za8 16 p.num p.den=true)/\sumQ (zao l)<=1/\(all=true->sumQ (zao l)=1)/\∀p∈l,p.name≠frm:=by
 unfold zcC at h;simp only[if_true,Bool.and_eq_true,List.all_eq_true,Bool.not_eq_true',decide_eq_true_eq,Bool.or_eq_true,bne_iff_ne,ne_eq,beq_iff_eq]at h;obtain⟨⟨_,hn⟩,⟨hs,bI⟩,b9⟩:=h;refine⟨fun p hp=>?_,bI,fun ha=>?_,fun p hp=>zcn.1 (hn p hp)⟩
 ·obtain⟨h1,h2⟩:=hs p hp;have h3:=zbm h1;refine⟨?_,zel h1,h1⟩;have ai:p.rat≠0:=by
   intro k;apply h2;rw[<-h3.1];unfold RPart.rat at k;rw[k];rfl
  have gX:0<=p.rat:=h3.2.2.1;grind
 ·rcases b9 with k|k
  ·rw[ha]at k;cases k
  ·exact k
theorem zj2{all:Bool}{frm:ByteArray}{l:List RPart}(h:zcC true all frm l=true):WillOk (zao l):=by
 obtain⟨h1,h2,_,_⟩:=zdW h;refine⟨fun p hp=>?_,fun p hp=>?_,h2⟩
 ·obtain⟨q,hq,rfl⟩:=List.mem_map.1 hp;exact(h1 q hq).1
 ·obtain⟨q,hq,rfl⟩:=List.mem_map.1 hp;exact(h1 q hq).2.1
theorem zms{s s':St}{d:Deed}{last:Int}(h:GoodSt s last)(hd:OkD d)(hl:last<=d.day)(hk:d.kind=0)(ht:zcO s d=(s',0)):GoodSt s' d.day:=by
 have h:=h.later hl;unfold zcO at ht;split at ht
 ·simp at ht
 rename_i h1
 split at ht
 ·simp at ht
 split at ht
 ·simp at ht
 simp only[Prod.mk.injEq,and_true]at ht;rw[<-ht];have hx:zaR s d.place d.day=none:=by simpa using h1
 have hn:=zhl hx;obtain⟨nO,xQ⟩:=hd.parts (.inl hk);obtain⟨p1,p2,p3,_⟩:=zdW xQ;obtain⟨g1,g2,g3⟩:=zig (l:=d.to) (out:=[]) zd6 (by simp) fun p hp=>⟨(p1 p hp).1,(p1 p hp).2.1⟩
 have g4:sumQ (zbc d.to [])=1:=by
  rw[g3,p3 (by rw[hk];rfl),sumQ];grind
 generalize hg:(⟨d.place,d.cls,if decide (0<d.years)=true then zcd d.day d.years else-1,zbc d.to [],[]⟩:Grave)=g;have tS:g.place=d.place:=by rw[<-hg]
 have wX:GoodG g:=by rw[<-hg];exact⟨g1,zc6 (by decide) (by decide) g2,.inr g4⟩
 refine {h with graves:=fun x hx=>?_,force:=fun i j gi gj hi hj hp day kj f1 f2=>?_}
 ·rcases List.mem_append.1 hx with hx|hx
  ·exact h.graves x hx
  ·rw[List.mem_singleton.1 hx];exact wX
 ·have hi:(s.graves++[g])[i]?=some gi:=hi;have hj:(s.graves++[g])[j]?=some gj:=hj;rw[List.getElem?_append]at hi hj;split at hi<;>split at hj
  ·exact h.force i j gi gj hi hj hp day kj f1 f2
  ·exfalso
   have e:gj=g:=by
    rw[List.getElem?_cons]at hj;split at hj
    ·exact(Option.some.inj hj).symm
    ·simp at hj
   have:=hn gi (List.mem_of_getElem? hi) (by rw[hp,e,tS]);rw[zgS kj f1]at this;cases this
  ·exfalso
   have e:gi=g:=by
    rw[List.getElem?_cons]at hi;split at hi
    ·exact(Option.some.inj hi).symm
    ·simp at hi
   have:=hn gj (List.mem_of_getElem? hj) (by rw[<-hp,e,tS]);rw[zgS kj f2]at this;cases this
  ·have:=(List.getElem?_eq_some_iff.1 hi).1;have:=(List.getElem?_eq_some_iff.1 hj).1;simp at*;omega
theorem zj3{s:St}{i:Nat}{g g':Grave}{day:Int}(h:GoodSt s day)(hi:s.graves[i]?=some g)(hg:GoodG g')(hp:g'.place=g.place)(hf:∀e,day<=e->zaV g' e=true->zaV g e=true):GoodSt (s.withGrave i g') day:=by
 have eV:=(List.getElem?_eq_some_iff.1 hi).1;refine {h with graves:=fun x hx=>?_,force:=fun a b ga gb ha hb iN e he f1 f2=>?_}
 ·rcases List.mem_or_eq_of_mem_set hx with hx|hx
  ·exact h.graves x hx
  ·rw[hx];exact hg
 ·have ha:(s.graves.set i g')[a]?=some ga:=ha;have hb:(s.graves.set i g')[b]?=some gb:=hb;rw[List.getElem?_set]at ha hb;have one:∀(c:Nat) (gc:Grave),(if i=c then if i<s.graves.length then some g' else none else s.graves[c]?)=some gc->∃gc',s.graves[c]?=some gc'/\gc'.place=gc.place/\(zaV gc e=true->zaV gc' e=true):=by
   intro c gc hc;by_cases hic:i=c
   ·rw[if_pos hic,if_pos eV]at hc;cases hc;subst hic;exact⟨g,hi,hp.symm,hf e he⟩
   ·rw[if_neg hic]at hc;exact⟨gc,hc,rfl,id⟩
  obtain⟨ga',a1,a2,a3⟩:=one a ga ha;obtain⟨gb',b1,b2,b3⟩:=one b gb hb;exact h.force a b ga' gb' a1 b1 (by rw[a2,b2,iN]) e he (a3 f1) (b3 f2)
theorem zfv{s:St}{i:Nat}{g:Grave}(h:s.graves[i]?=some g):s.graves.getD i zga=g:=by
 rw[List.getD_eq_getElem?_getD,h];rfl
theorem ze4{g:Grave}{out:Parts}{died:List ByteArray}{e:Int}(ai:g.holders≠[])(h:zaV {g with holders:=out,died:=died} e=true):zaV g e=true:=by
 unfold zaV at*;simp only[Bool.and_eq_true]at*;refine⟨?_,h.2⟩;cases hg:g.holders with
 |nil=>exact absurd hg ai
 |cons _ _=>rfl
theorem zjj{s s':St}{d:Deed}{last:Int}(h:GoodSt s last)(hd:OkD d)(hl:last<=d.day)(hk:d.kind=1)(ht:zbp s d=(s',0)):GoodSt s' d.day:=by
 have h:=h.later hl;unfold zbp at ht;split at ht
 ·simp at ht
 rename_i i hi
 obtain⟨g,g1,g2,g3⟩:=zce hi;rw[zfv g1]at ht;dsimp only at ht;split at ht
 ·simp at ht
 split at ht
 ·simp at ht
 rename_i hs
 have hs:zag g.holders d.frm≠0:=by simpa using hs
 split at ht
 ·simp at ht
 split at ht
 ·simp at ht
 rename_i hb
 split at ht
 ·simp at ht
 rename_i out ho
 simp only[Prod.mk.injEq,and_true]at ht;rw[<-ht];obtain⟨nO,xQ⟩:=hd.parts (.inr (.inl hk));have hw:=zj2 xQ;have bf:=h.graves g (List.mem_of_getElem? g1);exact zj3 h g1 (zkf bf hs hw.pos hw.le (by simpa using hb) ho) rfl fun e _ hf=>ze4 (died:=g.died) (zdm hs) hf
theorem zih{s s':St}{d:Deed}{last:Int}(h:GoodSt s last)(hl:last<=d.day)(ht:zaZ s d=(s',0)):GoodSt s' d.day:=by
 have h:=h.later hl;unfold zaZ at ht;split at ht
 ·simp at ht
 rename_i i hi
 obtain⟨g,g1,g2,g3⟩:=zce hi;rw[zfv g1]at ht;dsimp only at ht;split at ht
 ·simp at ht
 rename_i hs
 have hs:zag g.holders d.frm≠0:=by simpa using hs
 split at ht
 ·simp at ht
 rename_i hb
 simp only[Prod.mk.injEq,and_true]at ht;rw[<-ht];have bf:=h.graves g (List.mem_of_getElem? g1);exact zj3 h g1 (zji bf hs (by simpa using hb)) rfl fun e _ hf=>ze4 (died:=g.died) (zdm hs) hf
theorem zmt{s s':St}{d:Deed}{last:Int}(h:GoodSt s last)(hl:last<=d.day)(ht:zcZ s d=(s',0)):GoodSt s' d.day:=by
 have h:=h.later hl;unfold zcZ at ht;split at ht
 ·simp at ht
 rename_i i hi
 obtain⟨g,g1,g2,g3⟩:=zce hi;rw[zfv g1]at ht;dsimp only at ht;split at ht
 ·simp at ht
 split at ht
 ·simp at ht
 simp only[Prod.mk.injEq,and_true]at ht;rw[<-ht];generalize zcd g.fin d.years=fin at*;have bf:=h.graves g (List.mem_of_getElem? g1);have eV:=(List.getElem?_eq_some_iff.1 g1).1;refine {h with graves:=fun x hx=>?_,force:=fun a b ga gb ha hb iN e he f1 f2=>?_}
 ·rcases List.mem_or_eq_of_mem_set hx with hx|hx
  ·exact h.graves x hx
  ·rw[hx];exact⟨bf.good,bf.small,bf.one⟩
 ·have ha:(s.graves.set i {g with fin:=fin})[a]?=some ga:=ha;have hb:(s.graves.set i {g with fin:=fin})[b]?=some gb:=hb;rw[List.getElem?_set]at ha hb;have one:∀(c:Nat) (gc:Grave),(if i=c then if i<s.graves.length then some ({g with fin:=fin}:Grave)else none else s.graves[c]?)=some gc->∃gc',s.graves[c]?=some gc'/\gc'.place=gc.place/\(zaV gc e=true->zaV gc' d.day=true):=by
   intro c gc hc;by_cases hic:i=c
   ·rw[if_pos hic,if_pos eV]at hc;cases hc;subst hic;exact⟨g,g1,rfl,fun _=>g3⟩
   ·rw[if_neg hic]at hc;exact⟨gc,hc,rfl,fun hf=>zgS he hf⟩
  obtain⟨ga',a1,a2,a3⟩:=one a ga ha;obtain⟨gb',b1,b2,b3⟩:=one b gb hb;exact h.force a b ga' gb' a1 b1 (by rw[a2,b2,iN]) d.day (Int.le_refl _) (a3 f1) (b3 f2)
section
variable {P:Program} {ops:Array Oper} {md:Region.Mode} {w₀:World}
def grow(P:Program)(o:Oper)(a:Act)(w₀:World)(K:Act->Prop):Prop:= ∃v,(∀z,o.quietAt P a (fun w'=>∃z',w'=(w₀.ext z).ext z') (w₀.ext z) v)/\K (a.put o.dst v)
def zgg(P:Program)(ops:Array Oper)(w₀:World)(Q:Act->Prop):List Oper->Act->Prop
 | [],a=>Q a
 |o::rest,a=>if Region.wanted o (yielded ops a.tmps)then grow P o a w₀ (zgg P ops w₀ Q rest)else zgg P ops w₀ Q rest (a.put o.dst undef)
theorem zfw{Q:Act->Prop}{a:Act}(h:Q a):zgg P ops w₀ Q [] a:=h
theorem ze5{Q:Act->Prop}{a:Act}{o:Oper}{rest:List Oper}
 (h:∀K:Act->Prop,(∀a,zgg P ops w₀ Q rest a->K a)->if Region.wanted o (yielded ops a.tmps)then grow P o a w₀ K else K (a.put o.dst undef)):zgg P ops w₀ Q (o::rest) a:=
 h _ (fun _ h=>h)
def YieldsG(P:Program)(ops:Array Oper)(w₀:World)(o:Oper)(v:Value)(a:Act):Prop:=
 (Region.wanted o (yielded ops a.tmps)=true/\∀z,o.quietAt P a (fun w'=>∃z',w'=(w₀.ext z).ext z') (w₀.ext z) v)\/(Region.wanted o (yielded ops a.tmps)=false/\v=undef)
theorem YieldsG.put{oi oj:Oper}{v u:Value}{a:Act}(h1:∀d,oi.dst=some d->d∉oj.looksAt ops)(Dq:∀cs b,oj.op≠ .select cs b)(h:YieldsG P ops w₀ oj u (a.put oi.dst v)):YieldsG P ops w₀ oj u a:=by
 unfold YieldsG Oper.quietAt at*;rw[wanted_put oj a oi.dst v h1,execOp_put oj Dq a oi.dst v h1]at h;exact h
theorem YieldsG.put'{oi oj:Oper}{v u:Value}{a:Act}(h1:∀d,oi.dst=some d->d∉oj.looksAt ops)(Dq:∀cs b,oj.op≠ .select cs b)(h:YieldsG P ops w₀ oj u a):YieldsG P ops w₀ oj u (a.put oi.dst v):=by
 unfold YieldsG Oper.quietAt at*;rw[wanted_put oj a oi.dst v h1,execOp_put oj Dq a oi.dst v h1];exact h
theorem zfD{i:Nat}{o:Oper}{v:Value}{a:Act}{K:Act->World->Prop}{Q:Exit->Act->World->Prop}{z:Ez}(hi:ops[i]?=some o)(hy:YieldsG P ops w₀ o v a)(hK:∀z',K (a.put o.dst v) ((w₀.ext z).ext z')):wpOp P ops Q i K a (w₀.ext z):=by
 have BX:K (a.put o.dst v) (w₀.ext z):=by
  have:=hK ⟨#[],(w₀.ext z).drawn⟩;simpa[World.ext]using this
 unfold wpOp;simp only[hi];rcases hy with⟨hw,hv⟩|⟨hw,rfl⟩
 ·rw[if_pos hw];refine .inl ?_;have h3:=hv z;unfold Oper.quietAt at h3;unfold Oper.wp;generalize(execOp a.eval o).run P (w₀.ext z)=r at*;cases r with
  |ok n w'=>
   cases n<;>simp only[Oper.quietUpon]at h3<;>simp only[Oper.upon]
   case value u=>obtain⟨e1,e2⟩:=h3;rw[e1,e2];exact BX
   case skip=>obtain⟨e1,e2⟩:=h3;rw[e1,<-e2];exact BX
   case enter f args=>
    obtain⟨e1,hc⟩:=h3;rw[e1];exact hc.mono fun e w'' ⟨he,z',Dx⟩=>by subst he Dx;exact hK z'
  |halt x w'=>simp only[Oper.quietUpon]at h3
 ·rw[if_neg (by rw[hw];exact Bool.false_ne_true)];exact BX
def zfI(P:Program)(md:Region.Mode)(ops:Array Oper)(w₀:World)(n:Nat)(L:Array Bool->Act->Prop):Nat->Array Bool->Act->Prop
 |0,listed,a=>L listed a
 |f+1,listed,a=>(∃i∈Region.ready md ops listed,i<n)/\∀i∈Region.ready md ops listed,i<n->∃o v,ops[i]?=some o/\YieldsG P ops w₀ o v a/\zfI P md ops w₀ n L f (listed.setIfInBounds i true) (a.put o.dst v)
theorem zkg{n i:Nat}{oi:Oper}{v:Value}{L:Array Bool->Act->Prop}(hi:ops[i]?=some oi)(du:∀(j:Nat) (o:Oper) cs b,ops[j]?=some o->o.op≠ .select cs b)(aH:i<n)
 (jM:∀listed a,L listed a->∀j∈Region.ready md ops listed,n<=j):
 ∀(f:Nat) (listed:Array Bool) (a:Act),
  (∀j oj,ops[j]?=some oj->j≠i->listed.getD j true=false->(∀e∈oj.after,Region.binds md e=true->e.on≠i)->oi.apart ops oj=true)->
  i∈Region.ready md ops listed->YieldsG P ops w₀ oi v a->
  zfI P md ops w₀ n L f (listed.setIfInBounds i true) (a.put oi.dst v)->zfI P md ops w₀ n L (f+1) listed a:=by
 intro f;induction f with
 |zero=>
  intro listed a _ hr hy H;refine⟨⟨i,hr,aH⟩,fun j hj FT=>?_⟩;by_cases cB:j=i
  ·subst cB;exact⟨oi,v,hi,hy,H⟩
  ·have:=jM _ _ H j (ready_mono hj cB);omega
 |succ f ih=>
  intro listed a cP hr hy H;refine⟨⟨i,hr,aH⟩,fun j hj FT=>?_⟩;by_cases cB:j=i
  ·subst cB;exact⟨oi,v,hi,hy,H⟩
  ·obtain⟨oj,u,iK,Lr,Hj⟩:=H.2 j (ready_mono hj cB) FT;obtain⟨jr,oj',xK,b9⟩:=mem_ready.1 hj;rw[iK]at xK;cases xK;have dE:=(mem_ready.1 hr).1;have mP:∀e∈oj.after,Region.binds md e=true->e.on≠i:=fun e he hb zO=>by
    have h1:=b9 e he hb;rw[zO,getD_both dE]at h1;cases h1
   obtain⟨h1,h2,h3⟩:=Oper.apart_spec (cP j oj iK cB jr mP);refine⟨oj,u,iK,Lr.put h1 (fun cs b=>du j oj cs b iK),?_⟩;refine ih (listed.setIfInBounds j true) (a.put oj.dst u) ?_ (ready_mono hr (Ne.symm cB)) (hy.put' h3 (fun cs b=>du i oi cs b hi)) ?_
   ·intro k ok hk ar dE cX;refine cP k ok hk ar ?_ cX;by_cases hjk:j=k
    ·subst hjk;exact jr
    ·rw[getD_set_ne true hjk]at dE;exact dE
   ·rw[Array.setIfInBounds_comm _ _ cB,<-Act.put_comm a v u h2];exact Hj
def zeL(md:Region.Mode)(ops:Array Oper):Nat->Nat->Array Bool->Bool
 |0,k,listed=>decide (Region.ready md ops listed=[k])&&decide (Region.ready md ops (listed.setIfInBounds k true)=[k+1])&&decide (Region.ready md ops ((listed.setIfInBounds k true).setIfInBounds (k+1) true)=[])
 |f+1,k,listed=>(Region.ready md ops listed).contains k&&Region.free md ops listed k&&zeL md ops f (k+1) (listed.setIfInBounds k true)
def letB(md:Region.Mode)(ops:Array Oper)(n:Nat):Bool:=
 decide (ops.size=n+2)&&Region.noSelect ops&&
 (match ops[n]? with
  |none=>false
  |some al=>al.guard.isNone&&al.after.isEmpty&&(List.range n).all fun j=>match ops[j]? with
   |none=>false
   |some oj=>al.apart ops oj&&oj.after.all fun e=>e.on != n)&&
 (match ops[n+1]? with
  |none=>false
  |some st=>st.guard.isNone&&(List.range (n+1)).all fun j=>st.after.any fun e=>Region.binds md e&&e.on==j)&&
 zeL md ops n 0 (Array.replicate ops.size false)
theorem zii{n:Nat}{Lq:Act->Prop}(du:Region.noSelect ops=true):
 ∀(l:List Oper) (k:Nat) (listed:Array Bool) (a:Act),(∀j,j<l.length->l[j]?=ops[k+j]?)->k+l.length=n->
 zeL md ops l.length k listed=true->zgg P ops w₀ Lq l a->
 zfI P md ops w₀ n (fun listed' a'=>zeL md ops 0 n listed'=true/\Lq a') l.length listed a
 | [],k,listed,a,_,hk,hB,h=>by
   have:k=n:=by simpa using hk
   subst this;exact⟨hB,h⟩
 |o::l,k,listed,a,hl,hk,hB,h=>by
  have h0:ops[k]?=some o:=by simpa using(hl 0 (by simp)).symm
  simp only[List.length_cons,zeL,Bool.and_eq_true]at hB;obtain⟨⟨hr,hf⟩,dD⟩:=hB;have js:k<n:=by simp only[List.length_cons]at hk;omega
  have cq:k∈Region.ready md ops listed:=by simpa using hr
  obtain⟨v,hy,hK⟩:∃v,YieldsG P ops w₀ o v a/\zgg P ops w₀ Lq l (a.put o.dst v):=by
   unfold zgg at h;by_cases hw:Region.wanted o (yielded ops a.tmps)=true
   ·rw[if_pos hw]at h;obtain⟨v,h1,h2⟩:=h;exact⟨v,.inl ⟨hw,h1⟩,h2⟩
   ·rw[if_neg hw]at h;exact⟨undef,.inr ⟨by simpa using hw,rfl⟩,h⟩
  exact zkg h0 (Region.noSelect_spec du) js (fun listed' a' hL j hj=>by
   have h1:=hL.1;simp only[zeL,Bool.and_eq_true,decide_eq_true_eq]at h1;rw[h1.1.1]at hj;have:j=n:=by simpa using hj
   omega) l.length listed a (Region.free_spec h0 hf) cq hy
   (zii du l (k+1) _ _ (fun j hj=>by have:=hl (j+1) (by simp;omega);simpa[Nat.add_assoc,Nat.add_comm 1 j]using this) (by simp only[List.length_cons]at hk;omega) dD hK)
theorem alloc_ext(w:World)(o:Obj):∃z,w.alloc o=w.ext z:=zaY (zad (Below.refl _ _) o)
theorem zd8{id:Nat}{Q:Exit->Act->World->Prop}{a:Act}{w:World}{l:List Oper}(n:Nat)(al st:Oper)(obj obj':Obj)(hm:P.follows .mixedOrders=true)(hB:letB .any l.toArray n=true)
 (jJ:l[n]?=some al)(aq:l[n+1]?=some st)
 (hrun:∀(a:Act) (W:World),(execOp a.eval al).run P W=.ok (.value (.pointer (some ⟨W.heap.size,0,none⟩))) (W.alloc obj))
 (mE:zgg P l.toArray w (fun aF=>(∀W B,W.heap[B]?=some obj->∃W',(execOp (aF.put al.dst (.pointer (some ⟨B,0,none⟩))).eval st).run P W=.ok .skip W'/\W'.heap[B]?=some obj'/\W.grownBy W' (some B))/\
   (∀B W,(∃z,W=w.ext z)->w.heap.size<=B->W.heap[B]?=some obj'->Q .normal ((aF.put al.dst (.pointer (some ⟨B,0,none⟩))).put st.dst undef) W)) (l.take n) a):(Code.region id l.toArray true).wp P Q a w:=by
 generalize hLq:(fun aF:Act=>(∀W B,W.heap[B]?=some obj->∃W',(execOp (aF.put al.dst (.pointer (some ⟨B,0,none⟩))).eval st).run P W=.ok .skip W'/\W'.heap[B]?=some obj'/\W.grownBy W' (some B))/\
  (∀B W,(∃z,W=w.ext z)->w.heap.size<=B->W.heap[B]?=some obj'->Q .normal ((aF.put al.dst (.pointer (some ⟨B,0,none⟩))).put st.dst undef) W))=Lq at mE
 simp only[letB,Bool.and_eq_true,decide_eq_true_eq]at hB;obtain⟨⟨⟨⟨hsz,du⟩,cu⟩,bG⟩,xn⟩:=hB;have wv:l.toArray[n]?=some al:=by simpa using jJ
 have sL:l.toArray[n+1]?=some st:=by simpa using aq
 rw[wv]at cu;rw[sL]at bG;simp only[Bool.and_eq_true,List.all_eq_true,List.mem_range,Option.isNone_iff_eq_none]at cu bG;obtain⟨⟨bB,haf⟩,cu⟩:=cu;obtain⟨cy,bG⟩:=bG;have yf:=Region.noSelect_spec du;generalize hops:l.toArray=ops at*;have cn:(l.take n).length=n:=by
  have:l.length=n+2:=by rw[<-hsz,<-hops];simp
  simp;omega
 have H:=zii (md:=.any) (n:=n) du (l.take n) 0 _ a (fun j hj=>by
  have sj:j<n:=by rw[cn]at hj;exact hj
  rw[<-hops];simp[sj]) (by simpa using cn) (by rw[cn];exact xn) mE
 rw[cn,hsz]at H;refine wp_region_any hm ?_;rw[hsz];have aw:(Array.replicate (n+2) false).size=n+2:=by simp
 have tZ:(Array.replicate (n+2) false).getD n true=false:=by simp
 have cC:(Array.replicate (n+2) false).getD (n+1) true=false:=by simp
 have ue:({w with drawn:=w.drawn+1}:World)=w.ext ⟨#[],w.drawn+1⟩:=by simp[World.ext]
 rw[ue];generalize(⟨#[],w.drawn+1⟩:Ez)=z0;generalize jt:Array.replicate (n+2) false=listed0 at*;clear jt mE xn ue;have rF:∀j oj,j<n->ops[j]?=some oj->al.apart ops oj=true/\∀e∈oj.after,e.on≠n:=fun j oj hj iK=>by
  have:=cu j hj;rw[iK]at this;simp only[Bool.and_eq_true,Array.all_eq_true',bne_iff_ne,ne_eq]at this;exact⟨this.1,fun e he=>this.2 e he⟩
 have qa:∀(listed:Array Bool) (j:Nat),j<n+1->listed.getD j true=false->n+1∉Region.ready .any ops listed:=fun listed j hj dE hr=>by
  obtain⟨_,o,ho,b9⟩:=mem_ready.1 hr;rw[sL]at ho;cases ho;obtain⟨e,he,hb⟩:=Array.any_eq_true'.1 (bG j hj);simp only[Bool.and_eq_true,beq_iff_eq]at hb;have:=b9 e he hb.1;rw[hb.2,getD_both dE]at this;cases this
 have ae:∀(listed:Array Bool) (j:Nat),j∈Region.ready .any ops listed->j<n\/j=n\/j=n+1:=fun listed j hj=>by
  obtain⟨_,o,ho,_⟩:=mem_ready.1 hj;have:=(Array.getElem?_eq_some_iff.1 ho).1;omega
 have Dz:∀t,Region.wanted al (yielded ops t)=true:=fun t=>by simp[Region.wanted,bB]
 have DD:∀t,Region.wanted st (yielded ops t)=true:=fun t=>by simp[Region.wanted,cy]
 have last:∀(listed:Array Bool) (aF:Act) (z:Ez) (B:Nat),Lq aF->zeL .any ops 0 n listed=true->w.heap.size<=B->(w.ext z).heap[B]?=some obj->
  wpAny P .any ops Q 1 (listed.setIfInBounds n true) (aF.put al.dst (.pointer (some ⟨B,0,none⟩))) (w.ext z):=fun listed aF z B hq hL eO hb=>by
  rw[<-hLq]at hq;obtain⟨hstore,h⟩:=hq;simp only[zeL,Bool.and_eq_true,decide_eq_true_eq]at hL;refine⟨fun h0=>(by rw[hL.1.2]at h0;cases h0),fun i hi=>?_⟩;rw[hL.1.2]at hi;have aH:i=n+1:=by simpa using hi
  subst aH;unfold wpOp;simp only[sL];rw[if_pos (DD _)];refine .inl ?_;obtain⟨W',hr,cJ,dq⟩:=hstore _ _ hb;unfold Oper.wp;rw[hr];refine⟨hL.2,h B W' ?_ eO cJ⟩;exact zaY ((zaq w z).grown dq (Below.size (zaq w z)) (fun k hk=>by cases hk;exact eO))
 have modeB:∀(f:Nat) (listed:Array Bool) (a:Act) (z:Ez) (B:Nat),listed.getD n true=false->w.heap.size<=B->(w.ext z).heap[B]?=some obj->
  zfI P .any ops w n (fun listed' a'=>zeL .any ops 0 n listed'=true/\Lq a') f listed a->
  wpAny P .any ops Q (f+1) (listed.setIfInBounds n true) (a.put al.dst (.pointer (some ⟨B,0,none⟩))) (w.ext z):=by
  intro f;induction f with
  |zero=>
   intro listed a z B _ eO hb hH;exact last listed a z B hH.2 hH.1 eO hb
  |succ f ih=>
   intro listed a z B dE eO hb hH;obtain⟨⟨i0,fm,xa⟩,b9⟩:=hH;have x9:=ready_mono fm (show i0≠n by omega);refine⟨fun h0=>(by rw[h0]at x9;cases x9),fun i hi=>?_⟩;have aH:i≠n:=by
    rintro rfl;have:=(mem_ready.1 hi).1;have hs:i<listed.size:=by
     rcases Nat.lt_or_ge i listed.size with h|h
     ·exact h
     ·simp[Array.getElem?_eq_none h]at dE
    simp[Array.getElem?_setIfInBounds,hs]at this
   rcases ae _ i hi with ae|ae|ae
   ·obtain⟨hu,oi,xJ,Cm⟩:=mem_ready.1 hi;obtain⟨nC,cX⟩:=rF i oi ae xJ
    have hr:i∈Region.ready .any ops listed:=mem_ready.2 ⟨by rw[getD_set_ne true (Ne.symm aH)]at hu;exact hu,oi,xJ,fun e he hb=>by
     have:=Cm e he hb;rw[getD_set_ne false (Ne.symm (cX e he))]at this
     exact this⟩
    obtain⟨o,v,ho,hy,vJ⟩:=b9 i hr ae;rw[xJ]at ho;cases ho;obtain⟨h1,h2,h3⟩:=Oper.apart_spec nC;refine zfD xJ (hy.put' h1 (fun cs b=>yf i oi cs b xJ)) fun z'=>?_
    rw[<-Array.setIfInBounds_comm _ _ aH,Act.put_comm a _ v h2,zhP];refine ih _ _ _ B (by rw[getD_set_ne true aH];exact dE) eO ?_ vJ;rw[<-zhP,zcJ _ _ _ (Array.getElem?_eq_some_iff.1 hb).1];exact hb
   ·exact absurd ae aH
   ·subst ae;have L8:(listed.setIfInBounds n true).getD i0 true=false:=by rw[getD_set_ne true (by omega)];exact(mem_ready.1 fm).1
    exact absurd hi (qa _ i0 (by omega) L8)
 have modeA:∀(f:Nat) (listed:Array Bool) (a:Act) (z:Ez),listed.getD n true=false->
  zfI P .any ops w n (fun listed' a'=>zeL .any ops 0 n listed'=true/\Lq a') f listed a->
  wpAny P .any ops Q (f+2) listed a (w.ext z):=by
  have make:∀(f:Nat) (listed:Array Bool) (a:Act) (z:Ez),listed.getD n true=false->zfI P .any ops w n (fun listed' a'=>zeL .any ops 0 n listed'=true/\Lq a') f listed a->
   wpOp P ops Q n (wpAny P .any ops Q (f+1) (listed.setIfInBounds n true)) a (w.ext z):=fun f listed a z dE hH=>by
   unfold wpOp;simp only[wv];rw[if_pos (Dz _)];refine .inl ?_;unfold Oper.wp;rw[hrun];obtain⟨z',Ls⟩:=alloc_ext (w.ext z) obj;have hb:=heap_alloc_new (w.ext z) obj;have oW:w.heap.size<=(w.ext z).heap.size:=by rw[zaf];omega
   show wpAny P .any ops Q (f+1) (listed.setIfInBounds n true) (a.put al.dst (.pointer (some ⟨(w.ext z).heap.size,0,none⟩))) ((w.ext z).alloc obj);generalize(w.ext z).heap.size=B at*;rw[Ls,zhP]at hb⊢;exact modeB f listed a _ B dE oW hb hH
  intro f;induction f with
  |zero=>
   intro listed a z dE hH;have hL:=hH.1;simp only[zeL,Bool.and_eq_true,decide_eq_true_eq]at hL;refine⟨fun h0=>(by rw[hL.1.1]at h0;cases h0),fun i hi=>?_⟩;rw[hL.1.1]at hi;have aH:i=n:=by simpa using hi
   subst aH;exact make 0 listed a z dE hH
  |succ f ih=>
   intro listed a z dE hH;obtain⟨⟨i0,fm,xa⟩,b9⟩:=hH;refine⟨fun h0=>(by rw[h0]at fm;cases fm),fun i hi=>?_⟩;rcases ae _ i hi with ae|ae|ae
   ·obtain⟨o,v,ho,hy,vJ⟩:=b9 i hi ae;refine zfD ho hy fun z'=>?_
    rw[zhP];exact ih _ _ _ (by rw[getD_set_ne true (by omega)];exact dE) vJ
   ·subst ae;exact make (f+1) listed a z dE ⟨⟨i0,fm,xa⟩,b9⟩
   ·subst ae;exact absurd hi (qa _ i0 (by omega) (mem_ready.1 fm).1)
 exact modeA n listed0 a z0 tZ H
end
theorem quietg{P:Program}{f:FuncId}{args:Array Value}{W:World}{v:Value}(h:Calls P f args W (Ret W v)):Calls P f args W fun e w''=>e=.returned v/\∃z,w''=W.ext z:=h
