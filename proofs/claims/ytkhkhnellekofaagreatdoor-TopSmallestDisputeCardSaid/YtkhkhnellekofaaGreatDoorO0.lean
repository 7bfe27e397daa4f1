/- Plain law of replays: up to a day; circles by way of records. -/
import Derived.Shelf.Small.Strs
import Derived.Shelf.SlicesE.Clone
import Derived.Shelf.SlicesE.Index
import Derived.Shelf.SlicesQ.Contains
import Derived.Shelf.Spec.TrailingZeros
import Derived.Test.YtkhkhnellekofaaGreatDoorU0
import Derived.Test.YtkhkhnellekofaaGreatDoorJS
import Derived.Lib.Bytealg
import Derived.Test.YtkhkhnellekofaaGreatDoorNG
set_option linter.unusedSimpArgs false
set_option linter.unusedVariables false
namespace Go.Proofs.YtkhkhnellekofaaGreatDoor
open Go.RowKit Go.Shelf
def cmpStr_ren:Go.Shelf.Ren:=⟨fun|106=>147|213=>155|265=>168|n=>n,fun|9=>9|3=>3|n=>n,fun|n=>n⟩
theorem cmpStr:Go.Proofs.Lays.n106 Tryz.prog cmpStr_ren:= {
 mixed:=by kernel_rfl
 f106:=Tryz.func147.trans (congrArg some (by kernel_rfl))
 f213:=Tryz.func155.trans (congrArg some (by kernel_rfl))
 f265:=Tryz.func168.trans (congrArg some (by kernel_rfl))
 t3:=Tryz.underlying3
 a3:=Tryz.isAgg3
 z3:=Tryz.sizeOf3
 v3:=Tryz.zeroValue3
 t9:=Tryz.underlying9
 a9:=Tryz.isAgg9
 z9:=Tryz.sizeOf9
 v9:=Tryz.zeroValue9}
def coStr_ren:Go.Shelf.Ren:=⟨fun|31=>82|29=>104|n=>n,fun|22=>86|23=>9|4=>4|3=>3|0=>0|n=>n,fun|n=>n⟩
theorem coStr:Go.Proofs.SlLaysE.n31 Tryz.prog coStr_ren:= {
 mixed:=by kernel_rfl
 f29:=⟨Tryz.f104.name,by decide,Tryz.func104.trans (congrArg some (by kernel_rfl))⟩
 f31:=⟨Tryz.f82.name,by decide,Tryz.func82.trans (congrArg some (by kernel_rfl))⟩
 t0:=Tryz.underlying0
 a0:=Tryz.isAgg0
 z0:=Tryz.sizeOf0
 v0:=Tryz.zeroValue0
 t3:=Tryz.underlying3
 a3:=Tryz.isAgg3
 z3:=Tryz.sizeOf3
 v3:=Tryz.zeroValue3
 t4:=Tryz.underlying4
 a4:=Tryz.isAgg4
 z4:=Tryz.sizeOf4
 v4:=Tryz.zeroValue4
 t22:=Tryz.underlying86
 a22:=Tryz.isAgg86
 z22:=Tryz.sizeOf86
 v22:=Tryz.zeroValue86
 a23:=Tryz.isAgg9
 z23:=Tryz.sizeOf9}
def coPair_ren:Go.Shelf.Ren:=⟨fun|7=>102|6=>113|n=>n,fun|22=>106|24=>138|4=>4|0=>0|3=>3|n=>n,fun|n=>n⟩
theorem coPair:Go.Proofs.SlLaysQ.n7 Tryz.prog coPair_ren:= {
 mixed:=by kernel_rfl
 f6:=⟨Tryz.f113.name,by decide,Tryz.func113.trans (congrArg some (by kernel_rfl))⟩
 f7:=⟨Tryz.f102.name,by decide,Tryz.func102.trans (congrArg some (by kernel_rfl))⟩
 t0:=Tryz.underlying0
 a0:=Tryz.isAgg0
 z0:=Tryz.sizeOf0
 v0:=Tryz.zeroValue0
 t3:=Tryz.underlying3
 a3:=Tryz.isAgg3
 z3:=Tryz.sizeOf3
 v3:=Tryz.zeroValue3
 t4:=Tryz.underlying4
 a4:=Tryz.isAgg4
 z4:=Tryz.sizeOf4
 v4:=Tryz.zeroValue4
 t22:=Tryz.underlying106
 a22:=Tryz.isAgg106
 z22:=Tryz.sizeOf106
 v22:=Tryz.zeroValue106}
def tzBits_ren:Go.Shelf.Ren:=⟨fun|27=>65|28=>94|29=>95|n=>n,fun|25=>95|3=>3|27=>124|22=>126|4=>4|53=>147|0=>0|5=>5|54=>148|n=>n,fun|0=>1|1=>2|n=>n⟩
theorem tzBits:Go.Proofs.Lays7.n27 Tryz.prog tzBits_ren:= {
 mixed:=by kernel_rfl
 f27:=Tryz.func65.trans (congrArg some (by kernel_rfl))
 f28:=Tryz.func94.trans (congrArg some (by kernel_rfl))
 f29:=Tryz.func95.trans (congrArg some (by kernel_rfl))
 t0:=Tryz.underlying0
 a0:=Tryz.isAgg0
 z0:=Tryz.sizeOf0
 v0:=Tryz.zeroValue0
 i0:=by kernel_rfl
 t3:=Tryz.underlying3
 a3:=Tryz.isAgg3
 z3:=Tryz.sizeOf3
 v3:=Tryz.zeroValue3
 i3:=by kernel_rfl
 t4:=Tryz.underlying4
 a4:=Tryz.isAgg4
 z4:=Tryz.sizeOf4
 v4:=Tryz.zeroValue4
 i4:=by kernel_rfl
 t5:=Tryz.underlying5
 a5:=Tryz.isAgg5
 z5:=Tryz.sizeOf5
 v5:=Tryz.zeroValue5
 i5:=by kernel_rfl
 t22:=Tryz.underlying126
 a22:=Tryz.isAgg126
 z22:=Tryz.sizeOf126
 v22:=Tryz.zeroValue126
 i22:=by kernel_rfl
 t25:=Tryz.underlying95
 a25:=Tryz.isAgg95
 z25:=Tryz.sizeOf95
 v25:=Tryz.zeroValue95
 i25:=by kernel_rfl
 t27:=Tryz.underlying124
 a27:=Tryz.isAgg124
 z27:=Tryz.sizeOf124
 v27:=Tryz.zeroValue124
 i27:=by kernel_rfl
 t53:=Tryz.underlying147
 a53:=Tryz.isAgg147
 z53:=Tryz.sizeOf147
 v53:=Tryz.zeroValue147
 i53:=by kernel_rfl
 t54:=Tryz.underlying148
 a54:=Tryz.isAgg148
 z54:=Tryz.sizeOf148
 g0:=by kernel_rfl
 g1:=by kernel_rfl}
end Go.Proofs.YtkhkhnellekofaaGreatDoor
namespace Go.Proofs.YtkhkhnellekofaaGreatDoor
open Go.RowKit
def IsN (n:Nat) (q:Rat):Prop:= ∃k:Int,q*(n:Rat)=(k:Rat)
theorem isN_add {n:Nat} {p q:Rat} (h:IsN n p) (k:IsN n q):IsN n (p+q):=by
 obtain⟨a,ha⟩:=h
 obtain⟨b,hb⟩:=k
 refine⟨a+b,?_⟩
 rw[Rat.intCast_add,<-ha,<-hb]
 grind
theorem isN_sub {n:Nat} {p q:Rat} (h:IsN n p) (k:IsN n q):IsN n (p-q):=by
 obtain⟨a,ha⟩:=h
 obtain⟨b,hb⟩:=k
 refine⟨a-b,?_⟩
 rw[Rat.intCast_sub,<-ha,<-hb]
 grind
theorem isN_mul {n m:Nat} {p q:Rat} (h:IsN n p) (k:IsN m q):IsN (n*m) (p*q):=by
 obtain⟨a,ha⟩:=h
 obtain⟨b,hb⟩:=k
 refine⟨a*b,?_⟩
 rw[Rat.intCast_mul,<-ha,<-hb,Rat.natCast_mul]
 grind
theorem isN_up {n m:Nat} {q:Rat} (h:IsN n q):IsN (n*m) q:=by
 obtain⟨a,ha⟩:=h
 refine⟨a*m,?_⟩
 rw[Rat.intCast_mul,<-ha,Rat.natCast_mul,Rat.intCast_natCast]
 grind
theorem isN_one (n:Nat):IsN n 1:=⟨n,by rw[Rat.intCast_natCast];grind⟩
theorem isN_zero (n:Nat):IsN n 0:=⟨0,by grind⟩
theorem isN_den {n:Nat} {q:Rat} (hn:0<n) (h:IsN n q):(q.den:Int)<=n:=by
 obtain⟨a,ha⟩:=h
 have h0:=ratN (n:=n) (by omega)
 have e:q=Rat.divInt a n:=by
  rw[Rat.divInt_eq_div,Rat.intCast_natCast,<-ha]
  grind
 rw[e,divInt_den (by omega)]
 exact Int.ediv_le_self _ (by omega)
theorem share_isN {num den:Int} (h:isShareP 16 num den=true):IsN 720720 (Rat.divInt num den):=by
 have hs:=share_rat h
 unfold isShareP at h
 simp only[Bool.and_eq_true,decide_eq_true_eq]at h
 obtain⟨⟨⟨h1,h2⟩,_⟩,_⟩:=h
 obtain⟨m,hm⟩: ∃m:Int,720720=den*m:=by
  have:den=1\/den=2\/den=3\/den=4\/den=5\/den=6\/den=7\/den=8\/den=9\/den=10\/den=11\/den=12\/den=13\/den=14\/den=15\/den=16:=by omega
  rcases this with rfl|rfl|rfl|rfl|rfl|rfl|rfl|rfl|rfl|rfl|rfl|rfl|rfl|rfl|rfl|rfl
  all_goals first|exact⟨720720,rfl⟩|exact⟨360360,rfl⟩|exact⟨240240,rfl⟩|exact⟨180180,rfl⟩|exact⟨144144,rfl⟩|exact⟨120120,rfl⟩|exact⟨102960,rfl⟩|exact⟨90090,rfl⟩|exact⟨80080,rfl⟩|exact⟨72072,rfl⟩|exact⟨65520,rfl⟩|exact⟨60060,rfl⟩|exact⟨55440,rfl⟩|exact⟨51480,rfl⟩|exact⟨48048,rfl⟩|exact⟨45045,rfl⟩
 refine⟨num*m,?_⟩
 have hd:(den:Rat)≠0:=ratI (by omega)
 have e:((720720:Nat):Rat)=(den:Rat)*(m:Rat):=by
  rw[<-Rat.intCast_mul,<-hm]
  rfl
 rw[Rat.divInt_eq_div,e,Rat.intCast_mul]
 grind
theorem given_isN {n:Nat} {nm:ByteArray} {q:Rat} (hq:IsN n q): ∀ {l:Parts},(∀p∈l,IsN n p.2)-> ∀p∈givenP l nm q,IsN n p.2
 | [],_,p,hp=>by
   unfold givenP at hp
   split at hp
   ·cases hp
   ·simp at hp;rw[hp];exact hq
 |x::r,h,p,hp=>by
  have hr:=given_isN (nm:=nm) hq (l:=r) fun p hp=>h p (by simp[hp])
  unfold givenP at hp
  split at hp
  ·exact h p hp
  ·split at hp
   ·rcases List.mem_cons.1 hp with rfl|hp
    ·exact h _ (by simp)
    ·exact hr p hp
   ·split at hp
    ·rcases List.mem_cons.1 hp with rfl|hp
     ·exact isN_add (h x (by simp)) hq
     ·exact h p (by simp[hp])
    ·rcases List.mem_cons.1 hp with rfl|hp
     ·exact hq
     ·exact h p hp
theorem small_of {n:Nat} (h0:0<n) (h1:n<=1000000000) {l:Parts} (h: ∀p∈l,IsN n p.2):largeP l=false:=by
 unfold largeP
 rw[List.any_eq_false]
 intro p hp
 have:=isN_den h0 (h p hp)
 unfold bigQ
 simp
 omega
structure WillOk (l:Parts):Prop where
 pos: ∀p∈l,0<p.2
 isN: ∀p∈l,IsN 720720 p.2
 le:sumQ l<=1
theorem will_go {s:St} {frm:ByteArray}: ∀ {l out:Parts} {rest:Rat},(∀p∈l,0<p.2)->(∀p∈l,IsN 720720 p.2)->sumQ l<=rest->GoodParts out->(∀p∈out,IsN 720720 p.2)->IsN 720720 rest->
 GoodParts (willGo s frm l out rest).1/\(∀p∈(willGo s frm l out rest).1,IsN 720720 p.2)/\IsN 720720 (willGo s frm l out rest).2/\0<=(willGo s frm l out rest).2/\sumQ (willGo s frm l out rest).1+(willGo s frm l out rest).2=sumQ out+rest
 | [],out,rest,_,_,hs,hg,hn,hr=>by
   rw[willGo]
   exact⟨hg,hn,hr,by simpa[sumQ]using hs,rfl⟩
 |p::l,out,rest,hp,hN,hs,hg,hn,hr=>by
  have hp0:=hp p (by simp)
  have hl:=fun q (hq:q∈l)=>hp q (by simp[hq])
  have hNl:=fun q (hq:q∈l)=>hN q (by simp[hq])
  rw[sumQ]at hs
  rw[willGo]
  split
  ·have ih:=will_go (s:=s) (frm:=frm) hl hNl (rest:=rest-p.2) (out:=givenP out p.1 p.2) (by grind) (given_good (by grind) hg) (given_isN (hN p (by simp)) hn) (isN_sub hr (hN p (by simp)))
   refine⟨ih.1,ih.2.1,ih.2.2.1,ih.2.2.2.1,?_⟩
   rw[ih.2.2.2.2,sum_given]
   grind
  ·exact will_go (s:=s) (frm:=frm) hl hNl (by grind) hg hn hr
theorem good_nil:GoodParts []:=⟨List.Pairwise.nil,by simp⟩
theorem estate_good {s:St} {law:Law} {n:ByteArray} {o:Parts} (hw:WillOk (willOf s n)) (hl:isShareP 16 law.num law.den=true) (h:estateP s law n=some o):GoodParts o/\sumQ o=1/\largeP o=false:=by
 unfold estateP at h
 have hg:=will_go (s:=s) (frm:=n) (out:=[]) (rest:=1) hw.pos hw.isN hw.le good_nil (by simp) (isN_one _)
 generalize hq:willGo s n (willOf s n) [] 1=q at*
 obtain⟨out,rest⟩:=q
 dsimp only at h hg
 obtain⟨g1,g2,g3,g4,g5⟩:=hg
 rw[sumQ]at g5
 split at h
 ·rename_i h0
  cases h
  have:rest=0:=by simpa using h0
  exact⟨g1,by grind,small_of (by decide) (by decide) g2⟩
 rename_i h0
 have hr0:rest≠0:=by simpa using h0
 generalize hsp:(if ableP s (spouseP s n) n=true then spouseP s n else⟨#[]⟩)=sp at*
 split at h
 ·cases h
  refine⟨given_good g4 g1,by rw[sum_given];grind,small_of (by decide) (by decide) (given_isN g3 g2)⟩
 rename_i hne
 have hlen:(treesP s law.stems n (generations s) n).length≠0:=by
  intro e
  rw[List.eq_nil_of_length_eq_zero e]at hne
  exact hne rfl
 have hok:=trees_ok s law.stems n (generations s) n
 generalize treesP s law.stems n (generations s) n=ts at*
 obtain⟨_,_,l1,l2⟩:=share_rat hl
 have hd:isShareP 16 law.num law.den=true:=hl
 have hN:IsN 720720 (Rat.divInt law.num law.den):=share_isN hl
 have key: ∃own out2,own=(if noB sp=true then 0 else rest*Rat.divInt law.num law.den)/\out2=(if noB sp=true then out else givenP out sp own)/\0<=own/\own<=rest/\GoodParts out2/\sumQ out2=sumQ out+own/\largeP out2=false:=by
  by_cases hs:noB sp=true
  ·exact⟨0,out,by rw[if_pos hs],by rw[if_pos hs],by grind,g4,g1,by grind,small_of (by decide) (by decide) g2⟩
  ·have h1:0<=rest*Rat.divInt law.num law.den:=Rat.mul_nonneg g4 l1
   have h2:rest*Rat.divInt law.num law.den<=rest:=by
    have:=Rat.mul_le_mul_of_nonneg_left l2 g4
    grind
   refine⟨rest*Rat.divInt law.num law.den,givenP out sp (rest*Rat.divInt law.num law.den),by rw[if_neg hs],by rw[if_neg hs],h1,h2,given_good h1 g1,sum_given _ _ _,?_⟩
   have hdd: ∃d:Nat,0<d/\d<=16/\IsN d (Rat.divInt law.num law.den):=by
    unfold isShareP at hd
    simp only[Bool.and_eq_true,decide_eq_true_eq]at hd
    refine⟨law.den.toNat,by omega,by omega,law.num,?_⟩
    have hz:(law.den:Rat)≠0:=ratI (by omega)
    have e:((law.den.toNat:Nat):Rat)=(law.den:Rat):=by rw[<-Rat.intCast_natCast,Int.toNat_of_nonneg (by omega)]
    rw[Rat.divInt_eq_div,e]
    grind
   obtain⟨d,d0,d1,hdN⟩:=hdd
   exact small_of (n:=720720*d) (by omega) (by omega) (given_isN (isN_mul g3 hdN) fun p hp=>isN_up (g2 p hp))
 obtain⟨own,out2,ho,ho2,k0,k1,k2,k3,k4⟩:=key
 rw[<-ho,<-ho2]at h
 split at h
 ·rename_i hz
  cases h
  have:rest-own=0:=by simpa using hz
  exact⟨k2,by grind,k4⟩
 ·split at h
  ·cases h
  ·have hnn:0<=(rest-own)/(ts.length:Rat):=rat_div_nonneg (by grind) Rat.natCast_nonneg
   obtain⟨m1,m2⟩:=spread_good hnn k2 k4 h
   refine⟨m1,?_,m2⟩
   rw[spread_sum hok h,k3]
   have:=ratN hlen
   grind
end Go.Proofs.YtkhkhnellekofaaGreatDoor
namespace Go.Proofs.YtkhkhnellekofaaGreatDoor
open Go.RowKit
theorem gain_good {own:Rat} (h0:0<=own): ∀ {l out o:Parts},(∀p∈l,0<=p.2)->GoodParts out->largeP out=false->gainGo own l out=some o->GoodParts o/\largeP o=false/\sumQ o=sumQ out+own*sumQ l
 | [],out,o,_,hg,hl,h=>by
   rw[gainGo]at h
   cases h
   exact⟨hg,hl,by rw[sumQ];grind⟩
 |p::l,out,o,hp,hg,hl,h=>by
  rw[gainGo]at h
  split at h
  ·cases h
  split at h
  ·cases h
  ·rename_i hb
   have hm:0<=own*p.2:=Rat.mul_nonneg h0 (hp p (by simp))
   obtain⟨h1,h2,h3⟩:=gain_good h0 (fun q hq=>hp q (by simp[hq])) (given_good hm hg) (by simpa using hb) h
   refine⟨h1,h2,?_⟩
   rw[h3,sum_given,sumQ]
   grind
structure GoodG (g:Grave):Prop where
 good:GoodParts g.holders
 small:largeP g.holders=false
 one:g.holders=[]\/sumQ g.holders=1
theorem share_nonneg {l:Parts} (h:GoodParts l) (n:ByteArray):0<=shareP l n:=by
 unfold shareP
 cases hf:l.find? (fun p=>sameB p.1 n)with
 |none=>exact Rat.le_refl
 |some p=>
  have:=h.pos p (List.mem_of_find?_eq_some hf)
  show 0<=p.2
  grind
theorem share_some {l:Parts} {n:ByteArray} (h:shareP l n≠0):l≠[]:=by
 rintro rfl
 exact h rfl
theorem large_sub {l m:Parts} (h: ∀p∈m,p∈l) (hl:largeP l=false):largeP m=false:=by
 unfold largeP at*
 rw[List.any_eq_false]at*
 exact fun p hp=>hl p (h p hp)
theorem without_small {l:Parts} (n:ByteArray) (h:largeP l=false):largeP (withoutP l n)=false:=large_sub (fun p hp=>(List.mem_filter.1 hp).1) h
theorem given_small {n:ByteArray} {q:Rat} (hq:bigQ q=false): ∀ {l:Parts},(∀p∈l,p.1≠n)->largeP l=false->largeP (givenP l n q)=false
 | [],_,_=>by
   unfold givenP
   split
   ·rfl
   ·simp[largeP,hq]
 |x::r,hn,hl=>by
  have hl2:bigQ x.2=false/\largeP r=false:=by simpa[largeP]using hl
  have ih:=given_small hq (l:=r) (fun p hp=>hn p (by simp[hp])) hl2.2
  unfold givenP
  split
  ·exact hl
  ·split
   ·unfold largeP at ih⊢
    rw[List.any_cons,hl2.1,ih]
    rfl
   ·split
    ·rename_i hs
     exact absurd (same_iff.1 hs) (hn x (by simp))
    ·unfold largeP at hl⊢
     rw[List.any_cons,hq,hl]
     rfl
theorem without_ne {l:Parts} {n:ByteArray}: ∀p∈withoutP l n,p.1≠n:=by
 intro p hp
 unfold withoutP at hp
 have:=(List.mem_filter.1 hp).2
 exact same_ne.1 (by simpa using this)
theorem transfer_good {g:Grave} {frm:ByteArray} {l out:Parts} (hg:GoodG g) (hs:shareP g.holders frm≠0) (hp: ∀p∈l,0<p.2) (hl:sumQ l<=1) (hk:bigQ (shareP g.holders frm*(1-sumQ l))=false)
 (h:gainGo (shareP g.holders frm) l (givenP (withoutP g.holders frm) frm (shareP g.holders frm*(1-sumQ l)))=some out):GoodG {g with holders:=out}:=by
 have h0:=share_nonneg hg.good frm
 have hkn:0<=shareP g.holders frm*(1-sumQ l):=Rat.mul_nonneg h0 (by grind)
 obtain⟨h1,h2,h3⟩:=gain_good h0 (fun p hp'=>by have:=hp p hp';grind) (given_good hkn (without_good hg.good)) (given_small hk without_ne (without_small frm hg.small)) h
 refine⟨h1,h2, .inr ?_⟩
 have hw:=without_sum (n:=frm) hg.good
 rcases hg.one with e|e
 ·exact absurd e (share_some hs)
 ·show sumQ out=1
  rw[h3,sum_given]
  grind
theorem sum_div (d:Rat): ∀l:Parts,sumQ (l.map fun p=>(p.1,p.2/d))=sumQ l/d
 | []=>by simp only[List.map_nil,sumQ];rw[Rat.div_def];grind
 |p::l=>by
  rw[List.map_cons,sumQ,sumQ,sum_div d l]
  rw[Rat.div_def,Rat.div_def,Rat.div_def]
  grind
theorem sum_zero {l:Parts} (h: ∀p∈l,0<p.2) (hs:sumQ l=0):l=[]:=by
 cases l with
 |nil=>rfl
 |cons x r=>
  have hx:=h x (by simp)
  have:=sum_nonneg (l:=r) fun p hp=>by have:=h p (by simp[hp]);grind
  rw[sumQ]at hs
  grind
theorem sum_le_mem {l:Parts} (h: ∀p∈l,0<p.2):0<=sumQ l:=sum_nonneg fun p hp=>by have:=h p hp;grind
theorem surrender_good {g:Grave} {frm:ByteArray} (hg:GoodG g) (hs:shareP g.holders frm≠0) (hl:largeP ((withoutP g.holders frm).map fun p=>(p.1,p.2/(1-shareP g.holders frm)))=false):
 GoodG {g with holders:=(withoutP g.holders frm).map fun p=>(p.1,p.2/(1-shareP g.holders frm))}:=by
 have hw:=without_sum (n:=frm) hg.good
 have h1:sumQ g.holders=1:=by
  rcases hg.one with e|e
  ·exact absurd e (share_some hs)
  ·exact e
 have hgw:=without_good (n:=frm) hg.good
 have hnn:=sum_le_mem hgw.pos
 by_cases hz:1-shareP g.holders frm=0
 ·have he:withoutP g.holders frm=[]:=sum_zero hgw.pos (by grind)
  have e2:((withoutP g.holders frm).map fun p=>(p.1,p.2/(1-shareP g.holders frm)))=[]:=by rw[he];rfl
  rw[e2]
  exact⟨good_nil,rfl, .inl rfl⟩
 ·have hd:0<1-shareP g.holders frm:=by grind
  refine⟨⟨List.pairwise_map.2 hgw.asc,fun p hp=> ?_⟩,hl, .inr ?_⟩
  ·obtain⟨q,hq,rfl⟩:=List.mem_map.1 hp
   have:=hgw.pos q hq
   show 0<q.2/(1-shareP g.holders frm)
   rw[Rat.div_def]
   exact Rat.mul_pos this (Rat.inv_pos.2 hd)
  ·show sumQ _=1
   rw[sum_div,show sumQ (withoutP g.holders frm)=1-shareP g.holders frm by grind,Rat.div_def]
   exact Rat.mul_inv_cancel _ hz
theorem inherit_good {g:Grave} {n:ByteArray} {heirs out:Parts} (hg:GoodG g) (hs:shareP g.holders n≠0) (hh:GoodParts heirs) (h1:sumQ heirs=1) (h:gainGo (shareP g.holders n) heirs (withoutP g.holders n)=some out):GoodG {g with holders:=out,died:=g.died++[n]}:=by
 obtain⟨k1,k2,k3⟩:=gain_good (share_nonneg hg.good n) (fun p hp=>by have:=hh.pos p hp;grind) (without_good hg.good) (without_small n hg.small) h
 refine⟨k1,k2, .inr ?_⟩
 have hw:=without_sum (n:=n) hg.good
 rcases hg.one with e|e
 ·exact absurd e (share_some hs)
 ·show sumQ out=1
  rw[k3,h1]
  grind
end Go.Proofs.YtkhkhnellekofaaGreatDoor
namespace Go.Proofs.YtkhkhnellekofaaGreatDoor
open Go.RowKit
theorem name_not {s:ByteArray} (h:isNameP s=true):noB s=false:=by
 unfold isNameP at h
 simp only[Bool.and_eq_true,Bool.not_eq_true']at h
 exact h.2.1
structure OkD (d:Deed):Prop where
 kind:0<=d.kind/\d.kind<=8
 day:0<=d.day/\d.day<=200000
 years:0<=d.years/\d.years<=99
 cls:0<=d.cls/\d.cls<=4
 len:d.to.length<=8
 names: ∀p∈d.to,isNameP p.name=true
 place:(d.kind=0\/d.kind=1\/d.kind=2\/d.kind=3)->isNameP d.place=true
 frm: ¬(d.kind=0\/d.kind=3)->isNameP d.frm=true
 grantor:(d.kind=0\/d.kind=3)->noB d.frm=true
 parts:(d.kind=0\/d.kind=1\/d.kind=4)->d.to≠[]/\partsOk true (d.kind==0) d.frm d.to=true
 one:(d.kind=5\/d.kind=6\/d.kind=7)->d.to.length=1/\partsOk false false d.frm d.to=true
 none:(d.kind=2\/d.kind=3\/d.kind=8)->d.to=[]
theorem inR_iff5 {n lo hi:Int}:inR n lo hi=true↔lo<=n/\n<=hi:=by unfold inR;simp
theorem deed_ok {d:Deed} (h:checkDeedP d=0):OkD d:=by
 unfold checkDeedP at h
 split at h
 ·simp at h
 rename_i h1
 split at h
 ·simp at h
 rename_i h2
 split at h
 ·simp at h
 rename_i h3
 split at h
 ·simp at h
 rename_i h4
 split at h
 ·simp at h
 rename_i h5
 simp only[Bool.not_eq_true',Bool.not_eq_false,inR_iff5]at h1
 simp only[Bool.or_eq_true,Bool.not_eq_true',not_or,Bool.not_eq_false,isDayP,inR_iff5]at h2
 simp only[Bool.or_eq_true,Bool.not_eq_true',not_or,Bool.not_eq_false,List.all_eq_true,nameOr]at h4
 simp only[Bool.not_eq_true',Bool.not_eq_false]at h5
 simp only[decide_eq_true_eq,Nat.not_lt]at h3
 unfold formedP at h5
 obtain⟨⟨hd,hc⟩,hy⟩:=h2
 obtain⟨⟨hp,hf⟩,hn⟩:=h4
 have hkk:d.kind=0\/d.kind=1\/d.kind=2\/d.kind=3\/d.kind=4\/d.kind=5\/d.kind=6\/d.kind=7\/d.kind=8:=by omega
 refine⟨h1,hd,hy,hc,h3,hn,?_,?_,?_,?_,?_,?_⟩
 all_goals rcases hkk with k|k|k|k|k|k|k|k|k<;>simp_all
theorem kids_append {s:St} {a b x:ByteArray}:childrenP {s with children:=s.children++[(a,b)]} x=childrenP s x++(if sameB a x then[b]else[]):=by
 unfold childrenP
 rw[List.filter_append,List.map_append]
 congr 1
 by_cases h:sameB a x=true
 ·rw[if_pos h,List.filter_cons,if_pos h];rfl
 ·rw[if_neg h,List.filter_cons,if_neg h];rfl
theorem acyc_append {s:St} {a b:ByteArray} (h: ∀x,¬Desc s x x) (hn: ¬Desc s b a) (hne:a≠b): ∀x,¬Desc {s with children:=s.children++[(a,b)]} x x:=by
 have key: ∀x y,Desc {s with children:=s.children++[(a,b)]} x y->Desc s x y\/((x=a\/Desc s x a)/\(y=b\/Desc s b y)):=by
  intro x y hxy
  unfold Desc at hxy
  induction hxy with
  |single hc=>
   rw[kids_append]at hc
   rcases List.mem_append.1 hc with hc|hc
   ·exact .inl (desc_child hc)
   ·split at hc
    ·rename_i hs
     simp only[List.mem_singleton]at hc
     exact .inr ⟨.inl (same_iff.1 hs).symm, .inl hc⟩
    ·cases hc
  |tail _ hc ih=>
   rw[kids_append]at hc
   rcases List.mem_append.1 hc with hc|hc
   ·rcases ih with ih|⟨i1,i2⟩
    ·exact .inl (desc_step ih hc)
    ·refine .inr ⟨i1, .inr ?_⟩
     rcases i2 with i2|i2
     ·rw[i2]at hc;exact desc_child hc
     ·exact desc_step i2 hc
   ·split at hc
    ·rename_i hs
     simp only[List.mem_singleton]at hc
     have e:=same_iff.1 hs
     rcases ih with ih|⟨i1,i2⟩
     ·exact .inr ⟨.inr (by rw[e];exact ih), .inl hc⟩
     ·exfalso
      rcases i2 with i2|i2
      ·exact hne (e.trans i2)
      ·exact hn (by rw[e];exact i2)
    ·cases hc
 intro x hx
 rcases key x x hx with k|⟨k1,k2⟩
 ·exact h x k
 ·rcases k1 with rfl|k1<;>rcases k2 with k2|k2
  ·exact hne k2
  ·exact hn k2
  ·rw[k2]at k1;exact hn k1
  ·exact hn (desc_trans k2 k1)
structure GoodSt (s:St) (last:Int):Prop where
 graves: ∀g∈s.graves,GoodG g
 force: ∀(i j:Nat) (gi gj:Grave),s.graves[i]?=some gi->s.graves[j]?=some gj->gi.place=gj.place-> ∀day,last<=day->inForceP gi day=true->inForceP gj day=true->i=j
 wills: ∀n,WillOk (willOf s n)
 acyc: ∀a,¬Desc s a a
 kids: ∀c∈s.children,noB c.1=false/\noB c.2=false
 marr: ∀m∈s.marriages,m.1≠m.2/\noB m.1=false/\noB m.2=false
 willNames: ∀w∈s.wills,∀p∈w.2,noB p.1=false
 dead: ∀n∈s.dead,noB n=false
theorem good_zero (last:Int):GoodSt zeroSt last:=by
 refine⟨by simp[zeroSt],by simp[zeroSt],fun n=>⟨by simp[zeroSt,willOf],by simp[zeroSt,willOf],by simp only[zeroSt,willOf,List.reverse_nil,List.find?_nil,Option.map_none,Option.getD_none,sumQ];decide⟩,fun a=>desc_none rfl,by simp[zeroSt],by simp[zeroSt],by simp[zeroSt],by simp[zeroSt]⟩
theorem force_down {g:Grave} {d e:Int} (h:d<=e) (hf:inForceP g e=true):inForceP g d=true:=by
 unfold inForceP at*
 simp only[Bool.and_eq_true,Bool.or_eq_true,decide_eq_true_eq]at*
 refine⟨hf.1,?_⟩
 rcases hf.2 with k|k
 ·exact .inl k
 ·exact .inr (by omega)
theorem graveIx_some {s:St} {place:ByteArray} {day:Int} {i:Nat} (h:graveIx s place day=some i): ∃g,s.graves[i]?=some g/\g.place=place/\inForceP g day=true:=by
 unfold graveIx at h
 rw[List.findIdx?_eq_some_iff_getElem]at h
 obtain⟨hi,h1,_⟩:=h
 rw[Bool.and_eq_true,same_iff]at h1
 exact⟨_,List.getElem?_eq_getElem hi,h1.1,h1.2⟩
theorem graveIx_none {s:St} {place:ByteArray} {day:Int} (h:graveIx s place day=none): ∀g∈s.graves,g.place=place->inForceP g day=false:=by
 unfold graveIx at h
 rw[List.findIdx?_eq_none_iff]at h
 intro g hg hp
 have:=h g hg
 rw[same_iff.2 hp,Bool.true_and]at this
 exact this
end Go.Proofs.YtkhkhnellekofaaGreatDoor
namespace Go.Proofs.YtkhkhnellekofaaGreatDoor
open Go.RowKit
theorem GoodSt.later {s:St} {a b:Int} (h:GoodSt s a) (hab:a<=b):GoodSt s b:=
 {h with force:=fun i j gi gj hi hj hp day hd h1 h2=>h.force i j gi gj hi hj hp day (by omega) h1 h2}
theorem given_all: ∀ {l:List RPart} {out:Parts},GoodParts out->(∀p∈out,IsN 720720 p.2)->(∀p∈l,0<p.rat/\IsN 720720 p.rat)->
 GoodParts (givenAll l out)/\(∀p∈givenAll l out,IsN 720720 p.2)/\sumQ (givenAll l out)=sumQ out+sumQ (ratParts l)
 | [],out,h1,h2,_=>⟨h1,h2,by simp only[givenAll,List.foldl_nil,ratParts,List.map_nil,sumQ];grind⟩
 |p::l,out,h1,h2,h=>by
  obtain⟨p1,p2⟩:=h p (by simp)
  have ih:=given_all (l:=l) (given_good (n:=p.name) (q:=p.rat) (by grind) h1) (given_isN p2 h2) fun q hq=>h q (by simp[hq])
  have e:givenAll (p::l) out=givenAll l (givenP out p.name p.rat):=rfl
  rw[e]
  refine⟨ih.1,ih.2.1,?_⟩
  rw[ih.2.2,sum_given]
  simp only[ratParts,List.map_cons,sumQ]
  grind
theorem parts_ok {all:Bool} {frm:ByteArray} {l:List RPart} (h:partsOk true all frm l=true):(∀p∈l,0<p.rat/\IsN 720720 p.rat/\isShareP 16 p.num p.den=true)/\sumQ (ratParts l)<=1/\(all=true->sumQ (ratParts l)=1)/\ ∀p∈l,p.name≠frm:=by
 unfold partsOk at h
 simp only[if_true,Bool.and_eq_true,List.all_eq_true,Bool.not_eq_true',decide_eq_true_eq,Bool.or_eq_true,bne_iff_ne,ne_eq,beq_iff_eq]at h
 obtain⟨⟨_,hn⟩,⟨hs,hle⟩,hall⟩:=h
 refine⟨fun p hp=> ?_,hle,fun ha=> ?_,fun p hp=>same_ne.1 (hn p hp)⟩
 ·obtain⟨h1,h2⟩:=hs p hp
  have h3:=share_rat h1
  refine⟨?_,share_isN h1,h1⟩
  have hne:p.rat≠0:=by
   intro k
   apply h2
   rw[<-h3.1]
   unfold RPart.rat at k
   rw[k]
   rfl
  have hnn:0<=p.rat:=h3.2.2.1
  grind
 ·rcases hall with k|k
  ·rw[ha]at k;cases k
  ·exact k
theorem parts_will {all:Bool} {frm:ByteArray} {l:List RPart} (h:partsOk true all frm l=true):WillOk (ratParts l):=by
 obtain⟨h1,h2,_,_⟩:=parts_ok h
 refine⟨fun p hp=> ?_,fun p hp=> ?_,h2⟩
 ·obtain⟨q,hq,rfl⟩:=List.mem_map.1 hp
  exact(h1 q hq).1
 ·obtain⟨q,hq,rfl⟩:=List.mem_map.1 hp
  exact(h1 q hq).2.1
theorem grant_keeps {s s':St} {d:Deed} {last:Int} (h:GoodSt s last) (hd:OkD d) (hl:last<=d.day) (hk:d.kind=0) (ht:grantP s d=(s',0)):GoodSt s' d.day:=by
 have h:=h.later hl
 unfold grantP at ht
 split at ht
 ·simp at ht
 rename_i h1
 split at ht
 ·simp at ht
 split at ht
 ·simp at ht
 simp only[Prod.mk.injEq,and_true]at ht
 rw[<-ht]
 have hx:graveIx s d.place d.day=none:=by simpa using h1
 have hn:=graveIx_none hx
 obtain⟨hto,hpa⟩:=hd.parts (.inl hk)
 obtain⟨p1,p2,p3,_⟩:=parts_ok hpa
 obtain⟨g1,g2,g3⟩:=given_all (l:=d.to) (out:=[]) good_nil (by simp) fun p hp=>⟨(p1 p hp).1,(p1 p hp).2.1⟩
 have g4:sumQ (givenAll d.to [])=1:=by
  rw[g3,p3 (by rw[hk];rfl),sumQ]
  grind
 generalize hg:(⟨d.place,d.cls,if decide (0<d.years)=true then afterP d.day d.years else-1,givenAll d.to [],[]⟩:Grave)=g
 have hgp:g.place=d.place:=by rw[<-hg]
 have hgood:GoodG g:=by rw[<-hg];exact⟨g1,small_of (by decide) (by decide) g2, .inr g4⟩
 refine {h with graves:=fun x hx=> ?_,force:=fun i j gi gj hi hj hp day hday f1 f2=> ?_}
 ·rcases List.mem_append.1 hx with hx|hx
  ·exact h.graves x hx
  ·rw[List.mem_singleton.1 hx];exact hgood
 ·have hi:(s.graves++[g])[i]?=some gi:=hi
  have hj:(s.graves++[g])[j]?=some gj:=hj
  rw[List.getElem?_append]at hi hj
  split at hi<;>split at hj
  ·exact h.force i j gi gj hi hj hp day hday f1 f2
  ·exfalso
   have e:gj=g:=by
    rw[List.getElem?_cons]at hj
    split at hj
    ·exact(Option.some.inj hj).symm
    ·simp at hj
   have:=hn gi (List.mem_of_getElem? hi) (by rw[hp,e,hgp])
   rw[force_down hday f1]at this
   cases this
  ·exfalso
   have e:gi=g:=by
    rw[List.getElem?_cons]at hi
    split at hi
    ·exact(Option.some.inj hi).symm
    ·simp at hi
   have:=hn gj (List.mem_of_getElem? hj) (by rw[<-hp,e,hgp])
   rw[force_down hday f2]at this
   cases this
  ·have:=(List.getElem?_eq_some_iff.1 hi).1
   have:=(List.getElem?_eq_some_iff.1 hj).1
   simp at*
   omega
theorem with_keeps {s:St} {i:Nat} {g g':Grave} {day:Int} (h:GoodSt s day) (hi:s.graves[i]?=some g) (hg:GoodG g') (hp:g'.place=g.place) (hf: ∀e,day<=e->inForceP g' e=true->inForceP g e=true):GoodSt (s.withGrave i g') day:=by
 have hil:=(List.getElem?_eq_some_iff.1 hi).1
 refine {h with graves:=fun x hx=> ?_,force:=fun a b ga gb ha hb hpl e he f1 f2=> ?_}
 ·rcases List.mem_or_eq_of_mem_set hx with hx|hx
  ·exact h.graves x hx
  ·rw[hx];exact hg
 ·have ha:(s.graves.set i g')[a]?=some ga:=ha
  have hb:(s.graves.set i g')[b]?=some gb:=hb
  rw[List.getElem?_set]at ha hb
  have one: ∀(c:Nat) (gc:Grave),(if i=c then if i<s.graves.length then some g' else none else s.graves[c]?)=some gc-> ∃gc',s.graves[c]?=some gc'/\gc'.place=gc.place/\(inForceP gc e=true->inForceP gc' e=true):=by
   intro c gc hc
   by_cases hic:i=c
   ·rw[if_pos hic,if_pos hil]at hc
    cases hc
    subst hic
    exact⟨g,hi,hp.symm,hf e he⟩
   ·rw[if_neg hic]at hc
    exact⟨gc,hc,rfl,id⟩
  obtain⟨ga',a1,a2,a3⟩:=one a ga ha
  obtain⟨gb',b1,b2,b3⟩:=one b gb hb
  exact h.force a b ga' gb' a1 b1 (by rw[a2,b2,hpl]) e he (a3 f1) (b3 f2)
theorem grave_at {s:St} {i:Nat} {g:Grave} (h:s.graves[i]?=some g):s.graves.getD i zeroG=g:=by
 rw[List.getD_eq_getElem?_getD,h]
 rfl
theorem force_holders {g:Grave} {out:Parts} {died:List ByteArray} {e:Int} (hne:g.holders≠[]) (h:inForceP {g with holders:=out,died:=died} e=true):inForceP g e=true:=by
 unfold inForceP at*
 simp only[Bool.and_eq_true]at*
 refine⟨?_,h.2⟩
 cases hg:g.holders with
 |nil=>exact absurd hg hne
 |cons _ _=>rfl
theorem transfer_keeps {s s':St} {d:Deed} {last:Int} (h:GoodSt s last) (hd:OkD d) (hl:last<=d.day) (hk:d.kind=1) (ht:transferP s d=(s',0)):GoodSt s' d.day:=by
 have h:=h.later hl
 unfold transferP at ht
 split at ht
 ·simp at ht
 rename_i i hi
 obtain⟨g,g1,g2,g3⟩:=graveIx_some hi
 rw[grave_at g1]at ht
 dsimp only at ht
 split at ht
 ·simp at ht
 split at ht
 ·simp at ht
 rename_i hs
 have hs:shareP g.holders d.frm≠0:=by simpa using hs
 split at ht
 ·simp at ht
 split at ht
 ·simp at ht
 rename_i hb
 split at ht
 ·simp at ht
 rename_i out ho
 simp only[Prod.mk.injEq,and_true]at ht
 rw[<-ht]
 obtain⟨hto,hpa⟩:=hd.parts (.inr (.inl hk))
 have hw:=parts_will hpa
 have hgg:=h.graves g (List.mem_of_getElem? g1)
 exact with_keeps h g1 (transfer_good hgg hs hw.pos hw.le (by simpa using hb) ho) rfl fun e _ hf=>force_holders (died:=g.died) (share_some hs) hf
theorem surrender_keeps {s s':St} {d:Deed} {last:Int} (h:GoodSt s last) (hl:last<=d.day) (ht:surrenderP s d=(s',0)):GoodSt s' d.day:=by
 have h:=h.later hl
 unfold surrenderP at ht
 split at ht
 ·simp at ht
 rename_i i hi
 obtain⟨g,g1,g2,g3⟩:=graveIx_some hi
 rw[grave_at g1]at ht
 dsimp only at ht
 split at ht
 ·simp at ht
 rename_i hs
 have hs:shareP g.holders d.frm≠0:=by simpa using hs
 split at ht
 ·simp at ht
 rename_i hb
 simp only[Prod.mk.injEq,and_true]at ht
 rw[<-ht]
 have hgg:=h.graves g (List.mem_of_getElem? g1)
 exact with_keeps h g1 (surrender_good hgg hs (by simpa using hb)) rfl fun e _ hf=>force_holders (died:=g.died) (share_some hs) hf
theorem renew_keeps {s s':St} {d:Deed} {last:Int} (h:GoodSt s last) (hl:last<=d.day) (ht:renewP s d=(s',0)):GoodSt s' d.day:=by
 have h:=h.later hl
 unfold renewP at ht
 split at ht
 ·simp at ht
 rename_i i hi
 obtain⟨g,g1,g2,g3⟩:=graveIx_some hi
 rw[grave_at g1]at ht
 dsimp only at ht
 split at ht
 ·simp at ht
 split at ht
 ·simp at ht
 simp only[Prod.mk.injEq,and_true]at ht
 rw[<-ht]
 generalize afterP g.fin d.years=fin at*
 have hgg:=h.graves g (List.mem_of_getElem? g1)
 have hil:=(List.getElem?_eq_some_iff.1 g1).1
 refine {h with graves:=fun x hx=> ?_,force:=fun a b ga gb ha hb hpl e he f1 f2=> ?_}
 ·rcases List.mem_or_eq_of_mem_set hx with hx|hx
  ·exact h.graves x hx
  ·rw[hx];exact⟨hgg.good,hgg.small,hgg.one⟩
 ·have ha:(s.graves.set i {g with fin:=fin})[a]?=some ga:=ha
  have hb:(s.graves.set i {g with fin:=fin})[b]?=some gb:=hb
  rw[List.getElem?_set]at ha hb
  have one: ∀(c:Nat) (gc:Grave),(if i=c then if i<s.graves.length then some ({g with fin:=fin}:Grave)else none else s.graves[c]?)=some gc-> ∃gc',s.graves[c]?=some gc'/\gc'.place=gc.place/\(inForceP gc e=true->inForceP gc' d.day=true):=by
   intro c gc hc
   by_cases hic:i=c
   ·rw[if_pos hic,if_pos hil]at hc
    cases hc
    subst hic
    exact⟨g,g1,rfl,fun _=>g3⟩
   ·rw[if_neg hic]at hc
    exact⟨gc,hc,rfl,fun hf=>force_down he hf⟩
  obtain⟨ga',a1,a2,a3⟩:=one a ga ha
  obtain⟨gb',b1,b2,b3⟩:=one b gb hb
  exact h.force a b ga' gb' a1 b1 (by rw[a2,b2,hpl]) d.day (Int.le_refl _) (a3 f1) (b3 f2)
end Go.Proofs.YtkhkhnellekofaaGreatDoor
namespace Go.Proofs.YtkhkhnellekofaaGreatDoor
open Go.RowKit
theorem name_one {d:Deed} (h:d.to.length=1): ∃p,d.to=[p]/\toName d=p.name:=by
 match hd:d.to,h with
 | [p],_=>exact⟨p,rfl,by unfold toName;rw[hd];rfl⟩
theorem one_ne {d:Deed} (hd:OkD d) (h:d.kind=5\/d.kind=6\/d.kind=7):noB (toName d)=false/\toName d≠d.frm/\noB d.frm=false:=by
 obtain⟨h1,h2⟩:=hd.one h
 obtain⟨p,hp,hn⟩:=name_one h1
 have hnm:=hd.names p (by rw[hp];simp)
 rw[hn]
 refine⟨name_not hnm,?_,name_not (hd.frm (by omega))⟩
 unfold partsOk at h2
 simp only[Bool.and_eq_true,List.all_eq_true,Bool.not_eq_true']at h2
 exact same_ne.1 (h2.1.2 p (by rw[hp];simp))
theorem will_append (s:St) (f:ByteArray) (l:Parts) (n:ByteArray):willOf {s with wills:=s.wills++[(f,l)]} n=if sameB f n then l else willOf s n:=by
 unfold willOf
 rw[List.reverse_append,List.reverse_singleton,List.singleton_append,List.find?_cons]
 split
 ·rename_i h
  rw[if_pos h];rfl
 ·rename_i h
  rw[if_neg (by simpa using h)]
theorem will_keeps {s s':St} {d:Deed} {last:Int} (h:GoodSt s last) (hd:OkD d) (hl:last<=d.day) (hk:d.kind=4) (ht:willP s d=(s',0)):GoodSt s' d.day:=by
 have h:=h.later hl
 unfold willP at ht
 split at ht
 ·simp at ht
 simp only[Prod.mk.injEq,and_true]at ht
 rw[<-ht]
 obtain⟨hto,hpa⟩:=hd.parts (.inr (.inr hk))
 refine {h with wills:=fun n=> ?_,willNames:=fun w hw p hp=> ?_}
 ·rw[will_append]
  split
  ·exact parts_will hpa
  ·exact h.wills n
 ·rcases List.mem_append.1 hw with hw|hw
  ·exact h.willNames w hw p hp
  ·rw[List.mem_singleton.1 hw]at hp
   obtain⟨q,hq,rfl⟩:=List.mem_map.1 hp
   exact name_not (hd.names q hq)
theorem renounce_keeps {s s':St} {d:Deed} {last:Int} (h:GoodSt s last) (hl:last<=d.day) (ht:renounceP s d=(s',0)):GoodSt s' d.day:=by
 have h:=h.later hl
 unfold renounceP at ht
 split at ht
 ·simp at ht
 split at ht
 ·simp at ht
 simp only[Prod.mk.injEq,and_true]at ht
 rw[<-ht]
 exact {h with}
theorem marry_keeps {s s':St} {d:Deed} {last:Int} (h:GoodSt s last) (hd:OkD d) (hl:last<=d.day) (hk:d.kind=7) (ht:marryP s d=(s',0)):GoodSt s' d.day:=by
 have h:=h.later hl
 unfold marryP at ht
 split at ht
 ·simp at ht
 split at ht
 ·simp at ht
 simp only[Prod.mk.injEq,and_true]at ht
 rw[<-ht]
 obtain⟨h1,h2,h3⟩:=one_ne hd (.inr (.inr hk))
 refine {h with marr:=fun m hm=> ?_}
 rcases List.mem_append.1 hm with hm|hm
 ·exact h.marr m hm
 ·rw[List.mem_singleton.1 hm]
  exact⟨h2.symm,h3,h1⟩
theorem child_keeps {s s':St} {d:Deed} {last:Int} (h:GoodSt s last) (hd:OkD d) (hl:last<=d.day) (hk:d.kind=6) (ht:childP s d=(s',0)):GoodSt s' d.day:=by
 have h:=h.later hl
 unfold childP at ht
 split at ht
 ·simp at ht
 split at ht
 ·simp at ht
 split at ht
 ·simp at ht
 rename_i hn
 have hn: ¬Desc s (toName d) d.frm:=by simpa using hn
 simp only[Prod.mk.injEq,and_true]at ht
 rw[<-ht]
 obtain⟨h1,h2,h3⟩:=one_ne hd (.inr (.inl hk))
 refine {h with acyc:=acyc_append h.acyc hn h2.symm,kids:=fun c hc=> ?_}
 rcases List.mem_append.1 hc with hc|hc
 ·exact h.kids c hc
 ·rw[List.mem_singleton.1 hc]
  exact⟨h3,h1⟩
theorem laws_go: ∀ {l:List Law} {b:Option Int},lawsGo l b=0-> ∀x∈l,isShareP 16 x.num x.den=true
 |x::l,b,h,y,hy=>by
  unfold lawsGo at h
  split at h
  ·rename_i hb
   simp[h]at hb
  ·rename_i hb
   rcases List.mem_cons.1 hy with rfl|hy
   ·unfold lawErr at hb
    split at hb
    ·simp at hb
    split at hb
    ·simp at hb
    ·rename_i hq
     simpa using hq
   ·exact laws_go h y hy
theorem law_share {laws:List Law} (h:checkLawsP laws=0) (day:Int):isShareP 16 (lawOnP laws day).num (lawOnP laws day).den=true:=by
 unfold checkLawsP at h
 split at h
 ·simp at h
 unfold lawOnP
 cases hl:(laws.filter fun x=>decide (x.frm<=day)).getLast? with
 |none=>decide
 |some x=>
  have hm:=List.mem_of_getLast? hl
  exact laws_go h x (List.mem_filter.1 hm).1
theorem dies_at {s:St} {n:ByteArray} {day:Int} {heirs:Option Parts}: ∀ {l l':List Grave} {k:Nat},diesGo s n day heirs k l=some l'->l'.length=l.length/\ ∀(i:Nat) g',l'[i]?=some g'-> ∃g,l[i]?=some g/\
 (g'=g/\heldP s n day (k+i) g=false\/heldP s n day (k+i) g=true/\ ∃h out,heirs=some h/\gainGo (shareP g.holders n) h (withoutP g.holders n)=some out/\g'= {g with holders:=out,died:=g.died++[n]})
 | [],l',k,h=>by
   unfold diesGo at h
   cases h
   exact⟨rfl,fun i g' hg=>by simp at hg⟩
 |g::l,l',k,h=>by
  unfold diesGo at h
  have step: ∀ {r:List Grave} {g':Grave},diesGo s n day heirs (k+1) l=some r->l'=g'::r->(g'=g/\heldP s n day k g=false\/heldP s n day k g=true/\ ∃h out,heirs=some h/\gainGo (shareP g.holders n) h (withoutP g.holders n)=some out/\g'= {g with holders:=out,died:=g.died++[n]})->
   l'.length=(g::l).length/\ ∀(i:Nat) g',l'[i]?=some g'-> ∃x,(g::l)[i]?=some x/\(g'=x/\heldP s n day (k+i) x=false\/heldP s n day (k+i) x=true/\ ∃h out,heirs=some h/\gainGo (shareP x.holders n) h (withoutP x.holders n)=some out/\g'= {x with holders:=out,died:=x.died++[n]}):=by
   intro r g' hr he hc
   obtain⟨i1,i2⟩:=dies_at hr
   subst he
   refine⟨by simp[i1],fun i x hx=> ?_⟩
   cases i with
   |zero=>
    simp only[List.getElem?_cons_zero,Option.some.injEq]at hx
    subst hx
    exact⟨g,rfl,hc⟩
   |succ i=>
    obtain⟨y,y1,y2⟩:=i2 i x (by simpa using hx)
    exact⟨y,by simpa using y1,by rw[show k+(i+1)=k+1+i by omega];exact y2⟩
  split at h
  ·rename_i hh
   cases heirs with
   |none=>simp at h
   |some hs=>
    dsimp only at h
    rw[Option.bind_eq_some_iff]at h
    obtain⟨out,h1,h2⟩:=h
    rw[Option.map_eq_some_iff]at h2
    obtain⟨r,h3,h4⟩:=h2
    exact step h3 h4.symm (.inr ⟨hh,hs,out,rfl,h1,rfl⟩)
  ·rename_i hh
   rw[Option.map_eq_some_iff]at h
   obtain⟨r,h3,h4⟩:=h
   exact step h3 h4.symm (.inl ⟨rfl,by simpa using hh⟩)
theorem death_keeps {laws:List Law} {s s':St} {d:Deed} {last:Int} (h:GoodSt s last) (hd:OkD d) (hl:last<=d.day) (hk:d.kind=8) (hlw:checkLawsP laws=0) (ht:deathP laws s d=(s',0)):GoodSt s' d.day:=by
 have h:=h.later hl
 unfold deathP at ht
 split at ht
 ·simp at ht
 split at ht
 ·simp at ht
 rename_i gs hgs
 simp only[Prod.mk.injEq,and_true]at ht
 rw[<-ht]
 obtain⟨hlen,hat⟩:=dies_at hgs
 have one: ∀(i:Nat) g',gs[i]?=some g'-> ∃g,s.graves[i]?=some g/\GoodG g'/\g'.place=g.place/\ ∀e,inForceP g' e=true->inForceP g e=true:=by
  intro i g' hg'
  obtain⟨g,g1,g2⟩:=hat i g' hg'
  have hgg:=h.graves g (List.mem_of_getElem? g1)
  rcases g2 with⟨rfl,_⟩|⟨hh,hs,out,e1,e2,rfl⟩
  ·exact⟨g',g1,hgg,rfl,fun _=>id⟩
  ·unfold heldP at hh
   rw[Bool.and_eq_true]at hh
   have hs0:shareP g.holders d.frm≠0:=by simpa using hh.1
   obtain⟨k1,k2,k3⟩:=estate_good (h.wills d.frm) (law_share hlw d.day) e1
   exact⟨g,g1,inherit_good hgg hs0 k1 k2 e2,rfl,fun e=>force_holders (share_some hs0)⟩
 refine {h with graves:=fun x hx=> ?_,force:=fun a b ga gb ha hb hpl e he f1 f2=> ?_,dead:=fun n hn=> ?_}
 ·obtain⟨i,hi⟩:=List.mem_iff_getElem?.1 hx
  exact(one i x hi).elim fun _ hg=>hg.2.1
 ·obtain⟨ga',a1,_,a2,a3⟩:=one a ga ha
  obtain⟨gb',b1,_,b2,b3⟩:=one b gb hb
  exact h.force a b ga' gb' a1 b1 (by rw[<-a2,<-b2,hpl]) e he (a3 e f1) (b3 e f2)
 ·rcases List.mem_append.1 hn with hn|hn
  ·exact h.dead n hn
  ·rw[List.mem_singleton.1 hn]
   exact name_not (hd.frm (by omega))
theorem take_keeps {laws:List Law} {s s':St} {d:Deed} {last:Int} (h:GoodSt s last) (hd:OkD d) (hl:last<=d.day) (hlw:checkLawsP laws=0) (ht:takeD laws s d=(s',0)):GoodSt s' d.day:=by
 have hk:=hd.kind
 unfold takeD at ht
 split at ht
 ·rename_i k;exact grant_keeps h hd hl (by simpa using k) ht
 split at ht
 ·rename_i k;exact transfer_keeps h hd hl (by simpa using k) ht
 split at ht
 ·exact surrender_keeps h hl ht
 split at ht
 ·exact renew_keeps h hl ht
 split at ht
 ·rename_i k;exact will_keeps h hd hl (by simpa using k) ht
 split at ht
 ·exact renounce_keeps h hl ht
 split at ht
 ·rename_i k;exact child_keeps h hd hl (by simpa using k) ht
 split at ht
 ·rename_i k;exact marry_keeps h hd hl (by simpa using k) ht
 ·rename_i k0 k1 k2 k3 k4 k5 k6 k7
  simp only[beq_iff_eq]at k0 k1 k2 k3 k4 k5 k6 k7
  exact death_keeps h hd hl (by omega) hlw ht
end Go.Proofs.YtkhkhnellekofaaGreatDoor
namespace Go.Proofs.YtkhkhnellekofaaGreatDoor
open Go.RowKit
theorem share_cons (x:ByteArray×Rat) (l:Parts) (n:ByteArray):shareP (x::l) n=if sameB x.1 n then x.2 else shareP l n:=by
 unfold shareP
 rw[List.find?_cons]
 split
 ·rename_i h;rw[if_pos h];rfl
 ·rename_i h;rw[if_neg (by simpa using h)]
theorem share_given {n:ByteArray} {q:Rat}: ∀ {l:Parts},GoodParts l-> ∀m,shareP (givenP l n q) m=if sameB m n then shareP l n+q else shareP l m
 | [],_,m=>by
   unfold givenP
   split
   ·rename_i h
    have:q=0:=by simpa using h
    subst this
    split
    ·rename_i hs;rw[same_iff.1 hs];grind
    ·rfl
   ·rw[share_cons]
    by_cases hs:m=n
    ·rw[if_pos (same_iff.2 hs.symm),if_pos (same_iff.2 hs)]
     show q=shareP [] n+q
     have:shareP [] n=0:=rfl
     grind
    ·rw[if_neg (by rw[same_iff];exact fun e=>hs e.symm),if_neg (by rw[same_iff];exact hs)]
 |x::r,⟨h1,h2⟩,m=>by
  have hr:GoodParts r:=⟨(List.pairwise_cons.1 h1).2,fun p hp=>h2 p (by simp[hp])⟩
  have hx:=(List.pairwise_cons.1 h1).1
  unfold givenP
  split
  ·rename_i h
   have:q=0:=by simpa using h
   subst this
   split
   ·rename_i hs;rw[same_iff.1 hs];grind
   ·rfl
  ·split
   ·rename_i hl
    have hne:=lessN_ne hl
    have ih:=share_given (n:=n) (q:=q) hr m
    rw[share_cons,ih,share_cons,share_cons]
    by_cases hs:m=n
    ·subst hs
     rw[if_neg (by rw[same_iff];exact hne),if_pos (same_refl m),if_pos (same_refl m),if_neg (by rw[same_iff];exact hne)]
    ·rw[if_neg (c:=sameB m n=true) (by rw[same_iff];exact hs),if_neg (c:=sameB m n=true) (by rw[same_iff];exact hs)]
   ·split
    ·rename_i hs
     have e:=same_iff.1 hs
     rw[share_cons,share_cons,share_cons]
     by_cases hm:m=n
     ·subst hm
      rw[if_pos (same_refl m),if_pos (same_refl m),if_pos hs]
     ·rw[if_neg (by rw[same_iff];exact fun k=>hm k.symm),if_neg (by rw[same_iff];exact hm),if_neg (by rw[same_iff,e];exact fun k=>hm k.symm)]
    ·rename_i hl hs
     have hnx: ∀p∈x::r,p.1≠n:=by
      intro p hp e
      rcases List.mem_cons.1 hp with rfl|hp
      ·exact hs (same_iff.2 e)
      ·rcases lessN_tri x.1 n with k|k|k
       ·exact hl k
       ·exact hs (same_iff.2 k)
       ·have:=lessN_trans k (hx p hp)
        rw[e,lessN_irr]at this
        cases this
     have h0:=(share_none hnx).1
     rw[share_cons]
     by_cases hm:m=n
     ·subst hm
      rw[if_pos (same_refl m),if_pos (same_refl m),h0]
      grind
     ·rw[if_neg (by rw[same_iff];exact fun k=>hm k.symm),if_neg (by rw[same_iff];exact hm)]
theorem share_without {n m:ByteArray}: ∀ {l:Parts},shareP (withoutP l n) m=if sameB m n then 0 else shareP l m
 | []=>by
   have e:shareP (withoutP [] n) m=0:=rfl
   have e2:shareP [] m=0:=rfl
   rw[e,e2]
   split<;>rfl
 |x::r=>by
  have ih:=share_without (n:=n) (m:=m) (l:=r)
  by_cases hx:x.1=n
  ·have e:withoutP (x::r) n=withoutP r n:=by
    unfold withoutP
    rw[List.filter_cons,same_iff.2 hx]
    rfl
   rw[e,ih,share_cons]
   by_cases hm:m=n
   ·rw[if_pos (same_iff.2 hm),if_pos (same_iff.2 hm)]
   ·rw[if_neg (by rw[same_iff];exact hm),if_neg (by rw[same_iff];exact hm),if_neg (by rw[same_iff,hx];exact fun k=>hm k.symm)]
  ·have e:withoutP (x::r) n=x::withoutP r n:=by
    unfold withoutP
    rw[List.filter_cons,same_ne.2 hx]
    rfl
   rw[e,share_cons,ih,share_cons]
   by_cases hm:m=n
   ·rw[if_pos (c:=sameB m n=true) (same_iff.2 hm),if_pos (c:=sameB m n=true) (same_iff.2 hm),if_neg (by rw[same_iff,hm];exact hx)]
   ·rw[if_neg (c:=sameB m n=true) (by rw[same_iff];exact hm),if_neg (c:=sameB m n=true) (by rw[same_iff];exact hm)]
theorem share_mem {l:Parts} (h:GoodParts l) {p:ByteArray×Rat} (hp:p∈l):shareP l p.1=p.2:=by
 induction l with
 |nil=>cases hp
 |cons x r ih=>
  obtain⟨h1,h2⟩:=h
  have hr:GoodParts r:=⟨(List.pairwise_cons.1 h1).2,fun p hp=>h2 p (by simp[hp])⟩
  have hx:=(List.pairwise_cons.1 h1).1
  rw[share_cons]
  rcases List.mem_cons.1 hp with rfl|hp
  ·rw[if_pos (same_refl _)]
  ·rw[if_neg (by rw[same_iff];exact lessN_ne (hx p hp)),ih hr hp]
end Go.Proofs.YtkhkhnellekofaaGreatDoor
namespace Go.Proofs.YtkhkhnellekofaaGreatDoor
open Go.RowKit
theorem compareB_neg: ∀(a b:List UInt8),decide (Lib.compareBytes a b<0)=Op.bytesLess a b
 | [],[]=>by simp[Lib.compareBytes,Op.bytesLess]
 | [],_::_=>by simp[Lib.compareBytes,Op.bytesLess]
 |_::_,[]=>by simp[Lib.compareBytes,Op.bytesLess]
 |a::xs,b::ys=>by
  have ih:=compareB_neg xs ys
  unfold Lib.compareBytes Op.bytesLess
  by_cases he:a=b
  ·subst he
   simp[UInt8.lt_irrefl,ih]
  ·by_cases h1:a<b
   ·simp[h1]
   ·have h2:b<a:=(UInt8.lt_or_lt_of_ne he).resolve_left h1
    simp[h1,h2,he]
theorem compareB_zero: ∀(a b:List UInt8),(Lib.compareBytes a b==0)=(a==b)
 | [],[]=>by simp[Lib.compareBytes]
 | [],_::_=>by simp[Lib.compareBytes]
 |_::_,[]=>by simp[Lib.compareBytes]
 |a::xs,b::ys=>by
  have ih:=compareB_zero xs ys
  unfold Lib.compareBytes
  by_cases he:a=b
  ·subst he
   simpa[UInt8.lt_irrefl]using ih
  ·by_cases h1:a<b
   ·simp[h1,he]
   ·have h2:b<a:=(UInt8.lt_or_lt_of_ne he).resolve_left h1
    simp[h1,h2,he]
def cmpN (a b:ByteArray):Int:=Lib.compareBytes a.data.toList b.data.toList
theorem cmpN_neg (a b:ByteArray):decide (cmpN a b<0)=lessN a b:=by
 unfold cmpN lessN
 rw[compareB_neg,ByteArray.toList_eq,ByteArray.toList_eq]
theorem cmpN_zero (a b:ByteArray):(cmpN a b==0)=sameB a b:=by
 unfold cmpN sameB
 rw[compareB_zero,ByteArray.toList_eq,ByteArray.toList_eq]
def AscP (l:Parts):Prop:=l.Pairwise fun a b=>lessN a.1 b.1=true
theorem less_up {a b n:ByteArray} (hab:lessN a b=true) (h:lessN a n=false):lessN b n=false:=by
 cases hb:lessN b n
 ·rfl
 ·rw[lessN_trans hab hb]at h;cases h
def headIs:Parts->ByteArray->Bool
 | [],_=>false
 |p::_,n=>sameB p.1 n
def setP:Parts->ByteArray->Rat->Parts
 | [],n,q=>if q==0 then[]else[(n,q)]
 |p::r,n,q=>if lessN p.1 n then p::setP r n q else if sameB p.1 n then(if q==0 then r else(n,q)::r)else if q==0 then p::r else(n,q)::p::r
theorem set_split {n:ByteArray} {q:Rat}: ∀ {A B:Parts},(∀p∈A,lessN p.1 n=true)->setP (A++B) n q=A++setP B n q
 | [],B,_=>rfl
 |a::A,B,h=>by
  rw[List.cons_append,setP,if_pos (h a (by simp)),set_split fun p hp=>h p (by simp[hp])]
  rfl
theorem less_same {a b:ByteArray} (h:lessN a b=true):sameB a b=false:=same_ne.2 (lessN_ne h)
theorem share_split {n:ByteArray}: ∀ {A B:Parts},(∀p∈A,lessN p.1 n=true)->shareP (A++B) n=shareP B n
 | [],B,_=>rfl
 |a::A,B,h=>by
  rw[List.cons_append,share_cons,less_same (h a (by simp)),if_neg (by simp),share_split fun p hp=>h p (by simp[hp])]
theorem asc_tail {A B:Parts} (h:AscP (A++B)):AscP B:=(List.pairwise_append.1 h).2.1
theorem share_no {n:ByteArray}: ∀ {B:Parts},(∀p∈B,lessN p.1 n=false)->AscP B->headIs B n=false->shareP B n=0
 | [],_,_,_=>rfl
 |b::B,h,ha,hh=>by
  have ha':=List.pairwise_cons.1 ha
  have hb:b.1≠n:=same_ne.1 hh
  have hnb:lessN n b.1=true:=by
   rcases lessN_tri b.1 n with h1|h1|h1
   ·rw[h b (by simp)]at h1;cases h1
   ·exact absurd h1 hb
   ·exact h1
  exact(share_none fun p hp=>by
   rcases List.mem_cons.1 hp with rfl|hp
   ·exact hb
   ·exact(lessN_ne (lessN_trans hnb (ha'.1 p hp))).symm).1
theorem given_split {n:ByteArray} {q:Rat}: ∀ {A B:Parts},(∀p∈A,lessN p.1 n=true)->givenP (A++B) n q=A++givenP B n q
 | [],B,_=>rfl
 |a::A,B,h=>by
  rw[List.cons_append,givenP]
  by_cases hq:q==0
  ·rw[if_pos hq]
   have:givenP B n q=B:=by
    cases B with
    |nil=>simp[givenP,hq]
    |cons b B=>simp[givenP,hq]
   rw[this];rfl
  ·rw[if_neg hq,if_pos (h a (by simp)),given_split fun p hp=>h p (by simp[hp])]
   rfl
theorem ex_split (l:Parts) (h:AscP l) (n:ByteArray): ∃A B,l=A++B/\(∀p∈A,lessN p.1 n=true)/\(∀p∈B,lessN p.1 n=false):=by
 induction l with
 |nil=>exact⟨[],[],rfl,by simp,by simp⟩
 |cons p l ih=>
  have hp:=List.pairwise_cons.1 h
  cases hl:lessN p.1 n
  ·refine⟨[],p::l,rfl,by simp,fun x hx=> ?_⟩
   rcases List.mem_cons.1 hx with rfl|hx
   ·exact hl
   ·exact less_up (hp.1 x hx) hl
  ·obtain⟨A,B,rfl,h1,h2⟩:=ih hp.2
   refine⟨p::A,B,rfl,fun x hx=> ?_,h2⟩
   rcases List.mem_cons.1 hx with rfl|hx
   ·exact hl
   ·exact h1 x hx
theorem set_given {l:Parts} (h:GoodParts l) {n:ByteArray} {q:Rat} (hq:0<=q):setP l n (shareP l n+q)=givenP l n q:=by
 obtain⟨A,B,rfl,h1,h2⟩:=ex_split l h.1 n
 rw[set_split h1,share_split h1,given_split h1]
 congr 1
 have hB:=asc_tail h.1
 cases B with
 |nil=>
  show(if(0:Rat)+q==0 then[]else[(n,0+q)])=if q==0 then[]else[(n,q)]
  rw[Rat.zero_add]
 |cons b B=>
  have hb:=h2 b (by simp)
  have hbp:0<b.2:=h.2 b (by simp)
  cases hs:sameB b.1 n
  ·have h0:shareP (b::B) n=0:=share_no h2 hB hs
   rw[h0,Rat.zero_add,setP,givenP,hb,hs]
   simp
  ·rw[share_cons,hs,if_pos rfl,setP,givenP,hb,hs]
   have hne:(b.2+q==0)=false:=by
    rw[beq_eq_false_iff_ne]
    intro e
    grind
   rw[hne]
   by_cases hz:q==0
   ·have:q=0:=by simpa using hz
    subst this
    have hbn:b.1=n:=same_iff.1 hs
    simp[Rat.add_zero,<-hbn]
   ·simp[hz]
theorem set_zero {l:Parts} (h:AscP l) (n:ByteArray):setP l n 0=withoutP l n:=by
 obtain⟨A,B,rfl,h1,h2⟩:=ex_split l h n
 rw[set_split h1]
 unfold withoutP
 rw[List.filter_append,List.filter_eq_self.2 fun p hp=>by rw[less_same (h1 p hp)];rfl]
 congr 1
 have hB:=asc_tail h
 cases B with
 |nil=>rfl
 |cons b B=>
  have hb:=h2 b (by simp)
  have hb':=List.pairwise_cons.1 hB
  rw[setP,hb]
  cases hs:sameB b.1 n
  ·have hnb:lessN n b.1=true:=by
    rcases lessN_tri b.1 n with h3|h3|h3
    ·rw[hb]at h3;cases h3
    ·exact absurd h3 (same_ne.1 hs)
    ·exact h3
   have e:(b::B).filter (fun p=>!sameB p.1 n)=b::B:=List.filter_eq_self.2 fun p hp=>by
    rcases List.mem_cons.1 hp with rfl|hp
    ·rw[hs];rfl
    ·rw[same_ne.2 (lessN_ne (lessN_trans hnb (hb'.1 p hp))).symm];rfl
   rw[e]
   simp
  ·have hbn:b.1=n:=same_iff.1 hs
   have e:(b::B).filter (fun p=>!sameB p.1 n)=B:=by
    rw[List.filter_cons,hs,if_neg (by simp)]
    exact List.filter_eq_self.2 fun p hp=>by rw[same_ne.2 (hbn▸(lessN_ne (hb'.1 p hp)).symm)];rfl
   rw[e]
   simp
theorem set_keeps {l:Parts} (h:AscP l) (n:ByteArray) (q:Rat):setP l n q=if q==0 then withoutP l n else givenP (withoutP l n) n q:=by
 by_cases hq:q==0
 ·rw[if_pos hq]
  have:q=0:=by simpa using hq
  rw[this]
  exact set_zero h n
 ·rw[if_neg hq]
  obtain⟨A,B,rfl,h1,h2⟩:=ex_split l h n
  rw[set_split h1]
  have hA:withoutP (A++B) n=A++withoutP B n:=by
   unfold withoutP
   rw[List.filter_append,List.filter_eq_self.2 fun p hp=>by rw[less_same (h1 p hp)];rfl]
  rw[hA,given_split h1]
  congr 1
  have hB:=asc_tail h
  rw[<-set_zero hB n]
  cases B with
  |nil=>simp[setP,givenP,hq]
  |cons b B=>
   have hb:=h2 b (by simp)
   have hb':=List.pairwise_cons.1 hB
   have hq2:(q==0)=false:=by simpa using hq
   have e0:setP (b::B) n 0=if sameB b.1 n then B else b::B:=by rw[setP,hb];simp
   have e1:setP (b::B) n q=if sameB b.1 n then(n,q)::B else(n,q)::b::B:=by rw[setP,hb,hq2];simp
   rw[e0,e1]
   cases hs:sameB b.1 n
   ·simp only[Bool.false_eq_true,if_false]
    rw[givenP,hq2,hb,hs]
    simp
   ·have hbn:b.1=n:=same_iff.1 hs
    simp only[if_true]
    cases B with
    |nil=>rw[givenP,hq2];simp
    |cons c B=>
     have hc:lessN n c.1=true:=hbn▸hb'.1 c (by simp)
     rw[givenP,hq2,lessN_asym hc,same_ne.2 (lessN_ne hc).symm]
     simp
theorem set_mem {n:ByteArray} {q:Rat}: ∀ {l:Parts} {p:ByteArray×Rat},p∈setP l n q->p=(n,q)\/p∈l
 | [],p,h=>by
   unfold setP at h
   split at h
   ·simp at h
   ·exact .inl (by simpa using h)
 |x::l,p,h=>by
  unfold setP at h
  split at h
  ·rcases List.mem_cons.1 h with rfl|h
   ·exact .inr (by simp)
   ·rcases set_mem h with h|h
    ·exact .inl h
    ·exact .inr (by simp[h])
  ·split at h
   ·split at h
    ·exact .inr (by simp[h])
    ·rcases List.mem_cons.1 h with rfl|h
     ·exact .inl rfl
     ·exact .inr (by simp[h])
   ·split at h
    ·exact .inr h
    ·rcases List.mem_cons.1 h with rfl|h
     ·exact .inl rfl
     ·exact .inr h
theorem set_asc {l:Parts} (h:AscP l) (n:ByteArray) (q:Rat):AscP (setP l n q):=by
 obtain⟨A,B,rfl,h1,h2⟩:=ex_split l h n
 rw[set_split h1]
 obtain⟨hA,hB,hAB⟩:=List.pairwise_append.1 h
 have hgt: ∀b∈B,sameB b.1 n=false->lessN n b.1=true:=fun b hb hs=>by
  rcases lessN_tri b.1 n with h3|h3|h3
  ·rw[h2 b hb]at h3;cases h3
  ·exact absurd h3 (same_ne.1 hs)
  ·exact h3
 cases B with
 |nil=>
  rw[setP]
  split
  ·rw[List.append_nil];exact hA
  ·exact List.pairwise_append.2 ⟨hA,List.pairwise_singleton _ _,fun a ha b hb=>by
    rw[List.mem_singleton.1 hb];exact h1 a ha⟩
 |cons b B=>
  have hb':=List.pairwise_cons.1 hB
  rw[setP,h2 b (by simp),if_neg (by simp)]
  cases hs:sameB b.1 n
  ·rw[if_neg (by simp)]
   split
   ·exact h
   ·refine List.pairwise_append.2 ⟨hA,List.pairwise_cons.2 ⟨fun x hx=> ?_,hB⟩,fun a ha x hx=> ?_⟩
    ·rcases List.mem_cons.1 hx with rfl|hx
     ·exact hgt _ (by simp) hs
     ·exact lessN_trans (hgt b (by simp) hs) (hb'.1 x hx)
    ·rcases List.mem_cons.1 hx with rfl|hx
     ·exact h1 a ha
     ·exact hAB a ha x hx
  ·have hbn:b.1=n:=same_iff.1 hs
   rw[if_pos rfl]
   split
   ·exact List.pairwise_append.2 ⟨hA,hb'.2,fun a ha x hx=>hAB a ha x (by simp[hx])⟩
   ·refine List.pairwise_append.2 ⟨hA,List.pairwise_cons.2 ⟨fun x hx=> ?_,hb'.2⟩,fun a ha x hx=> ?_⟩
    ·exact hbn▸hb'.1 x hx
    ·rcases List.mem_cons.1 hx with rfl|hx
     ·exact h1 a ha
     ·exact hAB a ha x (by simp[hx])
end Go.Proofs.YtkhkhnellekofaaGreatDoor
namespace Go.Proofs.YtkhkhnellekofaaGreatDoor
open Go.RowKit
theorem leaps_div {y:Int} (h:0<=y):leapsP y=y/4-y/100+y/400:=by
 unfold leapsP
 rw[Int.tdiv_eq_ediv_of_nonneg h,Int.tdiv_eq_ediv_of_nonneg h,Int.tdiv_eq_ediv_of_nonneg h]
theorem leap_mod {y:Int} (h:0<=y):leapP y=((y%4==0&&y%100 != 0)||y%400==0):=by
 unfold leapP
 rw[Int.tmod_eq_emod_of_nonneg h,Int.tmod_eq_emod_of_nonneg h,Int.tmod_eq_emod_of_nonneg h]
def leapQ (y:Int):Bool:=y.tmod 4==0&&(y.tmod 100 != 0||y.tmod 400==0)
theorem leapQ_eq {y:Int} (h:0<=y):leapQ y=leapP y:=by
 rw[leap_mod h]
 unfold leapQ
 rw[Int.tmod_eq_emod_of_nonneg h,Int.tmod_eq_emod_of_nonneg h,Int.tmod_eq_emod_of_nonneg h,Bool.eq_iff_iff]
 simp only[Bool.and_eq_true,Bool.or_eq_true,beq_iff_eq,bne_iff_ne]
 omega
def begP (y:Int):Int:=365*(y-1800)+leapsP (y-1)-436
theorem first_one (y:Int):firstP y 1=begP y:=by
 unfold firstP begP
 simp[monthsGo]
theorem beg_up {y:Int} (h:1800<=y):begP (y+1)=begP y+365+(if leapP y then 1 else 0):=by
 unfold begP
 rw[leaps_div (by omega),leaps_div (by omega),leap_mod (by omega)]
 have e:y+1-1=y:=by omega
 rw[e]
 split
 ·rename_i hl
  simp only[Bool.or_eq_true,Bool.and_eq_true,beq_iff_eq,bne_iff_ne]at hl
  omega
 ·rename_i hl
  simp only[Bool.or_eq_true,Bool.and_eq_true,beq_iff_eq,bne_iff_ne]at hl
  omega
theorem beg_low {day:Int} (h0:0<=day) (h1:day<=200000):begP (1800+day.tdiv 366)<=day:=by
 unfold begP
 rw[Int.tdiv_eq_ediv_of_nonneg h0,leaps_div (by omega)]
 omega
theorem beg_high {day:Int} (h0:0<=day) (h1:day<=200000):day<begP (1800+day.tdiv 366+10+1):=by
 unfold begP
 rw[Int.tdiv_eq_ediv_of_nonneg h0,leaps_div (by omega)]
 omega
theorem days_get (y:Int) {m:Nat} (h1:1<=m) (h2:m<=12):monthDaysP y m=if(m:Int)==2&&leapP y then 29 else[31,28,31,30,31,30,31,31,30,31,30,31].getD (m-1) 0:=by
 unfold monthDaysP
 have:m=1\/m=2\/m=3\/m=4\/m=5\/m=6\/m=7\/m=8\/m=9\/m=10\/m=11\/m=12:=by omega
 rcases this with rfl|rfl|rfl|rfl|rfl|rfl|rfl|rfl|rfl|rfl|rfl|rfl<;>rfl
theorem days_pos (y:Int) {m:Nat} (h1:1<=m) (h2:m<=12):28<=monthDaysP y m/\monthDaysP y m<=31:=by
 rw[days_get y h1 h2]
 have:m=1\/m=2\/m=3\/m=4\/m=5\/m=6\/m=7\/m=8\/m=9\/m=10\/m=11\/m=12:=by omega
 rcases this with rfl|rfl|rfl|rfl|rfl|rfl|rfl|rfl|rfl|rfl|rfl|rfl<;>simp<;>split<;>simp
theorem first_up (y:Int) {m:Nat} (h:1<=m):firstP y (m+1)=firstP y m+monthDaysP y m:=by
 obtain⟨k,rfl⟩: ∃k,m=k+1:=⟨m-1,by omega⟩
 unfold firstP
 simp only[Nat.add_sub_cancel,monthsGo]
 have:((k+1:Nat):Int)=(k:Int)+1:=by omega
 rw[this]
 omega
theorem first_year {y:Int} (h:1800<=y):firstP (y+1) 1=firstP y 12+monthDaysP y 12:=by
 rw[first_one,beg_up h,<-first_one,show(12:Int)=((12:Nat):Int) by rfl,<-first_up y (by omega)]
 unfold firstP
 have e:monthsGo y (12+1-1)=365+(if leapP y then 1 else 0):=by
  simp only[monthsGo,monthDaysP,lensP]
  cases leapP y<;>simp
 rw[e]
 simp[monthsGo]
 omega
structure DateIs (day y:Int) (m:Nat):Prop where
 y0:1800<=y
 y1:y<=2400
 m0:1<=m
 m1:m<=12
 lo:firstP y m<=day
 hi:day<firstP y m+monthDaysP y m
theorem year_step {day:Int} {f:Nat} {y:Int} (h:firstP (y+1) 1<=day):yearGo day (f+1) y=yearGo day f (y+1):=by
 rw[yearGo,if_pos (by simpa using h)]
theorem year_stop {day:Int} {y:Int} (h: ¬firstP (y+1) 1<=day): ∀f,yearGo day f y=y
 |0=>rfl
 |f+1=>by rw[yearGo,if_neg (by simpa using h)]
theorem month_step {day y:Int} {f m:Nat} (hm:m<12) (h:firstP y (m+1)<=day):monthGo day y (f+1) m=monthGo day y f (m+1):=by
 rw[monthGo,if_pos (by simp[hm,h])]
theorem month_stop {day y:Int} {m:Nat} (h: ¬(m<12/\firstP y (m+1)<=day)): ∀f,monthGo day y f m=m
 |0=>rfl
 |f+1=>by rw[monthGo,if_neg (by simpa using h)]
end Go.Proofs.YtkhkhnellekofaaGreatDoor
namespace Go.Proofs.YtkhkhnellekofaaGreatDoor
open Go.RowKit
noncomputable def stopGo (laws:List Law) (upto:Int):List Deed->St->Nat->Int->St×Nat×Int
 | [],s,k,_=>(s,k,0)
 |d::l,s,k,last=>
  if checkDeedP d==0&&decide (upto<d.day)then(s,k+(d::l).length,0)else
  if(nextD laws s k last d).2 != 0 then(s,k,(nextD laws s k last d).2)else stopGo laws upto l (nextD laws s k last d).1 (k+1) d.day
theorem next_parts {laws:List Law} {s:St} {k:Nat} {last:Int} {d:Deed} (h:(nextD laws s k last d).2=0):checkDeedP d=0/\k<60/\last<=d.day/\nextD laws s k last d=takeD laws s d:=by
 unfold nextD at h⊢
 split at h
 ·rename_i hc
  have h:checkDeedP d=0:=h
  rw[h]at hc
  exact absurd hc (by decide)
 rename_i hc
 split at h
 ·simp at h
 rename_i hk
 split at h
 ·simp at h
 rename_i hl
 rw[if_neg hc,if_neg hk,if_neg hl]
 simp at hc hk hl
 exact⟨hc,hk,hl,rfl⟩
theorem told_stays {laws:List Law} {upto:Int}: ∀ {ds:List Deed} {s told:St} {k:Nat} {last:Int},(replayGo laws upto ds s told k last).2.2=0->upto<last->(replayGo laws upto ds s told k last).1=told
 | [],s,told,k,last,_,_=>rfl
 |d::l,s,told,k,last,h,hl=>by
  rw[replayGo]at h⊢
  split at h
  ·rename_i hc
   have h:(nextD laws s k last d).2=0:=h
   rw[h]at hc
   exact absurd hc (by decide)
  ·rename_i hc
   rw[if_neg hc]
   have hn:=next_parts (show(nextD laws s k last d).2=0 by simpa using hc)
   have hd: ¬decide (d.day<=upto)=true:=by simp;omega
   rw[if_neg hd]at h⊢
   exact told_stays h (by omega)
theorem stop_told {laws:List Law} {upto:Int}: ∀ {ds:List Deed} {s:St} {k:Nat} {last:Int},(replayGo laws upto ds s s k last).2.2=0->
 (stopGo laws upto ds s k last).1=(replayGo laws upto ds s s k last).1/\(stopGo laws upto ds s k last).2.2=0
 | [],s,k,last,_=>⟨rfl,rfl⟩
 |d::l,s,k,last,h=>by
  rw[replayGo]at h⊢
  split at h
  ·rename_i hc
   have h:(nextD laws s k last d).2=0:=h
   rw[h]at hc
   exact absurd hc (by decide)
  ·rename_i hc
   rw[if_neg hc]
   have h0:(nextD laws s k last d).2=0:=by simpa using hc
   have hn:=next_parts h0
   rw[stopGo]
   by_cases hd:d.day<=upto
   ·have e1:decide (d.day<=upto)=true:=by simpa using hd
    have e2: ¬(checkDeedP d==0&&decide (upto<d.day))=true:=by simp;omega
    rw[if_pos e1]at h⊢
    rw[if_neg e2,if_neg hc]
    exact stop_told h
   ·have e1: ¬decide (d.day<=upto)=true:=by simpa using hd
    have e2:(checkDeedP d==0&&decide (upto<d.day))=true:=by simp[hn.1];omega
    rw[if_neg e1]at h⊢
    rw[if_pos e2]
    exact⟨(told_stays h (by omega)).symm,rfl⟩
theorem stop_all {laws:List Law} {upto:Int} (hu:200000<=upto): ∀ {ds:List Deed} {s:St} {k:Nat} {last:Int},
 (stopGo laws upto ds s k last).2=(replayGo laws upto ds s s k last).2
 | [],s,k,last=>rfl
 |d::l,s,k,last=>by
  rw[stopGo,replayGo]
  have h1: ¬(checkDeedP d==0&&decide (upto<d.day))=true:=by
   intro h
   simp only[Bool.and_eq_true,beq_iff_eq,decide_eq_true_eq]at h
   have:=(deed_ok h.1).day
   omega
  rw[if_neg h1]
  split
  ·rfl
  ·rename_i hc
   have hn:=next_parts (show(nextD laws s k last d).2=0 by simpa using hc)
   have:=(deed_ok hn.1).day
   rw[if_pos (by simp;omega)]
   exact stop_all hu
theorem circle_records {l:List Rec}:Circle l↔ ∃x∈l,x.kind=2/\(x.other=x.name\/Relation.TransGen (Edge l) x.other x.name):=by
 constructor
 ·rintro⟨a,ha⟩
  have key: ∀ {c:ByteArray},Relation.TransGen (Edge l) a c-> ∃x∈l,x.kind=2/\x.name=a/\(x.other=c\/Relation.TransGen (Edge l) x.other c):=by
   intro c hc
   induction hc with
   |single h=>
    obtain⟨x,hx,h1,h2,h3⟩:=h
    exact⟨x,hx,h1,h2, .inl h3⟩
   |tail _ h ih=>
    obtain⟨x,hx,h1,h2,h3⟩:=ih
    refine⟨x,hx,h1,h2, .inr ?_⟩
    rcases h3 with h3|h3
    ·rw[h3];exact Relation.TransGen.single h
    ·exact Relation.TransGen.tail h3 h
  obtain⟨x,hx,h1,h2,h3⟩:=key ha
  exact⟨x,hx,h1,by rw[h2];exact h3⟩
 ·rintro⟨x,hx,h1,h2⟩
  have he:Edge l x.name x.other:=⟨x,hx,h1,rfl,rfl⟩
  rcases h2 with h2|h2
  ·exact⟨x.name,Relation.TransGen.single (by rw[h2]at he;exact he)⟩
  ·refine⟨x.name,?_⟩
   have: ∀ {c:ByteArray},Relation.TransGen (Edge l) x.other c->Relation.TransGen (Edge l) x.name c:=by
    intro c hc
    induction hc with
    |single h=>exact Relation.TransGen.tail (Relation.TransGen.single he) h
    |tail _ h ih=>exact Relation.TransGen.tail ih h
   exact this h2
end Go.Proofs.YtkhkhnellekofaaGreatDoor
