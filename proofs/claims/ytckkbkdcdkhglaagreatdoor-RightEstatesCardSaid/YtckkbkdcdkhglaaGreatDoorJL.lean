/- Plain: the day of the last deed. -/
import Derived.Shelf.Small.Strs
import Derived.Shelf.SlicesE.Clone
import Derived.Shelf.SlicesE.Index
import Derived.Shelf.SlicesQ.Contains
import Derived.Shelf.Spec.TrailingZeros
import Derived.Test.YtckkbkdcdkhglaaGreatDoorJS
import Derived.Deep.RegionHeld3
set_option linter.unusedSimpArgs false
set_option linter.unusedVariables false
set_option maxRecDepth 100000
set_option maxHeartbeats 4000000
namespace Go.Proofs.YtckkbkdcdkhglaaGreatDoor
open Go.RowKit Go.Shelf
def zok:Go.Shelf.Ren:=⟨fun|106=>77|213=>111|265=>154|n=>n,fun|9=>9|3=>3|n=>n,fun|n=>n⟩
theorem cmpStr:Go.Proofs.Lays.n106 Tryz.prog zok:= {
 mixed:=by kernel_rfl
 f106:=Tryz.func77.trans (congrArg some (by kernel_rfl))
 f213:=Tryz.func111.trans (congrArg some (by kernel_rfl))
 f265:=Tryz.func154.trans (congrArg some (by kernel_rfl))
 t3:=Tryz.underlying3
 a3:=Tryz.isAgg3
 z3:=Tryz.sizeOf3
 v3:=Tryz.zeroValue3
 t9:=Tryz.underlying9
 a9:=Tryz.isAgg9
 z9:=Tryz.sizeOf9
 v9:=Tryz.zeroValue9}
def coStr_ren:Go.Shelf.Ren:=⟨fun|31=>49|29=>87|n=>n,fun|22=>36|23=>9|4=>4|3=>3|0=>0|n=>n,fun|n=>n⟩
theorem coStr:Go.Proofs.SlLaysE.n31 Tryz.prog coStr_ren:= {
 mixed:=by kernel_rfl
 f29:=⟨Tryz.f87.name,by decide,Tryz.func87.trans (congrArg some (by kernel_rfl))⟩
 f31:=⟨Tryz.f49.name,by decide,Tryz.func49.trans (congrArg some (by kernel_rfl))⟩
 t0:=Tryz.underlying0
 a0:=Tryz.isAgg0
 z0:=Tryz.sizeOf0
 v0:=Tryz.zeroValue0
 t3:=Tryz.underlying3
 a3:=Tryz.isAgg3
 z3:=Tryz.sizeOf3
 v3:=Tryz.zeroValue3
 t4:=Tryz.underlying4
 a4:=Tryz.isAgg4
 z4:=Tryz.sizeOf4
 v4:=Tryz.zeroValue4
 t22:=Tryz.underlying36
 a22:=Tryz.isAgg36
 z22:=Tryz.sizeOf36
 v22:=Tryz.zeroValue36
 a23:=Tryz.isAgg9
 z23:=Tryz.sizeOf9}
def zol:Go.Shelf.Ren:=⟨fun|7=>85|6=>114|n=>n,fun|22=>37|24=>136|4=>4|0=>0|3=>3|n=>n,fun|n=>n⟩
theorem coPair:Go.Proofs.SlLaysQ.n7 Tryz.prog zol:= {
 mixed:=by kernel_rfl
 f6:=⟨Tryz.f114.name,by decide,Tryz.func114.trans (congrArg some (by kernel_rfl))⟩
 f7:=⟨Tryz.f85.name,by decide,Tryz.func85.trans (congrArg some (by kernel_rfl))⟩
 t0:=Tryz.underlying0
 a0:=Tryz.isAgg0
 z0:=Tryz.sizeOf0
 v0:=Tryz.zeroValue0
 t3:=Tryz.underlying3
 a3:=Tryz.isAgg3
 z3:=Tryz.sizeOf3
 v3:=Tryz.zeroValue3
 t4:=Tryz.underlying4
 a4:=Tryz.isAgg4
 z4:=Tryz.sizeOf4
 v4:=Tryz.zeroValue4
 t22:=Tryz.underlying37
 a22:=Tryz.isAgg37
 z22:=Tryz.sizeOf37
 v22:=Tryz.zeroValue37}
def zom:Go.Shelf.Ren:=⟨fun|27=>89|28=>115|29=>116|n=>n,fun|25=>146|3=>3|27=>169|22=>171|4=>4|53=>198|0=>0|5=>5|54=>199|n=>n,fun|0=>2|1=>3|n=>n⟩
theorem tzBits:Go.Proofs.Lays7.n27 Tryz.prog zom:= {
 mixed:=by kernel_rfl
 f27:=Tryz.func89.trans (congrArg some (by kernel_rfl))
 f28:=Tryz.func115.trans (congrArg some (by kernel_rfl))
 f29:=Tryz.func116.trans (congrArg some (by kernel_rfl))
 t0:=Tryz.underlying0
 a0:=Tryz.isAgg0
 z0:=Tryz.sizeOf0
 v0:=Tryz.zeroValue0
 i0:=by kernel_rfl
 t3:=Tryz.underlying3
 a3:=Tryz.isAgg3
 z3:=Tryz.sizeOf3
 v3:=Tryz.zeroValue3
 i3:=by kernel_rfl
 t4:=Tryz.underlying4
 a4:=Tryz.isAgg4
 z4:=Tryz.sizeOf4
 v4:=Tryz.zeroValue4
 i4:=by kernel_rfl
 t5:=Tryz.underlying5
 a5:=Tryz.isAgg5
 z5:=Tryz.sizeOf5
 v5:=Tryz.zeroValue5
 i5:=by kernel_rfl
 t22:=Tryz.underlying171
 a22:=Tryz.isAgg171
 z22:=Tryz.sizeOf171
 v22:=Tryz.zeroValue171
 i22:=by kernel_rfl
 t25:=Tryz.underlying146
 a25:=Tryz.isAgg146
 z25:=Tryz.sizeOf146
 v25:=Tryz.zeroValue146
 i25:=by kernel_rfl
 t27:=Tryz.underlying169
 a27:=Tryz.isAgg169
 z27:=Tryz.sizeOf169
 v27:=Tryz.zeroValue169
 i27:=by kernel_rfl
 t53:=Tryz.underlying198
 a53:=Tryz.isAgg198
 z53:=Tryz.sizeOf198
 v53:=Tryz.zeroValue198
 i53:=by kernel_rfl
 t54:=Tryz.underlying199
 a54:=Tryz.isAgg199
 z54:=Tryz.sizeOf199
 g0:=by kernel_rfl
 g1:=by kernel_rfl}
end Go.Proofs.YtckkbkdcdkhglaaGreatDoor
namespace Go.Proofs.YtckkbkdcdkhglaaGreatDoor
open Go.RowKit
theorem GoodSt.later {s:St} {a b:Int} (h:GoodSt s a) (cI:a<=b):GoodSt s b:=
 {h with force:=fun i j gi gj hi hj hp day hd h1 h2=>h.force i j gi gj hi hj hp day (by omega) h1 h2}
theorem zik: ∀ {l:List RPart} {out:Parts},GoodParts out->(∀p∈out,IsN 720720 p.2)->(∀p∈l,0<p.rat/\IsN 720720 p.rat)->
 GoodParts (zbe l out)/\(∀p∈zbe l out,IsN 720720 p.2)/\sumQ (zbe l out)=sumQ out+sumQ (zao l)
 | [],out,h1,h2,_=>⟨h1,h2,by simp only[zbe,List.foldl_nil,zao,List.map_nil,sumQ];grind⟩
 |p::l,out,h1,h2,h=>by
  obtain⟨p1,p2⟩:=h p (by simp);have ih:=zik (l:=l) (zbw (n:=p.name) (q:=p.rat) (by grind) h1) (zcF p2 h2) fun q hq=>h q (by simp[hq])
  have e:zbe (p::l) out=zbe l (za3 out p.name p.rat):=rfl;rw[e];refine⟨ih.1,ih.2.1,?_⟩;rw[ih.2.2,zbX];simp only[zao,List.map_cons,sumQ];grind
theorem zdX {all:Bool} {frm:ByteArray} {l:List RPart} (h:zcB true all frm l=true):(∀p∈l,0<p.rat/\IsN 720720 p.rat/\za6 16 p.num p.den=true)/\sumQ (zao l)<=1/\(all=true->sumQ (zao l)=1)/\ ∀p∈l,p.name≠frm:=by
 unfold zcB at h;simp only[if_true,Bool.and_eq_true,List.all_eq_true,Bool.not_eq_true',decide_eq_true_eq,Bool.or_eq_true,bne_iff_ne,ne_eq,beq_iff_eq]at h;obtain⟨⟨_,hn⟩,⟨hs,bQ⟩,aY⟩:=h;refine⟨fun p hp=> ?_,bQ,fun ha=> ?_,fun p hp=>zco.1 (hn p hp)⟩
 ·obtain⟨h1,h2⟩:=hs p hp;have h3:=zbl h1;refine⟨?_,zel h1,h1⟩;have ai:p.rat≠0:=by
   intro k;apply h2;rw[<-h3.1];unfold RPart.rat at k;rw[k];rfl
  have ia:0<=p.rat:=h3.2.2.1;grind
 ·rcases aY with k|k
  ·rw[ha]at k;cases k
  ·exact k
theorem zj8 {all:Bool} {frm:ByteArray} {l:List RPart} (h:zcB true all frm l=true):WillOk (zao l):=by
 obtain⟨h1,h2,_,_⟩:=zdX h;refine⟨fun p hp=> ?_,fun p hp=> ?_,h2⟩
 ·obtain⟨q,hq,rfl⟩:=List.mem_map.1 hp;exact(h1 q hq).1
 ·obtain⟨q,hq,rfl⟩:=List.mem_map.1 hp;exact(h1 q hq).2.1
theorem zmv {s s':St} {d:Deed} {last:Int} (h:GoodSt s last) (hd:OkD d) (hl:last<=d.day) (hk:d.kind=0) (ht:zcM s d=(s',0)):GoodSt s' d.day:=by
 have h:=h.later hl;unfold zcM at ht;split at ht
 ·simp at ht
 rename_i h1
 split at ht
 ·simp at ht
 split at ht
 ·simp at ht
 simp only[Prod.mk.injEq,and_true]at ht;rw[<-ht];have hx:zaJ s d.place d.day=none:=by simpa using h1
 have hn:=zhn hx;obtain⟨nL,xP⟩:=hd.parts (.inl hk);obtain⟨p1,p2,p3,_⟩:=zdX xP;obtain⟨g1,g2,g3⟩:=zik (l:=d.to) (out:=[]) zd6 (by simp) fun p hp=>⟨(p1 p hp).1,(p1 p hp).2.1⟩
 have g4:sumQ (zbe d.to [])=1:=by
  rw[g3,p3 (by rw[hk];rfl),sumQ];grind
 generalize hg:(⟨d.place,d.cls,if decide (0<d.years)=true then zci d.day d.years else-1,zbe d.to [],[]⟩:Grave)=g;have tL:g.place=d.place:=by rw[<-hg]
 have wX:GoodG g:=by rw[<-hg];exact⟨g1,zc5 (by decide) (by decide) g2, .inr g4⟩
 refine {h with graves:=fun x hx=> ?_,force:=fun i j gi gj hi hj hp day kn f1 f2=> ?_}
 ·rcases List.mem_append.1 hx with hx|hx
  ·exact h.graves x hx
  ·rw[List.mem_singleton.1 hx];exact wX
 ·have hi:(s.graves++[g])[i]?=some gi:=hi;have hj:(s.graves++[g])[j]?=some gj:=hj;rw[List.getElem?_append]at hi hj;split at hi<;>split at hj
  ·exact h.force i j gi gj hi hj hp day kn f1 f2
  ·exfalso
   have e:gj=g:=by
    rw[List.getElem?_cons]at hj;split at hj
    ·exact(Option.some.inj hj).symm
    ·simp at hj
   have:=hn gi (List.mem_of_getElem? hi) (by rw[hp,e,tL]);rw[zgU kn f1]at this;cases this
  ·exfalso
   have e:gi=g:=by
    rw[List.getElem?_cons]at hi;split at hi
    ·exact(Option.some.inj hi).symm
    ·simp at hi
   have:=hn gj (List.mem_of_getElem? hj) (by rw[<-hp,e,tL]);rw[zgU kn f2]at this;cases this
  ·have:=(List.getElem?_eq_some_iff.1 hi).1;have:=(List.getElem?_eq_some_iff.1 hj).1;simp at*;omega
theorem zj9 {s:St} {i:Nat} {g g':Grave} {day:Int} (h:GoodSt s day) (hi:s.graves[i]?=some g) (hg:GoodG g') (hp:g'.place=g.place) (hf: ∀e,day<=e->zaU g' e=true->zaU g e=true):GoodSt (s.withGrave i g') day:=by
 have eb:=(List.getElem?_eq_some_iff.1 hi).1;refine {h with graves:=fun x hx=> ?_,force:=fun a b ga gb ha hb kZ e he f1 f2=> ?_}
 ·rcases List.mem_or_eq_of_mem_set hx with hx|hx
  ·exact h.graves x hx
  ·rw[hx];exact hg
 ·have ha:(s.graves.set i g')[a]?=some ga:=ha;have hb:(s.graves.set i g')[b]?=some gb:=hb;rw[List.getElem?_set]at ha hb;have one: ∀(c:Nat) (gc:Grave),(if i=c then if i<s.graves.length then some g' else none else s.graves[c]?)=some gc-> ∃gc',s.graves[c]?=some gc'/\gc'.place=gc.place/\(zaU gc e=true->zaU gc' e=true):=by
   intro c gc hc;by_cases hic:i=c
   ·rw[if_pos hic,if_pos eb]at hc;cases hc;subst hic;exact⟨g,hi,hp.symm,hf e he⟩
   ·rw[if_neg hic]at hc;exact⟨gc,hc,rfl,id⟩
  obtain⟨ga',a1,a2,a3⟩:=one a ga ha;obtain⟨gb',b1,b2,b3⟩:=one b gb hb;exact h.force a b ga' gb' a1 b1 (by rw[a2,b2,kZ]) e he (a3 f1) (b3 f2)
theorem zdY {s:St} {i:Nat} {g:Grave} (h:s.graves[i]?=some g):s.graves.getD i ze0=g:=by
 rw[List.getD_eq_getElem?_getD,h];rfl
theorem ze5 {g:Grave} {out:Parts} {died:List ByteArray} {e:Int} (ai:g.holders≠[]) (h:zaU {g with holders:=out,died:=died} e=true):zaU g e=true:=by
 unfold zaU at*;simp only[Bool.and_eq_true]at*;refine⟨?_,h.2⟩;cases hg:g.holders with
 |nil=>exact absurd hg ai
 |cons _ _=>rfl
theorem zjk {s s':St} {d:Deed} {last:Int} (h:GoodSt s last) (hd:OkD d) (hl:last<=d.day) (hk:d.kind=1) (ht:zbp s d=(s',0)):GoodSt s' d.day:=by
 have h:=h.later hl;unfold zbp at ht;split at ht
 ·simp at ht
 rename_i i hi
 obtain⟨g,g1,g2,g3⟩:=zbI hi;rw[zdY g1]at ht;dsimp only at ht;split at ht
 ·simp at ht
 split at ht
 ·simp at ht
 rename_i hs
 have hs:zaf g.holders d.frm≠0:=by simpa using hs
 split at ht
 ·simp at ht
 split at ht
 ·simp at ht
 rename_i hb
 split at ht
 ·simp at ht
 rename_i out ho
 simp only[Prod.mk.injEq,and_true]at ht;rw[<-ht];obtain⟨nL,xP⟩:=hd.parts (.inr (.inl hk));have hw:=zj8 xP;have b9:=h.graves g (List.mem_of_getElem? g1);exact zj9 h g1 (zko b9 hs hw.pos hw.le (by simpa using hb) ho) rfl fun e _ hf=>ze5 (died:=g.died) (zdk hs) hf
theorem zil {s s':St} {d:Deed} {last:Int} (h:GoodSt s last) (hl:last<=d.day) (ht:zaZ s d=(s',0)):GoodSt s' d.day:=by
 have h:=h.later hl;unfold zaZ at ht;split at ht
 ·simp at ht
 rename_i i hi
 obtain⟨g,g1,g2,g3⟩:=zbI hi;rw[zdY g1]at ht;dsimp only at ht;split at ht
 ·simp at ht
 rename_i hs
 have hs:zaf g.holders d.frm≠0:=by simpa using hs
 split at ht
 ·simp at ht
 rename_i hb
 simp only[Prod.mk.injEq,and_true]at ht;rw[<-ht];have b9:=h.graves g (List.mem_of_getElem? g1);exact zj9 h g1 (zjj b9 hs (by simpa using hb)) rfl fun e _ hf=>ze5 (died:=g.died) (zdk hs) hf
theorem zmw {s s':St} {d:Deed} {last:Int} (h:GoodSt s last) (hl:last<=d.day) (ht:zcX s d=(s',0)):GoodSt s' d.day:=by
 have h:=h.later hl;unfold zcX at ht;split at ht
 ·simp at ht
 rename_i i hi
 obtain⟨g,g1,g2,g3⟩:=zbI hi;rw[zdY g1]at ht;dsimp only at ht;split at ht
 ·simp at ht
 split at ht
 ·simp at ht
 simp only[Prod.mk.injEq,and_true]at ht;rw[<-ht];generalize zci g.fin d.years=fin at*;have b9:=h.graves g (List.mem_of_getElem? g1);have eb:=(List.getElem?_eq_some_iff.1 g1).1;refine {h with graves:=fun x hx=> ?_,force:=fun a b ga gb ha hb kZ e he f1 f2=> ?_}
 ·rcases List.mem_or_eq_of_mem_set hx with hx|hx
  ·exact h.graves x hx
  ·rw[hx];exact⟨b9.good,b9.small,b9.one⟩
 ·have ha:(s.graves.set i {g with fin:=fin})[a]?=some ga:=ha;have hb:(s.graves.set i {g with fin:=fin})[b]?=some gb:=hb;rw[List.getElem?_set]at ha hb;have one: ∀(c:Nat) (gc:Grave),(if i=c then if i<s.graves.length then some ({g with fin:=fin}:Grave)else none else s.graves[c]?)=some gc-> ∃gc',s.graves[c]?=some gc'/\gc'.place=gc.place/\(zaU gc e=true->zaU gc' d.day=true):=by
   intro c gc hc;by_cases hic:i=c
   ·rw[if_pos hic,if_pos eb]at hc;cases hc;subst hic;exact⟨g,g1,rfl,fun _=>g3⟩
   ·rw[if_neg hic]at hc;exact⟨gc,hc,rfl,fun hf=>zgU he hf⟩
  obtain⟨ga',a1,a2,a3⟩:=one a ga ha;obtain⟨gb',b1,b2,b3⟩:=one b gb hb;exact h.force a b ga' gb' a1 b1 (by rw[a2,b2,kZ]) d.day (Int.le_refl _) (a3 f1) (b3 f2)
theorem name_one {d:Deed} (h:d.to.length=1): ∃p,d.to=[p]/\zbh d=p.name:=by
 match hd:d.to,h with
 | [p],_=>exact⟨p,rfl,by unfold zbh;rw[hd];rfl⟩
theorem one_ne {d:Deed} (hd:OkD d) (h:d.kind=5\/d.kind=6\/d.kind=7):noB (zbh d)=false/\zbh d≠d.frm/\noB d.frm=false:=by
 obtain⟨h1,h2⟩:=hd.one h;obtain⟨p,hp,hn⟩:=name_one h1;have oJ:=hd.names p (by rw[hp];simp);rw[hn];refine⟨zgh oJ,?_,zgh (hd.frm (by omega))⟩;unfold zcB at h2;simp only[Bool.and_eq_true,List.all_eq_true,Bool.not_eq_true']at h2;exact zco.1 (h2.1.2 p (by rw[hp];simp))
theorem zfL (s:St) (f:ByteArray) (l:Parts) (n:ByteArray):zbu {s with wills:=s.wills++[(f,l)]} n=if zae f n then l else zbu s n:=by
 unfold zbu;rw[List.reverse_append,List.reverse_singleton,List.singleton_append,List.find?_cons];split
 ·rename_i h
  rw[if_pos h];rfl
 ·rename_i h
  rw[if_neg (by simpa using h)]
theorem zon {s s':St} {d:Deed} {last:Int} (h:GoodSt s last) (hd:OkD d) (hl:last<=d.day) (hk:d.kind=4) (ht:zgO s d=(s',0)):GoodSt s' d.day:=by
 have h:=h.later hl;unfold zgO at ht;split at ht
 ·simp at ht
 simp only[Prod.mk.injEq,and_true]at ht;rw[<-ht];obtain⟨nL,xP⟩:=hd.parts (.inr (.inr hk));refine {h with wills:=fun n=> ?_,willNames:=fun w hw p hp=> ?_}
 ·rw[zfL];split
  ·exact zj8 xP
  ·exact h.wills n
 ·rcases List.mem_append.1 hw with hw|hw
  ·exact h.willNames w hw p hp
  ·rw[List.mem_singleton.1 hw]at hp;obtain⟨q,hq,rfl⟩:=List.mem_map.1 hp;exact zgh (hd.names q hq)
theorem zjl {s s':St} {d:Deed} {last:Int} (h:GoodSt s last) (hl:last<=d.day) (ht:zb7 s d=(s',0)):GoodSt s' d.day:=by
 have h:=h.later hl;unfold zb7 at ht;split at ht
 ·simp at ht
 split at ht
 ·simp at ht
 simp only[Prod.mk.injEq,and_true]at ht;rw[<-ht];exact {h with}
theorem zmx {s s':St} {d:Deed} {last:Int} (h:GoodSt s last) (hd:OkD d) (hl:last<=d.day) (hk:d.kind=7) (ht:zdp s d=(s',0)):GoodSt s' d.day:=by
 have h:=h.later hl;unfold zdp at ht;split at ht
 ·simp at ht
 split at ht
 ·simp at ht
 simp only[Prod.mk.injEq,and_true]at ht;rw[<-ht];obtain⟨h1,h2,h3⟩:=one_ne hd (.inr (.inr hk));refine {h with marr:=fun m hm=> ?_};rcases List.mem_append.1 hm with hm|hm
 ·exact h.marr m hm
 ·rw[List.mem_singleton.1 hm];exact⟨h2.symm,h3,h1⟩
theorem zmy {s s':St} {d:Deed} {last:Int} (h:GoodSt s last) (hd:OkD d) (hl:last<=d.day) (hk:d.kind=6) (ht:zcD s d=(s',0)):GoodSt s' d.day:=by
 have h:=h.later hl;unfold zcD at ht;split at ht
 ·simp at ht
 split at ht
 ·simp at ht
 split at ht
 ·simp at ht
 rename_i hn
 have hn: ¬Desc s (zbh d) d.frm:=by simpa using hn
 simp only[Prod.mk.injEq,and_true]at ht;rw[<-ht];obtain⟨h1,h2,h3⟩:=one_ne hd (.inr (.inl hk));refine {h with acyc:=zms h.acyc hn h2.symm,kids:=fun c hc=> ?_};rcases List.mem_append.1 hc with hc|hc
 ·exact h.kids c hc
 ·rw[List.mem_singleton.1 hc];exact⟨h3,h1⟩
theorem laws_go: ∀ {l:List Law} {b:Option Int},zeS l b=0-> ∀x∈l,za6 16 x.num x.den=true
 |x::l,b,h,y,hy=>by
  unfold zeS at h;split at h
  ·rename_i hb
   simp[h]at hb
  ·rename_i hb
   rcases List.mem_cons.1 hy with rfl|hy
   ·unfold zhm at hb;split at hb
    ·simp at hb
    split at hb
    ·simp at hb
    ·rename_i hq
     simpa using hq
   ·exact laws_go h y hy
theorem zeo {laws:List Law} (h:zaA laws=0) (day:Int):za6 16 (zaV laws day).num (zaV laws day).den=true:=by
 unfold zaA at h;split at h
 ·simp at h
 unfold zaV;cases hl:(laws.filter fun x=>decide (x.frm<=day)).getLast? with
 |none=>decide
 |some x=>
  have hm:=List.mem_of_getLast? hl;exact laws_go h x (List.mem_filter.1 hm).1
theorem zmz {s:St} {n:ByteArray} {day:Int} {bv:Option Parts}: ∀ {l l':List Grave} {k:Nat},zbz s n day bv k l=some l'->l'.length=l.length/\ ∀(i:Nat) g',l'[i]?=some g'-> ∃g,l[i]?=some g/\
 (g'=g/\zdq s n day (k+i) g=false\/zdq s n day (k+i) g=true/\ ∃h out,bv=some h/\zb6 (zaf g.holders n) h (zas g.holders n)=some out/\g'= {g with holders:=out,died:=g.died++[n]})
 | [],l',k,h=>by
   unfold zbz at h;cases h;exact⟨rfl,fun i g' hg=>by simp at hg⟩
 |g::l,l',k,h=>by
  unfold zbz at h;have step: ∀ {r:List Grave} {g':Grave},zbz s n day bv (k+1) l=some r->l'=g'::r->(g'=g/\zdq s n day k g=false\/zdq s n day k g=true/\ ∃h out,bv=some h/\zb6 (zaf g.holders n) h (zas g.holders n)=some out/\g'= {g with holders:=out,died:=g.died++[n]})->
   l'.length=(g::l).length/\ ∀(i:Nat) g',l'[i]?=some g'-> ∃x,(g::l)[i]?=some x/\(g'=x/\zdq s n day (k+i) x=false\/zdq s n day (k+i) x=true/\ ∃h out,bv=some h/\zb6 (zaf x.holders n) h (zas x.holders n)=some out/\g'= {x with holders:=out,died:=x.died++[n]}):=by
   intro r g' hr he hc;obtain⟨i1,i2⟩:=zmz hr;subst he;refine⟨by simp[i1],fun i x hx=> ?_⟩;cases i with
   |zero=>
    simp only[List.getElem?_cons_zero,Option.some.injEq]at hx;subst hx;exact⟨g,rfl,hc⟩
   |succ i=>
    obtain⟨y,y1,y2⟩:=i2 i x (by simpa using hx);exact⟨y,by simpa using y1,by rw[show k+(i+1)=k+1+i by omega];exact y2⟩
  split at h
  ·rename_i hh
   cases bv with
   |none=>simp at h
   |some hs=>
    dsimp only at h;rw[Option.bind_eq_some_iff]at h;obtain⟨out,h1,h2⟩:=h;rw[Option.map_eq_some_iff]at h2;obtain⟨r,h3,h4⟩:=h2;exact step h3 h4.symm (.inr ⟨hh,hs,out,rfl,h1,rfl⟩)
  ·rename_i hh
   rw[Option.map_eq_some_iff]at h;obtain⟨r,h3,h4⟩:=h;exact step h3 h4.symm (.inl ⟨rfl,by simpa using hh⟩)
theorem zm0 {laws:List Law} {s s':St} {d:Deed} {last:Int} (h:GoodSt s last) (hd:OkD d) (hl:last<=d.day) (hk:d.kind=8) (bh:zaA laws=0) (ht:zdJ laws s d=(s',0)):GoodSt s' d.day:=by
 have h:=h.later hl;unfold zdJ at ht;split at ht
 ·simp at ht
 split at ht
 ·simp at ht
 rename_i gs aM
 simp only[Prod.mk.injEq,and_true]at ht;rw[<-ht];obtain⟨ag,gX⟩:=zmz aM;have one: ∀(i:Nat) g',gs[i]?=some g'-> ∃g,s.graves[i]?=some g/\GoodG g'/\g'.place=g.place/\ ∀e,zaU g' e=true->zaU g e=true:=by
  intro i g' eA;obtain⟨g,g1,g2⟩:=gX i g' eA;have b9:=h.graves g (List.mem_of_getElem? g1);rcases g2 with⟨rfl,_⟩|⟨hh,hs,out,e1,e2,rfl⟩
  ·exact⟨g',g1,b9,rfl,fun _=>id⟩
  ·unfold zdq at hh;rw[Bool.and_eq_true]at hh;have aw:zaf g.holders d.frm≠0:=by simpa using hh.1
   obtain⟨k1,k2,k3⟩:=ze3 (h.wills d.frm) (zeo bh d.day) e1;exact⟨g,g1,zlf b9 aw k1 k2 e2,rfl,fun e=>ze5 (zdk aw)⟩
 refine {h with graves:=fun x hx=> ?_,force:=fun a b ga gb ha hb kZ e he f1 f2=> ?_,dead:=fun n hn=> ?_}
 ·obtain⟨i,hi⟩:=List.mem_iff_getElem?.1 hx;exact(one i x hi).elim fun _ hg=>hg.2.1
 ·obtain⟨ga',a1,_,a2,a3⟩:=one a ga ha;obtain⟨gb',b1,_,b2,b3⟩:=one b gb hb;exact h.force a b ga' gb' a1 b1 (by rw[<-a2,<-b2,kZ]) e he (a3 e f1) (b3 e f2)
 ·rcases List.mem_append.1 hn with hn|hn
  ·exact h.dead n hn
  ·rw[List.mem_singleton.1 hn];exact zgh (hd.frm (by omega))
theorem zgW {laws:List Law} {s s':St} {d:Deed} {last:Int} (h:GoodSt s last) (hd:OkD d) (hl:last<=d.day) (bh:zaA laws=0) (ht:zbq laws s d=(s',0)):GoodSt s' d.day:=by
 have hk:=hd.kind;unfold zbq at ht;split at ht
 ·rename_i k;exact zmv h hd hl (by simpa using k) ht
 split at ht
 ·rename_i k;exact zjk h hd hl (by simpa using k) ht
 split at ht
 ·exact zil h hl ht
 split at ht
 ·exact zmw h hl ht
 split at ht
 ·rename_i k;exact zon h hd hl (by simpa using k) ht
 split at ht
 ·exact zjl h hl ht
 split at ht
 ·rename_i k;exact zmy h hd hl (by simpa using k) ht
 split at ht
 ·rename_i k;exact zmx h hd hl (by simpa using k) ht
 ·rename_i k0 k1 k2 k3 k4 k5 k6 k7
  simp only[beq_iff_eq]at k0 k1 k2 k3 k4 k5 k6 k7;exact zm0 h hd hl (by omega) bh ht
theorem zbs (x:ByteArray×Rat) (l:Parts) (n:ByteArray):zaf (x::l) n=if zae x.1 n then x.2 else zaf l n:=by
 unfold zaf;rw[List.find?_cons];split
 ·rename_i h;rw[if_pos h];rfl
 ·rename_i h;rw[if_neg (by simpa using h)]
theorem zim {n:ByteArray} {q:Rat}: ∀ {l:Parts},GoodParts l-> ∀m,zaf (za3 l n q) m=if zae m n then zaf l n+q else zaf l m
 | [],_,m=>by
   unfold za3;split
   ·rename_i h
    have:q=0:=by simpa using h
    subst this;split
    ·rename_i hs;rw[zat.1 hs];grind
    ·rfl
   ·rw[zbs];by_cases hs:m=n
    ·rw[if_pos (zat.2 hs.symm),if_pos (zat.2 hs)];show q=zaf [] n+q;have:zaf [] n=0:=rfl;grind
    ·rw[if_neg (by rw[zat];exact fun e=>hs e.symm),if_neg (by rw[zat];exact hs)]
 |x::r,⟨h1,h2⟩,m=>by
  have hr:GoodParts r:=⟨(List.pairwise_cons.1 h1).2,fun p hp=>h2 p (by simp[hp])⟩
  have hx:=(List.pairwise_cons.1 h1).1;unfold za3;split
  ·rename_i h
   have:q=0:=by simpa using h
   subst this;split
   ·rename_i hs;rw[zat.1 hs];grind
   ·rfl
  ·split
   ·rename_i hl
    have ai:=zcG hl;have ih:=zim (n:=n) (q:=q) hr m;rw[zbs,ih,zbs,zbs];by_cases hs:m=n
    ·subst hs;rw[if_neg (by rw[zat];exact ai),if_pos (zbW m),if_pos (zbW m),if_neg (by rw[zat];exact ai)]
    ·rw[if_neg (c:=zae m n=true) (by rw[zat];exact hs),if_neg (c:=zae m n=true) (by rw[zat];exact hs)]
   ·split
    ·rename_i hs
     have e:=zat.1 hs;rw[zbs,zbs,zbs];by_cases hm:m=n
     ·subst hm;rw[if_pos (zbW m),if_pos (zbW m),if_pos hs]
     ·rw[if_neg (by rw[zat];exact fun k=>hm k.symm),if_neg (by rw[zat];exact hm),if_neg (by rw[zat,e];exact fun k=>hm k.symm)]
    ·rename_i hl hs
     have jy: ∀p∈x::r,p.1≠n:=by
      intro p hp e;rcases List.mem_cons.1 hp with rfl|hp
      ·exact hs (zat.2 e)
      ·rcases zds x.1 n with k|k|k
       ·exact hl k
       ·exact hs (zat.2 k)
       ·have:=zb1 k (hx p hp);rw[e,zeU]at this;cases this
     have h0:=(zdF jy).1;rw[zbs];by_cases hm:m=n
     ·subst hm;rw[if_pos (zbW m),if_pos (zbW m),h0];grind
     ·rw[if_neg (by rw[zat];exact fun k=>hm k.symm),if_neg (by rw[zat];exact hm)]
theorem zd9 {n m:ByteArray}: ∀ {l:Parts},zaf (zas l n) m=if zae m n then 0 else zaf l m
 | []=>by
   have e:zaf (zas [] n) m=0:=rfl;have e2:zaf [] m=0:=rfl;rw[e,e2];split<;>rfl
 |x::r=>by
  have ih:=zd9 (n:=n) (m:=m) (l:=r);by_cases hx:x.1=n
  ·have e:zas (x::r) n=zas r n:=by
    unfold zas;rw[List.filter_cons,zat.2 hx];rfl
   rw[e,ih,zbs];by_cases hm:m=n
   ·rw[if_pos (zat.2 hm),if_pos (zat.2 hm)]
   ·rw[if_neg (by rw[zat];exact hm),if_neg (by rw[zat];exact hm),if_neg (by rw[zat,hx];exact fun k=>hm k.symm)]
  ·have e:zas (x::r) n=x::zas r n:=by
    unfold zas;rw[List.filter_cons,zco.2 hx];rfl
   rw[e,zbs,ih,zbs];by_cases hm:m=n
   ·rw[if_pos (c:=zae m n=true) (zat.2 hm),if_pos (c:=zae m n=true) (zat.2 hm),if_neg (by rw[zat,hm];exact hx)]
   ·rw[if_neg (c:=zae m n=true) (by rw[zat];exact hm),if_neg (c:=zae m n=true) (by rw[zat];exact hm)]
theorem share_mem {l:Parts} (h:GoodParts l) {p:ByteArray×Rat} (hp:p∈l):zaf l p.1=p.2:=by
 induction l with
 |nil=>cases hp
 |cons x r ih=>
  obtain⟨h1,h2⟩:=h;have hr:GoodParts r:=⟨(List.pairwise_cons.1 h1).2,fun p hp=>h2 p (by simp[hp])⟩
  have hx:=(List.pairwise_cons.1 h1).1;rw[zbs];rcases List.mem_cons.1 hp with rfl|hp
  ·rw[if_pos (zbW _)]
  ·rw[if_neg (by rw[zat];exact zcG (hx p hp)),ih hr hp]
theorem zhq: ∀(a b:List UInt8),decide (Lib.compareBytes a b<0)=Op.bytesLess a b
 | [],[]=>by simp[Lib.compareBytes,Op.bytesLess]
 | [],_::_=>by simp[Lib.compareBytes,Op.bytesLess]
 |_::_,[]=>by simp[Lib.compareBytes,Op.bytesLess]
 |a::xs,b::ys=>by
  have ih:=zhq xs ys;unfold Lib.compareBytes Op.bytesLess;by_cases he:a=b
  ·subst he;simp[UInt8.lt_irrefl,ih]
  ·by_cases h1:a<b
   ·simp[h1]
   ·have h2:b<a:=(UInt8.lt_or_lt_of_ne he).resolve_left h1;simp[h1,h2,he]
theorem zgi: ∀(a b:List UInt8),(Lib.compareBytes a b==0)=(a==b)
 | [],[]=>by simp[Lib.compareBytes]
 | [],_::_=>by simp[Lib.compareBytes]
 |_::_,[]=>by simp[Lib.compareBytes]
 |a::xs,b::ys=>by
  have ih:=zgi xs ys;unfold Lib.compareBytes;by_cases he:a=b
  ·subst he;simpa[UInt8.lt_irrefl]using ih
  ·by_cases h1:a<b
   ·simp[h1,he]
   ·have h2:b<a:=(UInt8.lt_or_lt_of_ne he).resolve_left h1;simp[h1,h2,he]
def cmpN (a b:ByteArray):Int:=Lib.compareBytes a.data.toList b.data.toList
theorem zn7 (a b:ByteArray):decide (cmpN a b<0)=zbo a b:=by
 unfold cmpN zbo;rw[zhq,ByteArray.toList_eq,ByteArray.toList_eq]
theorem cmpN_zero (a b:ByteArray):(cmpN a b==0)=zae a b:=by
 unfold cmpN zae;rw[zgi,ByteArray.toList_eq,ByteArray.toList_eq]
def AscP (l:Parts):Prop:=l.Pairwise fun a b=>zbo a.1 b.1=true
theorem less_up {a b n:ByteArray} (cI:zbo a b=true) (h:zbo a n=false):zbo b n=false:=by
 cases hb:zbo b n
 ·rfl
 ·rw[zb1 cI hb]at h;cases h
def zdN:Parts->ByteArray->Bool
 | [],_=>false
 |p::_,n=>zae p.1 n
def setP:Parts->ByteArray->Rat->Parts
 | [],n,q=>if q==0 then[]else[(n,q)]
 |p::r,n,q=>if zbo p.1 n then p::setP r n q else if zae p.1 n then(if q==0 then r else(n,q)::r)else if q==0 then p::r else(n,q)::p::r
theorem zep {n:ByteArray} {q:Rat}: ∀ {A B:Parts},(∀p∈A,zbo p.1 n=true)->setP (A++B) n q=A++setP B n q
 | [],B,_=>rfl
 |a::A,B,h=>by
  rw[List.cons_append,setP,if_pos (h a (by simp)),zep fun p hp=>h p (by simp[hp])];rfl
theorem zgj {a b:ByteArray} (h:zbo a b=true):zae a b=false:=zco.2 (zcG h)
theorem zfM {n:ByteArray}: ∀ {A B:Parts},(∀p∈A,zbo p.1 n=true)->zaf (A++B) n=zaf B n
 | [],B,_=>rfl
 |a::A,B,h=>by
  rw[List.cons_append,zbs,zgj (h a (by simp)),if_neg (by simp),zfM fun p hp=>h p (by simp[hp])]
theorem zhC {A B:Parts} (h:AscP (A++B)):AscP B:=(List.pairwise_append.1 h).2.1
theorem zn8 {n:ByteArray}: ∀ {B:Parts},(∀p∈B,zbo p.1 n=false)->AscP B->zdN B n=false->zaf B n=0
 | [],_,_,_=>rfl
 |b::B,h,ha,hh=>by
  have kT:=List.pairwise_cons.1 ha;have hb:b.1≠n:=zco.1 hh;have fZ:zbo n b.1=true:=by
   rcases zds b.1 n with h1|h1|h1
   ·rw[h b (by simp)]at h1;cases h1
   ·exact absurd h1 hb
   ·exact h1
  exact(zdF fun p hp=>by
   rcases List.mem_cons.1 hp with rfl|hp
   ·exact hb
   ·exact(zcG (zb1 fZ (kT.1 p hp))).symm).1
theorem zfN {n:ByteArray} {q:Rat}: ∀ {A B:Parts},(∀p∈A,zbo p.1 n=true)->za3 (A++B) n q=A++za3 B n q
 | [],B,_=>rfl
 |a::A,B,h=>by
  rw[List.cons_append,za3];by_cases hq:q==0
  ·rw[if_pos hq];have:za3 B n q=B:=by
    cases B with
    |nil=>simp[za3,hq]
    |cons b B=>simp[za3,hq]
   rw[this];rfl
  ·rw[if_neg hq,if_pos (h a (by simp)),zfN fun p hp=>h p (by simp[hp])];rfl
theorem zhD (l:Parts) (h:AscP l) (n:ByteArray): ∃A B,l=A++B/\(∀p∈A,zbo p.1 n=true)/\(∀p∈B,zbo p.1 n=false):=by
 induction l with
 |nil=>exact⟨[],[],rfl,by simp,by simp⟩
 |cons p l ih=>
  have hp:=List.pairwise_cons.1 h;cases hl:zbo p.1 n
  ·refine⟨[],p::l,rfl,by simp,fun x hx=> ?_⟩;rcases List.mem_cons.1 hx with rfl|hx
   ·exact hl
   ·exact less_up (hp.1 x hx) hl
  ·obtain⟨A,B,rfl,h1,h2⟩:=ih hp.2;refine⟨p::A,B,rfl,fun x hx=> ?_,h2⟩;rcases List.mem_cons.1 hx with rfl|hx
   ·exact hl
   ·exact h1 x hx
theorem zin {l:Parts} (h:GoodParts l) {n:ByteArray} {q:Rat} (hq:0<=q):setP l n (zaf l n+q)=za3 l n q:=by
 obtain⟨A,B,rfl,h1,h2⟩:=zhD l h.1 n;rw[zep h1,zfM h1,zfN h1];congr 1
 have hB:=zhC h.1;cases B with
 |nil=>
  show(if(0:Rat)+q==0 then[]else[(n,0+q)])=if q==0 then[]else[(n,q)];rw[Rat.zero_add]
 |cons b B=>
  have hb:=h2 b (by simp);have Jv:0<b.2:=h.2 b (by simp);cases hs:zae b.1 n
  ·have h0:zaf (b::B) n=0:=zn8 h2 hB hs;rw[h0,Rat.zero_add,setP,za3,hb,hs];simp
  ·rw[zbs,hs,if_pos rfl,setP,za3,hb,hs];have ai:(b.2+q==0)=false:=by
    rw[beq_eq_false_iff_ne];intro e;grind
   rw[ai];by_cases hz:q==0
   ·have:q=0:=by simpa using hz
    subst this;have gZ:b.1=n:=zat.1 hs;simp[Rat.add_zero,<-gZ]
   ·simp[hz]
theorem zhE {l:Parts} (h:AscP l) (n:ByteArray):setP l n 0=zas l n:=by
 obtain⟨A,B,rfl,h1,h2⟩:=zhD l h n;rw[zep h1];unfold zas;rw[List.filter_append,List.filter_eq_self.2 fun p hp=>by rw[zgj (h1 p hp)];rfl];congr 1
 have hB:=zhC h;cases B with
 |nil=>rfl
 |cons b B=>
  have hb:=h2 b (by simp);have cK:=List.pairwise_cons.1 hB;rw[setP,hb];cases hs:zae b.1 n
  ·have fZ:zbo n b.1=true:=by
    rcases zds b.1 n with h3|h3|h3
    ·rw[hb]at h3;cases h3
    ·exact absurd h3 (zco.1 hs)
    ·exact h3
   have e:(b::B).filter (fun p=>!zae p.1 n)=b::B:=List.filter_eq_self.2 fun p hp=>by
    rcases List.mem_cons.1 hp with rfl|hp
    ·rw[hs];rfl
    ·rw[zco.2 (zcG (zb1 fZ (cK.1 p hp))).symm];rfl
   rw[e];simp
  ·have gZ:b.1=n:=zat.1 hs;have e:(b::B).filter (fun p=>!zae p.1 n)=B:=by
    rw[List.filter_cons,hs,if_neg (by simp)];exact List.filter_eq_self.2 fun p hp=>by rw[zco.2 (gZ▸(zcG (cK.1 p hp)).symm)];rfl
   rw[e];simp
theorem zio {l:Parts} (h:AscP l) (n:ByteArray) (q:Rat):setP l n q=if q==0 then zas l n else za3 (zas l n) n q:=by
 by_cases hq:q==0
 ·rw[if_pos hq];have:q=0:=by simpa using hq
  rw[this];exact zhE h n
 ·rw[if_neg hq];obtain⟨A,B,rfl,h1,h2⟩:=zhD l h n;rw[zep h1];have hA:zas (A++B) n=A++zas B n:=by
   unfold zas;rw[List.filter_append,List.filter_eq_self.2 fun p hp=>by rw[zgj (h1 p hp)];rfl]
  rw[hA,zfN h1];congr 1
  have hB:=zhC h;rw[<-zhE hB n];cases B with
  |nil=>simp[setP,za3,hq]
  |cons b B=>
   have hb:=h2 b (by simp);have cK:=List.pairwise_cons.1 hB;have gR:(q==0)=false:=by simpa using hq
   have e0:setP (b::B) n 0=if zae b.1 n then B else b::B:=by rw[setP,hb];simp
   have e1:setP (b::B) n q=if zae b.1 n then(n,q)::B else(n,q)::b::B:=by rw[setP,hb,gR];simp
   rw[e0,e1];cases hs:zae b.1 n
   ·simp only[Bool.false_eq_true,if_false];rw[za3,gR,hb,hs];simp
   ·have gZ:b.1=n:=zat.1 hs;simp only[if_true];cases B with
    |nil=>rw[za3,gR];simp
    |cons c B=>
     have hc:zbo n c.1=true:=gZ▸cK.1 c (by simp);rw[za3,gR,zj3 hc,zco.2 (zcG hc).symm];simp
theorem zkq {n:ByteArray} {q:Rat}: ∀ {l:Parts} {p:ByteArray×Rat},p∈setP l n q->p=(n,q)\/p∈l
 | [],p,h=>by
   unfold setP at h;split at h
   ·simp at h
   ·exact .inl (by simpa using h)
 |x::l,p,h=>by
  unfold setP at h;split at h
  ·rcases List.mem_cons.1 h with rfl|h
   ·exact .inr (by simp)
   ·rcases zkq h with h|h
    ·exact .inl h
    ·exact .inr (by simp[h])
  ·split at h
   ·split at h
    ·exact .inr (by simp[h])
    ·rcases List.mem_cons.1 h with rfl|h
     ·exact .inl rfl
     ·exact .inr (by simp[h])
   ·split at h
    ·exact .inr h
    ·rcases List.mem_cons.1 h with rfl|h
     ·exact .inl rfl
     ·exact .inr h
theorem set_asc {l:Parts} (h:AscP l) (n:ByteArray) (q:Rat):AscP (setP l n q):=by
 obtain⟨A,B,rfl,h1,h2⟩:=zhD l h n;rw[zep h1];obtain⟨hA,hB,tk⟩:=List.pairwise_append.1 h;have eM: ∀b∈B,zae b.1 n=false->zbo n b.1=true:=fun b hb hs=>by
  rcases zds b.1 n with h3|h3|h3
  ·rw[h2 b hb]at h3;cases h3
  ·exact absurd h3 (zco.1 hs)
  ·exact h3
 cases B with
 |nil=>
  rw[setP];split
  ·rw[List.append_nil];exact hA
  ·exact List.pairwise_append.2 ⟨hA,List.pairwise_singleton _ _,fun a ha b hb=>by
    rw[List.mem_singleton.1 hb];exact h1 a ha⟩
 |cons b B=>
  have cK:=List.pairwise_cons.1 hB;rw[setP,h2 b (by simp),if_neg (by simp)];cases hs:zae b.1 n
  ·rw[if_neg (by simp)];split
   ·exact h
   ·refine List.pairwise_append.2 ⟨hA,List.pairwise_cons.2 ⟨fun x hx=> ?_,hB⟩,fun a ha x hx=> ?_⟩
    ·rcases List.mem_cons.1 hx with rfl|hx
     ·exact eM _ (by simp) hs
     ·exact zb1 (eM b (by simp) hs) (cK.1 x hx)
    ·rcases List.mem_cons.1 hx with rfl|hx
     ·exact h1 a ha
     ·exact tk a ha x hx
  ·have gZ:b.1=n:=zat.1 hs;rw[if_pos rfl];split
   ·exact List.pairwise_append.2 ⟨hA,cK.2,fun a ha x hx=>tk a ha x (by simp[hx])⟩
   ·refine List.pairwise_append.2 ⟨hA,List.pairwise_cons.2 ⟨fun x hx=> ?_,cK.2⟩,fun a ha x hx=> ?_⟩
    ·exact gZ▸cK.1 x hx
    ·rcases List.mem_cons.1 hx with rfl|hx
     ·exact h1 a ha
     ·exact tk a ha x (by simp[hx])
theorem zdu {y:Int} (h:0<=y):zeT y=y/4-y/100+y/400:=by
 unfold zeT;rw[Int.tdiv_eq_ediv_of_nonneg h,Int.tdiv_eq_ediv_of_nonneg h,Int.tdiv_eq_ediv_of_nonneg h]
theorem zn9 {y:Int} (h:0<=y):zgN y=((y%4==0&&y%100 != 0)||y%400==0):=by
 unfold zgN;rw[Int.tmod_eq_emod_of_nonneg h,Int.tmod_eq_emod_of_nonneg h,Int.tmod_eq_emod_of_nonneg h]
def leapQ (y:Int):Bool:=y.tmod 4==0&&(y.tmod 100 != 0||y.tmod 400==0)
theorem leapQ_eq {y:Int} (h:0<=y):leapQ y=zgN y:=by
 rw[zn9 h];unfold leapQ;rw[Int.tmod_eq_emod_of_nonneg h,Int.tmod_eq_emod_of_nonneg h,Int.tmod_eq_emod_of_nonneg h,Bool.eq_iff_iff];simp only[Bool.and_eq_true,Bool.or_eq_true,beq_iff_eq,bne_iff_ne];omega
def begP (y:Int):Int:=365*(y-1800)+zeT (y-1)-436
theorem zbB (y:Int):zaD y 1=begP y:=by
 unfold zaD begP;simp[zez]
theorem beg_up {y:Int} (h:1800<=y):begP (y+1)=begP y+365+(if zgN y then 1 else 0):=by
 unfold begP;rw[zdu (by omega),zdu (by omega),zn9 (by omega)];have e:y+1-1=y:=by omega
 rw[e];split
 ·rename_i hl
  simp only[Bool.or_eq_true,Bool.and_eq_true,beq_iff_eq,bne_iff_ne]at hl;omega
 ·rename_i hl
  simp only[Bool.or_eq_true,Bool.and_eq_true,beq_iff_eq,bne_iff_ne]at hl;omega
theorem beg_low {day:Int} (h0:0<=day) (h1:day<=200000):begP (1800+day.tdiv 366)<=day:=by
 unfold begP;rw[Int.tdiv_eq_ediv_of_nonneg h0,zdu (by omega)];omega
theorem znA {day:Int} (h0:0<=day) (h1:day<=200000):day<begP (1800+day.tdiv 366+10+1):=by
 unfold begP;rw[Int.tdiv_eq_ediv_of_nonneg h0,zdu (by omega)];omega
theorem znB (y:Int) {m:Nat} (h1:1<=m) (h2:m<=12):za4 y m=if(m:Int)==2&&zgN y then 29 else[31,28,31,30,31,30,31,31,30,31,30,31].getD (m-1) 0:=by
 unfold za4;have:m=1\/m=2\/m=3\/m=4\/m=5\/m=6\/m=7\/m=8\/m=9\/m=10\/m=11\/m=12:=by omega
 rcases this with rfl|rfl|rfl|rfl|rfl|rfl|rfl|rfl|rfl|rfl|rfl|rfl<;>rfl
theorem zdA (y:Int) {m:Nat} (h1:1<=m) (h2:m<=12):28<=za4 y m/\za4 y m<=31:=by
 rw[znB y h1 h2];have:m=1\/m=2\/m=3\/m=4\/m=5\/m=6\/m=7\/m=8\/m=9\/m=10\/m=11\/m=12:=by omega
 rcases this with rfl|rfl|rfl|rfl|rfl|rfl|rfl|rfl|rfl|rfl|rfl|rfl<;>simp<;>split<;>simp
theorem zf0 (y:Int) {m:Nat} (h:1<=m):zaD y (m+1)=zaD y m+za4 y m:=by
 obtain⟨k,rfl⟩: ∃k,m=k+1:=⟨m-1,by omega⟩
 unfold zaD;simp only[Nat.add_sub_cancel,zez];have:((k+1:Nat):Int)=(k:Int)+1:=by omega
 rw[this];omega
theorem zjA {y:Int} (h:1800<=y):zaD (y+1) 1=zaD y 12+za4 y 12:=by
 rw[zbB,beg_up h,<-zbB,show(12:Int)=((12:Nat):Int) by rfl,<-zf0 y (by omega)];unfold zaD;have e:zez y (12+1-1)=365+(if zgN y then 1 else 0):=by
  simp only[zez,za4,lensP];cases zgN y<;>simp
 rw[e];simp[zez];omega
structure DateIs (day y:Int) (m:Nat):Prop where
 y0:1800<=y
 y1:y<=2400
 m0:1<=m
 m1:m<=12
 lo:zaD y m<=day
 hi:day<zaD y m+za4 y m
theorem zli {day:Int} {f:Nat} {y:Int} (h:zaD (y+1) 1<=day):zej day (f+1) y=zej day f (y+1):=by
 rw[zej,if_pos (by simpa using h)]
theorem zlj {day:Int} {y:Int} (h: ¬zaD (y+1) 1<=day): ∀f,zej day f y=y
 |0=>rfl
 |f+1=>by rw[zej,if_neg (by simpa using h)]
theorem zjB {day y:Int} {f m:Nat} (hm:m<12) (h:zaD y (m+1)<=day):zdj day y (f+1) m=zdj day y f (m+1):=by
 rw[zdj,if_pos (by simp[hm,h])]
theorem zjC {day y:Int} {m:Nat} (h: ¬(m<12/\zaD y (m+1)<=day)): ∀f,zdj day y f m=m
 |0=>rfl
 |f+1=>by rw[zdj,if_neg (by simpa using h)]
end Go.Proofs.YtckkbkdcdkhglaaGreatDoor
namespace Go.Proofs.YtckkbkdcdkhglaaGreatDoor
section
variable {P:Program} {ops:Array Oper} {Q:Exit->Act->World->Prop} {md:Region.Mode} {m:Nat} {S:Bool->World->Prop}
def zgX (md:Region.Mode) (ops:Array Oper) (listed:Array Bool):Prop:= ∀(k:Nat) (o:Oper),ops[k]?=some o->listed.getD k false=true-> ∀e∈o.after,Region.binds md e=true->listed.getD e.on false=true
def zkr (md:Region.Mode) (ops:Array Oper) (listed:Array Bool):Bool:=(List.range ops.size).all fun k=>match ops[k]? with
 |some o=>!listed.getD k false||o.after.all fun e=>!Region.binds md e||listed.getD e.on false
 |none=>true
theorem closed_of {listed:Array Bool} (h:zkr md ops listed=true):zgX md ops listed:=fun k o ho hl e he hb=>by
 unfold zkr at h;have h1:=List.all_eq_true.1 h k (List.mem_range.2 (Array.getElem?_eq_some_iff.1 ho).1);simp only[ho,hl,Bool.not_true,Bool.false_or]at h1;rw[Array.all_eq_true]at h1;obtain⟨j,hj,rfl⟩:=Array.mem_iff_getElem.1 he;have h2:=h1 j hj;rw[hb]at h2;simpa using h2
def needs (md:Region.Mode) (ops:Array Oper) (i:Nat):Nat->Nat->Bool
 |0,k=>k==i
 |f+1,k=>k==i||match ops[k]? with
  |some o=>o.after.any fun e=>Region.binds md e&&needs md ops i f e.on
  |none=>false
theorem znC {i:Nat} {listed:Array Bool} (hc:zgX md ops listed): ∀(f k:Nat),needs md ops i f k=true->listed.getD k false=true->listed.getD i false=true
 |0,k,h,hl=>by
  have:k=i:=by simpa[needs]using h
  rw[<-this];exact hl
 |f+1,k,h,hl=>by
  unfold needs at h;rw[Bool.or_eq_true]at h;rcases h with h|h
  ·have:k=i:=by simpa using h
   rw[<-this];exact hl
  ·cases ho:ops[k]? with
   |none=>rw[ho]at h;cases h
   |some o=>
    rw[ho]at h;simp only at h;rw[Array.any_eq_true]at h;obtain⟨j,hj,h2⟩:=h;rw[Bool.and_eq_true]at h2;exact znC hc f _ h2.2 (hc k o ho hl o.after[j] (Array.getElem_mem hj) h2.1)
theorem zoo {listed:Array Bool} {j:Nat} (hc:zgX md ops listed) (hj:j∈Region.ready md ops listed):zgX md ops (listed.setIfInBounds j true):=fun k o ho hl e he hb=>by
 obtain⟨h0,oj,iW,aY⟩:=mem_ready.1 hj;by_cases hjk:j=k
 ·subst hjk;rw[iW]at ho;simp only[Option.some.injEq]at ho;subst ho;exact getD_set_true (aY e he hb)
 ·rw[getD_set_ne false hjk]at hl;exact getD_set_true (hc k o ho hl e he hb)
def zcr (P:Program) (md:Region.Mode) (ops:Array Oper) (Q:Exit->Act->World->Prop) (m:Nat) (S:Bool->World->Prop):Nat->Array Bool->Act->World->Prop
 |0,listed,a,w=>Region.ready md ops listed=[]/\Q .normal a w
 |fuel+1,listed,a,w=>
  (Region.ready md ops listed=[]->Q .normal a w)/\
  ∀i∈Region.ready md ops listed,wpOp P ops Q i (fun a' w'=>S ((listed.setIfInBounds i true).getD m false) w'/\zcr P md ops Q m S fuel (listed.setIfInBounds i true) a' w') a w
theorem zjD: ∀(fuel:Nat) (listed:Array Bool) (a:Act) (w:World),zcr P md ops Q m S fuel listed a w->wpAny P md ops Q fuel listed a w
 |0,_,_,_,h=>h
 |fuel+1,_,_,_,h=>⟨h.1,fun i hi=>wpOp_mono (fun a' w' h'=>zjD fuel _ a' w' h'.2) (h.2 i hi)⟩
theorem zlk {i:Nat} {oi:Oper} {v:Value} (jt:i≠m) (hi:ops[i]?=some oi) (dC: ∀(j:Nat) (o:Oper) cs b,ops[j]?=some o->o.op≠ .select cs b)
 (hQ: ∀c a w,Q (.panic c) (a.put oi.dst v) w->Q (.panic c) a w) (f0:Nat) (ai:needs md ops i f0 m=true):
 ∀(fuel:Nat) (listed:Array Bool) (a:Act) (w:World),zgX md ops listed->
  (∀j oj,ops[j]?=some oj->j≠i->listed.getD j true=false->(∀e∈oj.after,Region.binds md e=true->e.on≠i)->oi.apart ops oj=true)->
  i∈Region.ready md ops listed->YieldsIf P ops (S false) oi v a->S false w->
  zcr P md ops Q m S fuel (listed.setIfInBounds i true) (a.put oi.dst v) w->zcr P md ops Q m S (fuel+1) listed a w:=by
 have cT: ∀ {listed:Array Bool},zgX md ops listed->i∈Region.ready md ops listed->listed.getD m false=false:=fun {listed} hc hr=>by
  cases hx:listed.getD m false with
  |false=>rfl
  |true=>
   have h1:=znC hc f0 m ai hx;have h2:=getD_both (mem_ready.1 hr).1;rw[h2]at h1;cases h1
 intro fuel;induction fuel with
 |zero=>
  intro listed a w hc _ hr hy hS H;refine⟨fun h=>(by rw[h]at hr;cases hr),fun j hj=> ?_⟩;by_cases cq:j=i
  ·subst cq;exact hy.wpOp hi hS ⟨by rw[getD_set_ne false jt,cT hc hr];exact hS,H⟩
  ·have:=ready_mono hj cq;rw[H.1]at this;cases this
 |succ fuel ih=>
  intro listed a w hc dZ hr hy hS H;refine⟨fun h=>(by rw[h]at hr;cases hr),fun j hj=> ?_⟩;by_cases cq:j=i
  ·subst cq;exact hy.wpOp hi hS ⟨by rw[getD_set_ne false jt,cT hc hr];exact hS,H⟩
  ·have h1:=H.2 j (ready_mono hj cq);obtain⟨iC,oj,iW,aY⟩:=mem_ready.1 hj;have mP: ∀e∈oj.after,Region.binds md e=true->e.on≠i:=fun e he hb wR=>by
    have h1:=aY e he hb;have h0:=(mem_ready.1 hr).1;rw[wR]at h1;rw[getD_both h0]at h1;cases h1
   have h2:=wpOp_putIf iW (dZ j oj iW cq iC mP) (fun cs b=>dC i oi cs b hi) (fun cs b=>dC j oj cs b iW) hQ hy h1;have js: ∀k ok,ops[k]?=some ok->k≠i->(listed.setIfInBounds j true).getD k true=false->
    (∀e∈ok.after,Region.binds md e=true->e.on≠i)->oi.apart ops ok=true:=fun k ok hk ar dg dB=>by
    refine dZ k ok hk ar ?_ dB;by_cases hjk:j=k
    ·subst hjk;exact iC
    ·rw[getD_set_ne true hjk]at dg;exact dg
   have aU:=zoo hc hj;have cv:=ready_mono hr (Ne.symm cq);have eQ:((listed.setIfInBounds i true).setIfInBounds j true).getD m false=(listed.setIfInBounds j true).getD m false:=by
    rw[Array.setIfInBounds_comm _ _ (Ne.symm cq),getD_set_ne false jt]
   refine wpOp_mono (fun a' w' h3=> ?_) h2;have h4:=h3.2.1;rw[eQ]at h4;refine⟨h4,ih (listed.setIfInBounds j true) a' w' aU js cv h3.1 ?_ ?_⟩
   ·rw[cT aU cv]at h4;exact h4
   ·rw[Array.setIfInBounds_comm _ _ cq];exact h3.2.2
theorem zm1 {i:Nat} {oi:Oper} {v:Value} {fuel:Nat} {listed:Array Bool} {a:Act} {w:World} (f0:Nat) (hi:ops[i]?=some oi) (jt:i≠m) (ai:needs md ops i f0 m=true) (bo:zkr md ops listed=true)
 (hs:Region.noSelect ops=true) (hf:Region.free md ops listed i=true) (hr:(Region.ready md ops listed).contains i=true)
 (hQ: ∀c a w,Q (.panic c) (a.put oi.dst v) w->Q (.panic c) a w) (hy:YieldsIf P ops (S false) oi v a) (hS:S false w)
 (h:zcr P md ops Q m S fuel (listed.setIfInBounds i true) (a.put oi.dst v) w):zcr P md ops Q m S (fuel+1) listed a w:=
 zlk jt hi (Region.noSelect_spec hs) hQ f0 ai fuel listed a w (closed_of bo) (Region.free_spec hi hf) (by simpa using hr) hy hS h
theorem zks {i:Nat} {oi:Oper} {v:Value} (jt:i≠m) (hi:ops[i]?=some oi) (dC: ∀(j:Nat) (o:Oper) cs b,ops[j]?=some o->o.op≠ .select cs b)
 (hQ: ∀c a w,Q (.panic c) (a.put oi.dst v) w->Q (.panic c) a w):
 ∀(fuel:Nat) (listed:Array Bool) (a:Act) (w:World),
  (∀j oj,ops[j]?=some oj->j≠i->listed.getD j true=false->(∀e∈oj.after,Region.binds md e=true->e.on≠i)->oi.apart ops oj=true)->
  i∈Region.ready md ops listed->YieldsIf P ops (fun _=>True) oi v a->S (listed.getD m false) w->
  zcr P md ops Q m S fuel (listed.setIfInBounds i true) (a.put oi.dst v) w->zcr P md ops Q m S (fuel+1) listed a w:=by
 intro fuel;induction fuel with
 |zero=>
  intro listed a w _ hr hy hS H;refine⟨fun h=>(by rw[h]at hr;cases hr),fun j hj=> ?_⟩;by_cases cq:j=i
  ·subst cq;exact hy.wpOp hi trivial ⟨by rw[getD_set_ne false jt];exact hS,H⟩
  ·have:=ready_mono hj cq;rw[H.1]at this;cases this
 |succ fuel ih=>
  intro listed a w dZ hr hy hS H;refine⟨fun h=>(by rw[h]at hr;cases hr),fun j hj=> ?_⟩;by_cases cq:j=i
  ·subst cq;exact hy.wpOp hi trivial ⟨by rw[getD_set_ne false jt];exact hS,H⟩
  ·have h1:=H.2 j (ready_mono hj cq);obtain⟨iC,oj,iW,aY⟩:=mem_ready.1 hj;have mP: ∀e∈oj.after,Region.binds md e=true->e.on≠i:=fun e he hb wR=>by
    have h1:=aY e he hb;have h0:=(mem_ready.1 hr).1;rw[wR]at h1;rw[getD_both h0]at h1;cases h1
   have h2:=wpOp_putIf iW (dZ j oj iW cq iC mP) (fun cs b=>dC i oi cs b hi) (fun cs b=>dC j oj cs b iW) hQ hy h1;have js: ∀k ok,ops[k]?=some ok->k≠i->(listed.setIfInBounds j true).getD k true=false->
    (∀e∈ok.after,Region.binds md e=true->e.on≠i)->oi.apart ops ok=true:=fun k ok hk ar dg dB=>by
    refine dZ k ok hk ar ?_ dB;by_cases hjk:j=k
    ·subst hjk;exact iC
    ·rw[getD_set_ne true hjk]at dg;exact dg
   have eQ:((listed.setIfInBounds i true).setIfInBounds j true).getD m false=(listed.setIfInBounds j true).getD m false:=by
    rw[Array.setIfInBounds_comm _ _ (Ne.symm cq),getD_set_ne false jt]
   refine wpOp_mono (fun a' w' h3=> ?_) h2;have h4:=h3.2.1;rw[eQ]at h4;refine⟨h4,ih (listed.setIfInBounds j true) a' w' js (ready_mono hr (Ne.symm cq)) h3.1 h4 ?_⟩;rw[Array.setIfInBounds_comm _ _ cq];exact h3.2.2
theorem zm2 {i:Nat} {oi:Oper} {v:Value} {fuel:Nat} {listed:Array Bool} {a:Act} {w:World} (b:Bool) (hb:listed.getD m false=b) (hi:ops[i]?=some oi) (jt:i≠m)
 (hs:Region.noSelect ops=true) (hf:Region.free md ops listed i=true) (hr:(Region.ready md ops listed).contains i=true)
 (hQ: ∀c a w,Q (.panic c) (a.put oi.dst v) w->Q (.panic c) a w) (hy:YieldsIf P ops (fun _=>True) oi v a) (hS:S b w)
 (h:zcr P md ops Q m S fuel (listed.setIfInBounds i true) (a.put oi.dst v) w):zcr P md ops Q m S (fuel+1) listed a w:=
 zks jt hi (Region.noSelect_spec hs) hQ fuel listed a w (Region.free_spec hi hf) (by simpa using hr) hy (by rw[hb];exact hS) h
def AllReadyM (P:Program) (md:Region.Mode) (ops:Array Oper) (Q:Exit->Act->World->Prop) (m:Nat) (S:Bool->World->Prop) (fuel:Nat) (listed:Array Bool) (a:Act) (w:World) (rs:List Nat):Prop:=
 ∀i∈rs,wpOp P ops Q i (fun a' w'=>S ((listed.setIfInBounds i true).getD m false) w'/\zcr P md ops Q m S fuel (listed.setIfInBounds i true) a' w') a w
theorem AllReadyM.nil {fuel:Nat} {listed:Array Bool} {a:Act} {w:World}:AllReadyM P md ops Q m S fuel listed a w []:=fun _ h=>by cases h
theorem AllReadyM.cons {fuel:Nat} {listed:Array Bool} {a:Act} {w:World} {i:Nat} {o:Oper} {rs:List Nat} (ho:ops[i]?=some o) (b:Bool) (hb:(listed.setIfInBounds i true).getD m false=b)
 (h: ∀K':Act->World->Prop,Shut (∀a w,S b w->(S b w->zcr P md ops Q m S fuel (listed.setIfInBounds i true) a w)->K' a w)->if Region.wanted o (yielded ops a.tmps)=true then Oper.wp P o a w K' Q else K' (a.put o.dst undef) w)
 (hs:AllReadyM P md ops Q m S fuel listed a w rs):AllReadyM P md ops Q m S fuel listed a w (i::rs):=fun j hj=>by
 rcases List.mem_cons.1 hj with rfl|hj
 ·rw[hb];exact wpOp_step ho (fun K' hK=>h K' (fun a w hS hW=>hK a w ⟨hS,hW hS⟩))
 ·exact hs j hj
theorem zhr {rs:List Nat} {fuel:Nat} {listed:Array Bool} {a:Act} {w:World} (hr:Region.ready md ops listed=rs) (ai:rs≠[])
 (h:AllReadyM P md ops Q m S fuel listed a w rs):zcr P md ops Q m S (fuel+1) listed a w:=⟨fun h0=>absurd (hr▸h0) ai,hr▸h⟩
theorem zaQ {listed:Array Bool} {a:Act} {w:World} (hr:Region.ready md ops listed=[]) (h:Q .normal a w): ∀fuel,zcr P md ops Q m S fuel listed a w
 |0=>⟨hr,h⟩
 |_+1=>⟨fun _=>h,by rw[hr];simp⟩
theorem zaC {id:Nat} {a:Act} {w:World} (m:Nat) (S:Bool->World->Prop) (hm:P.follows .mixedOrders=true) (hS:S false w.drew)
 (h:S false w.drew->zcr P .any ops Q m S ops.size (Array.replicate ops.size false) a w.drew):(Code.region id ops true).wp P Q a w:=
 wp_region_any hm (zjD _ _ _ _ (h hS))
end
theorem TkM {P:Program} {ops:Array Oper} {Q:Exit->Act->World->Prop} {md:Region.Mode} {m:Nat} {S:Bool->World->Prop} (i:Nat) {oi:Oper} {v:Value} {fuel:Nat} {listed:Array Bool} {a a':Act} {w:World} (h:zcr P md ops Q m S fuel (listed.setIfInBounds i true) a' w) (hi:ops[i]?=some oi:=by exact List.getElem?_toArray.trans rfl) (jt:i≠m:=by decide) (ai:needs md ops i 9 m=true:=by kernel_rfl) (bo:zkr md ops listed=true:=by kernel_rfl)
 (hs:Region.noSelect ops=true:=by kernel_rfl) (hf:Region.free md ops listed i=true:=by kernel_rfl) (hr:(Region.ready md ops listed).contains i=true:=by kernel_rfl)
 (hQ: ∀c a w,Q (.panic c) (a.put oi.dst v) w->Q (.panic c) a w:=by exact fun _ _ _ h=>h) (hy:YieldsIf P ops (S false) oi v a:=by(refine Or.inl ⟨by rfl,?_⟩;intro w tD;(try dsimp only at tD);replace tD:=tD.resolve_left Bool.false_ne_true;go_simp;first|done|with_reducible rfl)) (hS:S false w:=by assumption)
 (ha:a.put oi.dst v=a':=by((try simp only[Act.put,List.setIfInBounds_toArray,List.set_cons_zero,List.set_cons_succ]);rfl)):zcr P md ops Q m S (fuel+1) listed a w:=
 zm1 9 hi jt ai bo hs hf hr hQ hy hS (ha▸h)
theorem OnM {P:Program} {ops:Array Oper} {Q:Exit->Act->World->Prop} {md:Region.Mode} {m:Nat} {S:Bool->World->Prop} (i:Nat) (b:Bool) {o:Oper} {fuel:Nat} {listed:Array Bool} {a:Act} {w:World} (h: ∀K':Act->World->Prop,Shut (∀a w,S b w->(S b w->zcr P md ops Q m S fuel (listed.setIfInBounds i true) a w)->K' a w)->if Region.wanted o (yielded ops a.tmps)=true then Oper.wp P o a w K' Q else K' (a.put o.dst undef) w)
 (hr:Region.ready md ops listed=[i]:=by kernel_rfl) (ho:ops[i]?=some o:=by exact List.getElem?_toArray.trans rfl) (hb:(listed.setIfInBounds i true).getD m false=b:=by kernel_rfl):zcr P md ops Q m S (fuel+1) listed a w:=zhr (rs:=[i]) hr (by simp) (AllReadyM.cons ho b hb h AllReadyM.nil)
theorem FrM {P:Program} {ops:Array Oper} {Q:Exit->Act->World->Prop} {md:Region.Mode} {m:Nat} {S:Bool->World->Prop} (i:Nat) (b:Bool) {oi:Oper} {v:Value} {fuel:Nat} {listed:Array Bool} {a a':Act} {w:World} (h:zcr P md ops Q m S fuel (listed.setIfInBounds i true) a' w) (hb:listed.getD m false=b:=by kernel_rfl) (hi:ops[i]?=some oi:=by exact List.getElem?_toArray.trans rfl) (jt:i≠m:=by decide)
 (hs:Region.noSelect ops=true:=by kernel_rfl) (hf:Region.free md ops listed i=true:=by kernel_rfl) (hr:(Region.ready md ops listed).contains i=true:=by kernel_rfl)
 (hQ: ∀c a w,Q (.panic c) (a.put oi.dst v) w->Q (.panic c) a w:=by exact fun _ _ _ h=>h) (hy:YieldsIf P ops (fun _=>True) oi v a:=by(refine Or.inl ⟨by rfl,?_⟩;intro w tD;go_simp;first|done|with_reducible rfl)) (hS:S b w:=by first|assumption|trivial)
 (ha:a.put oi.dst v=a':=by((try simp only[Act.put,List.setIfInBounds_toArray,List.set_cons_zero,List.set_cons_succ]);rfl)):zcr P md ops Q m S (fuel+1) listed a w:=
 zm2 b hb hi jt hs hf hr hQ hy hS (ha▸h)
theorem TwM {P:Program} {ops:Array Oper} {Q:Exit->Act->World->Prop} {md:Region.Mode} {m:Nat} {S:Bool->World->Prop} (i j:Nat) {o p:Oper} {fuel:Nat} {listed:Array Bool} {a:Act} {w:World} (h: ∀K':Act->World->Prop,Shut (∀a w,S false w->(S false w->zcr P md ops Q m S fuel (listed.setIfInBounds i true) a w)->K' a w)->if Region.wanted o (yielded ops a.tmps)=true then Oper.wp P o a w K' Q else K' (a.put o.dst undef) w) (k: ∀K':Act->World->Prop,Shut (∀a w,S false w->(S false w->zcr P md ops Q m S fuel (listed.setIfInBounds j true) a w)->K' a w)->if Region.wanted p (yielded ops a.tmps)=true then Oper.wp P p a w K' Q else K' (a.put p.dst undef) w)
 (hr:Region.ready md ops listed=[i,j]:=by kernel_rfl) (ho:ops[i]?=some o:=by exact List.getElem?_toArray.trans rfl) (hp:ops[j]?=some p:=by exact List.getElem?_toArray.trans rfl) (hb:(listed.setIfInBounds i true).getD m false=false:=by kernel_rfl) (hc:(listed.setIfInBounds j true).getD m false=false:=by kernel_rfl):zcr P md ops Q m S (fuel+1) listed a w:=zhr (rs:=[i,j]) hr (by simp) (AllReadyM.cons ho false hb h (AllReadyM.cons hp false hc k AllReadyM.nil))
end Go.Proofs.YtckkbkdcdkhglaaGreatDoor
namespace Go.Proofs.YtckkbkdcdkhglaaGreatDoor
open Go.RowKit
noncomputable def zeZ (laws:List Law) (upto:Int):List Deed->St->Nat->Int->St×Nat×Int
 | [],s,k,_=>(s,k,0)
 |d::l,s,k,last=>
  if zaI d==0&&decide (upto<d.day)then(s,k+(d::l).length,0)else
  if(zch laws s k last d).2 != 0 then(s,k,(zch laws s k last d).2)else zeZ laws upto l (zch laws s k last d).1 (k+1) d.day
theorem zeq {laws:List Law} {s:St} {k:Nat} {last:Int} {d:Deed} (h:(zch laws s k last d).2=0):zaI d=0/\k<60/\last<=d.day/\zch laws s k last d=zbq laws s d:=by
 unfold zch at h⊢;split at h
 ·rename_i hc
  have h:zaI d=0:=h;rw[h]at hc;exact absurd hc (by decide)
 rename_i hc
 split at h
 ·simp at h
 rename_i hk
 split at h
 ·simp at h
 rename_i hl
 rw[if_neg hc,if_neg hk,if_neg hl];simp at hc hk hl;exact⟨hc,hk,hl,rfl⟩
theorem zjE {laws:List Law} {upto:Int}: ∀ {ds:List Deed} {s told:St} {k:Nat} {last:Int},(zaY laws upto ds s told k last).2.2=0->upto<last->(zaY laws upto ds s told k last).1=told
 | [],s,told,k,last,_,_=>rfl
 |d::l,s,told,k,last,h,hl=>by
  rw[zaY]at h⊢;split at h
  ·rename_i hc
   have h:(zch laws s k last d).2=0:=h;rw[h]at hc;exact absurd hc (by decide)
  ·rename_i hc
   rw[if_neg hc];have hn:=zeq (show(zch laws s k last d).2=0 by simpa using hc);have hd: ¬decide (d.day<=upto)=true:=by simp;omega
   rw[if_neg hd]at h⊢;exact zjE h (by omega)
theorem zll {laws:List Law} {upto:Int}: ∀ {ds:List Deed} {s:St} {k:Nat} {last:Int},(zaY laws upto ds s s k last).2.2=0->
 (zeZ laws upto ds s k last).1=(zaY laws upto ds s s k last).1/\(zeZ laws upto ds s k last).2.2=0
 | [],s,k,last,_=>⟨rfl,rfl⟩
 |d::l,s,k,last,h=>by
  rw[zaY]at h⊢;split at h
  ·rename_i hc
   have h:(zch laws s k last d).2=0:=h;rw[h]at hc;exact absurd hc (by decide)
  ·rename_i hc
   rw[if_neg hc];have h0:(zch laws s k last d).2=0:=by simpa using hc
   have hn:=zeq h0;rw[zeZ];by_cases hd:d.day<=upto
   ·have e1:decide (d.day<=upto)=true:=by simpa using hd
    have e2: ¬(zaI d==0&&decide (upto<d.day))=true:=by simp;omega
    rw[if_pos e1]at h⊢;rw[if_neg e2,if_neg hc];exact zll h
   ·have e1: ¬decide (d.day<=upto)=true:=by simpa using hd
    have e2:(zaI d==0&&decide (upto<d.day))=true:=by simp[hn.1];omega
    rw[if_neg e1]at h⊢;rw[if_pos e2];exact⟨(zjE h (by omega)).symm,rfl⟩
theorem znD {laws:List Law} {upto:Int} (hu:200000<=upto): ∀ {ds:List Deed} {s:St} {k:Nat} {last:Int},
 (zeZ laws upto ds s k last).2=(zaY laws upto ds s s k last).2
 | [],s,k,last=>rfl
 |d::l,s,k,last=>by
  rw[zeZ,zaY];have h1: ¬(zaI d==0&&decide (upto<d.day))=true:=by
   intro h;simp only[Bool.and_eq_true,beq_iff_eq,decide_eq_true_eq]at h;have:=(zeW h.1).day;omega
  rw[if_neg h1];split
  ·rfl
  ·rename_i hc
   have hn:=zeq (show(zch laws s k last d).2=0 by simpa using hc);have:=(zeW hn.1).day;rw[if_pos (by simp;omega)];exact znD hu
def zcT (n set:Nat):List Nat:=(List.range n).filter fun i=>set.testBit i
abbrev Spot:=ByteArray×Int
def eqSp (a b:Spot):Bool:=zae a.1 b.1&&a.2==b.2
theorem zf1 {a b:Spot}:eqSp a b=true↔a=b:=by
 obtain⟨a1,a2⟩:=a;obtain⟨b1,b2⟩:=b;simp[eqSp,zat]
theorem eqSp_refl (a:Spot):eqSp a a=true:=zf1.2 rfl
theorem eqSp_sym (a b:Spot):eqSp a b=eqSp b a:=by rw[Bool.eq_iff_iff,zf1,zf1];exact⟨Eq.symm,Eq.symm⟩
theorem zip {V:Type} {k n:Spot} {v:V}: ∀ {m:List (Spot×V)},mget eqSp n (mput eqSp k v m)=if eqSp n k then some v else mget eqSp n m
 | []=>rfl
 |x::m=>by
  rw[mput];cases hk:eqSp k x.1
  ·simp only[Bool.false_eq_true,if_false];rw[mget,mget,zip (m:=m)];cases hn:eqSp n x.1
   ·simp
   ·have e:=zf1.1 hn;subst e;rw[eqSp_sym,hk];simp
  ·simp only[if_true];have e:=zf1.1 hk;rw[mget,mget,<-e];cases hn:eqSp n k<;>simp
end Go.Proofs.YtckkbkdcdkhglaaGreatDoor
namespace Go.Proofs.YtckkbkdcdkhglaaGreatDoor
open Go.RowKit
def nAnn:ByteArray:=⟨#[97,110,110]⟩
def nBob:ByteArray:=⟨#[98,111,98]⟩
def nCat:ByteArray:=⟨#[99,97,116]⟩
def nDan:ByteArray:=⟨#[100,97,110]⟩
def nA1:ByteArray:=⟨#[97,49]⟩
def n0:ByteArray:=⟨#[]⟩
def zcl:List Law:=[⟨0,false,1,4⟩,⟨50000,true,1,2⟩]
def famD (k:Nat):Deed:=match k with
 |0=>⟨6,0,n0,nAnn,[⟨nBob,0,0⟩],0,0⟩
 |1=>⟨6,0,n0,nAnn,[⟨nCat,0,0⟩],0,0⟩
 |2=>⟨7,0,n0,nAnn,[⟨nDan,0,0⟩],0,0⟩
 |3=>⟨0,100,nA1,n0,[⟨nAnn,1,1⟩],1,0⟩
 |_=>⟨8,200,n0,nAnn,[],0,0⟩
def zbE:List Deed:=[famD 0,famD 1,famD 2,famD 3,famD 4]
def fam1:St:=⟨[(nAnn,nBob)],[],[],[],[],[]⟩
def fam2:St:=⟨[(nAnn,nBob),(nAnn,nCat)],[],[],[],[],[]⟩
def fam3:St:=⟨[(nAnn,nBob),(nAnn,nCat)],[(nAnn,nDan)],[],[],[],[]⟩
def fam4:St:=⟨[(nAnn,nBob),(nAnn,nCat)],[(nAnn,nDan)],[],[],[],[⟨nA1,1,-1,[(nAnn,1)],[]⟩]⟩
def zgk:Parts:=[(nBob,Rat.divInt 3 8),(nCat,Rat.divInt 3 8),(nDan,Rat.divInt 1 4)]
def fam5:St:=⟨[(nAnn,nBob),(nAnn,nCat)],[(nAnn,nDan)],[nAnn],[],[],[⟨nA1,1,-1,zgk,[nAnn]⟩]⟩
theorem fam_laws:zaA zcl=0:=by kernel_rfl
open Classical in
theorem fam_0:zch zcl zb3 0 0 (famD 0)=(fam1,0):=by
 have h1:zaI (famD 0)=0:=by kernel_rfl
 have h2: ¬Desc zb3 (zbh (famD 0)) (famD 0).frm:=zie rfl;unfold zch;rw[h1];show(if(0 != 0)=true then _ else if decide (60<=0)=true then _ else if decide ((0:Int)<0)=true then _ else zcD zb3 (famD 0))=_;unfold zcD;rw[decide_eq_false h2];rfl
open Classical in
theorem fam_1:zch zcl fam1 1 0 (famD 1)=(fam2,0):=by
 have h1:zaI (famD 1)=0:=by kernel_rfl
 have h2: ¬Desc fam1 (zbh (famD 1)) (famD 1).frm:=zie (by kernel_rfl);unfold zch;rw[h1];show(if(0 != 0)=true then _ else if decide (60<=1)=true then _ else if decide ((0:Int)<0)=true then _ else zcD fam1 (famD 1))=_;unfold zcD;rw[decide_eq_false h2];have e1:(zai fam1 (famD 1).frm).any (zae (zbh (famD 1)))=false:=by kernel_rfl
 have e2:decide (2<=(zbQ fam1 (zbh (famD 1))).length)=false:=by kernel_rfl
 rw[e1,e2];rfl
theorem fam_2:zch zcl fam2 2 0 (famD 2)=(fam3,0):=by kernel_rfl
theorem fam_3:zch zcl fam3 3 0 (famD 3)=(fam4,0):=by kernel_rfl
theorem fam_4:zch zcl fam4 4 100 (famD 4)=(fam5,0):=by kernel_rfl
theorem zgY (upto:Int) (h:200<=upto):zaF zcl zbE upto=(fam5,5,0):=by
 have q0:decide ((famD 0).day<=upto)=true:=by show decide ((0:Int)<=upto)=true;simp;omega
 have q1:decide ((famD 1).day<=upto)=true:=by show decide ((0:Int)<=upto)=true;simp;omega
 have q2:decide ((famD 2).day<=upto)=true:=by show decide ((0:Int)<=upto)=true;simp;omega
 have q3:decide ((famD 3).day<=upto)=true:=by show decide ((100:Int)<=upto)=true;simp;omega
 have q4:decide ((famD 4).day<=upto)=true:=by show decide ((200:Int)<=upto)=true;simp;omega
 have z: ¬((0:Int) != 0)=true:=by decide
 unfold zaF zbE;rw[fam_laws,if_neg z];rw[zaY,fam_0,if_neg z,q0,if_pos rfl];show zaY zcl upto _ fam1 fam1 1 0=_;rw[zaY,fam_1,if_neg z,q1,if_pos rfl];show zaY zcl upto _ fam2 fam2 2 0=_;rw[zaY,fam_2,if_neg z,q2,if_pos rfl];show zaY zcl upto _ fam3 fam3 3 0=_;rw[zaY,fam_3,if_neg z,q3,if_pos rfl];show zaY zcl upto _ fam4 fam4 4 100=_;rw[zaY,fam_4,if_neg z,q4,if_pos rfl];rfl
def zfa:List Rec:=[⟨1,nAnn,n0,n0,5,0,0,0⟩,⟨0,nBob,n0,n0,9,0,0,0⟩,⟨0,nAnn,n0,n0,7,0,0,0⟩,⟨3,nAnn,n0,nA1,4,0,1,2⟩,⟨3,nBob,n0,nA1,4,0,2,3⟩]
theorem recs5_ok:zfv zfa=0:=by kernel_rfl
end Go.Proofs.YtckkbkdcdkhglaaGreatDoor
namespace Go.Proofs.YtckkbkdcdkhglaaGreatDoor
open Go.RowKit
def zm3 (ds:List Deed):Int:=(ds.getLast?.map (·.day)).getD 0
theorem zop {ds:List Deed} {k:Nat} (h:k<ds.length):zm3 (ds.take (k+1))=ds[k].day:=by
 have e:ds.take (k+1)=ds.take k++[ds[k]]:=by rw[List.take_add_one,List.getElem?_eq_getElem h];rfl
 unfold zm3;rw[e,List.getLast?_concat];rfl
end Go.Proofs.YtckkbkdcdkhglaaGreatDoor
