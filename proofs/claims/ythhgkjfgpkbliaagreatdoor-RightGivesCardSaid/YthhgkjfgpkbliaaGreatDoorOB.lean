import Derived.Test.YthhgkjfgpkbliaaGreatDoorOA
import Derived.Test.YthhgkjfgpkbliaaGreatDoorE3
set_option linter.all false
set_option maxRecDepth 100000
set_option maxHeartbeats 4000000
namespace Go.Proofs.YthhgkjfgpkbliaaGreatDoor
open Go.RowKit
structure FewS (k:Nat) (s:St):Prop where
 graves:s.graves.length<=k
 kids:s.children.length<=k
 marr:s.marriages.length<=k
 dead:s.dead.length<=k
 ren:s.renounce.length<=k
 wills:∀n,(zbp s n).length<=8
 held:∀g∈s.graves,g.holders.length<=80*k/\g.died.length<=k/\g.fin<=200000
theorem zlO(day years:Int):zc9 day years<=200000:=by
 unfold zc9 zct;simp only;split
 ·decide
 ·split
  ·rename_i h
   have:=(zgs.1 h).2;omega
  ·decide
theorem ziU:FewS 0 zbf:=⟨Nat.le_refl _,Nat.le_refl _,Nat.le_refl _,Nat.le_refl _,Nat.le_refl _,fun n=>by simp[zbf,zbp],by simp[zbf]⟩
theorem FewS.up{k:Nat}{s:St}(h:FewS k s):FewS (k+1) s:=
 ⟨Nat.le_succ_of_le h.graves,Nat.le_succ_of_le h.kids,Nat.le_succ_of_le h.marr,Nat.le_succ_of_le h.dead,Nat.le_succ_of_le h.ren,h.wills,fun g hg=>by have:=h.held g hg;exact⟨by omega,by omega,this.2.2⟩⟩
theorem zeQ(l:Parts)(n:ByteArray):(zaj l n).length<=l.length:=List.length_filter_le _ _
theorem ziV{own:Rat}:∀ {l out o:Parts},zbI own l out=some o->o.length<=out.length+l.length
 | [],out,o,h=>by
   rw[zbI]at h;cases h;simp
 |p::l,out,o,h=>by
  rw[zbI]at h;split at h
  ·cases h
  split at h
  ·cases h
  have:=ziV h;have h2:=zfu p.1 (own*p.2) out;simp;omega
theorem FewS.withG{k:Nat}{s:St}{i:Nat}{g g':Grave}(h:FewS k s)(hi:s.graves[i]?=some g)(h1:g'.holders.length<=80*k+80)(h2:g'.died.length<=k+1)(h3:g'.fin<=200000):FewS (k+1) (s.withGrave i g'):=by
 refine {h.up with graves:= ?_,held:=fun x hx=>?_}
 ·unfold St.withGrave;simp only[List.length_set];exact Nat.le_succ_of_le h.graves
 ·unfold St.withGrave at hx;rcases List.mem_or_eq_of_mem_set hx with hx|rfl
  ·exact h.up.held x hx
  ·exact⟨by omega,h2,h3⟩
theorem zjU{s:St}{pl:ByteArray}{day:Int}{i:Nat}(h:zaH s pl day=some i):∃g,s.graves[i]?=some g/\s.graves.getD i ze6=g/\g∈s.graves:=by
 obtain⟨g,h1,_⟩:=zbv h;exact⟨g,h1,zey h1,List.mem_of_getElem? h1⟩
theorem few_take{laws:List Law}{s s':St}{d:Deed}{last:Int}{k:Nat}(h:FewS k s)(hk:k<60)(hG:GoodSt s last)(hd:OkD d)(hl:last<=d.day)(aG:za7 laws=0)(ht:zaZ laws s d=(s',0)):FewS (k+1) s':=by
 have tq:=hd.len;have bQ:=hd.kind;unfold zaZ at ht;split at ht
 ·unfold zdb at ht;split at ht
  ·simp at ht
  split at ht
  ·simp at ht
  split at ht
  ·simp at ht
  simp only[Prod.mk.injEq,and_true]at ht;rw[<-ht];refine {h.up with graves:= ?_,held:=fun g hg=>?_}
  ·have:=h.graves;simp;omega
  ·rcases List.mem_append.1 hg with hg|hg
   ·exact h.up.held g hg
   ·rw[List.mem_singleton.1 hg];have:=zel d.to [];simp only[List.length_nil]at this⊢;refine⟨by omega,Nat.zero_le _,?_⟩;split
    ·exact zlO _ _
    ·decide
 split at ht
 ·unfold zbj at ht;split at ht
  ·simp at ht
  rename_i i hi
  obtain⟨g,bn,bp,j8⟩:=zjU hi;rw[bp]at ht;simp only at ht;split at ht
  ·simp at ht
  split at ht
  ·simp at ht
  split at ht
  ·simp at ht
  split at ht
  ·simp at ht
  split at ht
  ·simp at ht
  rename_i out ho
  simp only[Prod.mk.injEq,and_true]at ht;rw[<-ht];have h1:=ziV ho;have h2:=zfu d.frm (zab g.holders d.frm*(1-sumQ (zat d.to))) (zaj g.holders d.frm);have h3:=zeQ g.holders d.frm;have h4:=h.held g j8;have h5:(zat d.to).length=d.to.length:=by unfold zat;simp
  exact h.withG bn Mcq Mcq Mcq
 split at ht
 ·unfold zaY at ht;split at ht
  ·simp at ht
  rename_i i hi
  obtain⟨g,bn,bp,j8⟩:=zjU hi;rw[bp]at ht;simp only at ht;split at ht
  ·simp at ht
  split at ht
  ·simp at ht
  simp only[Prod.mk.injEq,and_true]at ht;rw[<-ht];have h3:=zeQ g.holders d.frm;have h4:=h.held g j8;exact h.withG bn (by simp only[List.length_map];omega) Mcq Mcq
 split at ht
 ·unfold zdm at ht;split at ht
  ·simp at ht
  rename_i i hi
  obtain⟨g,bn,bp,j8⟩:=zjU hi;rw[bp]at ht;simp only at ht;split at ht
  ·simp at ht
  split at ht
  ·simp at ht
  simp only[Prod.mk.injEq,and_true]at ht;rw[<-ht];have h4:=h.held g j8;exact h.withG bn Mcq Mcq (zlO _ _)
 split at ht
 ·unfold zgF at ht;split at ht
  ·simp at ht
  simp only[Prod.mk.injEq,and_true]at ht;rw[<-ht];refine {h.up with wills:=fun n=>?_};rw[zeI];split
  ·unfold zat;simpa using tq
  ·exact h.wills n
 split at ht
 ·unfold zbP at ht;split at ht
  ·simp at ht
  split at ht
  ·simp at ht
  simp only[Prod.mk.injEq,and_true]at ht;rw[<-ht];exact {h.up with ren:=by have:=h.ren;simp;omega}
 split at ht
 ·unfold zcS at ht;split at ht
  ·simp at ht
  split at ht
  ·simp at ht
  split at ht
  ·simp at ht
  simp only[Prod.mk.injEq,and_true]at ht;rw[<-ht];exact {h.up with kids:=by have:=h.kids;simp;omega}
 split at ht
 ·unfold zdU at ht;split at ht
  ·simp at ht
  split at ht
  ·simp at ht
  simp only[Prod.mk.injEq,and_true]at ht;rw[<-ht];exact {h.up with marr:=by have:=h.marr;simp;omega}
 ·unfold zd2 at ht;split at ht
  ·simp at ht
  split at ht
  ·simp at ht
  rename_i gs aw
  simp only[Prod.mk.injEq,and_true]at ht;rw[<-ht];obtain⟨af,mi⟩:=zk3 aw;refine {h.up with graves:=by have:=h.graves;simp only;omega,dead:=by have:=h.dead;simp;omega,held:=fun x hx=>?_};obtain⟨i,hi⟩:=List.mem_iff_getElem?.1 hx;obtain⟨g,g1,g2⟩:=mi i x hi;have h4:=h.held g (List.mem_of_getElem? g1);rcases g2 with⟨rfl,_⟩|⟨_,hs,out,e1,e2,rfl⟩
  ·exact h.up.held x (List.mem_of_getElem? g1)
  ·have h1:=ziV e2;have h3:=zeQ g.holders d.frm;have cd:=zgT aG d.day;have aQ:=zeH (hG.wills d.frm) cd e1;have jC:=(zhg (s:=s) (n:=d.frm) (hG.wills d.frm) cd).1 hs e1;have kB:=zjR (s:=s) (law:=zb3 laws d.day) (n:=d.frm) (by rw[jC];exact aQ.1);rw[jC]at kB;have:=h.wills d.frm;have:=h.kids;simp only[List.length_append,List.length_singleton]at*;exact⟨by omega,by omega,h4.2.2⟩
