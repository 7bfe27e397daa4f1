/- Walk of chapter 5's checkRecord and CheckRecords. -/
import Derived.Test.YtkhkhnellekofaaGreatDoorM1
import Derived.Test.YtkhkhnellekofaaGreatDoorNG
import Derived.Test.YtkhkhnellekofaaGreatDoorJ6
import Derived.Test.YtkhkhnellekofaaGreatDoorN1
import Derived.Test.YtkhkhnellekofaaGreatDoorNC
import Derived.Test.YtkhkhnellekofaaGreatDoorJ4
set_option linter.unusedSimpArgs false
set_option linter.unusedVariables false
namespace Go.Proofs.YtkhkhnellekofaaGreatDoor
section
variable {P:Program} {t kt et:TypeId} {K:Type} {ek:K->Value} {z:Value} {eq:K->K->Bool} {w:World} {b:Nat} {m:List (K×Value)}
def StampAt (w:World) (b:Nat) {K:Type} (ek:K->Value) (m:List (K×Value)) (j st:Nat):Prop:=
 ∃es c,w.heap[b]?=some (.map es c)/\es.toList.map (fun e=>(e.key,e.val))=m.map (fun p=>(ek p.1,p.2))/\(∀e∈es.toList,e.born<c)/\(es.toList.map (·.born)).Nodup/\(es[j]?).map (·.born)=some st
theorem set_heap (w:World) (b:Nat) (o:Obj):w.grownBy {w with heap:=w.heap.setIfInBounds b o} (some b):=
 ⟨rfl,rfl,rfl,by simp,fun i hi hne=>by
   have:b≠i:=fun e=>hne (by rw[e])
   simp[Array.getElem?_setIfInBounds,this]⟩
theorem run_setObj {w:World} {b:Nat} {es es':Array MapEntry} {c c':Nat} (h:w.heap[b]?=some (.map es c)):((setObj b (.map es' c')).run P w)= .ok () {w with heap:=w.heap.setIfInBounds b (.map es' c')}:=by
 simp[setObj,Sem.run,h]
theorem run_mapEntryS (T:MapTy P t kt et ek (fun v:Value=>v) z eq) (h:MapS w b ek (fun v:Value=>v) m) (k:K):
 ∃w' x st m' j,(Instr.mapEntry t (.map (some b)) (ek k)).run P w= .ok (.tuple #[x, .int .i64 (st:Nat)]) w'/\StampAt w' b ek m' j st/\(∀v,m'.set j (k,v)=mput eq k v m)/\(m'[j]?).map (·.1)=some k/\w.grownBy w' (some b)/\w'.heap.size=w.heap.size:=by
 obtain⟨es,c,hh,hm,hb,hn⟩:=h
 have h1:=T.hfind k es.toList m hm w
 have hlt:=(Array.getElem?_eq_some_iff.1 hh).1
 cases hl:locate eq k m 0 with
 |none=>
  refine⟨_,z,c,m++[(k,z)],m.length,?_,?_,?_,by simp,set_heap w b (.map (es.push {key:=ek k,val:=z,born:=c}) (c+1)),by simp⟩
  ·simp[Instr.mapEntry,run_underlying T.ht,run_getObj_map hh,T.hck,h1,hl,T.hz,run_setObj hh,Result.andThen]
   rfl
  ·refine⟨es.push {key:=ek k,val:=z,born:=c},c+1,by simp[Array.getElem?_setIfInBounds,hlt],?_,?_,?_,?_⟩
   ·simp[hm]
   ·intro e he
    rw[Array.toList_push]at he
    rcases List.mem_append.1 he with he|he
    ·have:=hb e he;omega
    ·rw[List.mem_singleton.1 he];exact Nat.lt_succ_self c
   ·rw[Array.toList_push,List.map_append,List.nodup_append]
    refine⟨hn,by simp,?_⟩
    intro x hx y hy
    obtain⟨e,he,rfl⟩:=List.mem_map.1 hx
    simp only[List.map_cons,List.map_nil,List.mem_singleton]at hy
    have:=hb e he
    omega
   ·have hlen:es.size=m.length:=by simpa using congrArg List.length hm
    rw[<-hlen]
    simp
  ·intro v
   rw[locate_none hl,List.set_append_right _ _ (Nat.le_refl _)]
   simp
 |some p=>
  obtain⟨j,u⟩:=p
  obtain⟨_,q,hq,he,hput⟩:=locate_some hl
  simp only[Nat.sub_zero]at hq hput
  have hj:j<m.length:=(List.getElem?_eq_some_iff.1 hq).1
  have hlen:es.size=m.length:=by simpa using congrArg List.length hm
  have hje:j<es.size:=by omega
  have hkey:(es[j]).key=ek q.1:=by
   have:=congrArg (fun l=>l[j]?) hm
   simp[List.getElem?_map,hq,hje]at this
   exact this.1
  have hval:(es[j]).val=q.2:=by
   have:=congrArg (fun l=>l[j]?) hm
   simp[List.getElem?_map,hq,hje]at this
   exact this.2
  have hborn:(es.modify j fun e=> {e with key:=ek k}).toList.map (·.born)=es.toList.map (·.born):=by
   apply List.ext_getElem?
   intro i
   simp only[List.getElem?_map,Array.getElem?_toList,Array.getElem?_modify]
   by_cases hij:j=i
   ·subst hij
    simp[hje,Array.getElem?_eq_getElem hje]
   ·simp[hij]
  refine⟨_,u,(es[j]).born,m.set j (k,q.2),j,?_,?_,?_,by simp[hj],set_heap w b (.map (es.modify j fun e=> {e with key:=ek k}) c),by simp⟩
  ·simp[Instr.mapEntry,run_underlying T.ht,run_getObj_map hh,T.hck,h1,hl,Instr.keyThatStays,Array.getElem?_eq_getElem hje,hkey,T.hsame _ _ he,run_setObj hh,Result.andThen]
   rfl
  ·refine⟨es.modify j fun e=> {e with key:=ek k},c,by simp[Array.getElem?_setIfInBounds,hlt],?_,?_,by rw[hborn];exact hn,?_⟩
   ·apply List.ext_getElem?
    intro i
    have hmi:=congrArg (fun l=>l[i]?) hm
    simp only[List.getElem?_map,Array.getElem?_toList]at hmi
    simp only[List.getElem?_map,Array.getElem?_toList,Array.getElem?_modify,List.getElem?_set]
    by_cases hij:j=i
    ·subst hij
     simp[hje,hj,Array.getElem?_eq_getElem hje,hval]
    ·simp[hij,hmi]
   ·intro e he
    have h2:e.born∈(es.modify j fun e=> {e with key:=ek k}).toList.map (·.born):=List.mem_map.2 ⟨e,he,rfl⟩
    rw[hborn]at h2
    obtain⟨e',he',hbb⟩:=List.mem_map.1 h2
    rw[<-hbb]
    exact hb e' he'
   ·simp[Array.getElem?_modify,Array.getElem?_eq_getElem hje]
  ·intro v
   rw[hput,List.set_set]
theorem run_entryStoreS {j st:Nat} {k:K} (h:StampAt w b ek m j st) (hk:(m[j]?).map (·.1)=some k) (t:TypeId) (v:Value):
 ∃w',(Instr.entryStore t (.map (some b)) (.int .i64 (st:Nat)) v).run P w= .ok () w'/\MapS w' b ek (fun v:Value=>v) (m.set j (k,v))/\w.grownBy w' (some b)/\w'.heap.size=w.heap.size:=by
 obtain⟨es,c,hh,hm,hb,hn,hst⟩:=h
 have hlt:=(Array.getElem?_eq_some_iff.1 hh).1
 have hlen:es.size=m.length:=by simpa using congrArg List.length hm
 have hje:j<es.size:=by
  by_cases h:j<es.size
  ·exact h
  ·rw[Array.getElem?_eq_none (by omega)]at hst;cases hst
 have hj:j<m.length:=by omega
 rw[Array.getElem?_eq_getElem hje]at hst
 simp only[Option.map_some,Option.some.injEq]at hst
 have hfi:es.findIdx? (fun e=>(e.born:Int)==(st:Int))=some j:=by
  rw[Array.findIdx?_eq_some_iff_getElem]
  refine⟨hje,by simp[hst],fun i hi h=> ?_⟩
  have hie:i<es.size:=by omega
  have h3:es[i].born=es[j].born:=by
   rw[hst]
   simp only[beq_iff_eq]at h
   exact Int.ofNat_inj.1 h
  have h4:=(List.nodup_iff_pairwise_ne.1 hn)
  rw[List.pairwise_iff_getElem]at h4
  have:=h4 i j (by simpa using hie) (by simpa using hje) hi
  simp at this
  exact this h3
 have hborn:(es.modify j fun e=> {e with val:=v}).toList.map (·.born)=es.toList.map (·.born):=by
  apply List.ext_getElem?
  intro i
  simp only[List.getElem?_map,Array.getElem?_toList,Array.getElem?_modify]
  by_cases hij:j=i
  ·subst hij
   simp[hje,Array.getElem?_eq_getElem hje]
  ·simp[hij]
 refine⟨_,?_,?_,set_heap w b (.map (es.modify j fun e=> {e with val:=v}) c),by simp⟩
 ·simp[Instr.entryStore,run_getObj_map hh,asInt,asIntOf,hfi,run_setObj hh,Result.andThen]
 ·refine⟨es.modify j fun e=> {e with val:=v},c,by simp[Array.getElem?_setIfInBounds,hlt],?_,?_,by rw[hborn];exact hn⟩
  ·apply List.ext_getElem?
   intro i
   have hmi:=congrArg (fun l=>l[i]?) hm
   simp only[List.getElem?_map,Array.getElem?_toList]at hmi
   simp only[List.getElem?_map,Array.getElem?_toList,Array.getElem?_modify,List.getElem?_set]
   by_cases hij:j=i
   ·subst hij
    rw[List.getElem?_eq_getElem hj]at hk hmi
    simp only[Option.map_some,Option.some.injEq]at hk
    simp[hje,hj,Array.getElem?_eq_getElem hje,hk]at hmi⊢
    exact hmi.1
   ·simp[hij,hmi]
  ·intro e he
   have h2:e.born∈(es.modify j fun e=> {e with val:=v}).toList.map (·.born):=List.mem_map.2 ⟨e,he,rfl⟩
   rw[hborn]at h2
   obtain⟨e',he',hbb⟩:=List.mem_map.1 h2
   rw[<-hbb]
   exact hb e' he'
end
end Go.Proofs.YtkhkhnellekofaaGreatDoor
namespace Go.Proofs.YtkhkhnellekofaaGreatDoor
open Go.RowKit
noncomputable def chooseP (l:List Rec):Nat->List Nat->Nat->List Nat
 |0,set,_=>if contraP (ofP l set)then set else[]
 |d+1,set,k=>((List.range' k (l.length-k)).findSome? fun i=>if(chooseP l d (set++[i]) (i+1)).isEmpty then none else some (chooseP l d (set++[i]) (i+1))).getD []
def Cand (l:List Rec) (set:List Nat) (k d:Nat) (r:List Nat):Prop:=r.Pairwise (· < ·)/\(∀i∈r,k<=i/\i<l.length)/\r.length=d/\contraP (ofP l (set++r))=true
theorem find_first {α β:Type} {f:α->Option β}: ∀ {l:List α} {y:β},l.findSome? f=some y-> ∃a x b,l=a++x::b/\f x=some y/\ ∀z∈a,f z=none
 | [],y,h=>by cases h
 |x::l,y,h=>by
  rw[List.findSome?_cons]at h
  cases hx:f x with
  |some z=>
   rw[hx]at h
   cases h
   exact⟨[],x,l,rfl,hx,by simp⟩
  |none=>
   rw[hx]at h
   obtain⟨a,z,b,h1,h2,h3⟩:=find_first h
   refine⟨x::a,z,b,by rw[h1];rfl,h2,fun w hw=> ?_⟩
   rcases List.mem_cons.1 hw with rfl|hw
   ·exact hx
   ·exact h3 w hw
theorem find_none {α β:Type} {f:α->Option β}: ∀ {l:List α},l.findSome? f=none-> ∀z∈l,f z=none
 | [],_,z,hz=>by cases hz
 |x::l,h,z,hz=>by
  rw[List.findSome?_cons]at h
  cases hx:f x with
  |some y=>rw[hx]at h;cases h
  |none=>
   rw[hx]at h
   rcases List.mem_cons.1 hz with rfl|hz
   ·exact hx
   ·exact find_none h z hz
theorem choose_spec (l:List Rec): ∀(d:Nat) (set:List Nat) (k:Nat),0<set.length+d->
 (chooseP l d set k=[]-> ∀r,¬Cand l set k d r)/\(chooseP l d set k≠[]-> ∃r,chooseP l d set k=set++r/\Cand l set k d r/\ ∀r',Cand l set k d r'->lexB r' r=false)
 |0,set,k,hp=>by
  rw[chooseP]
  split
  ·rename_i hc
   refine⟨fun h=> ?_,fun _=>⟨[],by simp,⟨List.Pairwise.nil,by simp,rfl,by simpa using hc⟩,fun r' hr'=> ?_⟩⟩
   ·rw[h]at hp;simp at hp
   ·have:=hr'.2.2.1
    rw[List.eq_nil_of_length_eq_zero this]
    rfl
  ·rename_i hc
   refine⟨fun _ r hr=> ?_,fun h=>absurd rfl h⟩
   have:=hr.2.2.1
   rw[List.eq_nil_of_length_eq_zero this]at hr
   have h2:=hr.2.2.2
   rw[List.append_nil]at h2
   exact hc h2
 |d+1,set,k,hp=>by
  have ih:=fun i=>choose_spec l d (set++[i]) (i+1) (by simp;omega)
  have split1: ∀r,Cand l set k (d+1) r-> ∃i r',r=i::r'/\k<=i/\i<l.length/\Cand l (set++[i]) (i+1) d r':=by
   intro r hr
   obtain⟨h1,h2,h3,h4⟩:=hr
   match r,h3 with
   |i::r',h3=>
    have hpw:=List.pairwise_cons.1 h1
    refine⟨i,r',rfl,(h2 i (by simp)).1,(h2 i (by simp)).2,hpw.2,fun j hj=>⟨hpw.1 j hj,(h2 j (by simp[hj])).2⟩,by simpa using h3,by simpa using h4⟩
  rw[chooseP]
  cases hf:(List.range' k (l.length-k)).findSome? fun i=>if(chooseP l d (set++[i]) (i+1)).isEmpty then none else some (chooseP l d (set++[i]) (i+1))with
  |none=>
   refine⟨fun _ r hr=> ?_,fun h=>absurd rfl h⟩
   obtain⟨i,r',rfl,h1,h2,h3⟩:=split1 r hr
   have:=find_none hf i (List.mem_range'_1.2 ⟨h1,by omega⟩)
   split at this
   ·rename_i he
    exact(ih i).1 (by simpa using he) r' h3
   ·cases this
  |some y=>
   obtain⟨a,i,b,e1,e2,e3⟩:=find_first hf
   split at e2
   ·cases e2
   ·rename_i hne
    cases e2
    have hne2:chooseP l d (set++[i]) (i+1)≠[]:=by simpa using hne
    obtain⟨r,r1,r2,r3⟩:=(ih i).2 hne2
    have hi:i∈List.range' k (l.length-k):=by rw[e1];simp
    have hi2:=List.mem_range'_1.1 hi
    refine⟨fun h=>absurd h hne2,fun _=>⟨i::r,by show chooseP l d (set++[i]) (i+1)=_;rw[r1];simp,⟨List.pairwise_cons.2 ⟨fun j hj=>(r2.2.1 j hj).1,r2.1⟩,fun j hj=> ?_,by simpa using r2.2.2.1,by simpa using r2.2.2.2⟩,fun r' hr'=> ?_⟩⟩
    ·rcases List.mem_cons.1 hj with rfl|hj
     ·exact⟨hi2.1,by omega⟩
     ·exact⟨by have:=(r2.2.1 j hj).1;omega,(r2.2.1 j hj).2⟩
    ·obtain⟨j,q,rfl,j1,j2,j3⟩:=split1 r' hr'
     have hj:j∈List.range' k (l.length-k):=List.mem_range'_1.2 ⟨j1,by omega⟩
     rw[e1]at hj
     rw[lexB]
     rcases List.mem_append.1 hj with hj|hj
     ·
      exfalso
      have:=e3 j hj
      split at this
      ·rename_i he
       exact(ih j).1 (by simpa using he) q j3
      ·cases this
     ·rcases List.mem_cons.1 hj with rfl|hj
      ·rw[r3 q j3];simp
      ·have hpw:(a++i::b).Pairwise (· < ·):=by rw[<-e1];exact List.pairwise_lt_range'
       have h3:=(List.pairwise_append.1 hpw).2.1
       have hij:=(List.pairwise_cons.1 h3).1 j hj
       simp
       omega
noncomputable def leastGo (l:List Rec):Nat->Nat->List Nat
 |0,_=>[]
 |f+1,size=>if(chooseP l size [] 0).isEmpty then leastGo l f (size+1)else chooseP l size [] 0
theorem cand_set {l:List Rec} {t:List Nat} (h:SetOf l.length t) (hc:contraP (ofP l t)=true):Cand l [] 0 t.length t:=⟨h.1,fun i hi=>⟨Nat.zero_le i,h.2 i hi⟩,rfl,by simpa using hc⟩
theorem set_len {n:Nat}: ∀ {t:List Nat} {k:Nat},t.Pairwise (· < ·)->(∀i∈t,k<=i/\i<n)->t.length<=n-k
 | [],k,_,_=>Nat.zero_le _
 |x::t,k,h,hm=>by
  have h1:=List.pairwise_cons.1 h
  have ih:=set_len (t:=t) (k:=x+1) h1.2 fun i hi=>⟨h1.1 i hi,(hm i (by simp[hi])).2⟩
  have:=hm x (by simp)
  rw[List.length_cons]
  omega
theorem least_go {l:List Rec}: ∀(f size:Nat),f+size=l.length+1->1<=size->(∀t,SetOf l.length t->t.length<size->contraP (ofP l t)=false)->
 (leastGo l f size=[]-> ∀t,SetOf l.length t->contraP (ofP l t)=false)/\(leastGo l f size≠[]->IsLeast l (leastGo l f size))
 |0,size,hf,_,hs=>by
  rw[leastGo]
  refine⟨fun _ t ht=>hs t ht ?_,fun h=>absurd rfl h⟩
  have:=set_len (k:=0) ht.1 fun i hi=>⟨Nat.zero_le i,ht.2 i hi⟩
  omega
 |f+1,size,hf,h1,hs=>by
  have hc:=choose_spec l size [] 0 (by simp;omega)
  rw[leastGo]
  split
  ·rename_i he
   refine least_go f (size+1) (by omega) (by omega) fun t ht htl=> ?_
   rcases Nat.lt_succ_iff_lt_or_eq.1 htl with k|k
   ·exact hs t ht k
   ·rw[<-Bool.not_eq_true]
    intro hct
    have:=cand_set ht hct
    rw[k]at this
    exact hc.1 (by simpa using he) t this
  ·rename_i he
   have hne:chooseP l size [] 0≠[]:=by simpa using he
   obtain⟨r,r1,r2,r3⟩:=hc.2 hne
   rw[List.nil_append]at r1
   refine⟨fun h=>absurd h hne,fun _=> ?_⟩
   rw[r1]
   refine⟨⟨r2.1,fun i hi=>(r2.2.1 i hi).2⟩,by simpa using r2.2.2.2,fun t ht hct=> ?_⟩
   rw[r2.2.2.1]
   rcases Nat.lt_trichotomy t.length size with k|k|k
   ·rw[hs t ht k]at hct;cases hct
   ·have:=cand_set ht hct
    rw[k]at this
    exact .inr ⟨k.symm,r3 t this⟩
   ·exact .inl k
theorem least_ref (l:List Rec):(leastGo l l.length 1=[]-> ∀t,SetOf l.length t->contraP (ofP l t)=false)/\(leastGo l l.length 1≠[]->IsLeast l (leastGo l l.length 1)):=
 least_go l.length 1 rfl (Nat.le_refl _) fun t _ hl=>by
  have:t=[]:=List.eq_nil_of_length_eq_zero (by omega)
  rw[this]
  exact contra_nil
end Go.Proofs.YtkhkhnellekofaaGreatDoor
namespace Go.Proofs.YtkhkhnellekofaaGreatDoor
open Go.RowKit Go.Shelf
attribute [local go_sem] World.cell?_alloc_mark ext_size ext_cell ext_frozen lt_add_r lt_add_r2 lt_add_r3 lt_add_r4 lt_add_r5 lt_add_r6 lt_add_r7 lt_add_r8
attribute [local go_sem] ext_setCell alloc_setCell_lt
def Rec.v (r:Rec):Value:= .agg #[.int .i64 r.kind, .string r.name, .string r.other, .string r.place, .int .i64 r.day, .int .i64 r.til, .int .i64 r.num, .int .i64 r.den]
def recO (r:Rec):Obj:= .cells #[.int .i64 r.kind, .string r.name, .string r.other, .string r.place, .int .i64 r.day, .int .i64 r.til, .int .i64 r.num, .int .i64 r.den] 65
set_option maxRecDepth 100000 in
set_option maxHeartbeats 2000000 in
theorem against_any (x y:Rec) (w:World) (hx:0<=x.kind/\x.kind<=4) (hy:0<=y.kind/\y.kind<=4):Calls Tryz.prog 69 #[x.v,y.v] w (Ret w (.bool (againstP x y))):=by
 obtain⟨lo,hi,hlh⟩: ∃lo hi,(lo,hi)=if y.kind<x.kind then(y,x)else(x,y):=⟨_,_,rfl⟩
 have hr:againstP x y=againstQ lo hi:=by
  unfold againstP
  by_cases h:y.kind<x.kind
  ·rw[if_pos h]at hlh;cases hlh;rw[if_pos (by simpa using h)]
  ·rw[if_neg h]at hlh;cases hlh;rw[if_neg (by simpa using h)]
 have hkl:0<=lo.kind/\lo.kind<=4/\0<=hi.kind/\hi.kind<=4:=by
  split at hlh<;>cases hlh<;>omega
 rw[hr]
 obtain⟨R,hR⟩: ∃R,R=againstQ lo hi:=⟨_,rfl⟩
 rw[<-hR]
 have HR:=Lib.hid hR
 clear hR
 unfold Rec.v
 go_enter Tryz.func69,Tryz.ntmps69
 go_upto_if 10 with fail
 go_cut [11,12]from 13 (fun _ _ W=>W.heap[w.heap.size]?=some (recO lo)/\W.heap[w.heap.size+1]?=some (recO hi)/\Below w.heap.size w W)
 case first=>
  by_cases h:y.kind<x.kind
  ·rw[if_pos h]at hlh
   cases hlh
   go_wp2_with fail
   go_meet
   exact⟨J_alloc (J_new _ _ _ rfl),J_new _ _ _ (by simp),Bw⟩
  ·rw[if_neg h]at hlh
   cases hlh
   go_wp2_with fail
   go_meet
   exact⟨J_alloc (J_new _ _ _ rfl),J_new _ _ _ (by simp),Bw⟩
 case rest=>
  obtain⟨g0,g1,hB⟩:=hcut
  clear hlh hr hx hy
  obtain⟨lk,ln,lo2,lp,ld,lt,lu,lv⟩:=lo
  obtain⟨hk,hn,ho2,hp,hd,ht,hu,hv⟩:=hi
  simp only at hkl
  unfold recO at g0 g1
  have a0:wc.cell? ⟨w.heap.size,0,none⟩=some (.int .i64 lk):=by simp only[World.cell?,g0];rfl
  have a1:wc.cell? ⟨w.heap.size,1,none⟩=some (.string ln):=by simp only[World.cell?,g0];rfl
  have a3:wc.cell? ⟨w.heap.size,3,none⟩=some (.string lp):=by simp only[World.cell?,g0];rfl
  have a4:wc.cell? ⟨w.heap.size,4,none⟩=some (.int .i64 ld):=by simp only[World.cell?,g0];rfl
  have a5:wc.cell? ⟨w.heap.size,5,none⟩=some (.int .i64 lt):=by simp only[World.cell?,g0];rfl
  have a6:wc.cell? ⟨w.heap.size,6,none⟩=some (.int .i64 lu):=by simp only[World.cell?,g0];rfl
  have a7:wc.cell? ⟨w.heap.size,7,none⟩=some (.int .i64 lv):=by simp only[World.cell?,g0];rfl
  have b0:wc.cell? ⟨w.heap.size+1,0,none⟩=some (.int .i64 hk):=by simp only[World.cell?,g1];rfl
  have b1:wc.cell? ⟨w.heap.size+1,1,none⟩=some (.string hn):=by simp only[World.cell?,g1];rfl
  have b3:wc.cell? ⟨w.heap.size+1,3,none⟩=some (.string hp):=by simp only[World.cell?,g1];rfl
  have b4:wc.cell? ⟨w.heap.size+1,4,none⟩=some (.int .i64 hd):=by simp only[World.cell?,g1];rfl
  have b5:wc.cell? ⟨w.heap.size+1,5,none⟩=some (.int .i64 ht):=by simp only[World.cell?,g1];rfl
  have b6:wc.cell? ⟨w.heap.size+1,6,none⟩=some (.int .i64 hu):=by simp only[World.cell?,g1];rfl
  have b7:wc.cell? ⟨w.heap.size+1,7,none⟩=some (.int .i64 hv):=by simp only[World.cell?,g1];rfl
  have HB:=Lib.hid hB
  clear hB g0 g1
  have hR:=HR.out
  unfold againstQ at hR
  simp only at hR
  clear HR
  have hl':lk=0\/lk=1\/lk=2\/lk=3\/lk=4:=by omega
  have hh':hk=0\/hk=1\/hk=2\/hk=3\/hk=4:=by omega
  clear hkl
  rcases hl' with rfl|rfl|rfl|rfl|rfl<;>rcases hh' with rfl|rfl|rfl|rfl|rfl
  ·have HR:Hid (R=false):=by(show _=_;rw[hR];rfl)
   clear hR
   go_wp2_with fail
   go_ret
   rw[HR.out]
   exact Ret.of (bool_eq (by first|rfl|(simp[*];done))) (HB.out.trans (Below.mono (B:=wc.heap.size) Bw HB.out.size))
  ·cases hs:(ln.toList==hn.toList)
   ·have HR:Hid (R=false):=by(show _=_;rw[hR];simp[sameB, *])
    clear hR
    go_wp2_with fail
    go_ret
    rw[HR.out]
    exact Ret.of (bool_eq (by first|rfl|(simp[*];done))) (HB.out.trans (Below.mono (B:=wc.heap.size) Bw HB.out.size))
   ·by_cases h:hd<ld
    ·have HR:Hid (R=true):=by(show _=_;rw[hR];simp[sameB, *])
     clear hR
     go_wp2_with fail
     go_ret
     rw[HR.out]
     exact Ret.of (bool_eq (by first|rfl|(simp[*];done))) (HB.out.trans (Below.mono (B:=wc.heap.size) Bw HB.out.size))
    ·have HR:Hid (R=false):=by(show _=_;rw[hR];simp[sameB, *])
     clear hR
     go_wp2_with fail
     go_ret
     rw[HR.out]
     exact Ret.of (bool_eq (by first|rfl|(simp[*];done))) (HB.out.trans (Below.mono (B:=wc.heap.size) Bw HB.out.size))
  ·have HR:Hid (R=false):=by(show _=_;rw[hR];rfl)
   clear hR
   go_wp2_with fail
   go_ret
   rw[HR.out]
   exact Ret.of (bool_eq (by first|rfl|(simp[*];done))) (HB.out.trans (Below.mono (B:=wc.heap.size) Bw HB.out.size))
  ·have HR:Hid (R=false):=by(show _=_;rw[hR];rfl)
   clear hR
   go_wp2_with fail
   go_ret
   rw[HR.out]
   exact Ret.of (bool_eq (by first|rfl|(simp[*];done))) (HB.out.trans (Below.mono (B:=wc.heap.size) Bw HB.out.size))
  ·have HR:Hid (R=false):=by(show _=_;rw[hR];rfl)
   clear hR
   go_wp2_with fail
   go_ret
   rw[HR.out]
   exact Ret.of (bool_eq (by first|rfl|(simp[*];done))) (HB.out.trans (Below.mono (B:=wc.heap.size) Bw HB.out.size))
  ·have HR:Hid (R=false):=by(show _=_;rw[hR];rfl)
   clear hR
   go_wp2_with fail
   go_ret
   rw[HR.out]
   exact Ret.of (bool_eq (by first|rfl|(simp[*];done))) (HB.out.trans (Below.mono (B:=wc.heap.size) Bw HB.out.size))
  ·cases hs:(ln.toList==hn.toList)
   ·have HR:Hid (R=false):=by(show _=_;rw[hR];simp[sameB, *])
    clear hR
    go_wp2_with fail
    go_ret
    rw[HR.out]
    exact Ret.of (bool_eq (by first|rfl|(simp[*];done))) (HB.out.trans (Below.mono (B:=wc.heap.size) Bw HB.out.size))
   ·by_cases h:ld=hd
    ·have HR:Hid (R=false):=by(show _=_;rw[hR];simp[sameB, *])
     clear hR
     go_wp2_with fail
     go_ret
     rw[HR.out]
     exact Ret.of (bool_eq (by first|rfl|(simp[*];done))) (HB.out.trans (Below.mono (B:=wc.heap.size) Bw HB.out.size))
    ·have HR:Hid (R=true):=by(show _=_;rw[hR];simp[sameB, *])
     clear hR
     go_wp2_with fail
     go_ret
     rw[HR.out]
     exact Ret.of (bool_eq (by first|rfl|(simp[*];done))) (HB.out.trans (Below.mono (B:=wc.heap.size) Bw HB.out.size))
  ·have HR:Hid (R=false):=by(show _=_;rw[hR];rfl)
   clear hR
   go_wp2_with fail
   go_ret
   rw[HR.out]
   exact Ret.of (bool_eq (by first|rfl|(simp[*];done))) (HB.out.trans (Below.mono (B:=wc.heap.size) Bw HB.out.size))
  ·cases hs:(ln.toList==hn.toList)
   ·have HR:Hid (R=false):=by(show _=_;rw[hR];simp[sameB, *])
    clear hR
    go_wp2_with fail
    go_ret
    rw[HR.out]
    exact Ret.of (bool_eq (by first|rfl|(simp[*];done))) (HB.out.trans (Below.mono (B:=wc.heap.size) Bw HB.out.size))
   ·by_cases h:ld<hd
    ·have HR:Hid (R=true):=by(show _=_;rw[hR];simp[sameB, *])
     clear hR
     go_wp2_with fail
     go_ret
     rw[HR.out]
     exact Ret.of (bool_eq (by first|rfl|(simp[*];done))) (HB.out.trans (Below.mono (B:=wc.heap.size) Bw HB.out.size))
    ·have HR:Hid (R=false):=by(show _=_;rw[hR];simp[sameB, *])
     clear hR
     go_wp2_with fail
     go_ret
     rw[HR.out]
     exact Ret.of (bool_eq (by first|rfl|(simp[*];done))) (HB.out.trans (Below.mono (B:=wc.heap.size) Bw HB.out.size))
  ·cases hs:(ln.toList==hn.toList)
   ·have HR:Hid (R=false):=by(show _=_;rw[hR];simp[sameB, *])
    clear hR
    go_wp2_with fail
    go_ret
    rw[HR.out]
    exact Ret.of (bool_eq (by first|rfl|(simp[*];done))) (HB.out.trans (Below.mono (B:=wc.heap.size) Bw HB.out.size))
   ·by_cases h:ld<hd
    ·have HR:Hid (R=true):=by(show _=_;rw[hR];simp[sameB, *])
     clear hR
     go_wp2_with fail
     go_ret
     rw[HR.out]
     exact Ret.of (bool_eq (by first|rfl|(simp[*];done))) (HB.out.trans (Below.mono (B:=wc.heap.size) Bw HB.out.size))
    ·have HR:Hid (R=false):=by(show _=_;rw[hR];simp[sameB, *])
     clear hR
     go_wp2_with fail
     go_ret
     rw[HR.out]
     exact Ret.of (bool_eq (by first|rfl|(simp[*];done))) (HB.out.trans (Below.mono (B:=wc.heap.size) Bw HB.out.size))
  ·have HR:Hid (R=false):=by(show _=_;rw[hR];rfl)
   clear hR
   go_wp2_with fail
   go_ret
   rw[HR.out]
   exact Ret.of (bool_eq (by first|rfl|(simp[*];done))) (HB.out.trans (Below.mono (B:=wc.heap.size) Bw HB.out.size))
  ·have HR:Hid (R=false):=by(show _=_;rw[hR];rfl)
   clear hR
   go_wp2_with fail
   go_ret
   rw[HR.out]
   exact Ret.of (bool_eq (by first|rfl|(simp[*];done))) (HB.out.trans (Below.mono (B:=wc.heap.size) Bw HB.out.size))
  ·have HR:Hid (R=false):=by(show _=_;rw[hR];rfl)
   clear hR
   go_wp2_with fail
   go_ret
   rw[HR.out]
   exact Ret.of (bool_eq (by first|rfl|(simp[*];done))) (HB.out.trans (Below.mono (B:=wc.heap.size) Bw HB.out.size))
  ·have HR:Hid (R=false):=by(show _=_;rw[hR];rfl)
   clear hR
   go_wp2_with fail
   go_ret
   rw[HR.out]
   exact Ret.of (bool_eq (by first|rfl|(simp[*];done))) (HB.out.trans (Below.mono (B:=wc.heap.size) Bw HB.out.size))
  ·have HR:Hid (R=false):=by(show _=_;rw[hR];rfl)
   clear hR
   go_wp2_with fail
   go_ret
   rw[HR.out]
   exact Ret.of (bool_eq (by first|rfl|(simp[*];done))) (HB.out.trans (Below.mono (B:=wc.heap.size) Bw HB.out.size))
  ·have HR:Hid (R=false):=by(show _=_;rw[hR];rfl)
   clear hR
   go_wp2_with fail
   go_ret
   rw[HR.out]
   exact Ret.of (bool_eq (by first|rfl|(simp[*];done))) (HB.out.trans (Below.mono (B:=wc.heap.size) Bw HB.out.size))
  ·have HR:Hid (R=false):=by(show _=_;rw[hR];rfl)
   clear hR
   go_wp2_with fail
   go_ret
   rw[HR.out]
   exact Ret.of (bool_eq (by first|rfl|(simp[*];done))) (HB.out.trans (Below.mono (B:=wc.heap.size) Bw HB.out.size))
  ·have HR:Hid (R=false):=by(show _=_;rw[hR];rfl)
   clear hR
   go_wp2_with fail
   go_ret
   rw[HR.out]
   exact Ret.of (bool_eq (by first|rfl|(simp[*];done))) (HB.out.trans (Below.mono (B:=wc.heap.size) Bw HB.out.size))
  ·cases hs:(ln.toList==hn.toList)
   ·have HR:Hid (R=false):=by(show _=_;rw[hR];simp[sameB, *])
    clear hR
    go_wp2_with fail
    go_ret
    rw[HR.out]
    exact Ret.of (bool_eq (by first|rfl|(simp[*];done))) (HB.out.trans (Below.mono (B:=wc.heap.size) Bw HB.out.size))
   ·cases hq:(lp.toList==hp.toList)
    ·have HR:Hid (R=false):=by(show _=_;rw[hR];simp[sameB, *])
     clear hR
     go_wp2_with fail
     go_ret
     rw[HR.out]
     exact Ret.of (bool_eq (by first|rfl|(simp[*];done))) (HB.out.trans (Below.mono (B:=wc.heap.size) Bw HB.out.size))
    ·by_cases h:ld=hd
     ·by_cases h2:lu=hu
      ·by_cases h3:lv=hv
       ·have HR:Hid (R=false):=by(show _=_;rw[hR];simp[sameB, *])
        clear hR
        go_wp2_with fail
        go_ret
        rw[HR.out]
        exact Ret.of (bool_eq (by first|rfl|(simp[*];done))) (HB.out.trans (Below.mono (B:=wc.heap.size) Bw HB.out.size))
       ·have HR:Hid (R=true):=by(show _=_;rw[hR];simp[sameB, *])
        clear hR
        go_wp2_with fail
        go_ret
        rw[HR.out]
        exact Ret.of (bool_eq (by first|rfl|(simp[*];done))) (HB.out.trans (Below.mono (B:=wc.heap.size) Bw HB.out.size))
      ·have HR:Hid (R=true):=by(show _=_;rw[hR];simp[sameB, *])
       clear hR
       go_wp2_with fail
       go_ret
       rw[HR.out]
       exact Ret.of (bool_eq (by first|rfl|(simp[*];done))) (HB.out.trans (Below.mono (B:=wc.heap.size) Bw HB.out.size))
     ·have HR:Hid (R=false):=by(show _=_;rw[hR];simp[sameB, *])
      clear hR
      go_wp2_with fail
      go_ret
      rw[HR.out]
      exact Ret.of (bool_eq (by first|rfl|(simp[*];done))) (HB.out.trans (Below.mono (B:=wc.heap.size) Bw HB.out.size))
  ·have HR:Hid (R=false):=by(show _=_;rw[hR];rfl)
   clear hR
   go_wp2_with fail
   go_ret
   rw[HR.out]
   exact Ret.of (bool_eq (by first|rfl|(simp[*];done))) (HB.out.trans (Below.mono (B:=wc.heap.size) Bw HB.out.size))
  ·have HR:Hid (R=false):=by(show _=_;rw[hR];rfl)
   clear hR
   go_wp2_with fail
   go_ret
   rw[HR.out]
   exact Ret.of (bool_eq (by first|rfl|(simp[*];done))) (HB.out.trans (Below.mono (B:=wc.heap.size) Bw HB.out.size))
  ·have HR:Hid (R=false):=by(show _=_;rw[hR];rfl)
   clear hR
   go_wp2_with fail
   go_ret
   rw[HR.out]
   exact Ret.of (bool_eq (by first|rfl|(simp[*];done))) (HB.out.trans (Below.mono (B:=wc.heap.size) Bw HB.out.size))
  ·have HR:Hid (R=false):=by(show _=_;rw[hR];rfl)
   clear hR
   go_wp2_with fail
   go_ret
   rw[HR.out]
   exact Ret.of (bool_eq (by first|rfl|(simp[*];done))) (HB.out.trans (Below.mono (B:=wc.heap.size) Bw HB.out.size))
  ·have HR:Hid (R=false):=by(show _=_;rw[hR];rfl)
   clear hR
   go_wp2_with fail
   go_ret
   rw[HR.out]
   exact Ret.of (bool_eq (by first|rfl|(simp[*];done))) (HB.out.trans (Below.mono (B:=wc.heap.size) Bw HB.out.size))
  ·cases hs:(ln.toList==hn.toList)
   ·cases hq:(lp.toList==hp.toList)
    ·have HR:Hid (R=false):=by(show _=_;rw[hR];simp[sameB, *])
     clear hR
     go_wp2_with fail
     go_ret
     rw[HR.out]
     exact Ret.of (bool_eq (by first|rfl|(simp[*];done))) (HB.out.trans (Below.mono (B:=wc.heap.size) Bw HB.out.size))
    ·by_cases h:max ld hd<min lt ht
     ·have HR:Hid (R=true):=by(show _=_;rw[hR];simp[sameB, *])
      clear hR
      go_wp2_with fail
      go_ret
      rw[HR.out]
      exact Ret.of (bool_eq (by first|rfl|(simp[*];done))) (HB.out.trans (Below.mono (B:=wc.heap.size) Bw HB.out.size))
     ·have HR:Hid (R=false):=by(show _=_;rw[hR];simp[sameB, *])
      clear hR
      go_wp2_with fail
      go_ret
      rw[HR.out]
      exact Ret.of (bool_eq (by first|rfl|(simp[*];done))) (HB.out.trans (Below.mono (B:=wc.heap.size) Bw HB.out.size))
   ·have HR:Hid (R=false):=by(show _=_;rw[hR];simp[sameB, *])
    clear hR
    go_wp2_with fail
    go_ret
    rw[HR.out]
    exact Ret.of (bool_eq (by first|rfl|(simp[*];done))) (HB.out.trans (Below.mono (B:=wc.heap.size) Bw HB.out.size))
end Go.Proofs.YtkhkhnellekofaaGreatDoor
namespace Go.Proofs.YtkhkhnellekofaaGreatDoor
open Go.RowKit Go.Shelf
attribute [local go_sem] World.cell?_alloc_mark ext_size ext_cell ext_frozen lt_add_r lt_add_r2 lt_add_r3 lt_add_r4 lt_add_r5 lt_add_r6 lt_add_r7 lt_add_r8
attribute [local go_sem] ext_setCell alloc_setCell_lt
theorem isDay0:isDayP 0=true:=by decide
theorem inR04:inR 0 0 4=true:=by decide
theorem inR14:inR 1 0 4=true:=by decide
theorem inR24:inR 2 0 4=true:=by decide
theorem inR34:inR 3 0 4=true:=by decide
theorem inR44:inR 4 0 4=true:=by decide
set_option maxRecDepth 100000 in
set_option maxHeartbeats 2000000 in
theorem checkRecord_any (x:Rec) (w:World) (h1:x.name.size<=100000) (h2:x.other.size<=100000) (h3:x.place.size<=100000):Calls Tryz.prog 49 #[x.v] w (Ret w (.int .i64 (checkRecP x))):=by
 obtain⟨R,hR⟩: ∃R,R=checkRecP x:=⟨_,rfl⟩
 rw[<-hR]
 have HR:=Lib.hid hR
 clear hR
 obtain⟨kd,nm,ot,pl,dy,tl,nu,de⟩:=x
 simp only at h1 h2 h3
 unfold Rec.v
 go_enter Tryz.func49,Tryz.ntmps49
 cases hk:inR kd 0 4
 ·go_wp2_with (go_at_call 55;refine(within5_any _ _ _ _).mono ?_;rintro e wq ⟨rfl,rfl⟩;rw[hk])
  go_ret
  exact Ret.of (int_eq (by rw[HR.out];simp[checkRecP, *])) Bw
 ·go_upto_region 3 with(go_at_call 55;refine(within5_any _ _ _ _).mono ?_;rintro e wq ⟨rfl,rfl⟩;rw[hk])
  go_cut [11]from 7 (fun v wc=>v= .bool (!isDayP dy||!isDayP tl)/\Below w.heap.size w wc/\wc.heap[w.heap.size]?=some (.cells #[.int .i64 kd, .string nm, .string ot, .string pl, .int .i64 dy, .int .i64 tl, .int .i64 nu, .int .i64 de] 65))
  case first=>
   go_wp2_with (first
                 |(go_at_call 55;refine(within5_any _ _ _ _).mono ?_;intro e wq hq;rcases Ret0.bools hq with⟨rfl,⟨hb,rfl⟩|⟨hb,rfl⟩⟩<;>clear hq)
                 |(go_at_call 50;refine(isDay5_any _ _).mono ?_;intro e wq hq;rcases Ret0.bools hq with⟨rfl,⟨hb,rfl⟩|⟨hb,rfl⟩⟩<;>clear hq)
                 |(go_at_call 83;refine(isName5_any _ _ (by assumption)).mono ?_;intro e wq hq;rcases Ret0.bools hq with⟨rfl,⟨hb,rfl⟩|⟨hb,rfl⟩⟩<;>clear hq))
   all_goals go_meet
   all_goals(refine⟨bool_eq (by first|(simp[noB, *];done)),Bw,by first|exact J_new _ _ _ rfl|repeat(first|assumption|with_reducible refine J_alloc ?_|with_reducible refine J_ext ?_|with_reducible refine J_ne (by omega) ?_)⟩)
  case rest=>
   obtain⟨rfl,hB,g0⟩:=hcut
   have d0:wc.cell? ⟨w.heap.size,0,none⟩=some (.int .i64 kd):=by simp only[World.cell?,g0];rfl
   have d1:wc.cell? ⟨w.heap.size,1,none⟩=some (.string nm):=by simp only[World.cell?,g0];rfl
   have d2:wc.cell? ⟨w.heap.size,2,none⟩=some (.string ot):=by simp only[World.cell?,g0];rfl
   have d3:wc.cell? ⟨w.heap.size,3,none⟩=some (.string pl):=by simp only[World.cell?,g0];rfl
   have d4:wc.cell? ⟨w.heap.size,4,none⟩=some (.int .i64 dy):=by simp only[World.cell?,g0];rfl
   have d5:wc.cell? ⟨w.heap.size,5,none⟩=some (.int .i64 tl):=by simp only[World.cell?,g0];rfl
   have d6:wc.cell? ⟨w.heap.size,6,none⟩=some (.int .i64 nu):=by simp only[World.cell?,g0];rfl
   have d7:wc.cell? ⟨w.heap.size,7,none⟩=some (.int .i64 de):=by simp only[World.cell?,g0];rfl
   have e0:w.heap.size<wc.heap.size:=blk_lt g0
   cases hb:(!isDayP dy||!isDayP tl)
   ·have hx0: ∀W,Sem.run Tryz.prog (Instr.index 114 (.agg #[.string nm, .string ot, .string pl]) (.int .i64 0)) W= .ok (.string nm) W:=fun W=>by kernel_rfl
    have hx1: ∀W,Sem.run Tryz.prog (Instr.index 114 (.agg #[.string nm, .string ot, .string pl]) (.int .i64 1)) W= .ok (.string ot) W:=fun W=>by kernel_rfl
    have hx2: ∀W,Sem.run Tryz.prog (Instr.index 114 (.agg #[.string nm, .string ot, .string pl]) (.int .i64 2)) W= .ok (.string pl) W:=fun W=>by kernel_rfl
    go_upto_block 1 with fail
    go_cut [4,29]from 30 (fun _ _ W=>W=wc/\nameOr nm=true/\nameOr ot=true/\nameOr pl=true)
    case first=>
     go_wp2_with fail
     go_loopw [4,29] (fun _ i wr=> ∃k:Nat,k<=3/\i= .int .i64 k/\wr=wc/\Hid (∀j s,j<k->[nm,ot,pl][j]?=some s->nameOr s=true)) (fun _ i _=>3-(intOf i).toNat)
     case atStart=>exact⟨0,by omega,rfl,rfl,fun j s hj=>absurd hj (Nat.not_lt_zero _)⟩
     case round=>
      obtain⟨k,hk3,rfl,rfl,HK⟩:=hrel
      obtain rfl|rfl|rfl|rfl:k=0\/k=1\/k=2\/k=3:=by omega
      ·cases hz:noB nm
       ·have hz1:(nm).toList.isEmpty=false:=hz
        have hz2: ¬(nm).toList=[]:=by simpa using hz1
        cases hq:isNameP nm
        ·have hno:nameOr nm=false:=by simp[nameOr,hz,hq]
         have HRX:Hid (R=4):=by show _=_;rw[HR.out];simp[checkRecP, *]
         clear HR HK hno
         go_wp2_with (go_at_call 83;refine(isName5_any _ _ (by assumption)).mono ?_;rintro e wq ⟨rfl,rfl⟩;rw[hq])
         go_ret
         rw[HRX.out]
         exact Ret.of rfl Bw
        ·have hno:nameOr nm=true:=by simp[nameOr,hz,hq]
         have HNO:=Lib.hid hno
         clear hno
         go_wp2_with (go_at_call 83;refine(isName5_any _ _ (by assumption)).mono ?_;rintro e wq ⟨rfl,rfl⟩;rw[hq])
         go_round
         case rel=>exact⟨0+1,by omega,by go_num,by first|exact True.intro|rfl,fun j s hj hs=>by
          rcases Nat.lt_succ_iff_lt_or_eq.1 hj with hj|rfl
          ·exact HK.out j s hj hs
          ·simp at hs;rw[<-hs];exact HNO.out⟩
         case measure=>simp[intOf]
       ·have hz1:(nm).toList.isEmpty=true:=hz
        have hz2:(nm).toList=[]:=by simpa using hz1
        have hno:nameOr nm=true:=by simp[nameOr,hz]
        have HNO:=Lib.hid hno
        clear hno
        go_wp2_with fail
        go_round
        case rel=>exact⟨0+1,by omega,by go_num,by first|exact True.intro|rfl,fun j s hj hs=>by
         rcases Nat.lt_succ_iff_lt_or_eq.1 hj with hj|rfl
         ·exact HK.out j s hj hs
         ·simp at hs;rw[<-hs];exact HNO.out⟩
        case measure=>simp[intOf]
      ·have hq1:=HK.out 0 nm (by omega) rfl
       cases hz:noB ot
       ·have hz1:(ot).toList.isEmpty=false:=hz
        have hz2: ¬(ot).toList=[]:=by simpa using hz1
        cases hq:isNameP ot
        ·have hno:nameOr ot=false:=by simp[nameOr,hz,hq]
         have HRX:Hid (R=4):=by show _=_;rw[HR.out];simp[checkRecP, *]
         clear HR HK hno
         go_wp2_with (go_at_call 83;refine(isName5_any _ _ (by assumption)).mono ?_;rintro e wq ⟨rfl,rfl⟩;rw[hq])
         go_ret
         rw[HRX.out]
         exact Ret.of rfl Bw
        ·have hno:nameOr ot=true:=by simp[nameOr,hz,hq]
         have HNO:=Lib.hid hno
         clear hno
         go_wp2_with (go_at_call 83;refine(isName5_any _ _ (by assumption)).mono ?_;rintro e wq ⟨rfl,rfl⟩;rw[hq])
         go_round
         case rel=>exact⟨1+1,by omega,by go_num,by first|exact True.intro|rfl,fun j s hj hs=>by
          rcases Nat.lt_succ_iff_lt_or_eq.1 hj with hj|rfl
          ·exact HK.out j s hj hs
          ·simp at hs;rw[<-hs];exact HNO.out⟩
         case measure=>simp[intOf]
       ·have hz1:(ot).toList.isEmpty=true:=hz
        have hz2:(ot).toList=[]:=by simpa using hz1
        have hno:nameOr ot=true:=by simp[nameOr,hz]
        have HNO:=Lib.hid hno
        clear hno
        go_wp2_with fail
        go_round
        case rel=>exact⟨1+1,by omega,by go_num,by first|exact True.intro|rfl,fun j s hj hs=>by
         rcases Nat.lt_succ_iff_lt_or_eq.1 hj with hj|rfl
         ·exact HK.out j s hj hs
         ·simp at hs;rw[<-hs];exact HNO.out⟩
        case measure=>simp[intOf]
      ·have hq1:=HK.out 0 nm (by omega) rfl
       have hq2:=HK.out 1 ot (by omega) rfl
       cases hz:noB pl
       ·have hz1:(pl).toList.isEmpty=false:=hz
        have hz2: ¬(pl).toList=[]:=by simpa using hz1
        cases hq:isNameP pl
        ·have hno:nameOr pl=false:=by simp[nameOr,hz,hq]
         have HRX:Hid (R=4):=by show _=_;rw[HR.out];simp[checkRecP, *]
         clear HR HK hno
         go_wp2_with (go_at_call 83;refine(isName5_any _ _ (by assumption)).mono ?_;rintro e wq ⟨rfl,rfl⟩;rw[hq])
         go_ret
         rw[HRX.out]
         exact Ret.of rfl Bw
        ·have hno:nameOr pl=true:=by simp[nameOr,hz,hq]
         have HNO:=Lib.hid hno
         clear hno
         go_wp2_with (go_at_call 83;refine(isName5_any _ _ (by assumption)).mono ?_;rintro e wq ⟨rfl,rfl⟩;rw[hq])
         go_round
         case rel=>exact⟨2+1,by omega,by go_num,by first|exact True.intro|rfl,fun j s hj hs=>by
          rcases Nat.lt_succ_iff_lt_or_eq.1 hj with hj|rfl
          ·exact HK.out j s hj hs
          ·simp at hs;rw[<-hs];exact HNO.out⟩
         case measure=>simp[intOf]
       ·have hz1:(pl).toList.isEmpty=true:=hz
        have hz2:(pl).toList=[]:=by simpa using hz1
        have hno:nameOr pl=true:=by simp[nameOr,hz]
        have HNO:=Lib.hid hno
        clear hno
        go_wp2_with fail
        go_round
        case rel=>exact⟨2+1,by omega,by go_num,by first|exact True.intro|rfl,fun j s hj hs=>by
         rcases Nat.lt_succ_iff_lt_or_eq.1 hj with hj|rfl
         ·exact HK.out j s hj hs
         ·simp at hs;rw[<-hs];exact HNO.out⟩
        case measure=>simp[intOf]
      ·go_wp2_with fail
       go_meet
       exact⟨rfl,HK.out 0 nm (by omega) rfl,HK.out 1 ot (by omega) rfl,HK.out 2 pl (by omega) rfl⟩
    case rest=>
     obtain⟨rfl,q1,q2,q3⟩:=hcut
     have hkk:kd=0\/kd=1\/kd=2\/kd=3\/kd=4:=by
      unfold inR at hk
      simp at hk
      omega
     have HB:=Lib.hid hB
     have hs:=hB.size
     have p1:isDayP dy=true:=by cases hd:isDayP dy<;>simp_all
     have p2:isDayP tl=true:=by cases hd:isDayP tl<;>simp_all
     clear hx0 hx1 hx2 g0 hB hb
     cases z1:noB nm
     ·have y1:nm.toList.isEmpty=false:=z1
      have y1': ¬nm.toList=[]:=by simpa using y1
      rcases hkk with rfl|rfl|rfl|rfl|rfl
      ·cases z2:noB ot
       ·have y2:ot.toList.isEmpty=false:=z2
        have w2: ¬ot.toList=[]:=by simpa using y2
        (go_wp2_with fail
         go_ret
         exact Ret.of (int_eq (by rw[HR.out];simp[checkRecP,p1,p2,isDay0,inR04,inR14,inR24,inR34,inR44, *])) (HB.out.trans (Below.mono (B:=wc.heap.size) Bw hs)))
       ·have y2:ot.toList.isEmpty=true:=z2
        have w2:ot.toList=[]:=by simpa using y2
        cases z3:noB pl
        ·have y3:pl.toList.isEmpty=false:=z3
         have w3: ¬pl.toList=[]:=by simpa using y3
         (go_wp2_with fail
          go_ret
          exact Ret.of (int_eq (by rw[HR.out];simp[checkRecP,p1,p2,isDay0,inR04,inR14,inR24,inR34,inR44, *])) (HB.out.trans (Below.mono (B:=wc.heap.size) Bw hs)))
        ·have y3:pl.toList.isEmpty=true:=z3
         have w3:pl.toList=[]:=by simpa using y3
         by_cases t1:tl=0
         ·skip
          by_cases u1:nu=0
          ·skip
           by_cases u2:de=0
           ·skip
            (go_wp2_with fail
             go_ret
             exact Ret.of (int_eq (by rw[HR.out];simp[checkRecP,p1,p2,isDay0,inR04,inR14,inR24,inR34,inR44, *])) (HB.out.trans (Below.mono (B:=wc.heap.size) Bw hs)))
           ·skip
            (go_wp2_with fail
             go_ret
             exact Ret.of (int_eq (by rw[HR.out];simp[checkRecP,p1,p2,isDay0,inR04,inR14,inR24,inR34,inR44, *])) (HB.out.trans (Below.mono (B:=wc.heap.size) Bw hs)))
          ·skip
           (go_wp2_with fail
            go_ret
            exact Ret.of (int_eq (by rw[HR.out];simp[checkRecP,p1,p2,isDay0,inR04,inR14,inR24,inR34,inR44, *])) (HB.out.trans (Below.mono (B:=wc.heap.size) Bw hs)))
         ·skip
          (go_wp2_with fail
           go_ret
           exact Ret.of (int_eq (by rw[HR.out];simp[checkRecP,p1,p2,isDay0,inR04,inR14,inR24,inR34,inR44, *])) (HB.out.trans (Below.mono (B:=wc.heap.size) Bw hs)))
      ·cases z2:noB ot
       ·have y2:ot.toList.isEmpty=false:=z2
        have w2: ¬ot.toList=[]:=by simpa using y2
        (go_wp2_with fail
         go_ret
         exact Ret.of (int_eq (by rw[HR.out];simp[checkRecP,p1,p2,isDay0,inR04,inR14,inR24,inR34,inR44, *])) (HB.out.trans (Below.mono (B:=wc.heap.size) Bw hs)))
       ·have y2:ot.toList.isEmpty=true:=z2
        have w2:ot.toList=[]:=by simpa using y2
        cases z3:noB pl
        ·have y3:pl.toList.isEmpty=false:=z3
         have w3: ¬pl.toList=[]:=by simpa using y3
         (go_wp2_with fail
          go_ret
          exact Ret.of (int_eq (by rw[HR.out];simp[checkRecP,p1,p2,isDay0,inR04,inR14,inR24,inR34,inR44, *])) (HB.out.trans (Below.mono (B:=wc.heap.size) Bw hs)))
        ·have y3:pl.toList.isEmpty=true:=z3
         have w3:pl.toList=[]:=by simpa using y3
         by_cases t1:tl=0
         ·skip
          by_cases u1:nu=0
          ·skip
           by_cases u2:de=0
           ·skip
            (go_wp2_with fail
             go_ret
             exact Ret.of (int_eq (by rw[HR.out];simp[checkRecP,p1,p2,isDay0,inR04,inR14,inR24,inR34,inR44, *])) (HB.out.trans (Below.mono (B:=wc.heap.size) Bw hs)))
           ·skip
            (go_wp2_with fail
             go_ret
             exact Ret.of (int_eq (by rw[HR.out];simp[checkRecP,p1,p2,isDay0,inR04,inR14,inR24,inR34,inR44, *])) (HB.out.trans (Below.mono (B:=wc.heap.size) Bw hs)))
          ·skip
           (go_wp2_with fail
            go_ret
            exact Ret.of (int_eq (by rw[HR.out];simp[checkRecP,p1,p2,isDay0,inR04,inR14,inR24,inR34,inR44, *])) (HB.out.trans (Below.mono (B:=wc.heap.size) Bw hs)))
         ·skip
          (go_wp2_with fail
           go_ret
           exact Ret.of (int_eq (by rw[HR.out];simp[checkRecP,p1,p2,isDay0,inR04,inR14,inR24,inR34,inR44, *])) (HB.out.trans (Below.mono (B:=wc.heap.size) Bw hs)))
      ·cases z2:noB ot
       ·have y2:ot.toList.isEmpty=false:=z2
        have w2: ¬ot.toList=[]:=by simpa using y2
        cases z3:noB pl
        ·have y3:pl.toList.isEmpty=false:=z3
         have w3: ¬pl.toList=[]:=by simpa using y3
         (go_wp2_with fail
          go_ret
          exact Ret.of (int_eq (by rw[HR.out];simp[checkRecP,p1,p2,isDay0,inR04,inR14,inR24,inR34,inR44, *])) (HB.out.trans (Below.mono (B:=wc.heap.size) Bw hs)))
        ·have y3:pl.toList.isEmpty=true:=z3
         have w3:pl.toList=[]:=by simpa using y3
         by_cases a1:dy=0
         ·skip
          by_cases t1:tl=0
          ·skip
           by_cases u1:nu=0
           ·skip
            by_cases u2:de=0
            ·skip
             (go_wp2_with fail
              go_ret
              exact Ret.of (int_eq (by rw[HR.out];simp[checkRecP,p1,p2,isDay0,inR04,inR14,inR24,inR34,inR44, *])) (HB.out.trans (Below.mono (B:=wc.heap.size) Bw hs)))
            ·skip
             (go_wp2_with fail
              go_ret
              exact Ret.of (int_eq (by rw[HR.out];simp[checkRecP,p1,p2,isDay0,inR04,inR14,inR24,inR34,inR44, *])) (HB.out.trans (Below.mono (B:=wc.heap.size) Bw hs)))
           ·skip
            (go_wp2_with fail
             go_ret
             exact Ret.of (int_eq (by rw[HR.out];simp[checkRecP,p1,p2,isDay0,inR04,inR14,inR24,inR34,inR44, *])) (HB.out.trans (Below.mono (B:=wc.heap.size) Bw hs)))
          ·skip
           (go_wp2_with fail
            go_ret
            exact Ret.of (int_eq (by rw[HR.out];simp[checkRecP,p1,p2,isDay0,inR04,inR14,inR24,inR34,inR44, *])) (HB.out.trans (Below.mono (B:=wc.heap.size) Bw hs)))
         ·skip
          (go_wp2_with fail
           go_ret
           exact Ret.of (int_eq (by rw[HR.out];simp[checkRecP,p1,p2,isDay0,inR04,inR14,inR24,inR34,inR44, *])) (HB.out.trans (Below.mono (B:=wc.heap.size) Bw hs)))
       ·have y2:ot.toList.isEmpty=true:=z2
        have w2:ot.toList=[]:=by simpa using y2
        (go_wp2_with fail
         go_ret
         exact Ret.of (int_eq (by rw[HR.out];simp[checkRecP,p1,p2,isDay0,inR04,inR14,inR24,inR34,inR44, *])) (HB.out.trans (Below.mono (B:=wc.heap.size) Bw hs)))
      ·cases z2:noB ot
       ·have y2:ot.toList.isEmpty=false:=z2
        have w2: ¬ot.toList=[]:=by simpa using y2
        (go_wp2_with fail
         go_ret
         exact Ret.of (int_eq (by rw[HR.out];simp[checkRecP,p1,p2,isDay0,inR04,inR14,inR24,inR34,inR44, *])) (HB.out.trans (Below.mono (B:=wc.heap.size) Bw hs)))
       ·have y2:ot.toList.isEmpty=true:=z2
        have w2:ot.toList=[]:=by simpa using y2
        cases z3:noB pl
        ·have y3:pl.toList.isEmpty=false:=z3
         have w3: ¬pl.toList=[]:=by simpa using y3
         by_cases t1:tl=0
         ·skip
          cases v1:inR de 1 12
          ·go_wp2_with (go_at_call 55;refine(within5_any _ _ _ _).mono ?_;rintro e wq ⟨rfl,rfl⟩;rw[v1])
           go_ret
           exact Ret.of (int_eq (by rw[HR.out];simp[checkRecP,p1,p2,isDay0,inR34, *])) (HB.out.trans (Below.mono (B:=wc.heap.size) Bw hs))
          ·cases v2:inR nu 1 de
           ·go_wp2_with (go_at_call 55;refine(within5_any _ _ _ _).mono ?_;rintro e wq ⟨rfl,rfl⟩;first|rw[v1]|rw[v2])
            go_ret
            exact Ret.of (int_eq (by rw[HR.out];simp[checkRecP,p1,p2,isDay0,inR34, *])) (HB.out.trans (Below.mono (B:=wc.heap.size) Bw hs))
           ·have b1:1<=de/\de<=12:=by unfold inR at v1;simpa using v1
            have b2:1<=nu/\nu<=de:=by unfold inR at v2;simpa using v2
            have HG:=Lib.hid (fun W=>gcd5_any nu de W (by omega) (by omega))
            clear b1 b2
            by_cases v3:Int.gcd nu de=1
            ·have HG1:Hid (R=0):=by show _=_;rw[HR.out];simp[checkRecP,p1,p2,isDay0,inR34, *]
             rw[v3]at HG
             go_wp2_with (first
              |(go_at_call 55;refine(within5_any _ _ _ _).mono ?_;rintro e wq ⟨rfl,rfl⟩;first|rw[v1]|rw[v2])
              |(go_at_call 84;refine(HG.out _).mono ?_;rintro e wq ⟨rfl,z,rfl⟩))
             go_ret
             exact Ret.of (int_eq HG1.out.symm) (HB.out.trans (Below.mono (B:=wc.heap.size) Bw hs))
            ·have v4:((Int.gcd nu de:Int)==1)=false:=by simpa using(by omega: ¬(Int.gcd nu de:Int)=1)
             have v5: ¬((Int.gcd nu de:Nat):Int)=1:=by omega
             have HG1:Hid (R=3):=by show _=_;rw[HR.out];simp[checkRecP,p1,p2,isDay0,inR34, *]
             go_wp2_with (first
              |(go_at_call 55;refine(within5_any _ _ _ _).mono ?_;rintro e wq ⟨rfl,rfl⟩;first|rw[v1]|rw[v2])
              |(go_at_call 84;refine(HG.out _).mono ?_;rintro e wq ⟨rfl,z,rfl⟩))
             go_ret
             exact Ret.of (int_eq HG1.out.symm) (HB.out.trans (Below.mono (B:=wc.heap.size) Bw hs))
         ·skip
          (go_wp2_with fail
           go_ret
           exact Ret.of (int_eq (by rw[HR.out];simp[checkRecP,p1,p2,isDay0,inR04,inR14,inR24,inR34,inR44, *])) (HB.out.trans (Below.mono (B:=wc.heap.size) Bw hs)))
        ·have y3:pl.toList.isEmpty=true:=z3
         have w3:pl.toList=[]:=by simpa using y3
         (go_wp2_with fail
          go_ret
          exact Ret.of (int_eq (by rw[HR.out];simp[checkRecP,p1,p2,isDay0,inR04,inR14,inR24,inR34,inR44, *])) (HB.out.trans (Below.mono (B:=wc.heap.size) Bw hs)))
      ·cases z2:noB ot
       ·have y2:ot.toList.isEmpty=false:=z2
        have w2: ¬ot.toList=[]:=by simpa using y2
        (go_wp2_with fail
         go_ret
         exact Ret.of (int_eq (by rw[HR.out];simp[checkRecP,p1,p2,isDay0,inR04,inR14,inR24,inR34,inR44, *])) (HB.out.trans (Below.mono (B:=wc.heap.size) Bw hs)))
       ·have y2:ot.toList.isEmpty=true:=z2
        have w2:ot.toList=[]:=by simpa using y2
        cases z3:noB pl
        ·have y3:pl.toList.isEmpty=false:=z3
         have w3: ¬pl.toList=[]:=by simpa using y3
         by_cases u1:nu=0
         ·skip
          by_cases u2:de=0
          ·skip
           by_cases l1:tl<=dy
           ·skip
            (go_wp2_with fail
             go_ret
             exact Ret.of (int_eq (by rw[HR.out];simp[checkRecP,p1,p2,isDay0,inR04,inR14,inR24,inR34,inR44, *])) (HB.out.trans (Below.mono (B:=wc.heap.size) Bw hs)))
           ·skip
            (go_wp2_with fail
             go_ret
             exact Ret.of (int_eq (by rw[HR.out];simp[checkRecP,p1,p2,isDay0,inR04,inR14,inR24,inR34,inR44, *])) (HB.out.trans (Below.mono (B:=wc.heap.size) Bw hs)))
          ·skip
           (go_wp2_with fail
            go_ret
            exact Ret.of (int_eq (by rw[HR.out];simp[checkRecP,p1,p2,isDay0,inR04,inR14,inR24,inR34,inR44, *])) (HB.out.trans (Below.mono (B:=wc.heap.size) Bw hs)))
         ·skip
          (go_wp2_with fail
           go_ret
           exact Ret.of (int_eq (by rw[HR.out];simp[checkRecP,p1,p2,isDay0,inR04,inR14,inR24,inR34,inR44, *])) (HB.out.trans (Below.mono (B:=wc.heap.size) Bw hs)))
        ·have y3:pl.toList.isEmpty=true:=z3
         have w3:pl.toList=[]:=by simpa using y3
         (go_wp2_with fail
          go_ret
          exact Ret.of (int_eq (by rw[HR.out];simp[checkRecP,p1,p2,isDay0,inR04,inR14,inR24,inR34,inR44, *])) (HB.out.trans (Below.mono (B:=wc.heap.size) Bw hs)))
     ·have y1:nm.toList.isEmpty=true:=z1
      have y1':nm.toList=[]:=by simpa using y1
      rcases hkk with rfl|rfl|rfl|rfl|rfl
      ·(go_wp2_with fail
        go_ret
        exact Ret.of (int_eq (by rw[HR.out];simp[checkRecP,p1,p2,isDay0,inR04,inR14,inR24,inR34,inR44, *])) (HB.out.trans (Below.mono (B:=wc.heap.size) Bw hs)))
      ·(go_wp2_with fail
        go_ret
        exact Ret.of (int_eq (by rw[HR.out];simp[checkRecP,p1,p2,isDay0,inR04,inR14,inR24,inR34,inR44, *])) (HB.out.trans (Below.mono (B:=wc.heap.size) Bw hs)))
      ·(go_wp2_with fail
        go_ret
        exact Ret.of (int_eq (by rw[HR.out];simp[checkRecP,p1,p2,isDay0,inR04,inR14,inR24,inR34,inR44, *])) (HB.out.trans (Below.mono (B:=wc.heap.size) Bw hs)))
      ·(go_wp2_with fail
        go_ret
        exact Ret.of (int_eq (by rw[HR.out];simp[checkRecP,p1,p2,isDay0,inR04,inR14,inR24,inR34,inR44, *])) (HB.out.trans (Below.mono (B:=wc.heap.size) Bw hs)))
      ·(go_wp2_with fail
        go_ret
        exact Ret.of (int_eq (by rw[HR.out];simp[checkRecP,p1,p2,isDay0,inR04,inR14,inR24,inR34,inR44, *])) (HB.out.trans (Below.mono (B:=wc.heap.size) Bw hs)))
   ·(go_wp2_with fail
     go_ret
     exact Ret.of (int_eq (by rw[HR.out];simp[checkRecP, *])) Bw)
end Go.Proofs.YtkhkhnellekofaaGreatDoor
