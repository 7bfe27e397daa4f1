import Derived.Test.YtbobmplpdmplkaaGreatDoorN3
import Derived.Test.YtbobmplpdmplkaaGreatDoorM0
import Derived.StillTail
set_option linter.all false
set_option maxRecDepth 100000
set_option maxHeartbeats 4000000
namespace Go.Proofs.YtbobmplpdmplkaaGreatDoor
attribute [local go_sem] World.cell?_alloc_mark zaf za4 zam za7 zaw zax zay zaz za0 za1 za2
section
open Go.RowKit
theorem zau{a b:ByteArray}:zae a b=true↔a=b:=by
 unfold zae;rw[beq_iff_eq,ByteArray.toList_eq,ByteArray.toList_eq];constructor
 ·intro h;exact ByteArray.ext (Array.ext' h)
 ·intro h;rw[h]
theorem zb8(a:ByteArray):zae a a=true:=zau.2 rfl
theorem zcn{a b:ByteArray}:zae a b=false↔a≠b:=by rw[<-Bool.not_eq_true,zau]
theorem zdV{l:List ByteArray}{n:ByteArray}:l.any (zae n)=true↔n∈l:=by
 rw[List.any_eq_true];constructor
 ·rintro⟨x,hx,h⟩;rw[zau.1 h];exact hx
 ·intro h;exact⟨n,h,zb8 n⟩
theorem zds{s:St}{n c:ByteArray}:c∈zai s n↔(n,c)∈s.children:=by
 unfold zai;rw[List.mem_map];constructor
 ·rintro⟨p,hp,rfl⟩;rw[List.mem_filter,zau]at hp;rw[<-hp.2];exact hp.1
 ·intro h;exact⟨(n,c),List.mem_filter.2 ⟨h,zb8 n⟩,rfl⟩
theorem zhU{s:St}{n:ByteArray}{out:ByteArray->Prop}(h0:∀c∈zai s n,out c)(h1:∀x,out x->∀c∈zai s x,out c){x:ByteArray}(h:Desc s n x):out x:=by
 unfold Desc at h;induction h with
 |single h=>exact h0 _ h
 |tail _ h ih=>exact h1 _ ih _ h
theorem zhV{s:St}{n x c:ByteArray}(h:Desc s n x)(hc:c∈zai s x):Desc s n c:=Relation.TransGen.tail h hc
theorem zfr{s:St}{n c:ByteArray}(hc:c∈zai s n):Desc s n c:=Relation.TransGen.single hc
theorem zgL{s:St}{a b c:ByteArray}(h:Desc s a b)(k:Desc s b c):Desc s a c:=by
 unfold Desc at*;induction k with
 |single h'=>exact Relation.TransGen.tail h h'
 |tail _ h' ih=>exact Relation.TransGen.tail ih h'
theorem zhW{s:St}{n x:ByteArray}(h0:zai s n=[]):¬Desc s n x:=fun h=>zhU (out:=fun _=>False) (by rw[h0];simp) (fun _ h=>h.elim) h
end
section
open Go.RowKit
open Go.ChangeMaps (setBlock)
theorem zjx:∀ {L:List MapEntry} {i:Nat} {e:MapEntry},L[i]?=some e->(L.map (·.born)).Nodup->L.filter (fun x=>!(x.born==e.born))=L.eraseIdx i
 | [],i,e,h,_=>by simp at h
 |x::L,0,e,h,hn=>by
  rw[List.map_cons,List.nodup_cons]at hn;simp only[List.getElem?_cons_zero,Option.some.injEq]at h;subst h;rw[List.filter_cons,if_neg (by simp),List.eraseIdx_cons_zero,List.filter_eq_self];intro y hy;have:y.born≠x.born:=fun e=>hn.1 (List.mem_map.2 ⟨y,hy,e⟩)
  simpa using this
 |x::L,i+1,e,h,hn=>by
  rw[List.map_cons,List.nodup_cons]at hn;simp only[List.getElem?_cons_succ]at h;have jP:x.born≠e.born:=fun e'=>hn.1 (by rw[e'];exact List.mem_map.2 ⟨e,List.mem_of_getElem? h,rfl⟩)
  rw[List.filter_cons,if_pos (by simpa using jP),List.eraseIdx_cons_succ,zjx h hn.2]
theorem zhX{α β:Type}(f:α->β):∀(l:List α) (i:Nat),(l.eraseIdx i).map f=(l.map f).eraseIdx i
 | [],_=>rfl
 |x::l,0=>rfl
 |x::l,i+1=>by
  rw[List.eraseIdx_cons_succ,List.map_cons,List.map_cons,List.eraseIdx_cons_succ,zhX f l i]
def MapS(w:World)(b:Nat){K V:Type}(ek:K->Value)(ev:V->Value)(m:List (K×V)):Prop:=
 ∃(es:Array MapEntry) (clock:Nat),w.heap[b]?=some (.map es clock)/\es.toList.map (fun e=>(e.key,e.val))=m.map (fun p=>(ek p.1,ev p.2))/\(∀e∈es.toList,e.born<clock)/\(es.toList.map (·.born)).Nodup
section
variable {P:Program} {t kt et:TypeId} {K V:Type} {ek:K->Value} {ev:V->Value} {z:V} {eq:K->K->Bool} {w:World} {b:Nat} {m:List (K×V)}
theorem MapS.at(h:MapS w b ek ev m):MapAt w b ek ev m:=by
 obtain⟨es,c,h1,h2,_,_⟩:=h;exact⟨es,c,h1,h2⟩
theorem MapS.keep{w':World}(h:MapS w b ek ev m)(hk:w'.heap[b]?=w.heap[b]?):MapS w' b ek ev m:=by
 obtain⟨es,c,h1,h2⟩:=h;exact⟨es,c,hk.trans h1,h2⟩
theorem MapS.below{w':World}{n:Nat}(h:MapS w b ek ev m)(hB:Below n w w')(hn:w.heap.size<=n:=by first|exact Nat.le_refl _|omega):MapS w' b ek ev m:=h.keep (hB.block b (Nat.lt_of_lt_of_le h.at.lt hn))
theorem MapS.grown{w':World}{row:Option Nat}(h:MapS w b ek ev m)(hg:w.grownBy w' row)(ai:some b≠row):MapS w' b ek ev m:=h.keep (hg.block b h.at.lt ai)
theorem MapS.new(w:World):MapS (w.alloc (.map #[] 0)) w.heap.size ek ev ([]:List (K×V)):=⟨#[],0,heap_alloc_new w _,rfl,by simp,by simp⟩
theorem zbY(T:MapTy P t kt et ek ev z eq)(h:MapS w b ek ev m)(k:K)(v:V):
 ∃w',(Instr.mapUpdate t (.map (some b)) (ek k) (ev v)).run P w=.ok () w'/\MapS w' b ek ev (mput eq k v m)/\w.grownBy w' (some b)/\w'.heap.size=w.heap.size:=by
 obtain⟨es,c,hh,hm,hb,hn⟩:=h;have h1:=T.hfind k es.toList m hm w;have ae:=(Array.getElem?_eq_some_iff.1 hh).1;have iz:∀es' c',((setObj b (.map es' c')).run P w)=.ok () {w with heap:=w.heap.setIfInBounds b (.map es' c')}:=fun es' c'=>by
  simp[setObj,Sem.run,hh]
 have dJ:∀es' c',w.grownBy {w with heap:=w.heap.setIfInBounds b (.map es' c')} (some b):=fun es' c'=>
  ⟨rfl,rfl,rfl,by simp,fun i hi ai=>by
    have:b≠i:=fun e=>ai (by rw[e])
    simp[Array.getElem?_setIfInBounds,this]⟩
 cases hl:locate eq k m 0 with
 |none=>
  refine⟨_,?_,?_,dJ (es.push {key:=ek k,val:=ev v,born:=c}) (c+1),by simp⟩
  ·simp[Instr.mapUpdate,run_underlying T.ht,zb4 hh,T.hck,h1,hl,iz]
  ·refine⟨es.push {key:=ek k,val:=ev v,born:=c},c+1,by simp[Array.getElem?_setIfInBounds,ae],?_,?_,?_⟩
   ·rw[zey hl];simp[hm]
   ·intro e he;rw[Array.toList_push]at he;rcases List.mem_append.1 he with he|he
    ·have:=hb e he;omega
    ·rw[List.mem_singleton.1 he];exact Nat.lt_succ_self c
   ·rw[Array.toList_push,List.map_append,List.nodup_append];refine⟨hn,by simp,?_⟩;intro x hx y hy;obtain⟨e,he,rfl⟩:=List.mem_map.1 hx;simp only[List.map_cons,List.map_nil,List.mem_singleton]at hy;have:=hb e he;omega
 |some p=>
  obtain⟨j,u⟩:=p;obtain⟨_,q,hq,he,eY⟩:=zdG hl;simp only[Nat.sub_zero]at hq eY;have hj:j<m.length:=(List.getElem?_eq_some_iff.1 hq).1;have ag:es.toList.length=m.length:=by simpa using congrArg List.length hm
  have cA:j<es.size:=by
   have h0:es.size=m.length:=by simpa using ag
   omega
  have mH:(es[j]).key=ek q.1:=by
   have:=congrArg (fun l=>l[j]?) hm;simp[List.getElem?_map,hq,cA]at this;exact this.1
  have cw:(es.modify j fun e=> {e with key:=ek k,val:=ev v}).toList.map (·.born)=es.toList.map (·.born):=by
   apply List.ext_getElem?;intro i;simp only[List.getElem?_map,Array.getElem?_toList,Array.getElem?_modify];by_cases cU:j=i
   ·subst cU;simp[cA,Array.getElem?_eq_getElem cA]
   ·simp[cU]
  refine⟨_,?_,?_,dJ (es.modify j fun e=> {e with key:=ek k,val:=ev v}) c,by simp⟩
  ·simp[Instr.mapUpdate,run_underlying T.ht,zb4 hh,T.hck,h1,hl,Instr.keyThatStays,Array.getElem?_eq_getElem cA,mH,T.hsame _ _ he,iz]
  ·refine⟨es.modify j fun e=> {e with key:=ek k,val:=ev v},c,by simp[Array.getElem?_setIfInBounds,ae],?_,?_,by rw[cw];exact hn⟩
   ·rw[eY];apply List.ext_getElem?;intro i;have fG:=congrArg (fun l=>l[i]?) hm;simp only[List.getElem?_map,Array.getElem?_toList]at fG;simp only[List.getElem?_map,Array.getElem?_toList,Array.getElem?_modify,List.getElem?_set];by_cases cU:j=i
    ·subst cU;simp[cA,hj,Array.getElem?_eq_getElem cA]
    ·simp[cU,fG]
   ·intro e he;have h2:e.born∈(es.modify j fun e=> {e with key:=ek k,val:=ev v}).toList.map (·.born):=List.mem_map.2 ⟨e,he,rfl⟩;rw[cw]at h2;obtain⟨e',my,jh⟩:=List.mem_map.1 h2;rw[<-jh];exact hb e' my
def RangeAt(w:World)(b r:Nat){K V:Type}(ek:K->Value)(ev:V->Value)(m left:List (K×V)):Prop:=
 ∃(es:Array MapEntry) (clock since:Nat) (seen:Array Nat) (c0:Nat),w.heap[b]?=some (.map es clock)/\es.toList.map (fun e=>(e.key,e.val))=m.map (fun p=>(ek p.1,ev p.2))/\(∀e∈es.toList,e.born<since)/\(es.toList.map (·.born)).Nodup/\
  w.heap[r]?=some (.mapIter (some b) since seen c0)/\since<=c0/\since<=clock/\(leftOf es seen).toList.map (fun e=>(e.key,e.val))=left.map (fun p=>(ek p.1,ev p.2))
theorem RangeAt.mapS{r:Nat}{left:List (K×V)}(h:RangeAt w b r ek ev m left):MapS w b ek ev m:=by
 obtain⟨es,clock,since,seen,c0,h1,h2,h3,h4,_,_,h7,_⟩:=h;exact⟨es,clock,h1,h2,fun e he=>Nat.lt_of_lt_of_le (h3 e he) h7,h4⟩
theorem RangeAt.lt{r:Nat}{left:List (K×V)}(h:RangeAt w b r ek ev m left):r<w.heap.size/\b≠r:=by
 obtain⟨es,clock,since,seen,c0,h1,_,_,_,h5,_⟩:=h;refine⟨(Array.getElem?_eq_some_iff.1 h5).1,fun e=>?_⟩;rw[e,h5]at h1;cases h1
theorem RangeAt.grown{w':World}{row:Option Nat}{r:Nat}{left:List (K×V)}(h:RangeAt w b r ek ev m left)(hg:w.grownBy w' row)(hb:some b≠row)(hr:some r≠row):RangeAt w' b r ek ev m left:=by
 have h1:=h.mapS.at.lt;have h2:=h.lt.1;obtain⟨es,clock,since,seen,c0,k1,k2,k3,k4,k5,rest⟩:=h;exact⟨es,clock,since,seen,c0,(hg.block b h1 hb).trans k1,k2,k3,k4,(hg.block r h2 hr).trans k5,rest⟩
theorem RangeAt.below{w':World}{n r:Nat}{left:List (K×V)}(h:RangeAt w b r ek ev m left)(hB:Below n w w')(hn:w.heap.size<=n:=by first|exact Nat.le_refl _|omega):RangeAt w' b r ek ev m left:=by
 have h1:=h.mapS.at.lt;have h2:=h.lt.1;obtain⟨es,clock,since,seen,c0,k1,k2,k3,k4,k5,rest⟩:=h;exact⟨es,clock,since,seen,c0,(hB.block b (Nat.lt_of_lt_of_le h1 hn)).trans k1,k2,k3,k4,(hB.block r (Nat.lt_of_lt_of_le h2 hn)).trans k5,rest⟩
theorem zfs(h:MapS w b ek ev m){e:TypeId}(ht:P.underlying t=some (.map kt e)):
 (Instr.range t (.map (some b))).run P w=.ok (.pointer (some ⟨w.heap.size,0,none⟩)) (w.alloc (.mapIter (some b) (h.choose_spec.choose) #[] (h.choose_spec.choose)))/\
   RangeAt (w.alloc (.mapIter (some b) (h.choose_spec.choose) #[] (h.choose_spec.choose))) b w.heap.size ek ev m m:=by
 have hs:=h.choose_spec.choose_spec;generalize h.choose_spec.choose=c at*;generalize h.choose=es at*;obtain⟨h1,h2,h3,h4⟩:=hs;refine⟨run_range_map w t kt e b es c ht h1,es,c,c,#[],c,(Below.heap_alloc w _ b (Array.getElem?_eq_some_iff.1 h1).1).trans h1,h2,h3,h4,heap_alloc_new w _,Nat.le_refl _,Nat.le_refl _,?_⟩;rw[<-h2];congr 1
 simp[leftOf]
theorem zgb{r:Nat}{left:List (K×V)}(h:RangeAt w b r ek ev m left)(ty:TypeId):
 (left=[]/\(Instr.next (.pointer (some ⟨r,0,none⟩)) false ty).run P w=.ok (.tuple #[.bool false]) w)\/
 ∃(i:Nat) (p:K×V) (w':World),left[i]?=some p/\(Instr.next (.pointer (some ⟨r,0,none⟩)) false ty).run P w=.ok (.tuple #[.bool true,ek p.1,ev p.2]) w'/\RangeAt w' b r ek ev m (left.eraseIdx i)/\w.grownBy w' (some r)/\w'.heap.size=w.heap.size/\
  (Instr.entry (.pointer (some ⟨r,0,none⟩))).run P w'=.ok (.tuple #[ek p.1,ev p.2]) w':=by
 have zM:=h.lt.2;obtain⟨es,clock,since,seen,c0,k1,k2,k3,k4,k5,k6,k7,k8⟩:=h;rcases run_next_at (P:=P) w ty r b since c0 seen es clock k5 k1 k3 k6 with⟨h0,hrun⟩|⟨e,he,w1,jz,hrun⟩
 ·refine .inl ⟨?_,hrun⟩;have hl:(leftOf es seen).toList.length=left.length:=by simpa using congrArg List.length k8
  rw[Array.length_toList,h0]at hl;exact List.eq_nil_of_length_eq_zero hl.symm
 ·refine .inr ?_;obtain⟨i,hi,zX⟩:=List.mem_iff_getElem.1 he;have hl:(leftOf es seen).toList.length=left.length:=by simpa using congrArg List.length k8
  have eV:i<left.length:=by omega
  have oL:(e.key,e.val)=(ek (left[i]).1,ev (left[i]).2):=by
   have:=congrArg (fun l=>l[i]?) k8;simp only[List.getElem?_map,List.getElem?_eq_getElem hi,List.getElem?_eq_getElem eV,Option.map_some,Option.some.injEq,zX]at this;exact this
  simp only[Prod.mk.injEq]at oL;have jo:e∈es.toList:=by
   unfold leftOf at he;simp at he⊢;exact he.1
  have aS:(setBlock w1 r (.mapIter (some b) since (seen.push e.born) clock)).heap[b]?=some (.map es clock):=by
   rcases jz with rfl|rfl<;>(simp only[setBlock];rw[Array.getElem?_setIfInBounds_ne (fun e=>zM e.symm)];exact k1)
  have Dj:=(Array.getElem?_eq_some_iff.1 k5).1;have fH:(setBlock w1 r (.mapIter (some b) since (seen.push e.born) clock)).heap[r]?=some (.mapIter (some b) since (seen.push e.born) clock):=by
   rcases jz with rfl|rfl<;>(simp only[setBlock];exact Array.getElem?_setIfInBounds_self_of_lt Dj)
  refine⟨i,left[i],_,List.getElem?_eq_getElem eV,by rw[<-oL.1,<-oL.2];exact hrun,⟨es,clock,since,seen.push e.born,clock,aS,k2,k3,k4,fH,k7,k7,?_⟩,?_,?_,?_⟩
  ·
   have hn:((leftOf es seen).toList.map (·.born)).Nodup:=by
    unfold leftOf;rw[Array.toList_filter];exact List.Nodup.sublist (List.Sublist.map _ List.filter_sublist) k4
   have e1:(leftOf es (seen.push e.born)).toList=(leftOf es seen).toList.eraseIdx i:=by
    have e2:(leftOf es (seen.push e.born)).toList=(leftOf es seen).toList.filter fun x=>!(x.born==e.born):=by
     unfold leftOf;rw[Array.toList_filter,Array.toList_filter,List.filter_filter];congr 1
     funext x
     rw[Bool.eq_iff_iff];simp[Array.contains_push,and_comm]
    rw[e2];exact zjx (by rw[List.getElem?_eq_getElem hi,zX]) hn
   rw[e1,zhX,k8,zhX]
  ·rcases jz with rfl|rfl
   ·exact⟨rfl,rfl,rfl,by simp[setBlock],fun k hk ai=>by simp only[setBlock];rw[Array.getElem?_setIfInBounds_ne (fun e=>ai (by rw[e]))]⟩
   ·exact⟨rfl,rfl,rfl,by simp[setBlock],fun k hk ai=>by simp only[setBlock];rw[Array.getElem?_setIfInBounds_ne (fun e=>ai (by rw[e]))];rfl⟩
  ·rcases jz with rfl|rfl<;>simp[setBlock]
  ·rw[<-oL.1,<-oL.2];exact run_entry_at (P:=P) _ r b since seen es clock e fH aS jo k4
end
end
section
section
variable {P:Program} {t kt et:TypeId} {K:Type} {ek:K->Value} {z:Value} {eq:K->K->Bool} {w:World} {b:Nat} {m:List (K×Value)}
def StampAt(w:World)(b:Nat){K:Type}(ek:K->Value)(m:List (K×Value))(j st:Nat):Prop:=
 ∃es c,w.heap[b]?=some (.map es c)/\es.toList.map (fun e=>(e.key,e.val))=m.map (fun p=>(ek p.1,p.2))/\(∀e∈es.toList,e.born<c)/\(es.toList.map (·.born)).Nodup/\(es[j]?).map (·.born)=some st
theorem zgc(w:World)(b:Nat)(o:Obj):w.grownBy {w with heap:=w.heap.setIfInBounds b o} (some b):=
 ⟨rfl,rfl,rfl,by simp,fun i hi ai=>by
   have:b≠i:=fun e=>ai (by rw[e])
   simp[Array.getElem?_setIfInBounds,this]⟩
theorem zei{w:World}{b:Nat}{es es':Array MapEntry}{c c':Nat}(h:w.heap[b]?=some (.map es c)):((setObj b (.map es' c')).run P w)=.ok () {w with heap:=w.heap.setIfInBounds b (.map es' c')}:=by
 simp[setObj,Sem.run,h]
theorem zgd(T:MapTy P t kt et ek (fun v:Value=>v) z eq)(h:MapS w b ek (fun v:Value=>v) m)(k:K):
 ∃w' x st m' j,(Instr.mapEntry t (.map (some b)) (ek k)).run P w=.ok (.tuple #[x,.int .i64 (st:Nat)]) w'/\StampAt w' b ek m' j st/\(∀v,m'.set j (k,v)=mput eq k v m)/\(m'[j]?).map (·.1)=some k/\w.grownBy w' (some b)/\w'.heap.size=w.heap.size:=by
 obtain⟨es,c,hh,hm,hb,hn⟩:=h;have h1:=T.hfind k es.toList m hm w;have ae:=(Array.getElem?_eq_some_iff.1 hh).1;cases hl:locate eq k m 0 with
 |none=>
  refine⟨_,z,c,m++[(k,z)],m.length,?_,?_,?_,by simp,zgc w b (.map (es.push {key:=ek k,val:=z,born:=c}) (c+1)),by simp⟩
  ·simp[Instr.mapEntry,run_underlying T.ht,zb4 hh,T.hck,h1,hl,T.hz,zei hh,Result.andThen];rfl
  ·refine⟨es.push {key:=ek k,val:=z,born:=c},c+1,by simp[Array.getElem?_setIfInBounds,ae],?_,?_,?_,?_⟩
   ·simp[hm]
   ·intro e he;rw[Array.toList_push]at he;rcases List.mem_append.1 he with he|he
    ·have:=hb e he;omega
    ·rw[List.mem_singleton.1 he];exact Nat.lt_succ_self c
   ·rw[Array.toList_push,List.map_append,List.nodup_append];refine⟨hn,by simp,?_⟩;intro x hx y hy;obtain⟨e,he,rfl⟩:=List.mem_map.1 hx;simp only[List.map_cons,List.map_nil,List.mem_singleton]at hy;have:=hb e he;omega
   ·have ag:es.size=m.length:=by simpa using congrArg List.length hm
    rw[<-ag];simp
  ·intro v;rw[zey hl,List.set_append_right _ _ (Nat.le_refl _)];simp
 |some p=>
  obtain⟨j,u⟩:=p;obtain⟨_,q,hq,he,eY⟩:=zdG hl;simp only[Nat.sub_zero]at hq eY;have hj:j<m.length:=(List.getElem?_eq_some_iff.1 hq).1;have ag:es.size=m.length:=by simpa using congrArg List.length hm
  have cA:j<es.size:=by omega
  have mH:(es[j]).key=ek q.1:=by
   have:=congrArg (fun l=>l[j]?) hm;simp[List.getElem?_map,hq,cA]at this;exact this.1
  have fJ:(es[j]).val=q.2:=by
   have:=congrArg (fun l=>l[j]?) hm;simp[List.getElem?_map,hq,cA]at this;exact this.2
  have cw:(es.modify j fun e=> {e with key:=ek k}).toList.map (·.born)=es.toList.map (·.born):=by
   apply List.ext_getElem?;intro i;simp only[List.getElem?_map,Array.getElem?_toList,Array.getElem?_modify];by_cases cU:j=i
   ·subst cU;simp[cA,Array.getElem?_eq_getElem cA]
   ·simp[cU]
  refine⟨_,u,(es[j]).born,m.set j (k,q.2),j,?_,?_,?_,by simp[hj],zgc w b (.map (es.modify j fun e=> {e with key:=ek k}) c),by simp⟩
  ·simp[Instr.mapEntry,run_underlying T.ht,zb4 hh,T.hck,h1,hl,Instr.keyThatStays,Array.getElem?_eq_getElem cA,mH,T.hsame _ _ he,zei hh,Result.andThen];rfl
  ·refine⟨es.modify j fun e=> {e with key:=ek k},c,by simp[Array.getElem?_setIfInBounds,ae],?_,?_,by rw[cw];exact hn,?_⟩
   ·apply List.ext_getElem?;intro i;have fG:=congrArg (fun l=>l[i]?) hm;simp only[List.getElem?_map,Array.getElem?_toList]at fG;simp only[List.getElem?_map,Array.getElem?_toList,Array.getElem?_modify,List.getElem?_set];by_cases cU:j=i
    ·subst cU;simp[cA,hj,Array.getElem?_eq_getElem cA,fJ]
    ·simp[cU,fG]
   ·intro e he;have h2:e.born∈(es.modify j fun e=> {e with key:=ek k}).toList.map (·.born):=List.mem_map.2 ⟨e,he,rfl⟩;rw[cw]at h2;obtain⟨e',my,jh⟩:=List.mem_map.1 h2;rw[<-jh];exact hb e' my
   ·simp[Array.getElem?_modify,Array.getElem?_eq_getElem cA]
  ·intro v;rw[eY,List.set_set]
theorem zdK{j st:Nat}{k:K}(h:StampAt w b ek m j st)(hk:(m[j]?).map (·.1)=some k)(t:TypeId)(v:Value):
 ∃w',(Instr.entryStore t (.map (some b)) (.int .i64 (st:Nat)) v).run P w=.ok () w'/\MapS w' b ek (fun v:Value=>v) (m.set j (k,v))/\w.grownBy w' (some b)/\w'.heap.size=w.heap.size:=by
 obtain⟨es,c,hh,hm,hb,hn,aq⟩:=h;have ae:=(Array.getElem?_eq_some_iff.1 hh).1;have ag:es.size=m.length:=by simpa using congrArg List.length hm
 have cA:j<es.size:=by
  by_cases h:j<es.size
  ·exact h
  ·rw[Array.getElem?_eq_none (by omega)]at aq;cases aq
 have hj:j<m.length:=by omega
 rw[Array.getElem?_eq_getElem cA]at aq;simp only[Option.map_some,Option.some.injEq]at aq;have zR:es.findIdx? (fun e=>(e.born:Int)==(st:Int))=some j:=by
  rw[Array.findIdx?_eq_some_iff_getElem];refine⟨cA,by simp[aq],fun i hi h=>?_⟩;have zX:i<es.size:=by omega
  have h3:es[i].born=es[j].born:=by
   rw[aq];simp only[beq_iff_eq]at h;exact Int.ofNat_inj.1 h
  have h4:=(List.nodup_iff_pairwise_ne.1 hn)
  rw[List.pairwise_iff_getElem]at h4;have:=h4 i j (by simpa using zX) (by simpa using cA) hi;simp at this;exact this h3
 have cw:(es.modify j fun e=> {e with val:=v}).toList.map (·.born)=es.toList.map (·.born):=by
  apply List.ext_getElem?;intro i;simp only[List.getElem?_map,Array.getElem?_toList,Array.getElem?_modify];by_cases cU:j=i
  ·subst cU;simp[cA,Array.getElem?_eq_getElem cA]
  ·simp[cU]
 refine⟨_,?_,?_,zgc w b (.map (es.modify j fun e=> {e with val:=v}) c),by simp⟩
 ·simp[Instr.entryStore,zb4 hh,asInt,asIntOf,zR,zei hh,Result.andThen]
 ·refine⟨es.modify j fun e=> {e with val:=v},c,by simp[Array.getElem?_setIfInBounds,ae],?_,?_,by rw[cw];exact hn⟩
  ·apply List.ext_getElem?;intro i;have fG:=congrArg (fun l=>l[i]?) hm;simp only[List.getElem?_map,Array.getElem?_toList]at fG;simp only[List.getElem?_map,Array.getElem?_toList,Array.getElem?_modify,List.getElem?_set];by_cases cU:j=i
   ·subst cU;rw[List.getElem?_eq_getElem hj]at hk fG;simp only[Option.map_some,Option.some.injEq]at hk;simp[cA,hj,Array.getElem?_eq_getElem cA,hk]at fG⊢;exact fG.1
   ·simp[cU,fG]
  ·intro e he;have h2:e.born∈(es.modify j fun e=> {e with val:=v}).toList.map (·.born):=List.mem_map.2 ⟨e,he,rfl⟩;rw[cw]at h2;obtain⟨e',my,jh⟩:=List.mem_map.1 h2;rw[<-jh];exact hb e' my
end
end
section
open Go.RowKit
def ofP(l:List Rec)(set:List Nat):List Rec:=set.filterMap fun i=>l[i]?
def zcV(n set:Nat):List Nat:=(List.range n).filter fun i=>set.testBit i
end
section
open Go.RowKit
theorem zct(n lo hi:Int)(w:World):
 Calls Tryz.prog 72 #[.int .i64 n,.int .i64 lo,.int .i64 hi] w (Ret0 w (.bool (inR n lo hi))):=by
 go_enter Tryz.func72,Tryz.ntmps72
 go_wp2
 all_goals go_ret
 all_goals(refine⟨?_,rfl⟩;simp[inR, *])
 omega
theorem zjy(n:Int)(w:World):Calls Tryz.prog 70 #[.int .u8 n] w (Ret0 w (.bool (zcX n))):=by
 go_enter Tryz.func70,Tryz.ntmps70
 go_wp2
 all_goals go_ret
 all_goals refine⟨?_,rfl⟩
 all_goals refine zn1 ?_
 all_goals go_tidy
 all_goals simp[zcX]
 all_goals omega
theorem zkT(n:Int)(w:World):Calls Tryz.prog 71 #[.int .u8 n] w (Ret0 w (.bool (zkQ n))):=by
 go_enter Tryz.func71,Tryz.ntmps71
 go_wp2
 all_goals go_ret
 all_goals refine⟨?_,rfl⟩
 all_goals refine zn1 ?_
 all_goals go_tidy
 all_goals simp[zkQ]
 all_goals omega
end
section
variable {P:Program} {ops:Array Oper} {md:Region.Mode} {C:World->Prop}
end
