import Derived.Shelf.SlicesQ.IndexFunc
import Derived.Shelf.SlicesE.IndexFunc
import Derived.Test.YthhgkjfgpkbliaaGreatDoorJ1
import Derived.Shelf.Small.Strs
import Derived.Shelf.SlicesE.Clone
import Derived.Shelf.SlicesE.Index
import Derived.Shelf.SlicesQ.Contains
import Derived.Shelf.Spec.TrailingZeros
set_option linter.all false
set_option maxRecDepth 100000
set_option maxHeartbeats 4000000
namespace Go.Proofs.YthhgkjfgpkbliaaGreatDoor
open Go.RowKit
section
open Go.Shelf
def zme:Go.Shelf.Ren:=⟨fun|8=>93|6=>118|n=>n,fun|22=>26|23=>59|25=>138|4=>4|3=>3|0=>0|n=>n,fun|n=>n⟩
theorem cfPart:Go.Proofs.SlLaysH0.n8 Tryz.prog zme:= {
 mixed:=by kernel_rfl
 f6:=⟨Tryz.f118.name,by decide,Tryz.func118.trans (congrArg some (by kernel_rfl))⟩
 f8:=⟨Tryz.f93.name,by decide,Tryz.func93.trans (congrArg some (by kernel_rfl))⟩
 t0:=Tryz.underlying0
 a0:=Tryz.isAgg0
 z0:=Tryz.sizeOf0
 v0:=Tryz.zeroValue0
 t3:=Tryz.underlying3
 a3:=Tryz.isAgg3
 z3:=Tryz.sizeOf3
 v3:=Tryz.zeroValue3
 t4:=Tryz.underlying4
 a4:=Tryz.isAgg4
 z4:=Tryz.sizeOf4
 v4:=Tryz.zeroValue4
 t22:=Tryz.underlying26
 a22:=Tryz.isAgg26
 z22:=Tryz.sizeOf26
 v22:=Tryz.zeroValue26
 t25:=Tryz.underlying138
 a25:=Tryz.isAgg138
 z25:=Tryz.sizeOf138
 v25:=Tryz.zeroValue138}
def cfRec_ren:Go.Shelf.Ren:=⟨fun|8=>168|6=>218|n=>n,fun|22=>124|23=>123|25=>212|4=>4|3=>3|0=>0|n=>n,fun|n=>n⟩
theorem cfRec:Go.Proofs.SlLaysH0.n8 Tryz.prog cfRec_ren:= {
 mixed:=by kernel_rfl
 f6:=⟨Tryz.f218.name,by decide,Tryz.func218.trans (congrArg some (by kernel_rfl))⟩
 f8:=⟨Tryz.f168.name,by decide,Tryz.func168.trans (congrArg some (by kernel_rfl))⟩
 t0:=Tryz.underlying0
 a0:=Tryz.isAgg0
 z0:=Tryz.sizeOf0
 v0:=Tryz.zeroValue0
 t3:=Tryz.underlying3
 a3:=Tryz.isAgg3
 z3:=Tryz.sizeOf3
 v3:=Tryz.zeroValue3
 t4:=Tryz.underlying4
 a4:=Tryz.isAgg4
 z4:=Tryz.sizeOf4
 v4:=Tryz.zeroValue4
 t22:=Tryz.underlying124
 a22:=Tryz.isAgg124
 z22:=Tryz.sizeOf124
 v22:=Tryz.zeroValue124
 t25:=Tryz.underlying212
 a25:=Tryz.isAgg212
 z25:=Tryz.sizeOf212
 v25:=Tryz.zeroValue212}
def zmf:Go.Shelf.Ren:=⟨fun|106=>209|213=>234|265=>255|n=>n,fun|9=>9|3=>3|n=>n,fun|n=>n⟩
theorem cmpStr:Go.Proofs.Lays.n106 Tryz.prog zmf:= {
 mixed:=by kernel_rfl
 f106:=Tryz.func209.trans (congrArg some (by kernel_rfl))
 f213:=Tryz.func234.trans (congrArg some (by kernel_rfl))
 f265:=Tryz.func255.trans (congrArg some (by kernel_rfl))
 t3:=Tryz.underlying3
 a3:=Tryz.isAgg3
 z3:=Tryz.sizeOf3
 v3:=Tryz.zeroValue3
 t9:=Tryz.underlying9
 a9:=Tryz.isAgg9
 z9:=Tryz.sizeOf9
 v9:=Tryz.zeroValue9}
def coStr_ren:Go.Shelf.Ren:=⟨fun|31=>66|29=>117|n=>n,fun|22=>32|23=>9|4=>4|3=>3|0=>0|n=>n,fun|n=>n⟩
theorem coStr:Go.Proofs.SlLaysE.n31 Tryz.prog coStr_ren:= {
 mixed:=by kernel_rfl
 f29:=⟨Tryz.f117.name,by decide,Tryz.func117.trans (congrArg some (by kernel_rfl))⟩
 f31:=⟨Tryz.f66.name,by decide,Tryz.func66.trans (congrArg some (by kernel_rfl))⟩
 t0:=Tryz.underlying0
 a0:=Tryz.isAgg0
 z0:=Tryz.sizeOf0
 v0:=Tryz.zeroValue0
 t3:=Tryz.underlying3
 a3:=Tryz.isAgg3
 z3:=Tryz.sizeOf3
 v3:=Tryz.zeroValue3
 t4:=Tryz.underlying4
 a4:=Tryz.isAgg4
 z4:=Tryz.sizeOf4
 v4:=Tryz.zeroValue4
 t22:=Tryz.underlying32
 a22:=Tryz.isAgg32
 z22:=Tryz.sizeOf32
 v22:=Tryz.zeroValue32
 a23:=Tryz.isAgg9
 z23:=Tryz.sizeOf9}
def zmg:Go.Shelf.Ren:=⟨fun|7=>115|6=>174|n=>n,fun|22=>31|24=>171|4=>4|0=>0|3=>3|n=>n,fun|n=>n⟩
theorem coPair:Go.Proofs.SlLaysQ.n7 Tryz.prog zmg:= {
 mixed:=by kernel_rfl
 f6:=⟨Tryz.f174.name,by decide,Tryz.func174.trans (congrArg some (by kernel_rfl))⟩
 f7:=⟨Tryz.f115.name,by decide,Tryz.func115.trans (congrArg some (by kernel_rfl))⟩
 t0:=Tryz.underlying0
 a0:=Tryz.isAgg0
 z0:=Tryz.sizeOf0
 v0:=Tryz.zeroValue0
 t3:=Tryz.underlying3
 a3:=Tryz.isAgg3
 z3:=Tryz.sizeOf3
 v3:=Tryz.zeroValue3
 t4:=Tryz.underlying4
 a4:=Tryz.isAgg4
 z4:=Tryz.sizeOf4
 v4:=Tryz.zeroValue4
 t22:=Tryz.underlying31
 a22:=Tryz.isAgg31
 z22:=Tryz.sizeOf31
 v22:=Tryz.zeroValue31}
def zmh:Go.Shelf.Ren:=⟨fun|27=>167|28=>216|29=>217|n=>n,fun|25=>162|3=>3|27=>206|22=>208|4=>4|53=>265|0=>0|5=>5|54=>266|n=>n,fun|0=>2|1=>3|n=>n⟩
theorem tzBits:Go.Proofs.Lays7.n27 Tryz.prog zmh:= {
 mixed:=by kernel_rfl
 f27:=Tryz.func167.trans (congrArg some (by kernel_rfl))
 f28:=Tryz.func216.trans (congrArg some (by kernel_rfl))
 f29:=Tryz.func217.trans (congrArg some (by kernel_rfl))
 t0:=Tryz.underlying0
 a0:=Tryz.isAgg0
 z0:=Tryz.sizeOf0
 v0:=Tryz.zeroValue0
 i0:=by kernel_rfl
 t3:=Tryz.underlying3
 a3:=Tryz.isAgg3
 z3:=Tryz.sizeOf3
 v3:=Tryz.zeroValue3
 i3:=by kernel_rfl
 t4:=Tryz.underlying4
 a4:=Tryz.isAgg4
 z4:=Tryz.sizeOf4
 v4:=Tryz.zeroValue4
 i4:=by kernel_rfl
 t5:=Tryz.underlying5
 a5:=Tryz.isAgg5
 z5:=Tryz.sizeOf5
 v5:=Tryz.zeroValue5
 i5:=by kernel_rfl
 t22:=Tryz.underlying208
 a22:=Tryz.isAgg208
 z22:=Tryz.sizeOf208
 v22:=Tryz.zeroValue208
 i22:=by kernel_rfl
 t25:=Tryz.underlying162
 a25:=Tryz.isAgg162
 z25:=Tryz.sizeOf162
 v25:=Tryz.zeroValue162
 i25:=by kernel_rfl
 t27:=Tryz.underlying206
 a27:=Tryz.isAgg206
 z27:=Tryz.sizeOf206
 v27:=Tryz.zeroValue206
 i27:=by kernel_rfl
 t53:=Tryz.underlying265
 a53:=Tryz.isAgg265
 z53:=Tryz.sizeOf265
 v53:=Tryz.zeroValue265
 i53:=by kernel_rfl
 t54:=Tryz.underlying266
 a54:=Tryz.isAgg266
 z54:=Tryz.sizeOf266
 g0:=by kernel_rfl
 g1:=by kernel_rfl}
end
theorem zak{a b:ByteArray}:zag a b=true↔a=b:=by
 unfold zag;rw[beq_iff_eq,ByteArray.toList_eq,ByteArray.toList_eq];constructor
 ·intro h;exact ByteArray.ext (Array.ext' h)
 ·intro h;rw[h]
theorem zbk(a:ByteArray):zag a a=true:=zak.2 rfl
theorem zb5{a b:ByteArray}:zag a b=false↔a≠b:=by rw[<-Bool.not_eq_true,zak]
theorem zgr{l:List ByteArray}{n:ByteArray}:l.any (zag n)=true↔n∈l:=by
 rw[List.any_eq_true];constructor
 ·rintro⟨x,hx,h⟩;rw[zak.1 h];exact hx
 ·intro h;exact⟨n,h,zbk n⟩
theorem zcJ{s:St}{n c:ByteArray}:c∈zaf s n↔(n,c)∈s.children:=by
 unfold zaf;rw[List.mem_map];constructor
 ·rintro⟨p,hp,rfl⟩;rw[List.mem_filter,zak]at hp;rw[<-hp.2];exact hp.1
 ·intro h;exact⟨(n,c),List.mem_filter.2 ⟨h,zbk n⟩,rfl⟩
theorem zgH{s:St}{n:ByteArray}{out:ByteArray->Prop}(h0:∀c∈zaf s n,out c)(h1:∀x,out x->∀c∈zaf s x,out c){x:ByteArray}(h:Desc s n x):out x:=by
 unfold Desc at h;induction h with
 |single h=>exact h0 _ h
 |tail _ h ih=>exact h1 _ ih _ h
theorem zgI{s:St}{n x c:ByteArray}(h:Desc s n x)(hc:c∈zaf s x):Desc s n c:=Relation.TransGen.tail h hc
theorem zew{s:St}{n c:ByteArray}(hc:c∈zaf s n):Desc s n c:=Relation.TransGen.single hc
theorem zfB{s:St}{a b c:ByteArray}(h:Desc s a b)(k:Desc s b c):Desc s a c:=by
 unfold Desc at*;induction k with
 |single h'=>exact Relation.TransGen.tail h h'
 |tail _ h' ih=>exact Relation.TransGen.tail ih h'
theorem zgJ{s:St}{n x:ByteArray}(h0:zaf s n=[]):¬Desc s n x:=fun h=>zgH (out:=fun _=>False) (by rw[h0];simp) (fun _ h=>h.elim) h
open Go.ChangeMaps (setBlock)
theorem zhW:∀ {L:List MapEntry} {i:Nat} {e:MapEntry},L[i]?=some e->(L.map (·.born)).Nodup->L.filter (fun x=>!(x.born==e.born))=L.eraseIdx i
 | [],i,e,h,_=>by simp at h
 |x::L,0,e,h,hn=>by
  rw[List.map_cons,List.nodup_cons]at hn;simp only[List.getElem?_cons_zero,Option.some.injEq]at h;subst h;rw[List.filter_cons,if_neg (by simp),List.eraseIdx_cons_zero,List.filter_eq_self];intro y hy;have:y.born≠x.born:=fun e=>hn.1 (List.mem_map.2 ⟨y,hy,e⟩)
  simpa using this
 |x::L,i+1,e,h,hn=>by
  rw[List.map_cons,List.nodup_cons]at hn;simp only[List.getElem?_cons_succ]at h;have jf:x.born≠e.born:=fun e'=>hn.1 (by rw[e'];exact List.mem_map.2 ⟨e,List.mem_of_getElem? h,rfl⟩)
  rw[List.filter_cons,if_pos (by simpa using jf),List.eraseIdx_cons_succ,zhW h hn.2]
theorem zgK{α β:Type}(f:α->β):∀(l:List α) (i:Nat),(l.eraseIdx i).map f=(l.map f).eraseIdx i
 | [],_=>rfl
 |x::l,0=>rfl
 |x::l,i+1=>by
  rw[List.eraseIdx_cons_succ,List.map_cons,List.map_cons,List.eraseIdx_cons_succ,zgK f l i]
def MapS(w:World)(b:Nat){K V:Type}(ek:K->Value)(ev:V->Value)(m:List (K×V)):Prop:=
 ∃(es:Array MapEntry) (clock:Nat),w.heap[b]?=some (.map es clock)/\es.toList.map (fun e=>(e.key,e.val))=m.map (fun p=>(ek p.1,ev p.2))/\(∀e∈es.toList,e.born<clock)/\(es.toList.map (·.born)).Nodup
section
variable {P:Program} {t kt et:TypeId} {K V:Type} {ek:K->Value} {ev:V->Value} {z:V} {eq:K->K->Bool} {w:World} {b:Nat} {m:List (K×V)}
theorem MapS.at(h:MapS w b ek ev m):MapAt w b ek ev m:=by
 obtain⟨es,c,h1,h2,_,_⟩:=h;exact⟨es,c,h1,h2⟩
theorem MapS.keep{w':World}(h:MapS w b ek ev m)(hk:w'.heap[b]?=w.heap[b]?):MapS w' b ek ev m:=by
 obtain⟨es,c,h1,h2⟩:=h;exact⟨es,c,hk.trans h1,h2⟩
theorem MapS.below{w':World}{n:Nat}(h:MapS w b ek ev m)(hB:Below n w w')(hn:w.heap.size<=n:=by first|exact Nat.le_refl _|omega):MapS w' b ek ev m:=h.keep (hB.block b (Nat.lt_of_lt_of_le h.at.lt hn))
theorem MapS.grown{w':World}{row:Option Nat}(h:MapS w b ek ev m)(hg:w.grownBy w' row)(ag:some b≠row):MapS w' b ek ev m:=h.keep (hg.block b h.at.lt ag)
theorem MapS.new(w:World):MapS (w.alloc (.map #[] 0)) w.heap.size ek ev ([]:List (K×V)):=⟨#[],0,heap_alloc_new w _,rfl,by simp,by simp⟩
theorem zbY(T:MapTy P t kt et ek ev z eq)(h:MapS w b ek ev m)(k:K)(v:V):
 ∃w',(Instr.mapUpdate t (.map (some b)) (ek k) (ev v)).run P w=.ok () w'/\MapS w' b ek ev (mput eq k v m)/\w.grownBy w' (some b)/\w'.heap.size=w.heap.size:=by
 obtain⟨es,c,hh,hm,hb,hn⟩:=h;have h1:=T.hfind k es.toList m hm w;have aa:=(Array.getElem?_eq_some_iff.1 hh).1;have aU:∀es' c',((setObj b (.map es' c')).run P w)=.ok () {w with heap:=w.heap.setIfInBounds b (.map es' c')}:=fun es' c'=>by
  simp[setObj,Sem.run,hh]
 have ky:∀es' c',w.grownBy {w with heap:=w.heap.setIfInBounds b (.map es' c')} (some b):=fun es' c'=>
  ⟨rfl,rfl,rfl,by simp,fun i hi ag=>by
    have:b≠i:=fun e=>ag (by rw[e])
    simp[Array.getElem?_setIfInBounds,this]⟩
 cases hl:locate eq k m 0 with
 |none=>
  refine⟨_,?_,?_,ky (es.push {key:=ek k,val:=ev v,born:=c}) (c+1),by simp⟩
  ·simp[Instr.mapUpdate,run_underlying T.ht,zbB hh,T.hck,h1,hl,aU]
  ·refine⟨es.push {key:=ek k,val:=ev v,born:=c},c+1,by simp[Array.getElem?_setIfInBounds,aa],?_,?_,?_⟩
   ·rw[zdE hl];simp[hm]
   ·intro e he;rw[Array.toList_push]at he;rcases List.mem_append.1 he with he|he
    ·have:=hb e he;omega
    ·rw[List.mem_singleton.1 he];exact Nat.lt_succ_self c
   ·rw[Array.toList_push,List.map_append,List.nodup_append];refine⟨hn,by simp,?_⟩;intro x hx y hy;obtain⟨e,he,rfl⟩:=List.mem_map.1 hx;simp only[List.map_cons,List.map_nil,List.mem_singleton]at hy;have:=hb e he;omega
 |some p=>
  obtain⟨j,u⟩:=p;obtain⟨_,q,hq,he,bq⟩:=zcY hl;simp only[Nat.sub_zero]at hq bq;have hj:j<m.length:=(List.getElem?_eq_some_iff.1 hq).1;have af:es.toList.length=m.length:=by simpa using congrArg List.length hm
  have bZ:j<es.size:=by
   have h0:es.size=m.length:=by simpa using af
   omega
  have jI:(es[j]).key=ek q.1:=by
   have:=congrArg (fun l=>l[j]?) hm;simp[List.getElem?_map,hq,bZ]at this;exact this.1
  have bX:(es.modify j fun e=> {e with key:=ek k,val:=ev v}).toList.map (·.born)=es.toList.map (·.born):=by
   apply List.ext_getElem?;intro i;simp only[List.getElem?_map,Array.getElem?_toList,Array.getElem?_modify];by_cases cL:j=i
   ·subst cL;simp[bZ,Array.getElem?_eq_getElem bZ]
   ·simp[cL]
  refine⟨_,?_,?_,ky (es.modify j fun e=> {e with key:=ek k,val:=ev v}) c,by simp⟩
  ·simp[Instr.mapUpdate,run_underlying T.ht,zbB hh,T.hck,h1,hl,Instr.keyThatStays,Array.getElem?_eq_getElem bZ,jI,T.hsame _ _ he,aU]
  ·refine⟨es.modify j fun e=> {e with key:=ek k,val:=ev v},c,by simp[Array.getElem?_setIfInBounds,aa],?_,?_,by rw[bX];exact hn⟩
   ·rw[bq];apply List.ext_getElem?;intro i;have gP:=congrArg (fun l=>l[i]?) hm;simp only[List.getElem?_map,Array.getElem?_toList]at gP;simp only[List.getElem?_map,Array.getElem?_toList,Array.getElem?_modify,List.getElem?_set];by_cases cL:j=i
    ·subst cL;simp[bZ,hj,Array.getElem?_eq_getElem bZ]
    ·simp[cL,gP]
   ·intro e he;have h2:e.born∈(es.modify j fun e=> {e with key:=ek k,val:=ev v}).toList.map (·.born):=List.mem_map.2 ⟨e,he,rfl⟩;rw[bX]at h2;obtain⟨e',vp,dG⟩:=List.mem_map.1 h2;rw[<-dG];exact hb e' vp
def RangeAt(w:World)(b r:Nat){K V:Type}(ek:K->Value)(ev:V->Value)(m left:List (K×V)):Prop:=
 ∃(es:Array MapEntry) (clock since:Nat) (seen:Array Nat) (c0:Nat),w.heap[b]?=some (.map es clock)/\es.toList.map (fun e=>(e.key,e.val))=m.map (fun p=>(ek p.1,ev p.2))/\(∀e∈es.toList,e.born<since)/\(es.toList.map (·.born)).Nodup/\
  w.heap[r]?=some (.mapIter (some b) since seen c0)/\since<=c0/\since<=clock/\(leftOf es seen).toList.map (fun e=>(e.key,e.val))=left.map (fun p=>(ek p.1,ev p.2))
theorem RangeAt.mapS{r:Nat}{left:List (K×V)}(h:RangeAt w b r ek ev m left):MapS w b ek ev m:=by
 obtain⟨es,clock,since,seen,c0,h1,h2,h3,h4,_,_,h7,_⟩:=h;exact⟨es,clock,h1,h2,fun e he=>Nat.lt_of_lt_of_le (h3 e he) h7,h4⟩
theorem RangeAt.lt{r:Nat}{left:List (K×V)}(h:RangeAt w b r ek ev m left):r<w.heap.size/\b≠r:=by
 obtain⟨es,clock,since,seen,c0,h1,_,_,_,h5,_⟩:=h;refine⟨(Array.getElem?_eq_some_iff.1 h5).1,fun e=>?_⟩;rw[e,h5]at h1;cases h1
theorem RangeAt.grown{w':World}{row:Option Nat}{r:Nat}{left:List (K×V)}(h:RangeAt w b r ek ev m left)(hg:w.grownBy w' row)(hb:some b≠row)(hr:some r≠row):RangeAt w' b r ek ev m left:=by
 have h1:=h.mapS.at.lt;have h2:=h.lt.1;obtain⟨es,clock,since,seen,c0,k1,k2,k3,k4,k5,rest⟩:=h;exact⟨es,clock,since,seen,c0,(hg.block b h1 hb).trans k1,k2,k3,k4,(hg.block r h2 hr).trans k5,rest⟩
theorem RangeAt.below{w':World}{n r:Nat}{left:List (K×V)}(h:RangeAt w b r ek ev m left)(hB:Below n w w')(hn:w.heap.size<=n:=by first|exact Nat.le_refl _|omega):RangeAt w' b r ek ev m left:=by
 have h1:=h.mapS.at.lt;have h2:=h.lt.1;obtain⟨es,clock,since,seen,c0,k1,k2,k3,k4,k5,rest⟩:=h;exact⟨es,clock,since,seen,c0,(hB.block b (Nat.lt_of_lt_of_le h1 hn)).trans k1,k2,k3,k4,(hB.block r (Nat.lt_of_lt_of_le h2 hn)).trans k5,rest⟩
theorem zhX(h:MapS w b ek ev m){e:TypeId}(ht:P.underlying t=some (.map kt e)):
 (Instr.range t (.map (some b))).run P w=.ok (.pointer (some ⟨w.heap.size,0,none⟩)) (w.alloc (.mapIter (some b) (h.choose_spec.choose) #[] (h.choose_spec.choose)))/\
   RangeAt (w.alloc (.mapIter (some b) (h.choose_spec.choose) #[] (h.choose_spec.choose))) b w.heap.size ek ev m m:=by
 have hs:=h.choose_spec.choose_spec;generalize h.choose_spec.choose=c at*;generalize h.choose=es at*;obtain⟨h1,h2,h3,h4⟩:=hs;refine⟨run_range_map w t kt e b es c ht h1,es,c,c,#[],c,(Below.heap_alloc w _ b (Array.getElem?_eq_some_iff.1 h1).1).trans h1,h2,h3,h4,heap_alloc_new w _,Nat.le_refl _,Nat.le_refl _,?_⟩;rw[<-h2];congr 1
 simp[leftOf]
theorem zji{r:Nat}{left:List (K×V)}(h:RangeAt w b r ek ev m left)(ty:TypeId):
 (left=[]/\(Instr.next (.pointer (some ⟨r,0,none⟩)) false ty).run P w=.ok (.tuple #[.bool false]) w)\/
 ∃(i:Nat) (p:K×V) (w':World),left[i]?=some p/\(Instr.next (.pointer (some ⟨r,0,none⟩)) false ty).run P w=.ok (.tuple #[.bool true,ek p.1,ev p.2]) w'/\RangeAt w' b r ek ev m (left.eraseIdx i)/\w.grownBy w' (some r)/\w'.heap.size=w.heap.size/\
  (Instr.entry (.pointer (some ⟨r,0,none⟩))).run P w'=.ok (.tuple #[ek p.1,ev p.2]) w':=by
 have sJ:=h.lt.2;obtain⟨es,clock,since,seen,c0,k1,k2,k3,k4,k5,k6,k7,k8⟩:=h;rcases run_next_at (P:=P) w ty r b since c0 seen es clock k5 k1 k3 k6 with⟨h0,ai⟩|⟨e,he,w1,eZ,ai⟩
 ·refine .inl ⟨?_,ai⟩;have hl:(leftOf es seen).toList.length=left.length:=by simpa using congrArg List.length k8
  rw[Array.length_toList,h0]at hl;exact List.eq_nil_of_length_eq_zero hl.symm
 ·refine .inr ?_;obtain⟨i,hi,sR⟩:=List.mem_iff_getElem.1 he;have hl:(leftOf es seen).toList.length=left.length:=by simpa using congrArg List.length k8
  have fT:i<left.length:=by omega
  have jJ:(e.key,e.val)=(ek (left[i]).1,ev (left[i]).2):=by
   have:=congrArg (fun l=>l[i]?) k8;simp only[List.getElem?_map,List.getElem?_eq_getElem hi,List.getElem?_eq_getElem fT,Option.map_some,Option.some.injEq,sR]at this;exact this
  simp only[Prod.mk.injEq]at jJ;have jC:e∈es.toList:=by
   unfold leftOf at he;simp at he⊢;exact he.1
  have cS:(setBlock w1 r (.mapIter (some b) since (seen.push e.born) clock)).heap[b]?=some (.map es clock):=by
   rcases eZ with rfl|rfl<;>(simp only[setBlock];rw[Array.getElem?_setIfInBounds_ne (fun e=>sJ e.symm)];exact k1)
  have CY:=(Array.getElem?_eq_some_iff.1 k5).1;have rf:(setBlock w1 r (.mapIter (some b) since (seen.push e.born) clock)).heap[r]?=some (.mapIter (some b) since (seen.push e.born) clock):=by
   rcases eZ with rfl|rfl<;>(simp only[setBlock];exact Array.getElem?_setIfInBounds_self_of_lt CY)
  refine⟨i,left[i],_,List.getElem?_eq_getElem fT,by rw[<-jJ.1,<-jJ.2];exact ai,⟨es,clock,since,seen.push e.born,clock,cS,k2,k3,k4,rf,k7,k7,?_⟩,?_,?_,?_⟩
  ·
   have hn:((leftOf es seen).toList.map (·.born)).Nodup:=by
    unfold leftOf;rw[Array.toList_filter];exact List.Nodup.sublist (List.Sublist.map _ List.filter_sublist) k4
   have e1:(leftOf es (seen.push e.born)).toList=(leftOf es seen).toList.eraseIdx i:=by
    have e2:(leftOf es (seen.push e.born)).toList=(leftOf es seen).toList.filter fun x=>!(x.born==e.born):=by
     unfold leftOf;rw[Array.toList_filter,Array.toList_filter,List.filter_filter];congr 1
     funext x
     rw[Bool.eq_iff_iff];simp[Array.contains_push,and_comm]
    rw[e2];exact zhW (by rw[List.getElem?_eq_getElem hi,sR]) hn
   rw[e1,zgK,k8,zgK]
  ·rcases eZ with rfl|rfl
   ·exact⟨rfl,rfl,rfl,by simp[setBlock],fun k hk ag=>by simp only[setBlock];rw[Array.getElem?_setIfInBounds_ne (fun e=>ag (by rw[e]))]⟩
   ·exact⟨rfl,rfl,rfl,by simp[setBlock],fun k hk ag=>by simp only[setBlock];rw[Array.getElem?_setIfInBounds_ne (fun e=>ag (by rw[e]))];rfl⟩
  ·rcases eZ with rfl|rfl<;>simp[setBlock]
  ·rw[<-jJ.1,<-jJ.2];exact run_entry_at (P:=P) _ r b since seen es clock e rf cS jC k4
end
