/- Walks of chapter 5's law: brief, Few, the sum of shares. -/
import Derived.Test.YtmfbdfejhdkiaaaGreatDoorJU
import Derived.Test.YtmfbdfejhdkiaaaGreatDoorWF
set_option linter.all false
set_option maxRecDepth 100000
set_option maxHeartbeats 4000000
namespace Go.Proofs.YtmfbdfejhdkiaaaGreatDoor
attribute [local go_sem] World.cell?_alloc_mark zae za4 zao za8 zav zaw zax zay zaz za0 za1
attribute [local go_sem] zap zac
section
section
variable {P:Program} {t kt et:TypeId} {K:Type} {ek:K->Value} {z:Value} {eq:K->K->Bool} {w:World} {b:Nat} {m:List (K×Value)}
def StampAt(w:World)(b:Nat){K:Type}(ek:K->Value)(m:List (K×Value))(j st:Nat):Prop:=
 ∃es c,w.heap[b]?=some (.map es c)/\es.toList.map (fun e=>(e.key,e.val))=m.map (fun p=>(ek p.1,p.2))/\(∀e∈es.toList,e.born<c)/\(es.toList.map (·.born)).Nodup/\(es[j]?).map (·.born)=some st
theorem zkv(w:World)(b:Nat)(o:Obj):w.grownBy {w with heap:=w.heap.setIfInBounds b o} (some b):=
 ⟨rfl,rfl,rfl,by simp,fun i hi ag=>by
   have:b≠i:=fun e=>ag (by rw[e])
   simp[Array.getElem?_setIfInBounds,this]⟩
theorem zhm{w:World}{b:Nat}{es es':Array MapEntry}{c c':Nat}(h:w.heap[b]?=some (.map es c)):((setObj b (.map es' c')).run P w)=.ok () {w with heap:=w.heap.setIfInBounds b (.map es' c')}:=by
 simp[setObj,Sem.run,h]
theorem zgD(T:MapTy P t kt et ek (fun v:Value=>v) z eq)(h:MapS w b ek (fun v:Value=>v) m)(k:K):
 ∃w' x st m' j,(Instr.mapEntry t (.map (some b)) (ek k)).run P w=.ok (.tuple #[x,.int .i64 (st:Nat)]) w'/\StampAt w' b ek m' j st/\(∀v,m'.set j (k,v)=mput eq k v m)/\(m'[j]?).map (·.1)=some k/\w.grownBy w' (some b)/\w'.heap.size=w.heap.size:=by
 obtain⟨es,c,hh,hm,hb,hn⟩:=h;have h1:=T.hfind k es.toList m hm w;have aa:=(Array.getElem?_eq_some_iff.1 hh).1;cases hl:locate eq k m 0 with
 |none=>
  refine⟨_,z,c,m++[(k,z)],m.length,?_,?_,?_,by simp,zkv w b (.map (es.push {key:=ek k,val:=z,born:=c}) (c+1)),by simp⟩
  ·simp[Instr.mapEntry,run_underlying T.ht,zbX hh,T.hck,h1,hl,T.hz,zhm hh,Result.andThen];rfl
  ·refine⟨es.push {key:=ek k,val:=z,born:=c},c+1,by simp[Array.getElem?_setIfInBounds,aa],?_,?_,?_,?_⟩
   ·simp[hm]
   ·intro e he;rw[Array.toList_push]at he;rcases List.mem_append.1 he with he|he
    ·have:=hb e he;omega
    ·rw[List.mem_singleton.1 he];exact Nat.lt_succ_self c
   ·rw[Array.toList_push,List.map_append,List.nodup_append];refine⟨hn,by simp,?_⟩;intro x hx y hy;obtain⟨e,he,rfl⟩:=List.mem_map.1 hx;simp only[List.map_cons,List.map_nil,List.mem_singleton]at hy;have:=hb e he;omega
   ·have ae:es.size=m.length:=Md0;rw[<-ae];simp
  ·intro v;rw[zfV hl,List.set_append_right _ _ Qc];simp
 |some p=>
  obtain⟨j,u⟩:=p;obtain⟨_,q,hq,he,fO⟩:=zfU hl;simp only[Nat.sub_zero]at hq fO;have hj:j<m.length:=(List.getElem?_eq_some_iff.1 hq).1;have ae:es.size=m.length:=Md0;have eI:j<es.size:=Mcq;have sZ:(es[j]).key=ek q.1:=by
   have:=congrArg (fun l=>l[j]?) hm;simp[List.getElem?_map,hq,eI]at this;exact this.1
  have jH:(es[j]).val=q.2:=by
   have:=congrArg (fun l=>l[j]?) hm;simp[List.getElem?_map,hq,eI]at this;exact this.2
  have eW:(es.modify j fun e=> {e with key:=ek k}).toList.map (·.born)=es.toList.map (·.born):=by
   exact MaH
  refine⟨_,u,(es[j]).born,m.set j (k,q.2),j,?_,?_,?_,by simp[hj],zkv w b (.map (es.modify j fun e=> {e with key:=ek k}) c),by simp⟩
  ·simp[Instr.mapEntry,run_underlying T.ht,zbX hh,T.hck,h1,hl,Instr.keyThatStays,Array.getElem?_eq_getElem eI,sZ,T.hsame _ _ he,zhm hh,Result.andThen];rfl
  ·refine⟨es.modify j fun e=> {e with key:=ek k},c,by simp[Array.getElem?_setIfInBounds,aa],?_,?_,by rw[eW];exact hn,?_⟩
   ·apply List.ext_getElem?;intro i;have iC:=congrArg (fun l=>l[i]?) hm;simp only[List.getElem?_map,Array.getElem?_toList]at iC;simp only[List.getElem?_map,Array.getElem?_toList,Array.getElem?_modify,List.getElem?_set];by_cases eH:j=i
    ·subst eH;simp[eI,hj,Array.getElem?_eq_getElem eI,jH]
    ·simp[eH,iC]
   ·intro e he;have h2:e.born∈(es.modify j fun e=> {e with key:=ek k}).toList.map (·.born):=List.mem_map.2 ⟨e,he,rfl⟩;exact Mbw
   ·simp[Array.getElem?_modify,Array.getElem?_eq_getElem eI]
  ·intro v;rw[fO,List.set_set]
theorem zfn{j st:Nat}{k:K}(h:StampAt w b ek m j st)(hk:(m[j]?).map (·.1)=some k)(t:TypeId)(v:Value):
 ∃w',(Instr.entryStore t (.map (some b)) (.int .i64 (st:Nat)) v).run P w=.ok () w'/\MapS w' b ek (fun v:Value=>v) (m.set j (k,v))/\w.grownBy w' (some b)/\w'.heap.size=w.heap.size:=by
 obtain⟨es,c,hh,hm,hb,hn,ai⟩:=h;have aa:=(Array.getElem?_eq_some_iff.1 hh).1;have ae:es.size=m.length:=Md0;have eI:j<es.size:=by
  by_cases h:j<es.size
  ·exact h
  ·rw[Array.getElem?_eq_none Mcq]at ai;cases ai
 have hj:j<m.length:=Mcq;rw[Array.getElem?_eq_getElem eI]at ai;simp only[Option.map_some,Option.some.injEq]at ai;have AA:es.findIdx? (fun e=>(e.born:Int)==(st:Int))=some j:=by
  rw[Array.findIdx?_eq_some_iff_getElem];refine⟨eI,by simp[ai],fun i hi h=>?_⟩;have AG:i<es.size:=Mcq;have h3:es[i].born=es[j].born:=by
   rw[ai];simp only[beq_iff_eq]at h;exact Int.ofNat_inj.1 h
  have h4:=(List.nodup_iff_pairwise_ne.1 hn)
  rw[List.pairwise_iff_getElem]at h4;have:=h4 i j (by simpa using AG) (by simpa using eI) hi;simp at this;exact this h3
 have eW:(es.modify j fun e=> {e with val:=v}).toList.map (·.born)=es.toList.map (·.born):=by
  exact MaH
 refine⟨_,?_,?_,zkv w b (.map (es.modify j fun e=> {e with val:=v}) c),by simp⟩
 ·simp[Instr.entryStore,zbX hh,asInt,asIntOf,AA,zhm hh,Result.andThen]
 ·refine⟨es.modify j fun e=> {e with val:=v},c,by simp[Array.getElem?_setIfInBounds,aa],?_,?_,by rw[eW];exact hn⟩
  ·apply List.ext_getElem?;intro i;have iC:=congrArg (fun l=>l[i]?) hm;simp only[List.getElem?_map,Array.getElem?_toList]at iC;simp only[List.getElem?_map,Array.getElem?_toList,Array.getElem?_modify,List.getElem?_set];by_cases eH:j=i
   ·subst eH;rw[List.getElem?_eq_getElem hj]at hk iC;simp only[Option.map_some,Option.some.injEq]at hk;simp[eI,hj,Array.getElem?_eq_getElem eI,hk]at iC⊢;exact iC.1
   ·simp[eH,iC]
  ·intro e he;have h2:e.born∈(es.modify j fun e=> {e with val:=v}).toList.map (·.born):=List.mem_map.2 ⟨e,he,rfl⟩;exact Mbw
end
section
variable {P:Program} {ops:Array Oper} {Q:Exit->Act->World->Prop} {md:Region.Mode} {m:Nat} {S:Bool->World->Prop}
def zfo(md:Region.Mode)(ops:Array Oper)(listed:Array Bool):Prop:= ∀(k:Nat) (o:Oper),ops[k]?=some o->listed.getD k false=true->∀e∈o.after,Region.binds md e=true->listed.getD e.on false=true
def zkw(md:Region.Mode)(ops:Array Oper)(listed:Array Bool):Bool:=(List.range ops.size).all fun k=>match ops[k]? with
 |some o=>!listed.getD k false||o.after.all fun e=>!Region.binds md e||listed.getD e.on false
 |none=>true
theorem closed_of{listed:Array Bool}(h:zkw md ops listed=true):zfo md ops listed:=fun k o ho hl e he hb=>by
 unfold zkw at h;have h1:=List.all_eq_true.1 h k (List.mem_range.2 (Array.getElem?_eq_some_iff.1 ho).1);simp only[ho,hl,Bool.not_true,Bool.false_or]at h1;rw[Array.all_eq_true]at h1;obtain⟨j,hj,rfl⟩:=Array.mem_iff_getElem.1 he;have h2:=h1 j hj;rw[hb]at h2;simpa using h2
def needs(md:Region.Mode)(ops:Array Oper)(i:Nat):Nat->Nat->Bool
 |0,k=>k==i
 |f+1,k=>k==i||match ops[k]? with
  |some o=>o.after.any fun e=>Region.binds md e&&needs md ops i f e.on
  |none=>false
theorem zkx{i:Nat}{listed:Array Bool}(hc:zfo md ops listed):∀(f k:Nat),needs md ops i f k=true->listed.getD k false=true->listed.getD i false=true
 |0,k,h,hl=>by
  have:k=i:=by simpa[needs]using h
  rw[<-this];exact hl
 |f+1,k,h,hl=>by
  unfold needs at h;rw[Bool.or_eq_true]at h;rcases h with h|h
  ·have:k=i:=by simpa using h
   rw[<-this];exact hl
  ·cases ho:ops[k]? with
   |none=>rw[ho]at h;cases h
   |some o=>
    rw[ho]at h;simp only at h;rw[Array.any_eq_true]at h;obtain⟨j,hj,h2⟩:=h;rw[Bool.and_eq_true]at h2;exact zkx hc f _ h2.2 (hc k o ho hl o.after[j] (Array.getElem_mem hj) h2.1)
theorem zjG{listed:Array Bool}{j:Nat}(hc:zfo md ops listed)(hj:j∈Region.ready md ops listed):zfo md ops (listed.setIfInBounds j true):=fun k o ho hl e he hb=>by
 obtain⟨h0,oj,ja,aH⟩:=mem_ready.1 hj;by_cases jX:j=k
 ·subst jX;rw[ja]at ho;simp only[Option.some.injEq]at ho;subst ho;exact getD_set_true (aH e he hb)
 ·rw[getD_set_ne false jX]at hl;exact getD_set_true (hc k o ho hl e he hb)
def zcn(P:Program)(md:Region.Mode)(ops:Array Oper)(Q:Exit->Act->World->Prop)(m:Nat)(S:Bool->World->Prop):Nat->Array Bool->Act->World->Prop
 |0,listed,a,w=>Region.ready md ops listed=[]/\Q .normal a w
 |fuel+1,listed,a,w=>
  (Region.ready md ops listed=[]->Q .normal a w)/\
  ∀i∈Region.ready md ops listed,wpOp P ops Q i (fun a' w'=>S ((listed.setIfInBounds i true).getD m false) w'/\zcn P md ops Q m S fuel (listed.setIfInBounds i true) a' w') a w
theorem zhn:∀(fuel:Nat) (listed:Array Bool) (a:Act) (w:World),zcn P md ops Q m S fuel listed a w->wpAny P md ops Q fuel listed a w
 |0,_,_,_,h=>h
 |fuel+1,_,_,_,h=>⟨h.1,fun i hi=>wpOp_mono (fun a' w' h'=>zhn fuel _ a' w' h'.2) (h.2 i hi)⟩
theorem zly{i:Nat}{oi:Oper}{v:Value}(kC:i≠m)(hi:ops[i]?=some oi)(bW:∀(j:Nat) (o:Oper) cs b,ops[j]?=some o->o.op≠ .select cs b)
 (hQ:∀c a w,Q (.panic c) (a.put oi.dst v) w->Q (.panic c) a w)(f0:Nat)(ag:needs md ops i f0 m=true):
 ∀(fuel:Nat) (listed:Array Bool) (a:Act) (w:World),zfo md ops listed->
  (∀j oj,ops[j]?=some oj->j≠i->listed.getD j true=false->(∀e∈oj.after,Region.binds md e=true->e.on≠i)->oi.apart ops oj=true)->
  i∈Region.ready md ops listed->YieldsIf P ops (S false) oi v a->S false w->
  zcn P md ops Q m S fuel (listed.setIfInBounds i true) (a.put oi.dst v) w->zcn P md ops Q m S (fuel+1) listed a w:=by
 have du:∀ {listed:Array Bool},zfo md ops listed->i∈Region.ready md ops listed->listed.getD m false=false:=fun {listed} hc hr=>by
  cases hx:listed.getD m false with
  |false=>rfl
  |true=>
   have h1:=zkx hc f0 m ag hx;have h2:=getD_both (mem_ready.1 hr).1;rw[h2]at h1;cases h1
 intro fuel;induction fuel with
 |zero=>
  intro listed a w hc _ hr hy hS H;refine⟨fun h=>Mev,fun j hj=>?_⟩;by_cases bF:j=i
  ·exact MbG
  ·have:=ready_mono hj bF;rw[H.1]at this;cases this
 |succ fuel ih=>
  intro listed a w hc dX hr hy hS H;refine⟨fun h=>Mev,fun j hj=>?_⟩;by_cases bF:j=i
  ·exact MbG
  ·have h1:=H.2 j (ready_mono hj bF);obtain⟨kD,oj,ja,aH⟩:=mem_ready.1 hj;have mV:∀e∈oj.after,Region.binds md e=true->e.on≠i:=fun e he hb Ax=>by
    exact Mbn
   have h2:=wpOp_putIf ja (dX j oj ja bF kD mV) (fun cs b=>bW i oi cs b hi) (fun cs b=>bW j oj cs b ja) hQ hy h1;have jv:∀k ok,ops[k]?=some ok->k≠i->(listed.setIfInBounds j true).getD k true=false->
    (∀e∈ok.after,Region.binds md e=true->e.on≠i)->oi.apart ops ok=true:=fun k ok hk ar dF mU=>by
    exact Maq
   have aI:=zjG hc hj;have cm:=ready_mono hr (Ne.symm bF);have eb:((listed.setIfInBounds i true).setIfInBounds j true).getD m false=(listed.setIfInBounds j true).getD m false:=by
    rw[Array.setIfInBounds_comm _ _ (Ne.symm bF),getD_set_ne false kC]
   refine wpOp_mono (fun a' w' h3=>?_) h2;have h4:=h3.2.1;rw[eb]at h4;refine⟨h4,ih (listed.setIfInBounds j true) a' w' aI jv cm h3.1 ?_ ?_⟩
   ·rw[du aI cm]at h4;exact h4
   ·rw[Array.setIfInBounds_comm _ _ bF];exact h3.2.2
theorem zmI{i:Nat}{oi:Oper}{v:Value}{fuel:Nat}{listed:Array Bool}{a:Act}{w:World}(f0:Nat)(hi:ops[i]?=some oi)(kC:i≠m)(ag:needs md ops i f0 m=true)(bj:zkw md ops listed=true)
 (hs:Region.noSelect ops=true)(hf:Region.free md ops listed i=true)(hr:(Region.ready md ops listed).contains i=true)
 (hQ:∀c a w,Q (.panic c) (a.put oi.dst v) w->Q (.panic c) a w)(hy:YieldsIf P ops (S false) oi v a)(hS:S false w)
 (h:zcn P md ops Q m S fuel (listed.setIfInBounds i true) (a.put oi.dst v) w):zcn P md ops Q m S (fuel+1) listed a w:=
 zly kC hi (Region.noSelect_spec hs) hQ f0 ag fuel listed a w (closed_of bj) (Region.free_spec hi hf) (by simpa using hr) hy hS h
theorem zgE{i:Nat}{oi:Oper}{v:Value}(kC:i≠m)(hi:ops[i]?=some oi)(bW:∀(j:Nat) (o:Oper) cs b,ops[j]?=some o->o.op≠ .select cs b)
 (hQ:∀c a w,Q (.panic c) (a.put oi.dst v) w->Q (.panic c) a w):
 ∀(fuel:Nat) (listed:Array Bool) (a:Act) (w:World),
  (∀j oj,ops[j]?=some oj->j≠i->listed.getD j true=false->(∀e∈oj.after,Region.binds md e=true->e.on≠i)->oi.apart ops oj=true)->
  i∈Region.ready md ops listed->YieldsIf P ops (fun _=>True) oi v a->S (listed.getD m false) w->
  zcn P md ops Q m S fuel (listed.setIfInBounds i true) (a.put oi.dst v) w->zcn P md ops Q m S (fuel+1) listed a w:=by
 intro fuel;induction fuel with
 |zero=>
  intro listed a w _ hr hy hS H;refine⟨fun h=>Mev,fun j hj=>?_⟩;by_cases bF:j=i
  ·exact MbN
  ·have:=ready_mono hj bF;rw[H.1]at this;cases this
 |succ fuel ih=>
  intro listed a w dX hr hy hS H;refine⟨fun h=>Mev,fun j hj=>?_⟩;by_cases bF:j=i
  ·exact MbN
  ·have h1:=H.2 j (ready_mono hj bF);obtain⟨kD,oj,ja,aH⟩:=mem_ready.1 hj;have mV:∀e∈oj.after,Region.binds md e=true->e.on≠i:=fun e he hb Ax=>by
    exact Mbn
   have h2:=wpOp_putIf ja (dX j oj ja bF kD mV) (fun cs b=>bW i oi cs b hi) (fun cs b=>bW j oj cs b ja) hQ hy h1;have jv:∀k ok,ops[k]?=some ok->k≠i->(listed.setIfInBounds j true).getD k true=false->
    (∀e∈ok.after,Region.binds md e=true->e.on≠i)->oi.apart ops ok=true:=fun k ok hk ar dF mU=>by
    exact Maq
   have eb:((listed.setIfInBounds i true).setIfInBounds j true).getD m false=(listed.setIfInBounds j true).getD m false:=by
    rw[Array.setIfInBounds_comm _ _ (Ne.symm bF),getD_set_ne false kC]
   refine wpOp_mono (fun a' w' h3=>?_) h2;have h4:=h3.2.1;rw[eb]at h4;refine⟨h4,ih (listed.setIfInBounds j true) a' w' jv (ready_mono hr (Ne.symm bF)) h3.1 h4 ?_⟩;rw[Array.setIfInBounds_comm _ _ bF];exact h3.2.2
theorem zmJ{i:Nat}{oi:Oper}{v:Value}{fuel:Nat}{listed:Array Bool}{a:Act}{w:World}(b:Bool)(hb:listed.getD m false=b)(hi:ops[i]?=some oi)(kC:i≠m)
 (hs:Region.noSelect ops=true)(hf:Region.free md ops listed i=true)(hr:(Region.ready md ops listed).contains i=true)
 (hQ:∀c a w,Q (.panic c) (a.put oi.dst v) w->Q (.panic c) a w)(hy:YieldsIf P ops (fun _=>True) oi v a)(hS:S b w)
 (h:zcn P md ops Q m S fuel (listed.setIfInBounds i true) (a.put oi.dst v) w):zcn P md ops Q m S (fuel+1) listed a w:=
 zgE kC hi (Region.noSelect_spec hs) hQ fuel listed a w (Region.free_spec hi hf) (by simpa using hr) hy (by rw[hb];exact hS) h
def AllReadyM(P:Program)(md:Region.Mode)(ops:Array Oper)(Q:Exit->Act->World->Prop)(m:Nat)(S:Bool->World->Prop)(fuel:Nat)(listed:Array Bool)(a:Act)(w:World)(rs:List Nat):Prop:=
 ∀i∈rs,wpOp P ops Q i (fun a' w'=>S ((listed.setIfInBounds i true).getD m false) w'/\zcn P md ops Q m S fuel (listed.setIfInBounds i true) a' w') a w
theorem AllReadyM.nil{fuel:Nat}{listed:Array Bool}{a:Act}{w:World}:AllReadyM P md ops Q m S fuel listed a w []:=fun _ h=>by cases h
theorem AllReadyM.cons{fuel:Nat}{listed:Array Bool}{a:Act}{w:World}{i:Nat}{o:Oper}{rs:List Nat}(ho:ops[i]?=some o)(b:Bool)(hb:(listed.setIfInBounds i true).getD m false=b)
 (h:∀K':Act->World->Prop,Shut (∀a w,S b w->(S b w->zcn P md ops Q m S fuel (listed.setIfInBounds i true) a w)->K' a w)->if Region.wanted o (yielded ops a.tmps)=true then Oper.wp P o a w K' Q else K' (a.put o.dst undef) w)
 (hs:AllReadyM P md ops Q m S fuel listed a w rs):AllReadyM P md ops Q m S fuel listed a w (i::rs):=fun j hj=>by
 rcases List.mem_cons.1 hj with rfl|hj
 ·rw[hb];exact wpOp_step ho (fun K' hK=>h K' (fun a w hS hW=>hK a w ⟨hS,hW hS⟩))
 ·exact hs j hj
theorem zh5{rs:List Nat}{fuel:Nat}{listed:Array Bool}{a:Act}{w:World}(hr:Region.ready md ops listed=rs)(ag:rs≠[])
 (h:AllReadyM P md ops Q m S fuel listed a w rs):zcn P md ops Q m S (fuel+1) listed a w:=⟨fun h0=>absurd (hr▸h0) ag,hr▸h⟩
theorem zaV{listed:Array Bool}{a:Act}{w:World}(hr:Region.ready md ops listed=[])(h:Q .normal a w):∀fuel,zcn P md ops Q m S fuel listed a w
 |0=>⟨hr,h⟩
 |_+1=>⟨fun _=>h,by rw[hr];simp⟩
theorem zaJ{id:Nat}{a:Act}{w:World}(m:Nat)(S:Bool->World->Prop)(hm:P.follows .mixedOrders=true)(hS:S false w.drew)
 (h:S false w.drew->zcn P .any ops Q m S ops.size (Array.replicate ops.size false) a w.drew):(Code.region id ops true).wp P Q a w:=
 wp_region_any hm (zhn _ _ _ _ (h hS))
end
theorem TkM{P:Program}{ops:Array Oper}{Q:Exit->Act->World->Prop}{md:Region.Mode}{m:Nat}{S:Bool->World->Prop}(i:Nat){oi:Oper}{v:Value}{fuel:Nat}{listed:Array Bool}{a a':Act}{w:World}(h:zcn P md ops Q m S fuel (listed.setIfInBounds i true) a' w)(hi:ops[i]?=some oi:=by exact List.getElem?_toArray.trans rfl)(kC:i≠m:=by decide)(ag:needs md ops i 9 m=true:=by kernel_rfl)(bj:zkw md ops listed=true:=by kernel_rfl)
 (hs:Region.noSelect ops=true:=by kernel_rfl)(hf:Region.free md ops listed i=true:=by kernel_rfl)(hr:(Region.ready md ops listed).contains i=true:=by kernel_rfl)
 (hQ:∀c a w,Q (.panic c) (a.put oi.dst v) w->Q (.panic c) a w:=by exact fun _ _ _ h=>h)(hy:YieldsIf P ops (S false) oi v a:=by(refine Or.inl ⟨by rfl,?_⟩;intro w uk;(try dsimp only at uk);replace uk:=uk.resolve_left Bool.false_ne_true;go_simp;first|done|with_reducible rfl))(hS:S false w:=by assumption)
 (ha:a.put oi.dst v=a':=by((try simp only[Act.put,List.setIfInBounds_toArray,List.set_cons_zero,List.set_cons_succ]);rfl)):zcn P md ops Q m S (fuel+1) listed a w:=
 zmI 9 hi kC ag bj hs hf hr hQ hy hS (ha▸h)
theorem OnM{P:Program}{ops:Array Oper}{Q:Exit->Act->World->Prop}{md:Region.Mode}{m:Nat}{S:Bool->World->Prop}(i:Nat)(b:Bool){o:Oper}{fuel:Nat}{listed:Array Bool}{a:Act}{w:World}(h:∀K':Act->World->Prop,Shut (∀a w,S b w->(S b w->zcn P md ops Q m S fuel (listed.setIfInBounds i true) a w)->K' a w)->if Region.wanted o (yielded ops a.tmps)=true then Oper.wp P o a w K' Q else K' (a.put o.dst undef) w)
 (hr:Region.ready md ops listed=[i]:=by kernel_rfl)(ho:ops[i]?=some o:=by exact List.getElem?_toArray.trans rfl)(hb:(listed.setIfInBounds i true).getD m false=b:=by kernel_rfl):zcn P md ops Q m S (fuel+1) listed a w:=zh5 (rs:=[i]) hr Mcv (AllReadyM.cons ho b hb h AllReadyM.nil)
theorem FrM{P:Program}{ops:Array Oper}{Q:Exit->Act->World->Prop}{md:Region.Mode}{m:Nat}{S:Bool->World->Prop}(i:Nat)(b:Bool){oi:Oper}{v:Value}{fuel:Nat}{listed:Array Bool}{a a':Act}{w:World}(h:zcn P md ops Q m S fuel (listed.setIfInBounds i true) a' w)(hb:listed.getD m false=b:=by kernel_rfl)(hi:ops[i]?=some oi:=by exact List.getElem?_toArray.trans rfl)(kC:i≠m:=by decide)
 (hs:Region.noSelect ops=true:=by kernel_rfl)(hf:Region.free md ops listed i=true:=by kernel_rfl)(hr:(Region.ready md ops listed).contains i=true:=by kernel_rfl)
 (hQ:∀c a w,Q (.panic c) (a.put oi.dst v) w->Q (.panic c) a w:=by exact fun _ _ _ h=>h)(hy:YieldsIf P ops (fun _=>True) oi v a:=by(refine Or.inl ⟨by rfl,?_⟩;intro w uk;go_simp;first|done|with_reducible rfl))(hS:S b w:=by first|assumption|trivial)
 (ha:a.put oi.dst v=a':=by((try simp only[Act.put,List.setIfInBounds_toArray,List.set_cons_zero,List.set_cons_succ]);rfl)):zcn P md ops Q m S (fuel+1) listed a w:=
 zmJ b hb hi kC hs hf hr hQ hy hS (ha▸h)
theorem TwM{P:Program}{ops:Array Oper}{Q:Exit->Act->World->Prop}{md:Region.Mode}{m:Nat}{S:Bool->World->Prop}(i j:Nat){o p:Oper}{fuel:Nat}{listed:Array Bool}{a:Act}{w:World}(h:∀K':Act->World->Prop,Shut (∀a w,S false w->(S false w->zcn P md ops Q m S fuel (listed.setIfInBounds i true) a w)->K' a w)->if Region.wanted o (yielded ops a.tmps)=true then Oper.wp P o a w K' Q else K' (a.put o.dst undef) w)(k:∀K':Act->World->Prop,Shut (∀a w,S false w->(S false w->zcn P md ops Q m S fuel (listed.setIfInBounds j true) a w)->K' a w)->if Region.wanted p (yielded ops a.tmps)=true then Oper.wp P p a w K' Q else K' (a.put p.dst undef) w)
 (hr:Region.ready md ops listed=[i,j]:=by kernel_rfl)(ho:ops[i]?=some o:=by exact List.getElem?_toArray.trans rfl)(hp:ops[j]?=some p:=by exact List.getElem?_toArray.trans rfl)(hb:(listed.setIfInBounds i true).getD m false=false:=by kernel_rfl)(hc:(listed.setIfInBounds j true).getD m false=false:=by kernel_rfl):zcn P md ops Q m S (fuel+1) listed a w:=zh5 (rs:=[i,j]) hr Mcv (AllReadyM.cons ho false hb h (AllReadyM.cons hp false hc k AllReadyM.nil))
end
section
open Go.RowKit
theorem zfB{out:Parts}{t f:Rat}{n:ByteArray}{fl:Bool}(h:Bd out t)(hf:0<=f):Bd (zcU n f (out,fl)).1 (t+f):=h.set n hf
theorem Bd.up6{out:Parts}{t u:Rat}(h:Bd out t)(hu:t<=u):Bd out u:=⟨h.good,h.small,Rat.le_trans h.le hu⟩
theorem zky{part:Rat}(hp:0<=part)(n:Nat):zbi (part*(1/(n:Rat)))*(n:Rat)<=part:=by
 have h1:=zhi (ze9 hp n);by_cases hn:n=0
 ·subst hn;have:((0:Nat):Rat)=0:=rfl;rw[this,Rat.mul_zero];exact hp
 ·have ka:(n:Rat)≠0:=by
   have:=ratI (n:=(n:Int)) Mcq;rwa [Rat.intCast_natCast]at this
  have h2:part*(1/(n:Rat))*(n:Rat)=part:=by
   rw[zkl];exact Rat.div_mul_cancel ka
  have h3:=Rat.mul_le_mul_of_nonneg_right h1 (Rat.natCast_nonneg (a:=n));rw[h2]at h3;exact h3
theorem zgF(n:Nat):((n+1:Nat):Rat)=(n:Rat)+1:=by
 rw[Rat.natCast_add];rfl
mutual
theorem zhQ{part:Rat}(hp:0<=part):∀ {l:List Tree} {out:Parts} {fl:Bool} {t:Rat},Bd out t->Bd (zbG part l (out,fl)).1 (t+part*(l.length:Rat))
 | [],out,fl,t,h=>by
   rw[zbG];have e:((([]:List Tree).length:Nat):Rat)=0:=rfl;rw[e,Rat.mul_zero,Rat.add_zero];exact h
 |x::l,out,fl,t,h=>by
  rw[zbG];have h1:=zhQ hp (l:=l) (fl:=(zdV part x (out,fl)).2) (tree_bd hp (t':=x) (fl:=fl) h);rw[List.length_cons,zgF];exact h1.up6 McN
theorem tree_bd{part:Rat}(hp:0<=part):∀ {t':Tree} {out:Parts} {fl:Bool} {t:Rat},Bd out t->Bd (zdV part t' (out,fl)).1 (t+part)
 | .leaf n,out,fl,t,h=>by
   rw[zdV];exact zfB h hp
 | .node l,out,fl,t,h=>by
   rw[zdV];have h1:=zhQ (zcx (ze9 hp l.length)) (l:=l) (fl:=fl||bigQ (part*(1/(l.length:Rat)))) h;have h2:=zky hp l.length;exact h1.up6 McN
end
def WideN:Nat->List Tree->Prop
 |0,l=>l=[]
 |f+1,l=>l.length<=1000/\∀l',Tree.node l'∈l->WideN f l'
theorem zjH{s:St}{stems:Bool}{frm:ByteArray}(hl:s.children.length<=1000):∀(f:Nat) (n:ByteArray),WideN f (zb4 s stems frm f n)
 |0,_=>rfl
 |f+1,n=>by
  refine⟨?_,fun l' hm=>?_⟩
  ·unfold zb4;refine Nat.le_trans (List.length_filterMap_le _ _) ?_;exact Mbe
  ·unfold zb4 at hm;obtain⟨c,_,hc⟩:=List.mem_filterMap.1 hm;split at hc
   ·simp at hc
   ·split at hc
    ·simp only[Option.some.injEq,Tree.node.injEq]at hc;rw[<-hc];exact zjH hl f c
    ·cases hc
theorem zhR{n:Nat}(h:0<n):((1:Rat)/(n:Rat)).num=1/\(((1:Rat)/(n:Rat)).den:Int)=n/\0<=(1:Rat)/(n:Rat)/\(1:Rat)/(n:Rat)<=1:=by
 have hs:zaA (n:Int) 1 (n:Int)=true:=by
  unfold zaA;simp;omega
 have:=zbl hs;rw[Rat.divInt_eq_div,Rat.intCast_natCast]at this;exact this
theorem zlz{n:Nat}(h:0<n)(h1:n<=1000):zaL ((1:Rat)/(n:Rat)):=by
 obtain⟨h2,h3,h4,h5⟩:=zhR h;exact zbZ h4 h5 (by unfold bigQ;rw[h3];simp;omega)
theorem part_ok{q:Rat}(h0:0<=q)(h1:q<=1){n:Nat}(hn:0<n):0<=zbi (q*(1/(n:Rat)))/\zbi (q*(1/(n:Rat)))<=1/\zaL (zbi (q*(1/(n:Rat))))/\zbi (q*(1/(n:Rat)))*(n:Rat)<=q:=by
 have h2:=zcx (ze9 h0 n);have h3:=zky h0 n;have h4:zbi (q*(1/(n:Rat)))<=zbi (q*(1/(n:Rat)))*(n:Rat):=by
  have h5:(1:Rat)<=(n:Rat):=by
   have:((1:Nat):Rat)<=(n:Rat):=Rat.natCast_le_natCast.2 hn;exact this
  have:=Rat.mul_le_mul_of_nonneg_left h5 h2;rwa [Rat.mul_one]at this
 have h6:zbi (q*(1/(n:Rat)))<=1:=Rat.le_trans h4 (Rat.le_trans h3 h1);exact⟨h2,h6,zbZ h2 h6 (zg0 _),h3⟩
theorem take_le{part:Rat}(hp:0<=part){k n:Nat}(h:k<=n):part*(k:Rat)<=part*(n:Rat):=
 Rat.mul_le_mul_of_nonneg_left (Rat.natCast_le_natCast.2 h) hp
theorem zmK(part:Rat)(l:List Tree)(x:Parts×Bool){k:Nat}(h:k<l.length):zbG part (l.take (k+1)) x=zdV part l[k] (zbG part (l.take k) x):=by
 rw[List.take_succ_eq_append_getElem h,zg1,zbG,zbG]
def zl0(out:Parts)(p:ByteArray×Value):Option (ByteArray×Rat):=if 0<zag out p.1 then some (p.1,zag out p.1)else none
def colP(out:Parts)(l:List (ByteArray×Value)):Parts:=l.filterMap (zl0 out)
theorem colP_snoc(out:Parts)(l:List (ByteArray×Value))(p:ByteArray×Value):colP out (l++[p])=colP out l++(zl0 out p).toList:=by
 unfold colP;rw[List.filterMap_append];cases h:zl0 out p<;>simp[List.filterMap,h]
theorem zo6{l:Parts}{n:ByteArray}(h:zag l n≠0):(n,zag l n)∈l:=by
 unfold zag at h⊢;cases hf:l.find? (fun p=>zaf p.1 n)with
 |none=>rw[hf]at h;exact absurd rfl h
 |some p=>
  have h1:=List.mem_of_find?_eq_some hf;have h2:=List.find?_some hf;have h3:p.1=n:=za3.1 h2;rw[<-h3];exact h1
theorem zo7{l:Parts}(h:GoodParts l):l.Nodup:=by
 refine h.asc.imp fun {a b} cH e=>?_
 rw[e,zfa]at cH;cases cH
theorem znS{out:Parts}(hg:GoodParts out){mm:List (ByteArray×Value)}(cR:(mm.map (·.1)).Nodup)(iy:∀n,(mget eqS n mm=none/\zag out n=0)\/mget eqS n mm=some (zaD (zag out n))):(colP out mm).Perm out:=by
 refine(List.perm_ext_iff_of_nodup ?_ (zo7 hg)).2 fun a=>?_
 ·unfold colP;have h1:((mm.map (·.1)).filterMap fun n=>if 0<zag out n then some (n,zag out n)else none).Nodup:=by
   refine List.Pairwise.filterMap _ ?_ cR;intro a b cH x hx y hy e;split at hx
   ·split at hy
    ·simp only[Option.some.injEq]at hx hy;rw[<-hx,<-hy]at e;exact cH (congrArg Prod.fst e)
    ·cases hy
   ·cases hx
  rw[List.filterMap_map]at h1;exact h1
 ·constructor
  ·intro ha;obtain⟨p,hp,h1⟩:=List.mem_filterMap.1 ha;unfold zl0 at h1;split at h1
   ·rename_i h0
    simp only[Option.some.injEq]at h1;rw[<-h1];exact zo6 (by intro e;rw[e]at h0;exact absurd h0 Mcu)
   ·cases h1
  ·intro ha;have h1:=share_mem hg ha;have h2:=hg.pos a ha;have h3:mget eqS a.1 mm=some (zaD (zag out a.1)):=by
    rcases iy a.1 with⟨_,h⟩|h
    ·rw[h1]at h;rw[h]at h2;exact absurd h2 Mcu
    ·exact h
   refine List.mem_filterMap.2 ⟨_,zdc h3,?_⟩;unfold zl0;rw[h1,if_pos h2]
def UpP(L:Parts):Prop:=L.Pairwise fun a b=>zbr b.1 a.1=false
theorem zl1{ls L:Parts}(h:GoodParts ls)(hp:L.Perm ls)(hs:UpP L):L=ls:=by
 have eb:L.Pairwise (fun x y:ByteArray×Rat=>zbr y.1 x.1=false):=hs;refine List.Perm.eq_of_pairwise (le:=fun x y:ByteArray×Rat=>zbr y.1 x.1=false) ?_ eb ?_ hp
 ·intro a b ha hb h1 h2;have l9:a∈ls:=hp.mem_iff.1 ha;obtain⟨i,hi,rfl⟩:=List.getElem_of_mem l9;obtain⟨j,hj,rfl⟩:=List.getElem_of_mem hb;rcases Nat.lt_trichotomy i j with eH|eH|eH
  ·have:=List.pairwise_iff_getElem.1 h.asc i j hi hj eH;rw[this]at h2;cases h2
  ·subst eH;rfl
  ·have:=List.pairwise_iff_getElem.1 h.asc j i hj hi eH;rw[this]at h1;cases h1
 ·refine h.asc.imp fun {a b} cH=>?_
  exact zj3 cH
theorem zjI{α:Type}{x:α}:∀ {l:List α} {i:Nat},l[i]?=some x->(x::l.eraseIdx i).Perm l
 | [],i,h=>by simp at h
 |y::l,0,h=>by
  simp only[List.getElem?_cons_zero,Option.some.injEq]at h;rw[h];exact List.Perm.refl _
 |y::l,i+1,h=>by
  simp only[List.getElem?_cons_succ]at h;rw[List.eraseIdx_cons_succ];exact(List.Perm.swap y x _).trans (List.Perm.cons y (zjI h))
theorem done_perm{α:Type}{d l m:List α}{i:Nat}{x:α}(h:(d++l).Perm m)(hx:l[i]?=some x):((d++[x])++l.eraseIdx i).Perm m:=by
 rw[List.append_assoc];refine List.Perm.trans ?_ h;exact List.Perm.append_left d (zjI hx)
theorem zh6(s:St)(frm:ByteArray):∀(a b:Parts) (x:Parts×Bool) (rest:Rat),zdi s frm (a++b) x rest=zdi s frm b (zdi s frm a x rest).1 (zdi s frm a x rest).2
 | [],_,_,_=>rfl
 |p::a,b,x,rest=>by
  rw[List.cons_append,zdi,zdi];split<;>exact zh6 s frm a b _ _
theorem will_snoc(s:St)(frm:ByteArray)(l:Parts)(x:Parts×Bool)(rest:Rat){k:Nat}(h:k<l.length):zdi s frm (l.take (k+1)) x rest=
 if zeb s l[k].1 frm then(zcU l[k].1 l[k].2 (zdi s frm (l.take k) x rest).1,(zdi s frm (l.take k) x rest).2-l[k].2)else zdi s frm (l.take k) x rest:=by
 rw[List.take_succ_eq_append_getElem h,zh6,zdi,zdi,zdi]
def zc6(n:ByteArray)(day:Int)(g:Grave):Bool:=zaO g day&&decide (0<(zag g.holders n).num)
theorem zkz{q:Rat}:0<q↔0<q.num:=by rw[Rat.lt_iff];simp
theorem held_same{s:St}{last day:Int}{n:ByteArray}{i:Nat}{g:Grave}(hG:GoodSt s last)(hl:last<=day)(hi:s.graves[i]?=some g):zdv s n day i g=zc6 n day g:=by
 have bl:=hG.graves g (List.mem_of_getElem? hi);have hn:=zb7 bl.good n;have h1:(zag g.holders n != 0)=decide (0<(zag g.holders n).num):=by
  rw[Bool.eq_iff_iff,bne_iff_ne,decide_eq_true_eq,<-zkz];constructor
  ·intro h;exact Rat.lt_of_le_of_ne hn (fun e=>h e.symm)
  ·intro h e;rw[e]at h;exact absurd h Mcu
 have h2:(zaS s g.place day==some i)=zaO g day:=by
  cases hf:zaO g day
  ·cases hx:zaS s g.place day with
   |none=>rfl
   |some j=>
    obtain⟨gj,h3,h4,h5⟩:=zch hx;cases bF:(some j==some i)
    ·rfl
    ·have e:j=i:=by simpa using bF
     subst e;rw[h3]at hi;simp only[Option.some.injEq]at hi;rw[hi,hf]at h5;cases h5
  ·cases hx:zaS s g.place day with
   |none=>
    have:=zhz hx g (List.mem_of_getElem? hi) rfl;rw[hf]at this;cases this
   |some j=>
    obtain⟨gj,h3,h4,h5⟩:=zch hx;have:=hG.force j i gj g h3 hi h4 day hl h5 hf;simp[this]
 unfold zdv zc6;rw[h1,h2,Bool.and_comm]
def zd2(n:ByteArray)(h:Parts)(g:Grave)(f:Bool):Parts×Bool:=zej (zag g.holders n) h (setP g.holders n 0,f)
def zfM(n:ByteArray)(day:Int)(h:Parts):List Grave->Bool->List Grave×Bool
 | [],f=>([],f)
 |g::l,f=>if zc6 n day g then(⟨g.place,g.cls,g.fin,(zd2 n h g f).1,g.died++[n]⟩::(zfM n day h l (zd2 n h g f).2).1,(zfM n day h l (zd2 n h g f).2).2)else(g::(zfM n day h l f).1,(zfM n day h l f).2)
theorem zgG{n:ByteArray}{day:Int}{h:Parts}:∀ {l:List Grave} {f:Bool},f=true->(zfM n day h l f).2=true
 | [],_,hf=>hf
 |g::l,f,hf=>by
  rw[zfM];split
  ·exact zgG (zfg (by exact hf))
  ·exact zgG hf
theorem zl2{s:St}{n:ByteArray}{day:Int}{h:Parts}(hh:∀p∈h,0<=p.2):∀ {l:List Grave} {i:Nat},(∀j g,l[j]?=some g->zdv s n day (i+j) g=zc6 n day g)->(∀g∈l,GoodG g)->
 (∀gs,zb2 s n day (some h) i l=some gs->zfM n day h l false=(gs,false))/\(zb2 s n day (some h) i l=none->(zfM n day h l false).2=true)
 | [],i,_,_=>by
   rw[zb2,zfM];exact⟨fun gs e=>by cases e;rfl,fun e=>by cases e⟩
 |g::l,i,hq,hg=>by
  have ih:=zl2 (s:=s) (n:=n) (day:=day) hh (l:=l) (i:=i+1) (fun j g' hj=>by
   have:=hq (j+1) g' MdI;rw[show i+1+j=i+(j+1) by omega]
   exact this) (fun g' h'=>hg g' (by simp[h']))
  have h0:=hq 0 g rfl;rw[Nat.add_zero]at h0;rw[zb2,zfM,h0];have bl:=hg g Mcv;cases ux:zc6 n day g
  ·simp only[Bool.false_eq_true,if_false];refine⟨fun gs e=>?_,fun e=>?_⟩
   ·cases hd:zb2 s n day (some h) (i+1) l with
    |none=>rw[hd]at e;cases e
    |some r=>
     rw[hd]at e;simp only[Option.map_some,Option.some.injEq]at e;rw[ih.1 r hd,<-e]
   ·cases hd:zb2 s n day (some h) (i+1) l with
    |none=>exact ih.2 hd
    |some r=>rw[hd]at e;cases e
  ·simp only[if_true];have hz:setP g.holders n 0=zar g.holders n:=zhJ bl.good.asc n
   obtain⟨g1,g2⟩:=zit (zb7 bl.good n) hh (zbE bl.good (n:=n)) (by
    have h1:zaG (setP g.holders n 0)=false:=zet bl.small Mcu;rw[<-hz]
    exact h1)
   have hy:zd2 n h g false=zej (zag g.holders n) h (zar g.holders n,false):=by unfold zd2;rw[hz]
   rw[hy];cases dq:zb5 (zag g.holders n) h (zar g.holders n)with
   |none=>
    have h3:=g2 dq;refine⟨fun gs e=>by simp at e,fun _=>?_⟩;exact zgG h3
   |some o=>
    have h3:=g1 o dq;rw[h3];refine⟨fun gs e=>?_,fun e=>?_⟩
    ·cases hd:zb2 s n day (some h) (i+1) l with
     |none=>rw[hd]at e;cases e
     |some r=>
      rw[hd]at e;simp only[Option.bind_some,Option.map_some,Option.some.injEq]at e;rw[ih.1 r hd,<-e]
    ·cases hd:zb2 s n day (some h) (i+1) l with
     |none=>exact ih.2 hd
     |some r=>rw[hd]at e;cases e
theorem zl3{s:St}{n:ByteArray}{day:Int}{h:Option Parts}:∀ {l:List Grave} {i:Nat},(∀j g,l[j]?=some g->zdv s n day (i+j) g=zc6 n day g)->(l.any (zc6 n day)=false->zb2 s n day h i l=some l)/\(h=none->l.any (zc6 n day)=true->zb2 s n day h i l=none)
 | [],i,_=>by
   have e:zb2 s n day h i []=some []:=by simp[zb2]
   rw[e];exact⟨fun _=>rfl,fun _ e=>by cases e⟩
 |g::l,i,hq=>by
  have ih:=zl3 (s:=s) (n:=n) (day:=day) (h:=h) (l:=l) (i:=i+1) (fun j g' hj=>by
   have:=hq (j+1) g' MdI;rw[show i+1+j=i+(j+1) by omega]
   exact this)
  have h0:=hq 0 g rfl;rw[Nat.add_zero]at h0;unfold zb2;rw[h0,List.any_cons];cases ux:zc6 n day g
  ·simp only[Bool.false_eq_true,if_false,Bool.false_or];exact⟨fun e=>by rw[ih.1 e];rfl,fun e1 e2=>by rw[ih.2 e1 e2];rfl⟩
  ·simp only[if_true,Bool.true_or];refine⟨fun e=>(by cases e),fun e _=>?_⟩;subst e;rfl
theorem deathP_eq{laws:List Law}{s:St}{d:Deed}{last:Int}(hG:GoodSt s last)(hl:last<=d.day)(hw:zaA 16 (zbc laws d.day).num (zbc laws d.day).den=true):
 zdP laws s d=if zaP s d.frm then(s,28)else if s.graves.any (zc6 d.frm d.day)then
  (if(zfM d.frm d.day (zck s (zbc laws d.day) d.frm).1 s.graves (zck s (zbc laws d.day) d.frm).2).2 then(s,8)else
    ({s with graves:=(zfM d.frm d.day (zck s (zbc laws d.day) d.frm).1 s.graves (zck s (zbc laws d.day) d.frm).2).1,dead:=s.dead++[d.frm]},0))
  else({s with dead:=s.dead++[d.frm]},0):=by
 have hq:∀j g,s.graves[j]?=some g->zdv s d.frm d.day (0+j) g=zc6 d.frm d.day g:=fun j g hj=>by rw[Nat.zero_add];exact held_same hG hl hj
 obtain⟨e1,e2⟩:=zgd (s:=s) (n:=d.frm) (hG.wills d.frm) hw;have hn:=zl3 (s:=s) (n:=d.frm) (day:=d.day) (h:=zcO s (zbc laws d.day) d.frm) hq;unfold zdP;cases hd:zaP s d.frm
 ·simp only[Bool.false_eq_true,if_false];cases ha:s.graves.any (zc6 d.frm d.day)
  ·rw[hn.1 ha];simp
  ·simp only[if_true];cases he:zcO s (zbc laws d.day) d.frm with
   |none=>
    rw[he]at hn;rw[hn.2 rfl ha,if_pos (zgG (e2 he))]
   |some h=>
    have bL:=ze5 (hG.wills d.frm) hw he;obtain⟨f1,f2⟩:=zl2 (s:=s) (n:=d.frm) (day:=d.day) (h:=h) (fun p hp=>by have:=bL.1.pos p hp;grind) hq hG.graves;rw[e1 h he];cases hx:zb2 s d.frm d.day (some h) 0 s.graves with
    |none=>
     simp only;rw[if_pos (f2 hx)]
    |some gs=>
     simp only;rw[f1 gs hx];simp
 ·simp
def zbf(n:ByteArray)(day:Int):Nat->List Grave->List Nat
 |_,[]=>[]
 |k,g::l=>if zc6 n day g then k::zbf n day (k+1) l else zbf n day (k+1) l
theorem ziA(n:ByteArray)(day:Int):∀(k:Nat) (a b:List Grave),zbf n day k (a++b)=zbf n day k a++zbf n day (k+a.length) b
 |k,[],b=>by simp[zbf]
 |k,g::a,b=>by
  rw[List.cons_append,zbf,zbf,ziA n day (k+1) a b,List.length_cons];rw[show k+1+a.length=k+(a.length+1) by omega];split<;>simp
theorem held_snoc(n:ByteArray)(day:Int)(gs:List Grave){k:Nat}(h:k<gs.length):zbf n day 0 (gs.take (k+1))=zbf n day 0 (gs.take k)++if zc6 n day gs[k]then[k]else[]:=by
 rw[List.take_succ_eq_append_getElem h,ziA,Nat.zero_add,List.length_take,Nat.min_eq_left Mcq,zbf,zbf]
theorem zfC(n:ByteArray)(day:Int):∀(k:Nat) (l:List Grave),(zbf n day k l).length=(l.filter (zc6 n day)).length
 |_,[]=>rfl
 |k,g::l=>by
  rw[zbf,List.filter_cons];split<;>simp[zfC n day (k+1) l]
theorem znT(n:ByteArray)(day:Int):∀(l:List Grave) (k j i:Nat),(zbf n day k l)[j]?=some i->k<=i/\∃g,l[i-k]?=some g/\(l.filter (zc6 n day))[j]?=some g
 | [],k,j,i,h=>by simp[zbf]at h
 |g::l,k,j,i,h=>by
  rw[zbf]at h;rw[List.filter_cons];cases hq:zc6 n day g
  ·rw[hq]at h;simp only[Bool.false_eq_true,if_false]at h⊢;exact MaY
  ·rw[hq]at h;simp only[if_true]at h⊢;cases j with
   |zero=>
    simp only[List.getElem?_cons_zero,Option.some.injEq]at h;subst h;exact⟨Qc,g,by simp,by simp⟩
   |succ j=>
    simp only[List.getElem?_cons_succ]at h⊢;exact MaY
def zcY(n:ByteArray)(h:Parts):List Grave->Bool->List Grave×Bool
 | [],f=>([],f)
 |g::l,f=>(⟨g.place,g.cls,g.fin,(zd2 n h g f).1,g.died++[n]⟩::(zcY n h l (zd2 n h g f).2).1,(zcY n h l (zd2 n h g f).2).2)
theorem ziB(n:ByteArray)(h:Parts):∀(a b:List Grave) (f:Bool),zcY n h (a++b) f=((zcY n h a f).1++(zcY n h b (zcY n h a f).2).1,(zcY n h b (zcY n h a f).2).2)
 | [],b,f=>by simp[zcY]
 |g::a,b,f=>by
  rw[List.cons_append,zcY,ziB n h a b,zcY];simp
theorem next_snoc(n:ByteArray)(h:Parts)(l:List Grave)(f:Bool){k:Nat}(hk:k<l.length):zcY n h (l.take (k+1)) f=((zcY n h (l.take k) f).1++[⟨l[k].place,l[k].cls,l[k].fin,(zd2 n h l[k] (zcY n h (l.take k) f).2).1,l[k].died++[n]⟩],(zd2 n h l[k] (zcY n h (l.take k) f).2).2):=by
 rw[List.take_succ_eq_append_getElem hk,ziB,zcY,zcY]
theorem zk0(n:ByteArray)(h:Parts):∀(l:List Grave) (f:Bool),(zcY n h l f).1.length=l.length
 | [],_=>rfl
 |g::l,f=>by rw[zcY];simp[zk0 n h l]
def zd3:List Grave->List Nat->List Grave->List Grave
 |gs,i::H,x::X=>zd3 (gs.set i x) H X
 |gs,_,_=>gs
theorem ziC:∀(H:List Nat) (X:List Grave) (gs:List Grave) (i:Nat) (x:Grave),H.length=X.length->zd3 gs (H++[i]) (X++[x])=(zd3 gs H X).set i x
 | [],[],gs,i,x,_=>rfl
 | [],_::_,_,_,_,h=>by cases h
 |_::_,[],_,_,_,h=>by cases h
 |j::H,y::X,gs,i,x,h=>by
  rw[List.cons_append,List.cons_append,zd3,zd3];exact ziC H X _ i x Mdn
theorem zjJ:∀(H:List Nat) (X gs:List Grave),(zd3 gs H X).length=gs.length
 | [],_,_=>by simp[zd3]
 |_::_,[],_=>by simp[zd3]
 |j::H,y::X,gs=>by rw[zd3,zjJ H X];simp
theorem zgf(n:ByteArray)(day:Int)(h:Parts):∀(l A:List Grave) (f:Bool),zd3 (A++l) (zbf n day A.length l) (zcY n h (l.filter (zc6 n day)) f).1=A++(zfM n day h l f).1/\(zcY n h (l.filter (zc6 n day)) f).2=(zfM n day h l f).2
 | [],A,f=>by simp[zbf,zcY,zfM,zd3]
 |g::l,A,f=>by
  rw[zbf,List.filter_cons,zfM];cases hq:zc6 n day g
  ·simp only[Bool.false_eq_true,if_false];have:=zgf n day h l (A++[g]) f;rw[List.length_append,List.length_singleton,List.append_assoc,List.singleton_append]at this;exact⟨by rw[this.1];simp,this.2⟩
  ·simp only[if_true];rw[zcY,zd3];have:=zgf n day h l (A++[⟨g.place,g.cls,g.fin,(zd2 n h g f).1,g.died++[n]⟩]) (zd2 n h g f).2;rw[List.length_append,List.length_singleton,List.append_assoc,List.singleton_append]at this;have e:(A++g::l).set A.length ⟨g.place,g.cls,g.fin,(zd2 n h g f).1,g.died++[n]⟩=A++⟨g.place,g.cls,g.fin,(zd2 n h g f).1,g.died++[n]⟩::l:=by
    rw[List.set_append_right _ _ Qc,Nat.sub_self,List.set_cons_zero]
   exact⟨by rw[e,this.1];simp,this.2⟩
noncomputable def zd4 (laws:List Law) (upto:Int):List Deed->St->Nat->Int->St×Nat×Int
 | [],s,k,_=>(s,k,0)
 |d::l,s,k,last=>
  if zaC d==0&&decide (upto<d.day)then(s,k+(d::l).length,0)else
  if(zbt laws s k last d).2 != 0 then(s,k,(zbt laws s k last d).2)else zd4 laws upto l (zbt laws s k last d).1 (k+1) d.day
theorem zcr{laws:List Law}{s:St}{k:Nat}{last:Int}{d:Deed}(h:(zbt laws s k last d).2=0):zaC d=0/\k<60/\last<=d.day/\zbt laws s k last d=zbk laws s d:=by
 unfold zbt at h⊢;split at h
 ·rename_i hc
  have h:zaC d=0:=h;rw[h]at hc;exact absurd hc Mcu
 rename_i hc
 split at h
 ·simp at h
 rename_i hk
 split at h
 ·simp at h
 rename_i hl
 rw[if_neg hc,if_neg hk,if_neg hl];simp at hc hk hl;exact⟨hc,hk,hl,rfl⟩
theorem zjK{laws:List Law}{upto:Int}:∀ {ds:List Deed} {s told:St} {k:Nat} {last:Int},(zau laws upto ds s told k last).2.2=0->upto<last->(zau laws upto ds s told k last).1=told
 | [],s,told,k,last,_,_=>rfl
 |d::l,s,told,k,last,h,hl=>by
  rw[zau]at h⊢;split at h
  ·exact MaP
  ·rename_i hc
   rw[if_neg hc];have hn:=zcr (show(zbt laws s k last d).2=0 by simpa using hc);have hd:¬decide (d.day<=upto)=true:=Mcw;rw[if_neg hd]at h⊢;exact zjK h Mcq
theorem zl4{laws:List Law}{upto:Int}:∀ {ds:List Deed} {s:St} {k:Nat} {last:Int},(zau laws upto ds s s k last).2.2=0->
 (zd4 laws upto ds s k last).1=(zau laws upto ds s s k last).1/\(zd4 laws upto ds s k last).2.2=0
 | [],s,k,last,_=>⟨rfl,rfl⟩
 |d::l,s,k,last,h=>by
  rw[zau]at h⊢;split at h
  ·exact MaP
  ·rename_i hc
   rw[if_neg hc];have h0:(zbt laws s k last d).2=0:=Mdt;have hn:=zcr h0;rw[zd4];by_cases hd:d.day<=upto
   ·have e1:decide (d.day<=upto)=true:=by simpa using hd
    have e2:¬(zaC d==0&&decide (upto<d.day))=true:=Mcw;rw[if_pos e1]at h⊢;rw[if_neg e2,if_neg hc];exact zl4 h
   ·have e1:¬decide (d.day<=upto)=true:=by simpa using hd
    have e2:(zaC d==0&&decide (upto<d.day))=true:=by simp[hn.1];omega
    rw[if_neg e1]at h⊢;rw[if_pos e2];exact⟨(zjK h Mcq).symm,rfl⟩
theorem znU{laws:List Law}{upto:Int}(hu:200000<=upto):∀ {ds:List Deed} {s:St} {k:Nat} {last:Int},
 (zd4 laws upto ds s k last).2=(zau laws upto ds s s k last).2
 | [],s,k,last=>rfl
 |d::l,s,k,last=>by
  rw[zd4,zau];have h1:¬(zaC d==0&&decide (upto<d.day))=true:=by
   intro h;simp only[Bool.and_eq_true,beq_iff_eq,decide_eq_true_eq]at h;have:=(zcP h.1).day;omega
  rw[if_neg h1];split
  ·rfl
  ·rename_i hc
   have hn:=zcr (show(zbt laws s k last d).2=0 by simpa using hc);have:=(zcP hn.1).day;rw[if_pos Mcw];exact znU hu
theorem zl5{laws:List Law}{upto:Int}(bc:za9 laws=0):∀ {ds:List Deed} {s:St} {k:Nat} {last:Int},GoodSt s last->last<=upto->∃b,b<=upto/\GoodSt (zd4 laws upto ds s k last).1 b
 | [],s,k,last,h,hl=>⟨last,hl,h⟩
 |d::l,s,k,last,h,hl=>by
  rw[zd4];split
  ·exact⟨last,hl,h⟩
  ·rename_i h1
   split
   ·exact⟨last,hl,h⟩
   ·rename_i hc
    have hn:=zcr (show(zbt laws s k last d).2=0 by simpa using hc);have hd:=zcP hn.1;have h2:d.day<=upto:=by
     rw[hn.1]at h1;simp at h1;exact h1
    have ht:zbk laws s d=((zbt laws s k last d).1,0):=by
     rw[<-hn.2.2.2];exact Prod.ext rfl Mdt
    exact zl5 bc (zf6 h hd hn.2.2.1 bc ht) h2
end
open Go.RowKit Go.Shelf
theorem zl6(a b:ByteArray):zaf a b=zaf b a:=by rw[Bool.eq_iff_iff,za3,za3];exact⟨Eq.symm,Eq.symm⟩
theorem zd5(xs:List ByteArray)(s:ByteArray)(A:Option Addr)(c:Nat)(w:World)(hl:xs.length<=100000)(hc:xs.length<=c)(hS:Sl w 1 sC A xs):
 Calls Tryz.prog 127 #[.slice A xs.length c,.string s] w (Ret0 w (.bool (xs.any (zaf s)))):=by
 have HS:=zHi hS;obtain⟨R,hR⟩:=Qd ((xs.drop 0).any (zaf s))
 rw[show xs.any (zaf s)=R from by rw[hR];rfl];have HR:=zHi hR;clear hS hR;go_enter Tryz.func127,Tryz.ntmps127
 go_wp2_with fail
 go_loopw [5] (fun i wr=>∃j:Nat,j<=xs.length/\i=.int .i64 j/\w=wr/\Hid (R=(xs.drop j).any (zaf s))) (fun i _=>xs.length-(intOf i).toNat)
 case atStart=>exact⟨0,Nat.zero_le _,rfl,rfl,HR.o⟩
 case round=>
  obtain⟨j,hj,rfl,rfl,HX⟩:=hrel;by_cases aa:j<xs.length
  ·obtain⟨b,off,rfl,hb,ah⟩:=HS.o.at aa;have hx:=HX.o;rw[List.drop_eq_getElem_cons aa,List.any_cons]at hx;obtain⟨ax,ak⟩:=yH2 hx aa;generalize xs[j]=x at*;have x0:w.cell? ⟨b,off+j,none⟩=some (.string x):=Mc7;have cA:(j:Int)<(xs.length:Int):=Mcq;have sW:(0:Int)<=(j:Int):=Mcq;clear hx ah aa;cases he:(x.toList==s.toList)
   ·have mH:zaf s x=false:=by rw[zl6];exact he
    have iJ:=zHi mH;clear mH;go_wp2_with fail
    go_round
    case rel=>exact⟨j+1,ak.o,by go_num,by first|exact True.intro|rfl,by show _=_;rw[ax.o,iJ.o,Bool.false_or]⟩
    case measure=>have:=ak.o;simp only[intOf];omega
   ·have mH:zaf s x=true:=by rw[zl6];exact he
    have iJ:=zHi mH;clear mH;go_wp2_with fail
    go_ret
    exact⟨by rw[ax.o,iJ.o,Bool.true_or];rfl,rfl⟩
  ·have AR:¬((j:Int)<(xs.length:Int)):=Mcq;have hx:=HX.o;rw[List.drop_of_length_le Mcq,List.any_nil]at hx;have ax:=zHi hx;clear hx;go_wp2_with fail
   go_ret
   exact⟨by rw[ax.o];rfl,rfl⟩
theorem zeE(dd:List ByteArray)(n:ByteArray)(LA CA MA DA WA RA GA:Option Addr)(n0 c0 n1 c1 n2 c2 n3 c3 n4 c4 n5 c5 n6 c6:Nat)(w:World)(hl:dd.length<=100000)(hc:dd.length<=c3)(hS:Sl w 1 sC DA dd):
 Calls Tryz.prog 80 #[.agg #[.slice LA n0 c0,.slice CA n1 c1,.slice MA n2 c2,.slice DA dd.length c3,.slice WA n4 c4,.slice RA n5 c5,.slice GA n6 c6],.string n] w (Ret w (.bool (dd.any (zaf n)))):=by
 have rk:=zHi (fun W (h:Qa w W)=>zd5 dd n DA c3 W hl hc (hS.keep h));generalize dd.any (zaf n)=R at*;clear hS;go_enter Tryz.func80,Tryz.ntmps80
 go_wp2_with (go_at_call 127;go_must(refine(rk.o _ Bw).mono ?_);rintro e wq ⟨rfl,rfl⟩)
 go_ret
 exact Ret.of rfl Bw
def zdj(cs:List (ByteArray×ByteArray))(n:ByteArray):List ByteArray:=(cs.filter fun c=>zaf c.1 n).map (·.2)
theorem kids_snoc{cs:List (ByteArray×ByteArray)}{n:ByteArray}{k:Nat}(h:k<cs.length):zdj (cs.take (k+1)) n=zdj (cs.take k) n++(if zaf cs[k].1 n then[cs[k].2]else[]):=by
 unfold zdj;rw[List.take_add_one,List.getElem?_eq_getElem h,List.filter_append,List.map_append];simp only[Option.toList_some,List.filter_cons,List.filter_nil];cases zaf cs[k].1 n<;>rfl
def zd6(w:World)(xs:List ByteArray)(e:Ending)(w':World):Prop:= ∃v,e=.returned v/\OwnS w' w.heap.size 9 1 sC v xs/\Qa w w'
theorem zgg{w:World}{b:Nat}{t:TypeId}{fr:Nat×Nat}{x:ByteArray}(h:w.heap[b]?=some (.cells #[.string x] t fr)):Sl w 1 sC (some ⟨b,0,none⟩) [x]:=fun _=>
 ⟨b,0,rfl,zab h,fun k y hk j u hu=>by
   match k,hk with
   |0,hk=>
    obtain rfl:x=y:=by simpa using hk
    simp only[World.cell?,h];match j,hu with
    |0,hu=>exact hu⟩
theorem zgH(cs:List (ByteArray×ByteArray))(n:ByteArray)(LA CA MA DA WA RA GA:Option Addr)(n0 c0 n1 c1 n2 c2 n3 c3 n4 c4 n5 c5 n6 c6:Nat)(w:World)(hl:cs.length<=100000)(hS:Sl w 2 zaX CA cs):
 Calls Tryz.prog 128 #[.agg #[.slice LA n0 c0,.slice CA cs.length c1,.slice MA n2 c2,.slice DA n3 c3,.slice WA n4 c4,.slice RA n5 c5,.slice GA n6 c6],.string n] w (zd6 w (zdj cs n)):=by
 have fH:=zHi hS;unfold zd6;clear hS;go_enter Tryz.func128,Tryz.ntmps128
 go_upto_region 1 with fail
 obtain⟨W0,am⟩:=Qd (w.alloc (.cells #[.slice LA n0 c0,.slice CA cs.length c1,.slice MA n2 c2,.slice DA n3 c3,.slice WA n4 c4,.slice RA n5 c5,.slice GA n6 c6] 35))
 have b0:W0.heap[w.heap.size]?=some (.cells #[.slice LA n0 c0,.slice CA cs.length c1,.slice MA n2 c2,.slice DA n3 c3,.slice WA n4 c4,.slice RA n5 c5,.slice GA n6 c6] 35):=Mdg;have aS:Qa w W0:=Mc1;rw[<-am];obtain⟨aj,HS⟩:=yH2 aS (fH.o.keep aS);obtain⟨-,k1⟩:=cF2 b0;have l0:=zab b0;clear am b0 aS fH;go_upto_region 3 with fail
 go_loopw [5,6] (fun v i wr=>∃k:Nat,k<=cs.length/\i=.int .i64 k/\OwnS wr W0.heap.size 9 1 sC v (zdj (cs.take k) n)/\Qa W0 wr) (fun _ i _=>cs.length-(intOf i).toNat)
 case atStart=>exact⟨0,Nat.zero_le _,rfl,OwnS.nil,Qb⟩
 case round=>
  obtain⟨k,hk,rfl,ac,hB⟩:=hrel;have aW:=hB.size;obtain⟨HO,HB⟩:=yH2 ac hB;have d1:wr.cell? ⟨w.heap.size,1,none⟩=some (.slice CA cs.length c1):=(zah hB l0).trans k1;by_cases aa:k<cs.length
  ·have ai:=kids_snoc (n:=n) aa;have bX:(zdj (cs.take k) n).length<=100000:=by
    unfold zdj;rw[List.length_map];exact MaV
   generalize zdj (cs.take k) n=xs at*;obtain⟨VA,vc,rfl,_,kf⟩:=ac.sl zaH;obtain⟨b,off,rfl,hb,ah⟩:=(HS.o.keep hB).at aa;have ak:=zHi aa;generalize cs[k]=x at*;obtain⟨nm,kd⟩:=x;have i0:wr.cell? ⟨b,off+k*2,none⟩=some (.string nm):=ah 0 _ rfl;have i1:wr.cell? ⟨b,off+k*2+1,none⟩=some (.string kd):=ah 1 _ rfl;have ar:(k:Int)<(cs.length:Int):=Mcq;have aR:(0:Int)<=(k:Int):=Mcq;have iS:=zHi bX;clear ah aa ac hB bX;cases hs:zaf nm n
   ·have aA:Hid (zdj (cs.take (k+1)) n=xs):=Md3;have bk:(nm.toList==n.toList)=false:=hs;exact MaN
   ·have aA:Hid (zdj (cs.take (k+1)) n=xs++[kd]):=Md3;have bk:(nm.toList==n.toList)=true:=hs;clear ai hs
    go_wp2_with (at_builtin
                 go_loud(refine zas (v:=.slice VA xs.length vc) (n:=xs.length) (m:=1) rfl _ _ rfl zbJ zaH zbI rfl (xs:=xs) (ys:=[kd]) (HO.o.keep (n:=wr.heap.size) Bw) rfl rfl rfl (zgg (zat _ _ _ rfl)) McX Mc4 Mcw ?_)
                 intro v3 w3 h1 h2 h3;have av:=Below.grown (B:=W0.heap.size) (a:=W0) (HB.o.trans (Below.mono (B:=wr.heap.size) (zad Qb _) aW)) h2 Mcw (fun j hj=>(HO.o.ge j hj).1);obtain⟨H1,aJ⟩:=yH2 h1 av
                 clear h1 h2 h3 av)
    exact Maf
  ·have ar:¬(k:Int)<(cs.length:Int):=Mcq;rw[List.take_of_length_le Mcq]at HO;clear ac hB;go_wp2_with fail
   go_ret
   exact⟨_,rfl,HO.o.base_le aj.o.size,aj.o.trans (HB.o.mono aj.o.size)⟩
def ixI{α:Type}(p:α->Bool)(l:List α)(k:Nat):Int:=match(l.drop k).findIdx? p with
 |none=> -1
 |some i=>((k+i:Nat):Int)
theorem ixI_step{α:Type}{p:α->Bool}{l:List α}{k:Nat}(h:k<l.length):ixI p l k=if p l[k]then(k:Int)else ixI p l (k+1):=by
 unfold ixI;rw[List.drop_eq_getElem_cons h,List.findIdx?_cons];cases hs:p l[k]
 ·rw[if_neg Mcv,if_neg Mcv];cases(l.drop (k+1)).findIdx? p with
  |none=>rfl
  |some i=>
   simp only[Option.map_some];omega
 ·rw[if_pos rfl,if_pos rfl];simp
theorem ixI_end{α:Type}{p:α->Bool}{l:List α}{k:Nat}(h:¬k<l.length):ixI p l k= -1:=by
 unfold ixI;rw[List.drop_of_length_le Mcq];rfl
def zl7(place:ByteArray)(day:Int)(g:Grave):Bool:=zaf g.place place&&zaO g day
def zk1(gs:List Grave)(place:ByteArray)(day:Int):Int:=ixI (zl7 place day) gs 0
theorem znV(s:St)(place:ByteArray)(day:Int):zk1 s.graves place day=match zaS s place day with
 |none=> -1
 |some i=>(i:Int):=by
 unfold zk1 ixI zaS;rw[List.drop_zero];show(match s.graves.findIdx? (zl7 place day)with|none=>(-1:Int)|some i=>((0+i:Nat):Int))=match s.graves.findIdx? (zl7 place day)with|none=>(-1:Int)|some i=>(i:Int)
 cases s.graves.findIdx? (zl7 place day)with
 |none=>rfl
 |some i=>simp
theorem zo8(gs:List Grave)(place:ByteArray)(day:Int)(LA CA MA DA WA RA GA:Option Addr)(n0 c0 n1 c1 n2 c2 n3 c3 n4 c4 n5 c5 n6 c6:Nat)(w:World)(hl:gs.length<=100000)(hS:SlW w 5 zia GA gs):
 Calls Tryz.prog 116 #[.agg #[.slice LA n0 c0,.slice CA n1 c1,.slice MA n2 c2,.slice DA n3 c3,.slice WA n4 c4,.slice RA n5 c5,.slice GA gs.length c6],.string place,.int .i64 day] w (Ret w (.int .i64 (zk1 gs place day))):=by
 have fH:=zHi hS;obtain⟨R,hR⟩:=Qd (zk1 gs place day)
 rw[<-hR];have HR:=zHi hR;clear hS hR;go_enter Tryz.func116,Tryz.ntmps116
 go_upto_region 1 with fail
 obtain⟨W0,am⟩:=Qd (w.alloc (.cells #[.slice LA n0 c0,.slice CA n1 c1,.slice MA n2 c2,.slice DA n3 c3,.slice WA n4 c4,.slice RA n5 c5,.slice GA gs.length c6] 35))
 have b0:W0.heap[w.heap.size]?=some (.cells #[.slice LA n0 c0,.slice CA n1 c1,.slice MA n2 c2,.slice DA n3 c3,.slice WA n4 c4,.slice RA n5 c5,.slice GA gs.length c6] 35):=Mdg;have aS:Qa w W0:=Mc1;rw[<-am];obtain⟨aj,HS⟩:=yH2 aS (fH.o.keep zfX aS);obtain⟨-,-,-,-,-,-,k1⟩:=cF7 b0;have l0:=zab b0;clear am b0 aS fH;go_upto_region 2 with fail
 go_loopw [7,8] (fun i _ wr=>∃k:Nat,k<=gs.length/\i=.int .i64 k/\Hid (R=ixI (zl7 place day) gs k)/\Qa W0 wr) (fun i _ _=>gs.length-(intOf i).toNat)
 case atStart=>exact⟨0,Nat.zero_le _,rfl,HR.o,Qb⟩
 case round=>
  obtain⟨k,hk,rfl,HX,hB⟩:=hrel;have aW:=hB.size;have HB:=zHi hB;have d1:wr.cell? ⟨w.heap.size,6,none⟩=some (.slice GA gs.length c6):=(zah hB l0).trans k1;by_cases aa:k<gs.length
  ·obtain⟨b,off,cs,hA,hb,hr,ah⟩:=(HS.o.keep zfX hB).at aa;have hx:=HX.o;rw[ixI_step aa]at hx;obtain⟨ax,ak⟩:=yH2 hx aa;generalize gs[k]=x at*;obtain⟨H,hc,D,dc,rfl,_,_⟩:=hr;obtain⟨pl,cl,fi,hd,di⟩:=x;subst hA;have i0:=ah 0 _ rfl;have i1:=ah 1 _ rfl;have i2:=ah 2 _ rfl;have i3:=ah 3 _ rfl;have i4:=ah 4 _ rfl;simp only[Nat.add_zero]at i0 i1 i2 i3 i4;have ar:(k:Int)<(gs.length:Int):=Mcq;have aR:(0:Int)<=(k:Int):=Mcq;clear ah aa hB hx;go_upto_region 5 with fail
   obtain⟨WZ,kv⟩:=Qd (wr.alloc (.cells #[.string pl,.int .i64 cl,.int .i64 fi,.slice H hd.length hc,.slice D di.length dc] 161))
   have a0:WZ.heap[wr.heap.size]?=some (.cells #[.string pl,.int .i64 cl,.int .i64 fi,.slice H hd.length hc,.slice D di.length dc] 161):=Mer;have fU:Qa W0 WZ:=by rw[kv];exact zad HB.o _
   rw[<-kv];have dH:=zHi fU;obtain⟨p0,-,p2,p3⟩:=cF4 a0;clear kv a0 fU i0 i1 i2 i3 i4;cases cU:zaf pl place
   ·have bk:(pl.toList==place.toList)=false:=cU;exact MP
   ·have bk:(pl.toList==place.toList)=true:=cU;by_cases hz:0<hd.length
    ·have ny:(0:Int)<(hd.length:Int):=Mcq;have nz:hd.isEmpty=false:=by cases hd<;>simp_all
     by_cases hf:fi<0
     ·exact Max
     ·by_cases hy:day<fi
      ·exact Max
      ·exact MP
    ·have ny:¬(0:Int)<(hd.length:Int):=Mcq;have nz:hd.isEmpty=true:=by cases hd<;>simp_all
     exact MP
  ·have ar:¬(k:Int)<(gs.length:Int):=Mcq;have HE:Hid (R= -1):=by show _=_;rw[HX.o,ixI_end aa]
   clear hB;go_wp2_with fail
   go_ret
   exact Ret.of (zcd HE.o.symm) (aj.o.trans (HB.o.mono aj.o.size))
theorem zhS(w:World):Calls Tryz.prog 72 #[] w (Ret w (.agg #[.int .i64 1,.int .i64 1])):=by
 go_enter Tryz.func72,Tryz.ntmps72
 go_wp2_with fail
 refine bodyPost_ret (v:=.agg #[.int .i64 1,.int .i64 1]) ?_ rfl ?_
 ·refine zaT rfl _ _ w.heap.size _ _ rfl ?_ ?_
  ·simp[go_sem]
  ·simp[go_sem]
 ·exact Ret.of rfl Bw
theorem rQuoI(a b c d:Int)(w:World)(ha:a.natAbs<=1000000000)(hb:b.natAbs<=1000000000)(hc:c.natAbs<=1000000000)(hd:d.natAbs<=1000000000)(aN:0<b)(fW:0<d)(iU:0<c):Calls Tryz.prog 126 #[.agg #[.int .i64 a,.int .i64 b],.agg #[.int .i64 c,.int .i64 d]] w (Ret w (zaD (Rat.divInt (a*d) (b*c)))):=by
 have m1:=zaQ ha hd;have m2:=zaQ hc hb;have m3:=zaQ hb hd;have m4:0<b*d:=Int.mul_pos aN fW;obtain⟨m1,n1⟩:=m1;obtain⟨m2,n2⟩:=m2;obtain⟨m3,n3⟩:=m3;have w1:IntKind.i64.wrap (a*d)=a*d:=IntWalk.i64_in _ Mcq;have w2:IntKind.i64.wrap (c*b)=c*b:=IntWalk.i64_in _ Mcq;have w3:IntKind.i64.wrap (b*d)=b*d:=IntWalk.i64_in _ Mcq;have m5:=zaQ ha hc;obtain⟨m5,n5⟩:=m5;have m6:=zaQ hb hc;obtain⟨m6,n6⟩:=m6;have w5:IntKind.i64.wrap (a*c)=a*c:=IntWalk.i64_in _ Mcq;have w6:IntKind.i64.wrap (b*c)=b*c:=IntWalk.i64_in _ Mcq;have hs:(a*d).natAbs<=4611686018427387904:=Mcq;have hl:(b*c)<=4611686018427387904:=Mcq;have h4:0<(b*c):=Int.mul_pos aN iU;obtain⟨HS,HL,H4⟩:=yH3 hs hl h4;clear hs hl m4 h4 ha hb hc hd;go_enter Tryz.func126,Tryz.ntmps126
 go_wp2_with (go_at_call 63;go_must(refine(ze7 _ _ _ HS.o H4.o HL.o).mono ?_);rintro e w1 ⟨rfl,z1,rfl⟩;simp only[zaD])
 refine bodyPost_ret (v:=zaD (Rat.divInt (a*d) (b*c))) ?_ rfl ?_
 ·refine zaT rfl _ _ _ _ _ rfl ?_ ?_
  ·simp[go_sem]
  ·simp[go_sem]
 ·exact Ret.of rfl Bw
theorem rQuo_any(p q:Rat)(w:World)(ck:zaL p)(dR:zaL q)(h0:0<q):Calls Tryz.prog 126 #[zaD p,zaD q] w (Ret w (zaD (p/q))):=by
 rw[zjz p q h0];exact rQuoI _ _ _ _ _ ck.1 (by have:=ck.2;omega) dR.1 (by have:=dR.2;omega) (zbS p) (zbS q) (by have:=(Rat.lt_iff 0 q).1 h0;simpa using this)
def renT(n frm:ByteArray)(d:Deed):Bool:=zaf d.frm n&&zaf (zbh d) frm
def ableR(rd:List Deed)(dd:List ByteArray)(n frm:ByteArray):Bool:=!rd.any (renT n frm)&&(!noB n&&(!zaf n frm&&!dd.any (zaf n)))
theorem ableR_eq(s:St)(rd:List Deed)(h:s.renounce=rd.map fun d=>(d.frm,zbh d))(n frm:ByteArray):ableR rd s.dead n frm=zeb s n frm:=by
 unfold ableR zeb zaP;rw[h,List.any_map];show(!rd.any (renT n frm)&&(!noB n&&(!zaf n frm&&!s.dead.any (zaf n))))=(!noB n&&!zaf n frm&&!s.dead.any (zaf n)&&!rd.any (renT n frm))
 cases rd.any (renT n frm)<;>cases noB n<;>cases zaf n frm<;>cases s.dead.any (zaf n)<;>rfl
theorem rAble_any(rd:List Deed)(dd:List ByteArray)(n frm:ByteArray)(LA CA MA DA WA RA GA:Option Addr)(n0 c0 n1 c1 n2 c2 n3 c3 n4 c4 n5 c5 n6 c6:Nat)(w:World)(hl:rd.length<=100000)(fP:∀d∈rd,d.to≠[])(hS:SlW w 7 zfL RA rd)(br:dd.length<=100000)(kA:dd.length<=c3)(hD:Sl w 1 sC DA dd):
 Calls Tryz.prog 159 #[.agg #[.slice LA n0 c0,.slice CA n1 c1,.slice MA n2 c2,.slice DA dd.length c3,.slice WA n4 c4,.slice RA rd.length c5,.slice GA n6 c6],.string n,.string frm] w (Ret w (.bool (ableR rd dd n frm))):=by
 obtain⟨fH,JD,ie⟩:=yH3 hS fP (fun W (h:Qa w W)=>zeE dd n LA CA MA DA WA RA GA n0 c0 n1 c1 n2 c2 dd.length c3 n4 c4 rd.length c5 n6 c6 W br kA (hD.keep h));obtain⟨R,hR⟩:=Qd (ableR rd dd n frm)
 rw[<-hR];obtain⟨D,FU⟩:=Qd (dd.any (zaf n))
 unfold ableR at hR;rw[<-FU]at hR ie;have HR:Hid (R=(!(rd.drop 0).any (renT n frm)&&(!noB n&&(!zaf n frm&&!D)))):=Mej;clear hS hR fP hD FU;go_enter Tryz.func159,Tryz.ntmps159
 go_upto_region 1 with fail
 obtain⟨W0,am⟩:=Qd (w.alloc (.cells #[.slice LA n0 c0,.slice CA n1 c1,.slice MA n2 c2,.slice DA dd.length c3,.slice WA n4 c4,.slice RA rd.length c5,.slice GA n6 c6] 35))
 have b0:W0.heap[w.heap.size]?=some (.cells #[.slice LA n0 c0,.slice CA n1 c1,.slice MA n2 c2,.slice DA dd.length c3,.slice WA n4 c4,.slice RA rd.length c5,.slice GA n6 c6] 35):=Mdg;have aS:Qa w W0:=Mc1;rw[<-am];obtain⟨aj,HS⟩:=yH2 aS (fH.o.keep zbP aS);obtain⟨k0,k1,k2,k3,k4,k5,k6⟩:=cF7 b0;clear am b0 aS fH;go_upto_region 2 with fail
 go_loopw [7] (fun i wr=>∃k:Nat,k<=rd.length/\i=.int .i64 k/\W0=wr/\Hid (R=(!(rd.drop k).any (renT n frm)&&(!noB n&&(!zaf n frm&&!D))))) (fun i _=>rd.length-(intOf i).toNat)
 case atStart=>exact⟨0,Nat.zero_le _,rfl,rfl,HR.o⟩
 case round=>
  obtain⟨k,hk,rfl,rfl,HX⟩:=hrel;by_cases aa:k<rd.length
  ·obtain⟨b,off,cs,rfl,hb,hr,ah⟩:=HS.o.at aa;have hx:=HX.o;rw[List.drop_eq_getElem_cons aa,List.any_cons]at hx;have ag:=JD.o _ (List.getElem_mem aa);obtain⟨ax,ak⟩:=yH2 hx aa;generalize rd[k]=x at*;obtain⟨B,c,hc,rfl,hP⟩:=hr;obtain⟨kd,dy,pl,fr,ts,cl,yr⟩:=x;simp only at ag hc hP ah;cases ts with
   |nil=>exact absurd rfl ag
   |cons p ts=>
    obtain⟨tb,tof,rfl,Ij,uI⟩:=hP.at (k:=0) (Nat.succ_pos _);obtain⟨pn,pu,pd⟩:=p;have t0:W0.cell? ⟨tb,tof,none⟩=some (.string pn):=MdG;have dA:zbh ⟨kd,dy,pl,fr,⟨pn,pu,pd⟩::ts,cl,yr⟩=pn:=rfl;have i3:=ah 3 _ rfl;have i4:=ah 4 _ rfl;have ar:(k:Int)<(rd.length:Int):=Mcq;have aR:(0:Int)<=(k:Int):=Mcq;generalize ci:(⟨pn,pu,pd⟩::ts:List RPart).length=ln at*;have jA:(0:Int)<(ln:Int):=by rw[<-ci];simp
    have Ek:0<ln:=Mcq;clear ah aa hx ag hP uI ci hc;cases ee:zaf fr n
    ·have bk:(fr.toList==n.toList)=false:=ee;have HE:Hid (R=(!(rd.drop (k+1)).any (renT n frm)&&(!noB n&&(!zaf n frm&&!D)))):=by show _=_;rw[ax.o];simp[renT,ee]
     go_wp2_with fail
     exact MJ
    ·have bk:(fr.toList==n.toList)=true:=ee;cases eA:zaf pn frm
     ·have yN:(pn.toList==frm.toList)=false:=eA;have HE:Hid (R=(!(rd.drop (k+1)).any (renT n frm)&&(!noB n&&(!zaf n frm&&!D)))):=by show _=_;rw[ax.o];simp[renT,dA,eA]
      go_wp2_with fail
      exact MJ
     ·have yN:(pn.toList==frm.toList)=true:=eA;have HE:Hid (R=false):=by show _=_;rw[ax.o];simp[renT,dA,ee,eA]
      exact Ma6
  ·have ar:¬(k:Int)<(rd.length:Int):=Mcq;have hx:=HX.o;rw[List.drop_of_length_le Mcq]at hx;have ax:=zHi hx;clear hx;cases z1:noB n
   ·have y1:n.toList.isEmpty=false:=z1;have w1:¬n.toList=[]:=by simpa using y1
    cases ee:zaf n frm
    ·have bk:(n.toList==frm.toList)=false:=ee;have HE:Hid (R=!D):=by show _=_;rw[ax.o,z1,ee];simp
     go_wp2_with (go_at_call 80;go_must(refine(ie.o _ Mdf).mono ?_);rintro e wq ⟨rfl,z,rfl⟩)
     go_ret
     exact Ret.of (zaR HE.o.symm) (zaZ aj.o z)
    ·have bk:(n.toList==frm.toList)=true:=ee;have HE:Hid (R=false):=by show _=_;rw[ax.o,z1,ee];simp
     exact Ma6
   ·have y1:n.toList.isEmpty=true:=z1;have w1:n.toList=[]:=by simpa using y1
    have HE:Hid (R=false):=by show _=_;rw[ax.o,z1];simp
    exact Ma6
def zmL(dd:List ByteArray)(p:RPart):Bool:=dd.any (zaf p.name)
theorem zk2(l:List RPart)(A:Option Addr)(c:Nat)(dd:List ByteArray)(LA CA MA DA WA RA GA:Option Addr)(n0 c0 n1 c1 n2 c2 n3 c3 n4 c4 n5 c5 n6 c6:Nat)(w:World)(hl:l.length<=1000000)(hS:Sl w 3 RPart.cells A l)(br:dd.length<=100000)(kA:dd.length<=c3)(hD:Sl w 1 sC DA dd):
 Calls Tryz.prog 117 #[.agg #[.slice LA n0 c0,.slice CA n1 c1,.slice MA n2 c2,.slice DA dd.length c3,.slice WA n4 c4,.slice RA n5 c5,.slice GA n6 c6],.slice A l.length c] w (Ret w (.bool (l.any (zmL dd)))):=by
 obtain⟨fH,ie⟩:=yH2 hS (fun x W (h:Qa w W)=>zeE dd x LA CA MA DA WA RA GA n0 c0 n1 c1 n2 c2 dd.length c3 n4 c4 n5 c5 n6 c6 W br kA (hD.keep h));obtain⟨R,hR⟩:=Qd (l.any (zmL dd))
 rw[<-hR];have HR:Hid (R=(l.drop 0).any (zmL dd)):=Mej;clear hS hD hR;go_enter Tryz.func117,Tryz.ntmps117
 go_upto_region 1 with fail
 obtain⟨W0,am⟩:=Qd (w.alloc (.cells #[.slice LA n0 c0,.slice CA n1 c1,.slice MA n2 c2,.slice DA dd.length c3,.slice WA n4 c4,.slice RA n5 c5,.slice GA n6 c6] 35))
 have b0:W0.heap[w.heap.size]?=some (.cells #[.slice LA n0 c0,.slice CA n1 c1,.slice MA n2 c2,.slice DA dd.length c3,.slice WA n4 c4,.slice RA n5 c5,.slice GA n6 c6] 35):=Mdg;have aS:Qa w W0:=Mc1;rw[<-am];obtain⟨aj,HS⟩:=yH2 aS (fH.o.keep aS);have m8:=aS.size;have l0:=zab b0
 have HC:=zHi (fun(W':World) (h:Qa W0 W')=>(show W'.cell? ⟨w.heap.size,0,none⟩=some (.slice LA n0 c0)/\W'.cell? ⟨w.heap.size,1,none⟩=some (.slice CA n1 c1)/\W'.cell? ⟨w.heap.size,2,none⟩=some (.slice MA n2 c2)/\W'.cell? ⟨w.heap.size,3,none⟩=some (.slice DA dd.length c3)/\W'.cell? ⟨w.heap.size,4,none⟩=some (.slice WA n4 c4)/\W'.cell? ⟨w.heap.size,5,none⟩=some (.slice RA n5 c5)/\W'.cell? ⟨w.heap.size,6,none⟩=some (.slice GA n6 c6) from by
  refine⟨?_,?_,?_,?_,?_,?_,?_⟩<;>(refine(zah h l0).trans ?_;simp only[World.cell?,b0];rfl)))
 clear am b0 aS fH;go_upto_region 2 with fail
 go_loopw [5] (fun i wr=>∃k:Nat,k<=l.length/\i=.int .i64 k/\Hid (R=(l.drop k).any (zmL dd))/\Qa W0 wr) (fun i _=>l.length-(intOf i).toNat)
 case atStart=>exact⟨0,Nat.zero_le _,rfl,HR.o,Qb⟩
 case round=>
  obtain⟨k,hk,rfl,HX,hB⟩:=hrel;have HB:=zHi hB;have aW:=hB.size;have bY:w.heap.size<wr.heap.size:=Mcq;obtain⟨d0,d1,d2,d3,d4,d5,d6⟩:=HC.o _ hB;by_cases aa:k<l.length
  ·obtain⟨b,off,rfl,hb,ah⟩:=(HS.o.keep hB).at aa;have hx:=HX.o;rw[List.drop_eq_getElem_cons aa,List.any_cons]at hx;obtain⟨ax,ak⟩:=yH2 hx aa;generalize l[k]=x at*;obtain⟨nm,nu,de⟩:=x;have i0:wr.cell? ⟨b,off+k*3,none⟩=some (.string nm):=ah 0 _ rfl;have ar:(k:Int)<(l.length:Int):=Mcq;have aR:(0:Int)<=(k:Int):=Mcq;have vW:=zHi (aj.o.trans (hB.mono m8));have gu:=zHi (fun W (h:Qa wr W)=>ie.o nm W (vW.o.trans (h.mono vW.o.size)));clear ah hx aa hB;cases hd:dd.any (zaf nm)
   ·have HE:Hid (R=(l.drop (k+1)).any (zmL dd)):=by show _=_;rw[ax.o];unfold zmL;rw[hd];rfl
    rw[hd]at gu;clear hd;go_upto_region 4 with fail
    (refine zam Mcs Mcs ?_
     repeat(first|go_big_quiet_skip|(go_big_quiet_want;go_big_quiet_op;first|go_big_quiet_on|(apply Exists.intro;refine⟨fun _=>?_,?_⟩;(go_at_call 80;exact quietx (gu.o _ Bw));go_big_quiet_on)))
     refine wpQuiet_nil ?_
     rintro _ ⟨zq,rfl⟩)
    go_wp2_with fail
    go_round
    case rel=>exact⟨k+1,ak.o,by go_num,HE.o,zaZ HB.o zq⟩
    case measure=>have:=ak.o;simp only[intOf];omega
   ·have HE:Hid (R=true):=by show _=_;rw[ax.o];unfold zmL;rw[hd];rfl
    rw[hd]at gu;clear hd;go_upto_region 4 with fail
    (refine zam Mcs Mcs ?_
     repeat(first|go_big_quiet_skip|(go_big_quiet_want;go_big_quiet_op;first|go_big_quiet_on|(apply Exists.intro;refine⟨fun _=>?_,?_⟩;(go_at_call 80;exact quietx (gu.o _ Bw));go_big_quiet_on)))
     refine wpQuiet_nil ?_
     rintro _ ⟨zq,rfl⟩)
    go_wp2_with fail
    go_ret
    exact Ret.of (zaR HE.o.symm) (zaZ vW.o zq)
  ·have ar:¬(k:Int)<(l.length:Int):=Mcq;have HE:Hid (R=false):=by show _=_;rw[HX.o,List.drop_of_length_le Mcq];rfl
   clear hB;go_wp2_with fail
   go_ret
   exact Ret.of (zaR HE.o.symm) (aj.o.trans (HB.o.mono m8))
def zfp(d:Deed):Bool:=!(decide (20<d.place.size)||decide (20<d.frm.size)||decide (10<d.to.length))&&d.to.all fun p=>!decide (20<p.name.size)
def fewP(ls:List Law)(ds:List Deed):Bool:=!(decide (12<ls.length)||decide (14<ds.length))&&ds.all zfp
theorem zo9{d:Deed}(h:zfp d=true):zdE d:=by
 unfold zfp at h;simp at h;obtain⟨⟨⟨h1,h2⟩,h3⟩,h4⟩:=h;exact⟨by omega,by omega,fun p hp=>by have:=h4 p hp;omega,by omega⟩
theorem few_lens{ls:List Law}{ds:List Deed}(h:fewP ls ds=true):(∀d∈ds,zdE d)/\ls.length<=12/\ds.length<=14/\(∀d∈ds,d.to.length<=10):=by
 unfold fewP at h;simp at h;obtain⟨⟨h1,h2⟩,h3⟩:=h;refine⟨fun d hd=>zo9 (h3 d hd),h1,h2,fun d hd=>?_⟩;have:=h3 d hd;unfold zfp at this;simp at this;exact this.1.2
theorem brief_any(d:Deed)(B:Option Addr)(c:Nat)(w:World)(hc:d.to.length<=c)(hS:Sl w 3 RPart.cells B d.to):
 Calls Tryz.prog 15 #[d.v B c] w (Ret w (.bool (zfp d))):=by
 obtain⟨kd,dy,pl,fr,ts,cl,yr⟩:=d;have HS:=zHi hS;obtain⟨R,hR⟩:=Qd (zfp ⟨kd,dy,pl,fr,ts,cl,yr⟩)
 rw[<-hR];unfold zfp at hR;unfold Deed.v;simp only at hR hc hS⊢;clear hS;go_enter Tryz.func15,Tryz.ntmps15
 by_cases l1:20<pl.size
 ·have HE:Hid (R=false):=by show _=_;rw[hR,decide_eq_true l1];rfl
  have q1:(20:Int)<(pl.size:Int):=Mcq;exact Maj
 have q1:¬(20:Int)<(pl.size:Int):=Mcq;by_cases l2:20<fr.size
 ·have HE:Hid (R=false):=by show _=_;rw[hR,decide_eq_true l2];simp
  have q2:(20:Int)<(fr.size:Int):=Mcq;exact Maj
 have q2:¬(20:Int)<(fr.size:Int):=Mcq;by_cases l3:10<ts.length
 ·have HE:Hid (R=false):=by show _=_;rw[hR,decide_eq_true l3];simp
  have q3:(10:Int)<(ts.length:Int):=Mcq;exact Maj
 have q3:¬(10:Int)<(ts.length:Int):=Mcq;have vM:Hid (R=(ts.drop 0).all fun p=>!decide (20<p.name.size)):=by
  show _=_;rw[hR,decide_eq_false l1,decide_eq_false l2,decide_eq_false l3,List.drop_zero];rfl
 clear hR;go_upto_region 3 with fail
 have k4:(w.alloc (.cells #[.int .i64 kd,.int .i64 dy,.string pl,.string fr,.slice B ts.length c,.int .i64 cl,.int .i64 yr] 28)).cell? ⟨w.heap.size,4,none⟩=some (.slice B ts.length c):=Mc0;have hB:Qa w (w.alloc (.cells #[.int .i64 kd,.int .i64 dy,.string pl,.string fr,.slice B ts.length c,.int .i64 cl,.int .i64 yr] 28)):=Bw;generalize w.alloc (.cells #[.int .i64 kd,.int .i64 dy,.string pl,.string fr,.slice B ts.length c,.int .i64 cl,.int .i64 yr] 28)=W at*;obtain⟨tY,HB⟩:=yH2 (HS.o.keep hB) hB;clear hB HS;go_upto_region 4 with fail
 go_loopw [3] (fun i wr=>∃k:Nat,k<=ts.length/\i=.int .i64 k/\W=wr/\Hid (R=(ts.drop k).all fun p=>!decide (20<p.name.size))) (fun i _=>ts.length-(intOf i).toNat)
 case atStart=>exact⟨0,Nat.zero_le _,rfl,rfl,vM.o⟩
 case round=>
  obtain⟨k,hk,rfl,rfl,HX⟩:=hrel;by_cases aa:k<ts.length
  ·obtain⟨b,off,rfl,hb,ah⟩:=tY.o.at aa;have hx:=HX.o;rw[List.drop_eq_getElem_cons aa,List.all_cons]at hx;obtain⟨ax,ak⟩:=yH2 hx aa;generalize ts[k]=x at*;obtain⟨nm,nu,de⟩:=x;have i0:W.cell? ⟨b,off+k*3,none⟩=some (.string nm):=ah 0 _ rfl;have ar:(k:Int)<(ts.length:Int):=Mcq;have aR:(0:Int)<=(k:Int):=Mcq;clear ah hx aa;by_cases l5:20<nm.size
   ·have HE:Hid (R=false):=by show _=_;rw[ax.o];simp[l5]
    have q5:(20:Int)<(nm.size:Int):=Mcq;exact MV
   ·have q5:¬(20:Int)<(nm.size:Int):=Mcq;have HE:Hid (R=(ts.drop (k+1)).all fun p=>!decide (20<p.name.size)):=by show _=_;rw[ax.o];simp[l5]
    go_wp2_with fail
    exact MJ
  ·have ar:¬(k:Int)<(ts.length:Int):=Mcq;have HE:Hid (R=true):=by show _=_;rw[HX.o,List.drop_of_length_le Mcq];rfl
   exact MV
theorem few_any(ls:List Law)(ds:List Deed)(LA:Option Addr)(n nc:Nat)(DA:Option Addr)(m mc:Nat)(w:World)(hR:RightsIn w ls ds LA n nc DA m mc):
 Calls Tryz.prog 5 #[.agg #[.slice LA n nc,.slice DA m mc]] w (Ret w (.bool (fewP ls ds))):=by
 obtain⟨rfl,rfl,Er,I0,_,hD⟩:=hR;have HD:=zHi hD;obtain⟨R,hR⟩:=Qd (fewP ls ds)
 rw[<-hR];unfold fewP at hR;clear hD;go_enter Tryz.func5,Tryz.ntmps5
 by_cases l1:12<ls.length
 ·have HE:Hid (R=false):=by show _=_;rw[hR,decide_eq_true l1];rfl
  have q1:(12:Int)<(ls.length:Int):=Mcq;exact Maj
 have q1:¬(12:Int)<(ls.length:Int):=Mcq;by_cases l2:14<ds.length
 ·have HE:Hid (R=false):=by show _=_;rw[hR,decide_eq_true l2];simp
  have q2:(14:Int)<(ds.length:Int):=Mcq;exact Maj
 have q2:¬(14:Int)<(ds.length:Int):=Mcq;have vM:Hid (R=(ds.drop 0).all zfp):=by
  show _=_;rw[hR,decide_eq_false l1,decide_eq_false l2,List.drop_zero];rfl
 clear hR;go_upto_region 3 with fail
 have k4:(w.alloc (.cells #[.slice LA ls.length nc,.slice DA ds.length mc] 25)).cell? ⟨w.heap.size,1,none⟩=some (.slice DA ds.length mc):=Mc0;have hB:Qa w (w.alloc (.cells #[.slice LA ls.length nc,.slice DA ds.length mc] 25)):=Bw;have hsz:w.heap.size<(w.alloc (.cells #[.slice LA ls.length nc,.slice DA ds.length mc] 25)).heap.size:=Mcv;generalize w.alloc (.cells #[.slice LA ls.length nc,.slice DA ds.length mc] 25)=W at*;obtain⟨jL,HB⟩:=yH2 (HD.o.keep zbP hB) hB;clear hB HD;go_upto_region 4 with fail
 go_loopw [3] (fun i wr=>∃k:Nat,k<=ds.length/\i=.int .i64 k/\Hid (R=(ds.drop k).all zfp)/\Qa W wr) (fun i _=>ds.length-(intOf i).toNat)
 case atStart=>exact⟨0,Nat.zero_le _,rfl,vM.o,Qb⟩
 case round=>
  obtain⟨k,hk,rfl,HX,nL⟩:=hrel;have j4:wr.cell? ⟨w.heap.size,1,none⟩=some (.slice DA ds.length mc):=(zah nL hsz).trans k4;have mA:=nL.size;by_cases aa:k<ds.length
  ·obtain⟨b,off,cs,hA,hb,hr,ah⟩:=(jL.o.keep zbP nL).at aa;have hx:=HX.o;rw[List.drop_eq_getElem_cons aa,List.all_cons]at hx;obtain⟨ax,ak⟩:=yH2 hx aa;generalize ds[k]=x at*;obtain⟨B,c,hc,rfl,hS⟩:=hr;have tM:=zHi (fun W' (h:Qa wr W')=>brief_any x B c W' hc (hS.keep h));unfold Deed.v at tM;subst hA;have i0:=ah 0 _ rfl;have i1:=ah 1 _ rfl;have i2:=ah 2 _ rfl;have i3:=ah 3 _ rfl;have i4:=ah 4 _ rfl;have i5:=ah 5 _ rfl;have i6:=ah 6 _ rfl;simp only[Nat.add_zero]at i0;have ar:(k:Int)<(ds.length:Int):=Mcq;have aR:(0:Int)<=(k:Int):=Mcq;have aU:=zHi nL;generalize zfp x=q at*;clear ah hx aa hS nL;cases q
   ·have HE:Hid (R=false):=MdH;go_wp2_with (go_at_call 15;go_must(refine(tM.o _ Bw).mono ?_);rintro e wq ⟨rfl,z,rfl⟩)
    go_ret
    exact Ret.of (zaR HE.o.symm) (HB.o.trans ((aU.o.trans (Below.mono (B:=wr.heap.size) Bw mA)).mono HB.o.size))
   ·have HE:Hid (R=(ds.drop (k+1)).all zfp):=MdH;go_wp2_with (go_at_call 15;go_must(refine(tM.o _ Bw).mono ?_);rintro e wq ⟨rfl,z,rfl⟩)
    go_round
    case rel=>exact⟨k+1,ak.o,by go_num,HE.o,aU.o.trans (Below.mono (B:=wr.heap.size) Bw mA)⟩
    case measure=>have:=ak.o;simp only[intOf];omega
  ·have ar:¬(k:Int)<(ds.length:Int):=Mcq;have HE:Hid (R=true):=by show _=_;rw[HX.o,List.drop_of_length_le Mcq];rfl
   have aU:=zHi nL;clear nL;go_wp2_with fail
   go_ret
   exact Ret.of (zaR HE.o.symm) (HB.o.trans (aU.o.mono HB.o.size))
