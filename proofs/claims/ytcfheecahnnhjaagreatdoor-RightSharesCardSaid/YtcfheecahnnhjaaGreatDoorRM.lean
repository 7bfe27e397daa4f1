import Derived.Test.YtcfheecahnnhjaaGreatDoorE3
set_option linter.all false
set_option maxRecDepth 100000
set_option maxHeartbeats 4000000
namespace Go.Proofs.YtcfheecahnnhjaaGreatDoor
open Go.RowKit
attribute [local go_sem] World.cell?_alloc_mark zag za4 zar zaB zaw zax zay zaz za0 za1 za2
structure FewS (k:Nat) (s:St):Prop where
 graves:s.graves.length<=k
 kids:s.children.length<=k
 marr:s.marriages.length<=k
 dead:s.dead.length<=k
 ren:s.renounce.length<=k
 wills:∀n,(zbx s n).length<=8
 held:∀g∈s.graves,g.holders.length<=80*k/\g.died.length<=k/\g.fin<=200000
theorem zkG(day years:Int):zcj day years<=200000:=by
 unfold zcj zbV;simp only;split
 ·decide
 ·split
  ·rename_i h
   have:=(zf0.1 h).2;omega
  ·decide
theorem zg8:FewS 0 zb4:=⟨Nat.le_refl _,Nat.le_refl _,Nat.le_refl _,Nat.le_refl _,Nat.le_refl _,fun n=>by simp[zb4,zbx],by simp[zb4]⟩
theorem FewS.up{k:Nat}{s:St}(h:FewS k s):FewS (k+1) s:=
 ⟨Nat.le_succ_of_le h.graves,Nat.le_succ_of_le h.kids,Nat.le_succ_of_le h.marr,Nat.le_succ_of_le h.dead,Nat.le_succ_of_le h.ren,h.wills,fun g hg=>by have:=h.held g hg;exact⟨by omega,by omega,this.2.2⟩⟩
theorem zdY(l:Parts)(n:ByteArray):(zau l n).length<=l.length:=List.length_filter_le _ _
theorem zkH{own:Rat}:∀ {l out o:Parts},zbC own l out=some o->o.length<=out.length+l.length
 | [],out,o,h=>by
   rw[zbC]at h;cases h;simp
 |p::l,out,o,h=>by
  rw[zbC]at h;split at h
  ·cases h
  split at h
  ·cases h
  have:=zkH h;have h2:=zc1 p.1 (own*p.2) out;simp;omega
theorem FewS.withG{k:Nat}{s:St}{i:Nat}{g g':Grave}(h:FewS k s)(hi:s.graves[i]?=some g)(h1:g'.holders.length<=80*k+80)(h2:g'.died.length<=k+1)(h3:g'.fin<=200000):FewS (k+1) (s.withGrave i g'):=by
 refine {h.up with graves:= ?_,held:=fun x hx=>?_}
 ·unfold St.withGrave;simp only[List.length_set];exact Nat.le_succ_of_le h.graves
 ·unfold St.withGrave at hx;rcases List.mem_or_eq_of_mem_set hx with hx|rfl
  ·exact h.up.held x hx
  ·exact⟨by omega,h2,h3⟩
theorem zh1{s:St}{pl:ByteArray}{day:Int}{i:Nat}(h:zaL s pl day=some i):∃g,s.graves[i]?=some g/\s.graves.getD i zfa=g/\g∈s.graves:=by
 obtain⟨g,h1,_⟩:=zbO h;exact⟨g,h1,zf1 h1,List.mem_of_getElem? h1⟩
theorem zkI{laws:List Law}{s s':St}{d:Deed}{last:Int}{k:Nat}(h:FewS k s)(hk:k<60)(hG:GoodSt s last)(hd:OkD d)(hl:last<=d.day)(bp:zaC laws=0)(ht:zbr laws s d=(s',0)):FewS (k+1) s':=by
 have nP:=hd.len;have bV:=hd.kind;unfold zbr at ht;split at ht
 ·unfold zcT at ht;split at ht
  ·simp at ht
  split at ht
  ·simp at ht
  split at ht
  ·simp at ht
  simp only[Prod.mk.injEq,and_true]at ht;rw[<-ht];refine {h.up with graves:= ?_,held:=fun g hg=>?_}
  ·have:=h.graves;simp;omega
  ·rcases List.mem_append.1 hg with hg|hg
   ·exact h.up.held g hg
   ·rw[List.mem_singleton.1 hg];have:=zfl d.to [];simp only[List.length_nil]at this⊢;refine⟨by omega,Nat.zero_le _,?_⟩;split
    ·exact zkG _ _
    ·decide
 split at ht
 ·unfold zbs at ht;split at ht
  ·simp at ht
  rename_i i hi
  obtain⟨g,bz,cj,pN⟩:=zh1 hi;rw[cj]at ht;simp only at ht;split at ht
  ·simp at ht
  split at ht
  ·simp at ht
  split at ht
  ·simp at ht
  split at ht
  ·simp at ht
  split at ht
  ·simp at ht
  rename_i out ho
  simp only[Prod.mk.injEq,and_true]at ht;rw[<-ht];have h1:=zkH ho;have h2:=zc1 d.frm (zaf g.holders d.frm*(1-sumQ (zan d.to))) (zau g.holders d.frm);have h3:=zdY g.holders d.frm;have h4:=h.held g pN;have h5:(zan d.to).length=d.to.length:=by unfold zan;simp
  exact h.withG bz MdS MdS MdS
 split at ht
 ·unfold zba at ht;split at ht
  ·simp at ht
  rename_i i hi
  obtain⟨g,bz,cj,pN⟩:=zh1 hi;rw[cj]at ht;simp only at ht;split at ht
  ·simp at ht
  split at ht
  ·simp at ht
  simp only[Prod.mk.injEq,and_true]at ht;rw[<-ht];have h3:=zdY g.holders d.frm;have h4:=h.held g pN;exact h.withG bz (by simp only[List.length_map];omega) MdS MdS
 split at ht
 ·unfold zdf at ht;split at ht
  ·simp at ht
  rename_i i hi
  obtain⟨g,bz,cj,pN⟩:=zh1 hi;rw[cj]at ht;simp only at ht;split at ht
  ·simp at ht
  split at ht
  ·simp at ht
  simp only[Prod.mk.injEq,and_true]at ht;rw[<-ht];have h4:=h.held g pN;exact h.withG bz MdS MdS (zkG _ _)
 split at ht
 ·unfold zgP at ht;split at ht
  ·simp at ht
  simp only[Prod.mk.injEq,and_true]at ht;rw[<-ht];refine {h.up with wills:=fun n=>?_};rw[zfN];split
  ·unfold zan;simpa using nP
  ·exact h.wills n
 split at ht
 ·unfold zbD at ht;split at ht
  ·simp at ht
  split at ht
  ·simp at ht
  simp only[Prod.mk.injEq,and_true]at ht;rw[<-ht];exact {h.up with ren:=by have:=h.ren;simp;omega}
 split at ht
 ·unfold zcI at ht;split at ht
  ·simp at ht
  split at ht
  ·simp at ht
  split at ht
  ·simp at ht
  simp only[Prod.mk.injEq,and_true]at ht;rw[<-ht];exact {h.up with kids:=by have:=h.kids;simp;omega}
 split at ht
 ·unfold zdv at ht;split at ht
  ·simp at ht
  split at ht
  ·simp at ht
  simp only[Prod.mk.injEq,and_true]at ht;rw[<-ht];exact {h.up with marr:=by have:=h.marr;simp;omega}
 ·unfold zdQ at ht;split at ht
  ·simp at ht
  split at ht
  ·simp at ht
  rename_i gs aL
  simp only[Prod.mk.injEq,and_true]at ht;rw[<-ht];obtain⟨ag,gX⟩:=zm4 aL;refine {h.up with graves:=by have:=h.graves;simp only;omega,dead:=by have:=h.dead;simp;omega,held:=fun x hx=>?_};obtain⟨i,hi⟩:=List.mem_iff_getElem?.1 hx;obtain⟨g,g1,g2⟩:=gX i x hi;have h4:=h.held g (List.mem_of_getElem? g1);rcases g2 with⟨rfl,_⟩|⟨_,hs,out,e1,e2,rfl⟩
  ·exact h.up.held x (List.mem_of_getElem? g1)
  ·have h1:=zkH e2;have h3:=zdY g.holders d.frm;have bQ:=zfe bp d.day;have bG:=ze9 (hG.wills d.frm) bQ e1;have jn:=(zfS (s:=s) (n:=d.frm) (hG.wills d.frm) bQ).1 hs e1;have ko:=ziN (s:=s) (law:=zbc laws d.day) (n:=d.frm) (by rw[jn];exact bG.1);rw[jn]at ko;have:=h.wills d.frm;have:=h.kids;simp only[List.length_append,List.length_singleton]at*;exact⟨by omega,by omega,h4.2.2⟩
def ekSp(s:Spot):Value:=.agg #[.string s.1,.int .i64 s.2]
theorem equal_sp(a:ByteArray)(c:Int)(a':ByteArray)(c':Int)(w:World):(Op.equal 167 (.agg #[.string a,.int .i64 c]) (.agg #[.string a',.int .i64 c'])).run Tryz.prog w=.ok (zae a a'&&c==c') w:=by
 simp only[Op.equal,Op.maxDepth];go_simp
 unfold zae;by_cases h1:a.toList=a'.toList<;>by_cases h2:c=c'<;>simp[h1,h2]
theorem zoW(v:Value)(e:MapEntry)(es:List MapEntry)(fs:Array Field)(i:Nat):Instr.findNow (.struct fs) v (e::es) i=none:=by
 unfold Instr.findNow;cases v<;>simp[Instr.sameNow]
theorem zg9{V:Type}(ev:V->Value)(p:Spot)(w:World):∀(es:List MapEntry) (m:List (Spot×V)),es.map (fun e=>(e.key,e.val))=m.map (fun p=>(ekSp p.1,ev p.2))->∀i,
 (Instr.findAsking 167 (ekSp p) es i).run Tryz.prog w=.ok ((locate eqSp p m i).map fun p=>(p.1,ev p.2)) w
 | [],[],_,_=>by simp[Instr.findAsking,locate]
 | [],_::_,h,_=>by simp at h
 |_::_,[],h,_=>by simp at h
 |e::es,q::m,h,i=>by
  simp only[List.map_cons,List.cons.injEq,Prod.mk.injEq]at h;obtain⟨⟨hk,hv⟩,ht⟩:=h;unfold Instr.findAsking locate;have h1:=equal_sp p.1 p.2 q.1.1 q.1.2 w;have h2:=zg9 ev p w es m ht (i+1);rw[hk,hv];simp only[ekSp]at h1 h2⊢;simp only[Sem.run_bind,h1,Result.andThen_ok];change Sem.run _ (if(eqSp p q.1)=true then _ else _) w=_;cases hq:eqSp p q.1
  ·simpa using h2
  ·simp
theorem zmX(e:Bool)(p:Spot)(w:World):(Instr.checkKey e 10000 167 (ekSp p)).run Tryz.prog w=.ok () w:=by
 obtain⟨a,c⟩:=p;cases e<;>kernel_rfl
theorem zmY(a:ByteArray)(c:Int):Instr.sameBits 10000 (.agg #[.string a,.int .i64 c]) (.agg #[.string a,.int .i64 c])=true:=by
 have h2:∀n,Instr.sameBits (n+1) (.agg #[.string a,.int .i64 c]) (.agg #[.string a,.int .i64 c])=true:=fun n=>by
  have h:∀n (k:IntKind) (x:Int),Instr.sameBits n (.int k x) (.int k x)=true:=fun n k x=>by cases n<;>simp[Instr.sameBits]
  simp[Instr.sameBits,zgM,beq_toListBytes,h]
 exact h2 9999
theorem zog{V:Type}{t et:TypeId}{ev:V->Value}{z:V}(ht:Tryz.prog.underlying t=some (.map 167 et))(hz:∀w,(zeroValue et).run Tryz.prog w=.ok (ev z) w):MapTy Tryz.prog t 167 et ekSp ev z eqSp where
 ht:=ht
 hz:=hz
 hck:=zmX
 hfind:=fun k es m h w=>by
  have hu:∃fs,Tryz.prog.underlying 167=some (.struct fs):=⟨_,Tryz.underlying167⟩
  obtain⟨fs,hu⟩:=hu;match es,m,h with
  | [],[],_=>simp[Instr.findKey,run_underlying hu,Instr.findNow,locate]
  | [],_::_,h=>simp at h
  |e::es,m,h=>
   simp only[Instr.findKey,Sem.run_bind,run_underlying hu,Result.andThen_ok,zoW];exact zg9 ev k w (e::es) m h 0
 hsame:=fun k k' h=>by
  have e:=zfA.1 h;subst e;exact zmY k.1 k.2
theorem mapPV:MapTy Tryz.prog 164 167 3 ekSp (fun v:Value=>v) (.int .i64 0) eqSp:=zog Tryz.underlying164 (fun w=>by kernel_rfl)
theorem mapPM:MapTy Tryz.prog 165 167 77 ekSp (fun v:Value=>v) (.map none) eqSp:=zog Tryz.underlying165 (fun w=>by kernel_rfl)
theorem zmZ(n:ByteArray)(w:World):(Instr.lookup 77 (.map none) (.string n) false).run Tryz.prog w=.ok (.bool false) w:=by
 kernel_rfl
theorem zjQ{K V:Type}{eq:K->K->Bool}{k:K}:∀ {m:List (K×V)} {i j:Nat} {v:V},locate eq k m i=some (j,v)->(m[j-i]?).map (·.2)=some v
 | [],_,_,_,h=>by cases h
 |p::l,i,j,v,h=>by
  unfold locate at h;split at h
  ·simp only[Option.some.injEq,Prod.mk.injEq]at h;obtain⟨rfl,rfl⟩:=h;simp
  ·obtain⟨h1,_⟩:=zdP h;have e:j-i=(j-(i+1))+1:=Mcu;rw[e];simpa using zjQ h
theorem zkJ{P:Program}{t kt et:TypeId}{K:Type}{ek:K->Value}{z:Value}{eq:K->K->Bool}{w:World}{b:Nat}{m:List (K×Value)}(T:MapTy P t kt et ek (fun v:Value=>v) z eq)(h:MapS w b ek (fun v:Value=>v) m)(k:K):
 ∃w' st j,(Instr.mapEntry t (.map (some b)) (ek k)).run P w=.ok (.tuple #[(mget eq k m).getD z,.int .i64 (st:Nat)]) w'/\StampAt w' b ek (mput eq k ((mget eq k m).getD z) m) j st/\(∀v,(mput eq k ((mget eq k m).getD z) m).set j (k,v)=mput eq k v m)/\((mput eq k ((mget eq k m).getD z) m)[j]?).map (·.1)=some k/\w.grownBy w' (some b)/\w'.heap.size=w.heap.size:=by
 obtain⟨es,c,hh,hm,hb,hn⟩:=h;have h1:=T.hfind k es.toList m hm w;have ae:=(Array.getElem?_eq_some_iff.1 hh).1;have eE:=zfv eq k m 0;cases hl:locate eq k m 0 with
 |none=>
  rw[hl]at eE;rw[<-eE];have hp:=fun v'=>ze3 hl v'
  refine⟨_,c,m.length,?_,?_,?_,by rw[hp];simp,zgg w b (.map (es.push {key:=ek k,val:=z,born:=c}) (c+1)),by simp⟩
  ·simp[Instr.mapEntry,run_underlying T.ht,zbA hh,T.hck,h1,hl,T.hz,zer hh,Result.andThen];rfl
  ·refine⟨es.push {key:=ek k,val:=z,born:=c},c+1,by simp[Array.getElem?_setIfInBounds,ae],?_,?_,?_,?_⟩
   ·rw[hp];simp[hm]
   ·intro e he;rw[Array.toList_push]at he;rcases List.mem_append.1 he with he|he
    ·have:=hb e he;omega
    ·rw[List.mem_singleton.1 he];exact Nat.lt_succ_self c
   ·rw[Array.toList_push,List.map_append,List.nodup_append];refine⟨hn,by simp,?_⟩;intro x hx y hy;obtain⟨e,he,rfl⟩:=List.mem_map.1 hx;simp only[List.map_cons,List.map_nil,List.mem_singleton]at hy;have:=hb e he;omega
   ·have ag:es.size=m.length:=by simpa using congrArg List.length hm
    rw[<-ag];simp
  ·intro v;rw[hp,hp,List.set_append_right _ _ (Nat.le_refl _)];simp
 |some p=>
  obtain⟨j,u⟩:=p;rw[hl]at eE;rw[<-eE];have sI:=zjQ hl;obtain⟨_,q,hq,he,eZ⟩:=zdP hl;simp only[Nat.sub_zero]at hq eZ sI;rw[hq]at sI;simp only[Option.map_some,Option.some.injEq]at sI;have hj:j<m.length:=(List.getElem?_eq_some_iff.1 hq).1;have ag:es.toList.length=m.length:=by simpa using congrArg List.length hm
  have cE:j<es.size:=by
   have h0:es.size=m.length:=by simpa using ag
   omega
  have mI:(es[j]).key=ek q.1:=by
   have:=congrArg (fun l=>l[j]?) hm;simp[List.getElem?_map,hq,cE]at this;exact this.1
  have fN:(es[j]).val=u:=by
   have:=congrArg (fun l=>l[j]?) hm;simp[List.getElem?_map,hq,cE]at this;rw[<-sI];exact this.2
  have cC:(es.modify j fun e=> {e with key:=ek k}).toList.map (·.born)=es.toList.map (·.born):=by
   apply List.ext_getElem?;intro i;simp only[List.getElem?_map,Array.getElem?_toList,Array.getElem?_modify];by_cases cP:j=i
   ·subst cP;simp[cE,Array.getElem?_eq_getElem cE]
   ·simp[cP]
  refine⟨_,(es[j]).born,j,?_,?_,?_,by rw[eZ];simp[hj],zgg w b (.map (es.modify j fun e=> {e with key:=ek k}) c),by simp⟩
  ·simp[Instr.mapEntry,run_underlying T.ht,zbA hh,T.hck,h1,hl,Instr.keyThatStays,Array.getElem?_eq_getElem cE,mI,T.hsame _ _ he,zer hh,Result.andThen];rfl
  ·rw[Option.map_some,Option.getD_some,eZ];refine⟨es.modify j fun e=> {e with key:=ek k},c,by simp[Array.getElem?_setIfInBounds,ae],?_,?_,by rw[cC];exact hn,?_⟩
   ·apply List.ext_getElem?;intro i;have fI:=congrArg (fun l=>l[i]?) hm;simp only[List.getElem?_map,Array.getElem?_toList]at fI;simp only[List.getElem?_map,Array.getElem?_toList,Array.getElem?_modify,List.getElem?_set];by_cases cP:j=i
    ·subst cP;simp[cE,hj,Array.getElem?_eq_getElem cE,fN]
    ·simp[cP,fI]
   ·intro e he;have h2:e.born∈(es.modify j fun e=> {e with key:=ek k}).toList.map (·.born):=List.mem_map.2 ⟨e,he,rfl⟩;rw[cC]at h2;obtain⟨e',mz,jg⟩:=List.mem_map.1 h2;rw[<-jg];exact hb e' mz
   ·simp[Array.getElem?_modify,Array.getElem?_eq_getElem cE]
  ·intro v;rw[Option.map_some,Option.getD_some,eZ,eZ,List.set_set]
theorem StampAt.mapAt{w:World}{b:Nat}{K:Type}{ek:K->Value}{m:List (K×Value)}{j st:Nat}(h:StampAt w b ek m j st):MapAt w b ek (fun v:Value=>v) m:=by
 obtain⟨es,c,h1,h2,_⟩:=h;exact⟨es,c,h1,h2⟩
theorem zjR{α:Type}{p0 p:α}:∀ {l:List α} {i:Nat},l[i]?=some p0->p∈l->p=p0\/p∈l.eraseIdx i
 | [],_,_,h=>by cases h
 |x::l,0,h,hp=>by
  simp only[List.getElem?_cons_zero,Option.some.injEq]at h;rcases List.mem_cons.1 hp with e|hp
  ·exact .inl (e.trans h)
  ·exact .inr hp
 |x::l,i+1,h,hp=>by
  simp only[List.getElem?_cons_succ]at h;rw[List.eraseIdx_cons_succ];rcases List.mem_cons.1 hp with e|hp
  ·exact .inr (by simp[e])
  ·rcases zjR h hp with k|k
   ·exact .inl k
   ·exact .inr (by simp[k])
theorem zoX{α:Type}{l:List α}{k:Nat}(h:k<l.length):l.take (k+1)=l.take k++[l[k]]:=List.take_succ_eq_append_getElem h
theorem ziP{P:Program}{ops:Array Oper}{o:Oper}{a:Act}{w:World}{K:Act->World->Prop}{Q:Exit->Act->World->Prop}{E:Prop}{T:TypeId}(bG:o.guard=none)(x i u:Operand)(ho:o.op=.mapUpdate T x i u)(vx vi vu:Value)(hx:a.eval x=vx)(hi:a.eval i=vi)(hu:a.eval u=vu)(w':World)
 (hrun:(Instr.mapUpdate T vx vi vu).run P w=.ok () w')(h:K (a.put o.dst undef) w'):if Region.wanted o (yielded ops a.tmps)=true then Oper.wp P o a w K Q else E:=by
 exact M9
open Go.Shelf
attribute [local go_sem] zas zad
def ixI{α:Type}(p:α->Bool)(l:List α)(k:Nat):Int:=match(l.drop k).findIdx? p with
 |none=> -1
 |some i=>((k+i:Nat):Int)
theorem ixI_step{α:Type}{p:α->Bool}{l:List α}{k:Nat}(h:k<l.length):ixI p l k=if p l[k]then(k:Int)else ixI p l (k+1):=by
 unfold ixI;rw[List.drop_eq_getElem_cons h,List.findIdx?_cons];cases hs:p l[k]
 ·rw[if_neg Mcx,if_neg Mcx];cases(l.drop (k+1)).findIdx? p with
  |none=>rfl
  |some i=>
   simp only[Option.map_some];omega
 ·rw[if_pos rfl,if_pos rfl];simp
theorem ixI_end{α:Type}{p:α->Bool}{l:List α}{k:Nat}(h:¬k<l.length):ixI p l k= -1:=by
 unfold ixI;rw[List.drop_of_length_le Mcu];rfl
def zlV(place:ByteArray)(day:Int)(g:Grave):Bool:=zae g.place place&&zaR g day
def zkK(gs:List Grave)(place:ByteArray)(day:Int):Int:=ixI (zlV place day) gs 0
theorem zoh(s:St)(place:ByteArray)(day:Int):zkK s.graves place day=match zaL s place day with
 |none=> -1
 |some i=>(i:Int):=by
 unfold zkK ixI zaL;rw[List.drop_zero];show(match s.graves.findIdx? (zlV place day)with|none=>(-1:Int)|some i=>((0+i:Nat):Int))=match s.graves.findIdx? (zlV place day)with|none=>(-1:Int)|some i=>(i:Int)
 cases s.graves.findIdx? (zlV place day)with
 |none=>rfl
 |some i=>simp
theorem zoY(gs:List Grave)(place:ByteArray)(day:Int)(LA CA MA DA WA RA GA:Option Addr)(n0 c0 n1 c1 n2 c2 n3 c3 n4 c4 n5 c5 n6 c6:Nat)(w:World)(hl:gs.length<=100000)(hS:SlW w 5 zhZ GA gs):
 Calls Tryz.prog 35 #[.agg #[.slice LA n0 c0,.slice CA n1 c1,.slice MA n2 c2,.slice DA n3 c3,.slice WA n4 c4,.slice RA n5 c5,.slice GA gs.length c6],.string place,.int .i64 day] w (Ret w (.int .i64 (zkK gs place day))):=by
 have fh:=zHi hS;obtain⟨R,hR⟩:∃R,R=zkK gs place day:=⟨_,rfl⟩
 rw[<-hR];have HR:=zHi hR;clear hS hR;go_enter Tryz.func35,Tryz.ntmps35
 go_upto_region 1 with fail
 obtain⟨W0,ak⟩:∃W0,W0=w.alloc (.cells #[.slice LA n0 c0,.slice CA n1 c1,.slice MA n2 c2,.slice DA n3 c3,.slice WA n4 c4,.slice RA n5 c5,.slice GA gs.length c6] 44):=⟨_,rfl⟩
 have b0:W0.heap[w.heap.size]?=some (.cells #[.slice LA n0 c0,.slice CA n1 c1,.slice MA n2 c2,.slice DA n3 c3,.slice WA n4 c4,.slice RA n5 c5,.slice GA gs.length c6] 44):=Mdm;have aE:Below w.heap.size w W0:=Mc5;rw[<-ak];obtain⟨aj,HS⟩:=yH2 aE (fh.o.keep zfL aE);obtain⟨-,-,-,-,-,-,k1⟩:=cF7 b0;have l0:=zab b0;clear ak b0 aE fh;go_upto_region 2 with fail
 go_loopw [7,8] (fun i _ wr=>∃k:Nat,k<=gs.length/\i=.int .i64 k/\Hid (R=ixI (zlV place day) gs k)/\Below W0.heap.size W0 wr) (fun i _ _=>gs.length-(intOf i).toNat)
 case atStart=>exact⟨0,Nat.zero_le _,rfl,HR.o,Below.refl _ _⟩
 case round=>
  obtain⟨k,hk,rfl,HX,hB⟩:=hrel;have aI:=hB.size;have HB:=zHi hB;have d1:wr.cell? ⟨w.heap.size,6,none⟩=some (.slice GA gs.length c6):=(zah hB l0).trans k1;by_cases ae:k<gs.length
  ·obtain⟨b,off,cs,hA,hb,hr,ah⟩:=(HS.o.keep zfL hB).at ae;have hx:=HX.o;rw[ixI_step ae]at hx;obtain⟨av,am⟩:=yH2 hx ae;generalize gs[k]=x at*;obtain⟨H,hc,D,dc,rfl,_,_⟩:=hr;obtain⟨pl,cl,fi,hd,di⟩:=x;subst hA;have i0:=ah 0 _ rfl;have i1:=ah 1 _ rfl;have i2:=ah 2 _ rfl;have i3:=ah 3 _ rfl;have i4:=ah 4 _ rfl;simp only[Nat.add_zero]at i0 i1 i2 i3 i4;have ar:(k:Int)<(gs.length:Int):=Mcu;have aT:(0:Int)<=(k:Int):=Mcu;clear ah ae hB hx;go_upto_region 5 with fail
   obtain⟨WZ,fq⟩:∃WZ,WZ=wr.alloc (.cells #[.string pl,.int .i64 cl,.int .i64 fi,.slice H hd.length hc,.slice D di.length dc] 94):=⟨_,rfl⟩
   have a0:WZ.heap[wr.heap.size]?=some (.cells #[.string pl,.int .i64 cl,.int .i64 fi,.slice H hd.length hc,.slice D di.length dc] 94):=by rw[fq];exact zaq _ _ _ rfl
   have eR:Below W0.heap.size W0 WZ:=by rw[fq];exact zac HB.o _
   rw[<-fq];have eu:=zHi eR;obtain⟨p0,-,p2,p3⟩:=cF4 a0;clear fq a0 eR i0 i1 i2 i3 i4;cases cT:zae pl place
   ·have aY:(pl.toList==place.toList)=false:=cT;exact MM
   ·have aY:(pl.toList==place.toList)=true:=cT;by_cases hz:0<hd.length
    ·have iT:(0:Int)<(hd.length:Int):=Mcu;have iH:hd.isEmpty=false:=by cases hd<;>simp_all
     by_cases hf:fi<0
     ·exact Mar
     ·by_cases hy:day<fi
      ·exact Mar
      ·exact MM
    ·have iT:¬(0:Int)<(hd.length:Int):=Mcu;have iH:hd.isEmpty=true:=by cases hd<;>simp_all
     exact MM
  ·have ar:¬(k:Int)<(gs.length:Int):=Mcu;have HE:Hid (R= -1):=by show _=_;rw[HX.o,ixI_end ae]
   clear hB;go_wp2_with fail
   go_ret
   exact Ret.of (zbB HE.o.symm) (aj.o.trans (HB.o.mono aj.o.size))
theorem zhS(w:World):Calls Tryz.prog 127 #[] w (Ret w (.agg #[.int .i64 1,.int .i64 1])):=by
 go_enter Tryz.func127,Tryz.ntmps127
 go_wp2_with fail
 refine bodyPost_ret (v:=.agg #[.int .i64 1,.int .i64 1]) ?_ rfl ?_
 ·refine zaS rfl _ _ w.heap.size _ _ rfl ?_ ?_
  ·simp[go_sem]
  ·simp[go_sem]
 ·exact Ret.of rfl Bw
theorem rQuoI(a b c d:Int)(w:World)(ha:a.natAbs<=1000000000)(hb:b.natAbs<=1000000000)(hc:c.natAbs<=1000000000)(hd:d.natAbs<=1000000000)(ba:0<b)(io:0<d)(iJ:0<c):Calls Tryz.prog 162 #[.agg #[.int .i64 a,.int .i64 b],.agg #[.int .i64 c,.int .i64 d]] w (Ret w (zaA (Rat.divInt (a*d) (b*c)))):=by
 have m1:=zaO ha hd;have m2:=zaO hc hb;have m3:=zaO hb hd;have m4:0<b*d:=Int.mul_pos ba io;obtain⟨m1,n1⟩:=m1;obtain⟨m2,n2⟩:=m2;obtain⟨m3,n3⟩:=m3;have w1:IntKind.i64.wrap (a*d)=a*d:=IntWalk.i64_in _ Mcu;have w2:IntKind.i64.wrap (c*b)=c*b:=IntWalk.i64_in _ Mcu;have w3:IntKind.i64.wrap (b*d)=b*d:=IntWalk.i64_in _ Mcu;have m5:=zaO ha hc;obtain⟨m5,n5⟩:=m5;have m6:=zaO hb hc;obtain⟨m6,n6⟩:=m6;have w5:IntKind.i64.wrap (a*c)=a*c:=IntWalk.i64_in _ Mcu;have w6:IntKind.i64.wrap (b*c)=b*c:=IntWalk.i64_in _ Mcu;have hs:(a*d).natAbs<=4611686018427387904:=Mcu;have hl:(b*c)<=4611686018427387904:=Mcu;have h4:0<(b*c):=Int.mul_pos ba iJ;obtain⟨HS,HL,H4⟩:=yH3 hs hl h4;clear hs hl m4 h4 ha hb hc hd;go_enter Tryz.func162,Tryz.ntmps162
 go_wp2_with (go_at_call 181;go_must(refine(zeC _ _ _ HS.o H4.o HL.o).mono ?_);rintro e w1 ⟨rfl,z1,rfl⟩;simp only[zaA])
 refine bodyPost_ret (v:=zaA (Rat.divInt (a*d) (b*c))) ?_ rfl ?_
 ·refine zaS rfl _ _ _ _ _ rfl ?_ ?_
  ·simp[go_sem]
  ·simp[go_sem]
 ·exact Ret.of rfl Bw
theorem rQuo_any(p q:Rat)(w:World)(cv:zaJ p)(dF:zaJ q)(h0:0<q):Calls Tryz.prog 162 #[zaA p,zaA q] w (Ret w (zaA (p/q))):=by
 rw[zj4 p q h0];exact rQuoI _ _ _ _ _ cv.1 (by have:=cv.2;omega) dF.1 (by have:=dF.2;omega) (zbX p) (zbX q) (by have:=(Rat.lt_iff 0 q).1 h0;simpa using this)
def renT(n frm:ByteArray)(d:Deed):Bool:=zae d.frm n&&zae (zbi d) frm
def ableR(rd:List Deed)(dd:List ByteArray)(n frm:ByteArray):Bool:=!rd.any (renT n frm)&&(!noB n&&(!zae n frm&&!dd.any (zae n)))
theorem ableR_eq(s:St)(rd:List Deed)(h:s.renounce=rd.map fun d=>(d.frm,zbi d))(n frm:ByteArray):ableR rd s.dead n frm=zed s n frm:=by
 unfold ableR zed zaN;rw[h,List.any_map];show(!rd.any (renT n frm)&&(!noB n&&(!zae n frm&&!s.dead.any (zae n))))=(!noB n&&!zae n frm&&!s.dead.any (zae n)&&!rd.any (renT n frm))
 cases rd.any (renT n frm)<;>cases noB n<;>cases zae n frm<;>cases s.dead.any (zae n)<;>rfl
theorem rAble_any(rd:List Deed)(dd:List ByteArray)(n frm:ByteArray)(LA CA MA DA WA RA GA:Option Addr)(n0 c0 n1 c1 n2 c2 n3 c3 n4 c4 n5 c5 n6 c6:Nat)(w:World)(hl:rd.length<=100000)(nP:∀d∈rd,d.to≠[])(hS:SlW w 7 zfE RA rd)(bx:dd.length<=100000)(nH:dd.length<=c3)(hD:Sl w 1 sC DA dd):
 Calls Tryz.prog 184 #[.agg #[.slice LA n0 c0,.slice CA n1 c1,.slice MA n2 c2,.slice DA dd.length c3,.slice WA n4 c4,.slice RA rd.length c5,.slice GA n6 c6],.string n,.string frm] w (Ret w (.bool (ableR rd dd n frm))):=by
 obtain⟨fh,J0,ic⟩:=yH3 hS nP (fun W (h:Below w.heap.size w W)=>zeJ dd n LA CA MA DA WA RA GA n0 c0 n1 c1 n2 c2 dd.length c3 n4 c4 rd.length c5 n6 c6 W bx nH (hD.keep h));obtain⟨R,hR⟩:∃R,R=ableR rd dd n frm:=⟨_,rfl⟩
 rw[<-hR];obtain⟨D,Fc⟩:∃D,D=dd.any (zae n):=⟨_,rfl⟩
 unfold ableR at hR;rw[<-Fc]at hR ic;have HR:Hid (R=(!(rd.drop 0).any (renT n frm)&&(!noB n&&(!zae n frm&&!D)))):=Mej;clear hS hR nP hD Fc;go_enter Tryz.func184,Tryz.ntmps184
 go_upto_region 1 with fail
 obtain⟨W0,ak⟩:∃W0,W0=w.alloc (.cells #[.slice LA n0 c0,.slice CA n1 c1,.slice MA n2 c2,.slice DA dd.length c3,.slice WA n4 c4,.slice RA rd.length c5,.slice GA n6 c6] 44):=⟨_,rfl⟩
 have b0:W0.heap[w.heap.size]?=some (.cells #[.slice LA n0 c0,.slice CA n1 c1,.slice MA n2 c2,.slice DA dd.length c3,.slice WA n4 c4,.slice RA rd.length c5,.slice GA n6 c6] 44):=Mdm;have aE:Below w.heap.size w W0:=Mc5;rw[<-ak];obtain⟨aj,HS⟩:=yH2 aE (fh.o.keep zch aE);obtain⟨k0,k1,k2,k3,k4,k5,k6⟩:=cF7 b0;clear ak b0 aE fh;go_upto_region 2 with fail
 go_loopw [7] (fun i wr=>∃k:Nat,k<=rd.length/\i=.int .i64 k/\W0=wr/\Hid (R=(!(rd.drop k).any (renT n frm)&&(!noB n&&(!zae n frm&&!D))))) (fun i _=>rd.length-(intOf i).toNat)
 case atStart=>exact⟨0,Nat.zero_le _,rfl,rfl,HR.o⟩
 case round=>
  obtain⟨k,hk,rfl,rfl,HX⟩:=hrel;by_cases ae:k<rd.length
  ·obtain⟨b,off,cs,rfl,hb,hr,ah⟩:=HS.o.at ae;have hx:=HX.o;rw[List.drop_eq_getElem_cons ae,List.any_cons]at hx;have ai:=J0.o _ (List.getElem_mem ae);obtain⟨av,am⟩:=yH2 hx ae;generalize rd[k]=x at*;obtain⟨B,c,hc,rfl,hP⟩:=hr;obtain⟨kd,dy,pl,fr,ts,cl,yr⟩:=x;simp only at ai hc hP ah;cases ts with
   |nil=>exact absurd rfl ai
   |cons p ts=>
    obtain⟨tb,tof,rfl,H8,t8⟩:=hP.at (k:=0) (Nat.succ_pos _);obtain⟨pn,pu,pd⟩:=p;have t0:W0.cell? ⟨tb,tof,none⟩=some (.string pn):=MdK;have fM:zbi ⟨kd,dy,pl,fr,⟨pn,pu,pd⟩::ts,cl,yr⟩=pn:=rfl;have i3:=ah 3 _ rfl;have i4:=ah 4 _ rfl;have ar:(k:Int)<(rd.length:Int):=Mcu;have aT:(0:Int)<=(k:Int):=Mcu;generalize eG:(⟨pn,pu,pd⟩::ts:List RPart).length=ln at*;have jr:(0:Int)<(ln:Int):=by rw[<-eG];simp
    have Dz:0<ln:=Mcu;clear ah ae hx ai hP t8 eG hc;cases dm:zae fr n
    ·have aY:(fr.toList==n.toList)=false:=dm;have HE:Hid (R=(!(rd.drop (k+1)).any (renT n frm)&&(!noB n&&(!zae n frm&&!D)))):=by show _=_;rw[av.o];simp[renT,dm]
     go_wp2_with fail
     exact MI
    ·have aY:(fr.toList==n.toList)=true:=dm;cases g8:zae pn frm
     ·have sV:(pn.toList==frm.toList)=false:=g8;have HE:Hid (R=(!(rd.drop (k+1)).any (renT n frm)&&(!noB n&&(!zae n frm&&!D)))):=by show _=_;rw[av.o];simp[renT,fM,g8]
      go_wp2_with fail
      exact MI
     ·have sV:(pn.toList==frm.toList)=true:=g8;have HE:Hid (R=false):=by show _=_;rw[av.o];simp[renT,fM,dm,g8]
      exact Ma7
  ·have ar:¬(k:Int)<(rd.length:Int):=Mcu;have hx:=HX.o;rw[List.drop_of_length_le Mcu]at hx;have av:=zHi hx;clear hx;cases z1:noB n
   ·have y1:n.toList.isEmpty=false:=z1;have w1:¬n.toList=[]:=by simpa using y1
    cases dm:zae n frm
    ·have aY:(n.toList==frm.toList)=false:=dm;have HE:Hid (R=!D):=by show _=_;rw[av.o,z1,dm];simp
     go_wp2_with (go_at_call 135;go_must(refine(ic.o _ Mdl).mono ?_);rintro e wq ⟨rfl,z,rfl⟩)
     go_ret
     exact Ret.of (zaP HE.o.symm) (zbg aj.o z)
    ·have aY:(n.toList==frm.toList)=true:=dm;have HE:Hid (R=false):=by show _=_;rw[av.o,z1,dm];simp
     exact Ma7
   ·have y1:n.toList.isEmpty=true:=z1;have w1:n.toList=[]:=by simpa using y1
    have HE:Hid (R=false):=by show _=_;rw[av.o,z1];simp
    exact Ma7
theorem given_nil{n:ByteArray}{q:Rat}(h:q≠0):za3 [] n q=[(n,q)]:=by
 unfold za3;rw[if_neg Mdy]
theorem zoZ{p:ByteArray×Rat}{r:Parts}{n:ByteArray}{q:Rat}(h:q≠0):za3 (p::r) n q=if zbb p.1 n then p::za3 r n q else if zae p.1 n then(n,p.2+q)::r else(n,q)::p::r:=by
 rw[za3,if_neg Mdy]
theorem given_zer(l:Parts)(n:ByteArray):za3 l n 0=l:=by
 cases l with
 |nil=>rfl
 |cons p r=>rw[za3,if_pos Mcx]
def zlW(done:Bool)(l:Parts)(n:ByteArray)(q:Rat):Parts:=if done then l else za3 l n q
theorem zcZ(l:Parts)(n:ByteArray)(q:Rat)(A:Option Addr)(c:Nat)(w:World)(hl:l.length<=100000)(hs:∀p∈l,zaJ p.2)(hq:zaJ q)(hS:Sl w 3 zaa A l):Calls Tryz.prog 156 #[.slice A l.length c,.string n,zaA q] w (zg3 w (za3 l n q)):=by
 obtain⟨fh,ny,HQ⟩:=yH3 hS hs hq;obtain⟨R,hR⟩:∃R,R=za3 l n q:=⟨_,rfl⟩
 rw[<-hR];have HR:=zHi hR;unfold zg3 zaA;clear hS hs hq hR;go_enter Tryz.func156,Tryz.ntmps156
 go_upto_region 2 with fail
 obtain⟨W0,ak⟩:∃W0,W0=w.alloc (.cells #[.int .i64 q.num,.int .i64 q.den] 31):=⟨_,rfl⟩
 have b0:W0.heap[w.heap.size]?=some (.cells #[.int .i64 q.num,.int .i64 q.den] 31):=Mdm;have aE:Below w.heap.size w W0:=Mc5;rw[<-ak];obtain⟨aj,HS⟩:=yH2 aE (fh.o.keep aE);obtain⟨c0,c1⟩:=cF2 b0;have l0:=zab b0;clear ak b0 aE fh;go_upto_region 4 with fail
 go_loopw [7,8,9] (fun v d i wr=>∃(k:Nat) (done:Bool) (out:Parts),k<=l.length/\d=.bool done/\i=.int .i64 k/\Hid (R=out++zlW done (l.drop k) n q)/\Hid (done=false->q≠0)/\Hid (out.length<=k+(if done then 1 else 0))/\OwnS wr W0.heap.size 64 3 zaa v out/\Below W0.heap.size W0 wr) (fun _ _ i _=>l.length-(intOf i).toNat)
 case atStart=>
  refine⟨0,q.num==0,[],Nat.zero_le _,rfl,rfl,zHi ?_,zHi ?_,zHi Mcx,OwnS.nil,Below.refl _ _⟩
  ·rw[List.drop_zero,List.nil_append,HR.o];unfold zlW;cases hz:q.num==0
   ·rfl
   ·have:q=0:=Rat.num_eq_zero.1 MdB;rw[this,given_zer];rfl
  ·intro h e;rw[e]at h;exact absurd h Mcw
 case round=>
  obtain⟨k,done,out,hk,rfl,rfl,HX,HD,rj,aa,hB⟩:=hrel;have aI:=hB.size;obtain⟨HO,HB⟩:=yH2 aa hB;have C0:Hid (out.length<=k+1):=by show _<=_;have:=rj.o;split at this<;>omega
  have fP:Hid (out.length<=200000):=by show _<=_;have:=C0.o;omega
  obtain⟨VA,vc,rfl,_,jx⟩:=aa.sl zam;have d0:wr.cell? ⟨w.heap.size,0,none⟩=some (.int .i64 q.num):=(zah hB l0).trans c0;have d1:wr.cell? ⟨w.heap.size,1,none⟩=some (.int .i64 q.den):=(zah hB l0).trans c1;have cG:w.heap.size<wr.heap.size:=Mcu;by_cases ae:k<l.length
  ·obtain⟨b,off,rfl,hb,ah⟩:=HS.o.at ae;have hx:=HX.o;rw[List.drop_eq_getElem_cons ae]at hx;have cv:=ny.o _ (List.getElem_mem ae);have am:=zHi ae;generalize l[k]=x at*;obtain⟨nm,r⟩:=x;have e0:W0.cell? ⟨b,off+k*3,none⟩=some (.string nm):=ah 0 _ rfl;have e1:W0.cell? ⟨b,off+k*3+1,none⟩=some (.int .i64 r.num):=ah 1 _ rfl;have e2:W0.cell? ⟨b,off+k*3+2,none⟩=some (.int .i64 r.den):=ah 2 _ rfl;have i0:wr.cell? ⟨b,off+k*3,none⟩=some (.string nm):=(zah hB hb).trans e0;have i1:wr.cell? ⟨b,off+k*3+1,none⟩=some (.int .i64 r.num):=(zah hB hb).trans e1;have i2:wr.cell? ⟨b,off+k*3+2,none⟩=some (.int .i64 r.den):=(zah hB hb).trans e2;have ar:(k:Int)<(l.length:Int):=Mcu;have aT:(0:Int)<=(k:Int):=Mcu;obtain⟨av,iY⟩:=yH2 hx cv;clear ah ae aa hB hx cv;cases done
   ·have dL:=HD.o rfl;have hx:=av.o;rw[show zlW false ((nm,r)::l.drop (k+1)) n q=za3 ((nm,r)::l.drop (k+1)) n q from rfl,zoZ dL]at hx;have vH:=zHi dL;cases iM:zbb nm n
    ·have DE:Op.bytesLess nm.toList n.toList=false:=iM;rw[iM,if_neg Mcx]at hx;cases cT:zae nm n
     ·have aY:(nm.toList==n.toList)=false:=cT;rw[cT,if_neg Mcx]at hx;have eQ:=zHi hx;clear hx iM cT dL
      go_upto_region 11 with(at_builtin
                             go_loud(refine zat (v:=.slice VA out.length vc) (n:=out.length) (m:=1) rfl _ _ rfl zdV zam zcg rfl (xs:=out) (ys:=[(n,q)]) (HO.o.keep (n:=wr.heap.size) Bw) rfl rfl rfl (zdi (zaq _ _ _ rfl)) Mc4 Mde Mcz ?_)
                             intro v3 w3 h1 h2 h3;have ay:=Below.grown (B:=W0.heap.size) (a:=W0) (HB.o.trans (Below.mono (B:=wr.heap.size) (zac (Below.refl _ _) _) aI)) h2 Mcz (fun j hj=>(HO.o.ge j hj).1);obtain⟨H1,aH⟩:=yH2 h1 ay
                             clear h1 h2 h3 ay)
      obtain⟨VB,vb,Hb,_,Lv⟩:=H1.o.sl zam;rw[List.length_append]at Hb;subst Hb;have jd:=aH.o.size;have j0:w3.cell? ⟨b,off+k*3,none⟩=some (.string nm):=(zah aH.o hb).trans e0;have j1:w3.cell? ⟨b,off+k*3+1,none⟩=some (.int .i64 r.num):=(zah aH.o hb).trans e1;have j2:w3.cell? ⟨b,off+k*3+2,none⟩=some (.int .i64 r.den):=(zah aH.o hb).trans e2
      go_wp2_with (at_builtin
                   go_loud(refine zat (v:=.slice VB (out.length+[(n,q)].length) vb) (n:=out.length+[(n,q)].length) (m:=1) rfl _ _ rfl zdV zam zcg rfl (xs:=out++[(n,q)]) (ys:=[(nm,r)]) (H1.o.keep (n:=w3.heap.size) Bw) Mcx rfl rfl (zdi (zaq _ _ _ rfl)) Mc4 (by have:=fP.o;simp;omega) Mcz ?_)
                   intro v4 w4 g1 g2 g3;have aB:=Below.grown (B:=W0.heap.size) (a:=W0) (aH.o.trans (Below.mono (B:=w3.heap.size) (zac (Below.refl _ _) _) jd)) g2 Mcz (fun j hj=>(H1.o.ge j hj).1);obtain⟨G1,cm⟩:=yH2 g1 aB
                   clear g1 g2 g3 aB)
      go_round
      case rel=>exact⟨k+1,true,out++[(n,q)]++[(nm,r)],am.o,rfl,by go_num,zHi (by rw[eQ.o,List.append_assoc,List.append_assoc];rfl),zHi (fun h=>by cases h),zHi (by have:=rj.o;simp at this⊢;omega),G1.o,cm.o⟩
      case measure=>have:=am.o;simp only[intOf];omega
     ·have aY:(nm.toList==n.toList)=true:=cT;rw[cT,if_pos rfl]at hx;have eQ:=zHi hx;clear hx iM cT dL;have bl:b<wr.heap.size:=Nat.lt_of_lt_of_le hb aI;obtain⟨aA,jP⟩:=yH2 (fun(w':World) (h:Below wr.heap.size wr w')=>(show w'.cell? ⟨b,off+k*3+1,none⟩=some (.int .i64 r.num)/\w'.cell? ⟨b,off+k*3+2,none⟩=some (.int .i64 r.den)/\w'.cell? ⟨w.heap.size,0,none⟩=some (.int .i64 q.num)/\w'.cell? ⟨w.heap.size,1,none⟩=some (.int .i64 q.den) from⟨(zah h bl).trans i1,(zah h bl).trans i2,(zah h cG).trans d0,(zah h cG).trans d1⟩)) (fun W=>znH r q W iY.o HQ.o);unfold zaA at jP;go_upto_region 9 with fail
      refine za7 11 (fun bb w'=>bb=true\/(w'.cell? ⟨b,off+k*3+1,none⟩=some (.int .i64 r.num)/\w'.cell? ⟨b,off+k*3+2,none⟩=some (.int .i64 r.den)/\w'.cell? ⟨w.heap.size,0,none⟩=some (.int .i64 q.num)/\w'.cell? ⟨w.heap.size,1,none⟩=some (.int .i64 q.den))) Mcv (.inr (aA.o _ (zaE (Below.refl _ _)))) ?hrest
      case hrest=>
       intro hHeld;refine TkM 0 ?_;refine TkM 1 ?_;refine TkM 2 ?_;refine TkM 3 ?_;refine TkM 4 ?_;refine TkM 5 ?_;refine TkM 6 ?_;refine TkM 7 ?_;refine OnM 8 false fun K hK=>?_
       go_simp
       refine(jP.o _).mono ?_;rintro e w5 ⟨rfl,z,rfl⟩;have aq:Below wr.heap.size wr (wr.drew.ext z):=zbg (zaE (Below.refl _ _)) z;refine NxM hK (fun hHeld=>?_) (.inr (aA.o _ aq));clear hK K;refine TkM 9 ?_;refine OnM 10 false fun K hK=>?_
       go_simp
       have aS:Below wr.heap.size wr ((wr.drew.ext z).alloc (.cells #[.string n,.int .i64 (r+q).num,.int .i64 (r+q).den] 64)):=zac aq _;have n6:((wr.drew.ext z).alloc (.cells #[.string n,.int .i64 (r+q).num,.int .i64 (r+q).den] 64)).heap[(wr.drew.ext z).heap.size]?=some (.cells #[.string n,.int .i64 (r+q).num,.int .i64 (r+q).den] 64):=zaq _ _ _ rfl;refine NxM hK (fun hHeld=>?_) (.inr (aA.o _ aS));clear hK K;refine OnM 11 true fun K hK=>?_
       refine zak (v:=.slice VA out.length vc) (n:=out.length) (m:=1) rfl _ _ rfl zdV zam zcg rfl (xs:=out) (ys:=[(n,r+q)]) (HO.o.keep (n:=wr.heap.size) aS) rfl rfl rfl (zdi (zaq _ _ _ MdI)) (by have:=fP.o;simp only[maxLen];omega) Mde MdG ?_;intro v7 w7 h1 h2 h3;obtain⟨A7,c7,kD,_,_⟩:=h1.sl zam;rw[List.length_append]at kD;subst kD;have bU:Below W0.heap.size W0 w7:=Below.grown (HB.o.trans (aS.mono aI)) h2 MdG (fun j hj=>(HO.o.ge j hj).1);refine NxM hK fun hHeld=>?_
       clear hK K;refine OnM 12 true fun K hK=>?_
       go_simp
       refine NxM hK fun hHeld=>?_
       clear hK K;refine zaG Mcv ?_ _;clear hHeld;obtain⟨H7,bS⟩:=yH2 h1 bU;clear h1 h2 h3 bU;go_wp2_with fail
       go_round
       case rel=>exact⟨k+1,true,out++[(n,r+q)],am.o,rfl,by go_num,zHi (by rw[eQ.o,List.append_assoc];rfl),zHi (fun h=>by cases h),zHi Mdn,H7.o,bS.o⟩
       case measure=>have:=am.o;simp only[intOf];omega
    ·have DE:Op.bytesLess nm.toList n.toList=true:=iM;rw[iM,if_pos rfl]at hx;have eQ:=zHi hx;clear hx iM dL
     go_wp2_with (at_builtin
                  go_loud(refine zat (v:=.slice VA out.length vc) (n:=out.length) (m:=1) rfl _ _ rfl zdV zam zcg rfl (xs:=out) (ys:=[(nm,r)]) (HO.o.keep (n:=wr.heap.size) Bw) rfl rfl rfl (zdi (zaq _ _ _ rfl)) Mc4 Mde Mcz ?_)
                  intro v3 w3 h1 h2 h3;have ay:=Below.grown (B:=W0.heap.size) (a:=W0) (HB.o.trans (Below.mono (B:=wr.heap.size) (zac (Below.refl _ _) _) aI)) h2 Mcz (fun j hj=>(HO.o.ge j hj).1);obtain⟨H1,aH⟩:=yH2 h1 ay
                  clear h1 h2 h3 ay)
     go_round
     case rel=>exact⟨k+1,false,out++[(nm,r)],am.o,rfl,by go_num,zHi (by rw[eQ.o,List.append_assoc];rfl),zHi (fun _=>vH.o),zHi Mdn,H1.o,aH.o⟩
     case measure=>have:=am.o;simp only[intOf];omega
   ·go_wp2_with (at_builtin
                 go_loud(refine zat (v:=.slice VA out.length vc) (n:=out.length) (m:=1) rfl _ _ rfl zdV zam zcg rfl (xs:=out) (ys:=[(nm,r)]) (HO.o.keep (n:=wr.heap.size) Bw) rfl rfl rfl (zdi (zaq _ _ _ rfl)) Mc4 Mde Mcz ?_)
                 intro v3 w3 h1 h2 h3;have ay:=Below.grown (B:=W0.heap.size) (a:=W0) (HB.o.trans (Below.mono (B:=wr.heap.size) (zac (Below.refl _ _) _) aI)) h2 Mcz (fun j hj=>(HO.o.ge j hj).1);obtain⟨H1,aH⟩:=yH2 h1 ay
                 clear h1 h2 h3 ay)
    go_round
    case rel=>exact⟨k+1,true,out++[(nm,r)],am.o,rfl,by go_num,zHi (by rw[av.o,List.append_assoc];rfl),zHi (fun h=>by cases h),zHi Mdn,H1.o,aH.o⟩
    case measure=>have:=am.o;simp only[intOf];omega
  ·have ar:¬(k:Int)<(l.length:Int):=Mcu;have hx:=HX.o;rw[List.drop_of_length_le Mcu]at hx;clear aa hB;cases done
   ·have dL:=HD.o rfl;rw[show zlW false [] n q=za3 [] n q from rfl,given_nil dL]at hx;have av:=zHi hx;clear hx dL
    go_wp2_with (at_builtin
                 go_loud(refine zat (v:=.slice VA out.length vc) (n:=out.length) (m:=1) rfl _ _ rfl zdV zam zcg rfl (xs:=out) (ys:=[(n,q)]) (HO.o.keep (n:=wr.heap.size) Bw) rfl rfl rfl (zdi (zaq _ _ _ rfl)) Mc4 Mde Mcz ?_)
                 intro v3 w3 h1 h2 h3;have ay:=Below.grown (B:=W0.heap.size) (a:=W0) (HB.o.trans (Below.mono (B:=wr.heap.size) (zac (Below.refl _ _) _) aI)) h2 Mcz (fun j hj=>(HO.o.ge j hj).1);obtain⟨H1,aH⟩:=yH2 h1 ay
                 clear h1 h2 h3 ay)
    go_ret
    exact⟨_,rfl,by rw[av.o];exact H1.o.base_le aj.o.size,aj.o.trans (aH.o.mono aj.o.size)⟩
   ·rw[show zlW true [] n q=[]from rfl,List.append_nil]at hx;have av:=zHi hx;clear hx;go_wp2_with fail
    go_ret
    exact⟨_,rfl,by rw[av.o];exact HO.o.base_le aj.o.size,aj.o.trans (HB.o.mono aj.o.size)⟩
