import Derived.Test.YtcfheecahnnhjaaGreatDoorNI
set_option linter.all false
set_option maxRecDepth 100000
set_option maxHeartbeats 4000000
namespace Go.Proofs.YtcfheecahnnhjaaGreatDoor
attribute [local go_sem] World.cell?_alloc_mark zag za4 zar zaB zaw zax zay zaz za0 za1 za2
attribute [local go_sem] zas zad
section
section
variable {P:Program} {ops:Array Oper} {Q:Exit->Act->World->Prop} {md:Region.Mode} {m:Nat} {S:Bool->World->Prop}
def zhe(md:Region.Mode)(ops:Array Oper)(listed:Array Bool):Prop:= ∀(k:Nat) (o:Oper),ops[k]?=some o->listed.getD k false=true->∀e∈o.after,Region.binds md e=true->listed.getD e.on false=true
def zk3(md:Region.Mode)(ops:Array Oper)(listed:Array Bool):Bool:=(List.range ops.size).all fun k=>match ops[k]? with
 |some o=>!listed.getD k false||o.after.all fun e=>!Region.binds md e||listed.getD e.on false
 |none=>true
theorem closed_of{listed:Array Bool}(h:zk3 md ops listed=true):zhe md ops listed:=fun k o ho hl e he hb=>by
 unfold zk3 at h;have h1:=List.all_eq_true.1 h k (List.mem_range.2 (Array.getElem?_eq_some_iff.1 ho).1);simp only[ho,hl,Bool.not_true,Bool.false_or]at h1;rw[Array.all_eq_true]at h1;obtain⟨j,hj,rfl⟩:=Array.mem_iff_getElem.1 he;have h2:=h1 j hj;rw[hb]at h2;simpa using h2
def needs(md:Region.Mode)(ops:Array Oper)(i:Nat):Nat->Nat->Bool
 |0,k=>k==i
 |f+1,k=>k==i||match ops[k]? with
  |some o=>o.after.any fun e=>Region.binds md e&&needs md ops i f e.on
  |none=>false
theorem znZ{i:Nat}{listed:Array Bool}(hc:zhe md ops listed):∀(f k:Nat),needs md ops i f k=true->listed.getD k false=true->listed.getD i false=true
 |0,k,h,hl=>by
  have:k=i:=by simpa[needs]using h
  rw[<-this];exact hl
 |f+1,k,h,hl=>by
  unfold needs at h;rw[Bool.or_eq_true]at h;rcases h with h|h
  ·have:k=i:=by simpa using h
   rw[<-this];exact hl
  ·cases ho:ops[k]? with
   |none=>rw[ho]at h;cases h
   |some o=>
    rw[ho]at h;simp only at h;rw[Array.any_eq_true]at h;obtain⟨j,hj,h2⟩:=h;rw[Bool.and_eq_true]at h2;exact znZ hc f _ h2.2 (hc k o ho hl o.after[j] (Array.getElem_mem hj) h2.1)
theorem zoG{listed:Array Bool}{j:Nat}(hc:zhe md ops listed)(hj:j∈Region.ready md ops listed):zhe md ops (listed.setIfInBounds j true):=fun k o ho hl e he hb=>by
 obtain⟨h0,oj,iP,aU⟩:=mem_ready.1 hj;by_cases hjk:j=k
 ·subst hjk;rw[iP]at ho;simp only[Option.some.injEq]at ho;subst ho;exact getD_set_true (aU e he hb)
 ·rw[getD_set_ne false hjk]at hl;exact getD_set_true (hc k o ho hl e he hb)
def zcv(P:Program)(md:Region.Mode)(ops:Array Oper)(Q:Exit->Act->World->Prop)(m:Nat)(S:Bool->World->Prop):Nat->Array Bool->Act->World->Prop
 |0,listed,a,w=>Region.ready md ops listed=[]/\Q .normal a w
 |fuel+1,listed,a,w=>
  (Region.ready md ops listed=[]->Q .normal a w)/\
  ∀i∈Region.ready md ops listed,wpOp P ops Q i (fun a' w'=>S ((listed.setIfInBounds i true).getD m false) w'/\zcv P md ops Q m S fuel (listed.setIfInBounds i true) a' w') a w
theorem zjK:∀(fuel:Nat) (listed:Array Bool) (a:Act) (w:World),zcv P md ops Q m S fuel listed a w->wpAny P md ops Q fuel listed a w
 |0,_,_,_,h=>h
 |fuel+1,_,_,_,h=>⟨h.1,fun i hi=>wpOp_mono (fun a' w' h'=>zjK fuel _ a' w' h'.2) (h.2 i hi)⟩
theorem zlA{i:Nat}{oi:Oper}{v:Value}(kp:i≠m)(hi:ops[i]?=some oi)(dE:∀(j:Nat) (o:Oper) cs b,ops[j]?=some o->o.op≠ .select cs b)
 (hQ:∀c a w,Q (.panic c) (a.put oi.dst v) w->Q (.panic c) a w)(f0:Nat)(ai:needs md ops i f0 m=true):
 ∀(fuel:Nat) (listed:Array Bool) (a:Act) (w:World),zhe md ops listed->
  (∀j oj,ops[j]?=some oj->j≠i->listed.getD j true=false->(∀e∈oj.after,Region.binds md e=true->e.on≠i)->oi.apart ops oj=true)->
  i∈Region.ready md ops listed->YieldsIf P ops (S false) oi v a->S false w->
  zcv P md ops Q m S fuel (listed.setIfInBounds i true) (a.put oi.dst v) w->zcv P md ops Q m S (fuel+1) listed a w:=by
 have dD:∀ {listed:Array Bool},zhe md ops listed->i∈Region.ready md ops listed->listed.getD m false=false:=fun {listed} hc hr=>by
  cases hx:listed.getD m false with
  |false=>rfl
  |true=>
   have h1:=znZ hc f0 m ai hx;have h2:=getD_both (mem_ready.1 hr).1;rw[h2]at h1;cases h1
 intro fuel;induction fuel with
 |zero=>
  intro listed a w hc _ hr hy hS H;refine⟨fun h=>Meu,fun j hj=>?_⟩;by_cases cr:j=i
  ·exact MbO
  ·have:=ready_mono hj cr;rw[H.1]at this;cases this
 |succ fuel ih=>
  intro listed a w hc dw hr hy hS H;refine⟨fun h=>Meu,fun j hj=>?_⟩;by_cases cr:j=i
  ·exact MbO
  ·have h1:=H.2 j (ready_mono hj cr);obtain⟨kr,oj,iP,aU⟩:=mem_ready.1 hj;have mQ:∀e∈oj.after,Region.binds md e=true->e.on≠i:=fun e he hb Ax=>by
    exact Mbm
   have h2:=wpOp_putIf iP (dw j oj iP cr kr mQ) (fun cs b=>dE i oi cs b hi) (fun cs b=>dE j oj cs b iP) hQ hy h1;have jo:∀k ok,ops[k]?=some ok->k≠i->(listed.setIfInBounds j true).getD k true=false->
    (∀e∈ok.after,Region.binds md e=true->e.on≠i)->oi.apart ops ok=true:=fun k ok hk ar eb dl=>by
    exact Mak
   have aM:=zoG hc hj;have cy:=ready_mono hr (Ne.symm cr);have eI:((listed.setIfInBounds i true).setIfInBounds j true).getD m false=(listed.setIfInBounds j true).getD m false:=by
    rw[Array.setIfInBounds_comm _ _ (Ne.symm cr),getD_set_ne false kp]
   refine wpOp_mono (fun a' w' h3=>?_) h2;have h4:=h3.2.1;rw[eI]at h4;refine⟨h4,ih (listed.setIfInBounds j true) a' w' aM jo cy h3.1 ?_ ?_⟩
   ·rw[dD aM cy]at h4;exact h4
   ·rw[Array.setIfInBounds_comm _ _ cr];exact h3.2.2
theorem zmO{i:Nat}{oi:Oper}{v:Value}{fuel:Nat}{listed:Array Bool}{a:Act}{w:World}(f0:Nat)(hi:ops[i]?=some oi)(kp:i≠m)(ai:needs md ops i f0 m=true)(bi:zk3 md ops listed=true)
 (hs:Region.noSelect ops=true)(hf:Region.free md ops listed i=true)(hr:(Region.ready md ops listed).contains i=true)
 (hQ:∀c a w,Q (.panic c) (a.put oi.dst v) w->Q (.panic c) a w)(hy:YieldsIf P ops (S false) oi v a)(hS:S false w)
 (h:zcv P md ops Q m S fuel (listed.setIfInBounds i true) (a.put oi.dst v) w):zcv P md ops Q m S (fuel+1) listed a w:=
 zlA kp hi (Region.noSelect_spec hs) hQ f0 ai fuel listed a w (closed_of bi) (Region.free_spec hi hf) (by simpa using hr) hy hS h
theorem zk4{i:Nat}{oi:Oper}{v:Value}(kp:i≠m)(hi:ops[i]?=some oi)(dE:∀(j:Nat) (o:Oper) cs b,ops[j]?=some o->o.op≠ .select cs b)
 (hQ:∀c a w,Q (.panic c) (a.put oi.dst v) w->Q (.panic c) a w):
 ∀(fuel:Nat) (listed:Array Bool) (a:Act) (w:World),
  (∀j oj,ops[j]?=some oj->j≠i->listed.getD j true=false->(∀e∈oj.after,Region.binds md e=true->e.on≠i)->oi.apart ops oj=true)->
  i∈Region.ready md ops listed->YieldsIf P ops (fun _=>True) oi v a->S (listed.getD m false) w->
  zcv P md ops Q m S fuel (listed.setIfInBounds i true) (a.put oi.dst v) w->zcv P md ops Q m S (fuel+1) listed a w:=by
 intro fuel;induction fuel with
 |zero=>
  intro listed a w _ hr hy hS H;refine⟨fun h=>Meu,fun j hj=>?_⟩;by_cases cr:j=i
  ·exact MbU
  ·have:=ready_mono hj cr;rw[H.1]at this;cases this
 |succ fuel ih=>
  intro listed a w dw hr hy hS H;refine⟨fun h=>Meu,fun j hj=>?_⟩;by_cases cr:j=i
  ·exact MbU
  ·have h1:=H.2 j (ready_mono hj cr);obtain⟨kr,oj,iP,aU⟩:=mem_ready.1 hj;have mQ:∀e∈oj.after,Region.binds md e=true->e.on≠i:=fun e he hb Ax=>by
    exact Mbm
   have h2:=wpOp_putIf iP (dw j oj iP cr kr mQ) (fun cs b=>dE i oi cs b hi) (fun cs b=>dE j oj cs b iP) hQ hy h1;have jo:∀k ok,ops[k]?=some ok->k≠i->(listed.setIfInBounds j true).getD k true=false->
    (∀e∈ok.after,Region.binds md e=true->e.on≠i)->oi.apart ops ok=true:=fun k ok hk ar eb dl=>by
    exact Mak
   have eI:((listed.setIfInBounds i true).setIfInBounds j true).getD m false=(listed.setIfInBounds j true).getD m false:=by
    rw[Array.setIfInBounds_comm _ _ (Ne.symm cr),getD_set_ne false kp]
   refine wpOp_mono (fun a' w' h3=>?_) h2;have h4:=h3.2.1;rw[eI]at h4;refine⟨h4,ih (listed.setIfInBounds j true) a' w' jo (ready_mono hr (Ne.symm cr)) h3.1 h4 ?_⟩;rw[Array.setIfInBounds_comm _ _ cr];exact h3.2.2
theorem zmP{i:Nat}{oi:Oper}{v:Value}{fuel:Nat}{listed:Array Bool}{a:Act}{w:World}(b:Bool)(hb:listed.getD m false=b)(hi:ops[i]?=some oi)(kp:i≠m)
 (hs:Region.noSelect ops=true)(hf:Region.free md ops listed i=true)(hr:(Region.ready md ops listed).contains i=true)
 (hQ:∀c a w,Q (.panic c) (a.put oi.dst v) w->Q (.panic c) a w)(hy:YieldsIf P ops (fun _=>True) oi v a)(hS:S b w)
 (h:zcv P md ops Q m S fuel (listed.setIfInBounds i true) (a.put oi.dst v) w):zcv P md ops Q m S (fuel+1) listed a w:=
 zk4 kp hi (Region.noSelect_spec hs) hQ fuel listed a w (Region.free_spec hi hf) (by simpa using hr) hy (by rw[hb];exact hS) h
def AllReadyM(P:Program)(md:Region.Mode)(ops:Array Oper)(Q:Exit->Act->World->Prop)(m:Nat)(S:Bool->World->Prop)(fuel:Nat)(listed:Array Bool)(a:Act)(w:World)(rs:List Nat):Prop:=
 ∀i∈rs,wpOp P ops Q i (fun a' w'=>S ((listed.setIfInBounds i true).getD m false) w'/\zcv P md ops Q m S fuel (listed.setIfInBounds i true) a' w') a w
theorem AllReadyM.nil{fuel:Nat}{listed:Array Bool}{a:Act}{w:World}:AllReadyM P md ops Q m S fuel listed a w []:=fun _ h=>by cases h
theorem AllReadyM.cons{fuel:Nat}{listed:Array Bool}{a:Act}{w:World}{i:Nat}{o:Oper}{rs:List Nat}(ho:ops[i]?=some o)(b:Bool)(hb:(listed.setIfInBounds i true).getD m false=b)
 (h:∀K':Act->World->Prop,Shut (∀a w,S b w->(S b w->zcv P md ops Q m S fuel (listed.setIfInBounds i true) a w)->K' a w)->if Region.wanted o (yielded ops a.tmps)=true then Oper.wp P o a w K' Q else K' (a.put o.dst undef) w)
 (hs:AllReadyM P md ops Q m S fuel listed a w rs):AllReadyM P md ops Q m S fuel listed a w (i::rs):=fun j hj=>by
 rcases List.mem_cons.1 hj with rfl|hj
 ·rw[hb];exact wpOp_step ho (fun K' hK=>h K' (fun a w hS hW=>hK a w ⟨hS,hW hS⟩))
 ·exact hs j hj
theorem zfn{rs:List Nat}{fuel:Nat}{listed:Array Bool}{a:Act}{w:World}(hr:Region.ready md ops listed=rs)(ai:rs≠[])
 (h:AllReadyM P md ops Q m S fuel listed a w rs):zcv P md ops Q m S (fuel+1) listed a w:=⟨fun h0=>absurd (hr▸h0) ai,hr▸h⟩
theorem zaG{listed:Array Bool}{a:Act}{w:World}(hr:Region.ready md ops listed=[])(h:Q .normal a w):∀fuel,zcv P md ops Q m S fuel listed a w
 |0=>⟨hr,h⟩
 |_+1=>⟨fun _=>h,by rw[hr];simp⟩
theorem za7{id:Nat}{a:Act}{w:World}(m:Nat)(S:Bool->World->Prop)(hm:P.follows .mixedOrders=true)(hS:S false w.drew)
 (h:S false w.drew->zcv P .any ops Q m S ops.size (Array.replicate ops.size false) a w.drew):(Code.region id ops true).wp P Q a w:=
 wp_region_any hm (zjK _ _ _ _ (h hS))
end
theorem TkM{P:Program}{ops:Array Oper}{Q:Exit->Act->World->Prop}{md:Region.Mode}{m:Nat}{S:Bool->World->Prop}(i:Nat){oi:Oper}{v:Value}{fuel:Nat}{listed:Array Bool}{a a':Act}{w:World}(h:zcv P md ops Q m S fuel (listed.setIfInBounds i true) a' w)(hi:ops[i]?=some oi:=by exact List.getElem?_toArray.trans rfl)(kp:i≠m:=by decide)(ai:needs md ops i 9 m=true:=by kernel_rfl)(bi:zk3 md ops listed=true:=by kernel_rfl)
 (hs:Region.noSelect ops=true:=by kernel_rfl)(hf:Region.free md ops listed i=true:=by kernel_rfl)(hr:(Region.ready md ops listed).contains i=true:=by kernel_rfl)
 (hQ:∀c a w,Q (.panic c) (a.put oi.dst v) w->Q (.panic c) a w:=by exact fun _ _ _ h=>h)(hy:YieldsIf P ops (S false) oi v a:=by(refine Or.inl ⟨by rfl,?_⟩;intro w uc;(try dsimp only at uc);replace uc:=uc.resolve_left Bool.false_ne_true;go_simp;first|done|with_reducible rfl))(hS:S false w:=by assumption)
 (ha:a.put oi.dst v=a':=by((try simp only[Act.put,List.setIfInBounds_toArray,List.set_cons_zero,List.set_cons_succ]);rfl)):zcv P md ops Q m S (fuel+1) listed a w:=
 zmO 9 hi kp ai bi hs hf hr hQ hy hS (ha▸h)
theorem OnM{P:Program}{ops:Array Oper}{Q:Exit->Act->World->Prop}{md:Region.Mode}{m:Nat}{S:Bool->World->Prop}(i:Nat)(b:Bool){o:Oper}{fuel:Nat}{listed:Array Bool}{a:Act}{w:World}(h:∀K':Act->World->Prop,Shut (∀a w,S b w->(S b w->zcv P md ops Q m S fuel (listed.setIfInBounds i true) a w)->K' a w)->if Region.wanted o (yielded ops a.tmps)=true then Oper.wp P o a w K' Q else K' (a.put o.dst undef) w)
 (hr:Region.ready md ops listed=[i]:=by kernel_rfl)(ho:ops[i]?=some o:=by exact List.getElem?_toArray.trans rfl)(hb:(listed.setIfInBounds i true).getD m false=b:=by kernel_rfl):zcv P md ops Q m S (fuel+1) listed a w:=zfn (rs:=[i]) hr Mcx (AllReadyM.cons ho b hb h AllReadyM.nil)
theorem FrM{P:Program}{ops:Array Oper}{Q:Exit->Act->World->Prop}{md:Region.Mode}{m:Nat}{S:Bool->World->Prop}(i:Nat)(b:Bool){oi:Oper}{v:Value}{fuel:Nat}{listed:Array Bool}{a a':Act}{w:World}(h:zcv P md ops Q m S fuel (listed.setIfInBounds i true) a' w)(hb:listed.getD m false=b:=by kernel_rfl)(hi:ops[i]?=some oi:=by exact List.getElem?_toArray.trans rfl)(kp:i≠m:=by decide)
 (hs:Region.noSelect ops=true:=by kernel_rfl)(hf:Region.free md ops listed i=true:=by kernel_rfl)(hr:(Region.ready md ops listed).contains i=true:=by kernel_rfl)
 (hQ:∀c a w,Q (.panic c) (a.put oi.dst v) w->Q (.panic c) a w:=by exact fun _ _ _ h=>h)(hy:YieldsIf P ops (fun _=>True) oi v a:=by(refine Or.inl ⟨by rfl,?_⟩;intro w uc;go_simp;first|done|with_reducible rfl))(hS:S b w:=by first|assumption|trivial)
 (ha:a.put oi.dst v=a':=by((try simp only[Act.put,List.setIfInBounds_toArray,List.set_cons_zero,List.set_cons_succ]);rfl)):zcv P md ops Q m S (fuel+1) listed a w:=
 zmP b hb hi kp hs hf hr hQ hy hS (ha▸h)
theorem TwM{P:Program}{ops:Array Oper}{Q:Exit->Act->World->Prop}{md:Region.Mode}{m:Nat}{S:Bool->World->Prop}(i j:Nat){o p:Oper}{fuel:Nat}{listed:Array Bool}{a:Act}{w:World}(h:∀K':Act->World->Prop,Shut (∀a w,S false w->(S false w->zcv P md ops Q m S fuel (listed.setIfInBounds i true) a w)->K' a w)->if Region.wanted o (yielded ops a.tmps)=true then Oper.wp P o a w K' Q else K' (a.put o.dst undef) w)(k:∀K':Act->World->Prop,Shut (∀a w,S false w->(S false w->zcv P md ops Q m S fuel (listed.setIfInBounds j true) a w)->K' a w)->if Region.wanted p (yielded ops a.tmps)=true then Oper.wp P p a w K' Q else K' (a.put p.dst undef) w)
 (hr:Region.ready md ops listed=[i,j]:=by kernel_rfl)(ho:ops[i]?=some o:=by exact List.getElem?_toArray.trans rfl)(hp:ops[j]?=some p:=by exact List.getElem?_toArray.trans rfl)(hb:(listed.setIfInBounds i true).getD m false=false:=by kernel_rfl)(hc:(listed.setIfInBounds j true).getD m false=false:=by kernel_rfl):zcv P md ops Q m S (fuel+1) listed a w:=zfn (rs:=[i,j]) hr Mcx (AllReadyM.cons ho false hb h (AllReadyM.cons hp false hc k AllReadyM.nil))
end
section
open Go.RowKit
theorem zf7{out:Parts}{t f:Rat}{n:ByteArray}{fl:Bool}(h:Bd out t)(hf:0<=f):Bd (zcW n f (out,fl)).1 (t+f):=h.set n hf
theorem Bd.up6{out:Parts}{t u:Rat}(h:Bd out t)(hu:t<=u):Bd out u:=⟨h.good,h.small,Rat.le_trans h.le hu⟩
theorem zk5{part:Rat}(hp:0<=part)(n:Nat):zbj (part*(1/(n:Rat)))*(n:Rat)<=part:=by
 have h1:=zha (zeE hp n);by_cases hn:n=0
 ·subst hn;have:((0:Nat):Rat)=0:=rfl;rw[this,Rat.mul_zero];exact hp
 ·have ut:(n:Rat)≠0:=by
   have:=ratI (n:=(n:Int)) Mcu;rwa [Rat.intCast_natCast]at this
  have h2:part*(1/(n:Rat))*(n:Rat)=part:=by
   rw[zky];exact Rat.div_mul_cancel ut
  have h3:=Rat.mul_le_mul_of_nonneg_right h1 (Rat.natCast_nonneg (a:=n));rw[h2]at h3;exact h3
theorem zg2(n:Nat):((n+1:Nat):Rat)=(n:Rat)+1:=by
 rw[Rat.natCast_add];rfl
mutual
theorem zhN{part:Rat}(hp:0<=part):∀ {l:List Tree} {out:Parts} {fl:Bool} {t:Rat},Bd out t->Bd (zbQ part l (out,fl)).1 (t+part*(l.length:Rat))
 | [],out,fl,t,h=>by
   rw[zbQ];have e:((([]:List Tree).length:Nat):Rat)=0:=rfl;rw[e,Rat.mul_zero,Rat.add_zero];exact h
 |x::l,out,fl,t,h=>by
  rw[zbQ];have h1:=zhN hp (l:=l) (fl:=(zdW part x (out,fl)).2) (tree_bd hp (t':=x) (fl:=fl) h);rw[List.length_cons,zg2];exact h1.up6 McX
theorem tree_bd{part:Rat}(hp:0<=part):∀ {t':Tree} {out:Parts} {fl:Bool} {t:Rat},Bd out t->Bd (zdW part t' (out,fl)).1 (t+part)
 | .leaf n,out,fl,t,h=>by
   rw[zdW];exact zf7 h hp
 | .node l,out,fl,t,h=>by
   rw[zdW];have h1:=zhN (zcy (zeE hp l.length)) (l:=l) (fl:=fl||bigQ (part*(1/(l.length:Rat)))) h;have h2:=zk5 hp l.length;exact h1.up6 McX
end
def WideN:Nat->List Tree->Prop
 |0,l=>l=[]
 |f+1,l=>l.length<=1000/\∀l',Tree.node l'∈l->WideN f l'
theorem zjL{s:St}{stems:Bool}{frm:ByteArray}(hl:s.children.length<=1000):∀(f:Nat) (n:ByteArray),WideN f (zb7 s stems frm f n)
 |0,_=>rfl
 |f+1,n=>by
  refine⟨?_,fun l' hm=>?_⟩
  ·unfold zb7;refine Nat.le_trans (List.length_filterMap_le _ _) ?_;exact Mbf
  ·unfold zb7 at hm;obtain⟨c,_,hc⟩:=List.mem_filterMap.1 hm;split at hc
   ·simp at hc
   ·split at hc
    ·simp only[Option.some.injEq,Tree.node.injEq]at hc;rw[<-hc];exact zjL hl f c
    ·cases hc
theorem zhO{n:Nat}(h:0<n):((1:Rat)/(n:Rat)).num=1/\(((1:Rat)/(n:Rat)).den:Int)=n/\0<=(1:Rat)/(n:Rat)/\(1:Rat)/(n:Rat)<=1:=by
 have hs:za8 (n:Int) 1 (n:Int)=true:=by
  unfold za8;simp;omega
 have:=zbp hs;rw[Rat.divInt_eq_div,Rat.intCast_natCast]at this;exact this
theorem zlB{n:Nat}(h:0<n)(h1:n<=1000):zaJ ((1:Rat)/(n:Rat)):=by
 obtain⟨h2,h3,h4,h5⟩:=zhO h;exact zcd h4 h5 (by unfold bigQ;rw[h3];simp;omega)
theorem part_ok{q:Rat}(h0:0<=q)(h1:q<=1){n:Nat}(hn:0<n):0<=zbj (q*(1/(n:Rat)))/\zbj (q*(1/(n:Rat)))<=1/\zaJ (zbj (q*(1/(n:Rat))))/\zbj (q*(1/(n:Rat)))*(n:Rat)<=q:=by
 have h2:=zcy (zeE h0 n);have h3:=zk5 h0 n;have h4:zbj (q*(1/(n:Rat)))<=zbj (q*(1/(n:Rat)))*(n:Rat):=by
  have h5:(1:Rat)<=(n:Rat):=by
   have:((1:Nat):Rat)<=(n:Rat):=Rat.natCast_le_natCast.2 hn;exact this
  have:=Rat.mul_le_mul_of_nonneg_left h5 h2;rwa [Rat.mul_one]at this
 have h6:zbj (q*(1/(n:Rat)))<=1:=Rat.le_trans h4 (Rat.le_trans h3 h1);exact⟨h2,h6,zcd h2 h6 (zgq _),h3⟩
theorem take_le{part:Rat}(hp:0<=part){k n:Nat}(h:k<=n):part*(k:Rat)<=part*(n:Rat):=
 Rat.mul_le_mul_of_nonneg_left (Rat.natCast_le_natCast.2 h) hp
theorem zmQ(part:Rat)(l:List Tree)(x:Parts×Bool){k:Nat}(h:k<l.length):zbQ part (l.take (k+1)) x=zdW part l[k] (zbQ part (l.take k) x):=by
 rw[List.take_succ_eq_append_getElem h,zgr,zbQ,zbQ]
def zlC(out:Parts)(p:ByteArray×Value):Option (ByteArray×Rat):=if 0<zaf out p.1 then some (p.1,zaf out p.1)else none
def colP(out:Parts)(l:List (ByteArray×Value)):Parts:=l.filterMap (zlC out)
theorem colP_snoc(out:Parts)(l:List (ByteArray×Value))(p:ByteArray×Value):colP out (l++[p])=colP out l++(zlC out p).toList:=by
 unfold colP;rw[List.filterMap_append];cases h:zlC out p<;>simp[List.filterMap,h]
theorem zoH{l:Parts}{n:ByteArray}(h:zaf l n≠0):(n,zaf l n)∈l:=by
 unfold zaf at h⊢;cases hf:l.find? (fun p=>zae p.1 n)with
 |none=>rw[hf]at h;exact absurd rfl h
 |some p=>
  have h1:=List.mem_of_find?_eq_some hf;have h2:=List.find?_some hf;have h3:p.1=n:=zap.1 h2;rw[<-h3];exact h1
theorem zoI{l:Parts}(h:GoodParts l):l.Nodup:=by
 refine h.asc.imp fun {a b} cJ e=>?_
 rw[e,zfc]at cJ;cases cJ
theorem zoa{out:Parts}(hg:GoodParts out){mm:List (ByteArray×Value)}(cZ:(mm.map (·.1)).Nodup)(iw:∀n,(mget eqS n mm=none/\zaf out n=0)\/mget eqS n mm=some (zaA (zaf out n))):(colP out mm).Perm out:=by
 refine(List.perm_ext_iff_of_nodup ?_ (zoI hg)).2 fun a=>?_
 ·unfold colP;have h1:((mm.map (·.1)).filterMap fun n=>if 0<zaf out n then some (n,zaf out n)else none).Nodup:=by
   refine List.Pairwise.filterMap _ ?_ cZ;intro a b cJ x hx y hy e;split at hx
   ·split at hy
    ·simp only[Option.some.injEq]at hx hy;rw[<-hx,<-hy]at e;exact cJ (congrArg Prod.fst e)
    ·cases hy
   ·cases hx
  rw[List.filterMap_map]at h1;exact h1
 ·constructor
  ·intro ha;obtain⟨p,hp,h1⟩:=List.mem_filterMap.1 ha;unfold zlC at h1;split at h1
   ·rename_i h0
    simp only[Option.some.injEq]at h1;rw[<-h1];exact zoH (by intro e;rw[e]at h0;exact absurd h0 Mcw)
   ·cases h1
  ·intro ha;have h1:=share_mem hg ha;have h2:=hg.pos a ha;have h3:mget eqS a.1 mm=some (zaA (zaf out a.1)):=by
    rcases iw a.1 with⟨_,h⟩|h
    ·rw[h1]at h;rw[h]at h2;exact absurd h2 Mcw
    ·exact h
   refine List.mem_filterMap.2 ⟨_,zcM h3,?_⟩;unfold zlC;rw[h1,if_pos h2]
def UpP(L:Parts):Prop:=L.Pairwise fun a b=>zbb b.1 a.1=false
theorem zlD{ls L:Parts}(h:GoodParts ls)(hp:L.Perm ls)(hs:UpP L):L=ls:=by
 have eI:L.Pairwise (fun x y:ByteArray×Rat=>zbb y.1 x.1=false):=hs;refine List.Perm.eq_of_pairwise (le:=fun x y:ByteArray×Rat=>zbb y.1 x.1=false) ?_ eI ?_ hp
 ·intro a b ha hb h1 h2;have jb:a∈ls:=hp.mem_iff.1 ha;obtain⟨i,hi,rfl⟩:=List.getElem_of_mem jb;obtain⟨j,hj,rfl⟩:=List.getElem_of_mem hb;rcases Nat.lt_trichotomy i j with cP|cP|cP
  ·have:=List.pairwise_iff_getElem.1 h.asc i j hi hj cP;rw[this]at h2;cases h2
  ·subst cP;rfl
  ·have:=List.pairwise_iff_getElem.1 h.asc j i hj hi cP;rw[this]at h1;cases h1
 ·refine h.asc.imp fun {a b} cJ=>?_
  exact zgT cJ
theorem zjM{α:Type}{x:α}:∀ {l:List α} {i:Nat},l[i]?=some x->(x::l.eraseIdx i).Perm l
 | [],i,h=>by simp at h
 |y::l,0,h=>by
  simp only[List.getElem?_cons_zero,Option.some.injEq]at h;rw[h];exact List.Perm.refl _
 |y::l,i+1,h=>by
  simp only[List.getElem?_cons_succ]at h;rw[List.eraseIdx_cons_succ];exact(List.Perm.swap y x _).trans (List.Perm.cons y (zjM h))
theorem done_perm{α:Type}{d l m:List α}{i:Nat}{x:α}(h:(d++l).Perm m)(hx:l[i]?=some x):((d++[x])++l.eraseIdx i).Perm m:=by
 rw[List.append_assoc];refine List.Perm.trans ?_ h;exact List.Perm.append_left d (zjM hx)
theorem zhy(s:St)(frm:ByteArray):∀(a b:Parts) (x:Parts×Bool) (rest:Rat),zdm s frm (a++b) x rest=zdm s frm b (zdm s frm a x rest).1 (zdm s frm a x rest).2
 | [],_,_,_=>rfl
 |p::a,b,x,rest=>by
  rw[List.cons_append,zdm,zdm];split<;>exact zhy s frm a b _ _
theorem will_snoc(s:St)(frm:ByteArray)(l:Parts)(x:Parts×Bool)(rest:Rat){k:Nat}(h:k<l.length):zdm s frm (l.take (k+1)) x rest=
 if zed s l[k].1 frm then(zcW l[k].1 l[k].2 (zdm s frm (l.take k) x rest).1,(zdm s frm (l.take k) x rest).2-l[k].2)else zdm s frm (l.take k) x rest:=by
 rw[List.take_succ_eq_append_getElem h,zhy,zdm,zdm,zdm]
def parR(l:List Rec)(n:ByteArray):List ByteArray:=(l.filter fun x=>x.kind==2&&zae x.name n).map (·.other)
theorem ziG(l:List Rec)(x:Rec)(n:ByteArray):parR (l++[x]) n=parR l n++if x.kind==2&&zae x.name n then[x.other]else[]:=by
 unfold parR;simp only[List.filter_append,List.map_append,List.filter_cons,List.filter_nil];cases x.kind==2&&zae x.name n<;>simp
theorem parR_skip{l:List Rec}{x:Rec}(h:¬x.kind=2):parR (l++[x])=parR l:=by
 funext n
 rw[ziG,if_neg (by simp[h]),List.append_nil]
theorem parR_put{l:List Rec}{x:Rec}(h:x.kind=2):parR (l++[x]) x.name=parR l x.name++[x.other]:=by
 rw[ziG,if_pos (by simp[h,zbE])]
theorem zoJ{l:List Rec}{x:Rec}{n:ByteArray}(h:zae n x.name=false):parR (l++[x]) n=parR l n:=by
 rw[ziG,if_neg,List.append_nil];intro hc;simp only[Bool.and_eq_true,zap]at hc;rw[hc.2,zbE]at h;cases h
theorem zob(l:List Rec)(n:ByteArray):(parR l n).length<=l.length:=by
 unfold parR;exact MbH
def ziH(l:List Rec)(seen:List ByteArray):Nat:=(l.filter fun x=>x.kind==2&&!seen.any (zae x.name)).length
theorem zoc(l:List Rec)(seen:List ByteArray):ziH l seen<=l.length:=List.length_filter_le _ _
theorem zlE{seen:List ByteArray}{n:ByteArray}(h:seen.any (zae n)=false):∀l:List Rec,ziH l (seen++[n])+(parR l n).length=ziH l seen
 | []=>rfl
 |x::l=>by
  have ih:=zlE h l;unfold ziH parR at ih⊢;rw[List.length_map]at ih⊢;simp only[List.filter_cons];by_cases hk:x.kind=2
  ·have e:(x.kind==2)=true:=by simpa using hk
   rw[e];simp only[Bool.true_and,List.any_append,List.any_cons,List.any_nil,Bool.or_false];cases hn:zae x.name n
   ·cases hs:seen.any (zae x.name)
    ·simp only[Bool.or_false,Bool.not_false,if_true,Bool.false_eq_true,if_false,List.length_cons]at ih⊢;exact MaY
    ·simp only[Bool.or_false,Bool.not_true,Bool.false_eq_true,if_false]at ih⊢;exact MaY
   ·have e2:x.name=n:=zap.1 hn;rw[e2,h];simp only[Bool.or_true,Bool.not_true,Bool.false_eq_true,if_false,Bool.not_false,if_true,List.length_cons]at ih⊢;exact MaY
  ·have e:(x.kind==2)=false:=by simpa using hk
   rw[e];simp only[Bool.false_and,Bool.false_eq_true,if_false];simp only[List.any_append,List.any_cons,List.any_nil,Bool.or_false]at ih⊢;exact ih
theorem zoK{l:List Rec}{n x:ByteArray}{q seen:List ByteArray}(h:Searched (Edge l) n (x::q) seen)(hx:x∈seen):Searched (Edge l) n q seen:=by
 refine⟨fun y hy=>h.reach y (hy.imp (List.mem_cons_of_mem x) id),fun y hy=>?_,fun z hz y hy=>?_⟩
 ·rcases h.first y hy with h1|h1
  ·exact .inl h1
  ·rcases List.mem_cons.1 h1 with rfl|h1
   ·exact .inl hx
   ·exact .inr h1
 ·rcases h.closed z hz y hy with h1|h1
  ·exact .inl h1
  ·rcases List.mem_cons.1 h1 with rfl|h1
   ·exact .inl hx
   ·exact .inr h1
theorem zlG{l:List Rec}{n:ByteArray}{q seen:List ByteArray}(h:Searched (Edge l) n (n::q) seen):Circle l:=⟨n,h.reach n (.inl Mcx)⟩
def Free5(l:List Rec)(n:ByteArray):Prop:= ¬Relation.TransGen (Edge l) n n
end
open Go.RowKit Go.Shelf
def CopyPost(w:World)(ls:List Law)(ds:List Deed)(e:Ending)(w':World):Prop:=
 ∃A nc B mc,e=.returned (.agg #[.slice A ls.length nc,.slice B ds.length mc])/\RightsIn w' ls ds A ls.length nc B ds.length mc/\Below w.heap.size w w'
def CopyOwn(w:World)(ls:List Law)(ds:List Deed)(e:Ending)(w':World):Prop:=
 ∃A nc B mc base xs,e=.returned (.agg #[.slice A ls.length nc,.slice B ds.length mc])/\ls.length<=nc/\Ro w' 100 Law.cells A ls/\xs.map DV.d=ds/\(∀x∈xs,x.d.to.length<=x.c/\Ro w' 64 RPart.cells x.B x.d.to)/\OwnS w' base 69 7 DV.cells (.slice B ds.length mc) xs/\w.heap.size<=base/\base<=w'.heap.size/\Below w.heap.size w w'
theorem zmR(ls:List Law)(ds:List Deed)(LA:Option Addr)(n nc:Nat)(DA:Option Addr)(m mc:Nat)(w:World)(hR:RightsIn w ls ds LA n nc DA m mc)(hl:ls.length<=1000)(hd:ds.length<=1000)(ht:∀d∈ds,d.to.length<=100000):
 Calls Tryz.prog 7 #[.agg #[.slice LA n nc,.slice DA m mc]] w (CopyOwn w ls ds):=by
 obtain⟨rfl,rfl,yj,sP,il,ke⟩:=hR;obtain⟨eA,gn,HT⟩:=yH3 il ke ht;clear il ke ht;go_enter Tryz.func7,Tryz.ntmps7
 go_upto_region 1 with fail
 obtain⟨W1,aV⟩:∃W1,W1=(w.alloc (.cells #[.slice LA ls.length nc,.slice DA ds.length mc] 25)).alloc (.cells #[.slice none 0 0,.slice none 0 0] 25):=⟨_,rfl⟩
 have b0:W1.heap[w.heap.size]?=some (.cells #[.slice LA ls.length nc,.slice DA ds.length mc] 25):=by rw[aV];exact zal (zaq _ _ _ rfl)
 have r0:W1.heap[w.heap.size+1]?=some (.cells #[.slice none 0 0,.slice none 0 0] 25):=by rw[aV];exact zaq _ _ _ Mcx
 have cA:Below w.heap.size w W1:=by rw[aV];exact Bw
 rw[<-aV];have aC:=zHi cA;clear aV cA;have l0:=zab b0;have l1:=zab r0;obtain c0:=cF1 b0
 go_upto_region 2 with(at_builtin
                       go_loud(refine zat (v:=.slice (some ⟨W1.heap.size,0,none⟩) 0 0) (n:=0) (m:=ls.length) rfl _ _ rfl elLaw (fun _=>rfl) lw_one rfl (xs:=[]) (ys:=ls) (made_law W1) rfl rfl rfl (eA.o.keep (aC.o.trans (Below.mono (B:=W1.heap.size) Bw aC.o.size))) Mc3 Mcu Mcx ?_)
                       intro v2 w2 h1 h2 h3;rw[List.nil_append]at h1;have e1:w2.heap[w.heap.size]?=_:=(h2.block w.heap.size Mcz MdF).trans (zal b0);have e2:w2.heap[w.heap.size+1]?=_:=(h2.block (w.heap.size+1) Mcz MdF).trans (zal r0);have bs:Below W1.heap.size W1 w2:=Below.grown (zac (Below.refl _ _) _) h2 Mcx Mc8;obtain⟨A2,c2,rfl,cD,s2⟩:=h1.ro
                       clear h1 h2 h3)
 obtain⟨S2,aD⟩:=yH2 s2 (aC.o.trans (bs.mono aC.o.size));have aY:=aD.o.size;have m0:=zab e1;have m1:=zab e2;clear s2 bs aC b0 r0 c0 l0 l1 eA;obtain⟨OB,jH⟩:∃OB,OB=w2.heap.size:=⟨_,rfl⟩
 have rp:Below OB w2 (w2.alloc (.cells #[.slice A2 ls.length c2,.slice none 0 0] 25)):=by rw[jH];exact Bw
 have o3:(w2.alloc (.cells #[.slice A2 ls.length c2,.slice none 0 0] 25)).heap[OB]?=some (.cells #[.slice A2 ls.length c2,.slice none 0 0] 25):=zaq _ _ _ jH;go_upto_region 3 with fail
 rw[<-jH];have zN:=zHi jH;go_loopw [4] (fun i wr=>∃(k:Nat) (xs:List DV) (v:Value),k<=ds.length/\i=.int .i64 k/\Hid (xs.map (·.d)=ds.take k)/\Hid (∀x∈xs,x.d.to.length<=x.c/\Ro wr 64 RPart.cells x.B x.d.to)/\OwnS wr (OB+1) 69 7 DV.cells v xs/\wr.heap[OB]?=some (.cells #[.slice A2 ls.length c2,v] 25)/\Below OB w2 wr) (fun i _=>ds.length-(intOf i).toNat)
 case atStart=>exact⟨0,[],.slice none 0 0,Nat.zero_le _,rfl,zHi Mcx,zHi Mcx,OwnS.nil,o3,rp⟩
 case round=>
  obtain⟨k,xs,v,hk,rfl,HM,HP,aa,ho,hB⟩:=hrel;have kv:=zab ho;have fm:Below w.heap.size w wr:=aD.o.trans (hB.mono Mcu);have aI:=fm.size;have b1:wr.heap[w.heap.size]?=some (.cells #[.slice LA ls.length nc,.slice DA ds.length mc] 25):=(hB.block _ Mcu).trans e1;have r1:wr.heap[w.heap.size+1]?=some (.cells #[.slice none 0 0,.slice none 0 0] 25):=(hB.block _ Mcu).trans e2;obtain⟨-,p2⟩:=cF2 b1;obtain⟨VA,vc,rfl,_,jx⟩:=aa.sl zck;have bR:xs.length=k:=by
   have:=congrArg List.length HM.o;simp at this;omega
  by_cases ae:k<ds.length
  ·obtain⟨b,off,cs,hA,hb,hr,ah⟩:=(gn.o.keep zch fm).at ae;have iS:ds.take (k+1)=ds.take k++[ds[k]]:=by rw[List.take_add_one,List.getElem?_eq_getElem ae];rfl
   have cw:=HT.o _ (List.getElem_mem ae);have am:=zHi ae;generalize ds[k]=x at*;obtain⟨B,c,hc,rfl,hS⟩:=hr;have lJ:=zHi (fun W' (h:Below wr.heap.size wr W')=>deed_any x B c W' cw (hS.keep h));unfold Deed.v at lJ;subst hA;obtain⟨-,p1⟩:=cF2 ho;rw[bR]at p1;have i0:=ah 0 _ rfl;have i1:=ah 1 _ rfl;have i2:=ah 2 _ rfl;have i3:=ah 3 _ rfl;have i4:=ah 4 _ rfl;have i5:=ah 5 _ rfl;have i6:=ah 6 _ rfl;simp only[Nat.add_zero]at i0;have ar:(k:Int)<(ds.length:Int):=Mcu;have aT:(0:Int)<=(k:Int):=Mcu;obtain⟨kT,fP,dN,IK,HB⟩:=yH5 iS bR aa ho hB;have qj:w.heap.size<wr.heap.size:=Mcu
   have aA:=zHi (fun(w':World) (h:Below wr.heap.size wr w')=>(show w'.cell? ⟨OB,1,none⟩=some (.slice VA k vc)/\w'.cell? ⟨w.heap.size,1,none⟩=some (.slice (some ⟨b,off,none⟩) ds.length mc)/\w'.cell? ⟨b,off+k*7,none⟩=some (.int .i64 x.kind)/\w'.cell? ⟨b,off+k*7+1,none⟩=some (.int .i64 x.day)/\w'.cell? ⟨b,off+k*7+2,none⟩=some (.string x.place)/\w'.cell? ⟨b,off+k*7+3,none⟩=some (.string x.frm)/\w'.cell? ⟨b,off+k*7+4,none⟩=some (.slice B x.to.length c)/\w'.cell? ⟨b,off+k*7+5,none⟩=some (.int .i64 x.cls)/\w'.cell? ⟨b,off+k*7+6,none⟩=some (.int .i64 x.years) from
    ⟨(zah h kv).trans p1,(zah h qj).trans p2,(zah h hb).trans i0,(zah h hb).trans i1,(zah h hb).trans i2,(zah h hb).trans i3,(zah h hb).trans i4,(zah h hb).trans i5,(zah h hb).trans i6⟩))
   clear ah ae hS aa ho hB iS bR cw jH;go_upto_region 5 with fail
   refine za7 9 (fun bb w'=>bb=true\/(w'.cell? ⟨OB,1,none⟩=some (.slice VA k vc)/\w'.cell? ⟨w.heap.size,1,none⟩=some (.slice (some ⟨b,off,none⟩) ds.length mc)/\w'.cell? ⟨b,off+k*7,none⟩=some (.int .i64 x.kind)/\w'.cell? ⟨b,off+k*7+1,none⟩=some (.int .i64 x.day)/\w'.cell? ⟨b,off+k*7+2,none⟩=some (.string x.place)/\w'.cell? ⟨b,off+k*7+3,none⟩=some (.string x.frm)/\w'.cell? ⟨b,off+k*7+4,none⟩=some (.slice B x.to.length c)/\w'.cell? ⟨b,off+k*7+5,none⟩=some (.int .i64 x.cls)/\w'.cell? ⟨b,off+k*7+6,none⟩=some (.int .i64 x.years))) Mcv (.inr (aA.o _ (zaE (Below.refl _ _)))) ?hrest
   case hrest=>
    intro hHeld;refine TkM 0 ?_;refine TkM 1 ?_;refine TkM 2 ?_;refine TkM 3 ?_;refine TkM 4 ?_;refine TkM 5 ?_;refine TkM 6 ?_;refine OnM 7 false fun K hK=>?_
    go_simp
    refine(lJ.o _ (zaE (Below.refl _ _))).mono ?_;rintro e w5 ⟨B5,c5,rfl,nG,ro5,aq⟩;unfold Deed.v;have aX:Below wr.heap.size wr w5:=(zaE (Below.refl _ _):Below wr.heap.size wr wr.drew).trans aq;refine NxM hK (fun hHeld=>?_) (.inr (aA.o _ aX));clear hK K;refine OnM 8 false fun K hK=>?_
    go_simp
    have aS:Below wr.heap.size wr (w5.alloc (.cells #[.int .i64 x.kind,.int .i64 x.day,.string x.place,.string x.frm,.slice B5 x.to.length c5,.int .i64 x.cls,.int .i64 x.years] 69)):=zac aX _;have n6:(w5.alloc (.cells #[.int .i64 x.kind,.int .i64 x.day,.string x.place,.string x.frm,.slice B5 x.to.length c5,.int .i64 x.cls,.int .i64 x.years] 69)).heap[w5.heap.size]?=some (.cells #[.int .i64 x.kind,.int .i64 x.day,.string x.place,.string x.frm,.slice B5 x.to.length c5,.int .i64 x.cls,.int .i64 x.years] 69):=zaq _ _ _ rfl;have ro6:Ro (w5.alloc (.cells #[.int .i64 x.kind,.int .i64 x.day,.string x.place,.string x.frm,.slice B5 x.to.length c5,.int .i64 x.cls,.int .i64 x.years] 69)) 64 RPart.cells B5 x.to:=ro5.keep (n:=w5.heap.size) (zac (Below.refl _ _) _);refine NxM hK (fun hHeld=>?_) (.inr (aA.o _ aS));clear hK K;refine OnM 9 true fun K hK=>?_
    generalize w5.alloc (.cells #[.int .i64 x.kind,.int .i64 x.day,.string x.place,.string x.frm,.slice B5 x.to.length c5,.int .i64 x.cls,.int .i64 x.years] 69)=W6 at*;have ow6:=dN.o.keep aS;refine zak (v:=.slice VA k vc) (n:=k) (m:=1) rfl _ _ rfl zgw zck zgv rfl (xs:=xs) (ys:=[⟨x,B5,c5⟩]) (by have:=ow6;rw[fP.o]at this;exact this) fP.o rfl rfl (ziD zck n6 (by simp[DV.cells])) Mc3 Mcu MdG ?_;intro v7 w7 h1 h2 h3;obtain⟨A7,c7,kD,_,_⟩:=h1.sl zck;rw[List.length_append]at kD;subst kD;have ow7:OwnS W6 (OB+1) 69 7 DV.cells (.slice VA k vc) xs:=by have:=ow6;rw[fP.o]at this;exact this
    have o7:w7.heap[OB]?=some (.cells #[.slice A2 ls.length c2,.slice VA xs.length vc] 25):=(h2.block OB MdG (fun e=>by have:=ow7.ge _ e.symm;omega)).trans ((aS.block OB kv).trans IK.o);have ro7:Ro w7 64 RPart.cells B5 x.to:=znX ro6 ow7 h2 Mcw;have rs7:∀y∈xs,y.d.to.length<=y.c/\Ro w7 64 RPart.cells y.B y.d.to:=fun y hy=>⟨(HP.o y hy).1,znX ((HP.o y hy).2.keep aS) ow7 h2 Mcw⟩
    have bU:Below OB w2 w7:=Below.grown (HB.o.trans (aS.mono Mcu)) h2 (by have:=HB.o.size;have:=aS.size;omega) (fun j hj=>by have:=ow7.ge _ hj;omega);have f7:w7.frozen? ⟨OB,1,none⟩=false:=by simp[World.frozen?,o7]
    obtain⟨-,t7⟩:=cF2 o7;refine NxM hK fun hHeld=>?_
    clear hK K;refine OnM 10 true fun K hK=>?_
    go_simp
    refine NxM hK fun hHeld=>?_
    clear hK K;refine OnM 11 true fun K hK=>?_
    go_simp
    refine NxM hK fun hHeld=>?_
    clear hK K;refine zaG Mcv ?_ _;clear hHeld;go_wp2_with fail
    go_round
    case rel=>
     refine⟨k+1,xs++[⟨x,B5,c5⟩],_,am.o,by go_num,zHi (by rw[List.map_append,HM.o,kT.o];rfl),zHi (fun y hy=>?_),h1.grown (zav _ _ _ _) (.inr fun e=>by have:=h1.ge _ e;omega),?_,zaM bU (Nat.le_refl _) _⟩
     ·rcases List.mem_append.1 hy with hy|hy
      ·exact⟨(rs7 y hy).1,(rs7 y hy).2.kept (zav _ _ _ _) o7 Mcw⟩
      ·obtain rfl:=List.mem_singleton.1 hy;exact⟨nG,ro7.kept (zav _ _ _ _) o7 Mcw⟩
     ·have:=Joins.block_setCell (i:=1) o7 (.slice A7 (xs.length+[(⟨x,B5,c5⟩:DV)].length) c7);simpa using this
    case measure=>have:=am.o;simp only[intOf];omega
  ·have ar:¬(k:Int)<(ds.length:Int):=Mcu;have DG:xs.map (·.d)=ds:=by rw[HM.o,List.take_of_length_le Mcu]
   have bV:xs.length=ds.length:=by rw[<-DG,List.length_map]
   obtain⟨-,p1⟩:=cF2 ho;obtain p0:=cF1 ho;obtain⟨t0,t1⟩:=cF2 r1;have f0:∀j,wr.frozen? ⟨w.heap.size+1,j,none⟩=false:=fun j=>by simp[World.frozen?,r1]
   rw[bV]at p1;obtain⟨IB,jT,dN,HB,b8⟩:=yH5 DG bV aa hB fm;clear DG bV aa hB fm ae bR ho jH;go_wp2_with fail
   refine bodyPost_ret (v:=.agg #[.slice A2 ls.length c2,.slice VA ds.length vc]) ?_ rfl ?_
   ·exact ziE rfl _ _ (w.heap.size+1) _ _ rfl (zdy r1)
   ·have rr:=Joins.block_setCell (i:=0) r1 (.slice A2 ls.length c2);have sF:∀ {α:Type} {e:TypeId} {f:α->List Value} {A:Option Addr} {ys:List α},e≠25->Ro wr e f A ys->Ro ((wr.setCell ⟨w.heap.size+1,0,none⟩ (.slice A2 ls.length c2)).setCell ⟨w.heap.size+1,1,none⟩ (.slice VA ds.length vc)) e f A ys:=fun ai h=>
     (h.kept (zav _ _ _ _) r1 (fun e=>ai e.symm)).kept (zav _ _ _ _) rr (fun e=>ai e.symm)
    have AK:=zdy (a:=.slice A2 ls.length c2) (b:=.slice VA ds.length vc) r1;refine⟨A2,c2,VA,vc,OB+1,xs,rfl,cD,sF Mcw (S2.o.keep (n:=OB) HB.o (by have:=zN.o;omega)),IB.o,fun y hy=>⟨(HP.o y hy).1,sF Mcw (HP.o y hy).2⟩,?_,by have:=zN.o;omega,by simp;omega,zaM (zaM b8.o Mcx _) Mcx _⟩;have ho:=dN.o;rw[jT.o]at ho;have h1:=ho.grown (zav wr (w.heap.size+1) 0 (.slice A2 ls.length c2)) (.inr fun e=>by have:=ho.ge _ e;have:=zN.o;omega);exact h1.grown (zav _ (w.heap.size+1) 1 (.slice VA ds.length vc)) (.inr fun e=>by have:=ho.ge _ e;have:=zN.o;omega)
theorem zoM(ls:List Law)(ds:List Deed)(LA:Option Addr)(n nc:Nat)(DA:Option Addr)(m mc:Nat)(w:World)(hR:RightsIn w ls ds LA n nc DA m mc)(hl:ls.length<=1000)(hd:ds.length<=1000)(ht:∀d∈ds,d.to.length<=100000):
 Calls Tryz.prog 7 #[.agg #[.slice LA n nc,.slice DA m mc]] w (CopyPost w ls ds):=by
 refine(zmR ls ds LA n nc DA m mc w hR hl hd ht).mono ?_;rintro e w' ⟨A,a,D,c,b,xs,rfl,ha,hL,hm,hp,ho,hb,_,hB⟩;obtain⟨D',c',he,hx,hc⟩:=ho.sl zck;simp only[Value.slice.injEq]at he;obtain⟨rfl,_,rfl⟩:=he;have hk:xs.length=ds.length:=Md8;exact⟨A,a,D,c,rfl,⟨rfl,rfl,ha,by omega,hL.sl fun _=>rfl,slw_of hx hm fun y hy=>⟨(hp y hy).1,(hp y hy).2.sl rp_len⟩⟩,hB⟩
def zg3(w:World)(xs:Parts)(e:Ending)(w':World):Prop:= ∃v,e=.returned v/\OwnS w' w.heap.size 64 3 zaa v xs/\Below w.heap.size w w'
theorem zdi{w:World}{b:Nat}{t:TypeId}{fr:Nat×Nat}{x:ByteArray×Rat}(h:w.heap[b]?=some (.cells #[.string x.1,.int .i64 x.2.num,.int .i64 x.2.den] t fr)):Sl w 3 zaa (some ⟨b,0,none⟩) [x]:=fun _=>
 ⟨b,0,rfl,zab h,fun k y hk j u hu=>by
   match k,hk with
   |0,hk=>
    obtain rfl:x=y:=by simpa using hk
    simp only[World.cell?,h];match j,hu with
    |0,hu|1,hu|2,hu=>exact hu⟩
theorem zoN{l:Parts}{k:Nat}(h:k<l.length):zaF (l.drop k)=(bigQ l[k].2||zaF (l.drop (k+1))):=by
 rw[List.drop_eq_getElem_cons h];rfl
theorem zdN(l:Parts)(A:Option Addr)(c:Nat)(w:World)(hl:l.length<=1000000000)(hS:Sl w 3 zaa A l):Calls Tryz.prog 160 #[.slice A l.length c] w (Ret0 w (.bool (zaF l))):=by
 have HS:=zHi hS;obtain⟨R,hR⟩:∃R,R=zaF l:=⟨_,rfl⟩
 rw[<-hR];have HR:=zHi hR;clear hS hR;go_enter Tryz.func160,Tryz.ntmps160
 go_upto_region 2 with fail
 go_loopw [3] (fun i wr=>∃k:Nat,k<=l.length/\i=.int .i64 k/\w=wr/\Hid (R=zaF (l.drop k))) (fun i _=>l.length-(intOf i).toNat)
 case atStart=>exact⟨0,Nat.zero_le _,rfl,rfl,HR.o⟩
 case round=>
  obtain⟨k,hk,rfl,rfl,HX⟩:=hrel;by_cases ae:k<l.length
  ·obtain⟨b,off,rfl,hb,ah⟩:=HS.o.at ae;have hx:=HX.o;rw[zoN ae]at hx;obtain⟨av,am⟩:=yH2 hx ae;generalize l[k]=x at*;obtain⟨nm,q⟩:=x;have i2:w.cell? ⟨b,off+k*3+2,none⟩=some (.int .i64 q.den):=ah 2 _ rfl;have ar:(k:Int)<(l.length:Int):=Mcu;have aT:(0:Int)<=(k:Int):=Mcu;clear ah hx ae;by_cases hs:1000000000<(q.den:Int)
   ·have HE:Hid (R=true):=by show _=_;rw[av.o];simp[bigQ,hs]
    exact M0
   ·have HE:Hid (R=zaF (l.drop (k+1))):=by show _=_;rw[av.o];simp[bigQ,hs]
    go_wp2_with fail
    exact MI
  ·have ar:¬(k:Int)<(l.length:Int):=Mcu;have HE:Hid (R=false):=by show _=_;rw[HX.o,List.drop_of_length_le Mcu];rfl
   exact M0
theorem zhz{l:Parts}{n:ByteArray}{k:Nat}(h:k<l.length):zau (l.take (k+1)) n=zau (l.take k) n++(if zae l[k].1 n then[]else[l[k]]):=by
 unfold zau;rw[List.take_add_one,List.getElem?_eq_getElem h,List.filter_append];simp only[Option.toList_some,List.filter_cons,List.filter_nil];cases zae l[k].1 n<;>rfl
theorem zh0(l:Parts)(n:ByteArray)(A:Option Addr)(c:Nat)(w:World)(hl:l.length<=100000)(hS:Sl w 3 zaa A l):Calls Tryz.prog 157 #[.slice A l.length c,.string n] w (zg3 w (zau l n)):=by
 have HS:=zHi hS;unfold zg3;clear hS;go_enter Tryz.func157,Tryz.ntmps157
 go_upto_region 3 with fail
 go_loopw [5,6] (fun v i wr=>∃k:Nat,k<=l.length/\i=.int .i64 k/\OwnS wr w.heap.size 64 3 zaa v (zau (l.take k) n)/\Below w.heap.size w wr) (fun _ i _=>l.length-(intOf i).toNat)
 case atStart=>exact⟨0,Nat.zero_le _,rfl,OwnS.nil,Below.refl _ _⟩
 case round=>
  obtain⟨k,hk,rfl,aa,hB⟩:=hrel;have aI:=hB.size;obtain⟨HO,HB⟩:=yH2 aa hB;by_cases ae:k<l.length
  ·have ao:=zhz (n:=n) ae;have bR:(zau (l.take k) n).length<=100000:=by
    exact M3
   generalize zau (l.take k) n=xs at*;obtain⟨VA,vc,rfl,_,jx⟩:=aa.sl zam;obtain⟨b,off,rfl,hb,ah⟩:=(HS.o.keep hB).at ae;have am:=zHi ae;generalize l[k]=x at*;obtain⟨nm,q⟩:=x;have i0:wr.cell? ⟨b,off+k*3,none⟩=some (.string nm):=ah 0 _ rfl;have i1:wr.cell? ⟨b,off+k*3+1,none⟩=some (.int .i64 q.num):=ah 1 _ rfl;have i2:wr.cell? ⟨b,off+k*3+2,none⟩=some (.int .i64 q.den):=ah 2 _ rfl;have ar:(k:Int)<(l.length:Int):=Mcu;have aT:(0:Int)<=(k:Int):=Mcu;have fP:=zHi bR;clear ah ae aa hB bR;cases hs:zae nm n
   ·have aK:Hid (zau (l.take (k+1)) n=xs++[(nm,q)]):=Md2;have aY:(nm.toList==n.toList)=false:=hs;clear ao hs
    go_wp2_with (at_builtin
                 go_loud(refine zat (v:=.slice VA xs.length vc) (n:=xs.length) (m:=1) rfl _ _ rfl zdV zam zcg rfl (xs:=xs) (ys:=[(nm,q)]) (HO.o.keep (n:=wr.heap.size) Bw) rfl rfl rfl (zdi (zaq _ _ _ rfl)) Mc4 Mde Mcz ?_)
                 intro v3 w3 h1 h2 h3;have ay:=Below.grown (B:=w.heap.size) (a:=w) (HB.o.trans (Below.mono (B:=wr.heap.size) (zac (Below.refl _ _) _) aI)) h2 Mcz (fun j hj=>(HO.o.ge j hj).1);obtain⟨H1,aH⟩:=yH2 h1 ay
                 clear h1 h2 h3 ay)
    exact Mad
   ·have aK:Hid (zau (l.take (k+1)) n=xs):=Md2;have aY:(nm.toList==n.toList)=true:=hs;exact MaG
  ·exact MaM
theorem zlH(a b:ByteArray):zae a b=zae b a:=by rw[Bool.eq_iff_iff,zap,zap];exact⟨Eq.symm,Eq.symm⟩
theorem zd5(xs:List ByteArray)(s:ByteArray)(A:Option Addr)(c:Nat)(w:World)(hl:xs.length<=100000)(hc:xs.length<=c)(hS:Sl w 1 sC A xs):
 Calls Tryz.prog 163 #[.slice A xs.length c,.string s] w (Ret0 w (.bool (xs.any (zae s)))):=by
 have HS:=zHi hS;obtain⟨R,hR⟩:∃R,R=(xs.drop 0).any (zae s):=⟨_,rfl⟩
 rw[show xs.any (zae s)=R from by rw[hR];rfl];have HR:=zHi hR;clear hS hR;go_enter Tryz.func163,Tryz.ntmps163
 go_wp2_with fail
 go_loopw [5] (fun i wr=>∃j:Nat,j<=xs.length/\i=.int .i64 j/\w=wr/\Hid (R=(xs.drop j).any (zae s))) (fun i _=>xs.length-(intOf i).toNat)
 case atStart=>exact⟨0,Nat.zero_le _,rfl,rfl,HR.o⟩
 case round=>
  obtain⟨j,hj,rfl,rfl,HX⟩:=hrel;by_cases ae:j<xs.length
  ·obtain⟨b,off,rfl,hb,ah⟩:=HS.o.at ae;have hx:=HX.o;rw[List.drop_eq_getElem_cons ae,List.any_cons]at hx;obtain⟨av,am⟩:=yH2 hx ae;generalize xs[j]=x at*;have x0:w.cell? ⟨b,off+j,none⟩=some (.string x):=McW;have bu:(j:Int)<(xs.length:Int):=Mcu;have pT:(0:Int)<=(j:Int):=Mcu;clear hx ah ae;cases he:(x.toList==s.toList)
   ·have sm:zae s x=false:=by rw[zlH];exact he
    have uY:=zHi sm;clear sm;go_wp2_with fail
    go_round
    case rel=>exact⟨j+1,am.o,by go_num,by first|exact True.intro|rfl,by show _=_;rw[av.o,uY.o,Bool.false_or]⟩
    case measure=>have:=am.o;simp only[intOf];omega
   ·have sm:zae s x=true:=by rw[zlH];exact he
    have uY:=zHi sm;clear sm;go_wp2_with fail
    go_ret
    exact⟨by rw[av.o,uY.o,Bool.true_or];rfl,rfl⟩
  ·have oR:¬((j:Int)<(xs.length:Int)):=Mcu;have hx:=HX.o;rw[List.drop_of_length_le Mcu,List.any_nil]at hx;have av:=zHi hx;clear hx;go_wp2_with fail
   go_ret
   exact⟨by rw[av.o];rfl,rfl⟩
theorem zeJ(dd:List ByteArray)(n:ByteArray)(LA CA MA DA WA RA GA:Option Addr)(n0 c0 n1 c1 n2 c2 n3 c3 n4 c4 n5 c5 n6 c6:Nat)(w:World)(hl:dd.length<=100000)(hc:dd.length<=c3)(hS:Sl w 1 sC DA dd):
 Calls Tryz.prog 135 #[.agg #[.slice LA n0 c0,.slice CA n1 c1,.slice MA n2 c2,.slice DA dd.length c3,.slice WA n4 c4,.slice RA n5 c5,.slice GA n6 c6],.string n] w (Ret w (.bool (dd.any (zae n)))):=by
 have qH:=zHi (fun W (h:Below w.heap.size w W)=>zd5 dd n DA c3 W hl hc (hS.keep h));generalize dd.any (zae n)=R at*;clear hS;go_enter Tryz.func135,Tryz.ntmps135
 go_wp2_with (go_at_call 163;go_must(refine(qH.o _ Bw).mono ?_);rintro e wq ⟨rfl,rfl⟩)
 go_ret
 exact Ret.of rfl Bw
def zdn(cs:List (ByteArray×ByteArray))(n:ByteArray):List ByteArray:=(cs.filter fun c=>zae c.1 n).map (·.2)
theorem kids_snoc{cs:List (ByteArray×ByteArray)}{n:ByteArray}{k:Nat}(h:k<cs.length):zdn (cs.take (k+1)) n=zdn (cs.take k) n++(if zae cs[k].1 n then[cs[k].2]else[]):=by
 unfold zdn;rw[List.take_add_one,List.getElem?_eq_getElem h,List.filter_append,List.map_append];simp only[Option.toList_some,List.filter_cons,List.filter_nil];cases zae cs[k].1 n<;>rfl
def zdj(w:World)(xs:List ByteArray)(e:Ending)(w':World):Prop:= ∃v,e=.returned v/\OwnS w' w.heap.size 9 1 sC v xs/\Below w.heap.size w w'
theorem zfT{w:World}{b:Nat}{t:TypeId}{fr:Nat×Nat}{x:ByteArray}(h:w.heap[b]?=some (.cells #[.string x] t fr)):Sl w 1 sC (some ⟨b,0,none⟩) [x]:=fun _=>
 ⟨b,0,rfl,zab h,fun k y hk j u hu=>by
   match k,hk with
   |0,hk=>
    obtain rfl:x=y:=by simpa using hk
    simp only[World.cell?,h];match j,hu with
    |0,hu=>exact hu⟩
theorem zg4(cs:List (ByteArray×ByteArray))(n:ByteArray)(LA CA MA DA WA RA GA:Option Addr)(n0 c0 n1 c1 n2 c2 n3 c3 n4 c4 n5 c5 n6 c6:Nat)(w:World)(hl:cs.length<=100000)(hS:Sl w 2 zaV CA cs):
 Calls Tryz.prog 164 #[.agg #[.slice LA n0 c0,.slice CA cs.length c1,.slice MA n2 c2,.slice DA n3 c3,.slice WA n4 c4,.slice RA n5 c5,.slice GA n6 c6],.string n] w (zdj w (zdn cs n)):=by
 have fh:=zHi hS;unfold zdj;clear hS;go_enter Tryz.func164,Tryz.ntmps164
 go_upto_region 1 with fail
 obtain⟨W0,ak⟩:∃W0,W0=w.alloc (.cells #[.slice LA n0 c0,.slice CA cs.length c1,.slice MA n2 c2,.slice DA n3 c3,.slice WA n4 c4,.slice RA n5 c5,.slice GA n6 c6] 44):=⟨_,rfl⟩
 have b0:W0.heap[w.heap.size]?=some (.cells #[.slice LA n0 c0,.slice CA cs.length c1,.slice MA n2 c2,.slice DA n3 c3,.slice WA n4 c4,.slice RA n5 c5,.slice GA n6 c6] 44):=Mdm;have aE:Below w.heap.size w W0:=Mc5;rw[<-ak];obtain⟨aj,HS⟩:=yH2 aE (fh.o.keep aE);obtain⟨-,k1⟩:=cF2 b0;have l0:=zab b0;clear ak b0 aE fh;go_upto_region 3 with fail
 go_loopw [5,6] (fun v i wr=>∃k:Nat,k<=cs.length/\i=.int .i64 k/\OwnS wr W0.heap.size 9 1 sC v (zdn (cs.take k) n)/\Below W0.heap.size W0 wr) (fun _ i _=>cs.length-(intOf i).toNat)
 case atStart=>exact⟨0,Nat.zero_le _,rfl,OwnS.nil,Below.refl _ _⟩
 case round=>
  obtain⟨k,hk,rfl,aa,hB⟩:=hrel;have aI:=hB.size;obtain⟨HO,HB⟩:=yH2 aa hB;have d1:wr.cell? ⟨w.heap.size,1,none⟩=some (.slice CA cs.length c1):=(zah hB l0).trans k1;by_cases ae:k<cs.length
  ·have ao:=kids_snoc (n:=n) ae;have bR:(zdn (cs.take k) n).length<=100000:=by
    unfold zdn;rw[List.length_map];exact M3
   generalize zdn (cs.take k) n=xs at*;obtain⟨VA,vc,rfl,_,jx⟩:=aa.sl za9;obtain⟨b,off,rfl,hb,ah⟩:=(HS.o.keep hB).at ae;have am:=zHi ae;generalize cs[k]=x at*;obtain⟨nm,kd⟩:=x;have i0:wr.cell? ⟨b,off+k*2,none⟩=some (.string nm):=ah 0 _ rfl;have i1:wr.cell? ⟨b,off+k*2+1,none⟩=some (.string kd):=ah 1 _ rfl;have ar:(k:Int)<(cs.length:Int):=Mcu;have aT:(0:Int)<=(k:Int):=Mcu;have fP:=zHi bR;clear ah ae aa hB bR;cases hs:zae nm n
   ·have aK:Hid (zdn (cs.take (k+1)) n=xs):=Md2;have aY:(nm.toList==n.toList)=false:=hs;exact MaG
   ·have aK:Hid (zdn (cs.take (k+1)) n=xs++[kd]):=Md2;have aY:(nm.toList==n.toList)=true:=hs;clear ao hs
    go_wp2_with (at_builtin
                 go_loud(refine zat (v:=.slice VA xs.length vc) (n:=xs.length) (m:=1) rfl _ _ rfl zb9 za9 zb8 rfl (xs:=xs) (ys:=[kd]) (HO.o.keep (n:=wr.heap.size) Bw) rfl rfl rfl (zfT (zaq _ _ _ rfl)) Mc4 Mde Mcz ?_)
                 intro v3 w3 h1 h2 h3;have ay:=Below.grown (B:=W0.heap.size) (a:=W0) (HB.o.trans (Below.mono (B:=wr.heap.size) (zac (Below.refl _ _) _) aI)) h2 Mcz (fun j hj=>(HO.o.ge j hj).1);obtain⟨H1,aH⟩:=yH2 h1 ay
                 clear h1 h2 h3 ay)
    exact Mad
  ·have ar:¬(k:Int)<(cs.length:Int):=Mcu;rw[List.take_of_length_le Mcu]at HO;clear aa hB;go_wp2_with fail
   go_ret
   exact⟨_,rfl,HO.o.base_le aj.o.size,aj.o.trans (HB.o.mono aj.o.size)⟩
