/- A region that draws its order: loads are taken first, as long as one marked operation, that waits for them, has not come up. -/
import Derived.Test.YtjhbofabmpfniaaGreatDoorJS
import Derived.Deep.RegionHeld3
set_option linter.unusedSimpArgs false
set_option linter.unusedVariables false
set_option maxRecDepth 100000
set_option maxHeartbeats 4000000
namespace Go.Proofs.YtjhbofabmpfniaaGreatDoor
open Go.RowKit
theorem GoodSt.later {s:St} {a b:Int} (h:GoodSt s a) (cG:a<=b):GoodSt s b:=
 {h with force:=fun i j gi gj hi hj hp day hd h1 h2=>h.force i j gi gj hi hj hp day (by omega) h1 h2}
theorem zio: ∀ {l:List RPart} {out:Parts},GoodParts out->(∀p∈out,IsN 720720 p.2)->(∀p∈l,0<p.rat/\IsN 720720 p.rat)->
 GoodParts (zbc l out)/\(∀p∈zbc l out,IsN 720720 p.2)/\sumQ (zbc l out)=sumQ out+sumQ (zap l)
 | [],out,h1,h2,_=>⟨h1,h2,by simp only[zbc,List.foldl_nil,zap,List.map_nil,sumQ];grind⟩
 |p::l,out,h1,h2,h=>by
  obtain⟨p1,p2⟩:=h p (by simp);have ih:=zio (l:=l) (zbv (n:=p.name) (q:=p.rat) (by grind) h1) (zcF p2 h2) fun q hq=>h q (by simp[hq])
  have e:zbc (p::l) out=zbc l (za4 out p.name p.rat):=rfl;rw[e];refine⟨ih.1,ih.2.1,?_⟩;rw[ih.2.2,zbZ];simp only[zap,List.map_cons,sumQ];grind
theorem zea {all:Bool} {frm:ByteArray} {l:List RPart} (h:zcB true all frm l=true):(∀p∈l,0<p.rat/\IsN 720720 p.rat/\za9 16 p.num p.den=true)/\sumQ (zap l)<=1/\(all=true->sumQ (zap l)=1)/\ ∀p∈l,p.name≠frm:=by
 unfold zcB at h;simp only[if_true,Bool.and_eq_true,List.all_eq_true,Bool.not_eq_true',decide_eq_true_eq,Bool.or_eq_true,bne_iff_ne,ne_eq,beq_iff_eq]at h;obtain⟨⟨_,hn⟩,⟨hs,bN⟩,b9⟩:=h;refine⟨fun p hp=> ?_,bN,fun ha=> ?_,fun p hp=>zcn.1 (hn p hp)⟩
 ·obtain⟨h1,h2⟩:=hs p hp;have h3:=zbj h1;refine⟨?_,zep h1,h1⟩;have ai:p.rat≠0:=by
   intro k;apply h2;rw[<-h3.1];unfold RPart.rat at k;rw[k];rfl
  have i8:0<=p.rat:=h3.2.2.1;grind
 ·rcases b9 with k|k
  ·rw[ha]at k;cases k
  ·exact k
theorem zj6 {all:Bool} {frm:ByteArray} {l:List RPart} (h:zcB true all frm l=true):WillOk (zap l):=by
 obtain⟨h1,h2,_,_⟩:=zea h;refine⟨fun p hp=> ?_,fun p hp=> ?_,h2⟩
 ·obtain⟨q,hq,rfl⟩:=List.mem_map.1 hp;exact(h1 q hq).1
 ·obtain⟨q,hq,rfl⟩:=List.mem_map.1 hp;exact(h1 q hq).2.1
theorem zm0 {s s':St} {d:Deed} {last:Int} (h:GoodSt s last) (hd:OkD d) (hl:last<=d.day) (hk:d.kind=0) (ht:zcN s d=(s',0)):GoodSt s' d.day:=by
 have h:=h.later hl;unfold zcN at ht;split at ht
 ·simp at ht
 rename_i h1
 split at ht
 ·simp at ht
 split at ht
 ·simp at ht
 simp only[Prod.mk.injEq,and_true]at ht;rw[<-ht];have hx:zaO s d.place d.day=none:=by simpa using h1
 have hn:=zhr hx;obtain⟨nH,xN⟩:=hd.parts (.inl hk);obtain⟨p1,p2,p3,_⟩:=zea xN;obtain⟨g1,g2,g3⟩:=zio (l:=d.to) (out:=[]) zd7 (by simp) fun p hp=>⟨(p1 p hp).1,(p1 p hp).2.1⟩
 have g4:sumQ (zbc d.to [])=1:=by
  rw[g3,p3 (by rw[hk];rfl),sumQ];grind
 generalize hg:(⟨d.place,d.cls,if decide (0<d.years)=true then zcg d.day d.years else-1,zbc d.to [],[]⟩:Grave)=g;have tK:g.place=d.place:=by rw[<-hg]
 have wT:GoodG g:=by rw[<-hg];exact⟨g1,zc4 (by decide) (by decide) g2, .inr g4⟩
 refine {h with graves:=fun x hx=> ?_,force:=fun i j gi gj hi hj hp day gC f1 f2=> ?_}
 ·rcases List.mem_append.1 hx with hx|hx
  ·exact h.graves x hx
  ·rw[List.mem_singleton.1 hx];exact wT
 ·have hi:(s.graves++[g])[i]?=some gi:=hi;have hj:(s.graves++[g])[j]?=some gj:=hj;rw[List.getElem?_append]at hi hj;split at hi<;>split at hj
  ·exact h.force i j gi gj hi hj hp day gC f1 f2
  ·exfalso
   have e:gj=g:=by
    rw[List.getElem?_cons]at hj;split at hj
    ·exact(Option.some.inj hj).symm
    ·simp at hj
   have:=hn gi (List.mem_of_getElem? hi) (by rw[hp,e,tK]);rw[zgZ gC f1]at this;cases this
  ·exfalso
   have e:gi=g:=by
    rw[List.getElem?_cons]at hi;split at hi
    ·exact(Option.some.inj hi).symm
    ·simp at hi
   have:=hn gj (List.mem_of_getElem? hj) (by rw[<-hp,e,tK]);rw[zgZ gC f2]at this;cases this
  ·have:=(List.getElem?_eq_some_iff.1 hi).1;have:=(List.getElem?_eq_some_iff.1 hj).1;simp at*;omega
theorem zj7 {s:St} {i:Nat} {g g':Grave} {day:Int} (h:GoodSt s day) (hi:s.graves[i]?=some g) (hg:GoodG g') (hp:g'.place=g.place) (hf: ∀e,day<=e->zaU g' e=true->zaU g e=true):GoodSt (s.withGrave i g') day:=by
 have f9:=(List.getElem?_eq_some_iff.1 hi).1;refine {h with graves:=fun x hx=> ?_,force:=fun a b ga gb ha hb pT e he f1 f2=> ?_}
 ·rcases List.mem_or_eq_of_mem_set hx with hx|hx
  ·exact h.graves x hx
  ·rw[hx];exact hg
 ·have ha:(s.graves.set i g')[a]?=some ga:=ha;have hb:(s.graves.set i g')[b]?=some gb:=hb;rw[List.getElem?_set]at ha hb;have one: ∀(c:Nat) (gc:Grave),(if i=c then if i<s.graves.length then some g' else none else s.graves[c]?)=some gc-> ∃gc',s.graves[c]?=some gc'/\gc'.place=gc.place/\(zaU gc e=true->zaU gc' e=true):=by
   intro c gc hc;by_cases hic:i=c
   ·rw[if_pos hic,if_pos f9]at hc;cases hc;subst hic;exact⟨g,hi,hp.symm,hf e he⟩
   ·rw[if_neg hic]at hc;exact⟨gc,hc,rfl,id⟩
  obtain⟨ga',a1,a2,a3⟩:=one a ga ha;obtain⟨gb',b1,b2,b3⟩:=one b gb hb;exact h.force a b ga' gb' a1 b1 (by rw[a2,b2,pT]) e he (a3 f1) (b3 f2)
theorem zeb {s:St} {i:Nat} {g:Grave} (h:s.graves[i]?=some g):s.graves.getD i zfb=g:=by
 rw[List.getD_eq_getElem?_getD,h];rfl
theorem ze8 {g:Grave} {out:Parts} {died:List ByteArray} {e:Int} (ai:g.holders≠[]) (h:zaU {g with holders:=out,died:=died} e=true):zaU g e=true:=by
 unfold zaU at*;simp only[Bool.and_eq_true]at*;refine⟨?_,h.2⟩;cases hg:g.holders with
 |nil=>exact absurd hg ai
 |cons _ _=>rfl
theorem zjl {s s':St} {d:Deed} {last:Int} (h:GoodSt s last) (hd:OkD d) (hl:last<=d.day) (hk:d.kind=1) (ht:zbo s d=(s',0)):GoodSt s' d.day:=by
 have h:=h.later hl;unfold zbo at ht;split at ht
 ·simp at ht
 rename_i i hi
 obtain⟨g,g1,g2,g3⟩:=zbJ hi;rw[zeb g1]at ht;dsimp only at ht;split at ht
 ·simp at ht
 split at ht
 ·simp at ht
 rename_i hs
 have hs:zag g.holders d.frm≠0:=by simpa using hs
 split at ht
 ·simp at ht
 split at ht
 ·simp at ht
 rename_i hb
 split at ht
 ·simp at ht
 rename_i out ho
 simp only[Prod.mk.injEq,and_true]at ht;rw[<-ht];obtain⟨nH,xN⟩:=hd.parts (.inr (.inl hk));have hw:=zj6 xN;have ba:=h.graves g (List.mem_of_getElem? g1);exact zj7 h g1 (zko ba hs hw.pos hw.le (by simpa using hb) ho) rfl fun e _ hf=>ze8 (died:=g.died) (zdm hs) hf
theorem zip {s s':St} {d:Deed} {last:Int} (h:GoodSt s last) (hl:last<=d.day) (ht:zaZ s d=(s',0)):GoodSt s' d.day:=by
 have h:=h.later hl;unfold zaZ at ht;split at ht
 ·simp at ht
 rename_i i hi
 obtain⟨g,g1,g2,g3⟩:=zbJ hi;rw[zeb g1]at ht;dsimp only at ht;split at ht
 ·simp at ht
 rename_i hs
 have hs:zag g.holders d.frm≠0:=by simpa using hs
 split at ht
 ·simp at ht
 rename_i hb
 simp only[Prod.mk.injEq,and_true]at ht;rw[<-ht];have ba:=h.graves g (List.mem_of_getElem? g1);exact zj7 h g1 (zjk ba hs (by simpa using hb)) rfl fun e _ hf=>ze8 (died:=g.died) (zdm hs) hf
theorem zm1 {s s':St} {d:Deed} {last:Int} (h:GoodSt s last) (hl:last<=d.day) (ht:zcY s d=(s',0)):GoodSt s' d.day:=by
 have h:=h.later hl;unfold zcY at ht;split at ht
 ·simp at ht
 rename_i i hi
 obtain⟨g,g1,g2,g3⟩:=zbJ hi;rw[zeb g1]at ht;dsimp only at ht;split at ht
 ·simp at ht
 split at ht
 ·simp at ht
 simp only[Prod.mk.injEq,and_true]at ht;rw[<-ht];generalize zcg g.fin d.years=fin at*;have ba:=h.graves g (List.mem_of_getElem? g1);have f9:=(List.getElem?_eq_some_iff.1 g1).1;refine {h with graves:=fun x hx=> ?_,force:=fun a b ga gb ha hb pT e he f1 f2=> ?_}
 ·rcases List.mem_or_eq_of_mem_set hx with hx|hx
  ·exact h.graves x hx
  ·rw[hx];exact⟨ba.good,ba.small,ba.one⟩
 ·have ha:(s.graves.set i {g with fin:=fin})[a]?=some ga:=ha;have hb:(s.graves.set i {g with fin:=fin})[b]?=some gb:=hb;rw[List.getElem?_set]at ha hb;have one: ∀(c:Nat) (gc:Grave),(if i=c then if i<s.graves.length then some ({g with fin:=fin}:Grave)else none else s.graves[c]?)=some gc-> ∃gc',s.graves[c]?=some gc'/\gc'.place=gc.place/\(zaU gc e=true->zaU gc' d.day=true):=by
   intro c gc hc;by_cases hic:i=c
   ·rw[if_pos hic,if_pos f9]at hc;cases hc;subst hic;exact⟨g,g1,rfl,fun _=>g3⟩
   ·rw[if_neg hic]at hc;exact⟨gc,hc,rfl,fun hf=>zgZ he hf⟩
  obtain⟨ga',a1,a2,a3⟩:=one a ga ha;obtain⟨gb',b1,b2,b3⟩:=one b gb hb;exact h.force a b ga' gb' a1 b1 (by rw[a2,b2,pT]) d.day (Int.le_refl _) (a3 f1) (b3 f2)
end Go.Proofs.YtjhbofabmpfniaaGreatDoor
namespace Go.Proofs.YtjhbofabmpfniaaGreatDoor
section
variable {P:Program} {ops:Array Oper} {Q:Exit->Act->World->Prop} {md:Region.Mode} {m:Nat} {S:Bool->World->Prop}
def zhb (md:Region.Mode) (ops:Array Oper) (listed:Array Bool):Prop:= ∀(k:Nat) (o:Oper),ops[k]?=some o->listed.getD k false=true-> ∀e∈o.after,Region.binds md e=true->listed.getD e.on false=true
def zkp (md:Region.Mode) (ops:Array Oper) (listed:Array Bool):Bool:=(List.range ops.size).all fun k=>match ops[k]? with
 |some o=>!listed.getD k false||o.after.all fun e=>!Region.binds md e||listed.getD e.on false
 |none=>true
theorem closed_of {listed:Array Bool} (h:zkp md ops listed=true):zhb md ops listed:=fun k o ho hl e he hb=>by
 unfold zkp at h;have h1:=List.all_eq_true.1 h k (List.mem_range.2 (Array.getElem?_eq_some_iff.1 ho).1);simp only[ho,hl,Bool.not_true,Bool.false_or]at h1;rw[Array.all_eq_true]at h1;obtain⟨j,hj,rfl⟩:=Array.mem_iff_getElem.1 he;have h2:=h1 j hj;rw[hb]at h2;simpa using h2
def needs (md:Region.Mode) (ops:Array Oper) (i:Nat):Nat->Nat->Bool
 |0,k=>k==i
 |f+1,k=>k==i||match ops[k]? with
  |some o=>o.after.any fun e=>Region.binds md e&&needs md ops i f e.on
  |none=>false
theorem znE {i:Nat} {listed:Array Bool} (hc:zhb md ops listed): ∀(f k:Nat),needs md ops i f k=true->listed.getD k false=true->listed.getD i false=true
 |0,k,h,hl=>by
  have:k=i:=by simpa[needs]using h
  rw[<-this];exact hl
 |f+1,k,h,hl=>by
  unfold needs at h;rw[Bool.or_eq_true]at h;rcases h with h|h
  ·have:k=i:=by simpa using h
   rw[<-this];exact hl
  ·cases ho:ops[k]? with
   |none=>rw[ho]at h;cases h
   |some o=>
    rw[ho]at h;simp only at h;rw[Array.any_eq_true]at h;obtain⟨j,hj,h2⟩:=h;rw[Bool.and_eq_true]at h2;exact znE hc f _ h2.2 (hc k o ho hl o.after[j] (Array.getElem_mem hj) h2.1)
theorem zom {listed:Array Bool} {j:Nat} (hc:zhb md ops listed) (hj:j∈Region.ready md ops listed):zhb md ops (listed.setIfInBounds j true):=fun k o ho hl e he hb=>by
 obtain⟨h0,oj,iV,b9⟩:=mem_ready.1 hj;by_cases hjk:j=k
 ·subst hjk;rw[iV]at ho;simp only[Option.some.injEq]at ho;subst ho;exact getD_set_true (b9 e he hb)
 ·rw[getD_set_ne false hjk]at hl;exact getD_set_true (hc k o ho hl e he hb)
def zcq (P:Program) (md:Region.Mode) (ops:Array Oper) (Q:Exit->Act->World->Prop) (m:Nat) (S:Bool->World->Prop):Nat->Array Bool->Act->World->Prop
 |0,listed,a,w=>Region.ready md ops listed=[]/\Q .normal a w
 |fuel+1,listed,a,w=>
  (Region.ready md ops listed=[]->Q .normal a w)/\
  ∀i∈Region.ready md ops listed,wpOp P ops Q i (fun a' w'=>S ((listed.setIfInBounds i true).getD m false) w'/\zcq P md ops Q m S fuel (listed.setIfInBounds i true) a' w') a w
theorem zj8: ∀(fuel:Nat) (listed:Array Bool) (a:Act) (w:World),zcq P md ops Q m S fuel listed a w->wpAny P md ops Q fuel listed a w
 |0,_,_,_,h=>h
 |fuel+1,_,_,_,h=>⟨h.1,fun i hi=>wpOp_mono (fun a' w' h'=>zj8 fuel _ a' w' h'.2) (h.2 i hi)⟩
theorem zlj {i:Nat} {oi:Oper} {v:Value} (jz:i≠m) (hi:ops[i]?=some oi) (du: ∀(j:Nat) (o:Oper) cs b,ops[j]?=some o->o.op≠ .select cs b)
 (hQ: ∀c a w,Q (.panic c) (a.put oi.dst v) w->Q (.panic c) a w) (f0:Nat) (ai:needs md ops i f0 m=true):
 ∀(fuel:Nat) (listed:Array Bool) (a:Act) (w:World),zhb md ops listed->
  (∀j oj,ops[j]?=some oj->j≠i->listed.getD j true=false->(∀e∈oj.after,Region.binds md e=true->e.on≠i)->oi.apart ops oj=true)->
  i∈Region.ready md ops listed->YieldsIf P ops (S false) oi v a->S false w->
  zcq P md ops Q m S fuel (listed.setIfInBounds i true) (a.put oi.dst v) w->zcq P md ops Q m S (fuel+1) listed a w:=by
 have cR: ∀ {listed:Array Bool},zhb md ops listed->i∈Region.ready md ops listed->listed.getD m false=false:=fun {listed} hc hr=>by
  cases hx:listed.getD m false with
  |false=>rfl
  |true=>
   have h1:=znE hc f0 m ai hx;have h2:=getD_both (mem_ready.1 hr).1;rw[h2]at h1;cases h1
 intro fuel;induction fuel with
 |zero=>
  intro listed a w hc _ hr hy hS H;refine⟨fun h=>(by rw[h]at hr;cases hr),fun j hj=> ?_⟩;by_cases ck:j=i
  ·subst ck;exact hy.wpOp hi hS ⟨by rw[getD_set_ne false jz,cR hc hr];exact hS,H⟩
  ·have:=ready_mono hj ck;rw[H.1]at this;cases this
 |succ fuel ih=>
  intro listed a w hc dY hr hy hS H;refine⟨fun h=>(by rw[h]at hr;cases hr),fun j hj=> ?_⟩;by_cases ck:j=i
  ·subst ck;exact hy.wpOp hi hS ⟨by rw[getD_set_ne false jz,cR hc hr];exact hS,H⟩
  ·have h1:=H.2 j (ready_mono hj ck);obtain⟨iz,oj,iV,b9⟩:=mem_ready.1 hj;have mL: ∀e∈oj.after,Region.binds md e=true->e.on≠i:=fun e he hb wO=>by
    have h1:=b9 e he hb;have h0:=(mem_ready.1 hr).1;rw[wO]at h1;rw[getD_both h0]at h1;cases h1
   have h2:=wpOp_putIf iV (dY j oj iV ck iz mL) (fun cs b=>du i oi cs b hi) (fun cs b=>du j oj cs b iV) hQ hy h1;have jy: ∀k ok,ops[k]?=some ok->k≠i->(listed.setIfInBounds j true).getD k true=false->
    (∀e∈ok.after,Region.binds md e=true->e.on≠i)->oi.apart ops ok=true:=fun k ok hk ar d8 dr=>by
    refine dY k ok hk ar ?_ dr;by_cases hjk:j=k
    ·subst hjk;exact iz
    ·rw[getD_set_ne true hjk]at d8;exact d8
   have aV:=zom hc hj;have cu:=ready_mono hr (Ne.symm ck);have eM:((listed.setIfInBounds i true).setIfInBounds j true).getD m false=(listed.setIfInBounds j true).getD m false:=by
    rw[Array.setIfInBounds_comm _ _ (Ne.symm ck),getD_set_ne false jz]
   refine wpOp_mono (fun a' w' h3=> ?_) h2;have h4:=h3.2.1;rw[eM]at h4;refine⟨h4,ih (listed.setIfInBounds j true) a' w' aV jy cu h3.1 ?_ ?_⟩
   ·rw[cR aV cu]at h4;exact h4
   ·rw[Array.setIfInBounds_comm _ _ ck];exact h3.2.2
theorem zm2 {i:Nat} {oi:Oper} {v:Value} {fuel:Nat} {listed:Array Bool} {a:Act} {w:World} (f0:Nat) (hi:ops[i]?=some oi) (jz:i≠m) (ai:needs md ops i f0 m=true) (bm:zkp md ops listed=true)
 (hs:Region.noSelect ops=true) (hf:Region.free md ops listed i=true) (hr:(Region.ready md ops listed).contains i=true)
 (hQ: ∀c a w,Q (.panic c) (a.put oi.dst v) w->Q (.panic c) a w) (hy:YieldsIf P ops (S false) oi v a) (hS:S false w)
 (h:zcq P md ops Q m S fuel (listed.setIfInBounds i true) (a.put oi.dst v) w):zcq P md ops Q m S (fuel+1) listed a w:=
 zlj jz hi (Region.noSelect_spec hs) hQ f0 ai fuel listed a w (closed_of bm) (Region.free_spec hi hf) (by simpa using hr) hy hS h
theorem zkq {i:Nat} {oi:Oper} {v:Value} (jz:i≠m) (hi:ops[i]?=some oi) (du: ∀(j:Nat) (o:Oper) cs b,ops[j]?=some o->o.op≠ .select cs b)
 (hQ: ∀c a w,Q (.panic c) (a.put oi.dst v) w->Q (.panic c) a w):
 ∀(fuel:Nat) (listed:Array Bool) (a:Act) (w:World),
  (∀j oj,ops[j]?=some oj->j≠i->listed.getD j true=false->(∀e∈oj.after,Region.binds md e=true->e.on≠i)->oi.apart ops oj=true)->
  i∈Region.ready md ops listed->YieldsIf P ops (fun _=>True) oi v a->S (listed.getD m false) w->
  zcq P md ops Q m S fuel (listed.setIfInBounds i true) (a.put oi.dst v) w->zcq P md ops Q m S (fuel+1) listed a w:=by
 intro fuel;induction fuel with
 |zero=>
  intro listed a w _ hr hy hS H;refine⟨fun h=>(by rw[h]at hr;cases hr),fun j hj=> ?_⟩;by_cases ck:j=i
  ·subst ck;exact hy.wpOp hi trivial ⟨by rw[getD_set_ne false jz];exact hS,H⟩
  ·have:=ready_mono hj ck;rw[H.1]at this;cases this
 |succ fuel ih=>
  intro listed a w dY hr hy hS H;refine⟨fun h=>(by rw[h]at hr;cases hr),fun j hj=> ?_⟩;by_cases ck:j=i
  ·subst ck;exact hy.wpOp hi trivial ⟨by rw[getD_set_ne false jz];exact hS,H⟩
  ·have h1:=H.2 j (ready_mono hj ck);obtain⟨iz,oj,iV,b9⟩:=mem_ready.1 hj;have mL: ∀e∈oj.after,Region.binds md e=true->e.on≠i:=fun e he hb wO=>by
    have h1:=b9 e he hb;have h0:=(mem_ready.1 hr).1;rw[wO]at h1;rw[getD_both h0]at h1;cases h1
   have h2:=wpOp_putIf iV (dY j oj iV ck iz mL) (fun cs b=>du i oi cs b hi) (fun cs b=>du j oj cs b iV) hQ hy h1;have jy: ∀k ok,ops[k]?=some ok->k≠i->(listed.setIfInBounds j true).getD k true=false->
    (∀e∈ok.after,Region.binds md e=true->e.on≠i)->oi.apart ops ok=true:=fun k ok hk ar d8 dr=>by
    refine dY k ok hk ar ?_ dr;by_cases hjk:j=k
    ·subst hjk;exact iz
    ·rw[getD_set_ne true hjk]at d8;exact d8
   have eM:((listed.setIfInBounds i true).setIfInBounds j true).getD m false=(listed.setIfInBounds j true).getD m false:=by
    rw[Array.setIfInBounds_comm _ _ (Ne.symm ck),getD_set_ne false jz]
   refine wpOp_mono (fun a' w' h3=> ?_) h2;have h4:=h3.2.1;rw[eM]at h4;refine⟨h4,ih (listed.setIfInBounds j true) a' w' jy (ready_mono hr (Ne.symm ck)) h3.1 h4 ?_⟩;rw[Array.setIfInBounds_comm _ _ ck];exact h3.2.2
theorem zm3 {i:Nat} {oi:Oper} {v:Value} {fuel:Nat} {listed:Array Bool} {a:Act} {w:World} (b:Bool) (hb:listed.getD m false=b) (hi:ops[i]?=some oi) (jz:i≠m)
 (hs:Region.noSelect ops=true) (hf:Region.free md ops listed i=true) (hr:(Region.ready md ops listed).contains i=true)
 (hQ: ∀c a w,Q (.panic c) (a.put oi.dst v) w->Q (.panic c) a w) (hy:YieldsIf P ops (fun _=>True) oi v a) (hS:S b w)
 (h:zcq P md ops Q m S fuel (listed.setIfInBounds i true) (a.put oi.dst v) w):zcq P md ops Q m S (fuel+1) listed a w:=
 zkq jz hi (Region.noSelect_spec hs) hQ fuel listed a w (Region.free_spec hi hf) (by simpa using hr) hy (by rw[hb];exact hS) h
def AllReadyM (P:Program) (md:Region.Mode) (ops:Array Oper) (Q:Exit->Act->World->Prop) (m:Nat) (S:Bool->World->Prop) (fuel:Nat) (listed:Array Bool) (a:Act) (w:World) (rs:List Nat):Prop:=
 ∀i∈rs,wpOp P ops Q i (fun a' w'=>S ((listed.setIfInBounds i true).getD m false) w'/\zcq P md ops Q m S fuel (listed.setIfInBounds i true) a' w') a w
theorem AllReadyM.nil {fuel:Nat} {listed:Array Bool} {a:Act} {w:World}:AllReadyM P md ops Q m S fuel listed a w []:=fun _ h=>by cases h
theorem AllReadyM.cons {fuel:Nat} {listed:Array Bool} {a:Act} {w:World} {i:Nat} {o:Oper} {rs:List Nat} (ho:ops[i]?=some o) (b:Bool) (hb:(listed.setIfInBounds i true).getD m false=b)
 (h: ∀K':Act->World->Prop,Shut (∀a w,S b w->(S b w->zcq P md ops Q m S fuel (listed.setIfInBounds i true) a w)->K' a w)->if Region.wanted o (yielded ops a.tmps)=true then Oper.wp P o a w K' Q else K' (a.put o.dst undef) w)
 (hs:AllReadyM P md ops Q m S fuel listed a w rs):AllReadyM P md ops Q m S fuel listed a w (i::rs):=fun j hj=>by
 rcases List.mem_cons.1 hj with rfl|hj
 ·rw[hb];exact wpOp_step ho (fun K' hK=>h K' (fun a w hS hW=>hK a w ⟨hS,hW hS⟩))
 ·exact hs j hj
theorem zht {rs:List Nat} {fuel:Nat} {listed:Array Bool} {a:Act} {w:World} (hr:Region.ready md ops listed=rs) (ai:rs≠[])
 (h:AllReadyM P md ops Q m S fuel listed a w rs):zcq P md ops Q m S (fuel+1) listed a w:=⟨fun h0=>absurd (hr▸h0) ai,hr▸h⟩
theorem zaN {listed:Array Bool} {a:Act} {w:World} (hr:Region.ready md ops listed=[]) (h:Q .normal a w): ∀fuel,zcq P md ops Q m S fuel listed a w
 |0=>⟨hr,h⟩
 |_+1=>⟨fun _=>h,by rw[hr];simp⟩
theorem zaC {id:Nat} {a:Act} {w:World} (m:Nat) (S:Bool->World->Prop) (hm:P.follows .mixedOrders=true) (hS:S false w.drew)
 (h:S false w.drew->zcq P .any ops Q m S ops.size (Array.replicate ops.size false) a w.drew):(Code.region id ops true).wp P Q a w:=
 wp_region_any hm (zj8 _ _ _ _ (h hS))
end
theorem TkM {P:Program} {ops:Array Oper} {Q:Exit->Act->World->Prop} {md:Region.Mode} {m:Nat} {S:Bool->World->Prop} (i:Nat) {oi:Oper} {v:Value} {fuel:Nat} {listed:Array Bool} {a a':Act} {w:World} (h:zcq P md ops Q m S fuel (listed.setIfInBounds i true) a' w) (hi:ops[i]?=some oi:=by exact List.getElem?_toArray.trans rfl) (jz:i≠m:=by decide) (ai:needs md ops i 9 m=true:=by kernel_rfl) (bm:zkp md ops listed=true:=by kernel_rfl)
 (hs:Region.noSelect ops=true:=by kernel_rfl) (hf:Region.free md ops listed i=true:=by kernel_rfl) (hr:(Region.ready md ops listed).contains i=true:=by kernel_rfl)
 (hQ: ∀c a w,Q (.panic c) (a.put oi.dst v) w->Q (.panic c) a w:=by exact fun _ _ _ h=>h) (hy:YieldsIf P ops (S false) oi v a:=by(refine Or.inl ⟨by rfl,?_⟩;intro w tC;(try dsimp only at tC);replace tC:=tC.resolve_left Bool.false_ne_true;go_simp;first|done|with_reducible rfl)) (hS:S false w:=by assumption)
 (ha:a.put oi.dst v=a':=by((try simp only[Act.put,List.setIfInBounds_toArray,List.set_cons_zero,List.set_cons_succ]);rfl)):zcq P md ops Q m S (fuel+1) listed a w:=
 zm2 9 hi jz ai bm hs hf hr hQ hy hS (ha▸h)
theorem OnM {P:Program} {ops:Array Oper} {Q:Exit->Act->World->Prop} {md:Region.Mode} {m:Nat} {S:Bool->World->Prop} (i:Nat) (b:Bool) {o:Oper} {fuel:Nat} {listed:Array Bool} {a:Act} {w:World} (h: ∀K':Act->World->Prop,Shut (∀a w,S b w->(S b w->zcq P md ops Q m S fuel (listed.setIfInBounds i true) a w)->K' a w)->if Region.wanted o (yielded ops a.tmps)=true then Oper.wp P o a w K' Q else K' (a.put o.dst undef) w)
 (hr:Region.ready md ops listed=[i]:=by kernel_rfl) (ho:ops[i]?=some o:=by exact List.getElem?_toArray.trans rfl) (hb:(listed.setIfInBounds i true).getD m false=b:=by kernel_rfl):zcq P md ops Q m S (fuel+1) listed a w:=zht (rs:=[i]) hr (by simp) (AllReadyM.cons ho b hb h AllReadyM.nil)
theorem FrM {P:Program} {ops:Array Oper} {Q:Exit->Act->World->Prop} {md:Region.Mode} {m:Nat} {S:Bool->World->Prop} (i:Nat) (b:Bool) {oi:Oper} {v:Value} {fuel:Nat} {listed:Array Bool} {a a':Act} {w:World} (h:zcq P md ops Q m S fuel (listed.setIfInBounds i true) a' w) (hb:listed.getD m false=b:=by kernel_rfl) (hi:ops[i]?=some oi:=by exact List.getElem?_toArray.trans rfl) (jz:i≠m:=by decide)
 (hs:Region.noSelect ops=true:=by kernel_rfl) (hf:Region.free md ops listed i=true:=by kernel_rfl) (hr:(Region.ready md ops listed).contains i=true:=by kernel_rfl)
 (hQ: ∀c a w,Q (.panic c) (a.put oi.dst v) w->Q (.panic c) a w:=by exact fun _ _ _ h=>h) (hy:YieldsIf P ops (fun _=>True) oi v a:=by(refine Or.inl ⟨by rfl,?_⟩;intro w tC;go_simp;first|done|with_reducible rfl)) (hS:S b w:=by first|assumption|trivial)
 (ha:a.put oi.dst v=a':=by((try simp only[Act.put,List.setIfInBounds_toArray,List.set_cons_zero,List.set_cons_succ]);rfl)):zcq P md ops Q m S (fuel+1) listed a w:=
 zm3 b hb hi jz hs hf hr hQ hy hS (ha▸h)
theorem TwM {P:Program} {ops:Array Oper} {Q:Exit->Act->World->Prop} {md:Region.Mode} {m:Nat} {S:Bool->World->Prop} (i j:Nat) {o p:Oper} {fuel:Nat} {listed:Array Bool} {a:Act} {w:World} (h: ∀K':Act->World->Prop,Shut (∀a w,S false w->(S false w->zcq P md ops Q m S fuel (listed.setIfInBounds i true) a w)->K' a w)->if Region.wanted o (yielded ops a.tmps)=true then Oper.wp P o a w K' Q else K' (a.put o.dst undef) w) (k: ∀K':Act->World->Prop,Shut (∀a w,S false w->(S false w->zcq P md ops Q m S fuel (listed.setIfInBounds j true) a w)->K' a w)->if Region.wanted p (yielded ops a.tmps)=true then Oper.wp P p a w K' Q else K' (a.put p.dst undef) w)
 (hr:Region.ready md ops listed=[i,j]:=by kernel_rfl) (ho:ops[i]?=some o:=by exact List.getElem?_toArray.trans rfl) (hp:ops[j]?=some p:=by exact List.getElem?_toArray.trans rfl) (hb:(listed.setIfInBounds i true).getD m false=false:=by kernel_rfl) (hc:(listed.setIfInBounds j true).getD m false=false:=by kernel_rfl):zcq P md ops Q m S (fuel+1) listed a w:=zht (rs:=[i,j]) hr (by simp) (AllReadyM.cons ho false hb h (AllReadyM.cons hp false hc k AllReadyM.nil))
end Go.Proofs.YtjhbofabmpfniaaGreatDoor
