/- Walk of the program's Next, whatever the names. -/
import Derived.Test.YtmfbdfejhdkiaaaGreatDoorFU
set_option linter.all false
set_option maxRecDepth 100000
set_option maxHeartbeats 4000000
namespace Go.Proofs.YtmfbdfejhdkiaaaGreatDoor
open Go.RowKit
attribute [local go_sem] World.cell?_alloc_mark zae za4 zao za8 zav zaw zax zay zaz za0 za1
attribute [local go_sem] zap zac
section
section
variable {P:Program} {ops:Array Oper} {md:Region.Mode} {w₀:World}
def grow(P:Program)(o:Oper)(a:Act)(w₀:World)(K:Act->Prop):Prop:= ∃v,(∀z,o.quietAt P a (fun w'=>∃z',w'=(w₀.ext z).ext z') (w₀.ext z) v)/\K (a.put o.dst v)
def zgU(P:Program)(ops:Array Oper)(w₀:World)(Q:Act->Prop):List Oper->Act->Prop
 | [],a=>Q a
 |o::rest,a=>if Region.wanted o (yielded ops a.tmps)then grow P o a w₀ (zgU P ops w₀ Q rest)else zgU P ops w₀ Q rest (a.put o.dst undef)
theorem zfH{Q:Act->Prop}{a:Act}(h:Q a):zgU P ops w₀ Q [] a:=h
theorem zeM{Q:Act->Prop}{a:Act}{o:Oper}{rest:List Oper}
 (h:∀K:Act->Prop,(∀a,zgU P ops w₀ Q rest a->K a)->if Region.wanted o (yielded ops a.tmps)then grow P o a w₀ K else K (a.put o.dst undef)):zgU P ops w₀ Q (o::rest) a:=
 h _ (fun _ h=>h)
def YieldsG(P:Program)(ops:Array Oper)(w₀:World)(o:Oper)(v:Value)(a:Act):Prop:=
 (Region.wanted o (yielded ops a.tmps)=true/\∀z,o.quietAt P a (fun w'=>∃z',w'=(w₀.ext z).ext z') (w₀.ext z) v)\/(Region.wanted o (yielded ops a.tmps)=false/\v=undef)
theorem YieldsG.put{oi oj:Oper}{v u:Value}{a:Act}(h1:∀d,oi.dst=some d->d∉oj.looksAt ops)(EJ:∀cs b,oj.op≠ .select cs b)(h:YieldsG P ops w₀ oj u (a.put oi.dst v)):YieldsG P ops w₀ oj u a:=by
 unfold YieldsG Oper.quietAt at*;rw[wanted_put oj a oi.dst v h1,execOp_put oj EJ a oi.dst v h1]at h;exact h
theorem YieldsG.put'{oi oj:Oper}{v u:Value}{a:Act}(h1:∀d,oi.dst=some d->d∉oj.looksAt ops)(EJ:∀cs b,oj.op≠ .select cs b)(h:YieldsG P ops w₀ oj u a):YieldsG P ops w₀ oj u (a.put oi.dst v):=by
 unfold YieldsG Oper.quietAt at*;rw[wanted_put oj a oi.dst v h1,execOp_put oj EJ a oi.dst v h1];exact h
theorem zfS{i:Nat}{o:Oper}{v:Value}{a:Act}{K:Act->World->Prop}{Q:Exit->Act->World->Prop}{z:Ez}(hi:ops[i]?=some o)(hy:YieldsG P ops w₀ o v a)(hK:∀z',K (a.put o.dst v) ((w₀.ext z).ext z')):wpOp P ops Q i K a (w₀.ext z):=by
 have D7:K (a.put o.dst v) (w₀.ext z):=by
  have:=hK ⟨#[],(w₀.ext z).drawn⟩;simpa[World.ext]using this
 unfold wpOp;simp only[hi];rcases hy with⟨hw,hv⟩|⟨hw,rfl⟩
 ·rw[if_pos hw];refine .inl ?_;have h3:=hv z;unfold Oper.quietAt at h3;unfold Oper.wp;generalize(execOp a.eval o).run P (w₀.ext z)=r at*;cases r with
  |ok n w'=>
   cases n<;>simp only[Oper.quietUpon]at h3<;>simp only[Oper.upon]
   case value u=>obtain⟨e1,e2⟩:=h3;rw[e1,e2];exact D7
   case skip=>obtain⟨e1,e2⟩:=h3;rw[e1,<-e2];exact D7
   case enter f args=>
    obtain⟨e1,hc⟩:=h3;rw[e1];exact hc.mono fun e w'' ⟨he,z',ER⟩=>by subst he ER;exact hK z'
  |halt x w'=>simp only[Oper.quietUpon]at h3
 ·rw[if_neg (by rw[hw];exact Bool.false_ne_true)];exact D7
def zgm(P:Program)(md:Region.Mode)(ops:Array Oper)(w₀:World)(n:Nat)(L:Array Bool->Act->Prop):Nat->Array Bool->Act->Prop
 |0,listed,a=>L listed a
 |f+1,listed,a=>(∃i∈Region.ready md ops listed,i<n)/\∀i∈Region.ready md ops listed,i<n->∃o v,ops[i]?=some o/\YieldsG P ops w₀ o v a/\zgm P md ops w₀ n L f (listed.setIfInBounds i true) (a.put o.dst v)
theorem zkM{n i:Nat}{oi:Oper}{v:Value}{L:Array Bool->Act->Prop}(hi:ops[i]?=some oi)(bW:∀(j:Nat) (o:Oper) cs b,ops[j]?=some o->o.op≠ .select cs b)(aM:i<n)
 (jV:∀listed a,L listed a->∀j∈Region.ready md ops listed,n<=j):
 ∀(f:Nat) (listed:Array Bool) (a:Act),
  (∀j oj,ops[j]?=some oj->j≠i->listed.getD j true=false->(∀e∈oj.after,Region.binds md e=true->e.on≠i)->oi.apart ops oj=true)->
  i∈Region.ready md ops listed->YieldsG P ops w₀ oi v a->
  zgm P md ops w₀ n L f (listed.setIfInBounds i true) (a.put oi.dst v)->zgm P md ops w₀ n L (f+1) listed a:=by
 intro f;induction f with
 |zero=>
  intro listed a _ hr hy H;refine⟨⟨i,hr,aM⟩,fun j hj Eh=>?_⟩;by_cases bF:j=i
  ·subst bF;exact⟨oi,v,hi,hy,H⟩
  ·have:=jV _ _ H j (ready_mono hj bF);omega
 |succ f ih=>
  intro listed a dX hr hy H;refine⟨⟨i,hr,aM⟩,fun j hj Eh=>?_⟩;by_cases bF:j=i
  ·subst bF;exact⟨oi,v,hi,hy,H⟩
  ·obtain⟨oj,u,ja,NG,Hj⟩:=H.2 j (ready_mono hj bF) Eh;obtain⟨kD,oj',yy,aH⟩:=mem_ready.1 hj;rw[ja]at yy;cases yy;have dF:=(mem_ready.1 hr).1;have mV:∀e∈oj.after,Region.binds md e=true->e.on≠i:=fun e he hb Ax=>by
    have h1:=aH e he hb;rw[Ax,getD_both dF]at h1;cases h1
   obtain⟨h1,h2,h3⟩:=Oper.apart_spec (dX j oj ja bF kD mV);refine⟨oj,u,ja,NG.put h1 (fun cs b=>bW j oj cs b ja),?_⟩;refine ih (listed.setIfInBounds j true) (a.put oj.dst u) ?_ (ready_mono hr (Ne.symm bF)) (hy.put' h3 (fun cs b=>bW i oi cs b hi)) ?_
   ·intro k ok hk ar dF mU;exact Maq
   ·rw[Array.setIfInBounds_comm _ _ bF,<-Act.put_comm a v u h2];exact Hj
def zeR(md:Region.Mode)(ops:Array Oper):Nat->Nat->Array Bool->Bool
 |0,k,listed=>decide (Region.ready md ops listed=[k])&&decide (Region.ready md ops (listed.setIfInBounds k true)=[k+1])&&decide (Region.ready md ops ((listed.setIfInBounds k true).setIfInBounds (k+1) true)=[])
 |f+1,k,listed=>(Region.ready md ops listed).contains k&&Region.free md ops listed k&&zeR md ops f (k+1) (listed.setIfInBounds k true)
def letB(md:Region.Mode)(ops:Array Oper)(n:Nat):Bool:=
 decide (ops.size=n+2)&&Region.noSelect ops&&
 (match ops[n]? with
  |none=>false
  |some al=>al.guard.isNone&&al.after.isEmpty&&(List.range n).all fun j=>match ops[j]? with
   |none=>false
   |some oj=>al.apart ops oj&&oj.after.all fun e=>e.on != n)&&
 (match ops[n+1]? with
  |none=>false
  |some st=>st.guard.isNone&&(List.range (n+1)).all fun j=>st.after.any fun e=>Region.binds md e&&e.on==j)&&
 zeR md ops n 0 (Array.replicate ops.size false)
theorem zja{n:Nat}{Lq:Act->Prop}(bW:Region.noSelect ops=true):
 ∀(l:List Oper) (k:Nat) (listed:Array Bool) (a:Act),(∀j,j<l.length->l[j]?=ops[k+j]?)->k+l.length=n->
 zeR md ops l.length k listed=true->zgU P ops w₀ Lq l a->
 zgm P md ops w₀ n (fun listed' a'=>zeR md ops 0 n listed'=true/\Lq a') l.length listed a
 | [],k,listed,a,_,hk,hB,h=>by
   have:k=n:=by simpa using hk
   subst this;exact⟨hB,h⟩
 |o::l,k,listed,a,hl,hk,hB,h=>by
  have h0:ops[k]?=some o:=by simpa using(hl 0 Mcv).symm
  simp only[List.length_cons,zeR,Bool.and_eq_true]at hB;obtain⟨⟨hr,hf⟩,jP⟩:=hB;have jz:k<n:=by simp only[List.length_cons]at hk;omega
  have cm:k∈Region.ready md ops listed:=by simpa using hr
  obtain⟨v,hy,hK⟩:∃v,YieldsG P ops w₀ o v a/\zgU P ops w₀ Lq l (a.put o.dst v):=by
   unfold zgU at h;by_cases hw:Region.wanted o (yielded ops a.tmps)=true
   ·rw[if_pos hw]at h;obtain⟨v,h1,h2⟩:=h;exact⟨v,.inl ⟨hw,h1⟩,h2⟩
   ·rw[if_neg hw]at h;exact⟨undef,.inr ⟨by simpa using hw,rfl⟩,h⟩
  exact zkM h0 (Region.noSelect_spec bW) jz (fun listed' a' hL j hj=>by
   have h1:=hL.1;simp only[zeR,Bool.and_eq_true,decide_eq_true_eq]at h1;rw[h1.1.1]at hj;have:j=n:=by simpa using hj
   omega) l.length listed a (Region.free_spec h0 hf) cm hy
   (zja bW l (k+1) _ _ (fun j hj=>by have:=hl (j+1) Mcw;simpa[Nat.add_assoc,Nat.add_comm 1 j]using this) (by simp only[List.length_cons]at hk;omega) jP hK)
theorem alloc_ext(w:World)(o:Obj):∃z,w.alloc o=w.ext z:=zaU (zad Qb o)
theorem zdK{id:Nat}{Q:Exit->Act->World->Prop}{a:Act}{w:World}{l:List Oper}(n:Nat)(al st:Oper)(obj obj':Obj)(hm:P.follows .mixedOrders=true)(hB:letB .any l.toArray n=true)
 (hal:l[n]?=some al)(ai:l[n+1]?=some st)
 (hrun:∀(a:Act) (W:World),(execOp a.eval al).run P W=.ok (.value (.pointer (some ⟨W.heap.size,0,none⟩))) (W.alloc obj))
 (mO:zgU P l.toArray w (fun aF=>(∀W B,W.heap[B]?=some obj->∃W',(execOp (aF.put al.dst (.pointer (some ⟨B,0,none⟩))).eval st).run P W=.ok .skip W'/\W'.heap[B]?=some obj'/\W.grownBy W' (some B))/\
   (∀B W,(∃z,W=w.ext z)->w.heap.size<=B->W.heap[B]?=some obj'->Q .normal ((aF.put al.dst (.pointer (some ⟨B,0,none⟩))).put st.dst undef) W)) (l.take n) a):(Code.region id l.toArray true).wp P Q a w:=by
 generalize hLq:(fun aF:Act=>(∀W B,W.heap[B]?=some obj->∃W',(execOp (aF.put al.dst (.pointer (some ⟨B,0,none⟩))).eval st).run P W=.ok .skip W'/\W'.heap[B]?=some obj'/\W.grownBy W' (some B))/\
  (∀B W,(∃z,W=w.ext z)->w.heap.size<=B->W.heap[B]?=some obj'->Q .normal ((aF.put al.dst (.pointer (some ⟨B,0,none⟩))).put st.dst undef) W))=Lq at mO
 simp only[letB,Bool.and_eq_true,decide_eq_true_eq]at hB;obtain⟨⟨⟨⟨hsz,bW⟩,dC⟩,bx⟩,xN⟩:=hB;have x9:l.toArray[n]?=some al:=by simpa using hal
 have tB:l.toArray[n+1]?=some st:=by simpa using ai
 rw[x9]at dC;rw[tB]at bx;simp only[Bool.and_eq_true,List.all_eq_true,List.mem_range,Option.isNone_iff_eq_none]at dC bx;obtain⟨⟨cK,mu⟩,dC⟩:=dC;obtain⟨cz,bx⟩:=bx;have yS:=Region.noSelect_spec bW;generalize hops:l.toArray=ops at*;have bT:(l.take n).length=n:=by
  have:l.length=n+2:=by rw[<-hsz,<-hops];simp
  simp;omega
 have H:=zja (md:=.any) (n:=n) bW (l.take n) 0 _ a (fun j hj=>by
  have sV:j<n:=by rw[bT]at hj;exact hj
  rw[<-hops];simp[sV]) (by simpa using bT) (by rw[bT];exact xN) mO
 rw[bT,hsz]at H;refine wp_region_any hm ?_;rw[hsz];have aw:(Array.replicate (n+2) false).size=n+2:=Mcv;have ka:(Array.replicate (n+2) false).getD n true=false:=Mcv;have bD:(Array.replicate (n+2) false).getD (n+1) true=false:=Mcv;have uJ:({w with drawn:=w.drawn+1}:World)=w.ext ⟨#[],w.drawn+1⟩:=by simp[World.ext]
 rw[uJ];generalize(⟨#[],w.drawn+1⟩:Ez)=z0;generalize jA:Array.replicate (n+2) false=listed0 at*;clear jA mO xN uJ;have sr:∀j oj,j<n->ops[j]?=some oj->al.apart ops oj=true/\∀e∈oj.after,e.on≠n:=fun j oj hj ja=>by
  have:=dC j hj;rw[ja]at this;simp only[Bool.and_eq_true,Array.all_eq_true',bne_iff_ne,ne_eq]at this;exact⟨this.1,fun e he=>this.2 e he⟩
 have qE:∀(listed:Array Bool) (j:Nat),j<n+1->listed.getD j true=false->n+1∉Region.ready .any ops listed:=fun listed j hj dF hr=>by
  obtain⟨_,o,ho,aH⟩:=mem_ready.1 hr;rw[tB]at ho;cases ho;obtain⟨e,he,hb⟩:=Array.any_eq_true'.1 (bx j hj);simp only[Bool.and_eq_true,beq_iff_eq]at hb;have:=aH e he hb.1;rw[hb.2,getD_both dF]at this;cases this
 have aa:∀(listed:Array Bool) (j:Nat),j∈Region.ready .any ops listed->j<n\/j=n\/j=n+1:=fun listed j hj=>by
  obtain⟨_,o,ho,_⟩:=mem_ready.1 hj;have:=(Array.getElem?_eq_some_iff.1 ho).1;omega
 have EU:∀t,Region.wanted al (yielded ops t)=true:=fun t=>by simp[Region.wanted,cK]
 have EV:∀t,Region.wanted st (yielded ops t)=true:=fun t=>by simp[Region.wanted,cz]
 have last:∀(listed:Array Bool) (aF:Act) (z:Ez) (B:Nat),Lq aF->zeR .any ops 0 n listed=true->w.heap.size<=B->(w.ext z).heap[B]?=some obj->
  wpAny P .any ops Q 1 (listed.setIfInBounds n true) (aF.put al.dst (.pointer (some ⟨B,0,none⟩))) (w.ext z):=fun listed aF z B hq hL eR hb=>by
  rw[<-hLq]at hq;obtain⟨hstore,h⟩:=hq;simp only[zeR,Bool.and_eq_true,decide_eq_true_eq]at hL;refine⟨fun h0=>(by rw[hL.1.2]at h0;cases h0),fun i hi=>?_⟩;rw[hL.1.2]at hi;have aM:i=n+1:=Mek;subst aM;unfold wpOp;simp only[tB];rw[if_pos (EV _)];refine .inl ?_;obtain⟨W',hr,cI,dr⟩:=hstore _ _ hb;unfold Oper.wp;rw[hr];refine⟨hL.2,h B W' ?_ eR cI⟩;exact zaU ((zaq w z).grown dr (Below.size (zaq w z)) (fun k hk=>by cases hk;exact eR))
 have modeB:∀(f:Nat) (listed:Array Bool) (a:Act) (z:Ez) (B:Nat),listed.getD n true=false->w.heap.size<=B->(w.ext z).heap[B]?=some obj->
  zgm P .any ops w n (fun listed' a'=>zeR .any ops 0 n listed'=true/\Lq a') f listed a->
  wpAny P .any ops Q (f+1) (listed.setIfInBounds n true) (a.put al.dst (.pointer (some ⟨B,0,none⟩))) (w.ext z):=by
  intro f;induction f with
  |zero=>
   intro listed a z B _ eR hb hH;exact last listed a z B hH.2 hH.1 eR hb
  |succ f ih=>
   intro listed a z B dF eR hb hH;obtain⟨⟨i0,eG,xD⟩,aH⟩:=hH;have xC:=ready_mono eG (show i0≠n by omega);refine⟨fun h0=>(by rw[h0]at xC;cases xC),fun i hi=>?_⟩;have aM:i≠n:=by
    rintro rfl;have:=(mem_ready.1 hi).1;have hs:i<listed.size:=by
     rcases Nat.lt_or_ge i listed.size with h|h
     ·exact h
     ·simp[Array.getElem?_eq_none h]at dF
    simp[Array.getElem?_setIfInBounds,hs]at this
   rcases aa _ i hi with aa|aa|aa
   ·obtain⟨hu,oi,yx,DD⟩:=mem_ready.1 hi;obtain⟨nO,mU⟩:=sr i oi aa yx
    have hr:i∈Region.ready .any ops listed:=mem_ready.2 ⟨by rw[getD_set_ne true (Ne.symm aM)]at hu;exact hu,oi,yx,fun e he hb=>by
     have:=DD e he hb;rw[getD_set_ne false (Ne.symm (mU e he))]at this
     exact this⟩
    obtain⟨o,v,ho,hy,wx⟩:=aH i hr aa;rw[yx]at ho;cases ho;obtain⟨h1,h2,h3⟩:=Oper.apart_spec nO;refine zfS yx (hy.put' h1 (fun cs b=>yS i oi cs b yx)) fun z'=>?_
    rw[<-Array.setIfInBounds_comm _ _ aM,Act.put_comm a _ v h2,zeV];refine ih _ _ _ B (by rw[getD_set_ne true aM];exact dF) eR ?_ wx;rw[<-zeV,zcL _ _ _ (Array.getElem?_eq_some_iff.1 hb).1];exact hb
   ·exact absurd aa aM
   ·subst aa;have Np:(listed.setIfInBounds n true).getD i0 true=false:=by rw[getD_set_ne true Mcq];exact(mem_ready.1 eG).1
    exact absurd hi (qE _ i0 Mcq Np)
 have modeA:∀(f:Nat) (listed:Array Bool) (a:Act) (z:Ez),listed.getD n true=false->
  zgm P .any ops w n (fun listed' a'=>zeR .any ops 0 n listed'=true/\Lq a') f listed a->
  wpAny P .any ops Q (f+2) listed a (w.ext z):=by
  have make:∀(f:Nat) (listed:Array Bool) (a:Act) (z:Ez),listed.getD n true=false->zgm P .any ops w n (fun listed' a'=>zeR .any ops 0 n listed'=true/\Lq a') f listed a->
   wpOp P ops Q n (wpAny P .any ops Q (f+1) (listed.setIfInBounds n true)) a (w.ext z):=fun f listed a z dF hH=>by
   unfold wpOp;simp only[x9];rw[if_pos (EU _)];refine .inl ?_;unfold Oper.wp;rw[hrun];obtain⟨z',NH⟩:=alloc_ext (w.ext z) obj;have hb:=heap_alloc_new (w.ext z) obj;have nk:w.heap.size<=(w.ext z).heap.size:=by rw[zae];omega
   show wpAny P .any ops Q (f+1) (listed.setIfInBounds n true) (a.put al.dst (.pointer (some ⟨(w.ext z).heap.size,0,none⟩))) ((w.ext z).alloc obj);generalize(w.ext z).heap.size=B at*;rw[NH,zeV]at hb⊢;exact modeB f listed a _ B dF nk hb hH
  intro f;induction f with
  |zero=>
   intro listed a z dF hH;have hL:=hH.1;simp only[zeR,Bool.and_eq_true,decide_eq_true_eq]at hL;refine⟨fun h0=>(by rw[hL.1.1]at h0;cases h0),fun i hi=>?_⟩;rw[hL.1.1]at hi;have aM:i=n:=Mek;subst aM;exact make 0 listed a z dF hH
  |succ f ih=>
   intro listed a z dF hH;obtain⟨⟨i0,eG,xD⟩,aH⟩:=hH;refine⟨fun h0=>(by rw[h0]at eG;cases eG),fun i hi=>?_⟩;rcases aa _ i hi with aa|aa|aa
   ·obtain⟨o,v,ho,hy,wx⟩:=aH i hi aa;refine zfS ho hy fun z'=>?_
    rw[zeV];exact ih _ _ _ (by rw[getD_set_ne true Mcq];exact dF) wx
   ·subst aa;exact make (f+1) listed a z dF ⟨⟨i0,eG,xD⟩,aH⟩
   ·subst aa;exact absurd hi (qE _ i0 Mcq (mem_ready.1 eG).1)
 exact modeA n listed0 a z0 ka H
end
theorem quietg{P:Program}{f:FuncId}{args:Array Value}{W:World}{v:Value}(h:Calls P f args W (Ret W v)):Calls P f args W fun e w''=>e=.returned v/\∃z,w''=W.ext z:=h
end
open Go.Shelf
theorem zmg{d:Deed}(h1:inR d.kind 0 8=true)(h2:inR d.years 0 99=true):zfv d=zfW d:=
 zoU (zf5.1 h1) (zf5.1 h2).1
theorem zjs(d:Deed)(B:Option Addr)(c:Nat)(w:World)(hl:zdE d)(hS:Sl w 3 RPart.cells B d.to):Calls Tryz.prog 17 #[d.v B c] w (Ret w (.int .i64 (zaC d))):=by
 obtain⟨R,hR⟩:=Qd (zaC d)
 rw[<-hR];have Az:=zmg (d:=d);have oZ:=fun W (hl:d.to.length<=1000) (h:Qa w W)=>zmZ d B c W hl (hS.keep h)
 obtain⟨kd,dy,pl,fr,ts,cl,yr⟩:=d;obtain⟨l1,l2,ci,aa⟩:=hl;have HS:=zHi hS;unfold zaC at hR;unfold Deed.v at oZ⊢;simp only at hR l1 l2 ci aa hS Az oZ;obtain⟨HR,lJ,ol,cv⟩:=yH4 hR Az oZ ci;clear hR hS Az oZ ci;go_enter Tryz.func17,Tryz.ntmps17
 go_upto_region 1 with fail
 generalize am:w.alloc _=W0;obtain⟨g0,aS⟩:=boxed am;obtain⟨d0,d1,d2,d3,d4,d5,d6⟩:=zaK g0;have l0:=zab g0;have aj:=zHi aS;clear am aS;cases g7:inR kd 0 8
 ·have HE:Hid (R=15):=by show _=_;rw[HR.o];simp[g7]
  exact Ms
 go_upto_region 3 with(first
                        |(go_at_call 33;go_must(refine(zbY _ _ _ _).mono ?_);rintro e wq ⟨rfl,rfl⟩;(first|rw[g7]|rw[lh]|rw[hy9]))
                        |(go_at_call 39;go_must(refine(zdq _ _).mono ?_);rintro e wq ⟨rfl,rfl⟩;rw[iW])
                        |(go_at_call 8;go_must(refine(zdo _ _ Mc3).mono ?_);rintro e wq ⟨rfl,rfl⟩;(first|rw[cN]|rw[gV]|rw[uD])))
 cases iW:zbm dy
 ·have HE:Hid (R=2):=by show _=_;rw[HR.o];simp[g7,iW]
  exact Ms
 cases lh:inR cl 0 4
 ·have HE:Hid (R=2):=by show _=_;rw[HR.o];simp[g7,iW,lh]
  exact Ms
 cases hy9:inR yr 0 99
 ·have HE:Hid (R=2):=by show _=_;rw[HR.o];simp[g7,iW,lh,hy9]
  exact Ms
 go_upto_region 5 with(first
                        |(go_at_call 33;go_must(refine(zbY _ _ _ _).mono ?_);rintro e wq ⟨rfl,rfl⟩;(first|rw[g7]|rw[lh]|rw[hy9]))
                        |(go_at_call 39;go_must(refine(zdq _ _).mono ?_);rintro e wq ⟨rfl,rfl⟩;rw[iW])
                        |(go_at_call 8;go_must(refine(zdo _ _ Mc3).mono ?_);rintro e wq ⟨rfl,rfl⟩;(first|rw[cN]|rw[gV]|rw[uD])))
 by_cases h8:8<ts.length
 ·have h9:(8:Int)<(ts.length:Int):=Mcq;have HE:Hid (R=8):=by show _=_;rw[HR.o];simp[g7,iW,lh,hy9,h8]
  exact Ms
 have h9:¬(8:Int)<(ts.length:Int):=Mcq;have qz:R=if !zcC pl||!zcC fr||!ts.all (fun p=>zaE p.name)then 4 else if !zfW ⟨kd,dy,pl,fr,ts,cl,yr⟩then 3 else 0:=by rw[HR.o];simp[g7,iW,lh,hy9,h8]
 rw[<-lJ.o g7 hy9]at qz;have bA:=zHi qz;clear qz lJ HR;go_upto_region 7 with fail
 go_cut [47]from 28 to 47 (fun v wc=>v=.bool (!zcC pl||!zcC fr)/\W0=wc)
 case first=>
  cases z1:noB pl
  ·have w1:¬pl.toList=[]:=by simpa using(show pl.toList.isEmpty=false from z1)
   cases gT:zaE pl
   ·have cN:zcN pl=false:=by rw[<-zcw,gT]
    exact Mq
   ·have cN:zcN pl=true:=by rw[<-zcw,gT]
    cases z2:noB fr
    ·exact Mb7
    ·exact Mcm
  ·have w1:pl.toList=[]:=by simpa using(show pl.toList.isEmpty=true from z1)
   cases z2:noB fr
   ·exact Mb7
   ·exact Mcm
 case rest=>
  obtain⟨rfl,rfl⟩:=hcut;cases hn9:(!zcC pl||!zcC fr)
  ·have tu:R=if !ts.all (fun p=>zaE p.name)then 4 else if !zfv ⟨kd,dy,pl,fr,ts,cl,yr⟩then 3 else 0:=by rw[bA.o,hn9,Bool.false_or]
   have r9:=zHi (fun W h=>ol.o W Mcq h);generalize zfv ⟨kd,dy,pl,fr,ts,cl,yr⟩=fo at*;have lW:=zHi tu;clear tu bA ol;go_upto_region 10 with fail
   go_loopw [3] (fun i wr=>∃k:Nat,k<=ts.length/\i=.int .i64 k/\W0=wr/\Hid (R=if !(ts.drop k).all (fun p=>zaE p.name)then 4 else if !fo then 3 else 0)) (fun i _=>ts.length-(intOf i).toNat)
   case atStart=>exact⟨0,Nat.zero_le _,rfl,rfl,by rw[List.drop_zero];exact lW.o⟩
   case round=>
    obtain⟨k,hk,rfl,rfl,HX⟩:=hrel;by_cases aa:k<ts.length
    ·obtain⟨b,off,rfl,hb,ah⟩:=(HS.o.keep aj.o).at aa;have hx:=HX.o;rw[List.drop_eq_getElem_cons aa,List.all_cons]at hx;have hsz:=cv.o _ (List.getElem_mem aa);obtain⟨ax,ak⟩:=yH2 hx aa;generalize ts[k]=x at*;obtain⟨nm,nu,de⟩:=x;have i0:W0.cell? ⟨b,off+k*3,none⟩=some (.string nm):=ah 0 _ rfl;have ar:(k:Int)<(ts.length:Int):=Mcq;have aR:(0:Int)<=(k:Int):=Mcq;simp only at hsz;clear ah hx aa;cases hp3:zaE nm
     ·have uD:zcN nm=false:=by rw[<-zcw,hp3]
      have HE:Hid (R=4):=by show _=_;rw[ax.o];simp[hp3]
      exact Ms
     ·have uD:zcN nm=true:=by rw[<-zcw,hp3]
      have HE:Hid (R=if !(ts.drop (k+1)).all (fun p=>zaE p.name)then 4 else if !fo then 3 else 0):=by show _=_;rw[ax.o,hp3,Bool.true_and]
      go_wp2_with (first
                    |(go_at_call 33;go_must(refine(zbY _ _ _ _).mono ?_);rintro e wq ⟨rfl,rfl⟩;(first|rw[g7]|rw[lh]|rw[hy9]))
                    |(go_at_call 39;go_must(refine(zdq _ _).mono ?_);rintro e wq ⟨rfl,rfl⟩;rw[iW])
                    |(go_at_call 8;go_must(refine(zdo _ _ Mc3).mono ?_);rintro e wq ⟨rfl,rfl⟩;(first|rw[cN]|rw[gV]|rw[uD])))
      exact MJ
    ·have ar:¬(k:Int)<(ts.length:Int):=Mcq;have HE:Hid (R=if !fo then 3 else 0):=by show _=_;rw[HX.o,List.drop_of_length_le Mcq];rfl
     cases fo
     ·exact MaL
     ·exact MaL
  ·have HE:Hid (R=4):=by show _=_;rw[bA.o,hn9];rfl
   exact Ms
def zno(d:Deed):Prop:=d.place.size<=9223372036854775807/\d.frm.size<=9223372036854775807/\(∀p∈d.to,p.name.size<=9223372036854775807)/\d.to.length<=100000
theorem zdB(s:ByteArray)(w:World)(hs:s.size<=9223372036854775807):Calls Tryz.prog 46 #[.string s] w (Ret0 w (.bool (zaE s))):=by
 go_enter Tryz.func46,Tryz.ntmps46
 go_wp2_with fail
 go_loop [7] (fun i=>∃k:Nat,k<=s.size/\i=.int .i64 k/\nmGo (zcZ s) 0=nmGo ((zcZ s).drop k) k) (fun i=>s.size-(intOf i).toNat)
 case atStart=>exact⟨0,Nat.zero_le _,rfl,rfl⟩
 case round=>
  obtain⟨k,hk,rfl,hf⟩:=hrel;by_cases aa:k<s.size
  ·rw[zfT s k aa,show s.data[k]=s[k]from rfl]at hf;have HF:=zHi hf;clear hf;have HL:=zHi aa;rcases Nat.eq_zero_or_pos k with rfl|aR
   ·go_wp2_with fail
    all_goals first
     |(go_round
       case rel=>exact⟨1,by have:=HL.o;omega,rfl,by rw[HF.o,nmGo,if_neg MdK]⟩
       case measure=>have:=HL.o;simp[intOf];omega)
     |(go_ret
       refine⟨congrArg Ending.returned (zaR ?_),rfl⟩;rw[zaE,HF.o,nmGo,if_pos MdK]
       rfl)
   ·have hz:((k:Int)==0)=false:=Mcw;have nz:¬((k:Int)=0):=Mcq;go_wp2_with fail
    all_goals first
     |(go_round
       case rel=>exact⟨k+1,by have:=HL.o;omega,by go_num,by rw[HF.o,nmGo,if_neg MdK]⟩
       case measure=>have:=HL.o;simp[intOf];omega)
     |(go_ret
       refine⟨congrArg Ending.returned (zaR ?_),rfl⟩;rw[zaE,HF.o,nmGo,if_pos MdK]
       rfl)
  ·rw[List.drop_eq_nil_of_le (by rw[zfz];omega)]at hf;go_wp2_with fail
   all_goals go_ret
   all_goals refine⟨congrArg Ending.returned (zaR ?_),rfl⟩
   all_goals simp[zaE,hf,nmGo, *]
theorem cdcX_any(q:RPart)(W:World)(hs:q.name.size<=9223372036854775807):
 Calls Tryz.prog 48 #[.agg #[.string q.name,.int .i64 q.num,.int .i64 q.den]] W (Ret W (.bool (!zaE q.name))):=by
 go_enter Tryz.func48,Tryz.ntmps48
 go_wp2_with (go_at_call 46;refine(zdB _ _ hs).mono ?_;intro e wq hq;rcases Ret0.bools hq with⟨rfl,⟨hb,rfl⟩|⟨hb,rfl⟩⟩<;>clear hq)
 all_goals go_ret
 all_goals exact Ret.of (zaR (by simp[*])) Bw
theorem zfI(xs:List RPart)(w:World)(hs:∀p∈xs,p.name.size<=9223372036854775807):
 zeZ 48 #[] (fun x=> .agg (RPart.cells x).toArray) (fun q=>!zaE q.name) xs w:=fun x hx W hW=>by
 refine(cdcX_any x W (hs x hx)).mono ?_;exact May
theorem zjt(d:Deed)(B:Option Addr)(c:Nat)(w:World)(hF:FormsIn w)(hO:zno d)(ao:d.to.length<=c)(hS:Sl w 3 RPart.cells B d.to):
 Calls Tryz.prog 20 #[.agg #[.int .i64 d.kind,.int .i64 d.day,.string d.place,.string d.frm,.slice B d.to.length c,.int .i64 d.cls,.int .i64 d.years]] w (Ret w (.int .i64 (zc4 d))):=by
 obtain⟨kd,dy,pl,fr,ps,cl,yr⟩:=d;obtain⟨o1,o2,o3,o4⟩:=hO;simp only at*;have eg:∀args w,(callFunc 48 args).run Tryz.prog w=.ok (.enter 48 args) w:=enters_of Tryz.func48 Mcs rfl;obtain⟨HS,HC,HN,HL⟩:=yH4 hS ao o3 o4;clear hS ao o3 o4;generalize hR:zc4 ⟨kd,dy,pl,fr,ps,cl,yr⟩=R;have HR:=zHi hR;clear hR;go_enter Tryz.func20,Tryz.ntmps20
 by_cases hk:inR kd 0 8=true
 ·obtain⟨k,rfl,g7⟩:∃k:Nat,kd=k/\k<9:=by
   simp[inR]at hk;exact⟨kd.toNat,by omega,by omega⟩
  have aa:k<zed.length:=g7;have aQ:=hF.2 k _ (List.getElem?_eq_getElem aa);have dD:0<w.heap.size:=hF.1;have hf:zed.getD ((k:Int).toNat) ⟨⟨#[]⟩,false,false,false,false,false,false,false⟩=zed[k]:=by
   exact MbQ
  generalize zed[k]=f at aQ hf;obtain⟨word,fp,ff,fc,fy,fa,fpt,fs⟩:=f;have f0:w.cell? ⟨0,k*8,none⟩=some (.string word):=aQ 0 _ rfl;have f1:w.cell? ⟨0,k*8+1,none⟩=some (.bool fp):=aQ 1 _ rfl;have f2:w.cell? ⟨0,k*8+2,none⟩=some (.bool ff):=aQ 2 _ rfl;have f3:w.cell? ⟨0,k*8+3,none⟩=some (.bool fc):=aQ 3 _ rfl;have f4:w.cell? ⟨0,k*8+4,none⟩=some (.bool fy):=aQ 4 _ rfl;have f5:w.cell? ⟨0,k*8+5,none⟩=some (.bool fa):=aQ 5 _ rfl;have f6:w.cell? ⟨0,k*8+6,none⟩=some (.bool fpt):=aQ 6 _ rfl;have f7:w.cell? ⟨0,k*8+7,none⟩=some (.bool fs):=aQ 7 _ rfl;have lJ:=zHi hf;clear aQ hF hf;have k0:(0:Int)<=(k:Int):=Mcq;have k9:(k:Int)<9:=Mcq;go_upto_region 3 with(go_at_call 45;refine(zbq _ _ _ _).mono ?_;rintro e wq ⟨rfl,rfl⟩;rw[hk])
  go_upto_region 7 with(first
                         |(go_at_call 45;refine(zbq _ _ _ _).mono ?_;intro e wq hq;rcases Ret0.bools hq with⟨rfl,⟨hb,rfl⟩|⟨hb,rfl⟩⟩<;>clear hq)
                         |(go_at_call 30;refine(zbQ _ _).mono ?_;intro e wq hq;rcases Ret0.bools hq with⟨rfl,⟨hb,rfl⟩|⟨hb,rfl⟩⟩<;>clear hq)
                         |(go_at_call 46;refine(zdB _ _ Mc3).mono ?_;intro e wq hq;rcases Ret0.bools hq with⟨rfl,⟨hb,rfl⟩|⟨hb,rfl⟩⟩<;>clear hq)
                         |(go_at_call 47;refine(zcf _ _ eg (fun q:RPart=>!zaE q.name) _ _ _ ps _ rfl HL.o (HS.o.keep (n:=w.heap.size) Bw) (zfI ps _ HN.o)).mono ?_;intro e wq hq;rcases Ret.bools hq with⟨zq,rfl,⟨hb,rfl⟩|⟨hb,rfl⟩⟩<;>clear hq)
                         |(go_at_call 49;refine(zbT ⟨word,fp,ff,fc,fy,fa,fpt,fs⟩ _ _ _ _ _ _ ps _ _ _ _ rfl Mcq HC.o (HS.o.keep (n:=w.heap.size) Bw)).mono ?_;intro e wq hq;rcases Ret.bools hq with⟨zq,rfl,⟨hb,rfl⟩|⟨hb,rfl⟩⟩<;>clear hq))
  all_goals(try(go_ret;exact Ret.of (zcd McU) Bw))
  go_cut [31]from 4 (fun v wc=>v=.bool (!zcC pl)/\Qa w wc/\w.heap.size+1<=wc.heap.size/\wc.heap[w.heap.size]?=some (.cells #[.int .i64 (k:Int),.int .i64 dy,.string pl,.string fr,.slice B ps.length c,.int .i64 cl,.int .i64 yr] 28))
  case first=>
   go_wp2_with (first
                 |(go_at_call 45;refine(zbq _ _ _ _).mono ?_;intro e wq hq;rcases Ret0.bools hq with⟨rfl,⟨hb,rfl⟩|⟨hb,rfl⟩⟩<;>clear hq)
                 |(go_at_call 30;refine(zbQ _ _).mono ?_;intro e wq hq;rcases Ret0.bools hq with⟨rfl,⟨hb,rfl⟩|⟨hb,rfl⟩⟩<;>clear hq)
                 |(go_at_call 46;refine(zdB _ _ Mc3).mono ?_;intro e wq hq;rcases Ret0.bools hq with⟨rfl,⟨hb,rfl⟩|⟨hb,rfl⟩⟩<;>clear hq)
                 |(go_at_call 47;refine(zcf _ _ eg (fun q:RPart=>!zaE q.name) _ _ _ ps _ rfl HL.o (HS.o.keep (n:=w.heap.size) Bw) (zfI ps _ HN.o)).mono ?_;intro e wq hq;rcases Ret.bools hq with⟨zq,rfl,⟨hb,rfl⟩|⟨hb,rfl⟩⟩<;>clear hq)
                 |(go_at_call 49;refine(zbT ⟨word,fp,ff,fc,fy,fa,fpt,fs⟩ _ _ _ _ _ _ ps _ _ _ _ rfl Mcq HC.o (HS.o.keep (n:=w.heap.size) Bw)).mono ?_;intro e wq hq;rcases Ret.bools hq with⟨zq,rfl,⟨hb,rfl⟩|⟨hb,rfl⟩⟩<;>clear hq))
   all_goals go_meet
   all_goals(refine⟨zaR Mdo,Bw,by first|omega|(simp[zae];done)|(simp[zae];omega),?_⟩;exact zat _ _ _ rfl)
  case rest=>
   obtain⟨rfl,hB,hsz,g0⟩:=hcut;have d0:wc.cell? ⟨w.heap.size,0,none⟩=some (.int .i64 (k:Int)):=Mcr;have d1:wc.cell? ⟨w.heap.size,1,none⟩=some (.int .i64 dy):=Mcr;have d2:wc.cell? ⟨w.heap.size,2,none⟩=some (.string pl):=Mcr;have d3:wc.cell? ⟨w.heap.size,3,none⟩=some (.string fr):=Mcr;have d4:wc.cell? ⟨w.heap.size,4,none⟩=some (.slice B ps.length c):=Mcr;have d5:wc.cell? ⟨w.heap.size,5,none⟩=some (.int .i64 cl):=Mcr;have d6:wc.cell? ⟨w.heap.size,6,none⟩=some (.int .i64 yr):=Mcr;have e0:w.heap.size<wc.heap.size:=Mcq;have e1:w.heap.size≠wc.heap.size:=Mcq;cases bD:zcC pl
   ·exact MN
   ·go_upto_region 8 with fail
    go_cut [31]from 4 (fun v wc=>v=.bool (!zcC fr)/\Qa w wc/\w.heap.size+1<=wc.heap.size/\wc.heap[w.heap.size]?=some (.cells #[.int .i64 (k:Int),.int .i64 dy,.string pl,.string fr,.slice B ps.length c,.int .i64 cl,.int .i64 yr] 28))
    case first=>
     exact Mz
    case rest=>
     obtain⟨rfl,hB,hsz,g0⟩:=hcut;have d0:wc.cell? ⟨w.heap.size,0,none⟩=some (.int .i64 (k:Int)):=Mcr;have d1:wc.cell? ⟨w.heap.size,1,none⟩=some (.int .i64 dy):=Mcr;have d2:wc.cell? ⟨w.heap.size,2,none⟩=some (.string pl):=Mcr;have d3:wc.cell? ⟨w.heap.size,3,none⟩=some (.string fr):=Mcr;have d4:wc.cell? ⟨w.heap.size,4,none⟩=some (.slice B ps.length c):=Mcr;have d5:wc.cell? ⟨w.heap.size,5,none⟩=some (.int .i64 cl):=Mcr;have d6:wc.cell? ⟨w.heap.size,6,none⟩=some (.int .i64 yr):=Mcr;have e0:w.heap.size<wc.heap.size:=Mcq;have e1:w.heap.size≠wc.heap.size:=Mcq;cases dY:zcC fr
     ·exact MN
     ·have h8:¬8<ps.length:=Mcq;go_upto_region 9 with fail
      go_cut [31]from 4 (fun v wc=>v=.bool (ps.any (fun p=>!zaE p.name))/\Qa w wc/\w.heap.size+1<=wc.heap.size/\wc.heap[w.heap.size]?=some (.cells #[.int .i64 (k:Int),.int .i64 dy,.string pl,.string fr,.slice B ps.length c,.int .i64 cl,.int .i64 yr] 28))
      case first=>
       exact Mz
      case rest=>
       obtain⟨rfl,hB,hsz,g0⟩:=hcut;have d0:wc.cell? ⟨w.heap.size,0,none⟩=some (.int .i64 (k:Int)):=Mcr;have d1:wc.cell? ⟨w.heap.size,1,none⟩=some (.int .i64 dy):=Mcr;have d2:wc.cell? ⟨w.heap.size,2,none⟩=some (.string pl):=Mcr;have d3:wc.cell? ⟨w.heap.size,3,none⟩=some (.string fr):=Mcr;have d4:wc.cell? ⟨w.heap.size,4,none⟩=some (.slice B ps.length c):=Mcr;have d5:wc.cell? ⟨w.heap.size,5,none⟩=some (.int .i64 cl):=Mcr;have d6:wc.cell? ⟨w.heap.size,6,none⟩=some (.int .i64 yr):=Mcr;have e0:w.heap.size<wc.heap.size:=Mcq;have e1:w.heap.size≠wc.heap.size:=Mcq;cases AQ:ps.any (fun p=>!zaE p.name)
       ·replace f0:=(hB.cell (p:=⟨0,k*8,none⟩) dD).trans f0;replace f1:=(hB.cell (p:=⟨0,k*8+1,none⟩) dD).trans f1;replace f2:=(hB.cell (p:=⟨0,k*8+2,none⟩) dD).trans f2;replace f3:=(hB.cell (p:=⟨0,k*8+3,none⟩) dD).trans f3;replace f4:=(hB.cell (p:=⟨0,k*8+4,none⟩) dD).trans f4;replace f5:=(hB.cell (p:=⟨0,k*8+5,none⟩) dD).trans f5;replace f6:=(hB.cell (p:=⟨0,k*8+6,none⟩) dD).trans f6;replace f7:=(hB.cell (p:=⟨0,k*8+7,none⟩) dD).trans f7;obtain⟨q,hq⟩:∃q,wc.heap.size=q:=⟨_,rfl⟩
        have HQ:=zHi hq;have e9:w.heap.size<q:=Mcq;have e8:w.heap.size≠q:=Mcq;clear hq;go_upto_region 11 with fail
        go_cut [0,3]from 4 (fun v0 v wc=>v=.pointer (some ⟨q,0,none⟩)/\Qa w wc/\q<wc.heap.size/\wc.heap[w.heap.size]?=some (.cells #[.int .i64 (k:Int),.int .i64 dy,.string pl,.string fr,.slice B ps.length c,.int .i64 cl,.int .i64 yr] 28)/\wc.heap[q]?=some (.cells #[.string word,.bool fp,.bool ff,.bool fc,.bool fy,.bool fa,.bool fpt,.bool fs] 107))
        case first=>
         exact Mak
        case rest=>
         obtain⟨rfl,hB,hsz,g0,g1⟩:=hcut;have d0:wc.cell? ⟨w.heap.size,0,none⟩=some (.int .i64 (k:Int)):=Mcr;have d1:wc.cell? ⟨w.heap.size,1,none⟩=some (.int .i64 dy):=Mcr;have d2:wc.cell? ⟨w.heap.size,2,none⟩=some (.string pl):=Mcr;have d3:wc.cell? ⟨w.heap.size,3,none⟩=some (.string fr):=Mcr;have d4:wc.cell? ⟨w.heap.size,4,none⟩=some (.slice B ps.length c):=Mcr;have d5:wc.cell? ⟨w.heap.size,5,none⟩=some (.int .i64 cl):=Mcr;have d6:wc.cell? ⟨w.heap.size,6,none⟩=some (.int .i64 yr):=Mcr;have e0:w.heap.size<wc.heap.size:=Mcq;have e1:w.heap.size≠wc.heap.size:=Mcq;have c0:wc.cell? ⟨q,0,none⟩=some (.string word):=Mct;have c1:wc.cell? ⟨q,1,none⟩=some (.bool fp):=Mct;have c2:wc.cell? ⟨q,2,none⟩=some (.bool ff):=Mct;have c3:wc.cell? ⟨q,3,none⟩=some (.bool fc):=Mct;have c4:wc.cell? ⟨q,4,none⟩=some (.bool fy):=Mct;have c5:wc.cell? ⟨q,5,none⟩=some (.bool fa):=Mct;have c6:wc.cell? ⟨q,6,none⟩=some (.bool fpt):=Mct;have c7:wc.cell? ⟨q,7,none⟩=some (.bool fs):=Mct;have e2:q≠wc.heap.size:=Mcq;go_upto_region 12 with fail
         go_cut [57]from 4 (fun v wc=>v=.bool (fp != !noB pl||ff != !noB fr)/\Qa w wc/\q<wc.heap.size/\wc.heap[w.heap.size]?=some (.cells #[.int .i64 (k:Int),.int .i64 dy,.string pl,.string fr,.slice B ps.length c,.int .i64 cl,.int .i64 yr] 28)/\wc.heap[q]?=some (.cells #[.string word,.bool fp,.bool ff,.bool fc,.bool fy,.bool fa,.bool fpt,.bool fs] 107))
         case first=>
          exact Mr
         case rest=>
          obtain⟨rfl,hB,hsz,g0,g1⟩:=hcut;have d0:wc.cell? ⟨w.heap.size,0,none⟩=some (.int .i64 (k:Int)):=Mcr;have d1:wc.cell? ⟨w.heap.size,1,none⟩=some (.int .i64 dy):=Mcr;have d2:wc.cell? ⟨w.heap.size,2,none⟩=some (.string pl):=Mcr;have d3:wc.cell? ⟨w.heap.size,3,none⟩=some (.string fr):=Mcr;have d4:wc.cell? ⟨w.heap.size,4,none⟩=some (.slice B ps.length c):=Mcr;have d5:wc.cell? ⟨w.heap.size,5,none⟩=some (.int .i64 cl):=Mcr;have d6:wc.cell? ⟨w.heap.size,6,none⟩=some (.int .i64 yr):=Mcr;have e0:w.heap.size<wc.heap.size:=Mcq;have e1:w.heap.size≠wc.heap.size:=Mcq;have c0:wc.cell? ⟨q,0,none⟩=some (.string word):=Mct;have c1:wc.cell? ⟨q,1,none⟩=some (.bool fp):=Mct;have c2:wc.cell? ⟨q,2,none⟩=some (.bool ff):=Mct;have c3:wc.cell? ⟨q,3,none⟩=some (.bool fc):=Mct;have c4:wc.cell? ⟨q,4,none⟩=some (.bool fy):=Mct;have c5:wc.cell? ⟨q,5,none⟩=some (.bool fa):=Mct;have c6:wc.cell? ⟨q,6,none⟩=some (.bool fpt):=Mct;have c7:wc.cell? ⟨q,7,none⟩=some (.bool fs):=Mct;have e2:q≠wc.heap.size:=Mcq;cases Ep:(fp != !noB pl||ff != !noB fr)
          ·go_upto_region 13 with fail
           go_cut [57]from 4 (fun v wc=>v=.bool (!fc&&cl != 0)/\Qa w wc/\q<wc.heap.size/\wc.heap[w.heap.size]?=some (.cells #[.int .i64 (k:Int),.int .i64 dy,.string pl,.string fr,.slice B ps.length c,.int .i64 cl,.int .i64 yr] 28)/\wc.heap[q]?=some (.cells #[.string word,.bool fp,.bool ff,.bool fc,.bool fy,.bool fa,.bool fpt,.bool fs] 107))
           case first=>
            exact Mr
           case rest=>
            obtain⟨rfl,hB,hsz,g0,g1⟩:=hcut;have d0:wc.cell? ⟨w.heap.size,0,none⟩=some (.int .i64 (k:Int)):=Mcr;have d1:wc.cell? ⟨w.heap.size,1,none⟩=some (.int .i64 dy):=Mcr;have d2:wc.cell? ⟨w.heap.size,2,none⟩=some (.string pl):=Mcr;have d3:wc.cell? ⟨w.heap.size,3,none⟩=some (.string fr):=Mcr;have d4:wc.cell? ⟨w.heap.size,4,none⟩=some (.slice B ps.length c):=Mcr;have d5:wc.cell? ⟨w.heap.size,5,none⟩=some (.int .i64 cl):=Mcr;have d6:wc.cell? ⟨w.heap.size,6,none⟩=some (.int .i64 yr):=Mcr;have e0:w.heap.size<wc.heap.size:=Mcq;have e1:w.heap.size≠wc.heap.size:=Mcq;have c0:wc.cell? ⟨q,0,none⟩=some (.string word):=Mct;have c1:wc.cell? ⟨q,1,none⟩=some (.bool fp):=Mct;have c2:wc.cell? ⟨q,2,none⟩=some (.bool ff):=Mct;have c3:wc.cell? ⟨q,3,none⟩=some (.bool fc):=Mct;have c4:wc.cell? ⟨q,4,none⟩=some (.bool fy):=Mct;have c5:wc.cell? ⟨q,5,none⟩=some (.bool fa):=Mct;have c6:wc.cell? ⟨q,6,none⟩=some (.bool fpt):=Mct;have c7:wc.cell? ⟨q,7,none⟩=some (.bool fs):=Mct;have e2:q≠wc.heap.size:=Mcq;cases hn5:(!fc&&cl != 0)
            ·go_upto_region 14 with fail
             go_cut [57]from 4 (fun v wc=>v=.bool (!fy&&yr != 0)/\Qa w wc/\q<wc.heap.size/\wc.heap[w.heap.size]?=some (.cells #[.int .i64 (k:Int),.int .i64 dy,.string pl,.string fr,.slice B ps.length c,.int .i64 cl,.int .i64 yr] 28)/\wc.heap[q]?=some (.cells #[.string word,.bool fp,.bool ff,.bool fc,.bool fy,.bool fa,.bool fpt,.bool fs] 107))
             case first=>
              exact Mr
             case rest=>
              obtain⟨rfl,hB,hsz,g0,g1⟩:=hcut;have d0:wc.cell? ⟨w.heap.size,0,none⟩=some (.int .i64 (k:Int)):=Mcr;have d1:wc.cell? ⟨w.heap.size,1,none⟩=some (.int .i64 dy):=Mcr;have d2:wc.cell? ⟨w.heap.size,2,none⟩=some (.string pl):=Mcr;have d3:wc.cell? ⟨w.heap.size,3,none⟩=some (.string fr):=Mcr;have d4:wc.cell? ⟨w.heap.size,4,none⟩=some (.slice B ps.length c):=Mcr;have d5:wc.cell? ⟨w.heap.size,5,none⟩=some (.int .i64 cl):=Mcr;have d6:wc.cell? ⟨w.heap.size,6,none⟩=some (.int .i64 yr):=Mcr;have e0:w.heap.size<wc.heap.size:=Mcq;have e1:w.heap.size≠wc.heap.size:=Mcq;have c0:wc.cell? ⟨q,0,none⟩=some (.string word):=Mct;have c1:wc.cell? ⟨q,1,none⟩=some (.bool fp):=Mct;have c2:wc.cell? ⟨q,2,none⟩=some (.bool ff):=Mct;have c3:wc.cell? ⟨q,3,none⟩=some (.bool fc):=Mct;have c4:wc.cell? ⟨q,4,none⟩=some (.bool fy):=Mct;have c5:wc.cell? ⟨q,5,none⟩=some (.bool fa):=Mct;have c6:wc.cell? ⟨q,6,none⟩=some (.bool fpt):=Mct;have c7:wc.cell? ⟨q,7,none⟩=some (.bool fs):=Mct;have e2:q≠wc.heap.size:=Mcq;cases hn6:(!fy&&yr != 0)
              ·go_upto_region 16 with fail
               go_cut [88]from 4 (fun v wc=>v=.bool (yr==0&&((k:Int)==3||((k:Int)==0&&cl==2)))/\Qa w wc/\q<wc.heap.size/\wc.heap[w.heap.size]?=some (.cells #[.int .i64 (k:Int),.int .i64 dy,.string pl,.string fr,.slice B ps.length c,.int .i64 cl,.int .i64 yr] 28)/\wc.heap[q]?=some (.cells #[.string word,.bool fp,.bool ff,.bool fc,.bool fy,.bool fa,.bool fpt,.bool fs] 107))
               case first=>
                exact Mr
               case rest=>
                obtain⟨rfl,hB,hsz,g0,g1⟩:=hcut;have d0:wc.cell? ⟨w.heap.size,0,none⟩=some (.int .i64 (k:Int)):=Mcr;have d1:wc.cell? ⟨w.heap.size,1,none⟩=some (.int .i64 dy):=Mcr;have d2:wc.cell? ⟨w.heap.size,2,none⟩=some (.string pl):=Mcr;have d3:wc.cell? ⟨w.heap.size,3,none⟩=some (.string fr):=Mcr;have d4:wc.cell? ⟨w.heap.size,4,none⟩=some (.slice B ps.length c):=Mcr;have d5:wc.cell? ⟨w.heap.size,5,none⟩=some (.int .i64 cl):=Mcr;have d6:wc.cell? ⟨w.heap.size,6,none⟩=some (.int .i64 yr):=Mcr;have e0:w.heap.size<wc.heap.size:=Mcq;have e1:w.heap.size≠wc.heap.size:=Mcq;have c0:wc.cell? ⟨q,0,none⟩=some (.string word):=Mct;have c1:wc.cell? ⟨q,1,none⟩=some (.bool fp):=Mct;have c2:wc.cell? ⟨q,2,none⟩=some (.bool ff):=Mct;have c3:wc.cell? ⟨q,3,none⟩=some (.bool fc):=Mct;have c4:wc.cell? ⟨q,4,none⟩=some (.bool fy):=Mct;have c5:wc.cell? ⟨q,5,none⟩=some (.bool fa):=Mct;have c6:wc.cell? ⟨q,6,none⟩=some (.bool fpt):=Mct;have c7:wc.cell? ⟨q,7,none⟩=some (.bool fs):=Mct;have e2:q≠wc.heap.size:=Mcq;cases hn7:(yr==0&&((k:Int)==3||((k:Int)==0&&cl==2)))
                ·go_wp2_with (first
                               |(go_at_call 45;refine(zbq _ _ _ _).mono ?_;intro e wq hq;rcases Ret0.bools hq with⟨rfl,⟨hb,rfl⟩|⟨hb,rfl⟩⟩<;>clear hq)
                               |(go_at_call 30;refine(zbQ _ _).mono ?_;intro e wq hq;rcases Ret0.bools hq with⟨rfl,⟨hb,rfl⟩|⟨hb,rfl⟩⟩<;>clear hq)
                               |(go_at_call 46;refine(zdB _ _ Mc3).mono ?_;intro e wq hq;rcases Ret0.bools hq with⟨rfl,⟨hb,rfl⟩|⟨hb,rfl⟩⟩<;>clear hq)
                               |(go_at_call 47;refine(zcf _ _ eg (fun q:RPart=>!zaE q.name) _ _ _ ps _ rfl HL.o (HS.o.keep (n:=w.heap.size) Bw) (zfI ps _ HN.o)).mono ?_;intro e wq hq;rcases Ret.bools hq with⟨zq,rfl,⟨hb,rfl⟩|⟨hb,rfl⟩⟩<;>clear hq)
                               |(go_at_call 49;refine(zbT ⟨word,fp,ff,fc,fy,fa,fpt,fs⟩ _ _ _ _ _ _ ps _ _ _ _ rfl Mcq HC.o (HS.o.keep (n:=w.heap.size) Bw)).mono ?_;intro e wq hq;rcases Ret.bools hq with⟨zq,rfl,⟨hb,rfl⟩|⟨hb,rfl⟩⟩<;>clear hq))
                 all_goals go_ret
                 all_goals exact Ret.of (zcd Mcz) Bw
                ·exact Mv
              ·exact Mv
            ·exact Mv
          ·exact Mv
       ·exact MN
 ·exact Mai
theorem zpj(laws:List Law)(ds:List Deed)(d:Deed)(LA:Option Addr)(n nc:Nat)(DA:Option Addr)(m mc:Nat)(B:Option Addr)(c:Nat)(w:World)(hR:RightsIn w laws ds LA n nc DA m mc)(hF:FormsIn w)(hL:LensIn w)(hO:∀x∈ds,zdE x)(hl:laws.length<=100000)(br:ds.length<=100000)
 (hd:zno d)(ao:d.to.length<=c)(hS:Sl w 3 RPart.cells B d.to):
 Calls Tryz.prog 7 #[.agg #[.slice LA n nc,.slice DA m mc],d.v B c] w (zmc w laws ds d (zfN laws ds d)):=by
 have pD:=fun W (hB:Qa w W)=>zng laws ds 200000 LA n nc DA m mc W (hR.keep hB) (hF.keep hB) (hL.keep hB) hO rfl
 obtain⟨rfl,rfl,uz,kA,eT,gC⟩:=hR;have jT:=fun W (hB:Qa w W)=>zjt d B c W (hF.keep hB) hd ao (hS.keep hB)
 rw[zeH]at jT;have dw:=fun(base b:Nat) (s:St) (last:Int) W (hB:Qa w W) (hW:WldAt base W b s last (ds.length:Int)) (hG:GoodSt s last) (oI:FewS ds.length s) (hk:OkD d) (bc:za9 laws=0)=>
  zkE base b s ds.length last laws LA nc d B c W hW hG oI hk bc (hL.keep hB) (eT.keep hB) ao (hS.keep hB)
 have hE:zfN laws ds d=_:=rfl;have jt:zaC d=0->OkD d:=zcP;have ai:(zco laws ds 200000).2.2=0->za9 laws=0:=stop_laws;unfold zfN at hE⊢;clear hE;generalize zaC d=ce at*;generalize zco laws ds 200000=R at*;obtain⟨S0,n0,er⟩:=R;simp only at ai⊢;obtain⟨fS,fq,dK,dj,dB,HS,HO⟩:=yH7 pD jT dw gC eT hS hO;unfold Deed.v at dK;unfold Deed.v;clear pD jT dw gC eT hS hF hL hO;go_enter Tryz.func7,Tryz.ntmps7
 go_upto_region 1 with fail
 obtain⟨W1,aP⟩:=Qd (((w.alloc (.cells #[.slice LA laws.length nc,.slice DA ds.length mc] 25)).alloc (.cells #[.int .i64 d.kind,.int .i64 d.day,.string d.place,.string d.frm,.slice B d.to.length c,.int .i64 d.cls,.int .i64 d.years] 28)).alloc (.cells #[.slice none 0 0,.slice none 0 0] 25))
 have b0:W1.heap[w.heap.size]?=some (.cells #[.slice LA laws.length nc,.slice DA ds.length mc] 25):=by rw[aP];exact zal (zal (zat _ _ _ rfl))
 have d0:W1.heap[w.heap.size+1]?=some (.cells #[.int .i64 d.kind,.int .i64 d.day,.string d.place,.string d.frm,.slice B d.to.length c,.int .i64 d.cls,.int .i64 d.years] 28):=by rw[aP];exact zal (zat _ _ _ Mcv)
 have r0:W1.heap[w.heap.size+2]?=some (.cells #[.slice none 0 0,.slice none 0 0] 25):=by rw[aP];exact zat _ _ _ Mcv
 have dC:Qa w W1:=by rw[aP];exact Bw
 rw[<-aP];have aE:=zHi dC;clear aP dC;have l2:=zab r0;obtain⟨c0,c1⟩:=cF2 b0
 go_upto_region 2 with(go_at_call 19
                       go_must(refine(fS.o _ (aE.o.trans (Below.mono (B:=W1.heap.size) Bw aE.o.size))).mono ?_)
                       rintro e w2 ⟨base,wb,la,co,rfl,h1,h2,h3,h4⟩)
 obtain⟨HW,H4⟩:=yH2 h2 h4;have ee:=aE.o.size;have bx:Qa w w2:=aE.o.trans (h3.mono ee);have k0:=(h3.block _ Mcq).trans b0;have k1:=(h3.block _ Mcq).trans d0;have k2:=(h3.block _ l2).trans r0;have aC:=zHi bx;have aW:=bx.size;clear h2 h3 h4 b0 d0 r0 c0 c1 fS aE bx;obtain⟨t0,t1⟩:=cF2 k2;have f0:∀j,w2.frozen? ⟨w.heap.size+2,j,none⟩=false:=fun j=>by simp[World.frozen?,k2]
 by_cases h0:er=0
 ·subst h0;have e0:za9 laws=0:=ai rfl;obtain⟨Aw,AL,hG,oI,kr⟩:=H4.o rfl;subst Aw AL;rw[if_neg Mcv];clear ai H4;obtain⟨g0,g1,g2,g3,g4,g5,g6⟩:=cF7 k1;by_cases hce:ce=0
  ·have mX:=jt hce;subst hce;have gA:=zHi (fun W (hB:Qa w2 W)=>dK.o base wb S0 (zeS ds) W (aC.o.trans (hB.mono aW)) (HW.o.keep hB) hG oI mX e0);have Ba:=fun h=>zkG (laws:=laws) (s:=S0) (k:=ds.length) (last:=zeS ds) (d:=d) h mX hG oI e0
   generalize zdp laws S0 ds.length (zeS ds) d=x at*;obtain⟨s',e2⟩:=x;rw[if_neg Mcv];simp only at Ba⊢;obtain c0:=cF1 k0;clear dK jt hG oI HW
   go_upto_region 7 with(go_at_call 20;go_must(refine(fq.o _ (aC.o.trans (Below.mono (B:=w2.heap.size) Bw aW))).mono ?_);go_loud(rintro e wq ⟨rfl,z,hz⟩)
                         have aZ:Qa w2 wq:=by rw[hz];exact Bw
                         have q0:wq.heap[w.heap.size]?=some (.cells #[.slice LA laws.length nc,.slice DA ds.length mc] 25):=by rw[hz];exact zby k0
                         have q1:wq.heap[w.heap.size+1]?=some (.cells #[.int .i64 d.kind,.int .i64 d.day,.string d.place,.string d.frm,.slice B d.to.length c,.int .i64 d.cls,.int .i64 d.years] 28):=by rw[hz];exact zby k1
                         have q2:wq.heap[w.heap.size+2]?=some (.cells #[.slice none 0 0,.slice none 0 0] 25):=by rw[hz];exact zby k2
                         clear hz)
   have L5:=aZ.size;have l0:=zab q2;have HQ:=zHi aZ;clear t0 t1 f0 c0 g0 g1 g2 g3 g4 g5 g6 k0 k1 k2 aZ fq;obtain c0:=cF1 q0;obtain⟨g0,g1,g2,g3,g4,g5,g6⟩:=cF7 q1;go_upto_region 8 with(go_at_call 21;go_must(refine(gA.o _ HQ.o).mono ?_);go_loud(rintro e w3 ⟨rfl,y1,y2⟩))
   have aJ:=zHi ((aC.o.trans (HQ.o.mono aW)).trans (y2.mono Mcq));have eA:=aJ.o.size;have k0:=(y2.block w.heap.size Mcq).trans q0;have k1:=(y2.block (w.heap.size+1) Mcq).trans q1;have k2:=(y2.block (w.heap.size+2) Mcq).trans q2;clear y1 y2 c0 g0 g1 g2 g3 g4 g5 g6 q0 q1 q2 HQ gA aC;obtain⟨t0,t1⟩:=cF2 k2;have f0:∀j,w3.frozen? ⟨w.heap.size+2,j,none⟩=false:=fun j=>by simp[World.frozen?,k2]
   by_cases mH:e2=0
   ·subst mH;obtain c0:=cF1 k0;have bZ:=zHi (zmb laws LA laws.length nc w3 rfl hl (dB.o.keep aJ.o))
    go_upto_region 11 with(go_at_call 22;go_must(refine bZ.o.mono ?_);go_loud(rintro e w4 ⟨v4,rfl,o4,ay⟩)
                           obtain⟨A4,c4,rfl,iV,s4⟩:=o4.ro
                           clear o4)
    have yN:=ay.size;have l2:=zab k2;obtain⟨OB,mh⟩:=Qd w4.heap.size
    obtain⟨W5,sk⟩:=Qd (w4.alloc (.cells #[.slice A4 laws.length c4,.slice none 0 0] 25))
    have o5:W5.heap[OB]?=some (.cells #[.slice A4 laws.length c4,.slice none 0 0] 25):=by rw[sk];exact zat _ _ _ mh
    have jQ:Qa w3 W5:=by rw[sk];exact zad ay _
    obtain⟨S5,IG,bn⟩:=yH3 (show Ro W5 72 Law.cells A4 laws from by rw[sk];exact s4.keep (n:=w4.heap.size) (zad Qb _)) iV (aJ.o.trans (jQ.mono eA));have ke:=jQ.size;have m0:=(jQ.block _ Mcq).trans k0;have m1:=(jQ.block _ Mcq).trans k1;have m2:=(jQ.block _ Mcq).trans k2;have hob:w3.heap.size<=OB:=Mcq;rw[<-sk,<-mh];clear sk jQ s4 iV ay bZ c0 t0 t1 f0 k0 k1 k2 mh yN;obtain⟨xs,nv,Is,bv⟩:=dv_of dj.o;have bX:xs.length=ds.length:=by rw[<-nv,List.length_map]
    have o8:∀y∈xs++[(⟨d,B,c⟩:DV)],y.d.to.length<=100000/\y.d.to.length<=y.c/\Sl w 3 RPart.cells y.B y.d.to:=fun y hy=>by
     rcases List.mem_append.1 hy with hy|hy
     ·exact⟨(HO.o y.d (by rw[<-nv];exact List.mem_map_of_mem hy)).2.2.2,Is y hy⟩
     ·obtain rfl:=List.mem_singleton.1 hy;exact⟨hd.2.2.2,ao,HS.o⟩
    have qP:=zHi (fun W (h:Qa W5 W)=>zkK xs DA ds.length mc W bX.symm Mcq (bv.keep (bn.o.trans (h.mono bn.o.size))));have EY:(xs++[(⟨d,B,c⟩:DV)]).map (·.d)=ds++[d]:=by rw[List.map_append,nv];rfl
    have qJ:(xs++[(⟨d,B,c⟩:DV)]).length=ds.length+1:=by rw[List.length_append,bX];rfl
    have iS:Hid (xs.length<=100000):=Mec;obtain⟨zs,fm⟩:=Qd (xs++[(⟨d,B,c⟩:DV)])
    rw[<-fm]at o8 EY qJ;obtain⟨zW,JR,pT,JN⟩:=yH4 fm EY qJ o8;have ET:w.heap.size+2<W5.heap.size:=Mcq;have JK:=zHi ET
    have aB:=zHi (fun(w':World) (h:Qa W5 w')=>(show w'.cell? ⟨w.heap.size,1,none⟩=some (.slice DA ds.length mc)/\w'.cell? ⟨w.heap.size+1,0,none⟩=some (.int .i64 d.kind)/\w'.cell? ⟨w.heap.size+1,1,none⟩=some (.int .i64 d.day)/\w'.cell? ⟨w.heap.size+1,2,none⟩=some (.string d.place)/\w'.cell? ⟨w.heap.size+1,3,none⟩=some (.string d.frm)/\w'.cell? ⟨w.heap.size+1,4,none⟩=some (.slice B d.to.length c)/\w'.cell? ⟨w.heap.size+1,5,none⟩=some (.int .i64 d.cls)/\w'.cell? ⟨w.heap.size+1,6,none⟩=some (.int .i64 d.years) from by
     have hx:=h.block w.heap.size Mcq;have hy:=h.block (w.heap.size+1) Mcq;rw[m0]at hx;rw[m1]at hy
     refine⟨?_,?_,?_,?_,?_,?_,?_,?_⟩<;>(simp only[World.cell?,hx,hy];rfl)))
    have wH:=zab o5;have zg:w.heap.size+2<OB:=Mcq;clear o8 EY qJ fm nv Is bv bX dj HO m0 m1 eA ke l2;go_cut [48,49,50]from 43 to 50 (fun v48 v49 v50 wc=>∃VA vc,v48=.slice VA zs.length vc/\v49=.int .i64 (zs.length:Int)/\v50=.int .i64 0/\Hid (Ro wc 28 DV.cells VA zs)/\Qa W5 wc/\zs.length<=vc)
    case first=>
     refine zaJ 5 (fun bb w'=>bb=true\/(w'.cell? ⟨w.heap.size,1,none⟩=some (.slice DA ds.length mc)/\w'.cell? ⟨w.heap.size+1,0,none⟩=some (.int .i64 d.kind)/\w'.cell? ⟨w.heap.size+1,1,none⟩=some (.int .i64 d.day)/\w'.cell? ⟨w.heap.size+1,2,none⟩=some (.string d.place)/\w'.cell? ⟨w.heap.size+1,3,none⟩=some (.string d.frm)/\w'.cell? ⟨w.heap.size+1,4,none⟩=some (.slice B d.to.length c)/\w'.cell? ⟨w.heap.size+1,5,none⟩=some (.int .i64 d.cls)/\w'.cell? ⟨w.heap.size+1,6,none⟩=some (.int .i64 d.years))) Mcs (.inr (aB.o _ (zaF Qb))) ?hrest
     case hrest=>
      intro hHeld;refine TkM 0 ?_;refine TkM 1 ?_;refine TkM 3 ?_;refine FrM 7 false ?_;refine TwM 2 4 (fun K hK=>?_) fun K hK=>?_
      ·go_simp
       refine(qP.o _ (zaF Qb)).mono ?_;rintro e w6 ⟨v6,rfl,o6,aV⟩;have xb:Qa W5 w6:=(zaF Qb:Qa W5 W5.drew).trans aV;obtain⟨A6,c6,rfl,_,_⟩:=o6.sl zbA;refine NxM hK (fun hHeld=>?_) (.inr (aB.o _ xb));clear hK K;refine OnM 4 false fun K hK=>?_
       go_simp
       have bK:Qa W5 (w6.alloc (.cells #[.int .i64 d.kind,.int .i64 d.day,.string d.place,.string d.frm,.slice B d.to.length c,.int .i64 d.cls,.int .i64 d.years] 28)):=zad xb _;have n7:(w6.alloc (.cells #[.int .i64 d.kind,.int .i64 d.day,.string d.place,.string d.frm,.slice B d.to.length c,.int .i64 d.cls,.int .i64 d.years] 28)).heap[w6.heap.size]?=some (.cells #[.int .i64 d.kind,.int .i64 d.day,.string d.place,.string d.frm,.slice B d.to.length c,.int .i64 d.cls,.int .i64 d.years] 28):=zat _ _ _ rfl;have o7:OwnS (w6.alloc (.cells #[.int .i64 d.kind,.int .i64 d.day,.string d.place,.string d.frm,.slice B d.to.length c,.int .i64 d.cls,.int .i64 d.years] 28)) W5.drew.heap.size 28 7 DV.cells (.slice A6 xs.length c6) xs:=o6.keep (n:=w6.heap.size) (zad Qb _);exact ME
      ·go_simp
       have n6:(W5.drew.alloc (.cells #[.int .i64 d.kind,.int .i64 d.day,.string d.place,.string d.frm,.slice B d.to.length c,.int .i64 d.cls,.int .i64 d.years] 28)).heap[W5.heap.size]?=some (.cells #[.int .i64 d.kind,.int .i64 d.day,.string d.place,.string d.frm,.slice B d.to.length c,.int .i64 d.cls,.int .i64 d.years] 28):=zat _ _ _ rfl;have aV:Qa W5 (W5.drew.alloc (.cells #[.int .i64 d.kind,.int .i64 d.day,.string d.place,.string d.frm,.slice B d.to.length c,.int .i64 d.cls,.int .i64 d.years] 28)):=zad (zaF Qb) _;refine NxM hK (fun hHeld=>?_) (.inr (aB.o _ aV));clear hK K;refine OnM 2 false fun K hK=>?_
       go_simp
       refine(qP.o _ aV).mono ?_;rintro e w7 ⟨v6,rfl,o7,eY⟩;replace o7:=o7.base_le (show W5.heap.size<=(W5.drew.alloc (.cells #[.int .i64 d.kind,.int .i64 d.day,.string d.place,.string d.frm,.slice B d.to.length c,.int .i64 d.cls,.int .i64 d.years] 28)).heap.size by simp);have bK:Qa W5 w7:=aV.trans (eY.mono Mcv);have n7:w7.heap[W5.heap.size]?=some (.cells #[.int .i64 d.kind,.int .i64 d.day,.string d.place,.string d.frm,.slice B d.to.length c,.int .i64 d.cls,.int .i64 d.years] 28):=(eY.block _ Mcv).trans n6;obtain⟨A6,c6,rfl,_,_⟩:=o7.sl zbA;exact ME
    case rest=>
     obtain⟨VA,vc,rfl,rfl,rfl,iO,iT,kf⟩:=hcut;obtain⟨NB,Da⟩:=Qd wc.heap.size
     have Kp:OB<NB:=by have:=iT.size;omega
     have I6:=(iT.block OB wH).trans o5;obtain⟨Jy,Br,IA⟩:=yH3 (S5.o.keep iT) (bn.o.trans (iT.mono bn.o.size)) iT;have r2:=(iT.block (w.heap.size+2) JK.o).trans m2
     have FB:=zHi (fun(α:Type) (e:TypeId) (f:α->List Value) (A:Option Addr) (es:List α) (wr:World) (h:Ro wc e f A es) (ag:e≠25) (hf:∀j,j<NB->j≠OB->wr.heap[j]?=wc.heap[j]?)=>(show Ro wr e f A es from h.same fun b cur fr hb _=>hf b (by rw[Da];exact zab hb) (fun e'=>by
      subst e';rw[I6]at hb;simp only[Option.some.injEq,Obj.cells.injEq]at hb
      exact ag hb.2.1.symm)))
     obtain⟨C7,bA,iP⟩:=yH3 Da r2 zg;clear iT bn S5 o5 m2 Da r2 qP aB wH zg;go_upto_region 12 with fail
     go_loopw [50] (fun i wr=>∃(k:Nat) (ys:List DV) (v:Value),k<=zs.length/\i=.int .i64 k/\Hid (ys.map (·.d)=(zs.map (·.d)).take k)/\Hid (∀y∈ys,y.d.to.length<=y.c/\Ro wr 59 RPart.cells y.B y.d.to)/\OwnS wr NB 28 7 DV.cells v ys/\wr.heap[OB]?=some (.cells #[.slice A4 laws.length c4,v] 25)/\Hid (Below OB wc wr/\NB<=wr.heap.size/\∀j,j<NB->j≠OB->wr.heap[j]?=wc.heap[j]?)) (fun i _=>zs.length-(intOf i).toNat)
     case atStart=>exact⟨0,[],.slice none 0 0,Nat.zero_le _,rfl,zHi Mcv,zHi Mcv,OwnS.nil,I6,zHi ⟨Qb,by rw[C7.o];exact Qc,fun _ _ _=>rfl⟩⟩
     case round=>
      obtain⟨k,ys,v,hk,rfl,HM,HP,ac,ho,iK⟩:=hrel;have nV:=zab ho;obtain⟨VY,vy,rfl,_,tG⟩:=ac.sl zbA;have pH:ys.length=k:=by
       have:=congrArg List.length HM.o;simp at this;omega
      have kp:=zHi pH;have g7:k<=100001:=by have:=pT.o;omega
      obtain⟨eo,Jl,JI⟩:=yH3 ac ho tG;have qF:w.heap.size<wr.heap.size:=by have:=iK.o.2.1;have:=iP.o;omega
      have aU:Hid (Qa w wr):=Br.o.trans (iK.o.1.mono (by have:=iP.o;omega));by_cases aa:k<zs.length
      ·obtain⟨b,off,hA,hb,ah⟩:=((FB.o _ _ _ _ _ _ iO.o Mcu iK.o.2.2).sl zbA).at aa;have o8:=JN.o _ (List.getElem_mem aa);have dw:(zs.map (·.d)).take (k+1)=(zs.map (·.d)).take k++[zs[k].d]:=by rw[List.take_add_one,List.getElem?_map,List.getElem?_eq_getElem aa];rfl
       obtain⟨dK,ak⟩:=yH2 dw aa;generalize zs[k]=x at*;have i0:=ah 0 _ rfl;have i1:=ah 1 _ rfl;have i2:=ah 2 _ rfl;have i3:=ah 3 _ rfl;have i4:=ah 4 _ rfl;have i5:=ah 5 _ rfl;have i6:=ah 6 _ rfl;simp only[Nat.add_zero]at i0;have ar:(k:Int)<(zs.length:Int):=Mcq;have aR:(0:Int)<=(k:Int):=Mcq;obtain⟨-,p1⟩:=cF2 ho;subst hA;have pS:=zHi o8;clear ah o8 dw ac tG pH ho aa;go_upto_region 14 with fail
       obtain⟨WZ,kv⟩:=Qd (wr.alloc (.cells #[.int .i64 x.d.kind,.int .i64 x.d.day,.string x.d.place,.string x.d.frm,.slice (x.B) x.d.to.length (x.c),.int .i64 x.d.cls,.int .i64 x.d.years] 28))
       have z0:WZ.heap[wr.heap.size]?=some (.cells #[.int .i64 x.d.kind,.int .i64 x.d.day,.string x.d.place,.string x.d.frm,.slice (x.B) x.d.to.length (x.c),.int .i64 x.d.cls,.int .i64 x.d.years] 28):=Mer;have fU:Qa wr WZ:=by rw[kv];exact Bw
       rw[<-kv];have dH:=zHi fU;have fm:=fU.size;have q1:WZ.cell? ⟨OB,1,none⟩=some (.slice VY ys.length vy):=(zah fU nV).trans p1;have N5:OB<WZ.heap.size:=Mcq;have B8:wr.heap.size<WZ.heap.size:=zab z0
       have zS:=zHi (fun(w':World) (h:Qa WZ w')=>(show w'.cell? ⟨OB,1,none⟩=some (.slice VY ys.length vy)/\w'.cell? ⟨wr.heap.size,0,none⟩=some (.int .i64 x.d.kind)/\w'.cell? ⟨wr.heap.size,1,none⟩=some (.int .i64 x.d.day)/\w'.cell? ⟨wr.heap.size,2,none⟩=some (.string x.d.place)/\w'.cell? ⟨wr.heap.size,3,none⟩=some (.string x.d.frm)/\w'.cell? ⟨wr.heap.size,4,none⟩=some (.slice x.B x.d.to.length x.c)/\w'.cell? ⟨wr.heap.size,5,none⟩=some (.int .i64 x.d.cls)/\w'.cell? ⟨wr.heap.size,6,none⟩=some (.int .i64 x.d.years) from by
        have hx:=h.block wr.heap.size B8;rw[z0]at hx
        refine⟨(zah h N5).trans q1,?_,?_,?_,?_,?_,?_,?_⟩<;>(simp only[World.cell?,hx];rfl)))
       have qS:=zHi (fun W' (h:Qa WZ W')=>znh x.d x.B x.c W' pS.o.1 (pS.o.2.2.keep (aU.o.trans ((fU.trans (h.mono fm)).mono (Nat.le_of_lt qF)))));unfold Deed.v at qS;clear kv fU z0 q1 p1 i0 i1 i2 i3 i4 i5 i6;refine zaJ 5 (fun bb w'=>bb=true\/(w'.cell? ⟨OB,1,none⟩=some (.slice VY ys.length vy)/\w'.cell? ⟨wr.heap.size,0,none⟩=some (.int .i64 x.d.kind)/\w'.cell? ⟨wr.heap.size,1,none⟩=some (.int .i64 x.d.day)/\w'.cell? ⟨wr.heap.size,2,none⟩=some (.string x.d.place)/\w'.cell? ⟨wr.heap.size,3,none⟩=some (.string x.d.frm)/\w'.cell? ⟨wr.heap.size,4,none⟩=some (.slice x.B x.d.to.length x.c)/\w'.cell? ⟨wr.heap.size,5,none⟩=some (.int .i64 x.d.cls)/\w'.cell? ⟨wr.heap.size,6,none⟩=some (.int .i64 x.d.years))) Mcs (.inr (zS.o _ (zaF Qb))) ?hrest
       case hrest=>
        intro hHeld;refine TkM 0 ?_;refine TkM 1 ?_;refine TkM 2 ?_;refine OnM 3 false fun K hK=>?_
        go_simp
        refine(qS.o _ (zaF Qb)).mono ?_;rintro e w5 ⟨B5,c5,rfl,un,ro5,aq⟩;unfold Deed.v;have dL:Qa WZ w5:=(zaF Qb:Qa WZ WZ.drew).trans aq;refine NxM hK (fun hHeld=>?_) (.inr (zS.o _ dL));clear hK K;refine OnM 4 false fun K hK=>?_
        go_simp
        have aV:Qa WZ (w5.alloc (.cells #[.int .i64 x.d.kind,.int .i64 x.d.day,.string x.d.place,.string x.d.frm,.slice (B5) x.d.to.length (c5),.int .i64 x.d.cls,.int .i64 x.d.years] 28)):=zad dL _;have n6:(w5.alloc (.cells #[.int .i64 x.d.kind,.int .i64 x.d.day,.string x.d.place,.string x.d.frm,.slice (B5) x.d.to.length (c5),.int .i64 x.d.cls,.int .i64 x.d.years] 28)).heap[w5.heap.size]?=some (.cells #[.int .i64 x.d.kind,.int .i64 x.d.day,.string x.d.place,.string x.d.frm,.slice (B5) x.d.to.length (c5),.int .i64 x.d.cls,.int .i64 x.d.years] 28):=zat _ _ _ rfl;have ro6:Ro (w5.alloc (.cells #[.int .i64 x.d.kind,.int .i64 x.d.day,.string x.d.place,.string x.d.frm,.slice (B5) x.d.to.length (c5),.int .i64 x.d.cls,.int .i64 x.d.years] 28)) 59 RPart.cells B5 x.d.to:=ro5.keep (n:=w5.heap.size) (zad Qb _);refine NxM hK (fun hHeld=>?_) (.inr (zS.o _ aV));clear hK K;refine OnM 5 true fun K hK=>?_
        generalize w5.alloc (.cells #[.int .i64 x.d.kind,.int .i64 x.d.day,.string x.d.place,.string x.d.frm,.slice (B5) x.d.to.length (c5),.int .i64 x.d.cls,.int .i64 x.d.years] 28)=W6 at*;have iq:Qa wr W6:=dH.o.trans (aV.mono fm);have ow6:=eo.o.keep iq;refine zak (v:=.slice VY ys.length vy) (n:=ys.length) (m:=1) rfl _ _ rfl zft zbA zfs rfl (xs:=ys) (ys:=[⟨x.d,B5,c5⟩]) ow6 rfl rfl rfl (zgI zbA n6 (by simp[DV.cells])) (by have:=kp.o;have:=pT.o;simp only[maxLen];omega) (by have:=kp.o;have:=pT.o;omega) (by have:=iq.size;have:=iK.o.2.1;omega) ?_;intro v7 w7 h1 h2 h3;obtain⟨A7,c7,kM,_,_⟩:=h1.sl zbA;rw[List.length_append]at kM;subst kM;have ym:∀j,j<NB->za6 (.slice VY ys.length vy)≠some j:=fun j hj e=>by have:=(ow6.ge _ e).1;omega
        have oE:=iq.size;have o7:w7.heap[OB]?=some (.cells #[.slice A4 laws.length c4,.slice VY ys.length vy] 25):=(h2.block OB Mcq (fun e=>ym OB Kp e.symm)).trans ((iq.block OB nV).trans Jl.o);have ro7:Ro w7 59 RPart.cells B5 x.d.to:=znX ro6 ow6 h2 Mcu;have rs7:∀y∈ys,y.d.to.length<=y.c/\Ro w7 59 RPart.cells y.B y.d.to:=fun y hy=>⟨(HP.o y hy).1,znX ((HP.o y hy).2.keep iq) ow6 h2 Mcu⟩
        have nQ:=iK.o;have bK:Below OB wc w7:=Below.grown (nQ.1.trans (iq.mono Mcq)) h2 Mcq (fun j hj=>by have:=(ow6.ge _ hj).1;omega);have Lh:∀j,j<NB->j≠OB->w7.heap[j]?=wc.heap[j]?:=fun j hj AH=>(h2.block j Mcq (fun e=>ym j hj e.symm)).trans ((iq.block j Mcq).trans (nQ.2.2 j hj AH))
        have wa:NB<=w7.heap.size:=by have:=h2.size;omega
        have f7:w7.frozen? ⟨OB,1,none⟩=false:=by simp[World.frozen?,o7]
        obtain⟨-,t7⟩:=cF2 o7;refine NxM hK fun hHeld=>?_
        clear hK K;refine OnM 6 true fun K hK=>?_
        go_simp
        refine NxM hK fun hHeld=>?_
        clear hK K;refine OnM 7 true fun K hK=>?_
        go_simp
        refine NxM hK fun hHeld=>?_
        clear hK K;refine zaV Mcs ?_ _;clear hHeld;have H1:=zHi h1;clear nQ h1 h2 h3 oE iq aV dL aq ow6;go_wp2_with fail
        go_round
        case rel=>
         refine⟨k+1,ys++[⟨x.d,B5,c5⟩],_,ak.o,by go_num,zHi (by rw[List.map_append,HM.o,dK.o];rfl),zHi (fun y hy=>?_),H1.o.grown (za2 _ _ _ _) (.inr fun e=>by have:=(H1.o.ge _ e).1;omega),?_,zHi ⟨zaN bK Qc _,by simpa using wa,fun j hj AH=>(J_other AH (Nat.lt_of_lt_of_le hj wa)).trans (Lh j hj AH)⟩⟩
         ·rcases List.mem_append.1 hy with hy|hy
          ·exact⟨(rs7 y hy).1,(rs7 y hy).2.kept (za2 _ _ _ _) o7 Mcu⟩
          ·obtain rfl:=List.mem_singleton.1 hy;exact⟨un,ro7.kept (za2 _ _ _ _) o7 Mcu⟩
         ·have:=Joins.block_setCell (i:=1) o7 (.slice A7 (ys.length+[(⟨x.d,B5,c5⟩:DV)].length) c7);simpa using this
        case measure=>have:=ak.o;simp only[intOf];omega
      ·have ar:¬(k:Int)<(zs.length:Int):=Mcq;have I1:ys.map (·.d)=ds++[d]:=by rw[HM.o,List.take_of_length_le Mcw,JR.o]
       have cC:ys.length=ds.length+1:=by have:=pT.o;omega
       obtain⟨-,p1⟩:=cF2 ho;obtain p0:=cF1 ho;have r3:=(iK.o.2.2 (w.heap.size+2) (by have:=iP.o;omega) (by have:=iP.o;omega)).trans bA.o;obtain⟨t0,t1⟩:=cF2 r3;have f0:∀j,wr.frozen? ⟨w.heap.size+2,j,none⟩=false:=fun j=>by simp[World.frozen?,r3]
       rw[cC]at p1 tG;obtain⟨Je,kT,Cu⟩:=yH3 I1 cC tG;clear I1 cC ac aa pH ho tG JI;go_wp2_with fail
       refine bodyPost_ret (v:=.tuple #[.agg #[.slice A4 laws.length c4,.slice VY (ds.length+1) vy],.int .i64 0]) ?_ rfl ?_
       ·exact zfG rfl _ _ (w.heap.size+2) _ _ _ rfl rfl (ziT r3)
       ·have rr:=Joins.block_setCell (i:=0) r3 (.slice A4 laws.length c4);have lj:∀ {α:Type} {e:TypeId} {f:α->List Value} {A:Option Addr} {es:List α},e≠25->Ro wr e f A es->Ro ((wr.setCell ⟨w.heap.size+2,0,none⟩ (.slice A4 laws.length c4)).setCell ⟨w.heap.size+2,1,none⟩ (.slice VY (ds.length+1) vy)) e f A es:=fun ag h=>
         (h.kept (za2 _ _ _ _) r3 (fun e=>ag e.symm)).kept (za2 _ _ _ _) rr (fun e=>ag e.symm)
        obtain⟨VY',vy',he,_,AZ⟩:=eo.o.ro;obtain⟨rfl,_,rfl⟩:VY=VY'/\ys.length=ys.length/\vy=vy':=by simpa using he
        refine⟨zaN (zaN aU.o Mcw _) Mcw _,.inr ⟨rfl,A4,c4,VY,vy,rfl,⟨rfl,by simp,IG.o,Cu.o,?_,?_⟩⟩⟩
        ·exact(lj Mcu (FB.o _ _ _ _ _ _ Jy.o Mcu iK.o.2.2)).sl (fun _=>rfl)
        ·exact slw_of ((lj Mcu AZ).sl zbA) Je.o fun y hy=>⟨(HP.o y hy).1,(lj Mcu (HP.o y hy).2).sl rp_len⟩
   ·have ag:(e2 != 0)=true:=by simpa using mH
    go_wp2_with fail
    refine bodyPost_ret (v:=.tuple #[.agg #[.slice none 0 0,.slice none 0 0],.int .i64 e2]) ?_ rfl ?_
    ·exact zfG rfl _ _ (w.heap.size+2) _ _ _ rfl rfl (ziT k2)
    ·exact⟨zaN (zaN aJ.o Mcw _) Mcw _,.inl ⟨mH,rfl⟩⟩
  ·have ag:(ce != 0)=true:=MdS;rw[if_pos ag];clear dK dj dB HS HW hG oI jt
   go_wp2_with (go_at_call 20;go_must(refine(fq.o _ (aC.o.trans (Below.mono (B:=w2.heap.size) Bw aW))).mono ?_);go_loud(rintro e wq ⟨rfl,z,hz⟩)
                have q2:wq.heap[w.heap.size+2]?=some (.cells #[.slice none 0 0,.slice none 0 0] 25):=by rw[hz];exact zby k2
                have aZ:Qa w2 wq:=by rw[hz];exact Bw
                obtain⟨t0,t1⟩:=cF2 q2;have f0:∀j,wq.frozen? ⟨w.heap.size+2,j,none⟩=false:=fun j=>by simp[World.frozen?,q2]
                clear hz)
   refine bodyPost_ret (v:=.tuple #[.agg #[.slice none 0 0,.slice none 0 0],.int .i64 ce]) ?_ rfl ?_
   ·exact zfG rfl _ _ (w.heap.size+2) _ _ _ rfl rfl (ziT q2)
   ·exact⟨zaN (zaN (aC.o.trans (aZ.mono aW)) Mcw _) Mcw _,.inl ⟨hce,rfl⟩⟩
 ·have ag:(er != 0)=true:=MdJ;rw[if_pos ag];clear fq dK dj dB HS HW H4;go_wp2_with fail
  refine bodyPost_ret (v:=.tuple #[.agg #[.slice none 0 0,.slice none 0 0],.int .i64 er]) ?_ rfl ?_
  ·exact zfG rfl _ _ (w.heap.size+2) _ _ _ rfl rfl (ziT k2)
  ·exact⟨zaN (zaN aC.o Mcw _) Mcw _,.inl ⟨h0,rfl⟩⟩
