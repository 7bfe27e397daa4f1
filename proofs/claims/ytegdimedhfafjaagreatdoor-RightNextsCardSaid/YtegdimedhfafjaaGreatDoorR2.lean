import Derived.Test.YtegdimedhfafjaaGreatDoorDR
import Derived.Test.YtegdimedhfafjaaGreatDoorWV
set_option linter.all false
set_option maxRecDepth 100000
set_option maxHeartbeats 4000000
namespace Go.Proofs.YtegdimedhfafjaaGreatDoor
open Go.RowKit
attribute [local go_sem] World.cell?_alloc_mark zaf za5 zao za8 zav zaw zax zay zaz za0 za1
attribute [local go_sem] zaq zad
section
section
variable {P:Program} {ops:Array Oper} {md:Region.Mode} {w₀:World}
def grow(P:Program)(o:Oper)(a:Act)(w₀:World)(K:Act->Prop):Prop:= ∃v,(∀z,o.quietAt P a (fun w'=>∃z',w'=(w₀.ext z).ext z') (w₀.ext z) v)/\K (a.put o.dst v)
def zgN(P:Program)(ops:Array Oper)(w₀:World)(Q:Act->Prop):List Oper->Act->Prop
 | [],a=>Q a
 |o::rest,a=>if Region.wanted o (yielded ops a.tmps)then grow P o a w₀ (zgN P ops w₀ Q rest)else zgN P ops w₀ Q rest (a.put o.dst undef)
theorem zfH{Q:Act->Prop}{a:Act}(h:Q a):zgN P ops w₀ Q [] a:=h
theorem zeO{Q:Act->Prop}{a:Act}{o:Oper}{rest:List Oper}
 (h:∀K:Act->Prop,(∀a,zgN P ops w₀ Q rest a->K a)->if Region.wanted o (yielded ops a.tmps)then grow P o a w₀ K else K (a.put o.dst undef)):zgN P ops w₀ Q (o::rest) a:=
 h _ (fun _ h=>h)
def YieldsG(P:Program)(ops:Array Oper)(w₀:World)(o:Oper)(v:Value)(a:Act):Prop:=
 (Region.wanted o (yielded ops a.tmps)=true/\∀z,o.quietAt P a (fun w'=>∃z',w'=(w₀.ext z).ext z') (w₀.ext z) v)\/(Region.wanted o (yielded ops a.tmps)=false/\v=undef)
theorem YieldsG.put{oi oj:Oper}{v u:Value}{a:Act}(h1:∀d,oi.dst=some d->d∉oj.looksAt ops)(E5:∀cs b,oj.op≠ .select cs b)(h:YieldsG P ops w₀ oj u (a.put oi.dst v)):YieldsG P ops w₀ oj u a:=by
 unfold YieldsG Oper.quietAt at*;rw[wanted_put oj a oi.dst v h1,execOp_put oj E5 a oi.dst v h1]at h;exact h
theorem YieldsG.put'{oi oj:Oper}{v u:Value}{a:Act}(h1:∀d,oi.dst=some d->d∉oj.looksAt ops)(E5:∀cs b,oj.op≠ .select cs b)(h:YieldsG P ops w₀ oj u a):YieldsG P ops w₀ oj u (a.put oi.dst v):=by
 unfold YieldsG Oper.quietAt at*;rw[wanted_put oj a oi.dst v h1,execOp_put oj E5 a oi.dst v h1];exact h
theorem zfN{i:Nat}{o:Oper}{v:Value}{a:Act}{K:Act->World->Prop}{Q:Exit->Act->World->Prop}{z:Ez}(hi:ops[i]?=some o)(hy:YieldsG P ops w₀ o v a)(hK:∀z',K (a.put o.dst v) ((w₀.ext z).ext z')):wpOp P ops Q i K a (w₀.ext z):=by
 have Cr:K (a.put o.dst v) (w₀.ext z):=by
  have:=hK ⟨#[],(w₀.ext z).drawn⟩;simpa[World.ext]using this
 unfold wpOp;simp only[hi];rcases hy with⟨hw,hv⟩|⟨hw,rfl⟩
 ·rw[if_pos hw];refine .inl ?_;have h3:=hv z;unfold Oper.quietAt at h3;unfold Oper.wp;generalize(execOp a.eval o).run P (w₀.ext z)=r at*;cases r with
  |ok n w'=>
   cases n<;>simp only[Oper.quietUpon]at h3<;>simp only[Oper.upon]
   case value u=>obtain⟨e1,e2⟩:=h3;rw[e1,e2];exact Cr
   case skip=>obtain⟨e1,e2⟩:=h3;rw[e1,<-e2];exact Cr
   case enter f args=>
    obtain⟨e1,hc⟩:=h3;rw[e1];exact hc.mono fun e w'' ⟨he,z',E9⟩=>by subst he E9;exact hK z'
  |halt x w'=>simp only[Oper.quietUpon]at h3
 ·rw[if_neg (by rw[hw];exact Bool.false_ne_true)];exact Cr
def zgf(P:Program)(md:Region.Mode)(ops:Array Oper)(w₀:World)(n:Nat)(L:Array Bool->Act->Prop):Nat->Array Bool->Act->Prop
 |0,listed,a=>L listed a
 |f+1,listed,a=>(∃i∈Region.ready md ops listed,i<n)/\∀i∈Region.ready md ops listed,i<n->∃o v,ops[i]?=some o/\YieldsG P ops w₀ o v a/\zgf P md ops w₀ n L f (listed.setIfInBounds i true) (a.put o.dst v)
theorem zkP{n i:Nat}{oi:Oper}{v:Value}{L:Array Bool->Act->Prop}(hi:ops[i]?=some oi)(dr:∀(j:Nat) (o:Oper) cs b,ops[j]?=some o->o.op≠ .select cs b)(aQ:i<n)
 (jT:∀listed a,L listed a->∀j∈Region.ready md ops listed,n<=j):
 ∀(f:Nat) (listed:Array Bool) (a:Act),
  (∀j oj,ops[j]?=some oj->j≠i->listed.getD j true=false->(∀e∈oj.after,Region.binds md e=true->e.on≠i)->oi.apart ops oj=true)->
  i∈Region.ready md ops listed->YieldsG P ops w₀ oi v a->
  zgf P md ops w₀ n L f (listed.setIfInBounds i true) (a.put oi.dst v)->zgf P md ops w₀ n L (f+1) listed a:=by
 intro f;induction f with
 |zero=>
  intro listed a _ hr hy H;refine⟨⟨i,hr,aQ⟩,fun j hj Gp=>?_⟩;by_cases cz:j=i
  ·subst cz;exact⟨oi,v,hi,hy,H⟩
  ·have:=jT _ _ H j (ready_mono hj cz);omega
 |succ f ih=>
  intro listed a fP hr hy H;refine⟨⟨i,hr,aQ⟩,fun j hj Gp=>?_⟩;by_cases cz:j=i
  ·subst cz;exact⟨oi,v,hi,hy,H⟩
  ·obtain⟨oj,u,iY,LU,Hj⟩:=H.2 j (ready_mono hj cz) Gp;obtain⟨ku,oj',xZ,b9⟩:=mem_ready.1 hj;rw[iY]at xZ;cases xZ;have dY:=(mem_ready.1 hr).1;have mK:∀e∈oj.after,Region.binds md e=true->e.on≠i:=fun e he hb Ak=>by
    have h1:=b9 e he hb;rw[Ak,getD_both dY]at h1;cases h1
   obtain⟨h1,h2,h3⟩:=Oper.apart_spec (fP j oj iY cz ku mK);refine⟨oj,u,iY,LU.put h1 (fun cs b=>dr j oj cs b iY),?_⟩;refine ih (listed.setIfInBounds j true) (a.put oj.dst u) ?_ (ready_mono hr (Ne.symm cz)) (hy.put' h3 (fun cs b=>dr i oi cs b hi)) ?_
   ·intro k ok hk au dY dN;exact Man
   ·rw[Array.setIfInBounds_comm _ _ cz,<-Act.put_comm a v u h2];exact Hj
def zeU(md:Region.Mode)(ops:Array Oper):Nat->Nat->Array Bool->Bool
 |0,k,listed=>decide (Region.ready md ops listed=[k])&&decide (Region.ready md ops (listed.setIfInBounds k true)=[k+1])&&decide (Region.ready md ops ((listed.setIfInBounds k true).setIfInBounds (k+1) true)=[])
 |f+1,k,listed=>(Region.ready md ops listed).contains k&&Region.free md ops listed k&&zeU md ops f (k+1) (listed.setIfInBounds k true)
def letB(md:Region.Mode)(ops:Array Oper)(n:Nat):Bool:=
 decide (ops.size=n+2)&&Region.noSelect ops&&
 (match ops[n]? with
  |none=>false
  |some al=>al.guard.isNone&&al.after.isEmpty&&(List.range n).all fun j=>match ops[j]? with
   |none=>false
   |some oj=>al.apart ops oj&&oj.after.all fun e=>e.on != n)&&
 (match ops[n+1]? with
  |none=>false
  |some st=>st.guard.isNone&&(List.range (n+1)).all fun j=>st.after.any fun e=>Region.binds md e&&e.on==j)&&
 zeU md ops n 0 (Array.replicate ops.size false)
theorem ziZ{n:Nat}{Lq:Act->Prop}(dr:Region.noSelect ops=true):
 ∀(l:List Oper) (k:Nat) (listed:Array Bool) (a:Act),(∀j,j<l.length->l[j]?=ops[k+j]?)->k+l.length=n->
 zeU md ops l.length k listed=true->zgN P ops w₀ Lq l a->
 zgf P md ops w₀ n (fun listed' a'=>zeU md ops 0 n listed'=true/\Lq a') l.length listed a
 | [],k,listed,a,_,hk,hB,h=>by
   have:k=n:=by simpa using hk
   subst this;exact⟨hB,h⟩
 |o::l,k,listed,a,hl,hk,hB,h=>by
  have h0:ops[k]?=some o:=by simpa using(hl 0 Mcp).symm
  simp only[List.length_cons,zeU,Bool.and_eq_true]at hB;obtain⟨⟨hr,hf⟩,f9⟩:=hB;have jB:k<n:=by simp only[List.length_cons]at hk;omega
  have cn:k∈Region.ready md ops listed:=by simpa using hr
  obtain⟨v,hy,hK⟩:∃v,YieldsG P ops w₀ o v a/\zgN P ops w₀ Lq l (a.put o.dst v):=by
   unfold zgN at h;by_cases hw:Region.wanted o (yielded ops a.tmps)=true
   ·rw[if_pos hw]at h;obtain⟨v,h1,h2⟩:=h;exact⟨v,.inl ⟨hw,h1⟩,h2⟩
   ·rw[if_neg hw]at h;exact⟨undef,.inr ⟨by simpa using hw,rfl⟩,h⟩
  exact zkP h0 (Region.noSelect_spec dr) jB (fun listed' a' hL j hj=>by
   have h1:=hL.1;simp only[zeU,Bool.and_eq_true,decide_eq_true_eq]at h1;rw[h1.1.1]at hj;have:j=n:=by simpa using hj
   omega) l.length listed a (Region.free_spec h0 hf) cn hy
   (ziZ dr l (k+1) _ _ (fun j hj=>by have:=hl (j+1) Mcr;simpa[Nat.add_assoc,Nat.add_comm 1 j]using this) (by simp only[List.length_cons]at hk;omega) f9 hK)
theorem alloc_ext(w:World)(o:Obj):∃z,w.alloc o=w.ext z:=zaV (zac (Below.refl _ _) o)
theorem zdB{id:Nat}{Q:Exit->Act->World->Prop}{a:Act}{w:World}{l:List Oper}(n:Nat)(al st:Oper)(obj obj':Obj)(hm:P.follows .mixedOrders=true)(hB:letB .any l.toArray n=true)
 (jQ:l[n]?=some al)(aj:l[n+1]?=some st)
 (hrun:∀(a:Act) (W:World),(execOp a.eval al).run P W=.ok (.value (.pointer (some ⟨W.heap.size,0,none⟩))) (W.alloc obj))
 (mB:zgN P l.toArray w (fun aF=>(∀W B,W.heap[B]?=some obj->∃W',(execOp (aF.put al.dst (.pointer (some ⟨B,0,none⟩))).eval st).run P W=.ok .skip W'/\W'.heap[B]?=some obj'/\W.grownBy W' (some B))/\
   (∀B W,(∃z,W=w.ext z)->w.heap.size<=B->W.heap[B]?=some obj'->Q .normal ((aF.put al.dst (.pointer (some ⟨B,0,none⟩))).put st.dst undef) W)) (l.take n) a):(Code.region id l.toArray true).wp P Q a w:=by
 generalize hLq:(fun aF:Act=>(∀W B,W.heap[B]?=some obj->∃W',(execOp (aF.put al.dst (.pointer (some ⟨B,0,none⟩))).eval st).run P W=.ok .skip W'/\W'.heap[B]?=some obj'/\W.grownBy W' (some B))/\
  (∀B W,(∃z,W=w.ext z)->w.heap.size<=B->W.heap[B]?=some obj'->Q .normal ((aF.put al.dst (.pointer (some ⟨B,0,none⟩))).put st.dst undef) W))=Lq at mB
 simp only[letB,Bool.and_eq_true,decide_eq_true_eq]at hB;obtain⟨⟨⟨⟨hsz,dr⟩,bE⟩,bx⟩,xD⟩:=hB;have wL:l.toArray[n]?=some al:=by simpa using jQ
 have sW:l.toArray[n+1]?=some st:=by simpa using aj
 rw[wL]at bE;rw[sW]at bx;simp only[Bool.and_eq_true,List.all_eq_true,List.mem_range,Option.isNone_iff_eq_none]at bE bx;obtain⟨⟨cf,haf⟩,bE⟩:=bE;obtain⟨cw,bx⟩:=bx;have yz:=Region.noSelect_spec dr;generalize hops:l.toArray=ops at*;have cL:(l.take n).length=n:=by
  have:l.length=n+2:=by rw[<-hsz,<-hops];simp
  simp;omega
 have H:=ziZ (md:=.any) (n:=n) dr (l.take n) 0 _ a (fun j hj=>by
  have sA:j<n:=by rw[cL]at hj;exact hj
  rw[<-hops];simp[sA]) (by simpa using cL) (by rw[cL];exact xD) mB
 rw[cL,hsz]at H;refine wp_region_any hm ?_;rw[hsz];have ay:(Array.replicate (n+2) false).size=n+2:=Mcp;have ui:(Array.replicate (n+2) false).getD n true=false:=Mcp;have cA:(Array.replicate (n+2) false).getD (n+1) true=false:=Mcp;have us:({w with drawn:=w.drawn+1}:World)=w.ext ⟨#[],w.drawn+1⟩:=by simp[World.ext]
 rw[us];generalize(⟨#[],w.drawn+1⟩:Ez)=z0;generalize jD:Array.replicate (n+2) false=listed0 at*;clear jD mB xD us;have rT:∀j oj,j<n->ops[j]?=some oj->al.apart ops oj=true/\∀e∈oj.after,e.on≠n:=fun j oj hj iY=>by
  have:=bE j hj;rw[iY]at this;simp only[Bool.and_eq_true,Array.all_eq_true',bne_iff_ne,ne_eq]at this;exact⟨this.1,fun e he=>this.2 e he⟩
 have qk:∀(listed:Array Bool) (j:Nat),j<n+1->listed.getD j true=false->n+1∉Region.ready .any ops listed:=fun listed j hj dY hr=>by
  obtain⟨_,o,ho,b9⟩:=mem_ready.1 hr;rw[sW]at ho;cases ho;obtain⟨e,he,hb⟩:=Array.any_eq_true'.1 (bx j hj);simp only[Bool.and_eq_true,beq_iff_eq]at hb;have:=b9 e he hb.1;rw[hb.2,getD_both dY]at this;cases this
 have aa:∀(listed:Array Bool) (j:Nat),j∈Region.ready .any ops listed->j<n\/j=n\/j=n+1:=fun listed j hj=>by
  obtain⟨_,o,ho,_⟩:=mem_ready.1 hj;have:=(Array.getElem?_eq_some_iff.1 ho).1;omega
 have Ea:∀t,Region.wanted al (yielded ops t)=true:=fun t=>by simp[Region.wanted,cf]
 have Ec:∀t,Region.wanted st (yielded ops t)=true:=fun t=>by simp[Region.wanted,cw]
 have last:∀(listed:Array Bool) (aF:Act) (z:Ez) (B:Nat),Lq aF->zeU .any ops 0 n listed=true->w.heap.size<=B->(w.ext z).heap[B]?=some obj->
  wpAny P .any ops Q 1 (listed.setIfInBounds n true) (aF.put al.dst (.pointer (some ⟨B,0,none⟩))) (w.ext z):=fun listed aF z B hq hL eQ hb=>by
  rw[<-hLq]at hq;obtain⟨hstore,h⟩:=hq;simp only[zeU,Bool.and_eq_true,decide_eq_true_eq]at hL;refine⟨fun h0=>(by rw[hL.1.2]at h0;cases h0),fun i hi=>?_⟩;rw[hL.1.2]at hi;have aQ:i=n+1:=by simpa using hi
  subst aQ;unfold wpOp;simp only[sW];rw[if_pos (Ec _)];refine .inl ?_;obtain⟨W',hr,cC,dj⟩:=hstore _ _ hb;unfold Oper.wp;rw[hr];refine⟨hL.2,h B W' ?_ eQ cC⟩;exact zaV ((zap w z).grown dj (Below.size (zap w z)) (fun k hk=>by cases hk;exact eQ))
 have modeB:∀(f:Nat) (listed:Array Bool) (a:Act) (z:Ez) (B:Nat),listed.getD n true=false->w.heap.size<=B->(w.ext z).heap[B]?=some obj->
  zgf P .any ops w n (fun listed' a'=>zeU .any ops 0 n listed'=true/\Lq a') f listed a->
  wpAny P .any ops Q (f+1) (listed.setIfInBounds n true) (a.put al.dst (.pointer (some ⟨B,0,none⟩))) (w.ext z):=by
  intro f;induction f with
  |zero=>
   intro listed a z B _ eQ hb hH;exact last listed a z B hH.2 hH.1 eQ hb
  |succ f ih=>
   intro listed a z B dY eQ hb hH;obtain⟨⟨i0,fk,xr⟩,b9⟩:=hH;have xq:=ready_mono fk (show i0≠n by omega);refine⟨fun h0=>(by rw[h0]at xq;cases xq),fun i hi=>?_⟩;have aQ:i≠n:=by
    rintro rfl;have:=(mem_ready.1 hi).1;have hs:i<listed.size:=by
     rcases Nat.lt_or_ge i listed.size with h|h
     ·exact h
     ·simp[Array.getElem?_eq_none h]at dY
    simp[Array.getElem?_setIfInBounds,hs]at this
   rcases aa _ i hi with aa|aa|aa
   ·obtain⟨hu,oi,xY,CU⟩:=mem_ready.1 hi;obtain⟨nD,dN⟩:=rT i oi aa xY
    have hr:i∈Region.ready .any ops listed:=mem_ready.2 ⟨by rw[getD_set_ne true (Ne.symm aQ)]at hu;exact hu,oi,xY,fun e he hb=>by
     have:=CU e he hb;rw[getD_set_ne false (Ne.symm (dN e he))]at this
     exact this⟩
    obtain⟨o,v,ho,hy,vU⟩:=b9 i hr aa;rw[xY]at ho;cases ho;obtain⟨h1,h2,h3⟩:=Oper.apart_spec nD;refine zfN xY (hy.put' h1 (fun cs b=>yz i oi cs b xY)) fun z'=>?_
    rw[<-Array.setIfInBounds_comm _ _ aQ,Act.put_comm a _ v h2,zhT];refine ih _ _ _ B (by rw[getD_set_ne true aQ];exact dY) eQ ?_ vU;rw[<-zhT,zcD _ _ _ (Array.getElem?_eq_some_iff.1 hb).1];exact hb
   ·exact absurd aa aQ
   ·subst aa;have LC:(listed.setIfInBounds n true).getD i0 true=false:=by rw[getD_set_ne true Mcm];exact(mem_ready.1 fk).1
    exact absurd hi (qk _ i0 Mcm LC)
 have modeA:∀(f:Nat) (listed:Array Bool) (a:Act) (z:Ez),listed.getD n true=false->
  zgf P .any ops w n (fun listed' a'=>zeU .any ops 0 n listed'=true/\Lq a') f listed a->
  wpAny P .any ops Q (f+2) listed a (w.ext z):=by
  have make:∀(f:Nat) (listed:Array Bool) (a:Act) (z:Ez),listed.getD n true=false->zgf P .any ops w n (fun listed' a'=>zeU .any ops 0 n listed'=true/\Lq a') f listed a->
   wpOp P ops Q n (wpAny P .any ops Q (f+1) (listed.setIfInBounds n true)) a (w.ext z):=fun f listed a z dY hH=>by
   unfold wpOp;simp only[wL];rw[if_pos (Ea _)];refine .inl ?_;unfold Oper.wp;rw[hrun];obtain⟨z',LV⟩:=alloc_ext (w.ext z) obj;have hb:=heap_alloc_new (w.ext z) obj;have oZ:w.heap.size<=(w.ext z).heap.size:=by rw[zaf];omega
   show wpAny P .any ops Q (f+1) (listed.setIfInBounds n true) (a.put al.dst (.pointer (some ⟨(w.ext z).heap.size,0,none⟩))) ((w.ext z).alloc obj);generalize(w.ext z).heap.size=B at*;rw[LV,zhT]at hb⊢;exact modeB f listed a _ B dY oZ hb hH
  intro f;induction f with
  |zero=>
   intro listed a z dY hH;have hL:=hH.1;simp only[zeU,Bool.and_eq_true,decide_eq_true_eq]at hL;refine⟨fun h0=>(by rw[hL.1.1]at h0;cases h0),fun i hi=>?_⟩;rw[hL.1.1]at hi;have aQ:i=n:=by simpa using hi
   subst aQ;exact make 0 listed a z dY hH
  |succ f ih=>
   intro listed a z dY hH;obtain⟨⟨i0,fk,xr⟩,b9⟩:=hH;refine⟨fun h0=>(by rw[h0]at fk;cases fk),fun i hi=>?_⟩;rcases aa _ i hi with aa|aa|aa
   ·obtain⟨o,v,ho,hy,vU⟩:=b9 i hi aa;refine zfN ho hy fun z'=>?_
    rw[zhT];exact ih _ _ _ (by rw[getD_set_ne true Mcm];exact dY) vU
   ·subst aa;exact make (f+1) listed a z dY ⟨⟨i0,fk,xr⟩,b9⟩
   ·subst aa;exact absurd hi (qk _ i0 Mcm (mem_ready.1 fk).1)
 exact modeA n listed0 a z0 ui H
end
theorem quietg{P:Program}{f:FuncId}{args:Array Value}{W:World}{v:Value}(h:Calls P f args W (Ret W v)):Calls P f args W fun e w''=>e=.returned v/\∃z,w''=W.ext z:=h
end
open Go.Shelf
theorem zmr{d:Deed}(h1:inR d.kind 0 8=true)(h2:inR d.years 0 99=true):zfu d=zfP d:=
 zpm (zf1.1 h1) (zf1.1 h2).1
theorem zfO(d:Deed)(B:Option Addr)(c:Nat)(w:World)(hl:zdt d)(hS:Sl w 3 RPart.cells B d.to):Calls Tryz.prog 27 #[d.v B c] w (Ret w (.int .i64 (za3 d))):=by
 obtain⟨R,hR⟩:∃R,R=za3 d:=⟨_,rfl⟩
 rw[<-hR];have Al:=zmr (d:=d);have oE:=fun W (hl:d.to.length<=1000) (h:Below w.heap.size w W)=>znu d B c W hl (hS.keep h)
 obtain⟨kd,dy,pl,fr,ts,cl,yr⟩:=d;obtain⟨l1,l2,eE,aa⟩:=hl;have HS:=zHi hS;unfold za3 at hR;unfold Deed.v at oE⊢;simp only at hR l1 l2 eE aa hS Al oE;obtain⟨HR,ng,nV,ez⟩:=yH4 hR Al oE eE;clear hR hS Al oE eE;go_enter Tryz.func27,Tryz.ntmps27
 go_upto_region 1 with fail
 generalize ao:w.alloc _=W0;obtain⟨g0,aO⟩:=boxed ao;obtain⟨d0,d1,d2,d3,d4,d5,d6⟩:=zaG g0;have l0:=zab g0;have ak:=zHi aO;clear ao aO;cases i8:inR kd 0 8
 ·have HE:Hid (R=15):=by show _=_;rw[HR.o];simp[i8]
  exact Ms
 go_upto_region 3 with(first
                        |(go_at_call 60;go_must(refine(zcx _ _ _ _).mono ?_);rintro e wq ⟨rfl,rfl⟩;(first|rw[i8]|rw[hc9]|rw[hy9]))
                        |(go_at_call 58;go_must(refine(zdj _ _).mono ?_);rintro e wq ⟨rfl,rfl⟩;rw[jS])
                        |(go_at_call 61;go_must(refine(zdU _ _ Mc2).mono ?_);rintro e wq ⟨rfl,rfl⟩;(first|rw[cY]|rw[gT]|rw[ul])))
 cases jS:zb0 dy
 ·have HE:Hid (R=2):=by show _=_;rw[HR.o];simp[i8,jS]
  exact Ms
 cases hc9:inR cl 0 4
 ·have HE:Hid (R=2):=by show _=_;rw[HR.o];simp[i8,jS,hc9]
  exact Ms
 cases hy9:inR yr 0 99
 ·have HE:Hid (R=2):=by show _=_;rw[HR.o];simp[i8,jS,hc9,hy9]
  exact Ms
 go_upto_region 5 with(first
                        |(go_at_call 60;go_must(refine(zcx _ _ _ _).mono ?_);rintro e wq ⟨rfl,rfl⟩;(first|rw[i8]|rw[hc9]|rw[hy9]))
                        |(go_at_call 58;go_must(refine(zdj _ _).mono ?_);rintro e wq ⟨rfl,rfl⟩;rw[jS])
                        |(go_at_call 61;go_must(refine(zdU _ _ Mc2).mono ?_);rintro e wq ⟨rfl,rfl⟩;(first|rw[cY]|rw[gT]|rw[ul])))
 by_cases h8:8<ts.length
 ·have h9:(8:Int)<(ts.length:Int):=Mcm;have HE:Hid (R=8):=by show _=_;rw[HR.o];simp[i8,jS,hc9,hy9,h8]
  exact Ms
 have h9:¬(8:Int)<(ts.length:Int):=Mcm;have um:R=if !zb1 pl||!zb1 fr||!ts.all (fun p=>zaS p.name)then 4 else if !zfP ⟨kd,dy,pl,fr,ts,cl,yr⟩then 3 else 0:=by rw[HR.o];simp[i8,jS,hc9,hy9,h8]
 rw[<-ng.o i8 hy9]at um;have bD:=zHi um;clear um ng HR;go_upto_region 7 with fail
 go_cut [47]from 28 to 47 (fun v wc=>v=.bool (!zb1 pl||!zb1 fr)/\W0=wc)
 case first=>
  cases z1:noB pl
  ·have w1:¬pl.toList=[]:=by simpa using(show pl.toList.isEmpty=false from z1)
   cases jU:zaS pl
   ·have cY:zcT pl=false:=by rw[<-zcM,jU]
    exact Mr
   ·have cY:zcT pl=true:=by rw[<-zcM,jU]
    cases z2:noB fr
    ·exact Mb4
    ·exact Mcf
  ·have w1:pl.toList=[]:=by simpa using(show pl.toList.isEmpty=true from z1)
   cases z2:noB fr
   ·exact Mb4
   ·exact Mcf
 case rest=>
  obtain⟨rfl,rfl⟩:=hcut;cases hn9:(!zb1 pl||!zb1 fr)
  ·have yk:R=if !ts.all (fun p=>zaS p.name)then 4 else if !zfu ⟨kd,dy,pl,fr,ts,cl,yr⟩then 3 else 0:=by rw[bD.o,hn9,Bool.false_or]
   have qC:=zHi (fun W h=>nV.o W Mcm h);generalize zfu ⟨kd,dy,pl,fr,ts,cl,yr⟩=fo at*;have lQ:=zHi yk;clear yk bD nV;go_upto_region 10 with fail
   go_loopw [3] (fun i wr=>∃k:Nat,k<=ts.length/\i=.int .i64 k/\W0=wr/\Hid (R=if !(ts.drop k).all (fun p=>zaS p.name)then 4 else if !fo then 3 else 0)) (fun i _=>ts.length-(intOf i).toNat)
   case atStart=>exact⟨0,Nat.zero_le _,rfl,rfl,by rw[List.drop_zero];exact lQ.o⟩
   case round=>
    obtain⟨k,hk,rfl,rfl,HX⟩:=hrel;by_cases aa:k<ts.length
    ·obtain⟨b,off,rfl,hb,ah⟩:=(HS.o.keep ak.o).at aa;have hx:=HX.o;rw[List.drop_eq_getElem_cons aa,List.all_cons]at hx;have hsz:=ez.o _ (List.getElem_mem aa);obtain⟨av,am⟩:=yH2 hx aa;generalize ts[k]=x at*;obtain⟨nm,nu,de⟩:=x;have i0:W0.cell? ⟨b,off+k*3,none⟩=some (.string nm):=ah 0 _ rfl;have au:(k:Int)<(ts.length:Int):=Mcm;have aP:(0:Int)<=(k:Int):=Mcm;simp only at hsz;clear ah hx aa;cases hp3:zaS nm
     ·have ul:zcT nm=false:=by rw[<-zcM,hp3]
      have HE:Hid (R=4):=by show _=_;rw[av.o];simp[hp3]
      exact Ms
     ·have ul:zcT nm=true:=by rw[<-zcM,hp3]
      have HE:Hid (R=if !(ts.drop (k+1)).all (fun p=>zaS p.name)then 4 else if !fo then 3 else 0):=by show _=_;rw[av.o,hp3,Bool.true_and]
      go_wp2_with (first
                    |(go_at_call 60;go_must(refine(zcx _ _ _ _).mono ?_);rintro e wq ⟨rfl,rfl⟩;(first|rw[i8]|rw[hc9]|rw[hy9]))
                    |(go_at_call 58;go_must(refine(zdj _ _).mono ?_);rintro e wq ⟨rfl,rfl⟩;rw[jS])
                    |(go_at_call 61;go_must(refine(zdU _ _ Mc2).mono ?_);rintro e wq ⟨rfl,rfl⟩;(first|rw[cY]|rw[gT]|rw[ul])))
      exact MK
    ·have au:¬(k:Int)<(ts.length:Int):=Mcm;have HE:Hid (R=if !fo then 3 else 0):=by show _=_;rw[HX.o,List.drop_of_length_le Mcm];rfl
     cases fo
     ·exact MaE
     ·exact MaE
  ·have HE:Hid (R=4):=by show _=_;rw[bD.o,hn9];rfl
   exact Ms
