import Derived.Test.YthhgkjfgpkbliaaGreatDoorO0
import Derived.Deep.RegionHeld3
import Derived.Test.YthhgkjfgpkbliaaGreatDoorJ6
set_option linter.all false
set_option maxRecDepth 100000
set_option maxHeartbeats 4000000
namespace Go.Proofs.YthhgkjfgpkbliaaGreatDoor
attribute [local go_sem] World.cell?_alloc_mark zae zav zai zaw zam zan zao zap zaq zar zas
attribute [local go_sem] zah zac
section
section
variable {P:Program} {ops:Array Oper} {Q:Exit->Act->World->Prop} {md:Region.Mode} {m:Nat} {S:Bool->World->Prop}
def zeo(md:Region.Mode)(ops:Array Oper)(listed:Array Bool):Prop:= ∀(k:Nat) (o:Oper),ops[k]?=some o->listed.getD k false=true->∀e∈o.after,Region.binds md e=true->listed.getD e.on false=true
def ziK(md:Region.Mode)(ops:Array Oper)(listed:Array Bool):Bool:=(List.range ops.size).all fun k=>match ops[k]? with
 |some o=>!listed.getD k false||o.after.all fun e=>!Region.binds md e||listed.getD e.on false
 |none=>true
theorem closed_of{listed:Array Bool}(h:ziK md ops listed=true):zeo md ops listed:=fun k o ho hl e he hb=>by
 unfold ziK at h;have h1:=List.all_eq_true.1 h k (List.mem_range.2 (Array.getElem?_eq_some_iff.1 ho).1);simp only[ho,hl,Bool.not_true,Bool.false_or]at h1;rw[Array.all_eq_true]at h1;obtain⟨j,hj,rfl⟩:=Array.mem_iff_getElem.1 he;have h2:=h1 j hj;rw[hb]at h2;simpa using h2
def needs(md:Region.Mode)(ops:Array Oper)(i:Nat):Nat->Nat->Bool
 |0,k=>k==i
 |f+1,k=>k==i||match ops[k]? with
  |some o=>o.after.any fun e=>Region.binds md e&&needs md ops i f e.on
  |none=>false
theorem ziL{i:Nat}{listed:Array Bool}(hc:zeo md ops listed):∀(f k:Nat),needs md ops i f k=true->listed.getD k false=true->listed.getD i false=true
 |0,k,h,hl=>by
  have:k=i:=by simpa[needs]using h
  rw[<-this];exact hl
 |f+1,k,h,hl=>by
  unfold needs at h;rw[Bool.or_eq_true]at h;rcases h with h|h
  ·have:k=i:=by simpa using h
   rw[<-this];exact hl
  ·cases ho:ops[k]? with
   |none=>rw[ho]at h;cases h
   |some o=>
    rw[ho]at h;simp only at h;rw[Array.any_eq_true]at h;obtain⟨j,hj,h2⟩:=h;rw[Bool.and_eq_true]at h2;exact ziL hc f _ h2.2 (hc k o ho hl o.after[j] (Array.getElem_mem hj) h2.1)
theorem zin{listed:Array Bool}{j:Nat}(hc:zeo md ops listed)(hj:j∈Region.ready md ops listed):zeo md ops (listed.setIfInBounds j true):=fun k o ho hl e he hb=>by
 obtain⟨h0,oj,jO,aE⟩:=mem_ready.1 hj;by_cases jF:j=k
 ·subst jF;rw[jO]at ho;simp only[Option.some.injEq]at ho;subst ho;exact getD_set_true (aE e he hb)
 ·rw[getD_set_ne false jF]at hl;exact getD_set_true (hc k o ho hl e he hb)
def zbQ(P:Program)(md:Region.Mode)(ops:Array Oper)(Q:Exit->Act->World->Prop)(m:Nat)(S:Bool->World->Prop):Nat->Array Bool->Act->World->Prop
 |0,listed,a,w=>Region.ready md ops listed=[]/\Q .normal a w
 |fuel+1,listed,a,w=>
  (Region.ready md ops listed=[]->Q .normal a w)/\
  ∀i∈Region.ready md ops listed,wpOp P ops Q i (fun a' w'=>S ((listed.setIfInBounds i true).getD m false) w'/\zbQ P md ops Q m S fuel (listed.setIfInBounds i true) a' w') a w
theorem zfL:∀(fuel:Nat) (listed:Array Bool) (a:Act) (w:World),zbQ P md ops Q m S fuel listed a w->wpAny P md ops Q fuel listed a w
 |0,_,_,_,h=>h
 |fuel+1,_,_,_,h=>⟨h.1,fun i hi=>wpOp_mono (fun a' w' h'=>zfL fuel _ a' w' h'.2) (h.2 i hi)⟩
theorem zj9{i:Nat}{oi:Oper}{v:Value}(gx:i≠m)(hi:ops[i]?=some oi)(cZ:∀(j:Nat) (o:Oper) cs b,ops[j]?=some o->o.op≠ .select cs b)
 (hQ:∀c a w,Q (.panic c) (a.put oi.dst v) w->Q (.panic c) a w)(f0:Nat)(ag:needs md ops i f0 m=true):
 ∀(fuel:Nat) (listed:Array Bool) (a:Act) (w:World),zeo md ops listed->
  (∀j oj,ops[j]?=some oj->j≠i->listed.getD j true=false->(∀e∈oj.after,Region.binds md e=true->e.on≠i)->oi.apart ops oj=true)->
  i∈Region.ready md ops listed->YieldsIf P ops (S false) oi v a->S false w->
  zbQ P md ops Q m S fuel (listed.setIfInBounds i true) (a.put oi.dst v) w->zbQ P md ops Q m S (fuel+1) listed a w:=by
 have gA:∀ {listed:Array Bool},zeo md ops listed->i∈Region.ready md ops listed->listed.getD m false=false:=fun {listed} hc hr=>by
  cases hx:listed.getD m false with
  |false=>rfl
  |true=>
   have h1:=ziL hc f0 m ag hx;have h2:=getD_both (mem_ready.1 hr).1;rw[h2]at h1;cases h1
 intro fuel;induction fuel with
 |zero=>
  intro listed a w hc _ hr hy hS H;refine⟨fun h=>McQ,fun j hj=>?_⟩;by_cases bh:j=i
  ·exact Ma5
  ·have:=ready_mono hj bh;rw[H.1]at this;cases this
 |succ fuel ih=>
  intro listed a w hc dm hr hy hS H;refine⟨fun h=>McQ,fun j hj=>?_⟩;by_cases bh:j=i
  ·exact Ma5
  ·have h1:=H.2 j (ready_mono hj bh);obtain⟨jG,oj,jO,aE⟩:=mem_ready.1 hj;have mL:∀e∈oj.after,Region.binds md e=true->e.on≠i:=fun e he hb yq=>by
    exact MaL
   have h2:=wpOp_putIf jO (dm j oj jO bh jG mL) (fun cs b=>cZ i oi cs b hi) (fun cs b=>cZ j oj cs b jO) hQ hy h1;have fA:∀k ok,ops[k]?=some ok->k≠i->(listed.setIfInBounds j true).getD k true=false->
    (∀e∈ok.after,Region.binds md e=true->e.on≠i)->oi.apart ops ok=true:=fun k ok hk ao rF bN=>by
    exact MaB
   have ar:=zin hc hj;have ti:=ready_mono hr (Ne.symm bh);have mR:((listed.setIfInBounds i true).setIfInBounds j true).getD m false=(listed.setIfInBounds j true).getD m false:=by
    rw[Array.setIfInBounds_comm _ _ (Ne.symm bh),getD_set_ne false gx]
   refine wpOp_mono (fun a' w' h3=>?_) h2;have h4:=h3.2.1;rw[mR]at h4;refine⟨h4,ih (listed.setIfInBounds j true) a' w' ar fA ti h3.1 ?_ ?_⟩
   ·rw[gA ar ti]at h4;exact h4
   ·rw[Array.setIfInBounds_comm _ _ bh];exact h3.2.2
theorem zkL{i:Nat}{oi:Oper}{v:Value}{fuel:Nat}{listed:Array Bool}{a:Act}{w:World}(f0:Nat)(hi:ops[i]?=some oi)(gx:i≠m)(ag:needs md ops i f0 m=true)(aA:ziK md ops listed=true)
 (hs:Region.noSelect ops=true)(hf:Region.free md ops listed i=true)(hr:(Region.ready md ops listed).contains i=true)
 (hQ:∀c a w,Q (.panic c) (a.put oi.dst v) w->Q (.panic c) a w)(hy:YieldsIf P ops (S false) oi v a)(hS:S false w)
 (h:zbQ P md ops Q m S fuel (listed.setIfInBounds i true) (a.put oi.dst v) w):zbQ P md ops Q m S (fuel+1) listed a w:=
 zj9 gx hi (Region.noSelect_spec hs) hQ f0 ag fuel listed a w (closed_of aA) (Region.free_spec hi hf) (by simpa using hr) hy hS h
theorem zfw{i:Nat}{oi:Oper}{v:Value}(gx:i≠m)(hi:ops[i]?=some oi)(cZ:∀(j:Nat) (o:Oper) cs b,ops[j]?=some o->o.op≠ .select cs b)
 (hQ:∀c a w,Q (.panic c) (a.put oi.dst v) w->Q (.panic c) a w):
 ∀(fuel:Nat) (listed:Array Bool) (a:Act) (w:World),
  (∀j oj,ops[j]?=some oj->j≠i->listed.getD j true=false->(∀e∈oj.after,Region.binds md e=true->e.on≠i)->oi.apart ops oj=true)->
  i∈Region.ready md ops listed->YieldsIf P ops (fun _=>True) oi v a->S (listed.getD m false) w->
  zbQ P md ops Q m S fuel (listed.setIfInBounds i true) (a.put oi.dst v) w->zbQ P md ops Q m S (fuel+1) listed a w:=by
 intro fuel;induction fuel with
 |zero=>
  intro listed a w _ hr hy hS H;refine⟨fun h=>McQ,fun j hj=>?_⟩;by_cases bh:j=i
  ·exact Mba
  ·have:=ready_mono hj bh;rw[H.1]at this;cases this
 |succ fuel ih=>
  intro listed a w dm hr hy hS H;refine⟨fun h=>McQ,fun j hj=>?_⟩;by_cases bh:j=i
  ·exact Mba
  ·have h1:=H.2 j (ready_mono hj bh);obtain⟨jG,oj,jO,aE⟩:=mem_ready.1 hj;have mL:∀e∈oj.after,Region.binds md e=true->e.on≠i:=fun e he hb yq=>by
    exact MaL
   have h2:=wpOp_putIf jO (dm j oj jO bh jG mL) (fun cs b=>cZ i oi cs b hi) (fun cs b=>cZ j oj cs b jO) hQ hy h1;have fA:∀k ok,ops[k]?=some ok->k≠i->(listed.setIfInBounds j true).getD k true=false->
    (∀e∈ok.after,Region.binds md e=true->e.on≠i)->oi.apart ops ok=true:=fun k ok hk ao rF bN=>by
    exact MaB
   have mR:((listed.setIfInBounds i true).setIfInBounds j true).getD m false=(listed.setIfInBounds j true).getD m false:=by
    rw[Array.setIfInBounds_comm _ _ (Ne.symm bh),getD_set_ne false gx]
   refine wpOp_mono (fun a' w' h3=>?_) h2;have h4:=h3.2.1;rw[mR]at h4;refine⟨h4,ih (listed.setIfInBounds j true) a' w' fA (ready_mono hr (Ne.symm bh)) h3.1 h4 ?_⟩;rw[Array.setIfInBounds_comm _ _ bh];exact h3.2.2
theorem zkM{i:Nat}{oi:Oper}{v:Value}{fuel:Nat}{listed:Array Bool}{a:Act}{w:World}(b:Bool)(hb:listed.getD m false=b)(hi:ops[i]?=some oi)(gx:i≠m)
 (hs:Region.noSelect ops=true)(hf:Region.free md ops listed i=true)(hr:(Region.ready md ops listed).contains i=true)
 (hQ:∀c a w,Q (.panic c) (a.put oi.dst v) w->Q (.panic c) a w)(hy:YieldsIf P ops (fun _=>True) oi v a)(hS:S b w)
 (h:zbQ P md ops Q m S fuel (listed.setIfInBounds i true) (a.put oi.dst v) w):zbQ P md ops Q m S (fuel+1) listed a w:=
 zfw gx hi (Region.noSelect_spec hs) hQ fuel listed a w (Region.free_spec hi hf) (by simpa using hr) hy (by rw[hb];exact hS) h
def AllReadyM(P:Program)(md:Region.Mode)(ops:Array Oper)(Q:Exit->Act->World->Prop)(m:Nat)(S:Bool->World->Prop)(fuel:Nat)(listed:Array Bool)(a:Act)(w:World)(rs:List Nat):Prop:=
 ∀i∈rs,wpOp P ops Q i (fun a' w'=>S ((listed.setIfInBounds i true).getD m false) w'/\zbQ P md ops Q m S fuel (listed.setIfInBounds i true) a' w') a w
theorem AllReadyM.nil{fuel:Nat}{listed:Array Bool}{a:Act}{w:World}:AllReadyM P md ops Q m S fuel listed a w []:=fun _ h=>by cases h
theorem AllReadyM.cons{fuel:Nat}{listed:Array Bool}{a:Act}{w:World}{i:Nat}{o:Oper}{rs:List Nat}(ho:ops[i]?=some o)(b:Bool)(hb:(listed.setIfInBounds i true).getD m false=b)
 (h:∀K':Act->World->Prop,Shut (∀a w,S b w->(S b w->zbQ P md ops Q m S fuel (listed.setIfInBounds i true) a w)->K' a w)->if Region.wanted o (yielded ops a.tmps)=true then Oper.wp P o a w K' Q else K' (a.put o.dst undef) w)
 (hs:AllReadyM P md ops Q m S fuel listed a w rs):AllReadyM P md ops Q m S fuel listed a w (i::rs):=fun j hj=>by
 rcases List.mem_cons.1 hj with rfl|hj
 ·rw[hb];exact wpOp_step ho (fun K' hK=>h K' (fun a w hS hW=>hK a w ⟨hS,hW hS⟩))
 ·exact hs j hj
theorem zgh{rs:List Nat}{fuel:Nat}{listed:Array Bool}{a:Act}{w:World}(hr:Region.ready md ops listed=rs)(ag:rs≠[])
 (h:AllReadyM P md ops Q m S fuel listed a w rs):zbQ P md ops Q m S (fuel+1) listed a w:=⟨fun h0=>absurd (hr▸h0) ag,hr▸h⟩
theorem zcF{listed:Array Bool}{a:Act}{w:World}(hr:Region.ready md ops listed=[])(h:Q .normal a w):∀fuel,zbQ P md ops Q m S fuel listed a w
 |0=>⟨hr,h⟩
 |_+1=>⟨fun _=>h,by rw[hr];simp⟩
theorem zbS{id:Nat}{a:Act}{w:World}(m:Nat)(S:Bool->World->Prop)(hm:P.follows .mixedOrders=true)(hS:S false w.drew)
 (h:S false w.drew->zbQ P .any ops Q m S ops.size (Array.replicate ops.size false) a w.drew):(Code.region id ops true).wp P Q a w:=
 wp_region_any hm (zfL _ _ _ _ (h hS))
end
theorem TkM{P:Program}{ops:Array Oper}{Q:Exit->Act->World->Prop}{md:Region.Mode}{m:Nat}{S:Bool->World->Prop}(i:Nat){oi:Oper}{v:Value}{fuel:Nat}{listed:Array Bool}{a a':Act}{w:World}(h:zbQ P md ops Q m S fuel (listed.setIfInBounds i true) a' w)(hi:ops[i]?=some oi:=by exact List.getElem?_toArray.trans rfl)(gx:i≠m:=by decide)(ag:needs md ops i 9 m=true:=by kernel_rfl)(aA:ziK md ops listed=true:=by kernel_rfl)
 (hs:Region.noSelect ops=true:=by kernel_rfl)(hf:Region.free md ops listed i=true:=by kernel_rfl)(hr:(Region.ready md ops listed).contains i=true:=by kernel_rfl)
 (hQ:∀c a w,Q (.panic c) (a.put oi.dst v) w->Q (.panic c) a w:=by exact fun _ _ _ h=>h)(hy:YieldsIf P ops (S false) oi v a:=by(refine Or.inl ⟨by rfl,?_⟩;intro w nI;(try dsimp only at nI);replace nI:=nI.resolve_left Bool.false_ne_true;go_simp;first|done|with_reducible rfl))(hS:S false w:=by assumption)
 (ha:a.put oi.dst v=a':=by((try simp only[Act.put,List.setIfInBounds_toArray,List.set_cons_zero,List.set_cons_succ]);rfl)):zbQ P md ops Q m S (fuel+1) listed a w:=
 zkL 9 hi gx ag aA hs hf hr hQ hy hS (ha▸h)
theorem OnM{P:Program}{ops:Array Oper}{Q:Exit->Act->World->Prop}{md:Region.Mode}{m:Nat}{S:Bool->World->Prop}(i:Nat)(b:Bool){o:Oper}{fuel:Nat}{listed:Array Bool}{a:Act}{w:World}(h:∀K':Act->World->Prop,Shut (∀a w,S b w->(S b w->zbQ P md ops Q m S fuel (listed.setIfInBounds i true) a w)->K' a w)->if Region.wanted o (yielded ops a.tmps)=true then Oper.wp P o a w K' Q else K' (a.put o.dst undef) w)
 (hr:Region.ready md ops listed=[i]:=by kernel_rfl)(ho:ops[i]?=some o:=by exact List.getElem?_toArray.trans rfl)(hb:(listed.setIfInBounds i true).getD m false=b:=by kernel_rfl):zbQ P md ops Q m S (fuel+1) listed a w:=zgh (rs:=[i]) hr MbF (AllReadyM.cons ho b hb h AllReadyM.nil)
theorem FrM{P:Program}{ops:Array Oper}{Q:Exit->Act->World->Prop}{md:Region.Mode}{m:Nat}{S:Bool->World->Prop}(i:Nat)(b:Bool){oi:Oper}{v:Value}{fuel:Nat}{listed:Array Bool}{a a':Act}{w:World}(h:zbQ P md ops Q m S fuel (listed.setIfInBounds i true) a' w)(hb:listed.getD m false=b:=by kernel_rfl)(hi:ops[i]?=some oi:=by exact List.getElem?_toArray.trans rfl)(gx:i≠m:=by decide)
 (hs:Region.noSelect ops=true:=by kernel_rfl)(hf:Region.free md ops listed i=true:=by kernel_rfl)(hr:(Region.ready md ops listed).contains i=true:=by kernel_rfl)
 (hQ:∀c a w,Q (.panic c) (a.put oi.dst v) w->Q (.panic c) a w:=by exact fun _ _ _ h=>h)(hy:YieldsIf P ops (fun _=>True) oi v a:=by(refine Or.inl ⟨by rfl,?_⟩;intro w nI;go_simp;first|done|with_reducible rfl))(hS:S b w:=by first|assumption|trivial)
 (ha:a.put oi.dst v=a':=by((try simp only[Act.put,List.setIfInBounds_toArray,List.set_cons_zero,List.set_cons_succ]);rfl)):zbQ P md ops Q m S (fuel+1) listed a w:=
 zkM b hb hi gx hs hf hr hQ hy hS (ha▸h)
theorem TwM{P:Program}{ops:Array Oper}{Q:Exit->Act->World->Prop}{md:Region.Mode}{m:Nat}{S:Bool->World->Prop}(i j:Nat){o p:Oper}{fuel:Nat}{listed:Array Bool}{a:Act}{w:World}(h:∀K':Act->World->Prop,Shut (∀a w,S false w->(S false w->zbQ P md ops Q m S fuel (listed.setIfInBounds i true) a w)->K' a w)->if Region.wanted o (yielded ops a.tmps)=true then Oper.wp P o a w K' Q else K' (a.put o.dst undef) w)(k:∀K':Act->World->Prop,Shut (∀a w,S false w->(S false w->zbQ P md ops Q m S fuel (listed.setIfInBounds j true) a w)->K' a w)->if Region.wanted p (yielded ops a.tmps)=true then Oper.wp P p a w K' Q else K' (a.put p.dst undef) w)
 (hr:Region.ready md ops listed=[i,j]:=by kernel_rfl)(ho:ops[i]?=some o:=by exact List.getElem?_toArray.trans rfl)(hp:ops[j]?=some p:=by exact List.getElem?_toArray.trans rfl)(hb:(listed.setIfInBounds i true).getD m false=false:=by kernel_rfl)(hc:(listed.setIfInBounds j true).getD m false=false:=by kernel_rfl):zbQ P md ops Q m S (fuel+1) listed a w:=zgh (rs:=[i,j]) hr MbF (AllReadyM.cons ho false hb h (AllReadyM.cons hp false hc k AllReadyM.nil))
end
open Go.RowKit Go.Shelf
def Rec.v(r:Rec):Value:=.agg #[.int .i64 r.kind,.string r.name,.string r.other,.string r.place,.int .i64 r.day,.int .i64 r.til,.int .i64 r.num,.int .i64 r.den]
def recO(r:Rec):Obj:=.cells #[.int .i64 r.kind,.string r.name,.string r.other,.string r.place,.int .i64 r.day,.int .i64 r.til,.int .i64 r.num,.int .i64 r.den] 123
theorem zkN(x y:Rec)(w:World)(hx:0<=x.kind/\x.kind<=4)(hy:0<=y.kind/\y.kind<=4):Calls Tryz.prog 170 #[x.v,y.v] w (Ret w (.bool (zbq x y))):=by
 obtain⟨lo,hi,iy⟩:∃lo hi,(lo,hi)=if y.kind<x.kind then(y,x)else(x,y):=⟨_,_,rfl⟩
 have hr:zbq x y=zfa lo hi:=by
  unfold zbq;by_cases h:y.kind<x.kind
  ·rw[if_pos h]at iy;cases iy;rw[if_pos McB]
  ·rw[if_neg h]at iy;cases iy;rw[if_neg McB]
 have bR:0<=lo.kind/\lo.kind<=4/\0<=hi.kind/\hi.kind<=4:=by
  split at iy<;>cases iy<;>omega
 rw[hr];obtain⟨R,hR⟩:∃R,R=zfa lo hi:=⟨_,rfl⟩
 rw[<-hR];have HR:=zHi hR;clear hR;unfold Rec.v;go_enter Tryz.func170,Tryz.ntmps170
 go_upto_if 10 with fail
 go_cut [11,12]from 13 (fun _ _ W=>W.heap[w.heap.size]?=some (recO lo)/\W.heap[w.heap.size+1]?=some (recO hi)/\Below w.heap.size w W)
 case first=>
  by_cases h:y.kind<x.kind
  ·rw[if_pos h]at iy;cases iy;exact MaX
  ·rw[if_neg h]at iy;cases iy;exact MaX
 case rest=>
  obtain⟨g0,g1,hB⟩:=hcut;clear iy hr hx hy;obtain⟨lk,ln,lo2,lp,ld,lt,lu,lv⟩:=lo;obtain⟨hk,hn,nV,hp,hd,ht,hu,hv⟩:=hi;simp only at bR;unfold recO at g0 g1;obtain⟨a0,a1,-,a3,a4,a5,a6,a7⟩:=cF8 g0;obtain⟨b0,b1,-,b3,b4,b5,b6,b7⟩:=cF8 g1;have HB:=zHi hB;clear hB g0 g1;have hR:=HR.o;unfold zfa at hR;simp only at hR;clear HR;have Cw:lk=0\/lk=1\/lk=2\/lk=3\/lk=4:=MbC;have Ch:hk=0\/hk=1\/hk=2\/hk=3\/hk=4:=MbC;clear bR;rcases Cw with rfl|rfl|rfl|rfl|rfl<;>rcases Ch with rfl|rfl|rfl|rfl|rfl
  ·exact Mbj
  ·cases hs:(ln.toList==hn.toList)
   ·exact Mbk
   ·by_cases h:hd<ld
    ·exact Mbo
    ·exact Mbk
  ·exact Mbj
  ·exact Mbj
  ·exact Mbj
  ·exact Mbj
  ·cases hs:(ln.toList==hn.toList)
   ·exact Mbk
   ·by_cases h:ld=hd
    ·exact Mbk
    ·exact Mbo
  ·exact Mbj
  ·cases hs:(ln.toList==hn.toList)
   ·exact Mbk
   ·by_cases h:ld<hd
    ·exact Mbo
    ·exact Mbk
  ·cases hs:(ln.toList==hn.toList)
   ·exact Mbk
   ·by_cases h:ld<hd
    ·exact Mbo
    ·exact Mbk
  ·exact Mbj
  ·exact Mbj
  ·exact Mbj
  ·exact Mbj
  ·exact Mbj
  ·exact Mbj
  ·exact Mbj
  ·exact Mbj
  ·cases hs:(ln.toList==hn.toList)
   ·exact Mbk
   ·cases hq:(lp.toList==hp.toList)
    ·exact Mbk
    ·by_cases h:ld=hd
     ·by_cases h2:lu=hu
      ·by_cases h3:lv=hv
       ·exact Mbk
       ·exact Mbo
      ·exact Mbo
     ·exact Mbk
  ·exact Mbj
  ·exact Mbj
  ·exact Mbj
  ·exact Mbj
  ·exact Mbj
  ·cases hs:(ln.toList==hn.toList)
   ·cases hq:(lp.toList==hp.toList)
    ·exact Mbk
    ·by_cases h:max ld hd<min lt ht
     ·exact Mbo
     ·exact Mbk
   ·exact Mbk
