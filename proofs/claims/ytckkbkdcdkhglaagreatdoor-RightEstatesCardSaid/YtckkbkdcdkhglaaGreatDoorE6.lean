/- Plain: what a death does to the rights, as the program reckons it. -/
import Derived.Test.YtckkbkdcdkhglaaGreatDoorJO
import Derived.Test.YtckkbkdcdkhglaaGreatDoorO7
set_option linter.unusedSimpArgs false
set_option linter.unusedVariables false
set_option maxRecDepth 100000
set_option maxHeartbeats 4000000
namespace Go.Proofs.YtckkbkdcdkhglaaGreatDoor
open Go.RowKit Go.Shelf
section
variable {base k:Nat} {W W':World} {B:List Nat} {es:Array MapEntry} {ec:Nat}
theorem TombAt.keptM {T:Nat} {g:Grave} (h:TombAt W base B T g) (hg:W.grownBy W' (some k)) (hx:W.heap[k]?=some (.map es ec)):TombAt W' base B T g:=by
 obtain⟨H,hc,D,dc,fr',t1,t2,t3,t4,t5,t6,t7⟩:=h;exact⟨H,hc,D,dc,fr',(hg.block T (zab t1) (fun e=>by simp only[Option.some.injEq]at e;subst e;unfold zbv at t1;rw[t1]at hx;simp at hx)).trans t1,t2,t3,t4,t5.keptM hg hx,t6.keptM hg hx,t7⟩
theorem TombsAt.keptM {ps:List Nat} {tv:Value} {gs:List Grave} (h:TombsAt base W B tv ps gs) (hg:W.grownBy W' (some k)) (hx:W.heap[k]?=some (.map es ec)):TombsAt base W' B tv ps gs:=
 ⟨h.own.keptM hg hx,h.len,h.nd,fun i T g e1 e2=>(h.all i T g e1 e2).keptM hg hx⟩
theorem WldC.keptM {b d c p wl r:Nat} {mv tv:Value} {la co:Int} (h:WldC W b d c p wl r mv tv la co) (hg:W.grownBy W' (some k)) (hx:W.heap[k]?=some (.map es ec)):WldC W' b d c p wl r mv tv la co:=
 (hg.block b (zab h) (fun e=>by simp only[Option.some.injEq]at e;subst e;unfold WldC at h;rw[h]at hx;simp at hx)).trans h
theorem RowIs.keptM {m:List (ByteArray×Value)} {n:ByteArray} {xs:List ByteArray} (h:RowIs W base m n xs) (hg:W.grownBy W' (some k)) (hx:W.heap[k]?=some (.map es ec)):RowIs W' base m n xs:=by
 rcases h with h|⟨v,h1,h2⟩
 ·exact .inl h
 ·exact .inr ⟨v,h1,h2.keptM hg hx⟩
theorem WillIs.keptM {m:List (ByteArray×Value)} {n:ByteArray} {xs:Parts} (h:WillIs W m n xs) (hg:W.grownBy W' (some k)) (hx:W.heap[k]?=some (.map es ec)):WillIs W' m n xs:=by
 rcases h with h|⟨A,c,h1,h2⟩
 ·exact .inl h
 ·exact .inr ⟨A,c,h1,h2.keptM hg hx⟩
theorem RowIs.kept {m:List (ByteArray×Value)} {n:ByteArray} {xs:List ByteArray} {cs:Array Value} {t:TypeId} {fr:Nat×Nat} (h:RowIs W base m n xs) (hg:W.grownBy W' (some k)) (hx:W.heap[k]?=some (.cells cs t fr)) (ht:t≠9):RowIs W' base m n xs:=by
 rcases h with h|⟨v,h1,h2⟩
 ·exact .inl h
 ·exact .inr ⟨v,h1,h2.kept hg hx ht⟩
theorem WillIs.kept {m:List (ByteArray×Value)} {n:ByteArray} {xs:Parts} {cs:Array Value} {t:TypeId} {fr:Nat×Nat} (h:WillIs W m n xs) (hg:W.grownBy W' (some k)) (hx:W.heap[k]?=some (.cells cs t fr)) (ht:t≠63):WillIs W' m n xs:=by
 rcases h with h|⟨A,c,h1,h2⟩
 ·exact .inl h
 ·exact .inr ⟨A,c,h1,h2.kept hg hx ht⟩
theorem zbx {b:Nat} {K V:Type} {ek:K->Value} {ev:V->Value} {m:List (K×V)} (h:MapS W b ek ev m): ∃es c,W.heap[b]?=some (.map es c):=by
 obtain⟨es,c,h1,_⟩:=h;exact⟨es,c,h1⟩
variable {d c p wl r:Nat} {mv tv:Value} {s:St}
theorem ppl_will (h:PplAt base W B d c p wl r mv s) (hg:W.grownBy W' (some wl)) {ws:List (ByteArray×Parts)} {m':List (ByteArray×Value)} (h1:MapS W' wl ekS (fun v:Value=>v) m') (h2: ∀n,WillIs W' m' n (zbu {s with wills:=ws} n)):PplAt base W' B d c p wl r mv {s with wills:=ws}:=by
 obtain⟨mc,mp,k1,k2,k3,k4,k5,k6⟩:=h.rows;obtain⟨m,k7,k8⟩:=h.wills;obtain⟨es,ec,hx⟩:=zbx k7;have cM:=h.nd;simp only[List.nodup_cons,List.mem_cons,List.not_mem_nil,or_false,not_or]at cM;obtain⟨⟨n1,n2,n3,n4⟩,⟨n5,n6,n7⟩,⟨n8,n9⟩,n10,_⟩:=cM;refine⟨h.nd,h.ge,h.dead.grown hg (by simpa using n3),⟨mc,mp,k1.grown hg (by simpa using n6),k2.grown hg (by simpa using n8),fun n=>(k3 n).keptM hg hx,fun n=>(k4 n).keptM hg hx,k5,k6⟩,h.marr.keptM hg hx,⟨m',h1,h2⟩,h.ren.grown hg (by simpa using fun e=>n10 e.symm)⟩
theorem ppl_ren (h:PplAt base W B d c p wl r mv s) (hg:W.grownBy W' (some r)) {rs:List (ByteArray×ByteArray)} (h1:MapS W' r ekP evB (rs.map fun x=>(x,true))):PplAt base W' B d c p wl r mv {s with renounce:=rs}:=by
 obtain⟨mc,mp,k1,k2,k3,k4,k5,k6⟩:=h.rows;obtain⟨m,k7,k8⟩:=h.wills;obtain⟨es,ec,hx⟩:=zbx h.ren;have cM:=h.nd;simp only[List.nodup_cons,List.mem_cons,List.not_mem_nil,or_false,not_or]at cM;obtain⟨⟨n1,n2,n3,n4⟩,⟨n5,n6,n7⟩,⟨n8,n9⟩,n10,_⟩:=cM;refine⟨h.nd,h.ge,h.dead.grown hg (by simpa using n4),⟨mc,mp,k1.grown hg (by simpa using n7),k2.grown hg (by simpa using n9),fun n=>(k3 n).keptM hg hx,fun n=>(k4 n).keptM hg hx,k5,k6⟩,h.marr.keptM hg hx,⟨m,k7.grown hg (by simpa using n10),fun n=>(k8 n).keptM hg hx⟩,h1⟩
theorem ppl_dead (h:PplAt base W B d c p wl r mv s) (hg:W.grownBy W' (some d)) {ds:List ByteArray} {gs:List Grave} (h1:MapS W' d ekS evB (ds.map fun n=>(n,true))):PplAt base W' B d c p wl r mv {s with dead:=ds,graves:=gs}:=by
 obtain⟨mc,mp,k1,k2,k3,k4,k5,k6⟩:=h.rows;obtain⟨m,k7,k8⟩:=h.wills;obtain⟨es,ec,hx⟩:=zbx h.dead;have cM:=h.nd;simp only[List.nodup_cons,List.mem_cons,List.not_mem_nil,or_false,not_or]at cM;obtain⟨⟨n1,n2,n3,n4⟩,⟨n5,n6,n7⟩,⟨n8,n9⟩,n10,_⟩:=cM;refine⟨h.nd,h.ge,h1,⟨mc,mp,k1.grown hg (by simpa using fun e=>n1 e.symm),k2.grown hg (by simpa using fun e=>n2 e.symm),fun n=>(k3 n).keptM hg hx,fun n=>(k4 n).keptM hg hx,k5,k6⟩,h.marr.keptM hg hx,⟨m,k7.grown hg (by simpa using fun e=>n3 e.symm),fun n=>(k8 n).keptM hg hx⟩,h.ren.grown hg (by simpa using fun e=>n4 e.symm)⟩
end
theorem zk7 {K V:Type} {eq:K->K->Bool} {k:K} {v:V}: ∀ {m:List (K×V)},mget eq k m=none->mput eq k v m=m++[(k,v)]
 | [],_=>rfl
 |x::m,h=>by
  rw[mget]at h;rw[mput];cases hk:eq k x.1
  ·rw[hk]at h;simp only[Bool.false_eq_true,if_false]at h;rw[if_neg Mco,zk7 h];rfl
  ·rw[hk]at h;simp at h
theorem ziG {K:Type} {eq:K->K->Bool} {k:K}: ∀ {l:List K},(mget eq k (l.map fun x=>(x,true))).getD false=false->mget eq k (l.map fun x=>(x,true))=none
 | [],_=>rfl
 |x::l,h=>by
  rw[List.map_cons,mget]at h⊢;cases hk:eq k x
  ·rw[hk]at h;simp only[Bool.false_eq_true,if_false]at h;rw[if_neg Mco];exact ziG h
  ·rw[hk]at h;simp at h
theorem rat_cells {l:List RPart} (h: ∀p∈l,za6 16 p.num p.den=true) {W:World} {A:Option Addr} (hS:Sl W 3 RPart.cells A l):Sl W 3 zaa A (zao l):=fun hl=>by
 unfold zao at hl;rw[List.length_map]at hl;obtain⟨b,off,hA,hb,hc⟩:=hS hl;refine⟨b,off,hA,hb,fun k x hk j u hu=> ?_⟩;unfold zao at hk;rw[List.getElem?_map]at hk;cases hp:l[k]? with
 |none=>rw[hp]at hk;cases hk
 |some y=>
  rw[hp]at hk;simp only[Option.map_some,Option.some.injEq]at hk;subst hk;have hy:=zi2 (h y (List.mem_of_getElem? hp));refine hc k y hp j u ?_;unfold zaa at hu;rw[hy.1,hy.2]at hu;exact hu
theorem zmP {base b k:Nat} {W W':World} {B ps:List Nat} {d c p wl r:Nat} {mv tv:Value} {s':St} {gs:List Grave} {la co:Int} {es:Array MapEntry} {ec:Nat} (hb:base<=b) (hC:WldC W b d c p wl r mv tv la co) (hT:TombsAt base W B tv ps gs) (hg:W.grownBy W' (some k)) (hx:W.heap[k]?=some (.map es ec))
 (dt:s'.graves=gs) (hP:PplAt base W' B d c p wl r mv s'):WldAt base W' b s' la co:=
 ⟨B,d,c,p,wl,r,mv,tv,ps,hb,hC.keptM hg hx,hP,by rw[dt];exact hT.keptM hg hx⟩
theorem wldC_set3 {W:World} {b d c p wl r:Nat} {mv tv:Value} {la co:Int} (h:WldC W b d c p wl r mv tv la co) (v':Value):WldC (W.setCell ⟨b,3,none⟩ v') b d c p wl r v' tv la co:=by
 unfold WldC at*;have:=Joins.block_setCell (i:=3) h v';simpa using this
theorem wld_marry {base b:Nat} {W w1:World} {B ps:List Nat} {d c p wl r:Nat} {mv tv v':Value} {s:St} {ms:List (ByteArray×ByteArray)} {la co:Int} (hb:base<=b) (hC:WldC W b d c p wl r mv tv la co) (hP:PplAt base W B d c p wl r mv s) (hT:TombsAt base W B tv ps s.graves)
 (h1:OwnS w1 base 136 2 zaT v' ms) (h2:W.grownBy w1 (za7 mv)):WldAt base (w1.setCell ⟨b,3,none⟩ v') b {s with marriages:=ms} la co/\WldC w1 b d c p wl r mv tv la co:=by
 have dH:=zab hC;have ae:=hP.marr;have bm: ∀k,za7 mv=some k-> ∃cs fr,W.heap[k]?=some (.cells cs 136 fr):=fun k hk=>by
  exact Ma7
 have jo:za7 mv≠some b:=fun e=>by
  obtain⟨cs,fr,hx⟩:=bm b e;exact MbN
 have cJ:WldC w1 b d c p wl r mv tv la co:=(h2.block b dH (fun e=>jo e.symm)).trans hC;obtain⟨mc,mp,k1,k2,k3,k4,k5,k6⟩:=hP.rows;obtain⟨m,k7,k8⟩:=hP.wills;have aM:=zau w1 b 3 v';refine⟨⟨B,d,c,p,wl,r,v',tv,ps,hb,wldC_set3 cJ v',?_,?_⟩,cJ⟩
 ·cases hk:za7 mv with
  |none=>
   rw[hk]at h2;have gV:Below W.heap.size W w1:=⟨h2.os,h2.tape,h2.output,h2.size,fun i hi=>h2.block i hi Mco⟩
   exact⟨hP.nd,hP.ge,(hP.dead.below gV).keptC aM cJ,⟨mc,mp,(k1.below gV).keptC aM cJ,(k2.below gV).keptC aM cJ,fun n=>((k3 n).keep gV).kept aM cJ Mcn,fun n=>((k4 n).keep gV).kept aM cJ Mcn,k5,k6⟩,h1.kept aM cJ Mcn,⟨m,(k7.below gV).keptC aM cJ,fun n=>((k8 n).keep gV).kept aM cJ Mcn⟩,(hP.ren.below gV).keptC aM cJ⟩
  |some k=>
   obtain⟨cs,fr,hx⟩:=bm k hk;rw[hk]at h2;exact⟨hP.nd,hP.ge,(hP.dead.keptC h2 hx).keptC aM cJ,⟨mc,mp,(k1.keptC h2 hx).keptC aM cJ,(k2.keptC h2 hx).keptC aM cJ,fun n=>((k3 n).kept h2 hx Mcn).kept aM cJ Mcn,fun n=>((k4 n).kept h2 hx Mcn).kept aM cJ Mcn,k5,k6⟩,h1.kept aM cJ Mcn,⟨m,(k7.keptC h2 hx).keptC aM cJ,fun n=>((k8 n).kept h2 hx Mcn).kept aM cJ Mcn⟩,(hP.ren.keptC h2 hx).keptC aM cJ⟩
 ·cases hk:za7 mv with
  |none=>
   rw[hk]at h2;have gV:Below W.heap.size W w1:=⟨h2.os,h2.tape,h2.output,h2.size,fun i hi=>h2.block i hi Mco⟩
   exact(hT.keep gV).kept aM cJ Mcn Mcn Mcn Mcn
  |some k=>
   obtain⟨cs,fr,hx⟩:=bm k hk;rw[hk]at h2;exact(hT.kept h2 hx Mcn Mcn Mcn Mcn).kept aM cJ Mcn Mcn Mcn Mcn
theorem zdc {m:List (ByteArray×Value)} {g:Nat}:g∈zaX m↔ ∃e∈m,za7 e.2=some g:=by
 unfold zaX;rw[List.mem_filterMap]
theorem zc1 (e:ByteArray×Value) (m:List (ByteArray×Value)):zaX (e::m)=(za7 e.2).toList++zaX m:=by
 unfold zaX;rw[List.filterMap_cons];cases h:za7 e.2<;>simp
theorem zc2 (m l:List (ByteArray×Value)):zaX (m++l)=zaX m++zaX l:=by
 unfold zaX;exact List.filterMap_append
theorem zk8 {k:ByteArray} {v:Value}: ∀ {m:List (ByteArray×Value)},(zaX m).Nodup->(∀g,za7 v=some g->(∃v0,mget eqS k m=some v0/\za7 v0=some g)\/g∉zaX m)->
 (zaX (mput eqS k v m)).Nodup/\ ∀g∈zaX (mput eqS k v m),g∈zaX m\/za7 v=some g
 | [],_,_=>by
   rw[mput,zc1];have e:zaX []=[]:=rfl;rw[e];cases h:za7 v<;>simp
 |x::m,hn,hv=>by
  rw[zc1,List.nodup_append]at hn;obtain⟨n1,n2,n3⟩:=hn;rw[mput];cases hk:eqS k x.1
  ·rw[if_neg Mco];have jC: ∀g,za7 v=some g->(∃v0,mget eqS k m=some v0/\za7 v0=some g)\/g∉zaX m:=fun g hg=>by
    rcases hv g hg with⟨v0,h1,h2⟩|h
    ·rw[mget,hk]at h1;exact .inl ⟨v0,by simpa using h1,h2⟩
    ·exact .inr fun h'=>h (by rw[zc1];exact List.mem_append_right _ h')
   obtain⟨i1,i2⟩:=zk8 n2 jC;rw[zc1,List.nodup_append];refine⟨⟨n1,i1,fun a ha b hb e=> ?_⟩,fun g hg=> ?_⟩
   ·subst e;rcases i2 _ hb with h|h
    ·exact n3 a ha a h rfl
    ·rcases hv a h with⟨v0,h1,h2⟩|h'
     ·rw[mget,hk]at h1;have pg:mget eqS k m=some v0:=McR;exact n3 a ha a (zdc.2 ⟨_,zda pg,h2⟩) rfl
     ·exact h' (by rw[zc1];exact List.mem_append_left _ ha)
   ·rw[List.mem_append]at hg;rcases hg with hg|hg
    ·exact .inl (by rw[zc1];exact List.mem_append_left _ hg)
    ·rcases i2 g hg with h|h
     ·exact .inl (by rw[zc1];exact List.mem_append_right _ h)
     ·exact .inr h
  ·rw[if_pos rfl,zc1,List.nodup_append];have hx:mget eqS k (x::m)=some x.2:=by rw[mget,hk];rfl
   refine⟨⟨by cases h:za7 v<;>simp,n2,fun a ha b hb e=> ?_⟩,fun g hg=> ?_⟩
   ·subst e;have kT:za7 v=some a:=by
     cases h:za7 v with
     |none=>simp[h]at ha
     |some y=>simp[h]at ha;rw[ha]
    rcases hv a kT with⟨v0,h1,h2⟩|h'
    ·rw[hx]at h1;simp only[Option.some.injEq]at h1;subst h1;exact n3 a (by rw[h2];simp) a hb rfl
    ·exact h' (by rw[zc1];exact List.mem_append_right _ hb)
   ·rw[List.mem_append]at hg;rcases hg with hg|hg
    ·cases h:za7 v with
     |none=>simp[h]at hg
     |some y=>simp[h]at hg;exact .inr (by rw[hg])
    ·exact .inl (by rw[zc1];exact List.mem_append_right _ hg)
theorem zhe {k n:ByteArray} {v v0:Value} {g:Nat} (ai:zae n k=false): ∀ {m:List (ByteArray×Value)},(zaX m).Nodup->mget eqS n m=some v->mget eqS k m=some v0->za7 v=some g->za7 v0≠some g
 | [],_,h,_,_=>by cases h
 |x::m,hn,h1,h2,h3=>fun h4=>by
  rw[zc1,List.nodup_append]at hn;obtain⟨n1,n2,n3⟩:=hn;rw[mget]at h1 h2;cases ha:eqS n x.1
  ·rw[ha]at h1;simp only[Bool.false_eq_true,if_false]at h1;cases hb:eqS k x.1
   ·rw[hb]at h2;simp only[Bool.false_eq_true,if_false]at h2;exact zhe ai n2 h1 h2 h3 h4
   ·rw[hb]at h2;simp only[if_true,Option.some.injEq]at h2;subst h2;exact n3 g (by rw[h4];simp) g (zdc.2 ⟨_,zda h1,h3⟩) rfl
  ·rw[ha]at h1;simp only[if_true,Option.some.injEq]at h1;subst h1;cases hb:eqS k x.1
   ·rw[hb]at h2;simp only[Bool.false_eq_true,if_false]at h2;exact n3 g (by rw[h3];simp) g (zdc.2 ⟨_,zda h2,h4⟩) rfl
   ·have e1:n=x.1:=zat.1 ha;have e2:k=x.1:=zat.1 hb;rw[e1,e2,zbW]at ai;cases ai
theorem kids_push (s:St) (f t n:ByteArray):zai {s with children:=s.children++[(f,t)]} n=zai s n++if zae f n then[t]else[]:=by
 unfold zai;simp only[List.filter_append,List.map_append,List.filter_cons,List.filter_nil];cases zae f n<;>simp
theorem pars_push (s:St) (f t n:ByteArray):zbQ {s with children:=s.children++[(f,t)]} n=zbQ s n++if zae t n then[f]else[]:=by
 unfold zbQ;simp only[List.filter_append,List.map_append,List.filter_cons,List.filter_nil];cases zae t n<;>simp
theorem row_own {W:World} {base:Nat} {m:List (ByteArray×Value)} {n:ByteArray} {xs:List ByteArray} (h:RowIs W base m n xs): ∃A c,(mget eqS n m).getD (.slice none 0 0)= .slice A xs.length c/\OwnS W base 9 1 sC (.slice A xs.length c) xs/\(∀g,za7 (.slice A xs.length c)=some g->mget eqS n m=some (.slice A xs.length c)):=by
 rcases h with⟨h1,rfl⟩|⟨v,h1,h2⟩
 ·exact⟨none,0,by rw[h1];rfl,OwnS.nil,fun g hg=>by cases hg⟩
 ·obtain⟨A,c,rfl,_,_⟩:=h2.sl zaB;exact⟨A,c,by rw[h1];rfl,h2,fun _ _=>h1⟩
theorem zhP (a b:ByteArray):zae a b=zae b a:=by rw[Bool.eq_iff_iff,zat,zat];exact⟨Eq.symm,Eq.symm⟩
theorem OwnS.same {α:Type} {W W':World} {base:Nat} {e:TypeId} {size:Nat} {f:α->List Value} {v:Value} {xs:List α} (h:OwnS W base e size f v xs) (hk: ∀g cur,za7 v=some g->W.heap[g]?=some (.cells cur e (0,0))->W'.heap[g]?=W.heap[g]?):OwnS W' base e size f v xs:=by
 rcases h with h|⟨g,o,cap,cur,rfl,hb,hh,rest⟩
 ·exact .inl h
 ·exact .inr ⟨g,o,cap,cur,rfl,hb,(hk g cur rfl hh).trans hh,rest⟩
theorem zfj {W:World} {base:Nat} {v:Value} {xs:List ByteArray} (h:OwnS W base 9 1 sC v xs) {g:Nat} (hg:za7 v=some g): ∃cur,W.heap[g]?=some (.cells cur 9 (0,0)):=by
 rcases h with⟨rfl,_⟩|⟨k,o,c,cur,rfl,_,hk,_⟩
 ·cases hg
 ·simp only[za7,Option.some.injEq]at hg;subst hg;exact⟨cur,hk⟩
theorem wld_child {base b:Nat} {W w9:World} {B ps:List Nat} {d c p wl r:Nat} {mv tv va vb v1 v2:Value} {s:St} {la co:Int} {mc mp:List (ByteArray×Value)} {fr tn:ByteArray} (hb:base<=b) (hC:WldC W b d c p wl r mv tv la co) (hP:PplAt base W B d c p wl r mv s) (hT:TombsAt base W B tv ps s.graves)
 (k1:MapS W c ekS (fun v:Value=>v) mc) (k2:MapS W p ekS (fun v:Value=>v) mp) (k3: ∀n,RowIs W base mc n (zai s n)) (k4: ∀n,RowIs W base mp n (zbQ s n)) (k5:B=zaX (mc++mp)) (k6:B.Nodup/\(mc.map (·.1)).Nodup/\(mp.map (·.1)).Nodup)
 (ha:OwnS W base 9 1 sC va (zai s fr)) (kT: ∀g,za7 va=some g->mget eqS fr mc=some va) (hv:OwnS W base 9 1 sC vb (zbQ s tn)) (jC: ∀g,za7 vb=some g->mget eqS tn mp=some vb)
 (o1:OwnS w9 base 9 1 sC v1 (zai s fr++[tn])) (o2:OwnS w9 base 9 1 sC v2 (zbQ s tn++[fr])) (b1: ∀g,za7 v1=some g->za7 va=some g\/W.heap.size<=g) (b2: ∀g,za7 v2=some g->za7 vb=some g\/W.heap.size<=g) (b12: ∀g,za7 v1=some g->za7 v2≠some g)
 (m1:MapS w9 c ekS (fun v:Value=>v) (mput eqS fr v1 mc)) (m2:MapS w9 p ekS (fun v:Value=>v) (mput eqS tn v2 mp)) (hF: ∀k,k<W.heap.size->k≠c->k≠p->za7 va≠some k->za7 vb≠some k->w9.heap[k]?=W.heap[k]?):WldAt base w9 b {s with children:=s.children++[(fr,tn)]} la co:=by
 have cM:=hP.nd;simp only[List.nodup_cons,List.mem_cons,List.not_mem_nil,or_false,not_or]at cM;obtain⟨⟨n1,n2,n3,n4⟩,⟨n5,n6,n7⟩,⟨n8,n9⟩,n10,_⟩:=cM;obtain⟨ec,cc,hc⟩:=zbx k1;obtain⟨ep,cp,hp⟩:=zbx k2;have bk: ∀ {k:Nat} {cur:Array Value} {t:TypeId} {f:Nat×Nat},W.heap[k]?=some (.cells cur t f)->t≠9->w9.heap[k]?=W.heap[k]?:=fun {k cur t f} hk ht=>by
  refine hF k (Array.getElem?_eq_some_iff.1 hk).1 (fun e=> ?_) (fun e=> ?_) (fun e=> ?_) (fun e=> ?_)
  ·subst e;rw[hc]at hk;simp at hk
  ·subst e;rw[hp]at hk;simp at hk
  ·obtain⟨cur',h'⟩:=zfj ha e;exact Mbz
  ·obtain⟨cur',h'⟩:=zfj hv e;exact Mbz
 have sn: ∀ {k:Nat} {es:Array MapEntry} {x:Nat},W.heap[k]?=some (.map es x)->k≠c->k≠p->w9.heap[k]?=W.heap[k]?:=fun {k es x} hk h1 h2=>by
  refine hF k (Array.getElem?_eq_some_iff.1 hk).1 h1 h2 (fun e=> ?_) (fun e=> ?_)
  ·obtain⟨cur',h'⟩:=zfj ha e;rw[h']at hk;simp at hk
  ·obtain⟨cur',h'⟩:=zfj hv e;rw[h']at hk;simp at hk
 have nM: ∀g,za7 va=some g->g∈zaX mc:=fun g hg=>zdc.2 ⟨_,zda (kT g hg),hg⟩
 have dF: ∀g,za7 vb=some g->g∈zaX mp:=fun g hg=>zdc.2 ⟨_,zda (jC g hg),hg⟩
 obtain⟨k6,kn1,kn2⟩:=k6;rw[k5,zc2,List.nodup_append]at k6;obtain⟨q1,q2,q3⟩:=k6;have ku: ∀ {m:List (ByteArray×Value)} {n:ByteArray} {v:Value} {xs:List ByteArray},mget eqS n m=some v->OwnS W base 9 1 sC v xs->(∀g,za7 v=some g->za7 va≠some g/\za7 vb≠some g)->OwnS w9 base 9 1 sC v xs:=fun {m n v xs} hm ho ai=>
  ho.same fun g cur hg hh=>hF g (Array.getElem?_eq_some_iff.1 hh).1 (fun e=>by subst e;rw[hc]at hh;simp at hh) (fun e=>by subst e;rw[hp]at hh;simp at hh) (ai g hg).1 (ai g hg).2
 have oA: ∀g,W.heap.size<=g->g∉zaX mc/\g∉zaX mp:=fun g hg=>by
  have key: ∀ {m:List (ByteArray×Value)} {f:ByteArray->List ByteArray},(m.map (·.1)).Nodup->(∀n,RowIs W base m n (f n))->g∉zaX m:=fun {m f} hk hr h=>by
   obtain⟨e,he,fF⟩:=zdc.1 h;have h1:=zhM hk (show(e.1,e.2)∈m from he);rcases hr e.1 with⟨h2,_⟩|⟨v,h2,h3⟩
   ·rw[h2]at h1;cases h1
   ·rw[h2]at h1;simp only[Option.some.injEq]at h1;rw[h1]at h3;have:=(h3.ge g fF).2;omega
  exact⟨key kn1 k3,key kn2 k4⟩
 have R1:=zk8 (k:=fr) (v:=v1) q1 (fun g hg=>by
  rcases b1 g hg with h|h
  ·exact .inl ⟨va,kT g h,h⟩
  ·exact .inr (oA g h).1)
 have R2:=zk8 (k:=tn) (v:=v2) q2 (fun g hg=>by
  rcases b2 g hg with h|h
  ·exact .inl ⟨vb,jC g h,h⟩
  ·exact .inr (oA g h).2)
 have fD: ∀g∈zaX (mput eqS fr v1 mc++mput eqS tn v2 mp),g∈B\/W.heap.size<=g:=fun g hg=>by
  rw[zc2,List.mem_append]at hg;rw[k5,zc2];rcases hg with hg|hg
  ·rcases R1.2 g hg with h|h
   ·exact .inl (List.mem_append_left _ h)
   ·rcases b1 g h with h|h
    ·exact .inl (List.mem_append_left _ (nM g h))
    ·exact .inr h
  ·rcases R2.2 g hg with h|h
   ·exact .inl (List.mem_append_right _ h)
   ·rcases b2 g h with h|h
    ·exact .inl (List.mem_append_right _ (dF g h))
    ·exact .inr h
 obtain⟨m,k7,k8⟩:=hP.wills;refine⟨_,d,c,p,wl,r,mv,tv,ps,hb,?_,⟨hP.nd,hP.ge,?_,⟨_,_,m1,m2,fun n=> ?_,fun n=> ?_,rfl,?_⟩,?_,⟨m,?_,fun n=> ?_⟩,?_⟩,⟨?_,hT.len,hT.nd,fun i T g e1 e2=> ?_⟩⟩
 ·exact(bk hC Mcn).trans hC
 ·obtain⟨es,x,hx⟩:=zbx hP.dead;exact hP.dead.keep (sn hx n1 n2)
 ·rw[kids_push];unfold RowIs;rw[zfi];cases hn:zae n fr
  ·rw[zhP fr n,hn];simp only[Bool.false_eq_true,if_false,List.append_nil];rcases k3 n with h|⟨v,h1,h2⟩
   ·exact .inl h
   ·refine .inr ⟨v,h1,ku h1 h2 fun g hg=>⟨fun e=> ?_,fun e=> ?_⟩⟩
    ·exact zhe hn q1 h1 (kT g e) hg e
    ·exact q3 g (zdc.2 ⟨_,zda h1,hg⟩) g (dF g e) rfl
  ·rw[zhP fr n,hn];have e:n=fr:=zat.1 hn;subst e;exact .inr ⟨v1,rfl,o1⟩
 ·rw[pars_push];unfold RowIs;rw[zfi];cases hn:zae n tn
  ·rw[zhP tn n,hn];simp only[Bool.false_eq_true,if_false,List.append_nil];rcases k4 n with h|⟨v,h1,h2⟩
   ·exact .inl h
   ·refine .inr ⟨v,h1,ku h1 h2 fun g hg=>⟨fun e=> ?_,fun e=> ?_⟩⟩
    ·exact q3 g (nM g e) g (zdc.2 ⟨_,zda h1,hg⟩) rfl
    ·exact zhe hn q2 h1 (jC g e) hg e
  ·rw[zhP tn n,hn];have e:n=tn:=zat.1 hn;subst e;exact .inr ⟨v2,rfl,o2⟩
 ·refine⟨?_,(zgy _ _ _ kn1).1,(zgy _ _ _ kn2).1⟩;rw[zc2,List.nodup_append];refine⟨R1.1,R2.1,fun g hg g' eA e=> ?_⟩;subst e;rcases R1.2 g hg with h|h
  ·rcases R2.2 g eA with h'|h'
   ·exact q3 g h g h' rfl
   ·rcases b2 g h' with h'|h'
    ·exact q3 g h g (dF g h') rfl
    ·exact(oA g h').1 h
  ·rcases R2.2 g eA with h'|h'
   ·rcases b1 g h with h|h
    ·exact q3 g (nM g h) g h' rfl
    ·exact(oA g h).2 h'
   ·exact b12 g h h'
 ·exact hP.marr.same fun g cur _ hh=>bk hh Mcn
 ·obtain⟨es,x,hx⟩:=zbx k7;exact k7.keep (sn hx (fun e=>n6 e.symm) (fun e=>n8 e.symm))
 ·rcases k8 n with h|⟨A,x,h1,h2⟩
  ·exact .inl h
  ·exact .inr ⟨A,x,h1,h2.same fun g cur f hh _=>bk hh Mcn⟩
 ·obtain⟨es,x,hx⟩:=zbx hP.ren;exact hP.ren.keep (sn hx (fun e=>n7 e.symm) (fun e=>n9 e.symm))
 ·exact hT.own.same fun g cur _ hh=>bk hh Mcn
 ·obtain⟨H,hh,D,dc,f',t1,t2,t3,t4,t5,t6,t7⟩:=hT.all i T g e1 e2;refine⟨H,hh,D,dc,f',(bk t1 Mcn).trans t1,t2,t3,t4,t5.same fun g' cur f hx _=>bk hx Mcn,?_,fun hl a tF aN=> ?_⟩
  ·intro hl;obtain⟨g',off,cur,f,hA,hx,hy⟩:=t6 hl;have FV:=t7 hl ⟨g',off,none⟩ hA;refine⟨g',off,cur,f,hA,?_,hy⟩;rw[<-hx];refine hF g' (Array.getElem?_eq_some_iff.1 hx).1 (fun e=>by subst e;rw[hc]at hx;simp at hx) (fun e=>by subst e;rw[hp]at hx;simp at hx) (fun e=>FV ?_) (fun e=>FV ?_)
   ·rw[k5,zc2];exact List.mem_append_left _ (nM g' e)
   ·rw[k5,zc2];exact List.mem_append_right _ (dF g' e)
  ·obtain⟨g',off,cur,f,hA,hx,hy⟩:=t6 hl;rw[hA]at tF;simp only[Option.some.injEq]at tF;rcases fD _ aN with h|h
   ·exact t7 hl a (by rw[hA,tF]) h
   ·have:=(Array.getElem?_eq_some_iff.1 hx).1;rw[<-tF]at h;simp at h;omega
end Go.Proofs.YtckkbkdcdkhglaaGreatDoor
namespace Go.Proofs.YtckkbkdcdkhglaaGreatDoor
open Go.RowKit
def zc6 (n:ByteArray) (day:Int) (g:Grave):Bool:=zaU g day&&decide (0<(zaf g.holders n).num)
theorem zk9 {q:Rat}:0<q↔0<q.num:=by rw[Rat.lt_iff];simp
theorem held_same {s:St} {last day:Int} {n:ByteArray} {i:Nat} {g:Grave} (hG:GoodSt s last) (hl:last<=day) (hi:s.graves[i]?=some g):zdq s n day i g=zc6 n day g:=by
 have b9:=hG.graves g (List.mem_of_getElem? hi);have hn:=zb8 b9.good n;have h1:(zaf g.holders n != 0)=decide (0<(zaf g.holders n).num):=by
  rw[Bool.eq_iff_iff,bne_iff_ne,decide_eq_true_eq,<-zk9];constructor
  ·intro h;exact Rat.lt_of_le_of_ne hn (fun e=>h e.symm)
  ·intro h e;rw[e]at h;exact absurd h Mcn
 have h2:(zaJ s g.place day==some i)=zaU g day:=by
  cases hf:zaU g day
  ·cases hx:zaJ s g.place day with
   |none=>rfl
   |some j=>
    obtain⟨gj,h3,h4,h5⟩:=zbI hx;cases cq:(some j==some i)
    ·rfl
    ·have e:j=i:=by simpa using cq
     subst e;rw[h3]at hi;simp only[Option.some.injEq]at hi;rw[hi,hf]at h5;cases h5
  ·cases hx:zaJ s g.place day with
   |none=>
    have:=zhn hx g (List.mem_of_getElem? hi) rfl;rw[hf]at this;cases this
   |some j=>
    obtain⟨gj,h3,h4,h5⟩:=zbI hx;have:=hG.force j i gj g h3 hi h4 day hl h5 hf;simp[this]
 unfold zdq zc6;rw[h1,h2,Bool.and_comm]
def zdy (n:ByteArray) (h:Parts) (g:Grave) (f:Bool):Parts×Bool:=zef (zaf g.holders n) h (setP g.holders n 0,f)
def zfD (n:ByteArray) (day:Int) (h:Parts):List Grave->Bool->List Grave×Bool
 | [],f=>([],f)
 |g::l,f=>if zc6 n day g then(⟨g.place,g.cls,g.fin,(zdy n h g f).1,g.died++[n]⟩::(zfD n day h l (zdy n h g f).2).1,(zfD n day h l (zdy n h g f).2).2)else(g::(zfD n day h l f).1,(zfD n day h l f).2)
theorem zg4 {n:ByteArray} {day:Int} {h:Parts}: ∀ {l:List Grave} {f:Bool},f=true->(zfD n day h l f).2=true
 | [],_,hf=>hf
 |g::l,f,hf=>by
  rw[zfD];split
  ·exact zg4 (zff (by exact hf))
  ·exact zg4 hf
theorem zl8 {s:St} {n:ByteArray} {day:Int} {h:Parts} (hh: ∀p∈h,0<=p.2): ∀ {l:List Grave} {i:Nat},(∀j g,l[j]?=some g->zdq s n day (i+j) g=zc6 n day g)->(∀g∈l,GoodG g)->
 (∀gs,zbz s n day (some h) i l=some gs->zfD n day h l false=(gs,false))/\(zbz s n day (some h) i l=none->(zfD n day h l false).2=true)
 | [],i,_,_=>by
   rw[zbz,zfD];exact⟨fun gs e=>by cases e;rfl,fun e=>by cases e⟩
 |g::l,i,hq,hg=>by
  have ih:=zl8 (s:=s) (n:=n) (day:=day) hh (l:=l) (i:=i+1) (fun j g' hj=>by
   have:=hq (j+1) g' Men;rw[show i+1+j=i+(j+1) by omega]
   exact this) (fun g' h'=>hg g' (by simp[h']))
  have h0:=hq 0 g rfl;rw[Nat.add_zero]at h0;rw[zbz,zfD,h0];have b9:=hg g Mco;cases tM:zc6 n day g
  ·simp only[Bool.false_eq_true,if_false];refine⟨fun gs e=> ?_,fun e=> ?_⟩
   ·cases hd:zbz s n day (some h) (i+1) l with
    |none=>rw[hd]at e;cases e
    |some r=>
     rw[hd]at e;simp only[Option.map_some,Option.some.injEq]at e;rw[ih.1 r hd,<-e]
   ·cases hd:zbz s n day (some h) (i+1) l with
    |none=>exact ih.2 hd
    |some r=>rw[hd]at e;cases e
  ·simp only[if_true];have hz:setP g.holders n 0=zas g.holders n:=zhE b9.good.asc n
   obtain⟨g1,g2⟩:=zix (zb8 b9.good n) hh (zbH b9.good (n:=n)) (by
    have h1:zaE (setP g.holders n 0)=false:=zet b9.small Mcn;rw[<-hz]
    exact h1)
   have hy:zdy n h g false=zef (zaf g.holders n) h (zas g.holders n,false):=by unfold zdy;rw[hz]
   rw[hy];cases dr:zb6 (zaf g.holders n) h (zas g.holders n)with
   |none=>
    have h3:=g2 dr;refine⟨fun gs e=>by simp at e,fun _=> ?_⟩;exact zg4 h3
   |some o=>
    have h3:=g1 o dr;rw[h3];refine⟨fun gs e=> ?_,fun e=> ?_⟩
    ·cases hd:zbz s n day (some h) (i+1) l with
     |none=>rw[hd]at e;cases e
     |some r=>
      rw[hd]at e;simp only[Option.bind_some,Option.map_some,Option.some.injEq]at e;rw[ih.1 r hd,<-e]
    ·cases hd:zbz s n day (some h) (i+1) l with
     |none=>exact ih.2 hd
     |some r=>rw[hd]at e;cases e
theorem zl9 {s:St} {n:ByteArray} {day:Int} {h:Option Parts}: ∀ {l:List Grave} {i:Nat},(∀j g,l[j]?=some g->zdq s n day (i+j) g=zc6 n day g)->(l.any (zc6 n day)=false->zbz s n day h i l=some l)/\(h=none->l.any (zc6 n day)=true->zbz s n day h i l=none)
 | [],i,_=>by
   have e:zbz s n day h i []=some []:=by simp[zbz]
   rw[e];exact⟨fun _=>rfl,fun _ e=>by cases e⟩
 |g::l,i,hq=>by
  have ih:=zl9 (s:=s) (n:=n) (day:=day) (h:=h) (l:=l) (i:=i+1) (fun j g' hj=>by
   have:=hq (j+1) g' Men;rw[show i+1+j=i+(j+1) by omega]
   exact this)
  have h0:=hq 0 g rfl;rw[Nat.add_zero]at h0;unfold zbz;rw[h0,List.any_cons];cases tM:zc6 n day g
  ·simp only[Bool.false_eq_true,if_false,Bool.false_or];exact⟨fun e=>by rw[ih.1 e];rfl,fun e1 e2=>by rw[ih.2 e1 e2];rfl⟩
  ·simp only[if_true,Bool.true_or];refine⟨fun e=>(by cases e),fun e _=> ?_⟩;subst e;rfl
theorem deathP_eq {laws:List Law} {s:St} {d:Deed} {last:Int} (hG:GoodSt s last) (hl:last<=d.day) (hw:za6 16 (zaV laws d.day).num (zaV laws d.day).den=true):
 zdJ laws s d=if zaH s d.frm then(s,28)else if s.graves.any (zc6 d.frm d.day)then
  (if(zfD d.frm d.day (zcg s (zaV laws d.day) d.frm).1 s.graves (zcg s (zaV laws d.day) d.frm).2).2 then(s,8)else
    ({s with graves:=(zfD d.frm d.day (zcg s (zaV laws d.day) d.frm).1 s.graves (zcg s (zaV laws d.day) d.frm).2).1,dead:=s.dead++[d.frm]},0))
  else({s with dead:=s.dead++[d.frm]},0):=by
 have hq: ∀j g,s.graves[j]?=some g->zdq s d.frm d.day (0+j) g=zc6 d.frm d.day g:=fun j g hj=>by rw[Nat.zero_add];exact held_same hG hl hj
 obtain⟨e1,e2⟩:=zeC (s:=s) (n:=d.frm) (hG.wills d.frm) hw;have hn:=zl9 (s:=s) (n:=d.frm) (day:=d.day) (h:=zbZ s (zaV laws d.day) d.frm) hq;unfold zdJ;cases hd:zaH s d.frm
 ·simp only[Bool.false_eq_true,if_false];cases ha:s.graves.any (zc6 d.frm d.day)
  ·rw[hn.1 ha];simp
  ·simp only[if_true];cases he:zbZ s (zaV laws d.day) d.frm with
   |none=>
    rw[he]at hn;rw[hn.2 rfl ha,if_pos (zg4 (e2 he))]
   |some h=>
    have bT:=ze3 (hG.wills d.frm) hw he;obtain⟨f1,f2⟩:=zl8 (s:=s) (n:=d.frm) (day:=d.day) (h:=h) (fun p hp=>by have:=bT.1.pos p hp;grind) hq hG.graves;rw[e1 h he];cases hx:zbz s d.frm d.day (some h) 0 s.graves with
    |none=>
     simp only;rw[if_pos (f2 hx)]
    |some gs=>
     simp only;rw[f1 gs hx];simp
 ·simp
def zbf (n:ByteArray) (day:Int):Nat->List Grave->List Nat
 |_,[]=>[]
 |k,g::l=>if zc6 n day g then k::zbf n day (k+1) l else zbf n day (k+1) l
theorem ziH (n:ByteArray) (day:Int): ∀(k:Nat) (a b:List Grave),zbf n day k (a++b)=zbf n day k a++zbf n day (k+a.length) b
 |k,[],b=>by simp[zbf]
 |k,g::a,b=>by
  rw[List.cons_append,zbf,zbf,ziH n day (k+1) a b,List.length_cons];rw[show k+1+a.length=k+(a.length+1) by omega];split<;>simp
theorem held_snoc (n:ByteArray) (day:Int) (gs:List Grave) {k:Nat} (h:k<gs.length):zbf n day 0 (gs.take (k+1))=zbf n day 0 (gs.take k)++if zc6 n day gs[k]then[k]else[]:=by
 rw[List.take_succ_eq_append_getElem h,ziH,Nat.zero_add,List.length_take,Nat.min_eq_left Mcl,zbf,zbf]
theorem zf6 (n:ByteArray) (day:Int): ∀(k:Nat) (l:List Grave),(zbf n day k l).length=(l.filter (zc6 n day)).length
 |_,[]=>rfl
 |k,g::l=>by
  rw[zbf,List.filter_cons];split<;>simp[zf6 n day (k+1) l]
theorem znT (n:ByteArray) (day:Int): ∀(l:List Grave) (k j i:Nat),(zbf n day k l)[j]?=some i->k<=i/\ ∃g,l[i-k]?=some g/\(l.filter (zc6 n day))[j]?=some g
 | [],k,j,i,h=>by simp[zbf]at h
 |g::l,k,j,i,h=>by
  rw[zbf]at h;rw[List.filter_cons];cases hq:zc6 n day g
  ·rw[hq]at h;simp only[Bool.false_eq_true,if_false]at h⊢;exact MaW
  ·rw[hq]at h;simp only[if_true]at h⊢;cases j with
   |zero=>
    simp only[List.getElem?_cons_zero,Option.some.injEq]at h;subst h;exact⟨Nat.le_refl _,g,by simp,by simp⟩
   |succ j=>
    simp only[List.getElem?_cons_succ]at h⊢;exact MaW
def zcU (n:ByteArray) (h:Parts):List Grave->Bool->List Grave×Bool
 | [],f=>([],f)
 |g::l,f=>(⟨g.place,g.cls,g.fin,(zdy n h g f).1,g.died++[n]⟩::(zcU n h l (zdy n h g f).2).1,(zcU n h l (zdy n h g f).2).2)
theorem ziI (n:ByteArray) (h:Parts): ∀(a b:List Grave) (f:Bool),zcU n h (a++b) f=((zcU n h a f).1++(zcU n h b (zcU n h a f).2).1,(zcU n h b (zcU n h a f).2).2)
 | [],b,f=>by simp[zcU]
 |g::a,b,f=>by
  rw[List.cons_append,zcU,ziI n h a b,zcU];simp
theorem next_snoc (n:ByteArray) (h:Parts) (l:List Grave) (f:Bool) {k:Nat} (hk:k<l.length):zcU n h (l.take (k+1)) f=((zcU n h (l.take k) f).1++[⟨l[k].place,l[k].cls,l[k].fin,(zdy n h l[k] (zcU n h (l.take k) f).2).1,l[k].died++[n]⟩],(zdy n h l[k] (zcU n h (l.take k) f).2).2):=by
 rw[List.take_succ_eq_append_getElem hk,ziI,zcU,zcU]
theorem zkA (n:ByteArray) (h:Parts): ∀(l:List Grave) (f:Bool),(zcU n h l f).1.length=l.length
 | [],_=>rfl
 |g::l,f=>by rw[zcU];simp[zkA n h l]
def zdz:List Grave->List Nat->List Grave->List Grave
 |gs,i::H,x::X=>zdz (gs.set i x) H X
 |gs,_,_=>gs
theorem ziJ: ∀(H:List Nat) (X:List Grave) (gs:List Grave) (i:Nat) (x:Grave),H.length=X.length->zdz gs (H++[i]) (X++[x])=(zdz gs H X).set i x
 | [],[],gs,i,x,_=>rfl
 | [],_::_,_,_,_,h=>by cases h
 |_::_,[],_,_,_,h=>by cases h
 |j::H,y::X,gs,i,x,h=>by
  rw[List.cons_append,List.cons_append,zdz,zdz];exact ziJ H X _ i x Mdx
theorem zjO: ∀(H:List Nat) (X gs:List Grave),(zdz gs H X).length=gs.length
 | [],_,_=>by simp[zdz]
 |_::_,[],_=>by simp[zdz]
 |j::H,y::X,gs=>by rw[zdz,zjO H X];simp
theorem zfQ (n:ByteArray) (day:Int) (h:Parts): ∀(l A:List Grave) (f:Bool),zdz (A++l) (zbf n day A.length l) (zcU n h (l.filter (zc6 n day)) f).1=A++(zfD n day h l f).1/\(zcU n h (l.filter (zc6 n day)) f).2=(zfD n day h l f).2
 | [],A,f=>by simp[zbf,zcU,zfD,zdz]
 |g::l,A,f=>by
  rw[zbf,List.filter_cons,zfD];cases hq:zc6 n day g
  ·simp only[Bool.false_eq_true,if_false];have:=zfQ n day h l (A++[g]) f;rw[List.length_append,List.length_singleton,List.append_assoc,List.singleton_append]at this;exact⟨by rw[this.1];simp,this.2⟩
  ·simp only[if_true];rw[zcU,zdz];have:=zfQ n day h l (A++[⟨g.place,g.cls,g.fin,(zdy n h g f).1,g.died++[n]⟩]) (zdy n h g f).2;rw[List.length_append,List.length_singleton,List.append_assoc,List.singleton_append]at this;have e:(A++g::l).set A.length ⟨g.place,g.cls,g.fin,(zdy n h g f).1,g.died++[n]⟩=A++⟨g.place,g.cls,g.fin,(zdy n h g f).1,g.died++[n]⟩::l:=by
    rw[List.set_append_right _ _ (Nat.le_refl _),Nat.sub_self,List.set_cons_zero]
   exact⟨by rw[e,this.1];simp,this.2⟩
end Go.Proofs.YtckkbkdcdkhglaaGreatDoor
