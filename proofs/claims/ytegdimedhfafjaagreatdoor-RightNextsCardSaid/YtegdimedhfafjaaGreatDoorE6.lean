import Derived.Test.YtegdimedhfafjaaGreatDoorJO
import Derived.Test.YtegdimedhfafjaaGreatDoorRK
set_option linter.all false
set_option maxRecDepth 100000
set_option maxHeartbeats 4000000
namespace Go.Proofs.YtegdimedhfafjaaGreatDoor
attribute [local go_sem] World.cell?_alloc_mark zaf za5 zao za8 zav zaw zax zay zaz za0 za1
attribute [local go_sem] zaq zad
section
open Go.RowKit Go.Shelf
section
variable {base k:Nat} {W W':World} {B:List Nat} {es:Array MapEntry} {ec:Nat}
theorem TombAt.keptM{T:Nat}{g:Grave}(h:TombAt W base B T g)(hg:W.grownBy W' (some k))(hx:W.heap[k]?=some (.map es ec)):TombAt W' base B T g:=by
 obtain⟨H,hc,D,dc,fr',t1,t2,t3,t4,t5,t6,t7⟩:=h;exact⟨H,hc,D,dc,fr',(hg.block T (zab t1) (fun e=>by simp only[Option.some.injEq]at e;subst e;unfold zbz at t1;rw[t1]at hx;simp at hx)).trans t1,t2,t3,t4,t5.keptM hg hx,t6.keptM hg hx,t7⟩
theorem TombsAt.keptM{ps:List Nat}{tv:Value}{gs:List Grave}(h:TombsAt base W B tv ps gs)(hg:W.grownBy W' (some k))(hx:W.heap[k]?=some (.map es ec)):TombsAt base W' B tv ps gs:=
 ⟨h.own.keptM hg hx,h.len,h.nd,fun i T g e1 e2=>(h.all i T g e1 e2).keptM hg hx⟩
theorem WldC.keptM{b d c p wl r:Nat}{mv tv:Value}{la co:Int}(h:WldC W b d c p wl r mv tv la co)(hg:W.grownBy W' (some k))(hx:W.heap[k]?=some (.map es ec)):WldC W' b d c p wl r mv tv la co:=
 (hg.block b (zab h) (fun e=>by simp only[Option.some.injEq]at e;subst e;unfold WldC at h;rw[h]at hx;simp at hx)).trans h
theorem RowIs.keptM{m:List (ByteArray×Value)}{n:ByteArray}{xs:List ByteArray}(h:RowIs W base m n xs)(hg:W.grownBy W' (some k))(hx:W.heap[k]?=some (.map es ec)):RowIs W' base m n xs:=by
 rcases h with h|⟨v,h1,h2⟩
 ·exact .inl h
 ·exact .inr ⟨v,h1,h2.keptM hg hx⟩
theorem WillIs.keptM{m:List (ByteArray×Value)}{n:ByteArray}{xs:Parts}(h:WillIs W m n xs)(hg:W.grownBy W' (some k))(hx:W.heap[k]?=some (.map es ec)):WillIs W' m n xs:=by
 rcases h with h|⟨A,c,h1,h2⟩
 ·exact .inl h
 ·exact .inr ⟨A,c,h1,h2.keptM hg hx⟩
theorem RowIs.kept{m:List (ByteArray×Value)}{n:ByteArray}{xs:List ByteArray}{cs:Array Value}{t:TypeId}{fr:Nat×Nat}(h:RowIs W base m n xs)(hg:W.grownBy W' (some k))(hx:W.heap[k]?=some (.cells cs t fr))(ht:t≠9):RowIs W' base m n xs:=by
 rcases h with h|⟨v,h1,h2⟩
 ·exact .inl h
 ·exact .inr ⟨v,h1,h2.kept hg hx ht⟩
theorem WillIs.kept{m:List (ByteArray×Value)}{n:ByteArray}{xs:Parts}{cs:Array Value}{t:TypeId}{fr:Nat×Nat}(h:WillIs W m n xs)(hg:W.grownBy W' (some k))(hx:W.heap[k]?=some (.cells cs t fr))(ht:t≠62):WillIs W' m n xs:=by
 rcases h with h|⟨A,c,h1,h2⟩
 ·exact .inl h
 ·exact .inr ⟨A,c,h1,h2.kept hg hx ht⟩
theorem zby{b:Nat}{K V:Type}{ek:K->Value}{ev:V->Value}{m:List (K×V)}(h:MapS W b ek ev m):∃es c,W.heap[b]?=some (.map es c):=by
 obtain⟨es,c,h1,_⟩:=h;exact⟨es,c,h1⟩
variable {d c p wl r:Nat} {mv tv:Value} {s:St}
theorem ppl_will(h:PplAt base W B d c p wl r mv s)(hg:W.grownBy W' (some wl)){ws:List (ByteArray×Parts)}{m':List (ByteArray×Value)}(h1:MapS W' wl ekS (fun v:Value=>v) m')(h2:∀n,WillIs W' m' n (zbw {s with wills:=ws} n)):PplAt base W' B d c p wl r mv {s with wills:=ws}:=by
 obtain⟨mc,mp,k1,k2,k3,k4,k5,k6⟩:=h.rows;obtain⟨m,k7,k8⟩:=h.wills;obtain⟨es,ec,hx⟩:=zby k7;have cR:=h.nd;simp only[List.nodup_cons,List.mem_cons,List.not_mem_nil,or_false,not_or]at cR;obtain⟨⟨n1,n2,n3,n4⟩,⟨n5,n6,n7⟩,⟨n8,n9⟩,n10,_⟩:=cR;refine⟨h.nd,h.ge,h.dead.grown hg (by simpa using n3),⟨mc,mp,k1.grown hg (by simpa using n6),k2.grown hg (by simpa using n8),fun n=>(k3 n).keptM hg hx,fun n=>(k4 n).keptM hg hx,k5,k6⟩,h.marr.keptM hg hx,⟨m',h1,h2⟩,h.ren.grown hg (by simpa using fun e=>n10 e.symm)⟩
theorem ppl_ren(h:PplAt base W B d c p wl r mv s)(hg:W.grownBy W' (some r)){rs:List (ByteArray×ByteArray)}(h1:MapS W' r ekP evB (rs.map fun x=>(x,true))):PplAt base W' B d c p wl r mv {s with renounce:=rs}:=by
 obtain⟨mc,mp,k1,k2,k3,k4,k5,k6⟩:=h.rows;obtain⟨m,k7,k8⟩:=h.wills;obtain⟨es,ec,hx⟩:=zby h.ren;have cR:=h.nd;simp only[List.nodup_cons,List.mem_cons,List.not_mem_nil,or_false,not_or]at cR;obtain⟨⟨n1,n2,n3,n4⟩,⟨n5,n6,n7⟩,⟨n8,n9⟩,n10,_⟩:=cR;refine⟨h.nd,h.ge,h.dead.grown hg (by simpa using n4),⟨mc,mp,k1.grown hg (by simpa using n7),k2.grown hg (by simpa using n9),fun n=>(k3 n).keptM hg hx,fun n=>(k4 n).keptM hg hx,k5,k6⟩,h.marr.keptM hg hx,⟨m,k7.grown hg (by simpa using n10),fun n=>(k8 n).keptM hg hx⟩,h1⟩
theorem ppl_dead(h:PplAt base W B d c p wl r mv s)(hg:W.grownBy W' (some d)){ds:List ByteArray}{gs:List Grave}(h1:MapS W' d ekS evB (ds.map fun n=>(n,true))):PplAt base W' B d c p wl r mv {s with dead:=ds,graves:=gs}:=by
 obtain⟨mc,mp,k1,k2,k3,k4,k5,k6⟩:=h.rows;obtain⟨m,k7,k8⟩:=h.wills;obtain⟨es,ec,hx⟩:=zby h.dead;have cR:=h.nd;simp only[List.nodup_cons,List.mem_cons,List.not_mem_nil,or_false,not_or]at cR;obtain⟨⟨n1,n2,n3,n4⟩,⟨n5,n6,n7⟩,⟨n8,n9⟩,n10,_⟩:=cR;refine⟨h.nd,h.ge,h1,⟨mc,mp,k1.grown hg (by simpa using fun e=>n1 e.symm),k2.grown hg (by simpa using fun e=>n2 e.symm),fun n=>(k3 n).keptM hg hx,fun n=>(k4 n).keptM hg hx,k5,k6⟩,h.marr.keptM hg hx,⟨m,k7.grown hg (by simpa using fun e=>n3 e.symm),fun n=>(k8 n).keptM hg hx⟩,h.ren.grown hg (by simpa using fun e=>n4 e.symm)⟩
end
theorem zkx{K V:Type}{eq:K->K->Bool}{k:K}{v:V}:∀ {m:List (K×V)},mget eq k m=none->mput eq k v m=m++[(k,v)]
 | [],_=>rfl
 |x::m,h=>by
  rw[mget]at h;rw[mput];cases hk:eq k x.1
  ·rw[hk]at h;simp only[Bool.false_eq_true,if_false]at h;rw[if_neg Mcp,zkx h];rfl
  ·rw[hk]at h;simp at h
theorem zi9{K:Type}{eq:K->K->Bool}{k:K}:∀ {l:List K},(mget eq k (l.map fun x=>(x,true))).getD false=false->mget eq k (l.map fun x=>(x,true))=none
 | [],_=>rfl
 |x::l,h=>by
  rw[List.map_cons,mget]at h⊢;cases hk:eq k x
  ·rw[hk]at h;simp only[Bool.false_eq_true,if_false]at h;rw[if_neg Mcp];exact zi9 h
  ·rw[hk]at h;simp at h
theorem rat_cells{l:List RPart}(h:∀p∈l,za9 16 p.num p.den=true){W:World}{A:Option Addr}(hS:Sl W 3 RPart.cells A l):Sl W 3 zaa A (zam l):=fun hl=>by
 unfold zam at hl;rw[List.length_map]at hl;obtain⟨b,off,hA,hb,hc⟩:=hS hl;refine⟨b,off,hA,hb,fun k x hk j u hu=>?_⟩;unfold zam at hk;rw[List.getElem?_map]at hk;cases hp:l[k]? with
 |none=>rw[hp]at hk;cases hk
 |some y=>
  rw[hp]at hk;simp only[Option.map_some,Option.some.injEq]at hk;subst hk;have hy:=zi0 (h y (List.mem_of_getElem? hp));refine hc k y hp j u ?_;unfold zaa at hu;rw[hy.1,hy.2]at hu;exact hu
theorem zmL{base b k:Nat}{W W':World}{B ps:List Nat}{d c p wl r:Nat}{mv tv:Value}{s':St}{gs:List Grave}{la co:Int}{es:Array MapEntry}{ec:Nat}(hb:base<=b)(hC:WldC W b d c p wl r mv tv la co)(hT:TombsAt base W B tv ps gs)(hg:W.grownBy W' (some k))(hx:W.heap[k]?=some (.map es ec))
 (dj:s'.graves=gs)(hP:PplAt base W' B d c p wl r mv s'):WldAt base W' b s' la co:=
 ⟨B,d,c,p,wl,r,mv,tv,ps,hb,hC.keptM hg hx,hP,by rw[dj];exact hT.keptM hg hx⟩
theorem wldC_set3{W:World}{b d c p wl r:Nat}{mv tv:Value}{la co:Int}(h:WldC W b d c p wl r mv tv la co)(v':Value):WldC (W.setCell ⟨b,3,none⟩ v') b d c p wl r v' tv la co:=by
 unfold WldC at*;have:=Joins.block_setCell (i:=3) h v';simpa using this
theorem wld_marry{base b:Nat}{W w1:World}{B ps:List Nat}{d c p wl r:Nat}{mv tv v':Value}{s:St}{ms:List (ByteArray×ByteArray)}{la co:Int}(hb:base<=b)(hC:WldC W b d c p wl r mv tv la co)(hP:PplAt base W B d c p wl r mv s)(hT:TombsAt base W B tv ps s.graves)
 (h1:OwnS w1 base 122 2 zaR v' ms)(h2:W.grownBy w1 (za7 mv)):WldAt base (w1.setCell ⟨b,3,none⟩ v') b {s with marriages:=ms} la co/\WldC w1 b d c p wl r mv tv la co:=by
 have cu:=zab hC;have ae:=hP.marr;have bj:∀k,za7 mv=some k->∃cs fr,W.heap[k]?=some (.cells cs 122 fr):=fun k hk=>by
  exact Ma3
 have jt:za7 mv≠some b:=fun e=>by
  obtain⟨cs,fr,hx⟩:=bj b e;exact MbQ
 have cK:WldC w1 b d c p wl r mv tv la co:=(h2.block b cu (fun e=>jt e.symm)).trans hC;obtain⟨mc,mp,k1,k2,k3,k4,k5,k6⟩:=hP.rows;obtain⟨m,k7,k8⟩:=hP.wills;have aK:=zar w1 b 3 v';refine⟨⟨B,d,c,p,wl,r,v',tv,ps,hb,wldC_set3 cK v',?_,?_⟩,cK⟩
 ·cases hk:za7 mv with
  |none=>
   rw[hk]at h2;have gV:Below W.heap.size W w1:=⟨h2.os,h2.tape,h2.output,h2.size,fun i hi=>h2.block i hi Mcp⟩
   exact⟨hP.nd,hP.ge,(hP.dead.below gV).keptC aK cK,⟨mc,mp,(k1.below gV).keptC aK cK,(k2.below gV).keptC aK cK,fun n=>((k3 n).keep gV).kept aK cK Mco,fun n=>((k4 n).keep gV).kept aK cK Mco,k5,k6⟩,h1.kept aK cK Mco,⟨m,(k7.below gV).keptC aK cK,fun n=>((k8 n).keep gV).kept aK cK Mco⟩,(hP.ren.below gV).keptC aK cK⟩
  |some k=>
   obtain⟨cs,fr,hx⟩:=bj k hk;rw[hk]at h2;exact⟨hP.nd,hP.ge,(hP.dead.keptC h2 hx).keptC aK cK,⟨mc,mp,(k1.keptC h2 hx).keptC aK cK,(k2.keptC h2 hx).keptC aK cK,fun n=>((k3 n).kept h2 hx Mco).kept aK cK Mco,fun n=>((k4 n).kept h2 hx Mco).kept aK cK Mco,k5,k6⟩,h1.kept aK cK Mco,⟨m,(k7.keptC h2 hx).keptC aK cK,fun n=>((k8 n).kept h2 hx Mco).kept aK cK Mco⟩,(hP.ren.keptC h2 hx).keptC aK cK⟩
 ·cases hk:za7 mv with
  |none=>
   rw[hk]at h2;have gV:Below W.heap.size W w1:=⟨h2.os,h2.tape,h2.output,h2.size,fun i hi=>h2.block i hi Mcp⟩
   exact(hT.keep gV).kept aK cK Mco Mco Mco Mco
  |some k=>
   obtain⟨cs,fr,hx⟩:=bj k hk;rw[hk]at h2;exact(hT.kept h2 hx Mco Mco Mco Mco).kept aK cK Mco Mco Mco Mco
theorem zcY{m:List (ByteArray×Value)}{g:Nat}:g∈zaY m↔ ∃e∈m,za7 e.2=some g:=by
 unfold zaY;rw[List.mem_filterMap]
theorem zcy(e:ByteArray×Value)(m:List (ByteArray×Value)):zaY (e::m)=(za7 e.2).toList++zaY m:=by
 unfold zaY;rw[List.filterMap_cons];cases h:za7 e.2<;>simp
theorem zcz(m l:List (ByteArray×Value)):zaY (m++l)=zaY m++zaY l:=by
 unfold zaY;exact List.filterMap_append
theorem zky{k:ByteArray}{v:Value}:∀ {m:List (ByteArray×Value)},(zaY m).Nodup->(∀g,za7 v=some g->(∃v0,mget eqS k m=some v0/\za7 v0=some g)\/g∉zaY m)->
 (zaY (mput eqS k v m)).Nodup/\∀g∈zaY (mput eqS k v m),g∈zaY m\/za7 v=some g
 | [],_,_=>by
   rw[mput,zcy];have e:zaY []=[]:=rfl;rw[e];cases h:za7 v<;>simp
 |x::m,hn,hv=>by
  rw[zcy,List.nodup_append]at hn;obtain⟨n1,n2,n3⟩:=hn;rw[mput];cases hk:eqS k x.1
  ·rw[if_neg Mcp];have jH:∀g,za7 v=some g->(∃v0,mget eqS k m=some v0/\za7 v0=some g)\/g∉zaY m:=fun g hg=>by
    rcases hv g hg with⟨v0,h1,h2⟩|h
    ·rw[mget,hk]at h1;exact .inl ⟨v0,by simpa using h1,h2⟩
    ·exact .inr fun h'=>h (by rw[zcy];exact List.mem_append_right _ h')
   obtain⟨i1,i2⟩:=zky n2 jH;rw[zcy,List.nodup_append];refine⟨⟨n1,i1,fun a ha b hb e=>?_⟩,fun g hg=>?_⟩
   ·subst e;rcases i2 _ hb with h|h
    ·exact n3 a ha a h rfl
    ·rcases hv a h with⟨v0,h1,h2⟩|h'
     ·rw[mget,hk]at h1;have pH:mget eqS k m=some v0:=McP;exact n3 a ha a (zcY.2 ⟨_,zcX pH,h2⟩) rfl
     ·exact h' (by rw[zcy];exact List.mem_append_left _ ha)
   ·rw[List.mem_append]at hg;rcases hg with hg|hg
    ·exact .inl (by rw[zcy];exact List.mem_append_left _ hg)
    ·rcases i2 g hg with h|h
     ·exact .inl (by rw[zcy];exact List.mem_append_right _ h)
     ·exact .inr h
  ·rw[if_pos rfl,zcy,List.nodup_append];have hx:mget eqS k (x::m)=some x.2:=by rw[mget,hk];rfl
   refine⟨⟨by cases h:za7 v<;>simp,n2,fun a ha b hb e=>?_⟩,fun g hg=>?_⟩
   ·subst e;have kQ:za7 v=some a:=by
     cases h:za7 v with
     |none=>simp[h]at ha
     |some y=>simp[h]at ha;rw[ha]
    rcases hv a kQ with⟨v0,h1,h2⟩|h'
    ·rw[hx]at h1;simp only[Option.some.injEq]at h1;subst h1;exact n3 a (by rw[h2];simp) a hb rfl
    ·exact h' (by rw[zcy];exact List.mem_append_right _ hb)
   ·rw[List.mem_append]at hg;rcases hg with hg|hg
    ·cases h:za7 v with
     |none=>simp[h]at hg
     |some y=>simp[h]at hg;exact .inr (by rw[hg])
    ·exact .inl (by rw[zcy];exact List.mem_append_right _ hg)
theorem zhf{k n:ByteArray}{v v0:Value}{g:Nat}(ai:zae n k=false):∀ {m:List (ByteArray×Value)},(zaY m).Nodup->mget eqS n m=some v->mget eqS k m=some v0->za7 v=some g->za7 v0≠some g
 | [],_,h,_,_=>by cases h
 |x::m,hn,h1,h2,h3=>fun h4=>by
  rw[zcy,List.nodup_append]at hn;obtain⟨n1,n2,n3⟩:=hn;rw[mget]at h1 h2;cases ha:eqS n x.1
  ·rw[ha]at h1;simp only[Bool.false_eq_true,if_false]at h1;cases hb:eqS k x.1
   ·rw[hb]at h2;simp only[Bool.false_eq_true,if_false]at h2;exact zhf ai n2 h1 h2 h3 h4
   ·rw[hb]at h2;simp only[if_true,Option.some.injEq]at h2;subst h2;exact n3 g (by rw[h4];simp) g (zcY.2 ⟨_,zcX h1,h3⟩) rfl
  ·rw[ha]at h1;simp only[if_true,Option.some.injEq]at h1;subst h1;cases hb:eqS k x.1
   ·rw[hb]at h2;simp only[Bool.false_eq_true,if_false]at h2;exact n3 g (by rw[h3];simp) g (zcY.2 ⟨_,zcX h2,h4⟩) rfl
   ·have e1:n=x.1:=za2.1 ha;have e2:k=x.1:=za2.1 hb;rw[e1,e2,zbX]at ai;cases ai
theorem kids_push(s:St)(f t n:ByteArray):zai {s with children:=s.children++[(f,t)]} n=zai s n++if zae f n then[t]else[]:=by
 unfold zai;simp only[List.filter_append,List.map_append,List.filter_cons,List.filter_nil];cases zae f n<;>simp
theorem pars_push(s:St)(f t n:ByteArray):zbR {s with children:=s.children++[(f,t)]} n=zbR s n++if zae t n then[f]else[]:=by
 unfold zbR;simp only[List.filter_append,List.map_append,List.filter_cons,List.filter_nil];cases zae t n<;>simp
theorem row_own{W:World}{base:Nat}{m:List (ByteArray×Value)}{n:ByteArray}{xs:List ByteArray}(h:RowIs W base m n xs):∃A c,(mget eqS n m).getD (.slice none 0 0)=.slice A xs.length c/\OwnS W base 9 1 sC (.slice A xs.length c) xs/\(∀g,za7 (.slice A xs.length c)=some g->mget eqS n m=some (.slice A xs.length c)):=by
 rcases h with⟨h1,rfl⟩|⟨v,h1,h2⟩
 ·exact⟨none,0,by rw[h1];rfl,OwnS.nil,fun g hg=>by cases hg⟩
 ·obtain⟨A,c,rfl,_,_⟩:=h2.sl zaD;exact⟨A,c,by rw[h1];rfl,h2,fun _ _=>h1⟩
theorem zhL(a b:ByteArray):zae a b=zae b a:=by rw[Bool.eq_iff_iff,za2,za2];exact⟨Eq.symm,Eq.symm⟩
theorem OwnS.same{α:Type}{W W':World}{base:Nat}{e:TypeId}{size:Nat}{f:α->List Value}{v:Value}{xs:List α}(h:OwnS W base e size f v xs)(hk:∀g cur,za7 v=some g->W.heap[g]?=some (.cells cur e (0,0))->W'.heap[g]?=W.heap[g]?):OwnS W' base e size f v xs:=by
 rcases h with h|⟨g,o,cap,cur,rfl,hb,hh,rest⟩
 ·exact .inl h
 ·exact .inr ⟨g,o,cap,cur,rfl,hb,(hk g cur rfl hh).trans hh,rest⟩
theorem zfl{W:World}{base:Nat}{v:Value}{xs:List ByteArray}(h:OwnS W base 9 1 sC v xs){g:Nat}(hg:za7 v=some g):∃cur,W.heap[g]?=some (.cells cur 9 (0,0)):=by
 rcases h with⟨rfl,_⟩|⟨k,o,c,cur,rfl,_,hk,_⟩
 ·cases hg
 ·simp only[za7,Option.some.injEq]at hg;subst hg;exact⟨cur,hk⟩
theorem wld_child{base b:Nat}{W w9:World}{B ps:List Nat}{d c p wl r:Nat}{mv tv va vb v1 v2:Value}{s:St}{la co:Int}{mc mp:List (ByteArray×Value)}{fr tn:ByteArray}(hb:base<=b)(hC:WldC W b d c p wl r mv tv la co)(hP:PplAt base W B d c p wl r mv s)(hT:TombsAt base W B tv ps s.graves)
 (k1:MapS W c ekS (fun v:Value=>v) mc)(k2:MapS W p ekS (fun v:Value=>v) mp)(k3:∀n,RowIs W base mc n (zai s n))(k4:∀n,RowIs W base mp n (zbR s n))(k5:B=zaY (mc++mp))(k6:B.Nodup/\(mc.map (·.1)).Nodup/\(mp.map (·.1)).Nodup)
 (ha:OwnS W base 9 1 sC va (zai s fr))(kQ:∀g,za7 va=some g->mget eqS fr mc=some va)(hv:OwnS W base 9 1 sC vb (zbR s tn))(jH:∀g,za7 vb=some g->mget eqS tn mp=some vb)
 (o1:OwnS w9 base 9 1 sC v1 (zai s fr++[tn]))(o2:OwnS w9 base 9 1 sC v2 (zbR s tn++[fr]))(b1:∀g,za7 v1=some g->za7 va=some g\/W.heap.size<=g)(b2:∀g,za7 v2=some g->za7 vb=some g\/W.heap.size<=g)(b12:∀g,za7 v1=some g->za7 v2≠some g)
 (m1:MapS w9 c ekS (fun v:Value=>v) (mput eqS fr v1 mc))(m2:MapS w9 p ekS (fun v:Value=>v) (mput eqS tn v2 mp))(hF:∀k,k<W.heap.size->k≠c->k≠p->za7 va≠some k->za7 vb≠some k->w9.heap[k]?=W.heap[k]?):WldAt base w9 b {s with children:=s.children++[(fr,tn)]} la co:=by
 have cR:=hP.nd;simp only[List.nodup_cons,List.mem_cons,List.not_mem_nil,or_false,not_or]at cR;obtain⟨⟨n1,n2,n3,n4⟩,⟨n5,n6,n7⟩,⟨n8,n9⟩,n10,_⟩:=cR;obtain⟨ec,cc,hc⟩:=zby k1;obtain⟨ep,cp,hp⟩:=zby k2;have bi:∀ {k:Nat} {cur:Array Value} {t:TypeId} {f:Nat×Nat},W.heap[k]?=some (.cells cur t f)->t≠9->w9.heap[k]?=W.heap[k]?:=fun {k cur t f} hk ht=>by
  refine hF k (Array.getElem?_eq_some_iff.1 hk).1 (fun e=>?_) (fun e=>?_) (fun e=>?_) (fun e=>?_)
  ·subst e;rw[hc]at hk;simp at hk
  ·subst e;rw[hp]at hk;simp at hk
  ·obtain⟨cur',h'⟩:=zfl ha e;exact MbA
  ·obtain⟨cur',h'⟩:=zfl hv e;exact MbA
 have sJ:∀ {k:Nat} {es:Array MapEntry} {x:Nat},W.heap[k]?=some (.map es x)->k≠c->k≠p->w9.heap[k]?=W.heap[k]?:=fun {k es x} hk h1 h2=>by
  refine hF k (Array.getElem?_eq_some_iff.1 hk).1 h1 h2 (fun e=>?_) (fun e=>?_)
  ·obtain⟨cur',h'⟩:=zfl ha e;rw[h']at hk;simp at hk
  ·obtain⟨cur',h'⟩:=zfl hv e;rw[h']at hk;simp at hk
 have nN:∀g,za7 va=some g->g∈zaY mc:=fun g hg=>zcY.2 ⟨_,zcX (kQ g hg),hg⟩
 have dw:∀g,za7 vb=some g->g∈zaY mp:=fun g hg=>zcY.2 ⟨_,zcX (jH g hg),hg⟩
 obtain⟨k6,kn1,kn2⟩:=k6;rw[k5,zcz,List.nodup_append]at k6;obtain⟨q1,q2,q3⟩:=k6;have mM:∀ {m:List (ByteArray×Value)} {n:ByteArray} {v:Value} {xs:List ByteArray},mget eqS n m=some v->OwnS W base 9 1 sC v xs->(∀g,za7 v=some g->za7 va≠some g/\za7 vb≠some g)->OwnS w9 base 9 1 sC v xs:=fun {m n v xs} hm ho ai=>
  ho.same fun g cur hg hh=>hF g (Array.getElem?_eq_some_iff.1 hh).1 (fun e=>by subst e;rw[hc]at hh;simp at hh) (fun e=>by subst e;rw[hp]at hh;simp at hh) (ai g hg).1 (ai g hg).2
 have oG:∀g,W.heap.size<=g->g∉zaY mc/\g∉zaY mp:=fun g hg=>by
  have key:∀ {m:List (ByteArray×Value)} {f:ByteArray->List ByteArray},(m.map (·.1)).Nodup->(∀n,RowIs W base m n (f n))->g∉zaY m:=fun {m f} hk hr h=>by
   obtain⟨e,he,dg⟩:=zcY.1 h;have h1:=zhI hk (show(e.1,e.2)∈m from he);rcases hr e.1 with⟨h2,_⟩|⟨v,h2,h3⟩
   ·rw[h2]at h1;cases h1
   ·rw[h2]at h1;simp only[Option.some.injEq]at h1;rw[h1]at h3;have:=(h3.ge g dg).2;omega
  exact⟨key kn1 k3,key kn2 k4⟩
 have R1:=zky (k:=fr) (v:=v1) q1 (fun g hg=>by
  rcases b1 g hg with h|h
  ·exact .inl ⟨va,kQ g h,h⟩
  ·exact .inr (oG g h).1)
 have R2:=zky (k:=tn) (v:=v2) q2 (fun g hg=>by
  rcases b2 g hg with h|h
  ·exact .inl ⟨vb,jH g h,h⟩
  ·exact .inr (oG g h).2)
 have f9:∀g∈zaY (mput eqS fr v1 mc++mput eqS tn v2 mp),g∈B\/W.heap.size<=g:=fun g hg=>by
  rw[zcz,List.mem_append]at hg;rw[k5,zcz];rcases hg with hg|hg
  ·rcases R1.2 g hg with h|h
   ·exact .inl (List.mem_append_left _ h)
   ·rcases b1 g h with h|h
    ·exact .inl (List.mem_append_left _ (nN g h))
    ·exact .inr h
  ·rcases R2.2 g hg with h|h
   ·exact .inl (List.mem_append_right _ h)
   ·rcases b2 g h with h|h
    ·exact .inl (List.mem_append_right _ (dw g h))
    ·exact .inr h
 obtain⟨m,k7,k8⟩:=hP.wills;refine⟨_,d,c,p,wl,r,mv,tv,ps,hb,?_,⟨hP.nd,hP.ge,?_,⟨_,_,m1,m2,fun n=>?_,fun n=>?_,rfl,?_⟩,?_,⟨m,?_,fun n=>?_⟩,?_⟩,⟨?_,hT.len,hT.nd,fun i T g e1 e2=>?_⟩⟩
 ·exact(bi hC Mco).trans hC
 ·obtain⟨es,x,hx⟩:=zby hP.dead;exact hP.dead.keep (sJ hx n1 n2)
 ·rw[kids_push];unfold RowIs;rw[zfi];cases hn:zae n fr
  ·rw[zhL fr n,hn];simp only[Bool.false_eq_true,if_false,List.append_nil];rcases k3 n with h|⟨v,h1,h2⟩
   ·exact .inl h
   ·refine .inr ⟨v,h1,mM h1 h2 fun g hg=>⟨fun e=>?_,fun e=>?_⟩⟩
    ·exact zhf hn q1 h1 (kQ g e) hg e
    ·exact q3 g (zcY.2 ⟨_,zcX h1,hg⟩) g (dw g e) rfl
  ·rw[zhL fr n,hn];have e:n=fr:=za2.1 hn;subst e;exact .inr ⟨v1,rfl,o1⟩
 ·rw[pars_push];unfold RowIs;rw[zfi];cases hn:zae n tn
  ·rw[zhL tn n,hn];simp only[Bool.false_eq_true,if_false,List.append_nil];rcases k4 n with h|⟨v,h1,h2⟩
   ·exact .inl h
   ·refine .inr ⟨v,h1,mM h1 h2 fun g hg=>⟨fun e=>?_,fun e=>?_⟩⟩
    ·exact q3 g (nN g e) g (zcY.2 ⟨_,zcX h1,hg⟩) rfl
    ·exact zhf hn q2 h1 (jH g e) hg e
  ·rw[zhL tn n,hn];have e:n=tn:=za2.1 hn;subst e;exact .inr ⟨v2,rfl,o2⟩
 ·refine⟨?_,(zg1 _ _ _ kn1).1,(zg1 _ _ _ kn2).1⟩;rw[zcz,List.nodup_append];refine⟨R1.1,R2.1,fun g hg g' fC e=>?_⟩;subst e;rcases R1.2 g hg with h|h
  ·rcases R2.2 g fC with h'|h'
   ·exact q3 g h g h' rfl
   ·rcases b2 g h' with h'|h'
    ·exact q3 g h g (dw g h') rfl
    ·exact(oG g h').1 h
  ·rcases R2.2 g fC with h'|h'
   ·rcases b1 g h with h|h
    ·exact q3 g (nN g h) g h' rfl
    ·exact(oG g h).2 h'
   ·exact b12 g h h'
 ·exact hP.marr.same fun g cur _ hh=>bi hh Mco
 ·obtain⟨es,x,hx⟩:=zby k7;exact k7.keep (sJ hx (fun e=>n6 e.symm) (fun e=>n8 e.symm))
 ·rcases k8 n with h|⟨A,x,h1,h2⟩
  ·exact .inl h
  ·exact .inr ⟨A,x,h1,h2.same fun g cur f hh _=>bi hh Mco⟩
 ·obtain⟨es,x,hx⟩:=zby hP.ren;exact hP.ren.keep (sJ hx (fun e=>n7 e.symm) (fun e=>n9 e.symm))
 ·exact hT.own.same fun g cur _ hh=>bi hh Mco
 ·obtain⟨H,hh,D,dc,f',t1,t2,t3,t4,t5,t6,t7⟩:=hT.all i T g e1 e2;refine⟨H,hh,D,dc,f',(bi t1 Mco).trans t1,t2,t3,t4,t5.same fun g' cur f hx _=>bi hx Mco,?_,fun hl a tV aQ=>?_⟩
  ·intro hl;obtain⟨g',off,cur,f,hA,hx,hy⟩:=t6 hl;have GF:=t7 hl ⟨g',off,none⟩ hA;refine⟨g',off,cur,f,hA,?_,hy⟩;rw[<-hx];refine hF g' (Array.getElem?_eq_some_iff.1 hx).1 (fun e=>by subst e;rw[hc]at hx;simp at hx) (fun e=>by subst e;rw[hp]at hx;simp at hx) (fun e=>GF ?_) (fun e=>GF ?_)
   ·rw[k5,zcz];exact List.mem_append_left _ (nN g' e)
   ·rw[k5,zcz];exact List.mem_append_right _ (dw g' e)
  ·obtain⟨g',off,cur,f,hA,hx,hy⟩:=t6 hl;rw[hA]at tV;simp only[Option.some.injEq]at tV;rcases f9 _ aQ with h|h
   ·exact t7 hl a (by rw[hA,tV]) h
   ·have:=(Array.getElem?_eq_some_iff.1 hx).1;rw[<-tV]at h;simp at h;omega
end
section
section
variable {P:Program} {ops:Array Oper} {Q:Exit->Act->World->Prop} {md:Region.Mode} {m:Nat} {S:Bool->World->Prop}
def zhg(md:Region.Mode)(ops:Array Oper)(listed:Array Bool):Prop:= ∀(k:Nat) (o:Oper),ops[k]?=some o->listed.getD k false=true->∀e∈o.after,Region.binds md e=true->listed.getD e.on false=true
def zkz(md:Region.Mode)(ops:Array Oper)(listed:Array Bool):Bool:=(List.range ops.size).all fun k=>match ops[k]? with
 |some o=>!listed.getD k false||o.after.all fun e=>!Region.binds md e||listed.getD e.on false
 |none=>true
theorem closed_of{listed:Array Bool}(h:zkz md ops listed=true):zhg md ops listed:=fun k o ho hl e he hb=>by
 unfold zkz at h;have h1:=List.all_eq_true.1 h k (List.mem_range.2 (Array.getElem?_eq_some_iff.1 ho).1);simp only[ho,hl,Bool.not_true,Bool.false_or]at h1;rw[Array.all_eq_true]at h1;obtain⟨j,hj,rfl⟩:=Array.mem_iff_getElem.1 he;have h2:=h1 j hj;rw[hb]at h2;simpa using h2
def needs(md:Region.Mode)(ops:Array Oper)(i:Nat):Nat->Nat->Bool
 |0,k=>k==i
 |f+1,k=>k==i||match ops[k]? with
  |some o=>o.after.any fun e=>Region.binds md e&&needs md ops i f e.on
  |none=>false
theorem znW{i:Nat}{listed:Array Bool}(hc:zhg md ops listed):∀(f k:Nat),needs md ops i f k=true->listed.getD k false=true->listed.getD i false=true
 |0,k,h,hl=>by
  have:k=i:=by simpa[needs]using h
  rw[<-this];exact hl
 |f+1,k,h,hl=>by
  unfold needs at h;rw[Bool.or_eq_true]at h;rcases h with h|h
  ·have:k=i:=by simpa using h
   rw[<-this];exact hl
  ·cases ho:ops[k]? with
   |none=>rw[ho]at h;cases h
   |some o=>
    rw[ho]at h;simp only at h;rw[Array.any_eq_true]at h;obtain⟨j,hj,h2⟩:=h;rw[Bool.and_eq_true]at h2;exact znW hc f _ h2.2 (hc k o ho hl o.after[j] (Array.getElem_mem hj) h2.1)
theorem zoC{listed:Array Bool}{j:Nat}(hc:zhg md ops listed)(hj:j∈Region.ready md ops listed):zhg md ops (listed.setIfInBounds j true):=fun k o ho hl e he hb=>by
 obtain⟨h0,oj,iY,b9⟩:=mem_ready.1 hj;by_cases hjk:j=k
 ·subst hjk;rw[iY]at ho;simp only[Option.some.injEq]at ho;subst ho;exact getD_set_true (b9 e he hb)
 ·rw[getD_set_ne false hjk]at hl;exact getD_set_true (hc k o ho hl e he hb)
def zcp(P:Program)(md:Region.Mode)(ops:Array Oper)(Q:Exit->Act->World->Prop)(m:Nat)(S:Bool->World->Prop):Nat->Array Bool->Act->World->Prop
 |0,listed,a,w=>Region.ready md ops listed=[]/\Q .normal a w
 |fuel+1,listed,a,w=>
  (Region.ready md ops listed=[]->Q .normal a w)/\
  ∀i∈Region.ready md ops listed,wpOp P ops Q i (fun a' w'=>S ((listed.setIfInBounds i true).getD m false) w'/\zcp P md ops Q m S fuel (listed.setIfInBounds i true) a' w') a w
theorem zjF:∀(fuel:Nat) (listed:Array Bool) (a:Act) (w:World),zcp P md ops Q m S fuel listed a w->wpAny P md ops Q fuel listed a w
 |0,_,_,_,h=>h
 |fuel+1,_,_,_,h=>⟨h.1,fun i hi=>wpOp_mono (fun a' w' h'=>zjF fuel _ a' w' h'.2) (h.2 i hi)⟩
theorem zlz{i:Nat}{oi:Oper}{v:Value}(kr:i≠m)(hi:ops[i]?=some oi)(dr:∀(j:Nat) (o:Oper) cs b,ops[j]?=some o->o.op≠ .select cs b)
 (hQ:∀c a w,Q (.panic c) (a.put oi.dst v) w->Q (.panic c) a w)(f0:Nat)(ai:needs md ops i f0 m=true):
 ∀(fuel:Nat) (listed:Array Bool) (a:Act) (w:World),zhg md ops listed->
  (∀j oj,ops[j]?=some oj->j≠i->listed.getD j true=false->(∀e∈oj.after,Region.binds md e=true->e.on≠i)->oi.apart ops oj=true)->
  i∈Region.ready md ops listed->YieldsIf P ops (S false) oi v a->S false w->
  zcp P md ops Q m S fuel (listed.setIfInBounds i true) (a.put oi.dst v) w->zcp P md ops Q m S (fuel+1) listed a w:=by
 have dp:∀ {listed:Array Bool},zhg md ops listed->i∈Region.ready md ops listed->listed.getD m false=false:=fun {listed} hc hr=>by
  cases hx:listed.getD m false with
  |false=>rfl
  |true=>
   have h1:=znW hc f0 m ai hx;have h2:=getD_both (mem_ready.1 hr).1;rw[h2]at h1;cases h1
 intro fuel;induction fuel with
 |zero=>
  intro listed a w hc _ hr hy hS H;refine⟨fun h=>Mes,fun j hj=>?_⟩;by_cases cz:j=i
  ·exact MbD
  ·have:=ready_mono hj cz;rw[H.1]at this;cases this
 |succ fuel ih=>
  intro listed a w hc fP hr hy hS H;refine⟨fun h=>Mes,fun j hj=>?_⟩;by_cases cz:j=i
  ·exact MbD
  ·have h1:=H.2 j (ready_mono hj cz);obtain⟨ku,oj,iY,b9⟩:=mem_ready.1 hj;have mK:∀e∈oj.after,Region.binds md e=true->e.on≠i:=fun e he hb Ak=>by
    exact Mbh
   have h2:=wpOp_putIf iY (fP j oj iY cz ku mK) (fun cs b=>dr i oi cs b hi) (fun cs b=>dr j oj cs b iY) hQ hy h1;have jy:∀k ok,ops[k]?=some ok->k≠i->(listed.setIfInBounds j true).getD k true=false->
    (∀e∈ok.after,Region.binds md e=true->e.on≠i)->oi.apart ops ok=true:=fun k ok hk au dY dN=>by
    exact Man
   have aJ:=zoC hc hj;have cn:=ready_mono hr (Ne.symm cz);have eG:((listed.setIfInBounds i true).setIfInBounds j true).getD m false=(listed.setIfInBounds j true).getD m false:=by
    rw[Array.setIfInBounds_comm _ _ (Ne.symm cz),getD_set_ne false kr]
   refine wpOp_mono (fun a' w' h3=>?_) h2;have h4:=h3.2.1;rw[eG]at h4;refine⟨h4,ih (listed.setIfInBounds j true) a' w' aJ jy cn h3.1 ?_ ?_⟩
   ·rw[dp aJ cn]at h4;exact h4
   ·rw[Array.setIfInBounds_comm _ _ cz];exact h3.2.2
theorem zmM{i:Nat}{oi:Oper}{v:Value}{fuel:Nat}{listed:Array Bool}{a:Act}{w:World}(f0:Nat)(hi:ops[i]?=some oi)(kr:i≠m)(ai:needs md ops i f0 m=true)(bk:zkz md ops listed=true)
 (hs:Region.noSelect ops=true)(hf:Region.free md ops listed i=true)(hr:(Region.ready md ops listed).contains i=true)
 (hQ:∀c a w,Q (.panic c) (a.put oi.dst v) w->Q (.panic c) a w)(hy:YieldsIf P ops (S false) oi v a)(hS:S false w)
 (h:zcp P md ops Q m S fuel (listed.setIfInBounds i true) (a.put oi.dst v) w):zcp P md ops Q m S (fuel+1) listed a w:=
 zlz kr hi (Region.noSelect_spec hs) hQ f0 ai fuel listed a w (closed_of bk) (Region.free_spec hi hf) (by simpa using hr) hy hS h
theorem zk0{i:Nat}{oi:Oper}{v:Value}(kr:i≠m)(hi:ops[i]?=some oi)(dr:∀(j:Nat) (o:Oper) cs b,ops[j]?=some o->o.op≠ .select cs b)
 (hQ:∀c a w,Q (.panic c) (a.put oi.dst v) w->Q (.panic c) a w):
 ∀(fuel:Nat) (listed:Array Bool) (a:Act) (w:World),
  (∀j oj,ops[j]?=some oj->j≠i->listed.getD j true=false->(∀e∈oj.after,Region.binds md e=true->e.on≠i)->oi.apart ops oj=true)->
  i∈Region.ready md ops listed->YieldsIf P ops (fun _=>True) oi v a->S (listed.getD m false) w->
  zcp P md ops Q m S fuel (listed.setIfInBounds i true) (a.put oi.dst v) w->zcp P md ops Q m S (fuel+1) listed a w:=by
 intro fuel;induction fuel with
 |zero=>
  intro listed a w _ hr hy hS H;refine⟨fun h=>Mes,fun j hj=>?_⟩;by_cases cz:j=i
  ·exact MbM
  ·have:=ready_mono hj cz;rw[H.1]at this;cases this
 |succ fuel ih=>
  intro listed a w fP hr hy hS H;refine⟨fun h=>Mes,fun j hj=>?_⟩;by_cases cz:j=i
  ·exact MbM
  ·have h1:=H.2 j (ready_mono hj cz);obtain⟨ku,oj,iY,b9⟩:=mem_ready.1 hj;have mK:∀e∈oj.after,Region.binds md e=true->e.on≠i:=fun e he hb Ak=>by
    exact Mbh
   have h2:=wpOp_putIf iY (fP j oj iY cz ku mK) (fun cs b=>dr i oi cs b hi) (fun cs b=>dr j oj cs b iY) hQ hy h1;have jy:∀k ok,ops[k]?=some ok->k≠i->(listed.setIfInBounds j true).getD k true=false->
    (∀e∈ok.after,Region.binds md e=true->e.on≠i)->oi.apart ops ok=true:=fun k ok hk au dY dN=>by
    exact Man
   have eG:((listed.setIfInBounds i true).setIfInBounds j true).getD m false=(listed.setIfInBounds j true).getD m false:=by
    rw[Array.setIfInBounds_comm _ _ (Ne.symm cz),getD_set_ne false kr]
   refine wpOp_mono (fun a' w' h3=>?_) h2;have h4:=h3.2.1;rw[eG]at h4;refine⟨h4,ih (listed.setIfInBounds j true) a' w' jy (ready_mono hr (Ne.symm cz)) h3.1 h4 ?_⟩;rw[Array.setIfInBounds_comm _ _ cz];exact h3.2.2
theorem zmN{i:Nat}{oi:Oper}{v:Value}{fuel:Nat}{listed:Array Bool}{a:Act}{w:World}(b:Bool)(hb:listed.getD m false=b)(hi:ops[i]?=some oi)(kr:i≠m)
 (hs:Region.noSelect ops=true)(hf:Region.free md ops listed i=true)(hr:(Region.ready md ops listed).contains i=true)
 (hQ:∀c a w,Q (.panic c) (a.put oi.dst v) w->Q (.panic c) a w)(hy:YieldsIf P ops (fun _=>True) oi v a)(hS:S b w)
 (h:zcp P md ops Q m S fuel (listed.setIfInBounds i true) (a.put oi.dst v) w):zcp P md ops Q m S (fuel+1) listed a w:=
 zk0 kr hi (Region.noSelect_spec hs) hQ fuel listed a w (Region.free_spec hi hf) (by simpa using hr) hy (by rw[hb];exact hS) h
def AllReadyM(P:Program)(md:Region.Mode)(ops:Array Oper)(Q:Exit->Act->World->Prop)(m:Nat)(S:Bool->World->Prop)(fuel:Nat)(listed:Array Bool)(a:Act)(w:World)(rs:List Nat):Prop:=
 ∀i∈rs,wpOp P ops Q i (fun a' w'=>S ((listed.setIfInBounds i true).getD m false) w'/\zcp P md ops Q m S fuel (listed.setIfInBounds i true) a' w') a w
theorem AllReadyM.nil{fuel:Nat}{listed:Array Bool}{a:Act}{w:World}:AllReadyM P md ops Q m S fuel listed a w []:=fun _ h=>by cases h
theorem AllReadyM.cons{fuel:Nat}{listed:Array Bool}{a:Act}{w:World}{i:Nat}{o:Oper}{rs:List Nat}(ho:ops[i]?=some o)(b:Bool)(hb:(listed.setIfInBounds i true).getD m false=b)
 (h:∀K':Act->World->Prop,Shut (∀a w,S b w->(S b w->zcp P md ops Q m S fuel (listed.setIfInBounds i true) a w)->K' a w)->if Region.wanted o (yielded ops a.tmps)=true then Oper.wp P o a w K' Q else K' (a.put o.dst undef) w)
 (hs:AllReadyM P md ops Q m S fuel listed a w rs):AllReadyM P md ops Q m S fuel listed a w (i::rs):=fun j hj=>by
 rcases List.mem_cons.1 hj with rfl|hj
 ·rw[hb];exact wpOp_step ho (fun K' hK=>h K' (fun a w hS hW=>hK a w ⟨hS,hW hS⟩))
 ·exact hs j hj
theorem zhw{rs:List Nat}{fuel:Nat}{listed:Array Bool}{a:Act}{w:World}(hr:Region.ready md ops listed=rs)(ai:rs≠[])
 (h:AllReadyM P md ops Q m S fuel listed a w rs):zcp P md ops Q m S (fuel+1) listed a w:=⟨fun h0=>absurd (hr▸h0) ai,hr▸h⟩
theorem zaI{listed:Array Bool}{a:Act}{w:World}(hr:Region.ready md ops listed=[])(h:Q .normal a w):∀fuel,zcp P md ops Q m S fuel listed a w
 |0=>⟨hr,h⟩
 |_+1=>⟨fun _=>h,by rw[hr];simp⟩
theorem zaB{id:Nat}{a:Act}{w:World}(m:Nat)(S:Bool->World->Prop)(hm:P.follows .mixedOrders=true)(hS:S false w.drew)
 (h:S false w.drew->zcp P .any ops Q m S ops.size (Array.replicate ops.size false) a w.drew):(Code.region id ops true).wp P Q a w:=
 wp_region_any hm (zjF _ _ _ _ (h hS))
end
theorem TkM{P:Program}{ops:Array Oper}{Q:Exit->Act->World->Prop}{md:Region.Mode}{m:Nat}{S:Bool->World->Prop}(i:Nat){oi:Oper}{v:Value}{fuel:Nat}{listed:Array Bool}{a a':Act}{w:World}(h:zcp P md ops Q m S fuel (listed.setIfInBounds i true) a' w)(hi:ops[i]?=some oi:=by exact List.getElem?_toArray.trans rfl)(kr:i≠m:=by decide)(ai:needs md ops i 9 m=true:=by kernel_rfl)(bk:zkz md ops listed=true:=by kernel_rfl)
 (hs:Region.noSelect ops=true:=by kernel_rfl)(hf:Region.free md ops listed i=true:=by kernel_rfl)(hr:(Region.ready md ops listed).contains i=true:=by kernel_rfl)
 (hQ:∀c a w,Q (.panic c) (a.put oi.dst v) w->Q (.panic c) a w:=by exact fun _ _ _ h=>h)(hy:YieldsIf P ops (S false) oi v a:=by(refine Or.inl ⟨by rfl,?_⟩;intro w tT;(try dsimp only at tT);replace tT:=tT.resolve_left Bool.false_ne_true;go_simp;first|done|with_reducible rfl))(hS:S false w:=by assumption)
 (ha:a.put oi.dst v=a':=by((try simp only[Act.put,List.setIfInBounds_toArray,List.set_cons_zero,List.set_cons_succ]);rfl)):zcp P md ops Q m S (fuel+1) listed a w:=
 zmM 9 hi kr ai bk hs hf hr hQ hy hS (ha▸h)
theorem OnM{P:Program}{ops:Array Oper}{Q:Exit->Act->World->Prop}{md:Region.Mode}{m:Nat}{S:Bool->World->Prop}(i:Nat)(b:Bool){o:Oper}{fuel:Nat}{listed:Array Bool}{a:Act}{w:World}(h:∀K':Act->World->Prop,Shut (∀a w,S b w->(S b w->zcp P md ops Q m S fuel (listed.setIfInBounds i true) a w)->K' a w)->if Region.wanted o (yielded ops a.tmps)=true then Oper.wp P o a w K' Q else K' (a.put o.dst undef) w)
 (hr:Region.ready md ops listed=[i]:=by kernel_rfl)(ho:ops[i]?=some o:=by exact List.getElem?_toArray.trans rfl)(hb:(listed.setIfInBounds i true).getD m false=b:=by kernel_rfl):zcp P md ops Q m S (fuel+1) listed a w:=zhw (rs:=[i]) hr Mcp (AllReadyM.cons ho b hb h AllReadyM.nil)
theorem FrM{P:Program}{ops:Array Oper}{Q:Exit->Act->World->Prop}{md:Region.Mode}{m:Nat}{S:Bool->World->Prop}(i:Nat)(b:Bool){oi:Oper}{v:Value}{fuel:Nat}{listed:Array Bool}{a a':Act}{w:World}(h:zcp P md ops Q m S fuel (listed.setIfInBounds i true) a' w)(hb:listed.getD m false=b:=by kernel_rfl)(hi:ops[i]?=some oi:=by exact List.getElem?_toArray.trans rfl)(kr:i≠m:=by decide)
 (hs:Region.noSelect ops=true:=by kernel_rfl)(hf:Region.free md ops listed i=true:=by kernel_rfl)(hr:(Region.ready md ops listed).contains i=true:=by kernel_rfl)
 (hQ:∀c a w,Q (.panic c) (a.put oi.dst v) w->Q (.panic c) a w:=by exact fun _ _ _ h=>h)(hy:YieldsIf P ops (fun _=>True) oi v a:=by(refine Or.inl ⟨by rfl,?_⟩;intro w tT;go_simp;first|done|with_reducible rfl))(hS:S b w:=by first|assumption|trivial)
 (ha:a.put oi.dst v=a':=by((try simp only[Act.put,List.setIfInBounds_toArray,List.set_cons_zero,List.set_cons_succ]);rfl)):zcp P md ops Q m S (fuel+1) listed a w:=
 zmN b hb hi kr hs hf hr hQ hy hS (ha▸h)
theorem TwM{P:Program}{ops:Array Oper}{Q:Exit->Act->World->Prop}{md:Region.Mode}{m:Nat}{S:Bool->World->Prop}(i j:Nat){o p:Oper}{fuel:Nat}{listed:Array Bool}{a:Act}{w:World}(h:∀K':Act->World->Prop,Shut (∀a w,S false w->(S false w->zcp P md ops Q m S fuel (listed.setIfInBounds i true) a w)->K' a w)->if Region.wanted o (yielded ops a.tmps)=true then Oper.wp P o a w K' Q else K' (a.put o.dst undef) w)(k:∀K':Act->World->Prop,Shut (∀a w,S false w->(S false w->zcp P md ops Q m S fuel (listed.setIfInBounds j true) a w)->K' a w)->if Region.wanted p (yielded ops a.tmps)=true then Oper.wp P p a w K' Q else K' (a.put p.dst undef) w)
 (hr:Region.ready md ops listed=[i,j]:=by kernel_rfl)(ho:ops[i]?=some o:=by exact List.getElem?_toArray.trans rfl)(hp:ops[j]?=some p:=by exact List.getElem?_toArray.trans rfl)(hb:(listed.setIfInBounds i true).getD m false=false:=by kernel_rfl)(hc:(listed.setIfInBounds j true).getD m false=false:=by kernel_rfl):zcp P md ops Q m S (fuel+1) listed a w:=zhw (rs:=[i,j]) hr Mcp (AllReadyM.cons ho false hb h (AllReadyM.cons hp false hc k AllReadyM.nil))
end
open Go.RowKit Go.Shelf
structure DV where
 d:Deed
 B:Option Addr
 c:Nat
def DV.cells(x:DV):List Value:=[.int .i64 x.d.kind,.int .i64 x.d.day,.string x.d.place,.string x.d.frm,.slice x.B x.d.to.length x.c,.int .i64 x.d.cls,.int .i64 x.d.years]
theorem zbn(x:DV):x.cells.length=7:=rfl
theorem zew(x:DV):∀u∈x.cells,u.oneCell'=true:=by simp[DV.cells,Value.oneCell']
theorem zfm(x:RPart):x.cells.length=3:=rfl
theorem rp_one(x:RPart):∀u∈x.cells,u.oneCell'=true:=by simp[RPart.cells,Value.oneCell']
theorem lw_one(x:Law):∀u∈x.cells,u.oneCell'=true:=by simp[Law.cells,Value.oneCell']
theorem elRPart:ElTy Tryz.prog 26 62 3 32:=zd3 (z:=.agg #[.string ⟨#[]⟩,.int .i64 0,.int .i64 0]) Mcn Mcn rfl Mco
theorem elLaw:ElTy Tryz.prog 22 72 4 32:=zd3 (z:=.agg #[.int .i64 0,.bool false,.int .i64 0,.int .i64 0]) Mcn Mcn rfl Mco
theorem zex:ElTy Tryz.prog 23 28 7 88:=zd3 (z:=.agg #[.int .i64 0,.int .i64 0,.string ⟨#[]⟩,.string ⟨#[]⟩,.slice none 0 0,.int .i64 0,.int .i64 0]) Mcn Mcn rfl Mco
theorem made_part(W:World):OwnS (W.alloc (.cells #[] 62)) W.heap.size 62 3 RPart.cells (.slice (some ⟨W.heap.size,0,none⟩) 0 0) []:=
 OwnS.of_own zfm (World.ownsRow_made W #[] 0 (Nat.le_refl _) (Nat.zero_le _) Mcp)
theorem made_law(W:World):OwnS (W.alloc (.cells #[] 72)) W.heap.size 72 4 Law.cells (.slice (some ⟨W.heap.size,0,none⟩) 0 0) []:=
 OwnS.of_own (fun _=>rfl) (World.ownsRow_made W #[] 0 (Nat.le_refl _) (Nat.zero_le _) Mcp)
theorem zc5{w:World}{g:Nat}{z0 z1 z2 z3 z4 z5 z6 a b c d e f h':Value}{t:TypeId}{fr:Nat×Nat}(h:w.heap[g]?=some (.cells #[z0,z1,z2,z3,z4,z5,z6] t fr)):
 (((((((w.setCell ⟨g,0,none⟩ a).setCell ⟨g,1,none⟩ b).setCell ⟨g,2,none⟩ c).setCell ⟨g,3,none⟩ d).setCell ⟨g,4,none⟩ e).setCell ⟨g,5,none⟩ f).setCell ⟨g,6,none⟩ h').heap[g]?=some (.cells #[a,b,c,d,e,f,h'] t fr):=by
 have:=Joins.block_setCell (i:=6) (Joins.block_setCell (i:=5) (Joins.block_setCell (i:=4) (Joins.block_setCell (i:=3) (Joins.block_setCell (i:=2) (Joins.block_setCell (i:=1) (Joins.block_setCell (i:=0) h a) b) c) d) e) f) h';simpa using this
theorem zl0{fn:Func}{p:Tmp}(h:fn.results= #[.cell p 28])(tmps:Array Value)(w:World)(B:Nat)(x0 x1 x2 x3 x4 x5 x6:Value)(hp:tmps.getD p undef=.pointer (some ⟨B,0,none⟩))
 (hx:w.heap[B]?=some (.cells #[x0,x1,x2,x3,x4,x5,x6] 28)):(results fn tmps).run Tryz.prog w=.ok (.agg #[x0,x1,x2,x3,x4,x5,x6]) w:=by
 obtain⟨h0,h1,h2,h3,h4,h5,h6⟩:=cF7 hx;exact Ma2
def zg3(w:World)(d:Deed)(e:Ending)(w':World):Prop:=
 ∃B c,e=.returned (d.v B c)/\d.to.length<=c/\Ro w' 62 RPart.cells B d.to/\Below w.heap.size w w'
theorem znX(d:Deed)(B:Option Addr)(c:Nat)(w:World)(hl:d.to.length<=100000)(hS:Sl w 3 RPart.cells B d.to):Calls Tryz.prog 9 #[d.v B c] w (zg3 w d):=by
 obtain⟨kd,dy,pl,fr,ts,cl,yr⟩:=d;have HS:=zHi hS;unfold zg3 Deed.v;simp only at hl hS⊢;clear hS;go_enter Tryz.func9,Tryz.ntmps9
 go_upto_region 1 with fail
 obtain⟨W1,aI⟩:∃W1,W1=(w.alloc (.cells #[.int .i64 kd,.int .i64 dy,.string pl,.string fr,.slice B ts.length c,.int .i64 cl,.int .i64 yr] 28)).alloc (.cells #[.int .i64 0,.int .i64 0,.string ⟨#[]⟩,.string ⟨#[]⟩,.slice none 0 0,.int .i64 0,.int .i64 0] 28):=⟨_,rfl⟩
 have b0:W1.heap[w.heap.size]?=some (.cells #[.int .i64 kd,.int .i64 dy,.string pl,.string fr,.slice B ts.length c,.int .i64 cl,.int .i64 yr] 28):=Mda;have r0:W1.heap[w.heap.size+1]?=some (.cells #[.int .i64 0,.int .i64 0,.string ⟨#[]⟩,.string ⟨#[]⟩,.slice none 0 0,.int .i64 0,.int .i64 0] 28):=by rw[aI];exact zas _ _ _ Mcp
 have bE:Below w.heap.size w W1:=Mdz;rw[<-aI];have aB:=zHi bE;clear aI bE;have l0:=zab b0;have l1:=zab r0;obtain⟨-,-,-,-,c4⟩:=cF5 b0;have aY:w.heap.size+1+1<=W1.heap.size:=Mcm;have dE:=zHi aY;clear aY
 go_upto_region 2 with(at_builtin
                       go_loud(refine zau (v:=.slice (some ⟨W1.heap.size,0,none⟩) 0 0) (n:=0) (m:=ts.length) rfl _ _ rfl elRPart zfm rp_one rfl (xs:=[]) (ys:=ts) (made_part W1) rfl rfl rfl (HS.o.keep (aB.o.trans (Below.mono (B:=W1.heap.size) Bw aB.o.size))) McS Mcm Mcp ?_)
                       intro v2 w2 h1 h2 h3;rw[List.nil_append]at h1;have e1:w2.heap[w.heap.size]?=_:=(h2.block w.heap.size Mcr MdG).trans (zak b0);have e2:w2.heap[w.heap.size+1]?=_:=(h2.block (w.heap.size+1) Mcr MdG).trans (zak r0);have bF:Below W1.heap.size W1 w2:=Below.grown (zac (Below.refl _ _) _) h2 Mcp Mc0;obtain⟨A2,c2,rfl,cd,s2⟩:=h1.ro;have f4:w2.frozen? ⟨w.heap.size,4,none⟩=false:=by simp[World.frozen?,e1]
                       obtain⟨-,-,-,-,k4⟩:=cF5 e1
                       clear h1 h2 h3)
 exact Mv
theorem own_neC{α:Type}{W:World}{base:Nat}{e t:TypeId}{size:Nat}{f:α->List Value}{v:Value}{xs:List α}{T:Nat}{cs:Array Value}{fr:Nat×Nat}(h:OwnS W base e size f v xs)(hT:W.heap[T]?=some (.cells cs t fr))(ai:t≠e):za7 v≠some T:=by
 exact M3
theorem zf8{α β:Type}{W W':World}{base size:Nat}{e e':TypeId}{f:α->List Value}{g:β->List Value}{v:Value}{A:Option Addr}{xs:List α}{ys:List β}(h:Ro W e' f A xs)(ae:OwnS W base e size g v ys)(hg:W.grownBy W' (za7 v))(ai:e'≠e):Ro W' e' f A xs:=
 h.same fun b cur fr hb _=>hg.block b (zab hb) (Ne.symm (own_neC ae hb ai))
theorem zey{α:Type}{w:World}{b size:Nat}{f:α->List Value}{t:TypeId}{fr:Nat×Nat}{cs:Array Value}{xs:List α}(ag:∀x,(f x).length=size)(h:w.heap[b]?=some (.cells cs t fr))(hc:xs.flatMap f=cs.toList):Sl w size f (some ⟨b,0,none⟩) xs:=fun _=>
 ⟨b,0,rfl,zab h,fun k x hk j u hu=>by
   have:=zeV f size ag xs k x hk j u hu;rw[hc]at this;simp only[World.cell?,h,Nat.zero_add]
   simpa using this⟩
theorem ziA{fn:Func}{p:Tmp}(h:fn.results= #[.cell p 25])(tmps:Array Value)(w:World)(B:Nat)(x0 x1:Value)(hp:tmps.getD p undef=.pointer (some ⟨B,0,none⟩))
 (hx:w.heap[B]?=some (.cells #[x0,x1] 25)):(results fn tmps).run Tryz.prog w=.ok (.agg #[x0,x1]) w:=by
 obtain⟨h0,h1⟩:=cF2 hx;exact Ma2
theorem znY{W:World}{A:Option Addr}{xs:List DV}{ds:List Deed}(h:Sl W 7 DV.cells A xs)(hm:xs.map (·.d)=ds)(hp:∀x∈xs,x.d.to.length<=x.c/\Sl W 3 RPart.cells x.B x.d.to):SlW W 7 zdY A ds:=fun hl=>by
 subst hm;obtain⟨b,off,hA,hb,hc⟩:=h (by simpa using hl);refine⟨b,off,hA,hb,fun k x hk=>?_⟩;rw[List.getElem?_map]at hk;obtain⟨y,hy,rfl⟩:=Option.map_eq_some_iff.1 hk;have:=hp y (List.mem_of_getElem? hy);exact⟨y.cells,⟨y.B,y.c,this.1,rfl,this.2⟩,fun j u hu=>hc k y hy j u hu⟩
def CopyPost(w:World)(ls:List Law)(ds:List Deed)(e:Ending)(w':World):Prop:=
 ∃A nc B mc,e=.returned (.agg #[.slice A ls.length nc,.slice B ds.length mc])/\RightsIn w' ls ds A ls.length nc B ds.length mc/\Below w.heap.size w w'
def CopyOwn(w:World)(ls:List Law)(ds:List Deed)(e:Ending)(w':World):Prop:=
 ∃A nc B mc base xs,e=.returned (.agg #[.slice A ls.length nc,.slice B ds.length mc])/\ls.length<=nc/\Ro w' 72 Law.cells A ls/\xs.map DV.d=ds/\(∀x∈xs,x.d.to.length<=x.c/\Ro w' 62 RPart.cells x.B x.d.to)/\OwnS w' base 28 7 DV.cells (.slice B ds.length mc) xs/\w.heap.size<=base/\base<=w'.heap.size/\Below w.heap.size w w'
theorem ziB(ls:List Law)(ds:List Deed)(LA:Option Addr)(n nc:Nat)(DA:Option Addr)(m mc:Nat)(w:World)(hR:RightsIn w ls ds LA n nc DA m mc)(hl:ls.length<=1000)(hd:ds.length<=1000)(ht:∀d∈ds,d.to.length<=100000):
 Calls Tryz.prog 8 #[.agg #[.slice LA n nc,.slice DA m mc]] w (CopyOwn w ls ds):=by
 obtain⟨rfl,rfl,xS,sK,eC,gy⟩:=hR;obtain⟨cM,cJ,HT⟩:=yH3 eC gy ht;clear eC gy ht;go_enter Tryz.func8,Tryz.ntmps8
 go_upto_region 1 with fail
 obtain⟨W1,aI⟩:∃W1,W1=(w.alloc (.cells #[.slice LA ls.length nc,.slice DA ds.length mc] 25)).alloc (.cells #[.slice none 0 0,.slice none 0 0] 25):=⟨_,rfl⟩
 have b0:W1.heap[w.heap.size]?=some (.cells #[.slice LA ls.length nc,.slice DA ds.length mc] 25):=Mda;have r0:W1.heap[w.heap.size+1]?=some (.cells #[.slice none 0 0,.slice none 0 0] 25):=by rw[aI];exact zas _ _ _ Mcp
 have bE:Below w.heap.size w W1:=Mdz;rw[<-aI];have aB:=zHi bE;clear aI bE;have l0:=zab b0;have l1:=zab r0;obtain c0:=cF1 b0
 go_upto_region 2 with(at_builtin
                       go_loud(refine zau (v:=.slice (some ⟨W1.heap.size,0,none⟩) 0 0) (n:=0) (m:=ls.length) rfl _ _ rfl elLaw (fun _=>rfl) lw_one rfl (xs:=[]) (ys:=ls) (made_law W1) rfl rfl rfl (cM.o.keep (aB.o.trans (Below.mono (B:=W1.heap.size) Bw aB.o.size))) McS Mcm Mcp ?_)
                       intro v2 w2 h1 h2 h3;rw[List.nil_append]at h1;have e1:w2.heap[w.heap.size]?=_:=(h2.block w.heap.size Mcr MdG).trans (zak b0);have e2:w2.heap[w.heap.size+1]?=_:=(h2.block (w.heap.size+1) Mcr MdG).trans (zak r0);have bF:Below W1.heap.size W1 w2:=Below.grown (zac (Below.refl _ _) _) h2 Mcp Mc0;obtain⟨A2,c2,rfl,cd,s2⟩:=h1.ro
                       clear h1 h2 h3)
 obtain⟨S2,aA⟩:=yH2 s2 (aB.o.trans (bF.mono aB.o.size));have bo:=aA.o.size;have m0:=zab e1;have m1:=zab e2;clear s2 bF aB b0 r0 c0 l0 l1 cM;obtain⟨OB,gW⟩:∃OB,OB=w2.heap.size:=⟨_,rfl⟩
 have rv:Below OB w2 (w2.alloc (.cells #[.slice A2 ls.length c2,.slice none 0 0] 25)):=by rw[gW];exact Bw
 have o3:(w2.alloc (.cells #[.slice A2 ls.length c2,.slice none 0 0] 25)).heap[OB]?=some (.cells #[.slice A2 ls.length c2,.slice none 0 0] 25):=zas _ _ _ gW;go_upto_region 3 with fail
 rw[<-gW];have zr:=zHi gW;go_loopw [4] (fun i wr=>∃(k:Nat) (xs:List DV) (v:Value),k<=ds.length/\i=.int .i64 k/\Hid (xs.map (·.d)=ds.take k)/\Hid (∀x∈xs,x.d.to.length<=x.c/\Ro wr 62 RPart.cells x.B x.d.to)/\OwnS wr (OB+1) 28 7 DV.cells v xs/\wr.heap[OB]?=some (.cells #[.slice A2 ls.length c2,v] 25)/\Below OB w2 wr) (fun i _=>ds.length-(intOf i).toNat)
 case atStart=>exact⟨0,[],.slice none 0 0,Nat.zero_le _,rfl,zHi Mcp,zHi Mcp,OwnS.nil,o3,rv⟩
 case round=>
  obtain⟨k,xs,v,hk,rfl,HM,HP,ae,ho,hB⟩:=hrel;have iZ:=zab ho;have fe:Below w.heap.size w wr:=aA.o.trans (hB.mono Mcm);have aE:=fe.size;have b1:wr.heap[w.heap.size]?=some (.cells #[.slice LA ls.length nc,.slice DA ds.length mc] 25):=(hB.block _ Mcm).trans e1;have r1:wr.heap[w.heap.size+1]?=some (.cells #[.slice none 0 0,.slice none 0 0] 25):=(hB.block _ Mcm).trans e2;obtain⟨-,p2⟩:=cF2 b1;obtain⟨VA,vc,rfl,_,jV⟩:=ae.sl zbn;have bs:xs.length=k:=by
   have:=congrArg List.length HM.o;simp at this;omega
  by_cases aa:k<ds.length
  ·obtain⟨b,off,cs,hA,hb,hr,ah⟩:=(cJ.o.keep zb5 fe).at aa;have dR:ds.take (k+1)=ds.take k++[ds[k]]:=by rw[List.take_add_one,List.getElem?_eq_getElem aa];rfl
   have cL:=HT.o _ (List.getElem_mem aa);have am:=zHi aa;generalize ds[k]=x at*;obtain⟨B,c,hc,rfl,hS⟩:=hr;have fB:=zHi (fun W' (h:Below wr.heap.size wr W')=>znX x B c W' cL (hS.keep h));unfold Deed.v at fB;subst hA;obtain⟨-,p1⟩:=cF2 ho;rw[bs]at p1;have i0:=ah 0 _ rfl;have i1:=ah 1 _ rfl;have i2:=ah 2 _ rfl;have i3:=ah 3 _ rfl;have i4:=ah 4 _ rfl;have i5:=ah 5 _ rfl;have i6:=ah 6 _ rfl;simp only[Nat.add_zero]at i0;have au:(k:Int)<(ds.length:Int):=Mcm;have aP:(0:Int)<=(k:Int):=Mcm;obtain⟨dU,eZ,dH,BE,HB⟩:=yH5 dR bs ae ho hB;have ql:w.heap.size<wr.heap.size:=Mcm
   have ax:=zHi (fun(w':World) (h:Below wr.heap.size wr w')=>(show w'.cell? ⟨OB,1,none⟩=some (.slice VA k vc)/\w'.cell? ⟨w.heap.size,1,none⟩=some (.slice (some ⟨b,off,none⟩) ds.length mc)/\w'.cell? ⟨b,off+k*7,none⟩=some (.int .i64 x.kind)/\w'.cell? ⟨b,off+k*7+1,none⟩=some (.int .i64 x.day)/\w'.cell? ⟨b,off+k*7+2,none⟩=some (.string x.place)/\w'.cell? ⟨b,off+k*7+3,none⟩=some (.string x.frm)/\w'.cell? ⟨b,off+k*7+4,none⟩=some (.slice B x.to.length c)/\w'.cell? ⟨b,off+k*7+5,none⟩=some (.int .i64 x.cls)/\w'.cell? ⟨b,off+k*7+6,none⟩=some (.int .i64 x.years) from
    ⟨(zah h iZ).trans p1,(zah h ql).trans p2,(zah h hb).trans i0,(zah h hb).trans i1,(zah h hb).trans i2,(zah h hb).trans i3,(zah h hb).trans i4,(zah h hb).trans i5,(zah h hb).trans i6⟩))
   clear ah aa hS ae ho hB dR bs cL gW;go_upto_region 5 with fail
   refine zaB 9 (fun bb w'=>bb=true\/(w'.cell? ⟨OB,1,none⟩=some (.slice VA k vc)/\w'.cell? ⟨w.heap.size,1,none⟩=some (.slice (some ⟨b,off,none⟩) ds.length mc)/\w'.cell? ⟨b,off+k*7,none⟩=some (.int .i64 x.kind)/\w'.cell? ⟨b,off+k*7+1,none⟩=some (.int .i64 x.day)/\w'.cell? ⟨b,off+k*7+2,none⟩=some (.string x.place)/\w'.cell? ⟨b,off+k*7+3,none⟩=some (.string x.frm)/\w'.cell? ⟨b,off+k*7+4,none⟩=some (.slice B x.to.length c)/\w'.cell? ⟨b,off+k*7+5,none⟩=some (.int .i64 x.cls)/\w'.cell? ⟨b,off+k*7+6,none⟩=some (.int .i64 x.years))) Mcn (.inr (ax.o _ (zaH (Below.refl _ _)))) ?hrest
   case hrest=>
    intro hHeld;refine TkM 0 ?_;refine TkM 1 ?_;refine TkM 2 ?_;refine TkM 3 ?_;refine TkM 4 ?_;refine TkM 5 ?_;refine TkM 6 ?_;refine OnM 7 false fun K hK=>?_
    go_simp
    refine(fB.o _ (zaH (Below.refl _ _))).mono ?_;rintro e w5 ⟨B5,c5,rfl,mi,ro5,aq⟩;unfold Deed.v;have cG:Below wr.heap.size wr w5:=(zaH (Below.refl _ _):Below wr.heap.size wr wr.drew).trans aq;refine NxM hK (fun hHeld=>?_) (.inr (ax.o _ cG));clear hK K;refine OnM 8 false fun K hK=>?_
    go_simp
    have aG:Below wr.heap.size wr (w5.alloc (.cells #[.int .i64 x.kind,.int .i64 x.day,.string x.place,.string x.frm,.slice B5 x.to.length c5,.int .i64 x.cls,.int .i64 x.years] 28)):=zac cG _;have n6:(w5.alloc (.cells #[.int .i64 x.kind,.int .i64 x.day,.string x.place,.string x.frm,.slice B5 x.to.length c5,.int .i64 x.cls,.int .i64 x.years] 28)).heap[w5.heap.size]?=some (.cells #[.int .i64 x.kind,.int .i64 x.day,.string x.place,.string x.frm,.slice B5 x.to.length c5,.int .i64 x.cls,.int .i64 x.years] 28):=zas _ _ _ rfl;have ro6:Ro (w5.alloc (.cells #[.int .i64 x.kind,.int .i64 x.day,.string x.place,.string x.frm,.slice B5 x.to.length c5,.int .i64 x.cls,.int .i64 x.years] 28)) 62 RPart.cells B5 x.to:=ro5.keep (n:=w5.heap.size) (zac (Below.refl _ _) _);refine NxM hK (fun hHeld=>?_) (.inr (ax.o _ aG));clear hK K;refine OnM 9 true fun K hK=>?_
    generalize w5.alloc (.cells #[.int .i64 x.kind,.int .i64 x.day,.string x.place,.string x.frm,.slice B5 x.to.length c5,.int .i64 x.cls,.int .i64 x.years] 28)=W6 at*;have ow6:=dH.o.keep aG;refine zal (v:=.slice VA k vc) (n:=k) (m:=1) rfl _ _ rfl zex zbn zew rfl (xs:=xs) (ys:=[⟨x,B5,c5⟩]) (by have:=ow6;rw[eZ.o]at this;exact this) eZ.o rfl rfl (zey zbn n6 Mew) McS Mcm MdH ?_;intro v7 w7 h1 h2 h3;obtain⟨A7,c7,ja,_,_⟩:=h1.sl zbn;rw[List.length_append]at ja;subst ja;have ow7:OwnS W6 (OB+1) 28 7 DV.cells (.slice VA k vc) xs:=by have:=ow6;rw[eZ.o]at this;exact this
    have o7:w7.heap[OB]?=some (.cells #[.slice A2 ls.length c2,.slice VA xs.length vc] 25):=(h2.block OB MdH (fun e=>by have:=ow7.ge _ e.symm;omega)).trans ((aG.block OB iZ).trans BE.o);have ro7:Ro w7 62 RPart.cells B5 x.to:=zf8 ro6 ow7 h2 Mco;have rs7:∀y∈xs,y.d.to.length<=y.c/\Ro w7 62 RPart.cells y.B y.d.to:=fun y hy=>⟨(HP.o y hy).1,zf8 ((HP.o y hy).2.keep aG) ow7 h2 Mco⟩
    have aR:Below OB w2 w7:=Below.grown (HB.o.trans (aG.mono Mcm)) h2 (by have:=HB.o.size;have:=aG.size;omega) (fun j hj=>by have:=ow7.ge _ hj;omega);have f7:w7.frozen? ⟨OB,1,none⟩=false:=by simp[World.frozen?,o7]
    obtain⟨-,t7⟩:=cF2 o7;refine NxM hK fun hHeld=>?_
    clear hK K;refine OnM 10 true fun K hK=>?_
    go_simp
    refine NxM hK fun hHeld=>?_
    clear hK K;refine OnM 11 true fun K hK=>?_
    go_simp
    refine NxM hK fun hHeld=>?_
    clear hK K;refine zaI Mcn ?_ _;clear hHeld;go_wp2_with fail
    go_round
    case rel=>
     refine⟨k+1,xs++[⟨x,B5,c5⟩],_,am.o,by go_num,zHi (by rw[List.map_append,HM.o,dU.o];rfl),zHi (fun y hy=>?_),h1.grown (zar _ _ _ _) (.inr fun e=>by have:=h1.ge _ e;omega),?_,zaL aR (Nat.le_refl _) _⟩
     ·exact Mam
     ·have:=Joins.block_setCell (i:=1) o7 (.slice A7 (xs.length+[(⟨x,B5,c5⟩:DV)].length) c7);simpa using this
    case measure=>have:=am.o;simp only[intOf];omega
  ·have au:¬(k:Int)<(ds.length:Int):=Mcm;have ug:xs.map (·.d)=ds:=by rw[HM.o,List.take_of_length_le Mcm]
   have bQ:xs.length=ds.length:=by rw[<-ug,List.length_map]
   obtain⟨-,p1⟩:=cF2 ho;obtain p0:=cF1 ho;obtain⟨t0,t1⟩:=cF2 r1;have f0:∀j,wr.frozen? ⟨w.heap.size+1,j,none⟩=false:=fun j=>by simp[World.frozen?,r1]
   rw[bQ]at p1;obtain⟨Bt,jM,dH,HB,aW⟩:=yH5 ug bQ ae hB fe;clear ug bQ ae hB fe aa bs ho gW;go_wp2_with fail
   refine bodyPost_ret (v:=.agg #[.slice A2 ls.length c2,.slice VA ds.length vc]) ?_ rfl ?_
   ·exact ziA rfl _ _ (w.heap.size+1) _ _ rfl (zeo r1)
   ·have rr:=Joins.block_setCell (i:=0) r1 (.slice A2 ls.length c2);have jC:∀ {α:Type} {e:TypeId} {f:α->List Value} {A:Option Addr} {ys:List α},e≠25->Ro wr e f A ys->Ro ((wr.setCell ⟨w.heap.size+1,0,none⟩ (.slice A2 ls.length c2)).setCell ⟨w.heap.size+1,1,none⟩ (.slice VA ds.length vc)) e f A ys:=fun ai h=>
     (h.kept (zar _ _ _ _) r1 (fun e=>ai e.symm)).kept (zar _ _ _ _) rr (fun e=>ai e.symm)
    have AB:=zeo (a:=.slice A2 ls.length c2) (b:=.slice VA ds.length vc) r1;refine⟨A2,c2,VA,vc,OB+1,xs,rfl,cd,jC Mco (S2.o.keep (n:=OB) HB.o (by have:=zr.o;omega)),Bt.o,fun y hy=>⟨(HP.o y hy).1,jC Mco (HP.o y hy).2⟩,?_,by have:=zr.o;omega,by simp;omega,zaL (zaL aW.o Mcp _) Mcp _⟩;have ho:=dH.o;rw[jM.o]at ho;have h1:=ho.grown (zar wr (w.heap.size+1) 0 (.slice A2 ls.length c2)) (.inr fun e=>by have:=ho.ge _ e;have:=zr.o;omega);exact h1.grown (zar _ (w.heap.size+1) 1 (.slice VA ds.length vc)) (.inr fun e=>by have:=ho.ge _ e;have:=zr.o;omega)
theorem zoD(ls:List Law)(ds:List Deed)(LA:Option Addr)(n nc:Nat)(DA:Option Addr)(m mc:Nat)(w:World)(hR:RightsIn w ls ds LA n nc DA m mc)(hl:ls.length<=1000)(hd:ds.length<=1000)(ht:∀d∈ds,d.to.length<=100000):
 Calls Tryz.prog 8 #[.agg #[.slice LA n nc,.slice DA m mc]] w (CopyPost w ls ds):=by
 refine(ziB ls ds LA n nc DA m mc w hR hl hd ht).mono ?_;rintro e w' ⟨A,a,D,c,b,xs,rfl,ha,hL,hm,hp,ho,hb,_,hB⟩;obtain⟨D',c',he,hx,hc⟩:=ho.sl zbn;simp only[Value.slice.injEq]at he;obtain⟨rfl,_,rfl⟩:=he;have hk:xs.length=ds.length:=by rw[<-hm,List.length_map]
 exact⟨A,a,D,c,rfl,⟨rfl,rfl,ha,by omega,hL.sl fun _=>rfl,znY hx hm fun y hy=>⟨(hp y hy).1,(hp y hy).2.sl zfm⟩⟩,hB⟩
