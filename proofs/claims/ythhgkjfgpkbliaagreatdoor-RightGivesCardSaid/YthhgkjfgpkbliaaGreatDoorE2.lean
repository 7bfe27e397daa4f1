import Derived.Test.YthhgkjfgpkbliaaGreatDoorJO
set_option linter.all false
set_option maxRecDepth 100000
set_option maxHeartbeats 4000000
namespace Go.Proofs.YthhgkjfgpkbliaaGreatDoor
open Go.RowKit
section
open Go.Shelf
section
variable {base k:Nat} {W W':World} {B:List Nat} {es:Array MapEntry} {ec:Nat}
theorem TombAt.keptM{T:Nat}{g:Grave}(h:TombAt W base B T g)(hg:W.grownBy W' (some k))(hx:W.heap[k]?=some (.map es ec)):TombAt W' base B T g:=by
 obtain⟨H,hc,D,dc,fr',t1,t2,t3,t4,t5,t6,t7⟩:=h;exact⟨H,hc,D,dc,fr',(hg.block T (zad t1) (fun e=>by simp only[Option.some.injEq]at e;subst e;unfold zbe at t1;rw[t1]at hx;simp at hx)).trans t1,t2,t3,t4,t5.keptM hg hx,t6.keptM hg hx,t7⟩
theorem TombsAt.keptM{ps:List Nat}{tv:Value}{gs:List Grave}(h:TombsAt base W B tv ps gs)(hg:W.grownBy W' (some k))(hx:W.heap[k]?=some (.map es ec)):TombsAt base W' B tv ps gs:=
 ⟨h.own.keptM hg hx,h.len,h.nd,fun i T g e1 e2=>(h.all i T g e1 e2).keptM hg hx⟩
theorem WldC.keptM{b d c p wl r:Nat}{mv tv:Value}{la co:Int}(h:WldC W b d c p wl r mv tv la co)(hg:W.grownBy W' (some k))(hx:W.heap[k]?=some (.map es ec)):WldC W' b d c p wl r mv tv la co:=
 (hg.block b (zad h) (fun e=>by simp only[Option.some.injEq]at e;subst e;unfold WldC at h;rw[h]at hx;simp at hx)).trans h
theorem RowIs.keptM{m:List (ByteArray×Value)}{n:ByteArray}{xs:List ByteArray}(h:RowIs W base m n xs)(hg:W.grownBy W' (some k))(hx:W.heap[k]?=some (.map es ec)):RowIs W' base m n xs:=by
 rcases h with h|⟨v,h1,h2⟩
 ·exact .inl h
 ·exact .inr ⟨v,h1,h2.keptM hg hx⟩
theorem WillIs.keptM{m:List (ByteArray×Value)}{n:ByteArray}{xs:Parts}(h:WillIs W m n xs)(hg:W.grownBy W' (some k))(hx:W.heap[k]?=some (.map es ec)):WillIs W' m n xs:=by
 rcases h with h|⟨A,c,h1,h2⟩
 ·exact .inl h
 ·exact .inr ⟨A,c,h1,h2.keptM hg hx⟩
theorem RowIs.kept{m:List (ByteArray×Value)}{n:ByteArray}{xs:List ByteArray}{cs:Array Value}{t:TypeId}{fr:Nat×Nat}(h:RowIs W base m n xs)(hg:W.grownBy W' (some k))(hx:W.heap[k]?=some (.cells cs t fr))(ht:t≠9):RowIs W' base m n xs:=by
 rcases h with h|⟨v,h1,h2⟩
 ·exact .inl h
 ·exact .inr ⟨v,h1,h2.kept hg hx ht⟩
theorem WillIs.kept{m:List (ByteArray×Value)}{n:ByteArray}{xs:Parts}{cs:Array Value}{t:TypeId}{fr:Nat×Nat}(h:WillIs W m n xs)(hg:W.grownBy W' (some k))(hx:W.heap[k]?=some (.cells cs t fr))(ht:t≠59):WillIs W' m n xs:=by
 rcases h with h|⟨A,c,h1,h2⟩
 ·exact .inl h
 ·exact .inr ⟨A,c,h1,h2.kept hg hx ht⟩
theorem zbd{b:Nat}{K V:Type}{ek:K->Value}{ev:V->Value}{m:List (K×V)}(h:MapS W b ek ev m):∃es c,W.heap[b]?=some (.map es c):=by
 obtain⟨es,c,h1,_⟩:=h;exact⟨es,c,h1⟩
variable {d c p wl r:Nat} {mv tv:Value} {s:St}
theorem ppl_will(h:PplAt base W B d c p wl r mv s)(hg:W.grownBy W' (some wl)){ws:List (ByteArray×Parts)}{m':List (ByteArray×Value)}(h1:MapS W' wl ekS (fun v:Value=>v) m')(h2:∀n,WillIs W' m' n (zbp {s with wills:=ws} n)):PplAt base W' B d c p wl r mv {s with wills:=ws}:=by
 obtain⟨mc,mp,k1,k2,k3,k4,k5,k6⟩:=h.rows;obtain⟨m,k7,k8⟩:=h.wills;obtain⟨es,ec,hx⟩:=zbd k7;have ca:=h.nd;simp only[List.nodup_cons,List.mem_cons,List.not_mem_nil,or_false,not_or]at ca;obtain⟨⟨n1,n2,n3,n4⟩,⟨n5,n6,n7⟩,⟨n8,n9⟩,n10,_⟩:=ca;refine⟨h.nd,h.ge,h.dead.grown hg (by simpa using n3),⟨mc,mp,k1.grown hg (by simpa using n6),k2.grown hg (by simpa using n8),fun n=>(k3 n).keptM hg hx,fun n=>(k4 n).keptM hg hx,k5,k6⟩,h.marr.keptM hg hx,⟨m',h1,h2⟩,h.ren.grown hg (by simpa using fun e=>n10 e.symm)⟩
theorem ppl_ren(h:PplAt base W B d c p wl r mv s)(hg:W.grownBy W' (some r)){rs:List (ByteArray×ByteArray)}(h1:MapS W' r ekP evB (rs.map fun x=>(x,true))):PplAt base W' B d c p wl r mv {s with renounce:=rs}:=by
 obtain⟨mc,mp,k1,k2,k3,k4,k5,k6⟩:=h.rows;obtain⟨m,k7,k8⟩:=h.wills;obtain⟨es,ec,hx⟩:=zbd h.ren;have ca:=h.nd;simp only[List.nodup_cons,List.mem_cons,List.not_mem_nil,or_false,not_or]at ca;obtain⟨⟨n1,n2,n3,n4⟩,⟨n5,n6,n7⟩,⟨n8,n9⟩,n10,_⟩:=ca;refine⟨h.nd,h.ge,h.dead.grown hg (by simpa using n4),⟨mc,mp,k1.grown hg (by simpa using n7),k2.grown hg (by simpa using n9),fun n=>(k3 n).keptM hg hx,fun n=>(k4 n).keptM hg hx,k5,k6⟩,h.marr.keptM hg hx,⟨m,k7.grown hg (by simpa using n10),fun n=>(k8 n).keptM hg hx⟩,h1⟩
theorem ppl_dead(h:PplAt base W B d c p wl r mv s)(hg:W.grownBy W' (some d)){ds:List ByteArray}{gs:List Grave}(h1:MapS W' d ekS evB (ds.map fun n=>(n,true))):PplAt base W' B d c p wl r mv {s with dead:=ds,graves:=gs}:=by
 obtain⟨mc,mp,k1,k2,k3,k4,k5,k6⟩:=h.rows;obtain⟨m,k7,k8⟩:=h.wills;obtain⟨es,ec,hx⟩:=zbd h.dead;have ca:=h.nd;simp only[List.nodup_cons,List.mem_cons,List.not_mem_nil,or_false,not_or]at ca;obtain⟨⟨n1,n2,n3,n4⟩,⟨n5,n6,n7⟩,⟨n8,n9⟩,n10,_⟩:=ca;refine⟨h.nd,h.ge,h1,⟨mc,mp,k1.grown hg (by simpa using fun e=>n1 e.symm),k2.grown hg (by simpa using fun e=>n2 e.symm),fun n=>(k3 n).keptM hg hx,fun n=>(k4 n).keptM hg hx,k5,k6⟩,h.marr.keptM hg hx,⟨m,k7.grown hg (by simpa using fun e=>n3 e.symm),fun n=>(k8 n).keptM hg hx⟩,h.ren.grown hg (by simpa using fun e=>n4 e.symm)⟩
end
theorem ziH{K V:Type}{eq:K->K->Bool}{k:K}{v:V}:∀ {m:List (K×V)},mget eq k m=none->mput eq k v m=m++[(k,v)]
 | [],_=>rfl
 |x::m,h=>by
  rw[mget]at h;rw[mput];cases hk:eq k x.1
  ·rw[hk]at h;simp only[Bool.false_eq_true,if_false]at h;rw[if_neg MbF,ziH h];rfl
  ·rw[hk]at h;simp at h
theorem zhs{K:Type}{eq:K->K->Bool}{k:K}:∀ {l:List K},(mget eq k (l.map fun x=>(x,true))).getD false=false->mget eq k (l.map fun x=>(x,true))=none
 | [],_=>rfl
 |x::l,h=>by
  rw[List.map_cons,mget]at h⊢;cases hk:eq k x
  ·rw[hk]at h;simp only[Bool.false_eq_true,if_false]at h;rw[if_neg MbF];exact zhs h
  ·rw[hk]at h;simp at h
theorem rat_cells{l:List RPart}(h:∀p∈l,za2 16 p.num p.den=true){W:World}{A:Option Addr}(hS:Sl W 3 RPart.cells A l):Sl W 3 zaa A (zat l):=fun hl=>by
 unfold zat at hl;rw[List.length_map]at hl;obtain⟨b,off,hA,hb,hc⟩:=hS hl;refine⟨b,off,hA,hb,fun k x hk j u hu=>?_⟩;unfold zat at hk;rw[List.getElem?_map]at hk;cases hp:l[k]? with
 |none=>rw[hp]at hk;cases hk
 |some y=>
  rw[hp]at hk;simp only[Option.map_some,Option.some.injEq]at hk;subst hk;have hy:=zhl (h y (List.mem_of_getElem? hp));refine hc k y hp j u ?_;unfold zaa at hu;rw[hy.1,hy.2]at hu;exact hu
theorem zkJ{base b k:Nat}{W W':World}{B ps:List Nat}{d c p wl r:Nat}{mv tv:Value}{s':St}{gs:List Grave}{la co:Int}{es:Array MapEntry}{ec:Nat}(hb:base<=b)(hC:WldC W b d c p wl r mv tv la co)(hT:TombsAt base W B tv ps gs)(hg:W.grownBy W' (some k))(hx:W.heap[k]?=some (.map es ec))
 (dH:s'.graves=gs)(hP:PplAt base W' B d c p wl r mv s'):WldAt base W' b s' la co:=
 ⟨B,d,c,p,wl,r,mv,tv,ps,hb,hC.keptM hg hx,hP,by rw[dH];exact hT.keptM hg hx⟩
theorem wldC_set3{W:World}{b d c p wl r:Nat}{mv tv:Value}{la co:Int}(h:WldC W b d c p wl r mv tv la co)(v':Value):WldC (W.setCell ⟨b,3,none⟩ v') b d c p wl r v' tv la co:=by
 unfold WldC at*;have:=Joins.block_setCell (i:=3) h v';simpa using this
theorem wld_marry{base b:Nat}{W w1:World}{B ps:List Nat}{d c p wl r:Nat}{mv tv v':Value}{s:St}{ms:List (ByteArray×ByteArray)}{la co:Int}(hb:base<=b)(hC:WldC W b d c p wl r mv tv la co)(hP:PplAt base W B d c p wl r mv s)(hT:TombsAt base W B tv ps s.graves)
 (h1:OwnS w1 base 171 2 zb9 v' ms)(h2:W.grownBy w1 (za1 mv)):WldAt base (w1.setCell ⟨b,3,none⟩ v') b {s with marriages:=ms} la co/\WldC w1 b d c p wl r mv tv la co:=by
 have bu:=zad hC;have ae:=hP.marr;have aL:∀k,za1 mv=some k->∃cs fr,W.heap[k]?=some (.cells cs 171 fr):=fun k hk=>by
  exact Mav
 have ft:za1 mv≠some b:=fun e=>by
  obtain⟨cs,fr,hx⟩:=aL b e;exact Mbd
 have bt:WldC w1 b d c p wl r mv tv la co:=(h2.block b bu (fun e=>ft e.symm)).trans hC;obtain⟨mc,mp,k1,k2,k3,k4,k5,k6⟩:=hP.rows;obtain⟨m,k7,k8⟩:=hP.wills;have aw:=zay w1 b 3 v';refine⟨⟨B,d,c,p,wl,r,v',tv,ps,hb,wldC_set3 bt v',?_,?_⟩,bt⟩
 ·cases hk:za1 mv with
  |none=>
   rw[hk]at h2;have dO:Below W.heap.size W w1:=⟨h2.os,h2.tape,h2.output,h2.size,fun i hi=>h2.block i hi MbF⟩
   exact⟨hP.nd,hP.ge,(hP.dead.below dO).keptC aw bt,⟨mc,mp,(k1.below dO).keptC aw bt,(k2.below dO).keptC aw bt,fun n=>((k3 n).keep dO).kept aw bt MbD,fun n=>((k4 n).keep dO).kept aw bt MbD,k5,k6⟩,h1.kept aw bt MbD,⟨m,(k7.below dO).keptC aw bt,fun n=>((k8 n).keep dO).kept aw bt MbD⟩,(hP.ren.below dO).keptC aw bt⟩
  |some k=>
   obtain⟨cs,fr,hx⟩:=aL k hk;rw[hk]at h2;exact⟨hP.nd,hP.ge,(hP.dead.keptC h2 hx).keptC aw bt,⟨mc,mp,(k1.keptC h2 hx).keptC aw bt,(k2.keptC h2 hx).keptC aw bt,fun n=>((k3 n).kept h2 hx MbD).kept aw bt MbD,fun n=>((k4 n).kept h2 hx MbD).kept aw bt MbD,k5,k6⟩,h1.kept aw bt MbD,⟨m,(k7.keptC h2 hx).keptC aw bt,fun n=>((k8 n).kept h2 hx MbD).kept aw bt MbD⟩,(hP.ren.keptC h2 hx).keptC aw bt⟩
 ·cases hk:za1 mv with
  |none=>
   rw[hk]at h2;have dO:Below W.heap.size W w1:=⟨h2.os,h2.tape,h2.output,h2.size,fun i hi=>h2.block i hi MbF⟩
   exact(hT.keep dO).kept aw bt MbD MbD MbD MbD
  |some k=>
   obtain⟨cs,fr,hx⟩:=aL k hk;rw[hk]at h2;exact(hT.kept h2 hx MbD MbD MbD MbD).kept aw bt MbD MbD MbD MbD
end
theorem ze1{out:Parts}{t f:Rat}{n:ByteArray}{fl:Bool}(h:Bd out t)(hf:0<=f):Bd (zcx n f (out,fl)).1 (t+f):=h.set n hf
theorem Bd.up6{out:Parts}{t u:Rat}(h:Bd out t)(hu:t<=u):Bd out u:=⟨h.good,h.small,Rat.le_trans h.le hu⟩
theorem ziI{part:Rat}(hp:0<=part)(n:Nat):zaQ (part*(1/(n:Rat)))*(n:Rat)<=part:=by
 have h1:=zfH (zdK hp n);by_cases hn:n=0
 ·subst hn;have:((0:Nat):Rat)=0:=rfl;rw[this,Rat.mul_zero];exact hp
 ·have tg:(n:Rat)≠0:=by
   have:=ratI (n:=(n:Int)) MbC;rwa [Rat.intCast_natCast]at this
  have h2:part*(1/(n:Rat))*(n:Rat)=part:=by
   rw[ziD];exact Rat.div_mul_cancel tg
  have h3:=Rat.mul_le_mul_of_nonneg_right h1 (Rat.natCast_nonneg (a:=n));rw[h2]at h3;exact h3
theorem zht(n:Nat):((n+1:Nat):Rat)=(n:Rat)+1:=by
 rw[Rat.natCast_add];rfl
mutual
theorem zg4{part:Rat}(hp:0<=part):∀ {l:List Tree} {out:Parts} {fl:Bool} {t:Rat},Bd out t->Bd (zbz part l (out,fl)).1 (t+part*(l.length:Rat))
 | [],out,fl,t,h=>by
   rw[zbz];have e:((([]:List Tree).length:Nat):Rat)=0:=rfl;rw[e,Rat.mul_zero,Rat.add_zero];exact h
 |x::l,out,fl,t,h=>by
  rw[zbz];have h1:=zg4 hp (l:=l) (fl:=(zdj part x (out,fl)).2) (tree_bd hp (t':=x) (fl:=fl) h);rw[List.length_cons,zht];exact h1.up6 MbV
theorem tree_bd{part:Rat}(hp:0<=part):∀ {t':Tree} {out:Parts} {fl:Bool} {t:Rat},Bd out t->Bd (zdj part t' (out,fl)).1 (t+part)
 | .leaf n,out,fl,t,h=>by
   rw[zdj];exact ze1 h hp
 | .node l,out,fl,t,h=>by
   rw[zdj];have h1:=zg4 (zcc (zdK hp l.length)) (l:=l) (fl:=fl||bigQ (part*(1/(l.length:Rat)))) h;have h2:=ziI hp l.length;exact h1.up6 MbV
end
def WideN:Nat->List Tree->Prop
 |0,l=>l=[]
 |f+1,l=>l.length<=1000/\∀l',Tree.node l'∈l->WideN f l'
theorem zij{s:St}{stems:Bool}{frm:ByteArray}(hl:s.children.length<=1000):∀(f:Nat) (n:ByteArray),WideN f (zbF s stems frm f n)
 |0,_=>rfl
 |f+1,n=>by
  refine⟨?_,fun l' hm=>?_⟩
  ·unfold zbF;refine Nat.le_trans (List.length_filterMap_le _ _) ?_;exact MaE
  ·unfold zbF at hm;obtain⟨c,_,hc⟩:=List.mem_filterMap.1 hm;split at hc
   ·simp at hc
   ·split at hc
    ·simp only[Option.some.injEq,Tree.node.injEq]at hc;rw[<-hc];exact zij hl f c
    ·cases hc
theorem zlD{n:Nat}(h:0<n):((1:Rat)/(n:Rat)).num=1/\(((1:Rat)/(n:Rat)).den:Int)=n/\0<=(1:Rat)/(n:Rat)/\(1:Rat)/(n:Rat)<=1:=by
 have hs:za2 (n:Int) 1 (n:Int)=true:=by
  unfold za2;simp;omega
 have:=zbo hs;rw[Rat.divInt_eq_div,Rat.intCast_natCast]at this;exact this
theorem one_small{n:Nat}(h:0<n)(h1:n<=1000):zaD ((1:Rat)/(n:Rat)):=by
 obtain⟨h2,h3,h4,h5⟩:=zlD h;exact zcl h4 h5 (by unfold bigQ;rw[h3];simp;omega)
theorem part_ok{q:Rat}(h0:0<=q)(h1:q<=1){n:Nat}(hn:0<n):0<=zaQ (q*(1/(n:Rat)))/\zaQ (q*(1/(n:Rat)))<=1/\zaD (zaQ (q*(1/(n:Rat))))/\zaQ (q*(1/(n:Rat)))*(n:Rat)<=q:=by
 have h2:=zcc (zdK h0 n);have h3:=ziI h0 n;have h4:zaQ (q*(1/(n:Rat)))<=zaQ (q*(1/(n:Rat)))*(n:Rat):=by
  have h5:(1:Rat)<=(n:Rat):=by
   have:((1:Nat):Rat)<=(n:Rat):=Rat.natCast_le_natCast.2 hn;exact this
  have:=Rat.mul_le_mul_of_nonneg_left h5 h2;rwa [Rat.mul_one]at this
 have h6:zaQ (q*(1/(n:Rat)))<=1:=Rat.le_trans h4 (Rat.le_trans h3 h1);exact⟨h2,h6,zcl h2 h6 (zfo _),h3⟩
theorem take_le{part:Rat}(hp:0<=part){k n:Nat}(h:k<=n):part*(k:Rat)<=part*(n:Rat):=
 Rat.mul_le_mul_of_nonneg_left (Rat.natCast_le_natCast.2 h) hp
theorem zkK(part:Rat)(l:List Tree)(x:Parts×Bool){k:Nat}(h:k<l.length):zbz part (l.take (k+1)) x=zdj part l[k] (zbz part (l.take k) x):=by
 rw[List.take_succ_eq_append_getElem h,zfp,zbz,zbz]
def zj5(out:Parts)(p:ByteArray×Value):Option (ByteArray×Rat):=if 0<zab out p.1 then some (p.1,zab out p.1)else none
def colP(out:Parts)(l:List (ByteArray×Value)):Parts:=l.filterMap (zj5 out)
theorem colP_snoc(out:Parts)(l:List (ByteArray×Value))(p:ByteArray×Value):colP out (l++[p])=colP out l++(zj5 out p).toList:=by
 unfold colP;rw[List.filterMap_append];cases h:zj5 out p<;>simp[List.filterMap,h]
theorem zm0{l:Parts}{n:ByteArray}(h:zab l n≠0):(n,zab l n)∈l:=by
 unfold zab at h⊢;cases hf:l.find? (fun p=>zag p.1 n)with
 |none=>rw[hf]at h;exact absurd rfl h
 |some p=>
  have h1:=List.mem_of_find?_eq_some hf;have h2:=List.find?_some hf;have h3:p.1=n:=zak.1 h2;rw[<-h3];exact h1
theorem zm1{l:Parts}(h:GoodParts l):l.Nodup:=by
 refine h.asc.imp fun {a b} dj e=>?_
 rw[e,zeb]at dj;cases dj
theorem zlE{out:Parts}(hg:GoodParts out){mm:List (ByteArray×Value)}(ca:(mm.map (·.1)).Nodup)(ew:∀n,(mget eqS n mm=none/\zab out n=0)\/mget eqS n mm=some (za9 (zab out n))):(colP out mm).Perm out:=by
 refine(List.perm_ext_iff_of_nodup ?_ (zm1 hg)).2 fun a=>?_
 ·unfold colP;have h1:((mm.map (·.1)).filterMap fun n=>if 0<zab out n then some (n,zab out n)else none).Nodup:=by
   refine List.Pairwise.filterMap _ ?_ ca;intro a b dj x hx y hy e;split at hx
   ·split at hy
    ·simp only[Option.some.injEq]at hx hy;rw[<-hx,<-hy]at e;exact dj (congrArg Prod.fst e)
    ·cases hy
   ·cases hx
  rw[List.filterMap_map]at h1;exact h1
 ·constructor
  ·intro ha;obtain⟨p,hp,h1⟩:=List.mem_filterMap.1 ha;unfold zj5 at h1;split at h1
   ·rename_i h0
    simp only[Option.some.injEq]at h1;rw[<-h1];exact zm0 (by intro e;rw[e]at h0;exact absurd h0 MbD)
   ·cases h1
  ·intro ha;have h1:=zed hg ha;have h2:=hg.pos a ha;have h3:mget eqS a.1 mm=some (za9 (zab out a.1)):=by
    rcases ew a.1 with⟨_,h⟩|h
    ·rw[h1]at h;rw[h]at h2;exact absurd h2 MbD
    ·exact h
   refine List.mem_filterMap.2 ⟨_,zc5 h3,?_⟩;unfold zj5;rw[h1,if_pos h2]
def UpP(L:Parts):Prop:=L.Pairwise fun a b=>zbm b.1 a.1=false
theorem zj6{ls L:Parts}(h:GoodParts ls)(hp:L.Perm ls)(hs:UpP L):L=ls:=by
 have mR:L.Pairwise (fun x y:ByteArray×Rat=>zbm y.1 x.1=false):=hs;refine List.Perm.eq_of_pairwise (le:=fun x y:ByteArray×Rat=>zbm y.1 x.1=false) ?_ mR ?_ hp
 ·intro a b ha hb h1 h2;have jy:a∈ls:=hp.mem_iff.1 ha;obtain⟨i,hi,rfl⟩:=List.getElem_of_mem jy;obtain⟨j,hj,rfl⟩:=List.getElem_of_mem hb;rcases Nat.lt_trichotomy i j with cL|cL|cL
  ·have:=List.pairwise_iff_getElem.1 h.asc i j hi hj cL;rw[this]at h2;cases h2
  ·subst cL;rfl
  ·have:=List.pairwise_iff_getElem.1 h.asc j i hj hi cL;rw[this]at h1;cases h1
 ·refine h.asc.imp fun {a b} dj=>?_
  exact zhZ dj
theorem zik{α:Type}{x:α}:∀ {l:List α} {i:Nat},l[i]?=some x->(x::l.eraseIdx i).Perm l
 | [],i,h=>by simp at h
 |y::l,0,h=>by
  simp only[List.getElem?_cons_zero,Option.some.injEq]at h;rw[h];exact List.Perm.refl _
 |y::l,i+1,h=>by
  simp only[List.getElem?_cons_succ]at h;rw[List.eraseIdx_cons_succ];exact(List.Perm.swap y x _).trans (List.Perm.cons y (zik h))
theorem done_perm{α:Type}{d l m:List α}{i:Nat}{x:α}(h:(d++l).Perm m)(hx:l[i]?=some x):((d++[x])++l.eraseIdx i).Perm m:=by
 rw[List.append_assoc];refine List.Perm.trans ?_ h;exact List.Perm.append_left d (zik hx)
theorem zgg(s:St)(frm:ByteArray):∀(a b:Parts) (x:Parts×Bool) (rest:Rat),zc8 s frm (a++b) x rest=zc8 s frm b (zc8 s frm a x rest).1 (zc8 s frm a x rest).2
 | [],_,_,_=>rfl
 |p::a,b,x,rest=>by
  rw[List.cons_append,zc8,zc8];split<;>exact zgg s frm a b _ _
theorem will_snoc(s:St)(frm:ByteArray)(l:Parts)(x:Parts×Bool)(rest:Rat){k:Nat}(h:k<l.length):zc8 s frm (l.take (k+1)) x rest=
 if zgl s l[k].1 frm then(zcx l[k].1 l[k].2 (zc8 s frm (l.take k) x rest).1,(zc8 s frm (l.take k) x rest).2-l[k].2)else zc8 s frm (l.take k) x rest:=by
 rw[List.take_succ_eq_append_getElem h,zgg,zc8,zc8,zc8]
