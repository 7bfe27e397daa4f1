/- Walk of chapter 5's elements. -/
import Derived.Test.YtkhkhnellekofaaGreatDoorJO
import Derived.Test.YtkhkhnellekofaaGreatDoorO0
import Derived.Test.YtkhkhnellekofaaGreatDoorO1
import Derived.Test.YtkhkhnellekofaaGreatDoorJQ
import Derived.Test.YtkhkhnellekofaaGreatDoorO9
import Derived.Test.YtkhkhnellekofaaGreatDoorJS
set_option linter.unusedSimpArgs false
set_option linter.unusedVariables false
namespace Go.Proofs.YtkhkhnellekofaaGreatDoor
open Go.RowKit Go.Shelf
section
variable {base k:Nat} {W W':World} {B:List Nat} {es:Array MapEntry} {ec:Nat}
theorem TombAt.keptM {T:Nat} {g:Grave} (h:TombAt W base B T g) (hg:W.grownBy W' (some k)) (hx:W.heap[k]?=some (.map es ec)):TombAt W' base B T g:=by
 obtain⟨H,hc,D,dc,fr',t1,t2,t3,t4,t5,t6,t7⟩:=h
 exact⟨H,hc,D,dc,fr',(hg.block T (blk_lt t1) (fun e=>by simp only[Option.some.injEq]at e;subst e;unfold TombC at t1;rw[t1]at hx;simp at hx)).trans t1,t2,t3,t4,t5.keptM hg hx,t6.keptM hg hx,t7⟩
theorem TombsAt.keptM {ps:List Nat} {tv:Value} {gs:List Grave} (h:TombsAt base W B tv ps gs) (hg:W.grownBy W' (some k)) (hx:W.heap[k]?=some (.map es ec)):TombsAt base W' B tv ps gs:=
 ⟨h.own.keptM hg hx,h.len,h.nd,fun i T g e1 e2=>(h.all i T g e1 e2).keptM hg hx⟩
theorem WldC.keptM {b d c p wl r:Nat} {mv tv:Value} {la co:Int} (h:WldC W b d c p wl r mv tv la co) (hg:W.grownBy W' (some k)) (hx:W.heap[k]?=some (.map es ec)):WldC W' b d c p wl r mv tv la co:=
 (hg.block b (blk_lt h) (fun e=>by simp only[Option.some.injEq]at e;subst e;unfold WldC at h;rw[h]at hx;simp at hx)).trans h
theorem RowIs.keptM {m:List (ByteArray×Value)} {n:ByteArray} {xs:List ByteArray} (h:RowIs W base m n xs) (hg:W.grownBy W' (some k)) (hx:W.heap[k]?=some (.map es ec)):RowIs W' base m n xs:=by
 rcases h with h|⟨v,h1,h2⟩
 ·exact .inl h
 ·exact .inr ⟨v,h1,h2.keptM hg hx⟩
theorem WillIs.keptM {m:List (ByteArray×Value)} {n:ByteArray} {xs:Parts} (h:WillIs W m n xs) (hg:W.grownBy W' (some k)) (hx:W.heap[k]?=some (.map es ec)):WillIs W' m n xs:=by
 rcases h with h|⟨A,c,h1,h2⟩
 ·exact .inl h
 ·exact .inr ⟨A,c,h1,h2.keptM hg hx⟩
theorem RowIs.kept {m:List (ByteArray×Value)} {n:ByteArray} {xs:List ByteArray} {cs:Array Value} {t:TypeId} {fr:Nat×Nat} (h:RowIs W base m n xs) (hg:W.grownBy W' (some k)) (hx:W.heap[k]?=some (.cells cs t fr)) (ht:t≠9):RowIs W' base m n xs:=by
 rcases h with h|⟨v,h1,h2⟩
 ·exact .inl h
 ·exact .inr ⟨v,h1,h2.kept hg hx ht⟩
theorem WillIs.kept {m:List (ByteArray×Value)} {n:ByteArray} {xs:Parts} {cs:Array Value} {t:TypeId} {fr:Nat×Nat} (h:WillIs W m n xs) (hg:W.grownBy W' (some k)) (hx:W.heap[k]?=some (.cells cs t fr)) (ht:t≠63):WillIs W' m n xs:=by
 rcases h with h|⟨A,c,h1,h2⟩
 ·exact .inl h
 ·exact .inr ⟨A,c,h1,h2.kept hg hx ht⟩
theorem mapS_block {b:Nat} {K V:Type} {ek:K->Value} {ev:V->Value} {m:List (K×V)} (h:MapS W b ek ev m): ∃es c,W.heap[b]?=some (.map es c):=by
 obtain⟨es,c,h1,_⟩:=h
 exact⟨es,c,h1⟩
variable {d c p wl r:Nat} {mv tv:Value} {s:St}
theorem ppl_will (h:PplAt base W B d c p wl r mv s) (hg:W.grownBy W' (some wl)) {ws:List (ByteArray×Parts)} {m':List (ByteArray×Value)} (h1:MapS W' wl ekS (fun v:Value=>v) m') (h2: ∀n,WillIs W' m' n (willOf {s with wills:=ws} n)):PplAt base W' B d c p wl r mv {s with wills:=ws}:=by
 obtain⟨mc,mp,k1,k2,k3,k4,k5,k6⟩:=h.rows
 obtain⟨m,k7,k8⟩:=h.wills
 obtain⟨es,ec,hx⟩:=mapS_block k7
 have hnd:=h.nd
 simp only[List.nodup_cons,List.mem_cons,List.not_mem_nil,or_false,not_or]at hnd
 obtain⟨⟨n1,n2,n3,n4⟩,⟨n5,n6,n7⟩,⟨n8,n9⟩,n10,_⟩:=hnd
 refine⟨h.nd,h.ge,h.dead.grown hg (by simpa using n3),⟨mc,mp,k1.grown hg (by simpa using n6),k2.grown hg (by simpa using n8),fun n=>(k3 n).keptM hg hx,fun n=>(k4 n).keptM hg hx,k5,k6⟩,h.marr.keptM hg hx,⟨m',h1,h2⟩,h.ren.grown hg (by simpa using fun e=>n10 e.symm)⟩
theorem ppl_ren (h:PplAt base W B d c p wl r mv s) (hg:W.grownBy W' (some r)) {rs:List (ByteArray×ByteArray)} (h1:MapS W' r ekP evB (rs.map fun x=>(x,true))):PplAt base W' B d c p wl r mv {s with renounce:=rs}:=by
 obtain⟨mc,mp,k1,k2,k3,k4,k5,k6⟩:=h.rows
 obtain⟨m,k7,k8⟩:=h.wills
 obtain⟨es,ec,hx⟩:=mapS_block h.ren
 have hnd:=h.nd
 simp only[List.nodup_cons,List.mem_cons,List.not_mem_nil,or_false,not_or]at hnd
 obtain⟨⟨n1,n2,n3,n4⟩,⟨n5,n6,n7⟩,⟨n8,n9⟩,n10,_⟩:=hnd
 refine⟨h.nd,h.ge,h.dead.grown hg (by simpa using n4),⟨mc,mp,k1.grown hg (by simpa using n7),k2.grown hg (by simpa using n9),fun n=>(k3 n).keptM hg hx,fun n=>(k4 n).keptM hg hx,k5,k6⟩,h.marr.keptM hg hx,⟨m,k7.grown hg (by simpa using n10),fun n=>(k8 n).keptM hg hx⟩,h1⟩
theorem ppl_dead (h:PplAt base W B d c p wl r mv s) (hg:W.grownBy W' (some d)) {ds:List ByteArray} {gs:List Grave} (h1:MapS W' d ekS evB (ds.map fun n=>(n,true))):PplAt base W' B d c p wl r mv {s with dead:=ds,graves:=gs}:=by
 obtain⟨mc,mp,k1,k2,k3,k4,k5,k6⟩:=h.rows
 obtain⟨m,k7,k8⟩:=h.wills
 obtain⟨es,ec,hx⟩:=mapS_block h.dead
 have hnd:=h.nd
 simp only[List.nodup_cons,List.mem_cons,List.not_mem_nil,or_false,not_or]at hnd
 obtain⟨⟨n1,n2,n3,n4⟩,⟨n5,n6,n7⟩,⟨n8,n9⟩,n10,_⟩:=hnd
 refine⟨h.nd,h.ge,h1,⟨mc,mp,k1.grown hg (by simpa using fun e=>n1 e.symm),k2.grown hg (by simpa using fun e=>n2 e.symm),fun n=>(k3 n).keptM hg hx,fun n=>(k4 n).keptM hg hx,k5,k6⟩,h.marr.keptM hg hx,⟨m,k7.grown hg (by simpa using fun e=>n3 e.symm),fun n=>(k8 n).keptM hg hx⟩,h.ren.grown hg (by simpa using fun e=>n4 e.symm)⟩
end
theorem mput_new {K V:Type} {eq:K->K->Bool} {k:K} {v:V}: ∀ {m:List (K×V)},mget eq k m=none->mput eq k v m=m++[(k,v)]
 | [],_=>rfl
 |x::m,h=>by
  rw[mget]at h
  rw[mput]
  cases hk:eq k x.1
  ·rw[hk]at h
   simp only[Bool.false_eq_true,if_false]at h
   rw[if_neg (by simp),mput_new h]
   rfl
  ·rw[hk]at h
   simp at h
theorem mget_true {K:Type} {eq:K->K->Bool} {k:K}: ∀ {l:List K},(mget eq k (l.map fun x=>(x,true))).getD false=false->mget eq k (l.map fun x=>(x,true))=none
 | [],_=>rfl
 |x::l,h=>by
  rw[List.map_cons,mget]at h⊢
  cases hk:eq k x
  ·rw[hk]at h
   simp only[Bool.false_eq_true,if_false]at h
   rw[if_neg (by simp)]
   exact mget_true h
  ·rw[hk]at h
   simp at h
theorem rat_cells {l:List RPart} (h: ∀p∈l,isShareP 16 p.num p.den=true) {W:World} {A:Option Addr} (hS:Sl W 3 RPart.cells A l):Sl W 3 partCells A (ratParts l):=fun hl=>by
 unfold ratParts at hl
 rw[List.length_map]at hl
 obtain⟨b,off,hA,hb,hc⟩:=hS hl
 refine⟨b,off,hA,hb,fun k x hk j u hu=> ?_⟩
 unfold ratParts at hk
 rw[List.getElem?_map]at hk
 cases hp:l[k]? with
 |none=>rw[hp]at hk;cases hk
 |some y=>
  rw[hp]at hk
  simp only[Option.map_some,Option.some.injEq]at hk
  subst hk
  have hy:=rpart_rat (h y (List.mem_of_getElem? hp))
  refine hc k y hp j u ?_
  unfold partCells at hu
  rw[hy.1,hy.2]at hu
  exact hu
theorem wld_map {base b k:Nat} {W W':World} {B ps:List Nat} {d c p wl r:Nat} {mv tv:Value} {s':St} {gs:List Grave} {la co:Int} {es:Array MapEntry} {ec:Nat} (hb:base<=b) (hC:WldC W b d c p wl r mv tv la co) (hT:TombsAt base W B tv ps gs) (hg:W.grownBy W' (some k)) (hx:W.heap[k]?=some (.map es ec))
 (hgr:s'.graves=gs) (hP:PplAt base W' B d c p wl r mv s'):WldAt base W' b s' la co:=
 ⟨B,d,c,p,wl,r,mv,tv,ps,hb,hC.keptM hg hx,hP,by rw[hgr];exact hT.keptM hg hx⟩
theorem wldC_set3 {W:World} {b d c p wl r:Nat} {mv tv:Value} {la co:Int} (h:WldC W b d c p wl r mv tv la co) (v':Value):WldC (W.setCell ⟨b,3,none⟩ v') b d c p wl r v' tv la co:=by
 unfold WldC at*
 have:=Joins.block_setCell (i:=3) h v'
 simpa using this
theorem wld_marry {base b:Nat} {W w1:World} {B ps:List Nat} {d c p wl r:Nat} {mv tv v':Value} {s:St} {ms:List (ByteArray×ByteArray)} {la co:Int} (hb:base<=b) (hC:WldC W b d c p wl r mv tv la co) (hP:PplAt base W B d c p wl r mv s) (hT:TombsAt base W B tv ps s.graves)
 (h1:OwnS w1 base 138 2 pairCells v' ms) (h2:W.grownBy w1 (blkOf mv)):WldAt base (w1.setCell ⟨b,3,none⟩ v') b {s with marriages:=ms} la co/\WldC w1 b d c p wl r mv tv la co:=by
 have hbl:=blk_lt hC
 have hown:=hP.marr
 have hcs: ∀k,blkOf mv=some k-> ∃cs fr,W.heap[k]?=some (.cells cs 138 fr):=fun k hk=>by
  rcases hown with⟨rfl,_⟩|⟨g',o,c',cur,rfl,_,hg',_⟩
  ·cases hk
  ·simp only[blkOf,Option.some.injEq]at hk
   subst hk
   exact⟨cur,_,hg'⟩
 have hbt:blkOf mv≠some b:=fun e=>by
  obtain⟨cs,fr,hx⟩:=hcs b e
  unfold WldC at hC
  rw[hC]at hx
  simp at hx
 have hC1:WldC w1 b d c p wl r mv tv la co:=(h2.block b hbl (fun e=>hbt e.symm)).trans hC
 obtain⟨mc,mp,k1,k2,k3,k4,k5,k6⟩:=hP.rows
 obtain⟨m,k7,k8⟩:=hP.wills
 have hgs:=grown_set w1 b 3 v'
 refine⟨⟨B,d,c,p,wl,r,v',tv,ps,hb,wldC_set3 hC1 v',?_,?_⟩,hC1⟩
 ·cases hk:blkOf mv with
  |none=>
   rw[hk]at h2
   have hBl:Below W.heap.size W w1:=⟨h2.os,h2.tape,h2.output,h2.size,fun i hi=>h2.block i hi (by simp)⟩
   exact⟨hP.nd,hP.ge,(hP.dead.below hBl).keptC hgs hC1,⟨mc,mp,(k1.below hBl).keptC hgs hC1,(k2.below hBl).keptC hgs hC1,fun n=>((k3 n).keep hBl).kept hgs hC1 (by decide),fun n=>((k4 n).keep hBl).kept hgs hC1 (by decide),k5,k6⟩,h1.kept hgs hC1 (by decide),⟨m,(k7.below hBl).keptC hgs hC1,fun n=>((k8 n).keep hBl).kept hgs hC1 (by decide)⟩,(hP.ren.below hBl).keptC hgs hC1⟩
  |some k=>
   obtain⟨cs,fr,hx⟩:=hcs k hk
   rw[hk]at h2
   exact⟨hP.nd,hP.ge,(hP.dead.keptC h2 hx).keptC hgs hC1,⟨mc,mp,(k1.keptC h2 hx).keptC hgs hC1,(k2.keptC h2 hx).keptC hgs hC1,fun n=>((k3 n).kept h2 hx (by decide)).kept hgs hC1 (by decide),fun n=>((k4 n).kept h2 hx (by decide)).kept hgs hC1 (by decide),k5,k6⟩,h1.kept hgs hC1 (by decide),⟨m,(k7.keptC h2 hx).keptC hgs hC1,fun n=>((k8 n).kept h2 hx (by decide)).kept hgs hC1 (by decide)⟩,(hP.ren.keptC h2 hx).keptC hgs hC1⟩
 ·cases hk:blkOf mv with
  |none=>
   rw[hk]at h2
   have hBl:Below W.heap.size W w1:=⟨h2.os,h2.tape,h2.output,h2.size,fun i hi=>h2.block i hi (by simp)⟩
   exact(hT.keep hBl).kept hgs hC1 (by decide) (by decide) (by decide) (by decide)
  |some k=>
   obtain⟨cs,fr,hx⟩:=hcs k hk
   rw[hk]at h2
   exact(hT.kept h2 hx (by decide) (by decide) (by decide) (by decide)).kept hgs hC1 (by decide) (by decide) (by decide) (by decide)
end Go.Proofs.YtkhkhnellekofaaGreatDoor
namespace Go.Proofs.YtkhkhnellekofaaGreatDoor
open Go.RowKit
theorem sum_takeQ (l:Parts) (h: ∀p∈l,0<p.2) (k:Nat):sumQ (l.take k)<=sumQ l:=by
 induction l generalizing k with
 |nil=>simp
 |cons p l ih=>
  cases k with
  |zero=>
   have h1:0<=sumQ l:=by
    have:=ih (fun q hq=>h q (by simp[hq])) 0
    simpa[sumQ]using this
   have:=h p (by simp)
   rw[List.take_zero,sumQ,sumQ]
   grind
  |succ k=>
   have:=ih (fun q hq=>h q (by simp[hq])) k
   rw[List.take_succ_cons,sumQ,sumQ]
   grind
structure WillInv (y:(Parts×Bool)×Rat):Prop where
 flag:y.1.2=false
 bd:Bd y.1.1 (1-y.2)
 isN:IsN 720720 y.2
 nn:0<=y.2
 le:y.2<=1
 small:small5 y.2
theorem will_inv {s:St} {frm:ByteArray} {l:Parts} (hw:WillOk l) (k:Nat):WillInv (willF s frm (l.take k) ([],false) 1):=by
 have hp: ∀p∈l.take k,0<p.2:=fun p hp=>hw.pos p (List.mem_of_mem_take hp)
 have hN: ∀p∈l.take k,IsN 720720 p.2:=fun p hp=>hw.isN p (List.mem_of_mem_take hp)
 have h1:=will_same (s:=s) (frm:=frm) (rest:=1) hp hN good_nil (by simp)
 obtain⟨g1,g2,g3,g4,g5⟩:=will_go (s:=s) (frm:=frm) (out:=[]) (rest:=1) hp hN (Rat.le_trans (sum_takeQ l hw.pos k) hw.le) good_nil (by simp) (isN_one _)
 rw[h1]
 have gs:largeP (willGo s frm (l.take k) [] 1).1=false:=small_of (by decide) (by decide) g2
 have hn:=sum_nonneg (fun p hp=>by have:=g1.pos p hp;grind) (l:=(willGo s frm (l.take k) [] 1).1)
 have hs0:sumQ ([]:Parts)=0:=rfl
 rw[hs0]at g5
 have hle:(willGo s frm (l.take k) [] 1).2<=1:=by grind
 exact⟨rfl,⟨g1,gs,by grind⟩,g3,g4,hle,small_q g4 hle (isN_small (by decide) (by decide) g3)⟩
theorem filter_lt {α:Type} {p q:α->Bool}: ∀ {l:List α},(∀x∈l,p x=true->q x=true)->(∃x∈l,q x=true/\p x=false)->(l.filter p).length<(l.filter q).length
 | [],_,h=>by obtain⟨x,hx,_⟩:=h;cases hx
 |y::l,h1,h2=>by
  have hle: ∀ {l:List α},(∀x∈l,p x=true->q x=true)->(l.filter p).length<=(l.filter q).length:=by
   intro l
   induction l with
   |nil=>intro _;simp
   |cons z l ih=>
    intro h
    have:=ih (fun x hx=>h x (by simp[hx]))
    cases hp:p z
    ·cases hq:q z<;>simp[hp,hq]<;>omega
    ·have hq:=h z (by simp) hp
     simp[hp,hq]
     omega
  have hl:=hle (l:=l) (fun x hx=>h1 x (by simp[hx]))
  obtain⟨x,hx,h3,h4⟩:=h2
  rcases List.mem_cons.1 hx with rfl|hx
  ·simp[h3,h4]
   omega
  ·have:=filter_lt (l:=l) (fun x hx=>h1 x (by simp[hx])) ⟨x,hx,h3,h4⟩
   cases hp:p y
   ·cases hq:q y<;>simp[hp,hq]<;>omega
   ·have hq:=h1 y (by simp) hp
    simp[hp,hq]
    omega
open Classical in
noncomputable def edgesN (s:St) (n:ByteArray):Nat:=(s.children.filter fun e=>decide (e.1=n\/Desc s n e.1)).length
theorem edges_child {s:St} (ha: ∀a,¬Desc s a a) {n c:ByteArray} (hc:c∈childrenP s n):edgesN s c<edgesN s n:=by
 unfold edgesN
 have hd:=desc_child hc
 refine filter_lt (fun e _ h=> ?_) ⟨(n,c),mem_children.1 hc,by simp,?_⟩
 ·simp only[decide_eq_true_eq]at h⊢
  rcases h with h|h
  ·right;rw[h];exact hd
  ·right;exact desc_trans hd h
 ·simp only[decide_eq_false_iff_not,not_or]
  refine⟨fun e=> ?_,fun h=> ?_⟩
  ·have hd':Desc s n n:=by
    have:=hd
    rw[<-show n=c from e]at this
    exact this
   exact ha n hd'
  ·exact ha n (desc_trans hd h)
theorem deep_of {s:St} (ha: ∀a,¬Desc s a a): ∀(f:Nat) (n:ByteArray),edgesN s n<f->Deep s f n
 |0,_,h=>by omega
 |f+1,n,h=>fun c hc=>deep_of ha f c (by have:=edges_child ha hc;omega)
theorem deep_all {s:St} (ha: ∀a,¬Desc s a a) (n:ByteArray):Deep s (generations s) n:=deep_of ha _ n (by
 unfold generations edgesN
 exact Nat.lt_succ_of_le (List.length_filter_le _ _))
theorem part_big {q:Rat} (h0:0<q) (hb:bigQ q=false):1<=(1000000000:Rat)*q:=by
 unfold bigQ at hb
 have hd:(q.den:Int)<=1000000000:=by simpa using hb
 have hz:((q.den:Int):Rat)≠0:=ratI (by have:=q.den_pos;omega)
 have h1:q=q.num/((q.den:Int):Rat):=by rw[<-Rat.divInt_eq_div,Rat.num_divInt_den]
 have h1':q*((q.den:Int):Rat)=q.num:=by
  have:=Rat.div_mul_cancel (a:=(q.num:Rat)) hz
  rw[<-h1]at this
  exact this
 have hq:0<q.num:=by have:=(Rat.lt_iff 0 q).1 h0;simpa using this
 have h2:((1:Int):Rat)<=(q.num:Rat):=Rat.intCast_le_intCast.2 hq
 have h3:((q.den:Int):Rat)<=((1000000000:Int):Rat):=Rat.intCast_le_intCast.2 hd
 have h4:=Rat.mul_le_mul_of_nonneg_left h3 (show(0:Rat)<=q by grind)
 rw[h1']at h4
 have e1:((1:Int):Rat)=1:=rfl
 have e2:((1000000000:Int):Rat)=1000000000:=rfl
 rw[e1]at h2
 rw[e2]at h4
 grind
theorem parts_cnt: ∀ {l:Parts},(∀p∈l,0<p.2)->largeP l=false->(l.length:Rat)<=1000000000*sumQ l
 | [],_,_=>by
   have:((([]:Parts).length:Nat):Rat)=0:=rfl
   rw[this,sumQ]
   grind
 |p::l,h1,h2=>by
  unfold largeP at h2
  rw[List.any_cons,Bool.or_eq_false_iff]at h2
  have h3:=part_big (h1 p (by simp)) h2.1
  have h4:=parts_cnt (l:=l) (fun q hq=>h1 q (by simp[hq])) h2.2
  rw[List.length_cons,cast_succ,sumQ]
  grind
theorem Bd.len {out:Parts} {t:Rat} (h:Bd out t) (ht:t<=1):out.length<=1000000000:=by
 have h1:=parts_cnt h.good.pos h.small
 have h2:=h.le
 have h3:((out.length:Int):Rat)<=((1000000000:Int):Rat):=by
  have e2:((1000000000:Int):Rat)=1000000000:=rfl
  rw[e2,Rat.intCast_natCast]
  grind
 have:=Rat.intCast_le_intCast.1 h3
 omega
end Go.Proofs.YtkhkhnellekofaaGreatDoor
namespace Go.Proofs.YtkhkhnellekofaaGreatDoor
open Go.RowKit Go.Shelf
attribute [local go_sem] World.cell?_alloc_mark ext_size ext_cell ext_frozen lt_add_r lt_add_r2 lt_add_r3 lt_add_r4 lt_add_r5 lt_add_r6 lt_add_r7 lt_add_r8
attribute [local go_sem] ext_setCell alloc_setCell_lt
theorem elInt:ElTy Tryz.prog 25 3 1 8:=elTy_of (z:= .int .i64 0) (by kernel_rfl) (by kernel_rfl) rfl (by decide)
def TzTab (w:World):Prop:=TabAt 2 Lib.deBruijn64tab w/\2<w.heap.size
theorem TzTab.keep {w W:World} {n:Nat} (h:TzTab w) (hB:Below n w W) (hn:w.heap.size<=n:=by first|exact Nat.le_refl _|omega):TzTab W:=
 ⟨fun j hj=>(B_cell hB (Nat.lt_of_lt_of_le h.2 hn)).trans (h.1 j hj),Nat.lt_of_lt_of_le h.2 hB.size⟩
theorem tz_any (x:Nat) (hx:x<4096) (w:World) (hT:TzTab w):Calls Tryz.prog 65 #[.int .u64 x] w (Ret0 w (.int .i64 (Lib.ctz 64 x))):=
 (Any7.bits_TrailingZeros tzBits x (by omega) w (fun _=>hT.1)).mono fun _ _ h=>⟨h.1,h.2.symm⟩
theorem sl_int {w:World} {b n:Nat} {t:TypeId} {fr:Nat×Nat} (h:w.heap[b]?=some (.cells #[.int .i64 (n:Int)] t fr)):Sl w 1 intC (some ⟨b,0,none⟩) [n]:=fun _=>⟨b,0,rfl,blk_lt h,fun k y hy j u hu=>by
 have hk:k=0:=by have:=(List.getElem?_eq_some_iff.1 hy).1;simp at this;omega
 subst hk
 simp only[List.getElem?_cons_zero,Option.some.injEq]at hy
 subst hy
 match j,hu with
 |0,hu=>simp[intC]at hu;simp[World.cell?,h,<-hu]
 |j+1,hu=>simp[intC]at hu⟩
theorem bits_and_i64 (a b:Nat) (ha:a<4611686018427387904) (hb:b<4611686018427387904):bits .and .i64 (a:Int) (b:Int)=((a &&& b:Nat):Int):=by
 have hx:a &&& b<=a:=Nat.and_le_left
 have h1:(BitVec.ofInt 64 (a:Int)).toNat=a:=by
  rw[BitVec.ofInt_natCast,BitVec.toNat_ofNat];exact Nat.mod_eq_of_lt (by omega)
 have h2:(BitVec.ofInt 64 (b:Int)).toNat=b:=by
  rw[BitVec.ofInt_natCast,BitVec.toNat_ofNat];exact Nat.mod_eq_of_lt (by omega)
 show IntKind.i64.wrap ((BitVec.ofInt 64 (a:Int) &&& BitVec.ofInt 64 (b:Int)).toNat:Int)=_
 rw[BitVec.toNat_and,h1,h2,IntKind.wrap_i64]
 omega
theorem and_pred (x:Nat) (hx:x<4096) (h0:x≠0):bits .and .i64 (x:Int) ((x:Int)-1)=((x &&& (x-1):Nat):Int):=by
 rw[show((x:Int)-1)=((x-1:Nat):Int) by omega]
 exact bits_and_i64 x (x-1) (by omega) (by omega)
set_option maxRecDepth 100000 in
set_option maxHeartbeats 2000000 in
theorem elements_any (n set:Nat) (w:World) (hn:n<=12) (hx:set<2^n) (hT:TzTab w):
 Calls Tryz.prog 36 #[.int .i64 set] w (fun e w'=> ∃v,e= .returned v/\OwnS w' w.heap.size 3 1 intC v (bitsP n set)/\Below w.heap.size w w'):=by
 have HT:=Lib.hid hT
 clear hT
 go_enter Tryz.func36,Tryz.ntmps36
 go_wp2_with fail
 go_loopw [0,3] (fun v0 v wr=> ∃(x:Nat) (acc:List Nat),v0= .int .i64 x/\x<2^n/\Hid (bitsP n set=acc++bitsP n x)/\OwnS wr w.heap.size 3 1 intC v acc/\Below w.heap.size w wr) (fun v0 _ _=>(intOf v0).toNat)
 case atStart=>exact⟨set,[],rfl,hx,rfl,OwnS.nil,Below.refl _ _⟩
 case round=>
  obtain⟨x,acc,rfl,hx2,HX,hown,hB⟩:=hrel
  obtain⟨VA,vc,rfl,_,hvc⟩:=hown.sl intC_len
  have HO:=Lib.hid hown
  have HB:=Lib.hid hB
  have h12:x<4096:=Nat.lt_of_lt_of_le hx2 (Nat.pow_le_pow_right (n:=2) (by decide) hn)
  by_cases h0:x=0
  ·subst h0
   have hx9:=HX.out
   rw[bits_none,List.append_nil]at hx9
   have HX9:=Lib.hid hx9
   clear hx9 hown
   go_wp2_with fail
   go_ret
   exact⟨_,rfl,by rw[HX9.out];exact HO.out,HB.out⟩
  ·have hne: ¬(x:Int)=0:=by omega
   have hcv:IntKind.u64.wrap (x:Int)=(x:Int):=by rw[IntKind.wrap_u64];omega
   have HTZ:=Lib.hid (fun W (hW:Below wr.heap.size wr W)=>tz_any x h12 W ((HT.out.keep HB.out).keep hW))
   have hal:acc.length<=12:=by
    have h1:=congrArg List.length HX.out
    have h2:(bitsP n set).length<=n:=by unfold bitsP;exact Nat.le_trans (List.length_filter_le _ _) (by simp)
    rw[List.length_append]at h1
    omega
   have hbs:=hB.size
   clear hown hB
   go_upto_region 3 with
    (first
      |(go_at_call 65
        go_must(refine(HTZ.out _ Bw).mono ?_)
        rintro e wq ⟨rfl,rfl⟩)
      |(at_builtin
        go_loud(refine wpList_append_S (v:= .slice VA acc.length vc) (n:=acc.length) (m:=1) rfl _ _ rfl elInt intC_len intC_one rfl (xs:=acc) (ys:=[Lib.ctz 64 x]) (HO.out.keep (n:=wr.heap.size) Bw) rfl rfl rfl (sl_int (J_new _ _ _ rfl)) (by simp[maxLen];omega) (by omega) (by simp;omega) ?_)
        intro v3 w3 h1 h2 h3
        have hb3:=Below.grown (B:=w.heap.size) (a:=w) (HB.out.trans (Below.mono (B:=wr.heap.size) (B_alloc (Below.refl _ _) _) hbs)) h2 (by simp;omega) (fun j hj=>(HO.out.ge j hj).1)
        have H1:=Lib.hid h1
        have HB3:=Lib.hid hb3
        clear h1 h2 h3 hb3))
   go_wp2_with fail
   go_round
   case rel=>
    rw[and_pred x h12 h0]
    refine⟨x &&& (x-1),acc++[Lib.ctz 64 x],rfl,and_pred_lt hx2,?_,H1.out,HB3.out⟩
    show _=_
    rw[HX.out,bits_step hn hx2 h0]
    simp
   case measure=>
    rw[and_pred x h12 h0]
    have:=and_pred_dec h0
    simp only[intOf]
    omega
end Go.Proofs.YtkhkhnellekofaaGreatDoor
