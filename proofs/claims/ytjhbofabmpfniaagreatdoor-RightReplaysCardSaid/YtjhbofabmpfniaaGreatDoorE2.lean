/- Walk of chapter 5's elements. -/
import Derived.Test.YtjhbofabmpfniaaGreatDoorO8
set_option linter.unusedSimpArgs false
set_option linter.unusedVariables false
set_option maxRecDepth 100000
set_option maxHeartbeats 4000000
namespace Go.Proofs.YtjhbofabmpfniaaGreatDoor
open Go.RowKit Go.Shelf
section
variable {base k:Nat} {W W':World} {B:List Nat} {es:Array MapEntry} {ec:Nat}
theorem TombAt.keptM {T:Nat} {g:Grave} (h:TombAt W base B T g) (hg:W.grownBy W' (some k)) (hx:W.heap[k]?=some (.map es ec)):TombAt W' base B T g:=by
 obtain⟨H,hc,D,dc,fr',t1,t2,t3,t4,t5,t6,t7⟩:=h;exact⟨H,hc,D,dc,fr',(hg.block T (zab t1) (fun e=>by simp only[Option.some.injEq]at e;subst e;unfold zbt at t1;rw[t1]at hx;simp at hx)).trans t1,t2,t3,t4,t5.keptM hg hx,t6.keptM hg hx,t7⟩
theorem TombsAt.keptM {ps:List Nat} {tv:Value} {gs:List Grave} (h:TombsAt base W B tv ps gs) (hg:W.grownBy W' (some k)) (hx:W.heap[k]?=some (.map es ec)):TombsAt base W' B tv ps gs:=
 ⟨h.own.keptM hg hx,h.len,h.nd,fun i T g e1 e2=>(h.all i T g e1 e2).keptM hg hx⟩
theorem WldC.keptM {b d c p wl r:Nat} {mv tv:Value} {la co:Int} (h:WldC W b d c p wl r mv tv la co) (hg:W.grownBy W' (some k)) (hx:W.heap[k]?=some (.map es ec)):WldC W' b d c p wl r mv tv la co:=
 (hg.block b (zab h) (fun e=>by simp only[Option.some.injEq]at e;subst e;unfold WldC at h;rw[h]at hx;simp at hx)).trans h
theorem RowIs.keptM {m:List (ByteArray×Value)} {n:ByteArray} {xs:List ByteArray} (h:RowIs W base m n xs) (hg:W.grownBy W' (some k)) (hx:W.heap[k]?=some (.map es ec)):RowIs W' base m n xs:=by
 rcases h with h|⟨v,h1,h2⟩
 ·exact .inl h
 ·exact .inr ⟨v,h1,h2.keptM hg hx⟩
theorem WillIs.keptM {m:List (ByteArray×Value)} {n:ByteArray} {xs:Parts} (h:WillIs W m n xs) (hg:W.grownBy W' (some k)) (hx:W.heap[k]?=some (.map es ec)):WillIs W' m n xs:=by
 rcases h with h|⟨A,c,h1,h2⟩
 ·exact .inl h
 ·exact .inr ⟨A,c,h1,h2.keptM hg hx⟩
theorem RowIs.kept {m:List (ByteArray×Value)} {n:ByteArray} {xs:List ByteArray} {cs:Array Value} {t:TypeId} {fr:Nat×Nat} (h:RowIs W base m n xs) (hg:W.grownBy W' (some k)) (hx:W.heap[k]?=some (.cells cs t fr)) (ht:t≠9):RowIs W' base m n xs:=by
 rcases h with h|⟨v,h1,h2⟩
 ·exact .inl h
 ·exact .inr ⟨v,h1,h2.kept hg hx ht⟩
theorem WillIs.kept {m:List (ByteArray×Value)} {n:ByteArray} {xs:Parts} {cs:Array Value} {t:TypeId} {fr:Nat×Nat} (h:WillIs W m n xs) (hg:W.grownBy W' (some k)) (hx:W.heap[k]?=some (.cells cs t fr)) (ht:t≠75):WillIs W' m n xs:=by
 rcases h with h|⟨A,c,h1,h2⟩
 ·exact .inl h
 ·exact .inr ⟨A,c,h1,h2.kept hg hx ht⟩
theorem zbw {b:Nat} {K V:Type} {ek:K->Value} {ev:V->Value} {m:List (K×V)} (h:MapS W b ek ev m): ∃es c,W.heap[b]?=some (.map es c):=by
 obtain⟨es,c,h1,_⟩:=h;exact⟨es,c,h1⟩
variable {d c p wl r:Nat} {mv tv:Value} {s:St}
theorem ppl_will (h:PplAt base W B d c p wl r mv s) (hg:W.grownBy W' (some wl)) {ws:List (ByteArray×Parts)} {m':List (ByteArray×Value)} (h1:MapS W' wl ekS (fun v:Value=>v) m') (h2: ∀n,WillIs W' m' n (zbs {s with wills:=ws} n)):PplAt base W' B d c p wl r mv {s with wills:=ws}:=by
 obtain⟨mc,mp,k1,k2,k3,k4,k5,k6⟩:=h.rows;obtain⟨m,k7,k8⟩:=h.wills;obtain⟨es,ec,hx⟩:=zbw k7;have cQ:=h.nd;simp only[List.nodup_cons,List.mem_cons,List.not_mem_nil,or_false,not_or]at cQ;obtain⟨⟨n1,n2,n3,n4⟩,⟨n5,n6,n7⟩,⟨n8,n9⟩,n10,_⟩:=cQ;refine⟨h.nd,h.ge,h.dead.grown hg (by simpa using n3),⟨mc,mp,k1.grown hg (by simpa using n6),k2.grown hg (by simpa using n8),fun n=>(k3 n).keptM hg hx,fun n=>(k4 n).keptM hg hx,k5,k6⟩,h.marr.keptM hg hx,⟨m',h1,h2⟩,h.ren.grown hg (by simpa using fun e=>n10 e.symm)⟩
theorem ppl_ren (h:PplAt base W B d c p wl r mv s) (hg:W.grownBy W' (some r)) {rs:List (ByteArray×ByteArray)} (h1:MapS W' r ekP evB (rs.map fun x=>(x,true))):PplAt base W' B d c p wl r mv {s with renounce:=rs}:=by
 obtain⟨mc,mp,k1,k2,k3,k4,k5,k6⟩:=h.rows;obtain⟨m,k7,k8⟩:=h.wills;obtain⟨es,ec,hx⟩:=zbw h.ren;have cQ:=h.nd;simp only[List.nodup_cons,List.mem_cons,List.not_mem_nil,or_false,not_or]at cQ;obtain⟨⟨n1,n2,n3,n4⟩,⟨n5,n6,n7⟩,⟨n8,n9⟩,n10,_⟩:=cQ;refine⟨h.nd,h.ge,h.dead.grown hg (by simpa using n4),⟨mc,mp,k1.grown hg (by simpa using n7),k2.grown hg (by simpa using n9),fun n=>(k3 n).keptM hg hx,fun n=>(k4 n).keptM hg hx,k5,k6⟩,h.marr.keptM hg hx,⟨m,k7.grown hg (by simpa using n10),fun n=>(k8 n).keptM hg hx⟩,h1⟩
theorem ppl_dead (h:PplAt base W B d c p wl r mv s) (hg:W.grownBy W' (some d)) {ds:List ByteArray} {gs:List Grave} (h1:MapS W' d ekS evB (ds.map fun n=>(n,true))):PplAt base W' B d c p wl r mv {s with dead:=ds,graves:=gs}:=by
 obtain⟨mc,mp,k1,k2,k3,k4,k5,k6⟩:=h.rows;obtain⟨m,k7,k8⟩:=h.wills;obtain⟨es,ec,hx⟩:=zbw h.dead;have cQ:=h.nd;simp only[List.nodup_cons,List.mem_cons,List.not_mem_nil,or_false,not_or]at cQ;obtain⟨⟨n1,n2,n3,n4⟩,⟨n5,n6,n7⟩,⟨n8,n9⟩,n10,_⟩:=cQ;refine⟨h.nd,h.ge,h1,⟨mc,mp,k1.grown hg (by simpa using fun e=>n1 e.symm),k2.grown hg (by simpa using fun e=>n2 e.symm),fun n=>(k3 n).keptM hg hx,fun n=>(k4 n).keptM hg hx,k5,k6⟩,h.marr.keptM hg hx,⟨m,k7.grown hg (by simpa using fun e=>n3 e.symm),fun n=>(k8 n).keptM hg hx⟩,h.ren.grown hg (by simpa using fun e=>n4 e.symm)⟩
end
theorem zkA {K V:Type} {eq:K->K->Bool} {k:K} {v:V}: ∀ {m:List (K×V)},mget eq k m=none->mput eq k v m=m++[(k,v)]
 | [],_=>rfl
 |x::m,h=>by
  rw[mget]at h;rw[mput];cases hk:eq k x.1
  ·rw[hk]at h;simp only[Bool.false_eq_true,if_false]at h;rw[if_neg Mcq,zkA h];rfl
  ·rw[hk]at h;simp at h
theorem ziJ {K:Type} {eq:K->K->Bool} {k:K}: ∀ {l:List K},(mget eq k (l.map fun x=>(x,true))).getD false=false->mget eq k (l.map fun x=>(x,true))=none
 | [],_=>rfl
 |x::l,h=>by
  rw[List.map_cons,mget]at h⊢;cases hk:eq k x
  ·rw[hk]at h;simp only[Bool.false_eq_true,if_false]at h;rw[if_neg Mcq];exact ziJ h
  ·rw[hk]at h;simp at h
theorem rat_cells {l:List RPart} (h: ∀p∈l,za9 16 p.num p.den=true) {W:World} {A:Option Addr} (hS:Sl W 3 RPart.cells A l):Sl W 3 zaa A (zap l):=fun hl=>by
 unfold zap at hl;rw[List.length_map]at hl;obtain⟨b,off,hA,hb,hc⟩:=hS hl;refine⟨b,off,hA,hb,fun k x hk j u hu=> ?_⟩;unfold zap at hk;rw[List.getElem?_map]at hk;cases hp:l[k]? with
 |none=>rw[hp]at hk;cases hk
 |some y=>
  rw[hp]at hk;simp only[Option.map_some,Option.some.injEq]at hk;subst hk;have hy:=zi7 (h y (List.mem_of_getElem? hp));refine hc k y hp j u ?_;unfold zaa at hu;rw[hy.1,hy.2]at hu;exact hu
theorem zmX {base b k:Nat} {W W':World} {B ps:List Nat} {d c p wl r:Nat} {mv tv:Value} {s':St} {gs:List Grave} {la co:Int} {es:Array MapEntry} {ec:Nat} (hb:base<=b) (hC:WldC W b d c p wl r mv tv la co) (hT:TombsAt base W B tv ps gs) (hg:W.grownBy W' (some k)) (hx:W.heap[k]?=some (.map es ec))
 (dl:s'.graves=gs) (hP:PplAt base W' B d c p wl r mv s'):WldAt base W' b s' la co:=
 ⟨B,d,c,p,wl,r,mv,tv,ps,hb,hC.keptM hg hx,hP,by rw[dl];exact hT.keptM hg hx⟩
theorem wldC_set3 {W:World} {b d c p wl r:Nat} {mv tv:Value} {la co:Int} (h:WldC W b d c p wl r mv tv la co) (v':Value):WldC (W.setCell ⟨b,3,none⟩ v') b d c p wl r v' tv la co:=by
 unfold WldC at*;have:=Joins.block_setCell (i:=3) h v';simpa using this
theorem wld_marry {base b:Nat} {W w1:World} {B ps:List Nat} {d c p wl r:Nat} {mv tv v':Value} {s:St} {ms:List (ByteArray×ByteArray)} {la co:Int} (hb:base<=b) (hC:WldC W b d c p wl r mv tv la co) (hP:PplAt base W B d c p wl r mv s) (hT:TombsAt base W B tv ps s.graves)
 (h1:OwnS w1 base 163 2 zaT v' ms) (h2:W.grownBy w1 (zaA mv)):WldAt base (w1.setCell ⟨b,3,none⟩ v') b {s with marriages:=ms} la co/\WldC w1 b d c p wl r mv tv la co:=by
 have cW:=zab hC;have ae:=hP.marr;have bl: ∀k,zaA mv=some k-> ∃cs fr,W.heap[k]?=some (.cells cs 163 fr):=fun k hk=>by
  exact Ma6
 have jt:zaA mv≠some b:=fun e=>by
  obtain⟨cs,fr,hx⟩:=bl b e;exact MbQ
 have cI:WldC w1 b d c p wl r mv tv la co:=(h2.block b cW (fun e=>jt e.symm)).trans hC;obtain⟨mc,mp,k1,k2,k3,k4,k5,k6⟩:=hP.rows;obtain⟨m,k7,k8⟩:=hP.wills;have aK:=zaz w1 b 3 v';refine⟨⟨B,d,c,p,wl,r,v',tv,ps,hb,wldC_set3 cI v',?_,?_⟩,cI⟩
 ·cases hk:zaA mv with
  |none=>
   rw[hk]at h2;have gT:Below W.heap.size W w1:=⟨h2.os,h2.tape,h2.output,h2.size,fun i hi=>h2.block i hi Mcq⟩
   exact⟨hP.nd,hP.ge,(hP.dead.below gT).keptC aK cI,⟨mc,mp,(k1.below gT).keptC aK cI,(k2.below gT).keptC aK cI,fun n=>((k3 n).keep gT).kept aK cI Mcp,fun n=>((k4 n).keep gT).kept aK cI Mcp,k5,k6⟩,h1.kept aK cI Mcp,⟨m,(k7.below gT).keptC aK cI,fun n=>((k8 n).keep gT).kept aK cI Mcp⟩,(hP.ren.below gT).keptC aK cI⟩
  |some k=>
   obtain⟨cs,fr,hx⟩:=bl k hk;rw[hk]at h2;exact⟨hP.nd,hP.ge,(hP.dead.keptC h2 hx).keptC aK cI,⟨mc,mp,(k1.keptC h2 hx).keptC aK cI,(k2.keptC h2 hx).keptC aK cI,fun n=>((k3 n).kept h2 hx Mcp).kept aK cI Mcp,fun n=>((k4 n).kept h2 hx Mcp).kept aK cI Mcp,k5,k6⟩,h1.kept aK cI Mcp,⟨m,(k7.keptC h2 hx).keptC aK cI,fun n=>((k8 n).kept h2 hx Mcp).kept aK cI Mcp⟩,(hP.ren.keptC h2 hx).keptC aK cI⟩
 ·cases hk:zaA mv with
  |none=>
   rw[hk]at h2;have gT:Below W.heap.size W w1:=⟨h2.os,h2.tape,h2.output,h2.size,fun i hi=>h2.block i hi Mcq⟩
   exact(hT.keep gT).kept aK cI Mcp Mcp Mcp Mcp
  |some k=>
   obtain⟨cs,fr,hx⟩:=bl k hk;rw[hk]at h2;exact(hT.kept h2 hx Mcp Mcp Mcp Mcp).kept aK cI Mcp Mcp Mcp Mcp
end Go.Proofs.YtjhbofabmpfniaaGreatDoor
namespace Go.Proofs.YtjhbofabmpfniaaGreatDoor
open Go.RowKit
theorem ziK {α:Type} [DecidableEq α]: ∀ {l m:List α},l.Nodup->(∀x∈l,x∈m)->l.length<=m.length
 | [],_,_,_=>Nat.zero_le _
 |x::l,m,hn,hm=>by
  rw[List.nodup_cons]at hn;have hx:=hm x Mcq;have:=ziK (l:=l) (m:=m.erase x) hn.2 (fun y hy=>(List.mem_erase_of_ne (fun e=>hn.1 (by rw[<-e];exact hy))).2 (hm y (by simp[hy])));rw[List.length_erase_of_mem hx]at this;have:=List.length_pos_of_mem hx;simp;omega
def zci (out:Parts) (L:List ByteArray):Prop:= ∀p∈out,p.1∈L
theorem zeL {out:Parts} {fl:Bool} {n:ByteArray} {f:Rat} {L:List ByteArray} (h:zci out L) (hn:n∈L):zci (zcQ n f (out,fl)).1 L:=fun p hp=>by
 rcases zkr hp with e|h'
 ·rw[e];exact hn
 ·exact h p h'
mutual
def zc5 (L:List ByteArray):List Tree->Prop
 | []=>True
 |t::l=>zfs L t/\zc5 L l
def zfs (L:List ByteArray):Tree->Prop
 | .leaf n=>n∈L
 | .node l=>zc5 L l
end
mutual
theorem zeM {part:Rat} {L:List ByteArray}: ∀ {l:List Tree} {out:Parts} {fl:Bool},zc5 L l->zci out L->zci (zbN part l (out,fl)).1 L
 | [],out,fl,_,h=>by rw[zbN];exact h
 |t::l,out,fl,hl,h=>by
  rw[zc5]at hl;rw[zbN];exact zeM (l:=l) (fl:=(zdS part t (out,fl)).2) hl.2 (zoH hl.1 h)
theorem zoH {part:Rat} {L:List ByteArray}: ∀ {t:Tree} {out:Parts} {fl:Bool},zfs L t->zci out L->zci (zdS part t (out,fl)).1 L
 | .leaf n,out,fl,hl,h=>by
   rw[zfs]at hl;rw[zdS];exact zeL h hl
 | .node l,out,fl,hl,h=>by
   rw[zfs]at hl;rw[zdS];exact zeM (l:=l) hl h
end
theorem zlH {L:List ByteArray}: ∀ {l:List Tree},(∀t∈l,zfs L t)->zc5 L l
 | [],_=>by rw[zc5];trivial
 |t::l,h=>by
  rw[zc5];exact⟨h t Mcq,zlH fun t' ht=>h t' (by simp[ht])⟩
theorem zft {s:St} {stems:Bool} {frm:ByteArray} {L:List ByteArray} (hL: ∀c∈s.children,c.2∈L): ∀(f:Nat) (n:ByteArray),zc5 L (zb5 s stems frm f n)
 |0,_=>by rw[show zb5 s stems frm 0 _=[]from rfl,zc5];trivial
 |f+1,n=>by
  refine zlH fun t ht=> ?_
  rw[zfD]at ht;obtain⟨c,hc,h1⟩:=List.mem_filterMap.1 ht;unfold zcR at h1;split at h1
  ·simp only[Option.some.injEq]at h1;rw[<-h1,zfs];exact hL (n,c) (zdt.1 hc)
  ·split at h1
   ·simp only[Option.some.injEq]at h1;rw[<-h1,zfs];exact zft hL f c
   ·cases h1
theorem zhh {s:St} {frm:ByteArray} {L:List ByteArray}: ∀ {l out:Parts} {fl:Bool} {rest:Rat},(∀p∈l,p.1∈L)->zci out L->zci (zdh s frm l (out,fl) rest).1.1 L
 | [],_,_,_,_,h=>h
 |p::l,out,fl,rest,hl,h=>by
  rw[zdh];split
  ·exact zhh (l:=l) (fun q hq=>hl q MdF) (zeL (fl:=fl) h (hl p Mcq))
  ·exact zhh (l:=l) (fun q hq=>hl q MdF) h
theorem ziL {s:St} {law:Law} {n:ByteArray} (hG:GoodParts (zcf s law n).1):(zcf s law n).1.length<=(zbs s n).length+s.children.length+1:=by
 let L:=((zbs s n).map (·.1))++(s.children.map (·.2))++[zcm s n]
 have hL:zci (zcf s law n).1 L:=by
  have h1: ∀p∈zbs s n,p.1∈L:=fun p hp=>List.mem_append_left _ (List.mem_append_left _ (List.mem_map.2 ⟨p,hp,rfl⟩))
  have h2: ∀c∈s.children,c.2∈L:=fun c hc=>List.mem_append_left _ (List.mem_append_right _ (List.mem_map.2 ⟨c,hc,rfl⟩))
  have h3:zcm s n∈L:=List.mem_append_right _ Mcq;have h4:=zhh (s:=s) (frm:=n) (fl:=false) (rest:=1) h1 (show zci [] L from fun p hp=>by cases hp);have h5:=zft (stems:=law.stems) (frm:=n) h2 (zaW s) n;unfold zcf;generalize zdh s n (zbs s n) ([],false) 1=y at*;obtain⟨⟨o,f⟩,r⟩:=y;simp only;split
  ·exact zeL h4 h3
  ·split
   ·unfold zcx;exact zeM h5 h4
   ·unfold zcx;exact zeM (fl:=_) h5 (zeL (fl:=f) h4 h3)
 have hn:((zcf s law n).1.map (·.1)).Nodup:=by
  rw[List.nodup_iff_pairwise_ne,List.pairwise_map];exact hG.asc.imp fun h=>zcH h
 have:=ziK (m:=L) hn (fun x hx=>by
  obtain⟨p,hp,rfl⟩:=List.mem_map.1 hx
  exact hL p hp)
 simp only[L,List.length_append,List.length_map,List.length_singleton]at this;exact this
end Go.Proofs.YtjhbofabmpfniaaGreatDoor
namespace Go.Proofs.YtjhbofabmpfniaaGreatDoor
open Go.RowKit Go.Shelf
attribute [local go_sem] World.cell?_alloc_mark zae za3 zam za6 zas zat zau zav zaw zax zay
attribute [local go_sem] zaj zac
theorem elInt:ElTy Tryz.prog 101 3 1 8:=zd6 (z:= .int .i64 0) Mco Mco rfl Mcp
def TzTab (w:World):Prop:=TabAt 4 Lib.deBruijn64tab w/\4<w.heap.size
theorem TzTab.keep {w W:World} {n:Nat} (h:TzTab w) (hB:Below n w W) (hn:w.heap.size<=n:=by first|exact Nat.le_refl _|omega):TzTab W:=
 ⟨fun j hj=>(zah hB (Nat.lt_of_lt_of_le h.2 hn)).trans (h.1 j hj),Nat.lt_of_lt_of_le h.2 hB.size⟩
theorem tz_any (x:Nat) (hx:x<4096) (w:World) (hT:TzTab w):Calls Tryz.prog 169 #[.int .u64 x] w (Ret0 w (.int .i64 (Lib.ctz 64 x))):=
 (Any7.bits_TrailingZeros tzBits x Mcn w (fun _=>hT.1)).mono fun _ _ h=>⟨h.1,h.2.symm⟩
theorem sl_int {w:World} {b n:Nat} {t:TypeId} {fr:Nat×Nat} (h:w.heap[b]?=some (.cells #[.int .i64 (n:Int)] t fr)):Sl w 1 intC (some ⟨b,0,none⟩) [n]:=fun _=>⟨b,0,rfl,zab h,fun k y hy j u hu=>by
 have hk:k=0:=Mcz;subst hk;simp only[List.getElem?_cons_zero,Option.some.injEq]at hy;subst hy;match j,hu with
 |0,hu=>simp[intC]at hu;simp[World.cell?,h,<-hu]
 |j+1,hu=>simp[intC]at hu⟩
theorem zlI (a b:Nat) (ha:a<4611686018427387904) (hb:b<4611686018427387904):bits .and .i64 (a:Int) (b:Int)=((a &&& b:Nat):Int):=by
 have hx:a &&& b<=a:=Nat.and_le_left;have h1:(BitVec.ofInt 64 (a:Int)).toNat=a:=by
  rw[BitVec.ofInt_natCast,BitVec.toNat_ofNat];exact Nat.mod_eq_of_lt Mcn
 have h2:(BitVec.ofInt 64 (b:Int)).toNat=b:=by
  rw[BitVec.ofInt_natCast,BitVec.toNat_ofNat];exact Nat.mod_eq_of_lt Mcn
 show IntKind.i64.wrap ((BitVec.ofInt 64 (a:Int) &&& BitVec.ofInt 64 (b:Int)).toNat:Int)=_;rw[BitVec.toNat_and,h1,h2,IntKind.wrap_i64];omega
theorem znZ (x:Nat) (hx:x<4096) (h0:x≠0):bits .and .i64 (x:Int) ((x:Int)-1)=((x &&& (x-1):Nat):Int):=by
 rw[show((x:Int)-1)=((x-1:Nat):Int) by omega];exact zlI x (x-1) Mcn Mcn
theorem zlJ (n set:Nat) (w:World) (hn:n<=12) (hx:set<2^n) (hT:TzTab w):
 Calls Tryz.prog 119 #[.int .i64 set] w (fun e w'=> ∃v,e= .returned v/\OwnS w' w.heap.size 3 1 intC v (zcU n set)/\Below w.heap.size w w'):=by
 have HT:=zHi hT;clear hT;go_enter Tryz.func119,Tryz.ntmps119
 go_wp2_with fail
 go_loopw [0,3] (fun v0 v wr=> ∃(x:Nat) (acc:List Nat),v0= .int .i64 x/\x<2^n/\Hid (zcU n set=acc++zcU n x)/\OwnS wr w.heap.size 3 1 intC v acc/\Below w.heap.size w wr) (fun v0 _ _=>(intOf v0).toNat)
 case atStart=>exact⟨set,[],rfl,hx,rfl,OwnS.nil,Below.refl _ _⟩
 case round=>
  obtain⟨x,acc,rfl,dC,HX,ae,hB⟩:=hrel;obtain⟨VA,vc,rfl,_,ka⟩:=ae.sl zg8;have HO:=zHi ae;have HB:=zHi hB;have nr:x<4096:=Nat.lt_of_lt_of_le dC (Nat.pow_le_pow_right (n:=2) Mcp hn);by_cases h0:x=0
  ·subst h0;have DQ:=HX.o;rw[bits_none,List.append_nil]at DQ;have o8:=zHi DQ;clear DQ ae;go_wp2_with fail
   go_ret
   exact⟨_,rfl,by rw[o8.o];exact HO.o,HB.o⟩
  ·have ai: ¬(x:Int)=0:=Mcn;have hcv:IntKind.u64.wrap (x:Int)=(x:Int):=by rw[IntKind.wrap_u64];omega
   have IC:=zHi (fun W (hW:Below wr.heap.size wr W)=>tz_any x nr W ((HT.o.keep HB.o).keep hW));have jU:acc.length<=12:=by
    have h1:=congrArg List.length HX.o;have h2:(zcU n set).length<=n:=by unfold zcU;exact Nat.le_trans (List.length_filter_le _ _) Mcq
    rw[List.length_append]at h1;omega
   have aE:=hB.size;clear ae hB;go_upto_region 3 with
    (first
      |(go_at_call 169
        go_must(refine(IC.o _ Bw).mono ?_)
        rintro e wq ⟨rfl,rfl⟩)
      |(at_builtin
        go_loud(refine za1 (v:= .slice VA acc.length vc) (n:=acc.length) (m:=1) rfl _ _ rfl elInt zg8 intC_one rfl (xs:=acc) (ys:=[Lib.ctz 64 x]) (HO.o.keep (n:=wr.heap.size) Bw) rfl rfl rfl (sl_int (zar _ _ _ rfl)) McL Mcn Mcr ?_)
        intro v3 w3 h1 h2 h3;have ay:=Below.grown (B:=w.heap.size) (a:=w) (HB.o.trans (Below.mono (B:=wr.heap.size) (zad (Below.refl _ _) _) aE)) h2 Mcr (fun j hj=>(HO.o.ge j hj).1);have H1:=zHi h1;have aH:=zHi ay
        clear h1 h2 h3 ay))
   go_wp2_with fail
   go_round
   case rel=>
    rw[znZ x nr h0];refine⟨x &&& (x-1),acc++[Lib.ctz 64 x],rfl,ziv dC,?_,H1.o,aH.o⟩;show _=_;rw[HX.o,bits_step hn dC h0];simp
   case measure=>
    rw[znZ x nr h0];have:=zlp h0;simp only[intOf];omega
end Go.Proofs.YtjhbofabmpfniaaGreatDoor
