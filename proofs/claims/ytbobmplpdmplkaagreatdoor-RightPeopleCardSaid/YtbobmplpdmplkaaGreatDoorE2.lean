import Derived.Test.YtbobmplpdmplkaaGreatDoorJQ
import Derived.Test.YtbobmplpdmplkaaGreatDoorNI
set_option linter.all false
set_option maxRecDepth 100000
set_option maxHeartbeats 4000000
namespace Go.Proofs.YtbobmplpdmplkaaGreatDoor
open Go.RowKit
attribute [local go_sem] World.cell?_alloc_mark zaf za4 zam za7 zaw zax zay zaz za0 za1 za2
attribute [local go_sem] zan zac
section
open Go.Shelf
section
variable {base k:Nat} {W W':World} {B:List Nat} {es:Array MapEntry} {ec:Nat}
theorem TombAt.keptM{T:Nat}{g:Grave}(h:TombAt W base B T g)(hg:W.grownBy W' (some k))(hx:W.heap[k]?=some (.map es ec)):TombAt W' base B T g:=by
 obtain⟨H,hc,D,dc,fr',t1,t2,t3,t4,t5,t6,t7⟩:=h;exact⟨H,hc,D,dc,fr',(hg.block T (zab t1) (fun e=>by simp only[Option.some.injEq]at e;subst e;unfold zby at t1;rw[t1]at hx;simp at hx)).trans t1,t2,t3,t4,t5.keptM hg hx,t6.keptM hg hx,t7⟩
theorem TombsAt.keptM{ps:List Nat}{tv:Value}{gs:List Grave}(h:TombsAt base W B tv ps gs)(hg:W.grownBy W' (some k))(hx:W.heap[k]?=some (.map es ec)):TombsAt base W' B tv ps gs:=
 ⟨h.own.keptM hg hx,h.len,h.nd,fun i T g e1 e2=>(h.all i T g e1 e2).keptM hg hx⟩
theorem WldC.keptM{b d c p wl r:Nat}{mv tv:Value}{la co:Int}(h:WldC W b d c p wl r mv tv la co)(hg:W.grownBy W' (some k))(hx:W.heap[k]?=some (.map es ec)):WldC W' b d c p wl r mv tv la co:=
 (hg.block b (zab h) (fun e=>by simp only[Option.some.injEq]at e;subst e;unfold WldC at h;rw[h]at hx;simp at hx)).trans h
theorem RowIs.keptM{m:List (ByteArray×Value)}{n:ByteArray}{xs:List ByteArray}(h:RowIs W base m n xs)(hg:W.grownBy W' (some k))(hx:W.heap[k]?=some (.map es ec)):RowIs W' base m n xs:=by
 rcases h with h|⟨v,h1,h2⟩
 ·exact .inl h
 ·exact .inr ⟨v,h1,h2.keptM hg hx⟩
theorem WillIs.keptM{m:List (ByteArray×Value)}{n:ByteArray}{xs:Parts}(h:WillIs W m n xs)(hg:W.grownBy W' (some k))(hx:W.heap[k]?=some (.map es ec)):WillIs W' m n xs:=by
 rcases h with h|⟨A,c,h1,h2⟩
 ·exact .inl h
 ·exact .inr ⟨A,c,h1,h2.keptM hg hx⟩
theorem RowIs.kept{m:List (ByteArray×Value)}{n:ByteArray}{xs:List ByteArray}{cs:Array Value}{t:TypeId}{fr:Nat×Nat}(h:RowIs W base m n xs)(hg:W.grownBy W' (some k))(hx:W.heap[k]?=some (.cells cs t fr))(ht:t≠9):RowIs W' base m n xs:=by
 rcases h with h|⟨v,h1,h2⟩
 ·exact .inl h
 ·exact .inr ⟨v,h1,h2.kept hg hx ht⟩
theorem WillIs.kept{m:List (ByteArray×Value)}{n:ByteArray}{xs:Parts}{cs:Array Value}{t:TypeId}{fr:Nat×Nat}(h:WillIs W m n xs)(hg:W.grownBy W' (some k))(hx:W.heap[k]?=some (.cells cs t fr))(ht:t≠71):WillIs W' m n xs:=by
 rcases h with h|⟨A,c,h1,h2⟩
 ·exact .inl h
 ·exact .inr ⟨A,c,h1,h2.kept hg hx ht⟩
theorem zbl{b:Nat}{K V:Type}{ek:K->Value}{ev:V->Value}{m:List (K×V)}(h:MapS W b ek ev m):∃es c,W.heap[b]?=some (.map es c):=by
 obtain⟨es,c,h1,_⟩:=h;exact⟨es,c,h1⟩
variable {d c p wl r:Nat} {mv tv:Value} {s:St}
theorem ppl_will(h:PplAt base W B d c p wl r mv s)(hg:W.grownBy W' (some wl)){ws:List (ByteArray×Parts)}{m':List (ByteArray×Value)}(h1:MapS W' wl ekS (fun v:Value=>v) m')(h2:∀n,WillIs W' m' n (zbw {s with wills:=ws} n)):PplAt base W' B d c p wl r mv {s with wills:=ws}:=by
 obtain⟨mc,mp,k1,k2,k3,k4,k5,k6⟩:=h.rows;obtain⟨m,k7,k8⟩:=h.wills;obtain⟨es,ec,hx⟩:=zbl k7;have cW:=h.nd;simp only[List.nodup_cons,List.mem_cons,List.not_mem_nil,or_false,not_or]at cW;obtain⟨⟨n1,n2,n3,n4⟩,⟨n5,n6,n7⟩,⟨n8,n9⟩,n10,_⟩:=cW;refine⟨h.nd,h.ge,h.dead.grown hg (by simpa using n3),⟨mc,mp,k1.grown hg (by simpa using n6),k2.grown hg (by simpa using n8),fun n=>(k3 n).keptM hg hx,fun n=>(k4 n).keptM hg hx,k5,k6⟩,h.marr.keptM hg hx,⟨m',h1,h2⟩,h.ren.grown hg (by simpa using fun e=>n10 e.symm)⟩
theorem ppl_ren(h:PplAt base W B d c p wl r mv s)(hg:W.grownBy W' (some r)){rs:List (ByteArray×ByteArray)}(h1:MapS W' r ekP evB (rs.map fun x=>(x,true))):PplAt base W' B d c p wl r mv {s with renounce:=rs}:=by
 obtain⟨mc,mp,k1,k2,k3,k4,k5,k6⟩:=h.rows;obtain⟨m,k7,k8⟩:=h.wills;obtain⟨es,ec,hx⟩:=zbl h.ren;have cW:=h.nd;simp only[List.nodup_cons,List.mem_cons,List.not_mem_nil,or_false,not_or]at cW;obtain⟨⟨n1,n2,n3,n4⟩,⟨n5,n6,n7⟩,⟨n8,n9⟩,n10,_⟩:=cW;refine⟨h.nd,h.ge,h.dead.grown hg (by simpa using n4),⟨mc,mp,k1.grown hg (by simpa using n7),k2.grown hg (by simpa using n9),fun n=>(k3 n).keptM hg hx,fun n=>(k4 n).keptM hg hx,k5,k6⟩,h.marr.keptM hg hx,⟨m,k7.grown hg (by simpa using n10),fun n=>(k8 n).keptM hg hx⟩,h1⟩
theorem ppl_dead(h:PplAt base W B d c p wl r mv s)(hg:W.grownBy W' (some d)){ds:List ByteArray}{gs:List Grave}(h1:MapS W' d ekS evB (ds.map fun n=>(n,true))):PplAt base W' B d c p wl r mv {s with dead:=ds,graves:=gs}:=by
 obtain⟨mc,mp,k1,k2,k3,k4,k5,k6⟩:=h.rows;obtain⟨m,k7,k8⟩:=h.wills;obtain⟨es,ec,hx⟩:=zbl h.dead;have cW:=h.nd;simp only[List.nodup_cons,List.mem_cons,List.not_mem_nil,or_false,not_or]at cW;obtain⟨⟨n1,n2,n3,n4⟩,⟨n5,n6,n7⟩,⟨n8,n9⟩,n10,_⟩:=cW;refine⟨h.nd,h.ge,h1,⟨mc,mp,k1.grown hg (by simpa using fun e=>n1 e.symm),k2.grown hg (by simpa using fun e=>n2 e.symm),fun n=>(k3 n).keptM hg hx,fun n=>(k4 n).keptM hg hx,k5,k6⟩,h.marr.keptM hg hx,⟨m,k7.grown hg (by simpa using fun e=>n3 e.symm),fun n=>(k8 n).keptM hg hx⟩,h.ren.grown hg (by simpa using fun e=>n4 e.symm)⟩
end
theorem zkx{K V:Type}{eq:K->K->Bool}{k:K}{v:V}:∀ {m:List (K×V)},mget eq k m=none->mput eq k v m=m++[(k,v)]
 | [],_=>rfl
 |x::m,h=>by
  rw[mget]at h;rw[mput];cases hk:eq k x.1
  ·rw[hk]at h;simp only[Bool.false_eq_true,if_false]at h;rw[if_neg McB,zkx h];rfl
  ·rw[hk]at h;simp at h
theorem ziD{K:Type}{eq:K->K->Bool}{k:K}:∀ {l:List K},(mget eq k (l.map fun x=>(x,true))).getD false=false->mget eq k (l.map fun x=>(x,true))=none
 | [],_=>rfl
 |x::l,h=>by
  rw[List.map_cons,mget]at h⊢;cases hk:eq k x
  ·rw[hk]at h;simp only[Bool.false_eq_true,if_false]at h;rw[if_neg McB];exact ziD h
  ·rw[hk]at h;simp at h
theorem rat_cells{l:List RPart}(h:∀p∈l,za8 16 p.num p.den=true){W:World}{A:Option Addr}(hS:Sl W 3 RPart.cells A l):Sl W 3 zaa A (zao l):=fun hl=>by
 unfold zao at hl;rw[List.length_map]at hl;obtain⟨b,off,hA,hb,hc⟩:=hS hl;refine⟨b,off,hA,hb,fun k x hk j u hu=>?_⟩;unfold zao at hk;rw[List.getElem?_map]at hk;cases hp:l[k]? with
 |none=>rw[hp]at hk;cases hk
 |some y=>
  rw[hp]at hk;simp only[Option.map_some,Option.some.injEq]at hk;subst hk;have hy:=zix (h y (List.mem_of_getElem? hp));refine hc k y hp j u ?_;unfold zaa at hu;rw[hy.1,hy.2]at hu;exact hu
theorem zmG{base b k:Nat}{W W':World}{B ps:List Nat}{d c p wl r:Nat}{mv tv:Value}{s':St}{gs:List Grave}{la co:Int}{es:Array MapEntry}{ec:Nat}(hb:base<=b)(hC:WldC W b d c p wl r mv tv la co)(hT:TombsAt base W B tv ps gs)(hg:W.grownBy W' (some k))(hx:W.heap[k]?=some (.map es ec))
 (dq:s'.graves=gs)(hP:PplAt base W' B d c p wl r mv s'):WldAt base W' b s' la co:=
 ⟨B,d,c,p,wl,r,mv,tv,ps,hb,hC.keptM hg hx,hP,by rw[dq];exact hT.keptM hg hx⟩
theorem wldC_set3{W:World}{b d c p wl r:Nat}{mv tv:Value}{la co:Int}(h:WldC W b d c p wl r mv tv la co)(v':Value):WldC (W.setCell ⟨b,3,none⟩ v') b d c p wl r v' tv la co:=by
 unfold WldC at*;have:=Joins.block_setCell (i:=3) h v';simpa using this
theorem wld_marry{base b:Nat}{W w1:World}{B ps:List Nat}{d c p wl r:Nat}{mv tv v':Value}{s:St}{ms:List (ByteArray×ByteArray)}{la co:Int}(hb:base<=b)(hC:WldC W b d c p wl r mv tv la co)(hP:PplAt base W B d c p wl r mv s)(hT:TombsAt base W B tv ps s.graves)
 (h1:OwnS w1 base 107 2 zaT v' ms)(h2:W.grownBy w1 (za5 mv)):WldAt base (w1.setCell ⟨b,3,none⟩ v') b {s with marriages:=ms} la co/\WldC w1 b d c p wl r mv tv la co:=by
 have dg:=zab hC;have aa:=hP.marr;have bh:∀k,za5 mv=some k->∃cs fr,W.heap[k]?=some (.cells cs 107 fr):=fun k hk=>by
  exact Ma6
 have jk:za5 mv≠some b:=fun e=>by
  obtain⟨cs,fr,hx⟩:=bh b e;exact Mb0
 have cO:WldC w1 b d c p wl r mv tv la co:=(h2.block b dg (fun e=>jk e.symm)).trans hC;obtain⟨mc,mp,k1,k2,k3,k4,k5,k6⟩:=hP.rows;obtain⟨m,k7,k8⟩:=hP.wills;have aI:=zav w1 b 3 v';refine⟨⟨B,d,c,p,wl,r,v',tv,ps,hb,wldC_set3 cO v',?_,?_⟩,cO⟩
 ·cases hk:za5 mv with
  |none=>
   rw[hk]at h2;have gN:Below W.heap.size W w1:=⟨h2.os,h2.tape,h2.output,h2.size,fun i hi=>h2.block i hi McB⟩
   exact⟨hP.nd,hP.ge,(hP.dead.below gN).keptC aI cO,⟨mc,mp,(k1.below gN).keptC aI cO,(k2.below gN).keptC aI cO,fun n=>((k3 n).keep gN).kept aI cO McA,fun n=>((k4 n).keep gN).kept aI cO McA,k5,k6⟩,h1.kept aI cO McA,⟨m,(k7.below gN).keptC aI cO,fun n=>((k8 n).keep gN).kept aI cO McA⟩,(hP.ren.below gN).keptC aI cO⟩
  |some k=>
   obtain⟨cs,fr,hx⟩:=bh k hk;rw[hk]at h2;exact⟨hP.nd,hP.ge,(hP.dead.keptC h2 hx).keptC aI cO,⟨mc,mp,(k1.keptC h2 hx).keptC aI cO,(k2.keptC h2 hx).keptC aI cO,fun n=>((k3 n).kept h2 hx McA).kept aI cO McA,fun n=>((k4 n).kept h2 hx McA).kept aI cO McA,k5,k6⟩,h1.kept aI cO McA,⟨m,(k7.keptC h2 hx).keptC aI cO,fun n=>((k8 n).kept h2 hx McA).kept aI cO McA⟩,(hP.ren.keptC h2 hx).keptC aI cO⟩
 ·cases hk:za5 mv with
  |none=>
   rw[hk]at h2;have gN:Below W.heap.size W w1:=⟨h2.os,h2.tape,h2.output,h2.size,fun i hi=>h2.block i hi McB⟩
   exact(hT.keep gN).kept aI cO McA McA McA McA
  |some k=>
   obtain⟨cs,fr,hx⟩:=bh k hk;rw[hk]at h2;exact(hT.kept h2 hx McA McA McA McA).kept aI cO McA McA McA McA
end
theorem zl6(l:Parts)(h:∀p∈l,0<p.2)(k:Nat):sumQ (l.take k)<=sumQ l:=by
 induction l generalizing k with
 |nil=>simp
 |cons p l ih=>
  cases k with
  |zero=>
   have h1:0<=sumQ l:=by
    have:=ih (fun q hq=>h q MdN) 0;simpa[sumQ]using this
   have:=h p McB;rw[List.take_zero,sumQ,sumQ];grind
  |succ k=>
   have:=ih (fun q hq=>h q MdN) k;rw[List.take_succ_cons,sumQ,sumQ];grind
structure WillInv (y:(Parts×Bool)×Rat):Prop where
 flag:y.1.2=false
 bd:Bd y.1.1 (1-y.2)
 isN:IsN 720720 y.2
 nn:0<=y.2
 le:y.2<=1
 small:zaI y.2
theorem zky{s:St}{frm:ByteArray}{l:Parts}(hw:WillOk l)(k:Nat):WillInv (zdh s frm (l.take k) ([],false) 1):=by
 have hp:∀p∈l.take k,0<p.2:=fun p hp=>hw.pos p (List.mem_of_mem_take hp)
 have hN:∀p∈l.take k,IsN 720720 p.2:=fun p hp=>hw.isN p (List.mem_of_mem_take hp)
 have h1:=zgo (s:=s) (frm:=frm) (rest:=1) hp hN zd6 McB;obtain⟨g1,g2,g3,g4,g5⟩:=zid (s:=s) (frm:=frm) (out:=[]) (rest:=1) hp hN (Rat.le_trans (zl6 l hw.pos k) hw.le) zd6 McB (zgR _);rw[h1];have gs:zaE (zcp s frm (l.take k) [] 1).1=false:=zc6 McA McA g2;have hn:=zbr (fun p hp=>by have:=g1.pos p hp;grind) (l:=(zcp s frm (l.take k) [] 1).1);have aw:sumQ ([]:Parts)=0:=rfl;rw[aw]at g5;have bI:(zcp s frm (l.take k) [] 1).2<=1:=Mc0;exact⟨rfl,⟨g1,gs,by grind⟩,g3,g4,bI,zbZ g4 bI (zeo McA McA g3)⟩
theorem zl7{α:Type}{p q:α->Bool}:∀ {l:List α},(∀x∈l,p x=true->q x=true)->(∃x∈l,q x=true/\p x=false)->(l.filter p).length<(l.filter q).length
 | [],_,h=>by obtain⟨x,hx,_⟩:=h;cases hx
 |y::l,h1,h2=>by
  have bI:∀ {l:List α},(∀x∈l,p x=true->q x=true)->(l.filter p).length<=(l.filter q).length:=by
   intro l;induction l with
   |nil=>intro _;simp
   |cons z l ih=>
    intro h;have:=ih (fun x hx=>h x (by simp[hx]));cases hp:p z
    ·cases hq:q z<;>simp[hp,hq]<;>omega
    ·have hq:=h z McB hp;simp[hp,hq];omega
  have hl:=bI (l:=l) (fun x hx=>h1 x (by simp[hx]));obtain⟨x,hx,h3,h4⟩:=h2;rcases List.mem_cons.1 hx with rfl|hx
  ·simp[h3,h4];omega
  ·have:=zl7 (l:=l) (fun x hx=>h1 x (by simp[hx])) ⟨x,hx,h3,h4⟩;cases hp:p y
   ·cases hq:q y<;>simp[hp,hq]<;>omega
   ·have hq:=h1 y McB hp;simp[hp,hq];omega
open Classical in
noncomputable def zl8 (s:St) (n:ByteArray):Nat:=(s.children.filter fun e=>decide (e.1=n\/Desc s n e.1)).length
theorem zmH{s:St}(ha:∀a,¬Desc s a a){n c:ByteArray}(hc:c∈zai s n):zl8 s c<zl8 s n:=by
 unfold zl8;have hd:=zfr hc;refine zl7 (fun e _ h=>?_) ⟨(n,c),zds.1 hc,by simp,?_⟩
 ·simp only[decide_eq_true_eq]at h⊢;rcases h with h|h
  ·right;rw[h];exact hd
  ·right;exact zgL hd h
 ·simp only[decide_eq_false_iff_not,not_or];refine⟨fun e=>?_,fun h=>?_⟩
  ·have JX:Desc s n n:=by
    have:=hd;rw[<-show n=c from e]at this;exact this
   exact ha n JX
  ·exact ha n (zgL hd h)
theorem deep_of{s:St}(ha:∀a,¬Desc s a a):∀(f:Nat) (n:ByteArray),zl8 s n<f->Deep s f n
 |0,_,h=>by omega
 |f+1,n,h=>fun c hc=>deep_of ha f c (by have:=zmH ha hc;omega)
theorem zkz{s:St}(ha:∀a,¬Desc s a a)(n:ByteArray):Deep s (zaW s) n:=deep_of ha _ n (by
 unfold zaW zl8
 exact Nat.lt_succ_of_le (List.length_filter_le _ _))
theorem part_big{q:Rat}(h0:0<q)(hb:bigQ q=false):1<=(1000000000:Rat)*q:=by
 unfold bigQ at hb;have hd:(q.den:Int)<=1000000000:=by simpa using hb
 have hz:((q.den:Int):Rat)≠0:=ratI (by have:=q.den_pos;omega);have h1:q=q.num/((q.den:Int):Rat):=by rw[<-Rat.divInt_eq_div,Rat.num_divInt_den]
 have pw:q*((q.den:Int):Rat)=q.num:=by
  have:=Rat.div_mul_cancel (a:=(q.num:Rat)) hz;rw[<-h1]at this;exact this
 have hq:0<q.num:=MdG;have h2:((1:Int):Rat)<=(q.num:Rat):=Rat.intCast_le_intCast.2 hq;have h3:((q.den:Int):Rat)<=((1000000000:Int):Rat):=Rat.intCast_le_intCast.2 hd;have h4:=Rat.mul_le_mul_of_nonneg_left h3 (show(0:Rat)<=q by grind);rw[pw]at h4;have e1:((1:Int):Rat)=1:=rfl;have e2:((1000000000:Int):Rat)=1000000000:=rfl;rw[e1]at h2;rw[e2]at h4;grind
theorem zl9:∀ {l:Parts},(∀p∈l,0<p.2)->zaE l=false->(l.length:Rat)<=1000000000*sumQ l
 | [],_,_=>by
   have:((([]:Parts).length:Nat):Rat)=0:=rfl;rw[this,sumQ];grind
 |p::l,h1,h2=>by
  unfold zaE at h2;rw[List.any_cons,Bool.or_eq_false_iff]at h2;have h3:=part_big (h1 p McB) h2.1;have h4:=zl9 (l:=l) (fun q hq=>h1 q MdN) h2.2;rw[List.length_cons,zgu,sumQ];grind
theorem Bd.len{out:Parts}{t:Rat}(h:Bd out t)(ht:t<=1):out.length<=1000000000:=by
 have h1:=zl9 h.good.pos h.small;have h2:=h.le;have h3:((out.length:Int):Rat)<=((1000000000:Int):Rat):=by
  have e2:((1000000000:Int):Rat)=1000000000:=rfl;rw[e2,Rat.intCast_natCast];grind
 have:=Rat.intCast_le_intCast.1 h3;omega
open Go.Shelf
def zg2(w:World)(xs:Parts)(e:Ending)(w':World):Prop:= ∃v,e=.returned v/\OwnS w' w.heap.size 71 3 zaa v xs/\Below w.heap.size w w'
theorem zde{w:World}{b:Nat}{t:TypeId}{fr:Nat×Nat}{x:ByteArray×Rat}(h:w.heap[b]?=some (.cells #[.string x.1,.int .i64 x.2.num,.int .i64 x.2.den] t fr)):Sl w 3 zaa (some ⟨b,0,none⟩) [x]:=fun _=>
 ⟨b,0,rfl,zab h,fun k y hk j u hu=>by
   match k,hk with
   |0,hk=>
    obtain rfl:x=y:=by simpa using hk
    simp only[World.cell?,h];match j,hu with
    |0,hu|1,hu|2,hu=>exact hu⟩
theorem zoB{l:Parts}{k:Nat}(h:k<l.length):zaE (l.drop k)=(bigQ l[k].2||zaE (l.drop (k+1))):=by
 rw[List.drop_eq_getElem_cons h];rfl
theorem zdE(l:Parts)(A:Option Addr)(c:Nat)(w:World)(hl:l.length<=1000000000)(hS:Sl w 3 zaa A l):Calls Tryz.prog 170 #[.slice A l.length c] w (Ret0 w (.bool (zaE l))):=by
 have HS:=zHi hS;obtain⟨R,hR⟩:∃R,R=zaE l:=⟨_,rfl⟩
 rw[<-hR];have HR:=zHi hR;clear hS hR;go_enter Tryz.func170,Tryz.ntmps170
 go_upto_region 2 with fail
 go_loopw [3] (fun i wr=>∃k:Nat,k<=l.length/\i=.int .i64 k/\w=wr/\Hid (R=zaE (l.drop k))) (fun i _=>l.length-(intOf i).toNat)
 case atStart=>exact⟨0,Nat.zero_le _,rfl,rfl,HR.o⟩
 case round=>
  obtain⟨k,hk,rfl,rfl,HX⟩:=hrel;by_cases ae:k<l.length
  ·obtain⟨b,off,rfl,hb,ah⟩:=HS.o.at ae;have hx:=HX.o;rw[zoB ae]at hx;obtain⟨au,ak⟩:=yH2 hx ae;generalize l[k]=x at*;obtain⟨nm,q⟩:=x;have i2:w.cell? ⟨b,off+k*3+2,none⟩=some (.int .i64 q.den):=ah 2 _ rfl;have ar:(k:Int)<(l.length:Int):=Mcy;have aQ:(0:Int)<=(k:Int):=Mcy;clear ah hx ae;by_cases hs:1000000000<(q.den:Int)
   ·have HE:Hid (R=true):=by show _=_;rw[au.o];simp[bigQ,hs]
    exact M3
   ·have HE:Hid (R=zaE (l.drop (k+1))):=by show _=_;rw[au.o];simp[bigQ,hs]
    go_wp2_with fail
    exact MH
  ·have ar:¬(k:Int)<(l.length:Int):=Mcy;have HE:Hid (R=false):=by show _=_;rw[HX.o,List.drop_of_length_le Mcy];rfl
   exact M3
theorem zht{l:Parts}{n:ByteArray}{k:Nat}(h:k<l.length):zas (l.take (k+1)) n=zas (l.take k) n++(if zae l[k].1 n then[]else[l[k]]):=by
 unfold zas;rw[List.take_add_one,List.getElem?_eq_getElem h,List.filter_append];simp only[Option.toList_some,List.filter_cons,List.filter_nil];cases zae l[k].1 n<;>rfl
theorem zhu(l:Parts)(n:ByteArray)(A:Option Addr)(c:Nat)(w:World)(hl:l.length<=100000)(hS:Sl w 3 zaa A l):Calls Tryz.prog 167 #[.slice A l.length c,.string n] w (zg2 w (zas l n)):=by
 have HS:=zHi hS;unfold zg2;clear hS;go_enter Tryz.func167,Tryz.ntmps167
 go_upto_region 3 with fail
 go_loopw [5,6] (fun v i wr=>∃k:Nat,k<=l.length/\i=.int .i64 k/\OwnS wr w.heap.size 71 3 zaa v (zas (l.take k) n)/\Below w.heap.size w wr) (fun _ i _=>l.length-(intOf i).toNat)
 case atStart=>exact⟨0,Nat.zero_le _,rfl,OwnS.nil,Below.refl _ _⟩
 case round=>
  obtain⟨k,hk,rfl,aa,hB⟩:=hrel;have aG:=hB.size;obtain⟨HO,HB⟩:=yH2 aa hB;by_cases ae:k<l.length
  ·have aq:=zht (n:=n) ae;have bM:(zas (l.take k) n).length<=100000:=by
    exact MaQ
   generalize zas (l.take k) n=xs at*;obtain⟨VA,vc,rfl,_,kB⟩:=aa.sl zap;obtain⟨b,off,rfl,hb,ah⟩:=(HS.o.keep hB).at ae;have ak:=zHi ae;generalize l[k]=x at*;obtain⟨nm,q⟩:=x;have i0:wr.cell? ⟨b,off+k*3,none⟩=some (.string nm):=ah 0 _ rfl;have i1:wr.cell? ⟨b,off+k*3+1,none⟩=some (.int .i64 q.num):=ah 1 _ rfl;have i2:wr.cell? ⟨b,off+k*3+2,none⟩=some (.int .i64 q.den):=ah 2 _ rfl;have ar:(k:Int)<(l.length:Int):=Mcy;have aQ:(0:Int)<=(k:Int):=Mcy;have fN:=zHi bM;clear ah ae aa hB bM;cases hs:zae nm n
   ·have aB:Hid (zas (l.take (k+1)) n=xs++[(nm,q)]):=Md6;have bn:(nm.toList==n.toList)=false:=hs;clear aq hs
    go_wp2_with (at_builtin
                 go_loud(refine zat (v:=.slice VA xs.length vc) (n:=xs.length) (m:=1) rfl _ _ rfl zdN zap zcb rfl (xs:=xs) (ys:=[(nm,q)]) (HO.o.keep (n:=wr.heap.size) Bw) rfl rfl rfl (zde (zar _ _ _ rfl)) Mc7 Mdh McD ?_)
                 intro v3 w3 h1 h2 h3;have ax:=Below.grown (B:=w.heap.size) (a:=w) (HB.o.trans (Below.mono (B:=wr.heap.size) (zad (Below.refl _ _) _) aG)) h2 McD (fun j hj=>(HO.o.ge j hj).1);obtain⟨H1,aD⟩:=yH2 h1 ax
                 clear h1 h2 h3 ax)
    exact Mac
   ·have aB:Hid (zas (l.take (k+1)) n=xs):=Md6;have bn:(nm.toList==n.toList)=true:=hs;exact MaE
  ·exact MaL
