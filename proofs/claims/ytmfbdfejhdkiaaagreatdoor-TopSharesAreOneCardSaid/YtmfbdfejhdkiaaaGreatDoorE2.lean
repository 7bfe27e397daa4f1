/- Walks of chapter 5's law: deeds and rights in memory of their own. -/
import Derived.Test.YtmfbdfejhdkiaaaGreatDoorJQ
import Derived.Test.YtmfbdfejhdkiaaaGreatDoorO9
set_option linter.all false
set_option maxRecDepth 100000
set_option maxHeartbeats 4000000
namespace Go.Proofs.YtmfbdfejhdkiaaaGreatDoor
open Go.RowKit
attribute [local go_sem] World.cell?_alloc_mark zae za4 zao za8 zav zaw zax zay zaz za0 za1
attribute [local go_sem] zap zac
section
open Go.Shelf
section
variable {base k:Nat} {W W':World} {B:List Nat} {es:Array MapEntry} {ec:Nat}
theorem TombAt.keptM{T:Nat}{g:Grave}(h:TombAt W base B T g)(hg:W.grownBy W' (some k))(hx:W.heap[k]?=some (.map es ec)):TombAt W' base B T g:=by
 obtain⟨H,hc,D,dc,fr',t1,t2,t3,t4,t5,t6,t7⟩:=h;exact⟨H,hc,D,dc,fr',(hg.block T (zab t1) (fun e=>by simp only[Option.some.injEq]at e;subst e;unfold zb1 at t1;rw[t1]at hx;simp at hx)).trans t1,t2,t3,t4,t5.keptM hg hx,t6.keptM hg hx,t7⟩
theorem TombsAt.keptM{ps:List Nat}{tv:Value}{gs:List Grave}(h:TombsAt base W B tv ps gs)(hg:W.grownBy W' (some k))(hx:W.heap[k]?=some (.map es ec)):TombsAt base W' B tv ps gs:=
 ⟨h.own.keptM hg hx,h.len,h.nd,fun i T g e1 e2=>(h.all i T g e1 e2).keptM hg hx⟩
theorem WldC.keptM{b d c p wl r:Nat}{mv tv:Value}{la co:Int}(h:WldC W b d c p wl r mv tv la co)(hg:W.grownBy W' (some k))(hx:W.heap[k]?=some (.map es ec)):WldC W' b d c p wl r mv tv la co:=
 (hg.block b (zab h) (fun e=>by simp only[Option.some.injEq]at e;subst e;unfold WldC at h;rw[h]at hx;simp at hx)).trans h
theorem RowIs.keptM{m:List (ByteArray×Value)}{n:ByteArray}{xs:List ByteArray}(h:RowIs W base m n xs)(hg:W.grownBy W' (some k))(hx:W.heap[k]?=some (.map es ec)):RowIs W' base m n xs:=by
 rcases h with h|⟨v,h1,h2⟩
 ·exact .inl h
 ·exact .inr ⟨v,h1,h2.keptM hg hx⟩
theorem WillIs.keptM{m:List (ByteArray×Value)}{n:ByteArray}{xs:Parts}(h:WillIs W m n xs)(hg:W.grownBy W' (some k))(hx:W.heap[k]?=some (.map es ec)):WillIs W' m n xs:=by
 rcases h with h|⟨A,c,h1,h2⟩
 ·exact .inl h
 ·exact .inr ⟨A,c,h1,h2.keptM hg hx⟩
theorem RowIs.kept{m:List (ByteArray×Value)}{n:ByteArray}{xs:List ByteArray}{cs:Array Value}{t:TypeId}{fr:Nat×Nat}(h:RowIs W base m n xs)(hg:W.grownBy W' (some k))(hx:W.heap[k]?=some (.cells cs t fr))(ht:t≠9):RowIs W' base m n xs:=by
 rcases h with h|⟨v,h1,h2⟩
 ·exact .inl h
 ·exact .inr ⟨v,h1,h2.kept hg hx ht⟩
theorem WillIs.kept{m:List (ByteArray×Value)}{n:ByteArray}{xs:Parts}{cs:Array Value}{t:TypeId}{fr:Nat×Nat}(h:WillIs W m n xs)(hg:W.grownBy W' (some k))(hx:W.heap[k]?=some (.cells cs t fr))(ht:t≠59):WillIs W' m n xs:=by
 rcases h with h|⟨A,c,h1,h2⟩
 ·exact .inl h
 ·exact .inr ⟨A,c,h1,h2.kept hg hx ht⟩
theorem zb0{b:Nat}{K V:Type}{ek:K->Value}{ev:V->Value}{m:List (K×V)}(h:MapS W b ek ev m):∃es c,W.heap[b]?=some (.map es c):=by
 obtain⟨es,c,h1,_⟩:=h;exact⟨es,c,h1⟩
variable {d c p wl r:Nat} {mv tv:Value} {s:St}
theorem ppl_will(h:PplAt base W B d c p wl r mv s)(hg:W.grownBy W' (some wl)){ws:List (ByteArray×Parts)}{m':List (ByteArray×Value)}(h1:MapS W' wl ekS (fun v:Value=>v) m')(h2:∀n,WillIs W' m' n (zbx {s with wills:=ws} n)):PplAt base W' B d c p wl r mv {s with wills:=ws}:=by
 obtain⟨mc,mp,k1,k2,k3,k4,k5,k6⟩:=h.rows;obtain⟨m,k7,k8⟩:=h.wills;obtain⟨es,ec,hx⟩:=zb0 k7;have cR:=h.nd;simp only[List.nodup_cons,List.mem_cons,List.not_mem_nil,or_false,not_or]at cR;obtain⟨⟨n1,n2,n3,n4⟩,⟨n5,n6,n7⟩,⟨n8,n9⟩,n10,_⟩:=cR;refine⟨h.nd,h.ge,h.dead.grown hg (by simpa using n3),⟨mc,mp,k1.grown hg (by simpa using n6),k2.grown hg (by simpa using n8),fun n=>(k3 n).keptM hg hx,fun n=>(k4 n).keptM hg hx,k5,k6⟩,h.marr.keptM hg hx,⟨m',h1,h2⟩,h.ren.grown hg (by simpa using fun e=>n10 e.symm)⟩
theorem ppl_ren(h:PplAt base W B d c p wl r mv s)(hg:W.grownBy W' (some r)){rs:List (ByteArray×ByteArray)}(h1:MapS W' r ekP evB (rs.map fun x=>(x,true))):PplAt base W' B d c p wl r mv {s with renounce:=rs}:=by
 obtain⟨mc,mp,k1,k2,k3,k4,k5,k6⟩:=h.rows;obtain⟨m,k7,k8⟩:=h.wills;obtain⟨es,ec,hx⟩:=zb0 h.ren;have cR:=h.nd;simp only[List.nodup_cons,List.mem_cons,List.not_mem_nil,or_false,not_or]at cR;obtain⟨⟨n1,n2,n3,n4⟩,⟨n5,n6,n7⟩,⟨n8,n9⟩,n10,_⟩:=cR;refine⟨h.nd,h.ge,h.dead.grown hg (by simpa using n4),⟨mc,mp,k1.grown hg (by simpa using n7),k2.grown hg (by simpa using n9),fun n=>(k3 n).keptM hg hx,fun n=>(k4 n).keptM hg hx,k5,k6⟩,h.marr.keptM hg hx,⟨m,k7.grown hg (by simpa using n10),fun n=>(k8 n).keptM hg hx⟩,h1⟩
theorem ppl_dead(h:PplAt base W B d c p wl r mv s)(hg:W.grownBy W' (some d)){ds:List ByteArray}{gs:List Grave}(h1:MapS W' d ekS evB (ds.map fun n=>(n,true))):PplAt base W' B d c p wl r mv {s with dead:=ds,graves:=gs}:=by
 obtain⟨mc,mp,k1,k2,k3,k4,k5,k6⟩:=h.rows;obtain⟨m,k7,k8⟩:=h.wills;obtain⟨es,ec,hx⟩:=zb0 h.dead;have cR:=h.nd;simp only[List.nodup_cons,List.mem_cons,List.not_mem_nil,or_false,not_or]at cR;obtain⟨⟨n1,n2,n3,n4⟩,⟨n5,n6,n7⟩,⟨n8,n9⟩,n10,_⟩:=cR;refine⟨h.nd,h.ge,h1,⟨mc,mp,k1.grown hg (by simpa using fun e=>n1 e.symm),k2.grown hg (by simpa using fun e=>n2 e.symm),fun n=>(k3 n).keptM hg hx,fun n=>(k4 n).keptM hg hx,k5,k6⟩,h.marr.keptM hg hx,⟨m,k7.grown hg (by simpa using fun e=>n3 e.symm),fun n=>(k8 n).keptM hg hx⟩,h.ren.grown hg (by simpa using fun e=>n4 e.symm)⟩
end
theorem zk3{K V:Type}{eq:K->K->Bool}{k:K}{v:V}:∀ {m:List (K×V)},mget eq k m=none->mput eq k v m=m++[(k,v)]
 | [],_=>rfl
 |x::m,h=>by
  rw[mget]at h;rw[mput];cases hk:eq k x.1
  ·rw[hk]at h;simp only[Bool.false_eq_true,if_false]at h;rw[if_neg Mcv,zk3 h];rfl
  ·rw[hk]at h;simp at h
theorem ziD{K:Type}{eq:K->K->Bool}{k:K}:∀ {l:List K},(mget eq k (l.map fun x=>(x,true))).getD false=false->mget eq k (l.map fun x=>(x,true))=none
 | [],_=>rfl
 |x::l,h=>by
  rw[List.map_cons,mget]at h⊢;cases hk:eq k x
  ·rw[hk]at h;simp only[Bool.false_eq_true,if_false]at h;rw[if_neg Mcv];exact ziD h
  ·rw[hk]at h;simp at h
theorem rat_cells{l:List RPart}(h:∀p∈l,zaA 16 p.num p.den=true){W:World}{A:Option Addr}(hS:Sl W 3 RPart.cells A l):Sl W 3 zaa A (zan l):=fun hl=>by
 unfold zan at hl;rw[List.length_map]at hl;obtain⟨b,off,hA,hb,hc⟩:=hS hl;refine⟨b,off,hA,hb,fun k x hk j u hu=>?_⟩;unfold zan at hk;rw[List.getElem?_map]at hk;cases hp:l[k]? with
 |none=>rw[hp]at hk;cases hk
 |some y=>
  rw[hp]at hk;simp only[Option.map_some,Option.some.injEq]at hk;subst hk;have hy:=zi0 (h y (List.mem_of_getElem? hp));refine hc k y hp j u ?_;unfold zaa at hu;rw[hy.1,hy.2]at hu;exact hu
theorem zmM{base b k:Nat}{W W':World}{B ps:List Nat}{d c p wl r:Nat}{mv tv:Value}{s':St}{gs:List Grave}{la co:Int}{es:Array MapEntry}{ec:Nat}(hb:base<=b)(hC:WldC W b d c p wl r mv tv la co)(hT:TombsAt base W B tv ps gs)(hg:W.grownBy W' (some k))(hx:W.heap[k]?=some (.map es ec))
 (dr:s'.graves=gs)(hP:PplAt base W' B d c p wl r mv s'):WldAt base W' b s' la co:=
 ⟨B,d,c,p,wl,r,mv,tv,ps,hb,hC.keptM hg hx,hP,by rw[dr];exact hT.keptM hg hx⟩
theorem wldC_set3{W:World}{b d c p wl r:Nat}{mv tv:Value}{la co:Int}(h:WldC W b d c p wl r mv tv la co)(v':Value):WldC (W.setCell ⟨b,3,none⟩ v') b d c p wl r v' tv la co:=by
 unfold WldC at*;have:=Joins.block_setCell (i:=3) h v';simpa using this
theorem wld_marry{base b:Nat}{W w1:World}{B ps:List Nat}{d c p wl r:Nat}{mv tv v':Value}{s:St}{ms:List (ByteArray×ByteArray)}{la co:Int}(hb:base<=b)(hC:WldC W b d c p wl r mv tv la co)(hP:PplAt base W B d c p wl r mv s)(hT:TombsAt base W B tv ps s.graves)
 (h1:OwnS w1 base 140 2 zaX v' ms)(h2:W.grownBy w1 (za6 mv)):WldAt base (w1.setCell ⟨b,3,none⟩ v') b {s with marriages:=ms} la co/\WldC w1 b d c p wl r mv tv la co:=by
 have cJ:=zab hC;have ac:=hP.marr;have aQ:∀k,za6 mv=some k->∃cs fr,W.heap[k]?=some (.cells cs 140 fr):=fun k hk=>by
  exact Ma5
 have jq:za6 mv≠some b:=fun e=>by
  obtain⟨cs,fr,hx⟩:=aQ b e;exact MbR
 have cG:WldC w1 b d c p wl r mv tv la co:=(h2.block b cJ (fun e=>jq e.symm)).trans hC;obtain⟨mc,mp,k1,k2,k3,k4,k5,k6⟩:=hP.rows;obtain⟨m,k7,k8⟩:=hP.wills;have aD:=za2 w1 b 3 v';refine⟨⟨B,d,c,p,wl,r,v',tv,ps,hb,wldC_set3 cG v',?_,?_⟩,cG⟩
 ·cases hk:za6 mv with
  |none=>
   rw[hk]at h2;have hJ:Qa W w1:=⟨h2.os,h2.tape,h2.output,h2.size,fun i hi=>h2.block i hi Mcv⟩
   exact⟨hP.nd,hP.ge,(hP.dead.below hJ).keptC aD cG,⟨mc,mp,(k1.below hJ).keptC aD cG,(k2.below hJ).keptC aD cG,fun n=>((k3 n).keep hJ).kept aD cG Mcu,fun n=>((k4 n).keep hJ).kept aD cG Mcu,k5,k6⟩,h1.kept aD cG Mcu,⟨m,(k7.below hJ).keptC aD cG,fun n=>((k8 n).keep hJ).kept aD cG Mcu⟩,(hP.ren.below hJ).keptC aD cG⟩
  |some k=>
   obtain⟨cs,fr,hx⟩:=aQ k hk;rw[hk]at h2;exact⟨hP.nd,hP.ge,(hP.dead.keptC h2 hx).keptC aD cG,⟨mc,mp,(k1.keptC h2 hx).keptC aD cG,(k2.keptC h2 hx).keptC aD cG,fun n=>((k3 n).kept h2 hx Mcu).kept aD cG Mcu,fun n=>((k4 n).kept h2 hx Mcu).kept aD cG Mcu,k5,k6⟩,h1.kept aD cG Mcu,⟨m,(k7.keptC h2 hx).keptC aD cG,fun n=>((k8 n).kept h2 hx Mcu).kept aD cG Mcu⟩,(hP.ren.keptC h2 hx).keptC aD cG⟩
 ·cases hk:za6 mv with
  |none=>
   rw[hk]at h2;have hJ:Qa W w1:=⟨h2.os,h2.tape,h2.output,h2.size,fun i hi=>h2.block i hi Mcv⟩
   exact(hT.keep hJ).kept aD cG Mcu Mcu Mcu Mcu
  |some k=>
   obtain⟨cs,fr,hx⟩:=aQ k hk;rw[hk]at h2;exact(hT.kept h2 hx Mcu Mcu Mcu Mcu).kept aD cG Mcu Mcu Mcu Mcu
end
theorem zl8(l:Parts)(h:∀p∈l,0<p.2)(k:Nat):sumQ (l.take k)<=sumQ l:=by
 induction l generalizing k with
 |nil=>simp
 |cons p l ih=>
  cases k with
  |zero=>
   have h1:0<=sumQ l:=by
    have:=ih (fun q hq=>h q MdE) 0;simpa[sumQ]using this
   have:=h p Mcv;rw[List.take_zero,sumQ,sumQ];grind
  |succ k=>
   have:=ih (fun q hq=>h q MdE) k;rw[List.take_succ_cons,sumQ,sumQ];grind
structure WillInv (y:(Parts×Bool)×Rat):Prop where
 flag:y.1.2=false
 bd:Bd y.1.1 (1-y.2)
 isN:IsN 720720 y.2
 nn:0<=y.2
 le:y.2<=1
 small:zaL y.2
theorem zk4{s:St}{frm:ByteArray}{l:Parts}(hw:WillOk l)(k:Nat):WillInv (zdi s frm (l.take k) ([],false) 1):=by
 have hp:∀p∈l.take k,0<p.2:=fun p hp=>hw.pos p (List.mem_of_mem_take hp)
 have hN:∀p∈l.take k,IsN 720720 p.2:=fun p hp=>hw.isN p (List.mem_of_mem_take hp)
 have h1:=zg4 (s:=s) (frm:=frm) (rest:=1) hp hN zdt Mcv;obtain⟨g1,g2,g3,g4,g5⟩:=zii (s:=s) (frm:=frm) (out:=[]) (rest:=1) hp hN (Rat.le_trans (zl8 l hw.pos k) hw.le) zdt Mcv (zhe _);rw[h1];have gs:zaG (zcu s frm (l.take k) [] 1).1=false:=zc5 Mcu Mcu g2;have hn:=zbu (fun p hp=>by have:=g1.pos p hp;grind) (l:=(zcu s frm (l.take k) [] 1).1);have aw:sumQ ([]:Parts)=0:=rfl;rw[aw]at g5;have bu:(zcu s frm (l.take k) [] 1).2<=1:=McN;exact⟨rfl,⟨g1,gs,by grind⟩,g3,g4,bu,zbZ g4 bu (zeu Mcu Mcu g3)⟩
theorem zl9{α:Type}{p q:α->Bool}:∀ {l:List α},(∀x∈l,p x=true->q x=true)->(∃x∈l,q x=true/\p x=false)->(l.filter p).length<(l.filter q).length
 | [],_,h=>by obtain⟨x,hx,_⟩:=h;cases hx
 |y::l,h1,h2=>by
  have bu:∀ {l:List α},(∀x∈l,p x=true->q x=true)->(l.filter p).length<=(l.filter q).length:=by
   intro l;induction l with
   |nil=>intro _;simp
   |cons z l ih=>
    intro h;have:=ih (fun x hx=>h x Mdl);cases hp:p z
    ·cases hq:q z<;>simp[hp,hq]<;>omega
    ·have hq:=h z Mcv hp;simp[hp,hq];omega
  have hl:=bu (l:=l) (fun x hx=>h1 x Mdl);obtain⟨x,hx,h3,h4⟩:=h2;rcases List.mem_cons.1 hx with rfl|hx
  ·simp[h3,h4];omega
  ·have:=zl9 (l:=l) (fun x hx=>h1 x Mdl) ⟨x,hx,h3,h4⟩;cases hp:p y
   ·cases hq:q y<;>simp[hp,hq]<;>omega
   ·have hq:=h1 y Mcv hp;simp[hp,hq];omega
open Classical in
noncomputable def zlA (s:St) (n:ByteArray):Nat:=(s.children.filter fun e=>decide (e.1=n\/Desc s n e.1)).length
theorem zmN{s:St}(ha:∀a,¬Desc s a a){n c:ByteArray}(hc:c∈zaj s n):zlA s c<zlA s n:=by
 unfold zlA;have hd:=zf2 hc;refine zl9 (fun e _ h=>?_) ⟨(n,c),zdw.1 hc,by simp,?_⟩
 ·simp only[decide_eq_true_eq]at h⊢;rcases h with h|h
  ·right;rw[h];exact hd
  ·right;exact zha hd h
 ·simp only[decide_eq_false_iff_not,not_or];refine⟨fun e=>?_,fun h=>?_⟩
  ·have Lb:Desc s n n:=by
    have:=hd;rw[<-show n=c from e]at this;exact this
   exact ha n Lb
  ·exact ha n (zha hd h)
theorem deep_of{s:St}(ha:∀a,¬Desc s a a):∀(f:Nat) (n:ByteArray),zlA s n<f->Deep s f n
 |0,_,h=>by omega
 |f+1,n,h=>fun c hc=>deep_of ha f c (by have:=zmN ha hc;omega)
theorem zk5{s:St}(ha:∀a,¬Desc s a a)(n:ByteArray):Deep s (zaW s) n:=deep_of ha _ n (by
 unfold zaW zlA
 exact Nat.lt_succ_of_le (List.length_filter_le _ _))
theorem part_big{q:Rat}(h0:0<q)(hb:bigQ q=false):1<=(1000000000:Rat)*q:=by
 unfold bigQ at hb;have hd:(q.den:Int)<=1000000000:=by simpa using hb
 have hz:((q.den:Int):Rat)≠0:=ratI (by have:=q.den_pos;omega);have h1:q=q.num/((q.den:Int):Rat):=by rw[<-Rat.divInt_eq_div,Rat.num_divInt_den]
 have pU:q*((q.den:Int):Rat)=q.num:=by
  have:=Rat.div_mul_cancel (a:=(q.num:Rat)) hz;rw[<-h1]at this;exact this
 have hq:0<q.num:=by have:=(Rat.lt_iff 0 q).1 h0;simpa using this
 have h2:((1:Int):Rat)<=(q.num:Rat):=Rat.intCast_le_intCast.2 hq;have h3:((q.den:Int):Rat)<=((1000000000:Int):Rat):=Rat.intCast_le_intCast.2 hd;have h4:=Rat.mul_le_mul_of_nonneg_left h3 (show(0:Rat)<=q by grind);rw[pU]at h4;have e1:((1:Int):Rat)=1:=rfl;have e2:((1000000000:Int):Rat)=1000000000:=rfl;rw[e1]at h2;rw[e2]at h4;grind
theorem zlB:∀ {l:Parts},(∀p∈l,0<p.2)->zaG l=false->(l.length:Rat)<=1000000000*sumQ l
 | [],_,_=>by
   have:((([]:Parts).length:Nat):Rat)=0:=rfl;rw[this,sumQ];grind
 |p::l,h1,h2=>by
  unfold zaG at h2;rw[List.any_cons,Bool.or_eq_false_iff]at h2;have h3:=part_big (h1 p Mcv) h2.1;have h4:=zlB (l:=l) (fun q hq=>h1 q MdE) h2.2;rw[List.length_cons,zgF,sumQ];grind
theorem Bd.len{out:Parts}{t:Rat}(h:Bd out t)(ht:t<=1):out.length<=1000000000:=by
 have h1:=zlB h.good.pos h.small;have h2:=h.le;have h3:((out.length:Int):Rat)<=((1000000000:Int):Rat):=by
  have e2:((1000000000:Int):Rat)=1000000000:=rfl;rw[e2,Rat.intCast_natCast];grind
 have:=Rat.intCast_le_intCast.1 h3;omega
theorem ziE{α:Type}[DecidableEq α]:∀ {l m:List α},l.Nodup->(∀x∈l,x∈m)->l.length<=m.length
 | [],_,_,_=>Nat.zero_le _
 |x::l,m,hn,hm=>by
  rw[List.nodup_cons]at hn;have hx:=hm x Mcv;have:=ziE (l:=l) (m:=m.erase x) hn.2 (fun y hy=>(List.mem_erase_of_ne (fun e=>hn.1 (by rw[<-e];exact hy))).2 (hm y (by simp[hy])));rw[List.length_erase_of_mem hx]at this;have:=List.length_pos_of_mem hx;simp;omega
def zcl(out:Parts)(L:List ByteArray):Prop:= ∀p∈out,p.1∈L
theorem zeF{out:Parts}{fl:Bool}{n:ByteArray}{f:Rat}{L:List ByteArray}(h:zcl out L)(hn:n∈L):zcl (zcU n f (out,fl)).1 L:=fun p hp=>by
 rcases zki hp with e|h'
 ·rw[e];exact hn
 ·exact h p h'
mutual
def zc7(L:List ByteArray):List Tree->Prop
 | []=>True
 |t::l=>zfq L t/\zc7 L l
def zfq(L:List ByteArray):Tree->Prop
 | .leaf n=>n∈L
 | .node l=>zc7 L l
end
mutual
theorem zeG{part:Rat}{L:List ByteArray}:∀ {l:List Tree} {out:Parts} {fl:Bool},zc7 L l->zcl out L->zcl (zbG part l (out,fl)).1 L
 | [],out,fl,_,h=>by rw[zbG];exact h
 |t::l,out,fl,hl,h=>by
  rw[zc7]at hl;rw[zbG];exact zeG (l:=l) (fl:=(zdV part t (out,fl)).2) hl.2 (zoA hl.1 h)
theorem zoA{part:Rat}{L:List ByteArray}:∀ {t:Tree} {out:Parts} {fl:Bool},zfq L t->zcl out L->zcl (zdV part t (out,fl)).1 L
 | .leaf n,out,fl,hl,h=>by
   rw[zfq]at hl;rw[zdV];exact zeF h hl
 | .node l,out,fl,hl,h=>by
   rw[zfq]at hl;rw[zdV];exact zeG (l:=l) hl h
end
theorem zlC{L:List ByteArray}:∀ {l:List Tree},(∀t∈l,zfq L t)->zc7 L l
 | [],_=>by rw[zc7];trivial
 |t::l,h=>by
  rw[zc7];exact⟨h t Mcv,zlC fun t' ht=>h t' (by simp[ht])⟩
theorem zfr{s:St}{stems:Bool}{frm:ByteArray}{L:List ByteArray}(hL:∀c∈s.children,c.2∈L):∀(f:Nat) (n:ByteArray),zc7 L (zb4 s stems frm f n)
 |0,_=>by rw[show zb4 s stems frm 0 _=[]from rfl,zc7];trivial
 |f+1,n=>by
  refine zlC fun t ht=>?_
  rw[zfA]at ht;obtain⟨c,hc,h1⟩:=List.mem_filterMap.1 ht;unfold zcV at h1;split at h1
  ·simp only[Option.some.injEq]at h1;rw[<-h1,zfq];exact hL (n,c) (zdw.1 hc)
  ·split at h1
   ·simp only[Option.some.injEq]at h1;rw[<-h1,zfq];exact zfr hL f c
   ·cases h1
theorem zho{s:St}{frm:ByteArray}{L:List ByteArray}:∀ {l out:Parts} {fl:Bool} {rest:Rat},(∀p∈l,p.1∈L)->zcl out L->zcl (zdi s frm l (out,fl) rest).1.1 L
 | [],_,_,_,_,h=>h
 |p::l,out,fl,rest,hl,h=>by
  rw[zdi];split
  ·exact zho (l:=l) (fun q hq=>hl q MdE) (zeF (fl:=fl) h (hl p Mcv))
  ·exact zho (l:=l) (fun q hq=>hl q MdE) h
theorem ziF{s:St}{law:Law}{n:ByteArray}(hG:GoodParts (zck s law n).1):(zck s law n).1.length<=(zbx s n).length+s.children.length+1:=by
 let L:=((zbx s n).map (·.1))++(s.children.map (·.2))++[zcq s n]
 have hL:zcl (zck s law n).1 L:=by
  have h1:∀p∈zbx s n,p.1∈L:=fun p hp=>List.mem_append_left _ (List.mem_append_left _ (List.mem_map.2 ⟨p,hp,rfl⟩))
  have h2:∀c∈s.children,c.2∈L:=fun c hc=>List.mem_append_left _ (List.mem_append_right _ (List.mem_map.2 ⟨c,hc,rfl⟩))
  have h3:zcq s n∈L:=List.mem_append_right _ Mcv;have h4:=zho (s:=s) (frm:=n) (fl:=false) (rest:=1) h1 (show zcl [] L from fun p hp=>by cases hp);have h5:=zfr (stems:=law.stems) (frm:=n) h2 (zaW s) n;unfold zck;generalize zdi s n (zbx s n) ([],false) 1=y at*;obtain⟨⟨o,f⟩,r⟩:=y;simp only;split
  ·exact zeF h4 h3
  ·split
   ·unfold zcz;exact zeG h5 h4
   ·unfold zcz;exact zeG (fl:=_) h5 (zeF (fl:=f) h4 h3)
 have hn:((zck s law n).1.map (·.1)).Nodup:=by
  rw[List.nodup_iff_pairwise_ne,List.pairwise_map];exact hG.asc.imp fun h=>zcJ h
 have:=ziE (m:=L) hn (fun x hx=>by
  obtain⟨p,hp,rfl⟩:=List.mem_map.1 hx
  exact hL p hp)
 simp only[L,List.length_append,List.length_map,List.length_singleton]at this;exact this
theorem zoB(a b:ByteArray):zaf a b=zaf b a:=by
 rw[Bool.eq_iff_iff,za3,za3];exact⟨Eq.symm,Eq.symm⟩
theorem zjL(fb sh:Bool)(frm:ByteArray):∀(l seen:List RPart) (L:List ByteArray) (s:Rat),(∀n,L.any (zaf n)=seen.any (fun q=>zaf q.name n))->
 zcs fb sh frm l seen s=if(zda l L&&l.all (fun p=>!(zaf p.name frm&&fb)))&&(if sh then l.all (fun p=>zaA 16 p.num p.den&&p.num != 0)else l.all (fun p=>p.num==0&&p.den==0))then some (if sh then s+sumQ (zan l)else s)else none
 | [],seen,L,s,h=>by
   rw[zcs];cases sh
   ·simp[zda]
   ·simp[zda,zan,sumQ,Rat.add_zero]
 |p::l,seen,L,s,h=>by
  have ih:=fun t=>zjL fb sh frm l (seen++[p]) (p.name::L) t (fun n=>by
   rw[List.any_cons,List.any_append,h n,List.any_cons,List.any_nil,Bool.or_false,Bool.or_comm,zoB n])
  have hs:sumQ (zan (p::l))=p.rat+sumQ (zan l):=rfl;rw[zcs,zda,h p.name,List.all_cons,List.all_cons,List.all_cons,hs,ih,ih];cases h1:seen.any (fun q=>zaf q.name p.name)
  ·cases h2:(zaf p.name frm&&fb)
   ·simp only[Bool.or_self,Bool.false_eq_true,if_false,Bool.not_false,Bool.true_and];cases sh
    ·simp only[Bool.not_false,if_true,Bool.false_eq_true,if_false];by_cases hz:p.num=0
     ·by_cases hy:p.den=0
      ·simp[hz,hy]
      ·simp[hz,hy]
     ·simp[hz]
    ·simp only[Bool.not_true,if_true,Bool.false_eq_true,if_false];cases h3:zaA 16 p.num p.den
     ·simp
     ·by_cases hz:p.num=0
      ·simp[hz]
      ·have e:s+p.rat+sumQ (zan l)=s+(p.rat+sumQ (zan l)):=McN;simp[hz,e]
   ·simp
  ·simp
theorem zoC(s:Rat):decide (s.num<=(s.den:Int))=decide (s<=1):=by
 rw[Bool.eq_iff_iff,decide_eq_true_eq,decide_eq_true_eq,Rat.le_iff];simp
theorem zmO(s:Rat):(s.num==(s.den:Int))=(s==1):=by
 rw[Bool.eq_iff_iff,beq_iff_eq,beq_iff_eq];constructor
 ·intro h;have h1:=Rat.num_divInt_den s;rw[h]at h1;rw[<-h1];have:=s.den_pos;rw[Rat.divInt_self'];omega
 ·intro h;rw[h];rfl
theorem sumOk_eq(fb sh al:Bool)(frm:ByteArray)(l:List RPart)(hf:fb=true\/∀p∈l,zaf p.name frm=false):zhb sh al (zcs fb sh frm l [] 0)=zcA sh al frm l:=by
 have h0:∀n:ByteArray,([]:List ByteArray).any (zaf n)=([]:List RPart).any (fun q=>zaf q.name n):=fun n=>rfl
 rw[zjL fb sh frm l [] [] 0 h0];have Li:l.all (fun p=>!(zaf p.name frm&&fb))=l.all (fun p=>!zaf p.name frm):=by
  rcases hf with hf|hf
  ·subst hf;simp
  ·rw[Bool.eq_iff_iff,List.all_eq_true,List.all_eq_true];exact⟨fun _ p hp=>by rw[hf p hp];rfl,fun _ p hp=>by rw[hf p hp];rfl⟩
 rw[Li];unfold zcA;cases sh
 ·simp only[Bool.false_eq_true,if_false];split
  ·rename_i h;rw[h];rfl
  ·rename_i h
   rw[Bool.not_eq_true]at h;rw[h];rfl
 ·simp only[if_true];split
  ·rename_i h
   rw[Bool.and_eq_true,Bool.and_eq_true]at h;rw[h.1.1,h.1.2,h.2];simp only[zhb,Bool.not_true,Bool.false_or,Bool.true_and,Rat.zero_add,zoC,zmO]
  ·rename_i h
   rw[Bool.not_eq_true]at h;simp only[zhb];cases h1:zda l []<;>cases h2:l.all (fun p=>!zaf p.name frm)<;>cases h3:l.all (fun p=>zaA 16 p.num p.den&&p.num != 0)<;>simp_all
theorem noB_same{a b:ByteArray}(ha:noB a=false)(hb:noB b=true):zaf a b=false:=by
 unfold noB at ha hb;unfold zaf;cases h:(a.toList==b.toList)
 ·rfl
 ·rw[beq_iff_eq]at h;rw[h,hb]at ha;cases ha
theorem zhT{f:Form}{frm:ByteArray}{l:List RPart}(hf:f.frm=true\/∀p∈l,zaf p.name frm=false):zhy f frm l=if f.parts then(!l.isEmpty&&(f.shares||l.length==1))&&zcA f.shares f.all frm l else l.isEmpty:=by
 unfold zhy;rw[sumOk_eq _ _ _ _ _ hf];cases f.parts
 ·simp
 ·cases l.isEmpty
  ·cases f.shares
   ·by_cases h:l.length=1
    ·simp[h]
    ·simp[h]
   ·simp
  ·simp
theorem zeH(d:Deed):zc4 d=zaC d:=by
 obtain⟨kd,dy,pl,fr,ps,cl,yr⟩:=d;unfold zc4 zaC;simp only;split
 ·rfl
 rename_i h1
 split
 ·rfl
 rename_i h2
 split
 ·rfl
 rename_i h3
 have e4:(ps.any fun p=>!zaE p.name)=!ps.all fun p=>zaE p.name:=by rw[List.not_all_eq_any_not]
 rw[e4];split
 ·rfl
 rename_i h4
 have hn:∀p∈ps,noB p.name=false:=fun p hp=>by
  cases ha:(ps.all fun p=>zaE p.name)
  ·rw[ha]at h4;simp at h4
  ·exact zgu (List.all_eq_true.1 ha p hp)
 simp only[Bool.not_eq_true',Bool.not_eq_false,zf5]at h1;have hk:kd=0\/kd=1\/kd=2\/kd=3\/kd=4\/kd=5\/kd=6\/kd=7\/kd=8:=Mcq;have hg:noB fr=true->∀p∈ps,zaf p.name fr=false:=fun hb p hp=>noB_same (hn p hp) hb
 clear h1 h2 h3 h4 hn e4;have FM:(0:Int)=0:=rfl;rcases hk with rfl|rfl|rfl|rfl|rfl|rfl|rfl|rfl|rfl
 all_goals
  simp only[zed,zfW,Int.toNat_zero,Int.toNat_one,List.getD_cons_zero,show(2:Int).toNat=2 from rfl,show(3:Int).toNat=3 from rfl,show(4:Int).toNat=4 from rfl,show(5:Int).toNat=5 from rfl,show(6:Int).toNat=6 from rfl,show(7:Int).toNat=7 from rfl,show(8:Int).toNat=8 from rfl,List.getD_cons_succ]
 ·cases hb:noB fr
  ·simp
  ·rw[zhT (f:=⟨_,_,_,_,_,_,_,_⟩) (.inr (hg hb))];cases noB pl<;>cases hy:(yr==0)<;>cases hc:(cl==2)<;>simp
 ·exact M5
 ·exact M5
 ·cases hb:noB fr
  ·simp
  ·rw[zhT (f:=⟨_,_,_,_,_,_,_,_⟩) (.inr (hg hb))];cases noB pl<;>cases hy:(yr==0)<;>cases hc:(cl==0)<;>simp_all
 ·exact M5
 ·exact Mam
 ·exact Mam
 ·exact Mam
 ·exact M5
open Go.Shelf
structure DV where
 d:Deed
 B:Option Addr
 c:Nat
def DV.cells(x:DV):List Value:=[.int .i64 x.d.kind,.int .i64 x.d.day,.string x.d.place,.string x.d.frm,.slice x.B x.d.to.length x.c,.int .i64 x.d.cls,.int .i64 x.d.years]
theorem zbA(x:DV):x.cells.length=7:=rfl
theorem zfs(x:DV):∀u∈x.cells,u.oneCell'=true:=by simp[DV.cells,Value.oneCell']
theorem rp_len(x:RPart):x.cells.length=3:=rfl
theorem rp_one(x:RPart):∀u∈x.cells,u.oneCell'=true:=by simp[RPart.cells,Value.oneCell']
theorem lw_one(x:Law):∀u∈x.cells,u.oneCell'=true:=by simp[Law.cells,Value.oneCell']
theorem elRPart:ElTy Tryz.prog 26 59 3 32:=zdC (z:=.agg #[.string ⟨#[]⟩,.int .i64 0,.int .i64 0]) Mcs Mcs rfl Mcu
theorem elLaw:ElTy Tryz.prog 22 72 4 32:=zdC (z:=.agg #[.int .i64 0,.bool false,.int .i64 0,.int .i64 0]) Mcs Mcs rfl Mcu
theorem zft:ElTy Tryz.prog 23 28 7 88:=zdC (z:=.agg #[.int .i64 0,.int .i64 0,.string ⟨#[]⟩,.string ⟨#[]⟩,.slice none 0 0,.int .i64 0,.int .i64 0]) Mcs Mcs rfl Mcu
theorem zc9{w:World}{g:Nat}{z0 z1 z2 z3 z4 z5 z6 a b c d e f h':Value}{t:TypeId}{fr:Nat×Nat}(h:w.heap[g]?=some (.cells #[z0,z1,z2,z3,z4,z5,z6] t fr)):
 (((((((w.setCell ⟨g,0,none⟩ a).setCell ⟨g,1,none⟩ b).setCell ⟨g,2,none⟩ c).setCell ⟨g,3,none⟩ d).setCell ⟨g,4,none⟩ e).setCell ⟨g,5,none⟩ f).setCell ⟨g,6,none⟩ h').heap[g]?=some (.cells #[a,b,c,d,e,f,h'] t fr):=by
 have:=Joins.block_setCell (i:=6) (Joins.block_setCell (i:=5) (Joins.block_setCell (i:=4) (Joins.block_setCell (i:=3) (Joins.block_setCell (i:=2) (Joins.block_setCell (i:=1) (Joins.block_setCell (i:=0) h a) b) c) d) e) f) h';simpa using this
theorem zlD{fn:Func}{p:Tmp}(h:fn.results= #[.cell p 28])(tmps:Array Value)(w:World)(B:Nat)(x0 x1 x2 x3 x4 x5 x6:Value)(hp:tmps.getD p undef=.pointer (some ⟨B,0,none⟩))
 (hx:w.heap[B]?=some (.cells #[x0,x1,x2,x3,x4,x5,x6] 28)):(results fn tmps).run Tryz.prog w=.ok (.agg #[x0,x1,x2,x3,x4,x5,x6]) w:=by
 obtain⟨h0,h1,h2,h3,h4,h5,h6⟩:=cF7 hx;exact Mbl
def znW(w:World)(d:Deed)(e:Ending)(w':World):Prop:=
 ∃B c,e=.returned (d.v B c)/\d.to.length<=c/\Ro w' 59 RPart.cells B d.to/\Qa w w'
theorem own_neC{α:Type}{W:World}{base:Nat}{e t:TypeId}{size:Nat}{f:α->List Value}{v:Value}{xs:List α}{T:Nat}{cs:Array Value}{fr:Nat×Nat}(h:OwnS W base e size f v xs)(hT:W.heap[T]?=some (.cells cs t fr))(ag:t≠e):za6 v≠some T:=by
 exact M3
theorem znX{α β:Type}{W W':World}{base size:Nat}{e e':TypeId}{f:α->List Value}{g:β->List Value}{v:Value}{A:Option Addr}{xs:List α}{ys:List β}(h:Ro W e' f A xs)(ac:OwnS W base e size g v ys)(hg:W.grownBy W' (za6 v))(ag:e'≠e):Ro W' e' f A xs:=
 h.same fun b cur fr hb _=>hg.block b (zab hb) (Ne.symm (own_neC ac hb ag))
theorem zgI{α:Type}{w:World}{b size:Nat}{f:α->List Value}{t:TypeId}{fr:Nat×Nat}{cs:Array Value}{xs:List α}(ae:∀x,(f x).length=size)(h:w.heap[b]?=some (.cells cs t fr))(hc:xs.flatMap f=cs.toList):Sl w size f (some ⟨b,0,none⟩) xs:=fun _=>
 ⟨b,0,rfl,zab h,fun k x hk j u hu=>by
   have:=zeW f size ae xs k x hk j u hu;rw[hc]at this;simp only[World.cell?,h,Nat.zero_add]
   simpa using this⟩
theorem slw_of{W:World}{A:Option Addr}{xs:List DV}{ds:List Deed}(h:Sl W 7 DV.cells A xs)(hm:xs.map (·.d)=ds)(hp:∀x∈xs,x.d.to.length<=x.c/\Sl W 3 RPart.cells x.B x.d.to):SlW W 7 zfL A ds:=fun hl=>by
 subst hm;obtain⟨b,off,hA,hb,hc⟩:=h Mez;refine⟨b,off,hA,hb,fun k x hk=>?_⟩;rw[List.getElem?_map]at hk;obtain⟨y,hy,rfl⟩:=Option.map_eq_some_iff.1 hk;have:=hp y (List.mem_of_getElem? hy);exact⟨y.cells,⟨y.B,y.c,this.1,rfl,this.2⟩,fun j u hu=>hc k y hy j u hu⟩
