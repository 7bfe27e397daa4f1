/- Walks of chapter 5: copies of laws, deeds, parts; a deed copied. -/
import Derived.Test.YtckkbkdcdkhglaaGreatDoorRC
import Derived.Test.YtckkbkdcdkhglaaGreatDoorJN
set_option linter.unusedSimpArgs false
set_option linter.unusedVariables false
set_option maxRecDepth 100000
set_option maxHeartbeats 4000000
namespace Go.Proofs.YtckkbkdcdkhglaaGreatDoor
open Go.RowKit
theorem zl3 {l:Parts} (h:GoodParts l) {n:ByteArray} {q:Rat} (m:ByteArray):zaf (setP l n q) m=if zae m n then q else zaf l m:=by
 have hw:=zbH h (n:=n);have h0:zaf (zas l n) n=0:=by rw[zd9,zbW];rfl
 rw[zio h.asc];by_cases hq:q==0
 ·rw[if_pos hq,zd9];have:q=0:=by simpa using hq
  rw[this]
 ·rw[if_neg hq,zim hw,h0,Rat.zero_add];cases hs:zae m n
  ·simp only[Bool.false_eq_true,if_false];rw[zd9,hs];rfl
  ·rfl
theorem eqS_same (a b:ByteArray):eqS a b=zae a b:=rfl
theorem zfi {V:Type} (k:ByteArray) (v:V) (n:ByteArray): ∀m:List (ByteArray×V),mget eqS n (mput eqS k v m)=if zae n k then some v else mget eqS n m
 | []=>rfl
 |x::m=>by
  rw[mput];have kW:eqS k x.1=zae k x.1:=rfl;rw[kW];cases hk:zae k x.1
  ·rw[if_neg Mco,mget,mget,zfi k v n m];have jy:eqS n x.1=zae n x.1:=rfl;rw[jy];cases hn:zae n x.1
   ·simp
   ·have Kr:zae n k=false:=by
     rw[zco];intro e;rw[zat]at hn;rw[zco]at hk;exact hk (e▸hn)
    simp[Kr]
  ·have kW:k=x.1:=zat.1 hk;rw[if_pos rfl,mget,mget];show(if zae n k=true then _ else _)=_;cases hn:zae n k
   ·have:eqS n x.1=false:=by rw[eqS_same,<-kW,hn]
    simp[this]
   ·simp
theorem zgy {V:Type} (k:ByteArray) (v:V): ∀m:List (ByteArray×V),(m.map (·.1)).Nodup->((mput eqS k v m).map (·.1)).Nodup/\ ∀x∈(mput eqS k v m).map (·.1),x=k\/x∈m.map (·.1)
 | [],_=>by simp[mput]
 |x::m,h=>by
  rw[mput];have kW:eqS k x.1=zae k x.1:=rfl;rw[kW];rw[List.map_cons,List.nodup_cons]at h;cases hk:zae k x.1
  ·obtain⟨h1,h2⟩:=zgy k v m h.2;rw[if_neg Mco,List.map_cons];refine⟨List.nodup_cons.2 ⟨fun hx=> ?_,h1⟩,fun y hy=> ?_⟩
   ·rcases h2 _ hx with e|e
    ·rw[e,zbW]at hk;cases hk
    ·exact h.1 e
   ·rcases List.mem_cons.1 hy with rfl|hy
    ·exact .inr Mco
    ·rcases h2 y hy with e|e
     ·exact .inl e
     ·exact .inr (by simp[e])
  ·have e:k=x.1:=zat.1 hk;rw[if_pos rfl,List.map_cons];refine⟨List.nodup_cons.2 ⟨by rw[e];exact h.1,h.2⟩,fun y hy=> ?_⟩;rcases List.mem_cons.1 hy with rfl|hy
   ·exact .inl rfl
   ·exact .inr (by simp[hy])
theorem zda {V:Type} {n:ByteArray} {v:V}: ∀ {m:List (ByteArray×V)},mget eqS n m=some v->(n,v)∈m
 | [],h=>by simp[mget]at h
 |x::m,h=>by
  rw[mget]at h;have jy:eqS n x.1=zae n x.1:=rfl;rw[jy]at h;cases hn:zae n x.1
  ·rw[hn,if_neg Mco]at h;exact List.mem_cons_of_mem _ (zda h)
  ·rw[hn,if_pos rfl]at h;have e:=zat.1 hn;simp only[Option.some.injEq]at h;rw[e,<-h];exact List.mem_cons_self
theorem zhM {V:Type} {n:ByteArray} {v:V}: ∀ {m:List (ByteArray×V)},(m.map (·.1)).Nodup->(n,v)∈m->mget eqS n m=some v
 | [],_,h=>by simp at h
 |x::m,hd,h=>by
  rw[List.map_cons,List.nodup_cons]at hd;rw[mget];have jy:eqS n x.1=zae n x.1:=rfl;rw[jy];rcases List.mem_cons.1 h with rfl|h
  ·rw[zbW,if_pos rfl]
  ·have ai:zae n x.1=false:=zco.2 fun e=>hd.1 (by rw[<-e];exact List.mem_map.2 ⟨_,h,rfl⟩)
   rw[ai,if_neg Mco];exact zhM hd.2 h
theorem zf5 {out:Parts} {t f:Rat} {n:ByteArray} {fl:Bool} (h:Bd out t) (hf:0<=f):Bd (zcP n f (out,fl)).1 (t+f):=h.set n hf
theorem Bd.up6 {out:Parts} {t u:Rat} (h:Bd out t) (hu:t<=u):Bd out u:=⟨h.good,h.small,Rat.le_trans h.le hu⟩
theorem zk4 {part:Rat} (hp:0<=part) (n:Nat):zbi (part*(1/(n:Rat)))*(n:Rat)<=part:=by
 have h1:=zha (zeB hp n);by_cases hn:n=0
 ·subst hn;have:((0:Nat):Rat)=0:=rfl;rw[this,Rat.mul_zero];exact hp
 ·have tV:(n:Rat)≠0:=by
   have:=ratI (n:=(n:Int)) Mcl;rwa [Rat.intCast_natCast]at this
  have h2:part*(1/(n:Rat))*(n:Rat)=part:=by
   rw[zkz];exact Rat.div_mul_cancel tV
  have h3:=Rat.mul_le_mul_of_nonneg_right h1 (Rat.natCast_nonneg (a:=n));rw[h2]at h3;exact h3
theorem zgz (n:Nat):((n+1:Nat):Rat)=(n:Rat)+1:=by
 rw[Rat.natCast_add];rfl
mutual
theorem zhN {part:Rat} (hp:0<=part): ∀ {l:List Tree} {out:Parts} {fl:Bool} {t:Rat},Bd out t->Bd (zbO part l (out,fl)).1 (t+part*(l.length:Rat))
 | [],out,fl,t,h=>by
   rw[zbO];have e:((([]:List Tree).length:Nat):Rat)=0:=rfl;rw[e,Rat.mul_zero,Rat.add_zero];exact h
 |x::l,out,fl,t,h=>by
  rw[zbO];have h1:=zhN hp (l:=l) (fl:=(zdP part x (out,fl)).2) (tree_bd hp (t':=x) (fl:=fl) h);rw[List.length_cons,zgz];exact h1.up6 McO
theorem tree_bd {part:Rat} (hp:0<=part): ∀ {t':Tree} {out:Parts} {fl:Bool} {t:Rat},Bd out t->Bd (zdP part t' (out,fl)).1 (t+part)
 | .leaf n,out,fl,t,h=>by
   rw[zdP];exact zf5 h hp
 | .node l,out,fl,t,h=>by
   rw[zdP];have h1:=zhN (zcv (zeB hp l.length)) (l:=l) (fl:=fl||bigQ (part*(1/(l.length:Rat)))) h;have h2:=zk4 hp l.length;exact h1.up6 McO
end
def WideN:Nat->List Tree->Prop
 |0,l=>l=[]
 |f+1,l=>l.length<=1000/\ ∀l',Tree.node l'∈l->WideN f l'
theorem zjK {s:St} {stems:Bool} {frm:ByteArray} (hl:s.children.length<=1000): ∀(f:Nat) (n:ByteArray),WideN f (zb2 s stems frm f n)
 |0,_=>rfl
 |f+1,n=>by
  refine⟨?_,fun l' hm=> ?_⟩
  ·unfold zb2;refine Nat.le_trans (List.length_filterMap_le _ _) ?_;exact Mbe
  ·unfold zb2 at hm;obtain⟨c,_,hc⟩:=List.mem_filterMap.1 hm;split at hc
   ·simp at hc
   ·split at hc
    ·simp only[Option.some.injEq,Tree.node.injEq]at hc;rw[<-hc];exact zjK hl f c
    ·cases hc
theorem zhO {n:Nat} (h:0<n):((1:Rat)/(n:Rat)).num=1/\(((1:Rat)/(n:Rat)).den:Int)=n/\0<=(1:Rat)/(n:Rat)/\(1:Rat)/(n:Rat)<=1:=by
 have hs:za6 (n:Int) 1 (n:Int)=true:=by
  unfold za6;simp;omega
 have:=zbl hs;rw[Rat.divInt_eq_div,Rat.intCast_natCast]at this;exact this
theorem zl4 {n:Nat} (h:0<n) (h1:n<=1000):zaK ((1:Rat)/(n:Rat)):=by
 obtain⟨h2,h3,h4,h5⟩:=zhO h;exact zcb h4 h5 (by unfold bigQ;rw[h3];simp;omega)
theorem part_ok {q:Rat} (h0:0<=q) (h1:q<=1) {n:Nat} (hn:0<n):0<=zbi (q*(1/(n:Rat)))/\zbi (q*(1/(n:Rat)))<=1/\zaK (zbi (q*(1/(n:Rat))))/\zbi (q*(1/(n:Rat)))*(n:Rat)<=q:=by
 have h2:=zcv (zeB h0 n);have h3:=zk4 h0 n;have h4:zbi (q*(1/(n:Rat)))<=zbi (q*(1/(n:Rat)))*(n:Rat):=by
  have h5:(1:Rat)<=(n:Rat):=by
   have:((1:Nat):Rat)<=(n:Rat):=Rat.natCast_le_natCast.2 hn;exact this
  have:=Rat.mul_le_mul_of_nonneg_left h5 h2;rwa [Rat.mul_one]at this
 have h6:zbi (q*(1/(n:Rat)))<=1:=Rat.le_trans h4 (Rat.le_trans h3 h1);exact⟨h2,h6,zcb h2 h6 (zgq _),h3⟩
theorem take_le {part:Rat} (hp:0<=part) {k n:Nat} (h:k<=n):part*(k:Rat)<=part*(n:Rat):=
 Rat.mul_le_mul_of_nonneg_left (Rat.natCast_le_natCast.2 h) hp
theorem zmJ (part:Rat) (l:List Tree) (x:Parts×Bool) {k:Nat} (h:k<l.length):zbO part (l.take (k+1)) x=zdP part l[k] (zbO part (l.take k) x):=by
 rw[List.take_succ_eq_append_getElem h,zgr,zbO,zbO]
def zl5 (out:Parts) (p:ByteArray×Value):Option (ByteArray×Rat):=if 0<zaf out p.1 then some (p.1,zaf out p.1)else none
def colP (out:Parts) (l:List (ByteArray×Value)):Parts:=l.filterMap (zl5 out)
theorem colP_snoc (out:Parts) (l:List (ByteArray×Value)) (p:ByteArray×Value):colP out (l++[p])=colP out l++(zl5 out p).toList:=by
 unfold colP;rw[List.filterMap_append];cases h:zl5 out p<;>simp[List.filterMap,h]
theorem zo8 {l:Parts} {n:ByteArray} (h:zaf l n≠0):(n,zaf l n)∈l:=by
 unfold zaf at h⊢;cases hf:l.find? (fun p=>zae p.1 n)with
 |none=>rw[hf]at h;exact absurd rfl h
 |some p=>
  have h1:=List.mem_of_find?_eq_some hf;have h2:=List.find?_some hf;have h3:p.1=n:=zat.1 h2;rw[<-h3];exact h1
theorem zo9 {l:Parts} (h:GoodParts l):l.Nodup:=by
 refine h.asc.imp fun {a b} cI e=> ?_
 rw[e,zeU]at cI;cases cI
theorem znR {out:Parts} (hg:GoodParts out) {mm:List (ByteArray×Value)} (cM:(mm.map (·.1)).Nodup) (iB: ∀n,(mget eqS n mm=none/\zaf out n=0)\/mget eqS n mm=some (za9 (zaf out n))):(colP out mm).Perm out:=by
 refine(List.perm_ext_iff_of_nodup ?_ (zo9 hg)).2 fun a=> ?_
 ·unfold colP;have h1:((mm.map (·.1)).filterMap fun n=>if 0<zaf out n then some (n,zaf out n)else none).Nodup:=by
   refine List.Pairwise.filterMap _ ?_ cM;intro a b cI x hx y hy e;split at hx
   ·split at hy
    ·simp only[Option.some.injEq]at hx hy;rw[<-hx,<-hy]at e;exact cI (congrArg Prod.fst e)
    ·cases hy
   ·cases hx
  rw[List.filterMap_map]at h1;exact h1
 ·constructor
  ·intro ha;obtain⟨p,hp,h1⟩:=List.mem_filterMap.1 ha;unfold zl5 at h1;split at h1
   ·rename_i h0
    simp only[Option.some.injEq]at h1;rw[<-h1];exact zo8 (by intro e;rw[e]at h0;exact absurd h0 Mcn)
   ·cases h1
  ·intro ha;have h1:=share_mem hg ha;have h2:=hg.pos a ha;have h3:mget eqS a.1 mm=some (za9 (zaf out a.1)):=by
    rcases iB a.1 with⟨_,h⟩|h
    ·rw[h1]at h;rw[h]at h2;exact absurd h2 Mcn
    ·exact h
   refine List.mem_filterMap.2 ⟨_,zda h3,?_⟩;unfold zl5;rw[h1,if_pos h2]
def UpP (L:Parts):Prop:=L.Pairwise fun a b=>zbo b.1 a.1=false
theorem zl6 {ls L:Parts} (h:GoodParts ls) (hp:L.Perm ls) (hs:UpP L):L=ls:=by
 have eQ:L.Pairwise (fun x y:ByteArray×Rat=>zbo y.1 x.1=false):=hs;refine List.Perm.eq_of_pairwise (le:=fun x y:ByteArray×Rat=>zbo y.1 x.1=false) ?_ eQ ?_ hp
 ·intro a b ha hb h1 h2;have kT:a∈ls:=hp.mem_iff.1 ha;obtain⟨i,hi,rfl⟩:=List.getElem_of_mem kT;obtain⟨j,hj,rfl⟩:=List.getElem_of_mem hb;rcases Nat.lt_trichotomy i j with cS|cS|cS
  ·have:=List.pairwise_iff_getElem.1 h.asc i j hi hj cS;rw[this]at h2;cases h2
  ·subst cS;rfl
  ·have:=List.pairwise_iff_getElem.1 h.asc j i hj hi cS;rw[this]at h1;cases h1
 ·refine h.asc.imp fun {a b} cI=> ?_
  exact zj3 cI
theorem zjL {α:Type} {x:α}: ∀ {l:List α} {i:Nat},l[i]?=some x->(x::l.eraseIdx i).Perm l
 | [],i,h=>by simp at h
 |y::l,0,h=>by
  simp only[List.getElem?_cons_zero,Option.some.injEq]at h;rw[h];exact List.Perm.refl _
 |y::l,i+1,h=>by
  simp only[List.getElem?_cons_succ]at h;rw[List.eraseIdx_cons_succ];exact(List.Perm.swap y x _).trans (List.Perm.cons y (zjL h))
theorem done_perm {α:Type} {d l m:List α} {i:Nat} {x:α} (h:(d++l).Perm m) (hx:l[i]?=some x):((d++[x])++l.eraseIdx i).Perm m:=by
 rw[List.append_assoc];refine List.Perm.trans ?_ h;exact List.Perm.append_left d (zjL hx)
theorem zhv (s:St) (frm:ByteArray): ∀(a b:Parts) (x:Parts×Bool) (rest:Rat),zdg s frm (a++b) x rest=zdg s frm b (zdg s frm a x rest).1 (zdg s frm a x rest).2
 | [],_,_,_=>rfl
 |p::a,b,x,rest=>by
  rw[List.cons_append,zdg,zdg];split<;>exact zhv s frm a b _ _
theorem will_snoc (s:St) (frm:ByteArray) (l:Parts) (x:Parts×Bool) (rest:Rat) {k:Nat} (h:k<l.length):zdg s frm (l.take (k+1)) x rest=
 if zdU s l[k].1 frm then(zcP l[k].1 l[k].2 (zdg s frm (l.take k) x rest).1,(zdg s frm (l.take k) x rest).2-l[k].2)else zdg s frm (l.take k) x rest:=by
 rw[List.take_succ_eq_append_getElem h,zhv,zdg,zdg,zdg]
end Go.Proofs.YtckkbkdcdkhglaaGreatDoor
namespace Go.Proofs.YtckkbkdcdkhglaaGreatDoor
open Go.RowKit
attribute [local go_sem] World.cell?_alloc_mark zag za5 zaq za8 zaw zax zay zaz za0 za1 za2
def ekSp (s:Spot):Value:= .agg #[.string s.1, .int .i64 s.2]
theorem equal_sp (a:ByteArray) (c:Int) (a':ByteArray) (c':Int) (w:World):(Op.equal 177 (.agg #[.string a, .int .i64 c]) (.agg #[.string a', .int .i64 c'])).run Tryz.prog w= .ok (zae a a'&&c==c') w:=by
 simp only[Op.equal,Op.maxDepth];go_simp
 unfold zae;by_cases h1:a.toList=a'.toList<;>by_cases h2:c=c'<;>simp[h1,h2]
theorem zoA (v:Value) (e:MapEntry) (es:List MapEntry) (fs:Array Field) (i:Nat):Instr.findNow (.struct fs) v (e::es) i=none:=by
 unfold Instr.findNow;cases v<;>simp[Instr.sameNow]
theorem zg0 {V:Type} (ev:V->Value) (p:Spot) (w:World): ∀(es:List MapEntry) (m:List (Spot×V)),es.map (fun e=>(e.key,e.val))=m.map (fun p=>(ekSp p.1,ev p.2))-> ∀i,
 (Instr.findAsking 177 (ekSp p) es i).run Tryz.prog w= .ok ((locate eqSp p m i).map fun p=>(p.1,ev p.2)) w
 | [],[],_,_=>by simp[Instr.findAsking,locate]
 | [],_::_,h,_=>by simp at h
 |_::_,[],h,_=>by simp at h
 |e::es,q::m,h,i=>by
  simp only[List.map_cons,List.cons.injEq,Prod.mk.injEq]at h;obtain⟨⟨hk,hv⟩,ht⟩:=h;unfold Instr.findAsking locate;have h1:=equal_sp p.1 p.2 q.1.1 q.1.2 w;have h2:=zg0 ev p w es m ht (i+1);rw[hk,hv];simp only[ekSp]at h1 h2⊢;simp only[Sem.run_bind,h1,Result.andThen_ok];change Sem.run _ (if(eqSp p q.1)=true then _ else _) w=_;cases hq:eqSp p q.1
  ·simpa using h2
  ·simp
theorem zmK (e:Bool) (p:Spot) (w:World):(Instr.checkKey e 10000 177 (ekSp p)).run Tryz.prog w= .ok () w:=by
 obtain⟨a,c⟩:=p;cases e<;>kernel_rfl
theorem zmL (a:ByteArray) (c:Int):Instr.sameBits 10000 (.agg #[.string a, .int .i64 c]) (.agg #[.string a, .int .i64 c])=true:=by
 have h2: ∀n,Instr.sameBits (n+1) (.agg #[.string a, .int .i64 c]) (.agg #[.string a, .int .i64 c])=true:=fun n=>by
  have h: ∀n (k:IntKind) (x:Int),Instr.sameBits n (.int k x) (.int k x)=true:=fun n k x=>by cases n<;>simp[Instr.sameBits]
  simp[Instr.sameBits,zgL,beq_toListBytes,h]
 exact h2 9999
theorem znS {V:Type} {t et:TypeId} {ev:V->Value} {z:V} (ht:Tryz.prog.underlying t=some (.map 177 et)) (hz: ∀w,(zeroValue et).run Tryz.prog w= .ok (ev z) w):MapTy Tryz.prog t 177 et ekSp ev z eqSp where
 ht:=ht
 hz:=hz
 hck:=zmK
 hfind:=fun k es m h w=>by
  have hu: ∃fs,Tryz.prog.underlying 177=some (.struct fs):=⟨_,Tryz.underlying177⟩
  obtain⟨fs,hu⟩:=hu;match es,m,h with
  | [],[],_=>simp[Instr.findKey,run_underlying hu,Instr.findNow,locate]
  | [],_::_,h=>simp at h
  |e::es,m,h=>
   simp only[Instr.findKey,Sem.run_bind,run_underlying hu,Result.andThen_ok,zoA];exact zg0 ev k w (e::es) m h 0
 hsame:=fun k k' h=>by
  have e:=zf1.1 h;subst e;exact zmL k.1 k.2
theorem mapPV:MapTy Tryz.prog 174 177 3 ekSp (fun v:Value=>v) (.int .i64 0) eqSp:=znS Tryz.underlying174 (fun w=>by kernel_rfl)
theorem mapPM:MapTy Tryz.prog 175 177 82 ekSp (fun v:Value=>v) (.map none) eqSp:=znS Tryz.underlying175 (fun w=>by kernel_rfl)
theorem zmM (n:ByteArray) (w:World):(Instr.lookup 82 (.map none) (.string n) false).run Tryz.prog w= .ok (.bool false) w:=by
 kernel_rfl
theorem zjM {K V:Type} {eq:K->K->Bool} {k:K}: ∀ {m:List (K×V)} {i j:Nat} {v:V},locate eq k m i=some (j,v)->(m[j-i]?).map (·.2)=some v
 | [],_,_,_,h=>by cases h
 |p::l,i,j,v,h=>by
  unfold locate at h;split at h
  ·simp only[Option.some.injEq,Prod.mk.injEq]at h;obtain⟨rfl,rfl⟩:=h;simp
  ·obtain⟨h1,_⟩:=zdI h;have e:j-i=(j-(i+1))+1:=Mcl;rw[e];simpa using zjM h
theorem zk5 {P:Program} {t kt et:TypeId} {K:Type} {ek:K->Value} {z:Value} {eq:K->K->Bool} {w:World} {b:Nat} {m:List (K×Value)} (T:MapTy P t kt et ek (fun v:Value=>v) z eq) (h:MapS w b ek (fun v:Value=>v) m) (k:K):
 ∃w' st j,(Instr.mapEntry t (.map (some b)) (ek k)).run P w= .ok (.tuple #[(mget eq k m).getD z, .int .i64 (st:Nat)]) w'/\StampAt w' b ek (mput eq k ((mget eq k m).getD z) m) j st/\(∀v,(mput eq k ((mget eq k m).getD z) m).set j (k,v)=mput eq k v m)/\((mput eq k ((mget eq k m).getD z) m)[j]?).map (·.1)=some k/\w.grownBy w' (some b)/\w'.heap.size=w.heap.size:=by
 obtain⟨es,c,hh,hm,hb,hn⟩:=h;have h1:=T.hfind k es.toList m hm w;have aa:=(Array.getElem?_eq_some_iff.1 hh).1;have eM:=zft eq k m 0;cases hl:locate eq k m 0 with
 |none=>
  rw[hl]at eM;rw[<-eM];have hp:=fun v'=>zey hl v'
  refine⟨_,c,m.length,?_,?_,?_,by rw[hp];simp,zgf w b (.map (es.push {key:=ek k,val:=z,born:=c}) (c+1)),by simp⟩
  ·simp[Instr.mapEntry,run_underlying T.ht,zb4 hh,T.hck,h1,hl,T.hz,zek hh,Result.andThen];rfl
  ·refine⟨es.push {key:=ek k,val:=z,born:=c},c+1,by simp[Array.getElem?_setIfInBounds,aa],?_,?_,?_,?_⟩
   ·rw[hp];simp[hm]
   ·intro e he;rw[Array.toList_push]at he;rcases List.mem_append.1 he with he|he
    ·have:=hb e he;omega
    ·rw[List.mem_singleton.1 he];exact Nat.lt_succ_self c
   ·rw[Array.toList_push,List.map_append,List.nodup_append];refine⟨hn,by simp,?_⟩;intro x hx y hy;obtain⟨e,he,rfl⟩:=List.mem_map.1 hx;simp only[List.map_cons,List.map_nil,List.mem_singleton]at hy;have:=hb e he;omega
   ·have ag:es.size=m.length:=by simpa using congrArg List.length hm
    rw[<-ag];simp
  ·intro v;rw[hp,hp,List.set_append_right _ _ (Nat.le_refl _)];simp
 |some p=>
  obtain⟨j,u⟩:=p;rw[hl]at eM;rw[<-eM];have si:=zjM hl;obtain⟨_,q,hq,he,fw⟩:=zdI hl;simp only[Nat.sub_zero]at hq fw si;rw[hq]at si;simp only[Option.map_some,Option.some.injEq]at si;have hj:j<m.length:=(List.getElem?_eq_some_iff.1 hq).1;have ag:es.toList.length=m.length:=by simpa using congrArg List.length hm
  have cC:j<es.size:=by
   have h0:es.size=m.length:=by simpa using ag
   omega
  have mI:(es[j]).key=ek q.1:=by
   have:=congrArg (fun l=>l[j]?) hm;simp[List.getElem?_map,hq,cC]at this;exact this.1
  have cX:(es[j]).val=u:=by
   have:=congrArg (fun l=>l[j]?) hm;simp[List.getElem?_map,hq,cC]at this;rw[<-si];exact this.2
  have cz:(es.modify j fun e=> {e with key:=ek k}).toList.map (·.born)=es.toList.map (·.born):=by
   apply List.ext_getElem?;intro i;simp only[List.getElem?_map,Array.getElem?_toList,Array.getElem?_modify];by_cases cS:j=i
   ·subst cS;simp[cC,Array.getElem?_eq_getElem cC]
   ·simp[cS]
  refine⟨_,(es[j]).born,j,?_,?_,?_,by rw[fw];simp[hj],zgf w b (.map (es.modify j fun e=> {e with key:=ek k}) c),by simp⟩
  ·simp[Instr.mapEntry,run_underlying T.ht,zb4 hh,T.hck,h1,hl,Instr.keyThatStays,Array.getElem?_eq_getElem cC,mI,T.hsame _ _ he,zek hh,Result.andThen];rfl
  ·rw[Option.map_some,Option.getD_some,fw];refine⟨es.modify j fun e=> {e with key:=ek k},c,by simp[Array.getElem?_setIfInBounds,aa],?_,?_,by rw[cz];exact hn,?_⟩
   ·apply List.ext_getElem?;intro i;have fQ:=congrArg (fun l=>l[i]?) hm;simp only[List.getElem?_map,Array.getElem?_toList]at fQ;simp only[List.getElem?_map,Array.getElem?_toList,Array.getElem?_modify,List.getElem?_set];by_cases cS:j=i
    ·subst cS;simp[cC,hj,Array.getElem?_eq_getElem cC,cX]
    ·simp[cS,fQ]
   ·intro e he;have h2:e.born∈(es.modify j fun e=> {e with key:=ek k}).toList.map (·.born):=List.mem_map.2 ⟨e,he,rfl⟩;rw[cz]at h2;obtain⟨e',mz,jn⟩:=List.mem_map.1 h2;rw[<-jn];exact hb e' mz
   ·simp[Array.getElem?_modify,Array.getElem?_eq_getElem cC]
  ·intro v;rw[Option.map_some,Option.getD_some,fw,fw,List.set_set]
theorem StampAt.mapAt {w:World} {b:Nat} {K:Type} {ek:K->Value} {m:List (K×Value)} {j st:Nat} (h:StampAt w b ek m j st):MapAt w b ek (fun v:Value=>v) m:=by
 obtain⟨es,c,h1,h2,_⟩:=h;exact⟨es,c,h1,h2⟩
theorem zmN {P:Program} {ops:Array Oper} {o:Oper} {a:Act} {w:World} {K:Act->World->Prop} {Q:Exit->Act->World->Prop} {E:Prop} {T:TypeId} (bT:o.guard=none) (x i u:Operand) (ho:o.op= .mapUpdate T x i u) (vx vi vu:Value) (hx:a.eval x=vx) (hi:a.eval i=vi) (hu:a.eval u=vu) (w':World)
 (hrun:(Instr.mapUpdate T vx vi vu).run P w= .ok () w') (h:K (a.put o.dst undef) w'):if Region.wanted o (yielded ops a.tmps)=true then Oper.wp P o a w K Q else E:=by
 exact Maf
end Go.Proofs.YtckkbkdcdkhglaaGreatDoor
namespace Go.Proofs.YtckkbkdcdkhglaaGreatDoor
open Go.RowKit Go.Shelf
attribute [local go_sem] World.cell?_alloc_mark zag za5 zaq za8 zaw zax zay zaz za0 za1 za2
attribute [local go_sem] zap zad
def intC (n:Nat):List Value:=[.int .i64 (n:Int)]
theorem zg1 (n:Nat):(intC n).length=1:=rfl
theorem intC_one (n:Nat): ∀u∈intC n,u.oneCell'=true:=by simp[intC,Value.oneCell']
theorem zg2 (x:Rec):(Rec.cells x).length=8:=rfl
theorem recC_one (x:Rec): ∀u∈Rec.cells x,u.oneCell'=true:=by simp[Rec.cells,Value.oneCell']
theorem elRec:ElTy Tryz.prog 61 60 8 88:=zd5 (z:= .agg #[.int .i64 0, .string ⟨#[]⟩, .string ⟨#[]⟩, .string ⟨#[]⟩, .int .i64 0, .int .i64 0, .int .i64 0, .int .i64 0]) Mcm Mcm rfl Mcn
theorem of_snoc {l:List Rec} {set:List Nat} {k:Nat} (hk:k<set.length) (hl:set[k]<l.length):ofP l (set.take (k+1))=ofP l (set.take k)++[l[set[k]]]:=by
 unfold ofP;rw[List.take_succ_eq_append_getElem hk,List.filterMap_append];simp[List.getElem?_eq_getElem hl]
theorem of_len (l:List Rec) (set:List Nat):(ofP l set).length<=set.length:=List.length_filterMap_le _ _
theorem sl_rec {w:World} {b:Nat} {x:Rec} {t:TypeId} {fr:Nat×Nat} (h:w.heap[b]?=some (.cells (Rec.cells x).toArray t fr)):Sl w 8 Rec.cells (some ⟨b,0,none⟩) [x]:=fun _=>⟨b,0,rfl,zab h,fun k y hy j u hu=>by
 have hk:k=0:=Mcx;subst hk;simp only[List.getElem?_cons_zero,Option.some.injEq]at hy;subst hy;simp only[World.cell?,h,Nat.zero_mul,Nat.zero_add,Nat.add_zero]
 simpa using hu⟩
theorem some_any (l:List Rec) (set:List Nat) (A:Option Addr) (c:Nat) (SA:Option Addr) (sc:Nat) (w:World) (hc:l.length<=c) (Gf:set.length<=sc) (aP:set.length<=1000) (aN: ∀i∈set,i<l.length) (hS:Sl w 8 Rec.cells A l) (hT:Sl w 1 intC SA set):
 Calls Tryz.prog 54 #[.slice A l.length c, .slice SA set.length sc] w (fun e w'=> ∃v,e= .returned v/\OwnS w' w.heap.size 60 8 Rec.cells v (ofP l set)/\Below w.heap.size w w'):=by
 have HS:=zHi hS;have HT:=zHi hT;have bE:=zHi aN;clear hS hT aN;go_enter Tryz.func54,Tryz.ntmps54
 go_wp2_with fail
 go_loopw [5,10] (fun v i wr=> ∃k:Nat,k<=set.length/\i= .int .i64 k/\OwnS wr w.heap.size 60 8 Rec.cells v (ofP l (set.take k))/\Below w.heap.size w wr) (fun _ i _=>set.length-(intOf i).toNat)
 case atStart=>exact⟨0,Nat.zero_le _,rfl,OwnS.nil,Below.refl _ _⟩
 case round=>
  obtain⟨k,hk,rfl,ae,hB⟩:=hrel;obtain⟨VA,vc,rfl,_,kC⟩:=ae.sl zg2;have HO:=zHi ae;have HB:=zHi hB;have aK:=hB.size;by_cases aa:k<set.length
  ·obtain⟨b,off,rfl,hb,ah⟩:=(HT.o.keep hB).at aa;have hi:=bE.o set[k] (List.getElem_mem aa);have bW:=of_snoc aa hi;have i0:wr.cell? ⟨b,off+k,none⟩=some (.int .i64 (set[k]:Int)):=McM;have kr:=of_len l (set.take k);rw[List.length_take]at kr;have eu:=zHi bW;clear bW ah;generalize set[k]=m at*;obtain⟨rb,roff,rfl,xV,oM⟩:=(HS.o.keep hB).at hi;have aq:=zHi aa;generalize l[m]=x at*;generalize ofP l (set.take k)=acc at*;obtain⟨kd,nm,ot,pl,dy,tl,nu,de⟩:=x;have j0:wr.cell? ⟨rb,roff+m*8,none⟩=some (.int .i64 kd):=oM 0 _ rfl;have j1:wr.cell? ⟨rb,roff+m*8+1,none⟩=some (.string nm):=oM 1 _ rfl;have j2:wr.cell? ⟨rb,roff+m*8+2,none⟩=some (.string ot):=oM 2 _ rfl;have j3:wr.cell? ⟨rb,roff+m*8+3,none⟩=some (.string pl):=oM 3 _ rfl;have j4:wr.cell? ⟨rb,roff+m*8+4,none⟩=some (.int .i64 dy):=oM 4 _ rfl;have j5:wr.cell? ⟨rb,roff+m*8+5,none⟩=some (.int .i64 tl):=oM 5 _ rfl;have j6:wr.cell? ⟨rb,roff+m*8+6,none⟩=some (.int .i64 nu):=oM 6 _ rfl;have j7:wr.cell? ⟨rb,roff+m*8+7,none⟩=some (.int .i64 de):=oM 7 _ rfl;have ar:(k:Int)<(set.length:Int):=Mcl;have aT:(0:Int)<=(k:Int):=Mcl;have fN:(k:Int)<=(sc:Int):=Mcl;have fQ:(m:Int)<(l.length:Int):=Mcl;have nI:(0:Int)<=(m:Int):=Mcl;have so:(m:Int)<=(c:Int):=Mcl;have jM:acc.length<=1000:=Mcl;clear oM ae hB kr
   go_wp2_with (at_builtin
                go_loud(refine zav (v:= .slice VA acc.length vc) (n:=acc.length) (m:=1) rfl _ _ rfl elRec zg2 recC_one rfl (xs:=acc) (ys:=[⟨kd,nm,ot,pl,dy,tl,nu,de⟩]) (HO.o.keep (n:=wr.heap.size) Bw) rfl rfl rfl (sl_rec (zar _ _ _ rfl)) McJ Mcl Mcq ?_)
                intro v3 w3 h1 h2 h3;have av:=Below.grown (B:=w.heap.size) (a:=w) (HB.o.trans (Below.mono (B:=wr.heap.size) (zac (Below.refl _ _) _) aK)) h2 Mcq (fun j hj=>(HO.o.ge j hj).1);have H1:=zHi h1;have aJ:=zHi av
                clear h1 h2 h3 av)
   go_round
   case rel=>exact⟨k+1,aq.o,by go_num,by rw[eu.o];exact H1.o,aJ.o⟩
   case measure=>have:=aq.o;simp only[intOf];omega
  ·have ar: ¬(k:Int)<(set.length:Int):=Mcl;have xj:set.take k=set:=List.take_of_length_le Mcl;clear ae;generalize bw:ofP l (set.take k)=xs at*;rw[xj]at bw;subst bw;clear xj;go_wp2_with fail
   go_ret
   exact⟨_,rfl,HO.o,HB.o⟩
def CopyPost (w:World) (ls:List Law) (ds:List Deed) (e:Ending) (w':World):Prop:=
 ∃A nc B mc,e= .returned (.agg #[.slice A ls.length nc, .slice B ds.length mc])/\RightsIn w' ls ds A ls.length nc B ds.length mc/\Below w.heap.size w w'
def CopyOwn (w:World) (ls:List Law) (ds:List Deed) (e:Ending) (w':World):Prop:=
 ∃A nc B mc base xs,e= .returned (.agg #[.slice A ls.length nc, .slice B ds.length mc])/\ls.length<=nc/\Ro w' 95 Law.cells A ls/\xs.map DV.d=ds/\(∀x∈xs,x.d.to.length<=x.c/\Ro w' 63 RPart.cells x.B x.d.to)/\OwnS w' base 68 7 DV.cells (.slice B ds.length mc) xs/\w.heap.size<=base/\base<=w'.heap.size/\Below w.heap.size w w'
theorem zmO (ls:List Law) (ds:List Deed) (LA:Option Addr) (n nc:Nat) (DA:Option Addr) (m mc:Nat) (w:World) (hR:RightsIn w ls ds LA n nc DA m mc) (hl:ls.length<=1000) (hd:ds.length<=1000) (ht: ∀d∈ds,d.to.length<=100000):
 Calls Tryz.prog 8 #[.agg #[.slice LA n nc, .slice DA m mc]] w (CopyOwn w ls ds):=by
 obtain⟨rfl,rfl,xE,so,ir,ke⟩:=hR;have dU:=zHi ir;have g9:=zHi ke;have HT:=zHi ht;clear ir ke ht;go_enter Tryz.func8,Tryz.ntmps8
 go_upto_region 1 with fail
 obtain⟨W1,aV⟩: ∃W1,W1=(w.alloc (.cells #[.slice LA ls.length nc, .slice DA ds.length mc] 25)).alloc (.cells #[.slice none 0 0, .slice none 0 0] 25):=⟨_,rfl⟩
 have b0:W1.heap[w.heap.size]?=some (.cells #[.slice LA ls.length nc, .slice DA ds.length mc] 25):=by rw[aV];exact zak (zar _ _ _ rfl)
 have r0:W1.heap[w.heap.size+1]?=some (.cells #[.slice none 0 0, .slice none 0 0] 25):=by rw[aV];exact zar _ _ _ Mco
 have cE:Below w.heap.size w W1:=by rw[aV];exact Bw
 rw[<-aV];have aG:=zHi cE;clear aV cE;have l0:=zab b0;have l1:=zab r0;obtain c0:=cF1 b0
 go_upto_region 2 with(at_builtin
                       go_loud(refine zav (v:= .slice (some ⟨W1.heap.size,0,none⟩) 0 0) (n:=0) (m:=ls.length) rfl _ _ rfl elLaw (fun _=>rfl) lw_one rfl (xs:=[]) (ys:=ls) (made_law W1) rfl rfl rfl (dU.o.keep (aG.o.trans (Below.mono (B:=W1.heap.size) Bw aG.o.size))) McT Mcl Mco ?_)
                       intro v2 w2 h1 h2 h3;rw[List.nil_append]at h1;have e1:w2.heap[w.heap.size]?=_:=(h2.block w.heap.size Mcq Mdy).trans (zak b0);have e2:w2.heap[w.heap.size+1]?=_:=(h2.block (w.heap.size+1) Mcq Mdy).trans (zak r0);have bF:Below W1.heap.size W1 w2:=Below.grown (zac (Below.refl _ _) _) h2 Mco McZ;obtain⟨A2,c2,rfl,cA,s2⟩:=h1.ro
                       clear h1 h2 h3)
 have S2:=zHi s2;have aS:=zHi (aG.o.trans (bF.mono aG.o.size));have br:=aS.o.size;have m0:=zab e1;have m1:=zab e2;clear s2 bF aG b0 r0 c0 l0 l1 dU;obtain⟨OB,jL⟩: ∃OB,OB=w2.heap.size:=⟨_,rfl⟩
 have qS:Below OB w2 (w2.alloc (.cells #[.slice A2 ls.length c2, .slice none 0 0] 25)):=by rw[jL];exact Bw
 have o3:(w2.alloc (.cells #[.slice A2 ls.length c2, .slice none 0 0] 25)).heap[OB]?=some (.cells #[.slice A2 ls.length c2, .slice none 0 0] 25):=zar _ _ _ jL;go_upto_region 3 with fail
 rw[<-jL];have yW:=zHi jL;go_loopw [4] (fun i wr=> ∃(k:Nat) (xs:List DV) (v:Value),k<=ds.length/\i= .int .i64 k/\Hid (xs.map (·.d)=ds.take k)/\Hid (∀x∈xs,x.d.to.length<=x.c/\Ro wr 63 RPart.cells x.B x.d.to)/\OwnS wr (OB+1) 68 7 DV.cells v xs/\wr.heap[OB]?=some (.cells #[.slice A2 ls.length c2,v] 25)/\Below OB w2 wr) (fun i _=>ds.length-(intOf i).toNat)
 case atStart=>exact⟨0,[], .slice none 0 0,Nat.zero_le _,rfl,zHi Mco,zHi Mco,OwnS.nil,o3,qS⟩
 case round=>
  obtain⟨k,xs,v,hk,rfl,HM,HP,ae,ho,hB⟩:=hrel;have kr:=zab ho;have fE:Below w.heap.size w wr:=aS.o.trans (hB.mono Mcl);have aK:=fE.size;have b1:wr.heap[w.heap.size]?=some (.cells #[.slice LA ls.length nc, .slice DA ds.length mc] 25):=(hB.block _ Mcl).trans e1;have r1:wr.heap[w.heap.size+1]?=some (.cells #[.slice none 0 0, .slice none 0 0] 25):=(hB.block _ Mcl).trans e2;obtain⟨-,p2⟩:=cF2 b1;obtain⟨VA,vc,rfl,_,kC⟩:=ae.sl zcj;have bK:xs.length=k:=by
   have:=congrArg List.length HM.o;simp at this;omega
  by_cases aa:k<ds.length
  ·obtain⟨b,off,cs,hA,hb,hr,ah⟩:=(g9.o.keep zcf fE).at aa;have iZ:ds.take (k+1)=ds.take k++[ds[k]]:=by rw[List.take_add_one,List.getElem?_eq_getElem aa];rfl
   have cN:=HT.o _ (List.getElem_mem aa);have aq:=zHi aa;generalize ds[k]=x at*;obtain⟨B,c,hc,rfl,hS⟩:=hr;have lD:=zHi (fun W' (h:Below wr.heap.size wr W')=>deed_any x B c W' cN (hS.keep h));unfold Deed.v at lD;subst hA;obtain⟨-,p1⟩:=cF2 ho;rw[bK]at p1;have i0:=ah 0 _ rfl;have i1:=ah 1 _ rfl;have i2:=ah 2 _ rfl;have i3:=ah 3 _ rfl;have i4:=ah 4 _ rfl;have i5:=ah 5 _ rfl;have i6:=ah 6 _ rfl;simp only[Nat.add_zero]at i0;have ar:(k:Int)<(ds.length:Int):=Mcl;have aT:(0:Int)<=(k:Int):=Mcl;have kQ:=zHi iZ;have fU:=zHi bK;have eH:=zHi ae;have I7:=zHi ho;have HB:=zHi hB;have pX:w.heap.size<wr.heap.size:=Mcl
   have aL:=zHi (fun(w':World) (h:Below wr.heap.size wr w')=>(show w'.cell? ⟨OB,1,none⟩=some (.slice VA k vc)/\w'.cell? ⟨w.heap.size,1,none⟩=some (.slice (some ⟨b,off,none⟩) ds.length mc)/\w'.cell? ⟨b,off+k*7,none⟩=some (.int .i64 x.kind)/\w'.cell? ⟨b,off+k*7+1,none⟩=some (.int .i64 x.day)/\w'.cell? ⟨b,off+k*7+2,none⟩=some (.string x.place)/\w'.cell? ⟨b,off+k*7+3,none⟩=some (.string x.frm)/\w'.cell? ⟨b,off+k*7+4,none⟩=some (.slice B x.to.length c)/\w'.cell? ⟨b,off+k*7+5,none⟩=some (.int .i64 x.cls)/\w'.cell? ⟨b,off+k*7+6,none⟩=some (.int .i64 x.years) from
    ⟨(zah h kr).trans p1,(zah h pX).trans p2,(zah h hb).trans i0,(zah h hb).trans i1,(zah h hb).trans i2,(zah h hb).trans i3,(zah h hb).trans i4,(zah h hb).trans i5,(zah h hb).trans i6⟩))
   clear ah aa hS ae ho hB iZ bK cN jL;go_upto_region 5 with fail
   refine zaC 9 (fun bb w'=>bb=true\/(w'.cell? ⟨OB,1,none⟩=some (.slice VA k vc)/\w'.cell? ⟨w.heap.size,1,none⟩=some (.slice (some ⟨b,off,none⟩) ds.length mc)/\w'.cell? ⟨b,off+k*7,none⟩=some (.int .i64 x.kind)/\w'.cell? ⟨b,off+k*7+1,none⟩=some (.int .i64 x.day)/\w'.cell? ⟨b,off+k*7+2,none⟩=some (.string x.place)/\w'.cell? ⟨b,off+k*7+3,none⟩=some (.string x.frm)/\w'.cell? ⟨b,off+k*7+4,none⟩=some (.slice B x.to.length c)/\w'.cell? ⟨b,off+k*7+5,none⟩=some (.int .i64 x.cls)/\w'.cell? ⟨b,off+k*7+6,none⟩=some (.int .i64 x.years))) Mcm (.inr (aL.o _ (zaM (Below.refl _ _)))) ?hrest
   case hrest=>
    intro hHeld;refine TkM 0 ?_;refine TkM 1 ?_;refine TkM 2 ?_;refine TkM 3 ?_;refine TkM 4 ?_;refine TkM 5 ?_;refine TkM 6 ?_;refine OnM 7 false fun K hK=> ?_
    go_simp
    refine(lD.o _ (zaM (Below.refl _ _))).mono ?_;rintro e w5 ⟨B5,c5,rfl,nC,ro5,aj⟩;unfold Deed.v;have ez:Below wr.heap.size wr w5:=(zaM (Below.refl _ _):Below wr.heap.size wr wr.drew).trans aj;refine NxM hK (fun hHeld=> ?_) (.inr (aL.o _ ez));clear hK K;refine OnM 8 false fun K hK=> ?_
    go_simp
    have aE:Below wr.heap.size wr (w5.alloc (.cells #[.int .i64 x.kind, .int .i64 x.day, .string x.place, .string x.frm, .slice B5 x.to.length c5, .int .i64 x.cls, .int .i64 x.years] 68)):=zac ez _;have n6:(w5.alloc (.cells #[.int .i64 x.kind, .int .i64 x.day, .string x.place, .string x.frm, .slice B5 x.to.length c5, .int .i64 x.cls, .int .i64 x.years] 68)).heap[w5.heap.size]?=some (.cells #[.int .i64 x.kind, .int .i64 x.day, .string x.place, .string x.frm, .slice B5 x.to.length c5, .int .i64 x.cls, .int .i64 x.years] 68):=zar _ _ _ rfl;have ro6:Ro (w5.alloc (.cells #[.int .i64 x.kind, .int .i64 x.day, .string x.place, .string x.frm, .slice B5 x.to.length c5, .int .i64 x.cls, .int .i64 x.years] 68)) 63 RPart.cells B5 x.to:=ro5.keep (n:=w5.heap.size) (zac (Below.refl _ _) _);refine NxM hK (fun hHeld=> ?_) (.inr (aL.o _ aE));clear hK K;refine OnM 9 true fun K hK=> ?_
    generalize w5.alloc (.cells #[.int .i64 x.kind, .int .i64 x.day, .string x.place, .string x.frm, .slice B5 x.to.length c5, .int .i64 x.cls, .int .i64 x.years] 68)=W6 at*;have ow6:=eH.o.keep aE;refine zal (v:= .slice VA k vc) (n:=k) (m:=1) rfl _ _ rfl zgw zcj zgv rfl (xs:=xs) (ys:=[⟨x,B5,c5⟩]) (by have:=ow6;rw[fU.o]at this;exact this) fU.o rfl rfl (zi8 zcj n6 (by simp[DV.cells])) McT Mcl Mdz ?_;intro v7 w7 h1 h2 h3;obtain⟨A7,c7,kB,_,_⟩:=h1.sl zcj;rw[List.length_append]at kB;subst kB;have ow7:OwnS W6 (OB+1) 68 7 DV.cells (.slice VA k vc) xs:=by have:=ow6;rw[fU.o]at this;exact this
    have o7:w7.heap[OB]?=some (.cells #[.slice A2 ls.length c2, .slice VA xs.length vc] 25):=(h2.block OB Mdz (fun e=>by have:=ow7.ge _ e.symm;omega)).trans ((aE.block OB kr).trans I7.o);have ro7:Ro w7 63 RPart.cells B5 x.to:=znO ro6 ow7 h2 Mcn;have rs7: ∀y∈xs,y.d.to.length<=y.c/\Ro w7 63 RPart.cells y.B y.d.to:=fun y hy=>⟨(HP.o y hy).1,znO ((HP.o y hy).2.keep aE) ow7 h2 Mcn⟩
    have bG:Below OB w2 w7:=Below.grown (HB.o.trans (aE.mono Mcl)) h2 (by have:=HB.o.size;have:=aE.size;omega) (fun j hj=>by have:=ow7.ge _ hj;omega);have f7:w7.frozen? ⟨OB,1,none⟩=false:=by simp[World.frozen?,o7]
    obtain⟨-,t7⟩:=cF2 o7;refine NxM hK fun hHeld=> ?_
    clear hK K;refine OnM 10 true fun K hK=> ?_
    go_simp
    refine NxM hK fun hHeld=> ?_
    clear hK K;refine OnM 11 true fun K hK=> ?_
    go_simp
    refine NxM hK fun hHeld=> ?_
    clear hK K;refine zaQ Mcm ?_ _;clear hHeld;go_wp2_with fail
    go_round
    case rel=>
     refine⟨k+1,xs++[⟨x,B5,c5⟩],_,aq.o,by go_num,zHi (by rw[List.map_append,HM.o,kQ.o];rfl),zHi (fun y hy=> ?_),h1.grown (zau _ _ _ _) (.inr fun e=>by have:=h1.ge _ e;omega),?_,zaO bG (Nat.le_refl _) _⟩
     ·rcases List.mem_append.1 hy with hy|hy
      ·exact⟨(rs7 y hy).1,(rs7 y hy).2.kept (zau _ _ _ _) o7 Mcn⟩
      ·obtain rfl:=List.mem_singleton.1 hy;exact⟨nC,ro7.kept (zau _ _ _ _) o7 Mcn⟩
     ·have:=Joins.block_setCell (i:=1) o7 (.slice A7 (xs.length+[(⟨x,B5,c5⟩:DV)].length) c7);simpa using this
    case measure=>have:=aq.o;simp only[intOf];omega
  ·have ar: ¬(k:Int)<(ds.length:Int):=Mcl;have D7:xs.map (·.d)=ds:=by rw[HM.o,List.take_of_length_le Mcl]
   have cf:xs.length=ds.length:=by rw[<-D7,List.length_map]
   obtain⟨-,p1⟩:=cF2 ho;obtain p0:=cF1 ho;obtain⟨t0,t1⟩:=cF2 r1;have f0: ∀j,wr.frozen? ⟨w.heap.size+1,j,none⟩=false:=fun j=>by simp[World.frozen?,r1]
   rw[cf]at p1;have Hz:=zHi D7;have jV:=zHi cf;have eH:=zHi ae;have HB:=zHi hB;have aW:=zHi fE;clear D7 cf ae hB fE aa bK ho jL;go_wp2_with fail
   refine bodyPost_ret (v:= .agg #[.slice A2 ls.length c2, .slice VA ds.length vc]) ?_ rfl ?_
   ·exact zi9 rfl _ _ (w.heap.size+1) _ _ rfl (zen r1)
   ·have rr:=Joins.block_setCell (i:=0) r1 (.slice A2 ls.length c2);have sd: ∀ {α:Type} {e:TypeId} {f:α->List Value} {A:Option Addr} {ys:List α},e≠25->Ro wr e f A ys->Ro ((wr.setCell ⟨w.heap.size+1,0,none⟩ (.slice A2 ls.length c2)).setCell ⟨w.heap.size+1,1,none⟩ (.slice VA ds.length vc)) e f A ys:=fun ai h=>
     (h.kept (zau _ _ _ _) r1 (fun e=>ai e.symm)).kept (zau _ _ _ _) rr (fun e=>ai e.symm)
    have Ae:=zen (a:= .slice A2 ls.length c2) (b:= .slice VA ds.length vc) r1;refine⟨A2,c2,VA,vc,OB+1,xs,rfl,cA,sd Mcn (S2.o.keep (n:=OB) HB.o (by have:=yW.o;omega)),Hz.o,fun y hy=>⟨(HP.o y hy).1,sd Mcn (HP.o y hy).2⟩,?_,by have:=yW.o;omega,by simp;omega,zaO (zaO aW.o Mco _) Mco _⟩;have ho:=eH.o;rw[jV.o]at ho;have h1:=ho.grown (zau wr (w.heap.size+1) 0 (.slice A2 ls.length c2)) (.inr fun e=>by have:=ho.ge _ e;have:=yW.o;omega);exact h1.grown (zau _ (w.heap.size+1) 1 (.slice VA ds.length vc)) (.inr fun e=>by have:=ho.ge _ e;have:=yW.o;omega)
theorem zjN (ls:List Law) (ds:List Deed) (LA:Option Addr) (n nc:Nat) (DA:Option Addr) (m mc:Nat) (w:World) (hR:RightsIn w ls ds LA n nc DA m mc) (hl:ls.length<=1000) (hd:ds.length<=1000) (ht: ∀d∈ds,d.to.length<=100000):
 Calls Tryz.prog 8 #[.agg #[.slice LA n nc, .slice DA m mc]] w (CopyPost w ls ds):=by
 refine(zmO ls ds LA n nc DA m mc w hR hl hd ht).mono ?_;rintro e w' ⟨A,a,D,c,b,xs,rfl,ha,hL,hm,hp,ho,hb,_,hB⟩;obtain⟨D',c',he,hx,hc⟩:=ho.sl zcj;simp only[Value.slice.injEq]at he;obtain⟨rfl,_,rfl⟩:=he;have hk:xs.length=ds.length:=by rw[<-hm,List.length_map]
 exact⟨A,a,D,c,rfl,⟨rfl,rfl,ha,by omega,hL.sl fun _=>rfl,slw_of hx hm fun y hy=>⟨(hp y hy).1,(hp y hy).2.sl rp_len⟩⟩,hB⟩
theorem dv_of {W:World} {A:Option Addr} {ds:List Deed} (h:SlW W 7 zfC A ds): ∃xs:List DV,xs.map (·.d)=ds/\(∀x∈xs,x.d.to.length<=x.c/\Sl W 3 RPart.cells x.B x.d.to)/\Sl W 7 DV.cells A xs:=by
 by_cases h0:ds=[]
 ·subst h0;exact⟨[],rfl,by simp,fun h=>absurd h Mco⟩
 ·have hl:0<ds.length:=by cases ds with
   |nil=>exact absurd rfl h0
   |cons _ _=>simp
  obtain⟨b,off,hA,hb,hc⟩:=h hl;have hx: ∀(k:Nat) (hk:k<ds.length),∃y:DV,y.d=ds[k]/\y.d.to.length<=y.c/\Sl W 3 RPart.cells y.B y.d.to/\ ∀j u,y.cells[j]?=some u->W.cell? ⟨b,off+k*7+j,none⟩=some u:=fun k hk=>by
   obtain⟨cs,⟨B,c,h1,h2,h3⟩,h4⟩:=hc k _ (List.getElem?_eq_getElem hk);refine⟨⟨ds[k],B,c⟩,rfl,h1,h3,fun j u hu=>h4 j u ?_⟩;rw[h2];exact hu
  have aY: ∀n,n<=ds.length-> ∃xs:List DV,xs.map (·.d)=ds.take n/\(∀x∈xs,x.d.to.length<=x.c/\Sl W 3 RPart.cells x.B x.d.to)/\ ∀k x,xs[k]?=some x-> ∀j u,x.cells[j]?=some u->W.cell? ⟨b,off+k*7+j,none⟩=some u:=by
   intro n;induction n with
   |zero=>intro _;exact⟨[],by simp,by simp,by simp⟩
   |succ n ih=>
    intro hn;obtain⟨xs,h1,h2,h3⟩:=ih Mcl;obtain⟨y,e1,e2,e3,e4⟩:=hx n Mcl;have ag:xs.length=n:=by
     have:=congrArg List.length h1;simp at this;omega
    refine⟨xs++[y],?_,?_,?_⟩
    ·rw[List.map_append,h1,List.take_add_one,List.getElem?_eq_getElem (show n<ds.length by omega)];simp[e1]
    ·intro x ue;rcases List.mem_append.1 ue with ue|ue
     ·exact h2 x ue
     ·rw[List.mem_singleton]at ue;subst ue;exact⟨e2,e3⟩
    ·intro k x hk;by_cases jv:k<n
     ·rw[List.getElem?_append_left Mcl]at hk;exact h3 k x hk
     ·have fX:k=n:=by
       exact MbH
      subst fX;rw[List.getElem?_append_right Mcl,ag]at hk;simp at hk;subst hk;exact e4
  obtain⟨xs,h1,h2,h3⟩:=aY ds.length (Nat.le_refl _);rw[List.take_length]at h1;exact⟨xs,h1,h2,fun _=>⟨b,off,hA,hb,h3⟩⟩
end Go.Proofs.YtckkbkdcdkhglaaGreatDoor
