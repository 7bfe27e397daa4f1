/- Walks of the reference's shares: Mul, quo, one, part, ShareOf. -/
import Derived.Test.YtjhbofabmpfniaaGreatDoorJH
import Derived.Test.YtjhbofabmpfniaaGreatDoorRB
set_option linter.unusedSimpArgs false
set_option linter.unusedVariables false
set_option maxRecDepth 100000
set_option maxHeartbeats 4000000
namespace Go.Proofs.YtjhbofabmpfniaaGreatDoor
open Go.RowKit
theorem zfE {out:Parts} {t f:Rat} {n:ByteArray} {fl:Bool} (h:Bd out t) (hf:0<=f):Bd (zcQ n f (out,fl)).1 (t+f):=h.set n hf
theorem Bd.up6 {out:Parts} {t u:Rat} (h:Bd out t) (hu:t<=u):Bd out u:=⟨h.good,h.small,Rat.le_trans h.le hu⟩
theorem zk4 {part:Rat} (hp:0<=part) (n:Nat):zbg (part*(1/(n:Rat)))*(n:Rat)<=part:=by
 have h1:=zhc (ze9 hp n);by_cases hn:n=0
 ·subst hn;have:((0:Nat):Rat)=0:=rfl;rw[this,Rat.mul_zero];exact hp
 ·have tS:(n:Rat)≠0:=by
   have:=ratI (n:=(n:Int)) Mcn;rwa [Rat.intCast_natCast]at this
  have h2:part*(1/(n:Rat))*(n:Rat)=part:=by
   rw[zkt];exact Rat.div_mul_cancel tS
  have h3:=Rat.mul_le_mul_of_nonneg_right h1 (Rat.natCast_nonneg (a:=n));rw[h2]at h3;exact h3
theorem zg5 (n:Nat):((n+1:Nat):Rat)=(n:Rat)+1:=by
 rw[Rat.natCast_add];rfl
mutual
theorem zhO {part:Rat} (hp:0<=part): ∀ {l:List Tree} {out:Parts} {fl:Bool} {t:Rat},Bd out t->Bd (zbN part l (out,fl)).1 (t+part*(l.length:Rat))
 | [],out,fl,t,h=>by
   rw[zbN];have e:((([]:List Tree).length:Nat):Rat)=0:=rfl;rw[e,Rat.mul_zero,Rat.add_zero];exact h
 |x::l,out,fl,t,h=>by
  rw[zbN];have h1:=zhO hp (l:=l) (fl:=(zdS part x (out,fl)).2) (tree_bd hp (t':=x) (fl:=fl) h);rw[List.length_cons,zg5];exact h1.up6 McP
theorem tree_bd {part:Rat} (hp:0<=part): ∀ {t':Tree} {out:Parts} {fl:Bool} {t:Rat},Bd out t->Bd (zdS part t' (out,fl)).1 (t+part)
 | .leaf n,out,fl,t,h=>by
   rw[zdS];exact zfE h hp
 | .node l,out,fl,t,h=>by
   rw[zdS];have h1:=zhO (zcv (ze9 hp l.length)) (l:=l) (fl:=fl||bigQ (part*(1/(l.length:Rat)))) h;have h2:=zk4 hp l.length;exact h1.up6 McP
end
def WideN:Nat->List Tree->Prop
 |0,l=>l=[]
 |f+1,l=>l.length<=1000/\ ∀l',Tree.node l'∈l->WideN f l'
theorem zjL {s:St} {stems:Bool} {frm:ByteArray} (hl:s.children.length<=1000): ∀(f:Nat) (n:ByteArray),WideN f (zb5 s stems frm f n)
 |0,_=>rfl
 |f+1,n=>by
  refine⟨?_,fun l' hm=> ?_⟩
  ·unfold zb5;refine Nat.le_trans (List.length_filterMap_le _ _) ?_;exact Mbd
  ·unfold zb5 at hm;obtain⟨c,_,hc⟩:=List.mem_filterMap.1 hm;split at hc
   ·simp at hc
   ·split at hc
    ·simp only[Option.some.injEq,Tree.node.injEq]at hc;rw[<-hc];exact zjL hl f c
    ·cases hc
theorem zhP {n:Nat} (h:0<n):((1:Rat)/(n:Rat)).num=1/\(((1:Rat)/(n:Rat)).den:Int)=n/\0<=(1:Rat)/(n:Rat)/\(1:Rat)/(n:Rat)<=1:=by
 have hs:za9 (n:Int) 1 (n:Int)=true:=by
  unfold za9;simp;omega
 have:=zbj hs;rw[Rat.divInt_eq_div,Rat.intCast_natCast]at this;exact this
theorem zl6 {n:Nat} (h:0<n) (h1:n<=1000):zaI ((1:Rat)/(n:Rat)):=by
 obtain⟨h2,h3,h4,h5⟩:=zhP h;exact zcc h4 h5 (by unfold bigQ;rw[h3];simp;omega)
theorem part_ok {q:Rat} (h0:0<=q) (h1:q<=1) {n:Nat} (hn:0<n):0<=zbg (q*(1/(n:Rat)))/\zbg (q*(1/(n:Rat)))<=1/\zaI (zbg (q*(1/(n:Rat))))/\zbg (q*(1/(n:Rat)))*(n:Rat)<=q:=by
 have h2:=zcv (ze9 h0 n);have h3:=zk4 h0 n;have h4:zbg (q*(1/(n:Rat)))<=zbg (q*(1/(n:Rat)))*(n:Rat):=by
  have h5:(1:Rat)<=(n:Rat):=by
   have:((1:Nat):Rat)<=(n:Rat):=Rat.natCast_le_natCast.2 hn;exact this
  have:=Rat.mul_le_mul_of_nonneg_left h5 h2;rwa [Rat.mul_one]at this
 have h6:zbg (q*(1/(n:Rat)))<=1:=Rat.le_trans h4 (Rat.le_trans h3 h1);exact⟨h2,h6,zcc h2 h6 (zgt _),h3⟩
theorem take_le {part:Rat} (hp:0<=part) {k n:Nat} (h:k<=n):part*(k:Rat)<=part*(n:Rat):=
 Rat.mul_le_mul_of_nonneg_left (Rat.natCast_le_natCast.2 h) hp
theorem zmN (part:Rat) (l:List Tree) (x:Parts×Bool) {k:Nat} (h:k<l.length):zbN part (l.take (k+1)) x=zdS part l[k] (zbN part (l.take k) x):=by
 rw[List.take_succ_eq_append_getElem h,zgu,zbN,zbN]
end Go.Proofs.YtjhbofabmpfniaaGreatDoor
namespace Go.Proofs.YtjhbofabmpfniaaGreatDoor
open Go.RowKit
attribute [local go_sem] World.cell?_alloc_mark zae za3 zam za6 zas zat zau zav zaw zax zay
def ekSp (s:Spot):Value:= .agg #[.string s.1, .int .i64 s.2]
theorem equal_sp (a:ByteArray) (c:Int) (a':ByteArray) (c':Int) (w:World):(Op.equal 260 (.agg #[.string a, .int .i64 c]) (.agg #[.string a', .int .i64 c'])).run Tryz.prog w= .ok (zaf a a'&&c==c') w:=by
 simp only[Op.equal,Op.maxDepth];go_simp
 unfold zaf;by_cases h1:a.toList=a'.toList<;>by_cases h2:c=c'<;>simp[h1,h2]
theorem zo7 (v:Value) (e:MapEntry) (es:List MapEntry) (fs:Array Field) (i:Nat):Instr.findNow (.struct fs) v (e::es) i=none:=by
 unfold Instr.findNow;cases v<;>simp[Instr.sameNow]
theorem zg6 {V:Type} (ev:V->Value) (p:Spot) (w:World): ∀(es:List MapEntry) (m:List (Spot×V)),es.map (fun e=>(e.key,e.val))=m.map (fun p=>(ekSp p.1,ev p.2))-> ∀i,
 (Instr.findAsking 260 (ekSp p) es i).run Tryz.prog w= .ok ((locate eqSp p m i).map fun p=>(p.1,ev p.2)) w
 | [],[],_,_=>by simp[Instr.findAsking,locate]
 | [],_::_,h,_=>by simp at h
 |_::_,[],h,_=>by simp at h
 |e::es,q::m,h,i=>by
  simp only[List.map_cons,List.cons.injEq,Prod.mk.injEq]at h;obtain⟨⟨hk,hv⟩,ht⟩:=h;unfold Instr.findAsking locate;have h1:=equal_sp p.1 p.2 q.1.1 q.1.2 w;have h2:=zg6 ev p w es m ht (i+1);rw[hk,hv];simp only[ekSp]at h1 h2⊢;simp only[Sem.run_bind,h1,Result.andThen_ok];change Sem.run _ (if(eqSp p q.1)=true then _ else _) w=_;cases hq:eqSp p q.1
  ·simpa using h2
  ·simp
theorem zmO (e:Bool) (p:Spot) (w:World):(Instr.checkKey e 10000 260 (ekSp p)).run Tryz.prog w= .ok () w:=by
 obtain⟨a,c⟩:=p;cases e<;>kernel_rfl
theorem zmP (a:ByteArray) (c:Int):Instr.sameBits 10000 (.agg #[.string a, .int .i64 c]) (.agg #[.string a, .int .i64 c])=true:=by
 have h2: ∀n,Instr.sameBits (n+1) (.agg #[.string a, .int .i64 c]) (.agg #[.string a, .int .i64 c])=true:=fun n=>by
  have h: ∀n (k:IntKind) (x:Int),Instr.sameBits n (.int k x) (.int k x)=true:=fun n k x=>by cases n<;>simp[Instr.sameBits]
  simp[Instr.sameBits,zgQ,beq_toListBytes,h]
 exact h2 9999
theorem znU {V:Type} {t et:TypeId} {ev:V->Value} {z:V} (ht:Tryz.prog.underlying t=some (.map 260 et)) (hz: ∀w,(zeroValue et).run Tryz.prog w= .ok (ev z) w):MapTy Tryz.prog t 260 et ekSp ev z eqSp where
 ht:=ht
 hz:=hz
 hck:=zmO
 hfind:=fun k es m h w=>by
  have hu: ∃fs,Tryz.prog.underlying 260=some (.struct fs):=⟨_,Tryz.underlying260⟩
  obtain⟨fs,hu⟩:=hu;match es,m,h with
  | [],[],_=>simp[Instr.findKey,run_underlying hu,Instr.findNow,locate]
  | [],_::_,h=>simp at h
  |e::es,m,h=>
   simp only[Instr.findKey,Sem.run_bind,run_underlying hu,Result.andThen_ok,zo7];exact zg6 ev k w (e::es) m h 0
 hsame:=fun k k' h=>by
  have e:=zfB.1 h;subst e;exact zmP k.1 k.2
theorem mapPV:MapTy Tryz.prog 257 260 3 ekSp (fun v:Value=>v) (.int .i64 0) eqSp:=znU Tryz.underlying257 (fun w=>by kernel_rfl)
theorem mapPM:MapTy Tryz.prog 258 260 133 ekSp (fun v:Value=>v) (.map none) eqSp:=znU Tryz.underlying258 (fun w=>by kernel_rfl)
theorem zmQ (n:ByteArray) (w:World):(Instr.lookup 133 (.map none) (.string n) false).run Tryz.prog w= .ok (.bool false) w:=by
 kernel_rfl
theorem zjM {K V:Type} {eq:K->K->Bool} {k:K}: ∀ {m:List (K×V)} {i j:Nat} {v:V},locate eq k m i=some (j,v)->(m[j-i]?).map (·.2)=some v
 | [],_,_,_,h=>by cases h
 |p::l,i,j,v,h=>by
  unfold locate at h;split at h
  ·simp only[Option.some.injEq,Prod.mk.injEq]at h;obtain⟨rfl,rfl⟩:=h;simp
  ·obtain⟨h1,_⟩:=zdK h;have e:j-i=(j-(i+1))+1:=Mcn;rw[e];simpa using zjM h
theorem zk5 {P:Program} {t kt et:TypeId} {K:Type} {ek:K->Value} {z:Value} {eq:K->K->Bool} {w:World} {b:Nat} {m:List (K×Value)} (T:MapTy P t kt et ek (fun v:Value=>v) z eq) (h:MapS w b ek (fun v:Value=>v) m) (k:K):
 ∃w' st j,(Instr.mapEntry t (.map (some b)) (ek k)).run P w= .ok (.tuple #[(mget eq k m).getD z, .int .i64 (st:Nat)]) w'/\StampAt w' b ek (mput eq k ((mget eq k m).getD z) m) j st/\(∀v,(mput eq k ((mget eq k m).getD z) m).set j (k,v)=mput eq k v m)/\((mput eq k ((mget eq k m).getD z) m)[j]?).map (·.1)=some k/\w.grownBy w' (some b)/\w'.heap.size=w.heap.size:=by
 obtain⟨es,c,hh,hm,hb,hn⟩:=h;have h1:=T.hfind k es.toList m hm w;have aa:=(Array.getElem?_eq_some_iff.1 hh).1;have eI:=zf0 eq k m 0;cases hl:locate eq k m 0 with
 |none=>
  rw[hl]at eI;rw[<-eI];have hp:=fun v'=>ze1 hl v'
  refine⟨_,c,m.length,?_,?_,?_,by rw[hp];simp,zgn w b (.map (es.push {key:=ek k,val:=z,born:=c}) (c+1)),by simp⟩
  ·simp[Instr.mapEntry,run_underlying T.ht,zb7 hh,T.hck,h1,hl,T.hz,zeo hh,Result.andThen];rfl
  ·refine⟨es.push {key:=ek k,val:=z,born:=c},c+1,by simp[Array.getElem?_setIfInBounds,aa],?_,?_,?_,?_⟩
   ·rw[hp];simp[hm]
   ·intro e he;rw[Array.toList_push]at he;rcases List.mem_append.1 he with he|he
    ·have:=hb e he;omega
    ·rw[List.mem_singleton.1 he];exact Nat.lt_succ_self c
   ·rw[Array.toList_push,List.map_append,List.nodup_append];refine⟨hn,by simp,?_⟩;intro x hx y hy;obtain⟨e,he,rfl⟩:=List.mem_map.1 hx;simp only[List.map_cons,List.map_nil,List.mem_singleton]at hy;have:=hb e he;omega
   ·have ag:es.size=m.length:=by simpa using congrArg List.length hm
    rw[<-ag];simp
  ·intro v;rw[hp,hp,List.set_append_right _ _ (Nat.le_refl _)];simp
 |some p=>
  obtain⟨j,u⟩:=p;rw[hl]at eI;rw[<-eI];have sk:=zjM hl;obtain⟨_,q,hq,he,fk⟩:=zdK hl;simp only[Nat.sub_zero]at hq fk sk;rw[hq]at sk;simp only[Option.map_some,Option.some.injEq]at sk;have hj:j<m.length:=(List.getElem?_eq_some_iff.1 hq).1;have ag:es.toList.length=m.length:=by simpa using congrArg List.length hm
  have cA:j<es.size:=by
   have h0:es.size=m.length:=by simpa using ag
   omega
  have mF:(es[j]).key=ek q.1:=by
   have:=congrArg (fun l=>l[j]?) hm;simp[List.getElem?_map,hq,cA]at this;exact this.1
  have iH:(es[j]).val=u:=by
   have:=congrArg (fun l=>l[j]?) hm;simp[List.getElem?_map,hq,cA]at this;rw[<-sk];exact this.2
  have cx:(es.modify j fun e=> {e with key:=ek k}).toList.map (·.born)=es.toList.map (·.born):=by
   apply List.ext_getElem?;intro i;simp only[List.getElem?_map,Array.getElem?_toList,Array.getElem?_modify];by_cases cP:j=i
   ·subst cP;simp[cA,Array.getElem?_eq_getElem cA]
   ·simp[cP]
  refine⟨_,(es[j]).born,j,?_,?_,?_,by rw[fk];simp[hj],zgn w b (.map (es.modify j fun e=> {e with key:=ek k}) c),by simp⟩
  ·simp[Instr.mapEntry,run_underlying T.ht,zb7 hh,T.hck,h1,hl,Instr.keyThatStays,Array.getElem?_eq_getElem cA,mF,T.hsame _ _ he,zeo hh,Result.andThen];rfl
  ·rw[Option.map_some,Option.getD_some,fk];refine⟨es.modify j fun e=> {e with key:=ek k},c,by simp[Array.getElem?_setIfInBounds,aa],?_,?_,by rw[cx];exact hn,?_⟩
   ·apply List.ext_getElem?;intro i;have fK:=congrArg (fun l=>l[i]?) hm;simp only[List.getElem?_map,Array.getElem?_toList]at fK;simp only[List.getElem?_map,Array.getElem?_toList,Array.getElem?_modify,List.getElem?_set];by_cases cP:j=i
    ·subst cP;simp[cA,hj,Array.getElem?_eq_getElem cA,iH]
    ·simp[cP,fK]
   ·intro e he;have h2:e.born∈(es.modify j fun e=> {e with key:=ek k}).toList.map (·.born):=List.mem_map.2 ⟨e,he,rfl⟩;rw[cx]at h2;obtain⟨e',mu,js⟩:=List.mem_map.1 h2;rw[<-js];exact hb e' mu
   ·simp[Array.getElem?_modify,Array.getElem?_eq_getElem cA]
  ·intro v;rw[Option.map_some,Option.getD_some,fk,fk,List.set_set]
theorem StampAt.mapAt {w:World} {b:Nat} {K:Type} {ek:K->Value} {m:List (K×Value)} {j st:Nat} (h:StampAt w b ek m j st):MapAt w b ek (fun v:Value=>v) m:=by
 obtain⟨es,c,h1,h2,_⟩:=h;exact⟨es,c,h1,h2⟩
theorem zmR {P:Program} {ops:Array Oper} {o:Oper} {a:Act} {w:World} {K:Act->World->Prop} {Q:Exit->Act->World->Prop} {E:Prop} {T:TypeId} (bP:o.guard=none) (x i u:Operand) (ho:o.op= .mapUpdate T x i u) (vx vi vu:Value) (hx:a.eval x=vx) (hi:a.eval i=vi) (hu:a.eval u=vu) (w':World)
 (hrun:(Instr.mapUpdate T vx vi vu).run P w= .ok () w') (h:K (a.put o.dst undef) w'):if Region.wanted o (yielded ops a.tmps)=true then Oper.wp P o a w K Q else E:=by
 exact Mad
end Go.Proofs.YtjhbofabmpfniaaGreatDoor
namespace Go.Proofs.YtjhbofabmpfniaaGreatDoor
open Go.RowKit Go.Shelf
attribute [local go_sem] World.cell?_alloc_mark zae za3 zam za6 zas zat zau zav zaw zax zay
attribute [local go_sem] zaj zac
def recLens (l:List Rec):Prop:= ∀x∈l,x.name.size<=100000/\x.other.size<=100000/\x.place.size<=100000
theorem zh6 (l:List Rec) (A:Option Addr) (n c:Nat) (w:World) (hn:n=l.length) (hc:n<=c) (hz:recLens l) (hS:Sl w 8 Rec.cells A l):Calls Tryz.prog 118 #[.slice A n c] w (Ret w (.int .i64 (zf2 l))):=by
 subst hn;have HS:=zHi hS;obtain⟨R,hR⟩: ∃R,R=zf2 l:=⟨_,rfl⟩
 rw[<-hR];unfold zf2 at hR;by_cases zk:40<l.length
 ·rw[if_pos (by simpa using zk)]at hR;subst hR;have h4:(40:Int)<(l.length:Int):=Mcn;clear hS;go_enter Tryz.func118,Tryz.ntmps118
  exact MaG
 ·rw[if_neg (by simpa using zk)]at hR;have h4: ¬(40:Int)<(l.length:Int):=Mcn;have HR:=zHi hR;clear hS hR;go_enter Tryz.func118,Tryz.ntmps118
  go_wp2_with fail
  go_loopw [11] (fun i wr=> ∃k:Nat,k<=l.length/\i= .int .i64 k/\Hid (R=zgl zcs (l.drop k))/\Below w.heap.size w wr) (fun i _=>l.length-(intOf i).toNat)
  case atStart=>exact⟨0,Nat.zero_le _,rfl,by show _=_;rw[HR.o,List.drop_zero],Below.refl _ _⟩
  case round=>
   obtain⟨k,hk,rfl,HX,hB⟩:=hrel;have HB:=zHi hB;by_cases aa:k<l.length
   ·obtain⟨b,off,rfl,hb,ah⟩:=(HS.o.keep hB).at aa;have hx:=HX.o;rw[List.drop_eq_getElem_cons aa,zgl]at hx;obtain⟨z1,z2,z3⟩:=hz l[k] (List.getElem_mem aa);have hck:=fun W=>ziG l[k] W z1 z2 z3
    generalize l[k]=x at*;have av:=zHi hx;have iI:=zHi hck;have am:=zHi aa;unfold Rec.v at iI;generalize zcs x=er at*;obtain⟨kd,nm,ot,pl,dy,tl,nu,de⟩:=x;have i0:wr.cell? ⟨b,off+k*8,none⟩=some (.int .i64 kd):=ah 0 _ rfl;have i1:wr.cell? ⟨b,off+k*8+1,none⟩=some (.string nm):=ah 1 _ rfl;have i2:wr.cell? ⟨b,off+k*8+2,none⟩=some (.string ot):=ah 2 _ rfl;have i3:wr.cell? ⟨b,off+k*8+3,none⟩=some (.string pl):=ah 3 _ rfl;have i4:wr.cell? ⟨b,off+k*8+4,none⟩=some (.int .i64 dy):=ah 4 _ rfl;have i5:wr.cell? ⟨b,off+k*8+5,none⟩=some (.int .i64 tl):=ah 5 _ rfl;have i6:wr.cell? ⟨b,off+k*8+6,none⟩=some (.int .i64 nu):=ah 6 _ rfl;have i7:wr.cell? ⟨b,off+k*8+7,none⟩=some (.int .i64 de):=ah 7 _ rfl;have ar:(k:Int)<(l.length:Int):=Mcn;have aT:(0:Int)<=(k:Int):=Mcn;have fH:(k:Int)<=(c:Int):=Mcn;have aE:=hB.size;clear ah hx hck HX hB;by_cases h0:er=0
    ·subst h0;go_wp2_with (go_at_call 168;go_must(refine(iI.o _).mono ?_);rintro e wq ⟨rfl,z,rfl⟩)
     go_round
     case rel=>exact⟨k+1,am.o,by go_num,by show _=_;rw[av.o];rfl,HB.o.trans (Below.mono (B:=wr.heap.size) Bw aE)⟩
     case measure=>have:=am.o;simp only[intOf];omega
    ·have bz:Hid (R=er):=by show _=_;rw[av.o,if_pos Mdh]
     go_wp2_with (go_at_call 168;go_must(refine(iI.o _).mono ?_);rintro e wq ⟨rfl,z,rfl⟩)
     go_ret
     exact Ret.of (zb1 bz.o.symm) (HB.o.trans (Below.mono (B:=wr.heap.size) Bw aE))
   ·have ar: ¬(k:Int)<(l.length:Int):=Mcn;have hx:=HX.o;rw[List.drop_eq_nil_of_le Mcn,zgl]at hx;have bz:Hid (R=0):=hx;clear hx hB;go_wp2_with fail
    go_ret
    exact Ret.of (zb1 bz.o.symm) HB.o
end Go.Proofs.YtjhbofabmpfniaaGreatDoor
namespace Go.Proofs.YtjhbofabmpfniaaGreatDoor
open Go.RowKit
attribute [local go_sem] World.cell?_alloc_mark zae za3 zam za6 zas zat zau zav zaw zax zay
attribute [local go_sem] zaj zac
theorem rAbs_any (n:Int) (w:World) (h:n.natAbs<=4611686018427387904):Calls Tryz.prog 213 #[.int .i64 n] w (Ret0 w (.int .i64 (n.natAbs:Int))):=by
 have h0: -4611686018427387904<=n:=Mcn;have h1:n<=4611686018427387904:=Mcn;have hw:IntKind.i64.wrap (-n)= -n:=Mc0;clear h;go_enter Tryz.func213,Tryz.ntmps213
 by_cases h:n<0
 ·go_wp2_with fail
  go_ret
  exact⟨by rw[show((n.natAbs:Nat):Int)= -n by omega];first|rfl|(show Ending.returned (Value.int .i64 (max n (-n)))=_;rw[show max n (-n)= -n by omega]),rfl⟩
 ·by_cases h2:n=0
  ·subst h2;exact MaH
  ·go_wp2_with fail
   go_ret
   exact⟨by rw[show((n.natAbs:Nat):Int)=n by omega];first|rfl|(show Ending.returned (Value.int .i64 (max n (-n)))=_;rw[show max n (-n)=n by omega]),rfl⟩
theorem znV (a b:Int) (w:World) (ha:a.natAbs<=4611686018427387904) (hb:b.natAbs<=4611686018427387904):Calls Tryz.prog 156 #[.int .i64 a, .int .i64 b] w (Ret w (.int .i64 (Int.gcd a b))):=by
 go_enter Tryz.func156,Tryz.ntmps156
 go_wp2_with fail
 go_loopw [0,1] (fun x y wr=> ∃p q:Int,x= .int .i64 p/\y= .int .i64 q/\p.natAbs<=4611686018427387904/\q.natAbs<=4611686018427387904/\Hid (Int.gcd a b=Int.gcd p q)/\ ∃z,wr=w.ext z) (fun _ y _=>(intOf y).natAbs)
 case atStart=>exact⟨a,b,rfl,rfl,ha,hb,rfl,zba (Below.refl _ _)⟩
 case round=>
  obtain⟨p,q,rfl,rfl,hp,hq,HG,z,rfl⟩:=hrel;by_cases hz:q=0
  ·subst hz;have HP:=zHi hp;clear hp hq;go_wp2_with (go_at_call 213;go_must(refine(rAbs_any _ _ HP.o).mono ?_);rintro e wq ⟨rfl,rfl⟩)
   go_ret
   exact Ret.of (zb1 (by rw[HG.o];simp[Int.gcd])) Bw
  ·have gN:(q==0)=false:=by simp[hz]
   have hm:=tmod_lt p q hz;have hG:=zHi (zn6 p q);have qa:IntKind.i64.wrap (p.tmod q)=p.tmod q:=IntWalk.i64_in _ Mcn;go_wp2_with fail
   go_quiet (fail)
   go_wp2_with fail
   all_goals(first
    |(go_round
      case rel=>exact⟨q,p.tmod q,rfl,rfl,hq,by omega,by show _=_;rw[HG.o,hG.o],zba Bw⟩
      case measure=>simp only[intOf];omega))
theorem zeI (a b:Int) (w:World) (ha:a.natAbs<=4611686018427387904) (aY:0<b) (hb:b<=4611686018427387904):Calls Tryz.prog 94 #[.int .i64 a, .int .i64 b] w (Ret w (zaB (Rat.divInt a b))):=by
 have hg:=zn7 (a:=a) aY;obtain⟨g,HG⟩: ∃g:Int,g=(Int.gcd a b:Int):=⟨_,rfl⟩
 have oz:0<g:=Mcn;have se:(g==0)=false:=Mcr;have e1:a.tdiv g=(Rat.divInt a b).num:=by rw[zf1 aY,HG,zel (Int.gcd_dvd_left ..)]
 have e2:b.tdiv g=((Rat.divInt a b).den:Int):=by rw[zek aY,HG,zel (Int.gcd_dvd_right ..)]
 have n1:(a.tdiv g).natAbs<=4611686018427387904:=Nat.le_trans (Int.natAbs_tdiv_le_natAbs _ _) ha;have n2:(b.tdiv g).natAbs<=4611686018427387904:=Nat.le_trans (Int.natAbs_tdiv_le_natAbs _ _) Mcn;have w1:wrap64 (a.tdiv g)=a.tdiv g:=by unfold wrap64;omega
 have w2:wrap64 (b.tdiv g)=b.tdiv g:=by unfold wrap64;omega
 have HA:=zHi ha;have gX:b.natAbs<=4611686018427387904:=Mcn;have JM: ¬b<0:=Mcn;have HB:=zHi gX;have E1:=zHi e1;have E2:=zHi e2;clear ha hb aY hg e1 e2 n1 n2 gX;go_enter Tryz.func94,Tryz.ntmps94
 go_wp2_with (go_at_call 156;refine(znV _ _ _ HA.o HB.o).mono ?_;rintro e w1 ⟨rfl,z1,rfl⟩;rw[<-HG])
 go_region
 go_wp2_with fail
 refine bodyPost_ret (v:=zaB (Rat.divInt a b)) ?_ rfl ?_
 ·refine zbX rfl _ _ w.heap.size _ _ rfl ?_ ?_
  ·rw[<-E1.o];simp[go_sem];rw[<-HG];exact w1
  ·rw[<-E2.o];simp[go_sem];rw[<-HG];exact w2
 ·exact Ret.of rfl Bw
theorem rAddI (a b c d:Int) (w:World) (ha:a.natAbs<=1000000000) (hb:b.natAbs<=1000000000) (hc:c.natAbs<=1000000000) (hd:d.natAbs<=1000000000) (aY:0<b) (ir:0<d) (_h:True):Calls Tryz.prog 80 #[.agg #[.int .i64 a, .int .i64 b], .agg #[.int .i64 c, .int .i64 d]] w (Ret w (zaB (Rat.divInt (a*d+c*b) (b*d)))):=by
 have m1:=zaP ha hd;have m2:=zaP hc hb;have m3:=zaP hb hd;have m4:0<b*d:=Int.mul_pos aY ir;obtain⟨m1,n1⟩:=m1;obtain⟨m2,n2⟩:=m2;obtain⟨m3,n3⟩:=m3;have w1:IntKind.i64.wrap (a*d)=a*d:=IntWalk.i64_in _ Mcn;have w2:IntKind.i64.wrap (c*b)=c*b:=IntWalk.i64_in _ Mcn;have w3:IntKind.i64.wrap (b*d)=b*d:=IntWalk.i64_in _ Mcn;have m5:=zaP ha hc;obtain⟨m5,n5⟩:=m5;have m6:=zaP hb hc;obtain⟨m6,n6⟩:=m6;have w5:IntKind.i64.wrap (a*c)=a*c:=IntWalk.i64_in _ Mcn;have w6:IntKind.i64.wrap (b*c)=b*c:=IntWalk.i64_in _ Mcn;have hs:(a*d+c*b).natAbs<=4611686018427387904:=Mcn;have hl:(b*d)<=4611686018427387904:=Mcn;have h4:0<(b*d):=m4;have HS:=zHi hs;have HL:=zHi hl;have H4:=zHi h4;clear hs hl m4 h4 ha hb hc hd;go_enter Tryz.func80,Tryz.ntmps80
 go_wp2_with (go_at_call 94;go_must(refine(zeI _ _ _ HS.o H4.o HL.o).mono ?_);rintro e w1 ⟨rfl,z1,rfl⟩;simp only[zaB])
 refine bodyPost_ret (v:=zaB (Rat.divInt (a*d+c*b) (b*d))) ?_ rfl ?_
 ·exact Mak
 ·exact Ret.of rfl Bw
theorem znW (p q:Rat) (w:World) (cn:zaI p) (dQ:zaI q):Calls Tryz.prog 80 #[zaB p,zaB q] w (Ret w (zaB (p+q))):=by
 rw[zjv];exact rAddI _ _ _ _ _ cn.1 (by have:=cn.2;omega) dQ.1 (by have:=dQ.2;omega) (zbW p) (zbW q) trivial
theorem rSubI (a b c d:Int) (w:World) (ha:a.natAbs<=1000000000) (hb:b.natAbs<=1000000000) (hc:c.natAbs<=1000000000) (hd:d.natAbs<=1000000000) (aY:0<b) (ir:0<d) (_h:True):Calls Tryz.prog 39 #[.agg #[.int .i64 a, .int .i64 b], .agg #[.int .i64 c, .int .i64 d]] w (Ret w (zaB (Rat.divInt (a*d-c*b) (b*d)))):=by
 have m1:=zaP ha hd;have m2:=zaP hc hb;have m3:=zaP hb hd;have m4:0<b*d:=Int.mul_pos aY ir;obtain⟨m1,n1⟩:=m1;obtain⟨m2,n2⟩:=m2;obtain⟨m3,n3⟩:=m3;have w1:IntKind.i64.wrap (a*d)=a*d:=IntWalk.i64_in _ Mcn;have w2:IntKind.i64.wrap (c*b)=c*b:=IntWalk.i64_in _ Mcn;have w3:IntKind.i64.wrap (b*d)=b*d:=IntWalk.i64_in _ Mcn;have m5:=zaP ha hc;obtain⟨m5,n5⟩:=m5;have m6:=zaP hb hc;obtain⟨m6,n6⟩:=m6;have w5:IntKind.i64.wrap (a*c)=a*c:=IntWalk.i64_in _ Mcn;have w6:IntKind.i64.wrap (b*c)=b*c:=IntWalk.i64_in _ Mcn;have hs:(a*d-c*b).natAbs<=4611686018427387904:=Mcn;have hl:(b*d)<=4611686018427387904:=Mcn;have h4:0<(b*d):=m4;have HS:=zHi hs;have HL:=zHi hl;have H4:=zHi h4;clear hs hl m4 h4 ha hb hc hd;go_enter Tryz.func39,Tryz.ntmps39
 go_wp2_with (go_at_call 94;go_must(refine(zeI _ _ _ HS.o H4.o HL.o).mono ?_);rintro e w1 ⟨rfl,z1,rfl⟩;simp only[zaB])
 refine bodyPost_ret (v:=zaB (Rat.divInt (a*d-c*b) (b*d))) ?_ rfl ?_
 ·exact Mak
 ·exact Ret.of rfl Bw
theorem zhQ (p q:Rat) (w:World) (cn:zaI p) (dQ:zaI q):Calls Tryz.prog 39 #[zaB p,zaB q] w (Ret w (zaB (p-q))):=by
 rw[zjw];exact rSubI _ _ _ _ _ cn.1 (by have:=cn.2;omega) dQ.1 (by have:=dQ.2;omega) (zbW p) (zbW q) trivial
theorem ziH (w:World):Calls Tryz.prog 93 #[] w (Ret w (.agg #[.int .i64 0, .int .i64 1])):=by
 go_enter Tryz.func93,Tryz.ntmps93
 go_wp2_with fail
 refine bodyPost_ret (v:= .agg #[.int .i64 0, .int .i64 1]) ?_ rfl ?_
 ·exact MbG
 ·exact Ret.of rfl Bw
end Go.Proofs.YtjhbofabmpfniaaGreatDoor
namespace Go.Proofs.YtjhbofabmpfniaaGreatDoor
open Go.RowKit Go.Shelf
attribute [local go_sem] World.cell?_alloc_mark zae za3 zam za6 zas zat zau zav zaw zax zay
attribute [local go_sem] zaj zac
theorem rMulI (a b c d:Int) (w:World) (ha:a.natAbs<=1000000000) (hb:b.natAbs<=1000000000) (hc:c.natAbs<=1000000000) (hd:d.natAbs<=1000000000) (aY:0<b) (ir:0<d) (_h:True):Calls Tryz.prog 40 #[.agg #[.int .i64 a, .int .i64 b], .agg #[.int .i64 c, .int .i64 d]] w (Ret w (zaB (Rat.divInt (a*c) (b*d)))):=by
 have m1:=zaP ha hd;have m2:=zaP hc hb;have m3:=zaP hb hd;have m4:0<b*d:=Int.mul_pos aY ir;obtain⟨m1,n1⟩:=m1;obtain⟨m2,n2⟩:=m2;obtain⟨m3,n3⟩:=m3;have w1:IntKind.i64.wrap (a*d)=a*d:=IntWalk.i64_in _ Mcn;have w2:IntKind.i64.wrap (c*b)=c*b:=IntWalk.i64_in _ Mcn;have w3:IntKind.i64.wrap (b*d)=b*d:=IntWalk.i64_in _ Mcn;have m5:=zaP ha hc;obtain⟨m5,n5⟩:=m5;have m6:=zaP hb hc;obtain⟨m6,n6⟩:=m6;have w5:IntKind.i64.wrap (a*c)=a*c:=IntWalk.i64_in _ Mcn;have w6:IntKind.i64.wrap (b*c)=b*c:=IntWalk.i64_in _ Mcn;have hs:(a*c).natAbs<=4611686018427387904:=Mcn;have hl:(b*d)<=4611686018427387904:=Mcn;have h4:0<(b*d):=m4;have HS:=zHi hs;have HL:=zHi hl;have H4:=zHi h4;clear hs hl m4 h4 ha hb hc hd;go_enter Tryz.func40,Tryz.ntmps40
 go_wp2_with (go_at_call 94;go_must(refine(zeI _ _ _ HS.o H4.o HL.o).mono ?_);rintro e w1 ⟨rfl,z1,rfl⟩;simp only[zaB])
 refine bodyPost_ret (v:=zaB (Rat.divInt (a*c) (b*d))) ?_ rfl ?_
 ·exact Mak
 ·exact Ret.of rfl Bw
theorem zg7 (p q:Rat) (w:World) (cn:zaI p) (dQ:zaI q):Calls Tryz.prog 40 #[zaB p,zaB q] w (Ret w (zaB (p*q))):=by
 rw[zgR];exact rMulI _ _ _ _ _ cn.1 (by have:=cn.2;omega) dQ.1 (by have:=dQ.2;omega) (zbW p) (zbW q) trivial
def zh7 (l:Parts) (n:ByteArray) (k:Nat):Int:=match(l.drop k).findIdx? fun p=>zaf p.1 n with
 |none=> -1
 |some i=>((k+i:Nat):Int)
theorem zo8 {l:Parts} {n:ByteArray} {k:Nat} (h:k<l.length):zh7 l n k=if zaf l[k].1 n then(k:Int)else zh7 l n (k+1):=by
 unfold zh7;rw[List.drop_eq_getElem_cons h,List.findIdx?_cons];cases hs:zaf l[k].1 n
 ·rw[if_neg Mcq,if_neg Mcq];cases(l.drop (k+1)).findIdx? fun p=>zaf p.1 n with
  |none=>rfl
  |some i=>
   simp only[Option.map_some];omega
 ·rw[if_pos rfl,if_pos rfl];simp
theorem partI_end {l:Parts} {n:ByteArray} {k:Nat} (h: ¬k<l.length):zh7 l n k= -1:=by
 unfold zh7;rw[List.drop_of_length_le Mcn];rfl
theorem zmS (l:Parts) (n:ByteArray):(zh7 l n 0= -1/\zag l n=0)\/ ∃(i:Nat) (h:i<l.length),zh7 l n 0=(i:Int)/\zag l n=l[i].2:=by
 unfold zh7 zag;rw[List.drop_zero];cases hx:l.findIdx? fun p=>zaf p.1 n with
 |none=>
  refine .inl ⟨rfl,?_⟩;rw[List.findIdx?_eq_none_iff]at hx;have:l.find? (fun p=>zaf p.1 n)=none:=by
   rw[List.find?_eq_none];intro p hp;rw[hx p hp];simp
  rw[this];rfl
 |some i=>
  rw[List.findIdx?_eq_some_iff_getElem]at hx;obtain⟨hi,h1,h2⟩:=hx;refine .inr ⟨i,hi,by simp,?_⟩;have:l.find? (fun p=>zaf p.1 n)=some l[i]:=by
   rw[List.find?_eq_some_iff_getElem];exact⟨h1,i,hi,rfl,fun j hj=>by simpa using h2 j hj⟩
  rw[this];rfl
theorem rPart_any (l:Parts) (n:ByteArray) (A:Option Addr) (c:Nat) (w:World) (hl:l.length<=1000000000) (hS:Sl w 3 zaa A l):Calls Tryz.prog 92 #[.slice A l.length c, .string n] w (Ret0 w (.int .i64 (zh7 l n 0))):=by
 have HS:=zHi hS;obtain⟨R,hR⟩: ∃R,R=zh7 l n 0:=⟨_,rfl⟩
 rw[<-hR];have HR:=zHi hR;clear hS hR;go_enter Tryz.func92,Tryz.ntmps92
 go_upto_region 2 with fail
 go_loopw [5] (fun i wr=> ∃k:Nat,k<=l.length/\i= .int .i64 k/\w=wr/\Hid (R=zh7 l n k)) (fun i _=>l.length-(intOf i).toNat)
 case atStart=>exact⟨0,Nat.zero_le _,rfl,rfl,HR.o⟩
 case round=>
  obtain⟨k,hk,rfl,rfl,HX⟩:=hrel;by_cases aa:k<l.length
  ·obtain⟨b,off,rfl,hb,ah⟩:=HS.o.at aa;have hx:=HX.o;rw[zo8 aa]at hx;have av:=zHi hx;have am:=zHi aa;generalize l[k]=x at*;obtain⟨nm,q⟩:=x;have i0:w.cell? ⟨b,off+k*3,none⟩=some (.string nm):=ah 0 _ rfl;have ar:(k:Int)<(l.length:Int):=Mcn;have aT:(0:Int)<=(k:Int):=Mcn;clear ah hx aa;cases hs:zaf nm n
   ·have HE:Hid (R=zh7 l n (k+1)):=by show _=_;rw[av.o,hs];rfl
    have bp:(nm.toList==n.toList)=false:=hs;go_wp2_with fail
    exact MI
   ·have HE:Hid (R=(k:Int)):=by show _=_;rw[av.o,hs];rfl
    have bp:(nm.toList==n.toList)=true:=hs;exact M8
  ·have ar: ¬(k:Int)<(l.length:Int):=Mcn;have HE:Hid (R= -1):=by show _=_;rw[HX.o,partI_end aa]
   exact M8
theorem zfp (l:Parts) (n:ByteArray) (A:Option Addr) (c:Nat) (w:World) (hl:l.length<=1000000000) (hS:Sl w 3 zaa A l):Calls Tryz.prog 38 #[.slice A l.length c, .string n] w (Ret w (zaB (zag l n))):=by
 have HP:=zHi (fun W (h:Below w.heap.size w W)=>rPart_any l n A c W hl (hS.keep h));rcases zmS l n with⟨h1,h2⟩|⟨i,hi,h1,h2⟩
 ·rw[h1]at HP;rw[h2];clear hS;go_enter Tryz.func38,Tryz.ntmps38
  go_wp2_with (first
   |(go_at_call 92;go_must(refine(HP.o _ Bw).mono ?_);rintro e wq ⟨rfl,rfl⟩)
   |(go_at_call 93;go_must(refine(ziH _).mono ?_);rintro e wq ⟨rfl,z,rfl⟩))
  refine bodyPost_ret (v:=zaB 0) ?_ rfl ?_
  ·exact Mcc
  ·exact Ret.of rfl Bw
 ·rw[h1]at HP;rw[h2];obtain⟨b,off,rfl,hb,ah⟩:=hS.at hi;generalize l[i]=x at*;obtain⟨nm,q⟩:=x;have i1:w.cell? ⟨b,off+i*3+1,none⟩=some (.int .i64 q.num):=ah 1 _ rfl;have i2:w.cell? ⟨b,off+i*3+2,none⟩=some (.int .i64 q.den):=ah 2 _ rfl;have ar:(i:Int)<(l.length:Int):=Mcn;have aT:(0:Int)<=(i:Int):=Mcn;clear hS ah h1 h2;go_enter Tryz.func38,Tryz.ntmps38
  go_wp2_with (go_at_call 92;go_must(refine(HP.o _ Bw).mono ?_);rintro e wq ⟨rfl,rfl⟩)
  refine bodyPost_ret (v:=zaB q) ?_ rfl ?_
  ·exact Mcc
  ·exact Ret.of rfl Bw
end Go.Proofs.YtjhbofabmpfniaaGreatDoor
