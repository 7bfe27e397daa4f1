import Derived.Test.YtegdimedhfafjaaGreatDoorRB
import Derived.Test.YtegdimedhfafjaaGreatDoorRK
set_option linter.all false
set_option maxRecDepth 100000
set_option maxHeartbeats 4000000
namespace Go.Proofs.YtegdimedhfafjaaGreatDoor
open Go.RowKit
attribute [local go_sem] World.cell?_alloc_mark zaf za5 zao za8 zav zaw zax zay zaz za0 za1
attribute [local go_sem] zaq zad
theorem zfA{out:Parts}{t f:Rat}{n:ByteArray}{fl:Bool}(h:Bd out t)(hf:0<=f):Bd (zcK n f (out,fl)).1 (t+f):=h.set n hf
theorem Bd.up6{out:Parts}{t u:Rat}(h:Bd out t)(hu:t<=u):Bd out u:=⟨h.good,h.small,Rat.le_trans h.le hu⟩
theorem zk2{part:Rat}(hp:0<=part)(n:Nat):zbh (part*(1/(n:Rat)))*(n:Rat)<=part:=by
 have h1:=zha (zeB hp n);by_cases hn:n=0
 ·subst hn;have:((0:Nat):Rat)=0:=rfl;rw[this,Rat.mul_zero];exact hp
 ·have ui:(n:Rat)≠0:=by
   have:=ratI (n:=(n:Int)) Mcm;rwa [Rat.intCast_natCast]at this
  have h2:part*(1/(n:Rat))*(n:Rat)=part:=by
   rw[zkt];exact Rat.div_mul_cancel ui
  have h3:=Rat.mul_le_mul_of_nonneg_right h1 (Rat.natCast_nonneg (a:=n));rw[h2]at h3;exact h3
theorem zg5(n:Nat):((n+1:Nat):Rat)=(n:Rat)+1:=by
 rw[Rat.natCast_add];rfl
mutual
theorem zhM{part:Rat}(hp:0<=part):∀ {l:List Tree} {out:Parts} {fl:Bool} {t:Rat},Bd out t->Bd (zbO part l (out,fl)).1 (t+part*(l.length:Rat))
 | [],out,fl,t,h=>by
   rw[zbO];have e:((([]:List Tree).length:Nat):Rat)=0:=rfl;rw[e,Rat.mul_zero,Rat.add_zero];exact h
 |x::l,out,fl,t,h=>by
  rw[zbO];have h1:=zhM hp (l:=l) (fl:=(zdR part x (out,fl)).2) (tree_bd hp (t':=x) (fl:=fl) h);rw[List.length_cons,zg5];exact h1.up6 McG
theorem tree_bd{part:Rat}(hp:0<=part):∀ {t':Tree} {out:Parts} {fl:Bool} {t:Rat},Bd out t->Bd (zdR part t' (out,fl)).1 (t+part)
 | .leaf n,out,fl,t,h=>by
   rw[zdR];exact zfA h hp
 | .node l,out,fl,t,h=>by
   rw[zdR];have h1:=zhM (zct (zeB hp l.length)) (l:=l) (fl:=fl||bigQ (part*(1/(l.length:Rat)))) h;have h2:=zk2 hp l.length;exact h1.up6 McG
end
def WideN:Nat->List Tree->Prop
 |0,l=>l=[]
 |f+1,l=>l.length<=1000/\∀l',Tree.node l'∈l->WideN f l'
theorem zjH{s:St}{stems:Bool}{frm:ByteArray}(hl:s.children.length<=1000):∀(f:Nat) (n:ByteArray),WideN f (zb7 s stems frm f n)
 |0,_=>rfl
 |f+1,n=>by
  refine⟨?_,fun l' hm=>?_⟩
  ·unfold zb7;refine Nat.le_trans (List.length_filterMap_le _ _) ?_;exact Mba
  ·unfold zb7 at hm;obtain⟨c,_,hc⟩:=List.mem_filterMap.1 hm;split at hc
   ·simp at hc
   ·split at hc
    ·simp only[Option.some.injEq,Tree.node.injEq]at hc;rw[<-hc];exact zjH hl f c
    ·cases hc
theorem zhN{n:Nat}(h:0<n):((1:Rat)/(n:Rat)).num=1/\(((1:Rat)/(n:Rat)).den:Int)=n/\0<=(1:Rat)/(n:Rat)/\(1:Rat)/(n:Rat)<=1:=by
 have hs:za9 (n:Int) 1 (n:Int)=true:=by
  unfold za9;simp;omega
 have:=zbk hs;rw[Rat.divInt_eq_div,Rat.intCast_natCast]at this;exact this
theorem zl3{n:Nat}(h:0<n)(h1:n<=1000):zaJ ((1:Rat)/(n:Rat)):=by
 obtain⟨h2,h3,h4,h5⟩:=zhN h;exact zcb h4 h5 (by unfold bigQ;rw[h3];simp;omega)
theorem part_ok{q:Rat}(h0:0<=q)(h1:q<=1){n:Nat}(hn:0<n):0<=zbh (q*(1/(n:Rat)))/\zbh (q*(1/(n:Rat)))<=1/\zaJ (zbh (q*(1/(n:Rat))))/\zbh (q*(1/(n:Rat)))*(n:Rat)<=q:=by
 have h2:=zct (zeB h0 n);have h3:=zk2 h0 n;have h4:zbh (q*(1/(n:Rat)))<=zbh (q*(1/(n:Rat)))*(n:Rat):=by
  have h5:(1:Rat)<=(n:Rat):=by
   have:((1:Nat):Rat)<=(n:Rat):=Rat.natCast_le_natCast.2 hn;exact this
  have:=Rat.mul_le_mul_of_nonneg_left h5 h2;rwa [Rat.mul_one]at this
 have h6:zbh (q*(1/(n:Rat)))<=1:=Rat.le_trans h4 (Rat.le_trans h3 h1);exact⟨h2,h6,zcb h2 h6 (zgr _),h3⟩
theorem take_le{part:Rat}(hp:0<=part){k n:Nat}(h:k<=n):part*(k:Rat)<=part*(n:Rat):=
 Rat.mul_le_mul_of_nonneg_left (Rat.natCast_le_natCast.2 h) hp
theorem zmO(part:Rat)(l:List Tree)(x:Parts×Bool){k:Nat}(h:k<l.length):zbO part (l.take (k+1)) x=zdR part l[k] (zbO part (l.take k) x):=by
 rw[List.take_succ_eq_append_getElem h,zgx,zbO,zbO]
def zl4(out:Parts)(p:ByteArray×Value):Option (ByteArray×Rat):=if 0<zag out p.1 then some (p.1,zag out p.1)else none
def colP(out:Parts)(l:List (ByteArray×Value)):Parts:=l.filterMap (zl4 out)
theorem colP_snoc(out:Parts)(l:List (ByteArray×Value))(p:ByteArray×Value):colP out (l++[p])=colP out l++(zl4 out p).toList:=by
 unfold colP;rw[List.filterMap_append];cases h:zl4 out p<;>simp[List.filterMap,h]
theorem zoE{l:Parts}{n:ByteArray}(h:zag l n≠0):(n,zag l n)∈l:=by
 unfold zag at h⊢;cases hf:l.find? (fun p=>zae p.1 n)with
 |none=>rw[hf]at h;exact absurd rfl h
 |some p=>
  have h1:=List.mem_of_find?_eq_some hf;have h2:=List.find?_some hf;have h3:p.1=n:=za2.1 h2;rw[<-h3];exact h1
theorem zoF{l:Parts}(h:GoodParts l):l.Nodup:=by
 refine h.asc.imp fun {a b} cF e=>?_
 rw[e,zeZ]at cF;cases cF
theorem znZ{out:Parts}(hg:GoodParts out){mm:List (ByteArray×Value)}(cR:(mm.map (·.1)).Nodup)(iB:∀n,(mget eqS n mm=none/\zag out n=0)\/mget eqS n mm=some (zaC (zag out n))):(colP out mm).Perm out:=by
 refine(List.perm_ext_iff_of_nodup ?_ (zoF hg)).2 fun a=>?_
 ·unfold colP;have h1:((mm.map (·.1)).filterMap fun n=>if 0<zag out n then some (n,zag out n)else none).Nodup:=by
   refine List.Pairwise.filterMap _ ?_ cR;intro a b cF x hx y hy e;split at hx
   ·split at hy
    ·simp only[Option.some.injEq]at hx hy;rw[<-hx,<-hy]at e;exact cF (congrArg Prod.fst e)
    ·cases hy
   ·cases hx
  rw[List.filterMap_map]at h1;exact h1
 ·constructor
  ·intro ha;obtain⟨p,hp,h1⟩:=List.mem_filterMap.1 ha;unfold zl4 at h1;split at h1
   ·rename_i h0
    simp only[Option.some.injEq]at h1;rw[<-h1];exact zoE (by intro e;rw[e]at h0;exact absurd h0 Mco)
   ·cases h1
  ·intro ha;have h1:=share_mem hg ha;have h2:=hg.pos a ha;have h3:mget eqS a.1 mm=some (zaC (zag out a.1)):=by
    rcases iB a.1 with⟨_,h⟩|h
    ·rw[h1]at h;rw[h]at h2;exact absurd h2 Mco
    ·exact h
   refine List.mem_filterMap.2 ⟨_,zcX h3,?_⟩;unfold zl4;rw[h1,if_pos h2]
def UpP(L:Parts):Prop:=L.Pairwise fun a b=>zbq b.1 a.1=false
theorem zl5{ls L:Parts}(h:GoodParts ls)(hp:L.Perm ls)(hs:UpP L):L=ls:=by
 have eG:L.Pairwise (fun x y:ByteArray×Rat=>zbq y.1 x.1=false):=hs;refine List.Perm.eq_of_pairwise (le:=fun x y:ByteArray×Rat=>zbq y.1 x.1=false) ?_ eG ?_ hp
 ·intro a b ha hb h1 h2;have kQ:a∈ls:=hp.mem_iff.1 ha;obtain⟨i,hi,rfl⟩:=List.getElem_of_mem kQ;obtain⟨j,hj,rfl⟩:=List.getElem_of_mem hb;rcases Nat.lt_trichotomy i j with cQ|cQ|cQ
  ·have:=List.pairwise_iff_getElem.1 h.asc i j hi hj cQ;rw[this]at h2;cases h2
  ·subst cQ;rfl
  ·have:=List.pairwise_iff_getElem.1 h.asc j i hj hi cQ;rw[this]at h1;cases h1
 ·refine h.asc.imp fun {a b} cF=>?_
  exact zj0 cF
theorem zjI{α:Type}{x:α}:∀ {l:List α} {i:Nat},l[i]?=some x->(x::l.eraseIdx i).Perm l
 | [],i,h=>by simp at h
 |y::l,0,h=>by
  simp only[List.getElem?_cons_zero,Option.some.injEq]at h;rw[h];exact List.Perm.refl _
 |y::l,i+1,h=>by
  simp only[List.getElem?_cons_succ]at h;rw[List.eraseIdx_cons_succ];exact(List.Perm.swap y x _).trans (List.Perm.cons y (zjI h))
theorem done_perm{α:Type}{d l m:List α}{i:Nat}{x:α}(h:(d++l).Perm m)(hx:l[i]?=some x):((d++[x])++l.eraseIdx i).Perm m:=by
 rw[List.append_assoc];refine List.Perm.trans ?_ h;exact List.Perm.append_left d (zjI hx)
theorem zhx(s:St)(frm:ByteArray):∀(a b:Parts) (x:Parts×Bool) (rest:Rat),zdd s frm (a++b) x rest=zdd s frm b (zdd s frm a x rest).1 (zdd s frm a x rest).2
 | [],_,_,_=>rfl
 |p::a,b,x,rest=>by
  rw[List.cons_append,zdd,zdd];split<;>exact zhx s frm a b _ _
theorem will_snoc(s:St)(frm:ByteArray)(l:Parts)(x:Parts×Bool)(rest:Rat){k:Nat}(h:k<l.length):zdd s frm (l.take (k+1)) x rest=
 if zdX s l[k].1 frm then(zcK l[k].1 l[k].2 (zdd s frm (l.take k) x rest).1,(zdd s frm (l.take k) x rest).2-l[k].2)else zdd s frm (l.take k) x rest:=by
 rw[List.take_succ_eq_append_getElem h,zhx,zdd,zdd,zdd]
section
open Go.Shelf
def recLens(l:List Rec):Prop:= ∀x∈l,x.name.size<=100000/\x.other.size<=100000/\x.place.size<=100000
theorem zh4(l:List Rec)(A:Option Addr)(n c:Nat)(w:World)(hn:n=l.length)(hc:n<=c)(hz:recLens l)(hS:Sl w 8 Rec.cells A l):Calls Tryz.prog 38 #[.slice A n c] w (Ret w (.int .i64 (zfx l))):=by
 subst hn;have HS:=zHi hS;obtain⟨R,hR⟩:∃R,R=zfx l:=⟨_,rfl⟩
 rw[<-hR];unfold zfx at hR;by_cases zD:40<l.length
 ·rw[if_pos (by simpa using zD)]at hR;subst hR;have h4:(40:Int)<(l.length:Int):=Mcm;clear hS;go_enter Tryz.func38,Tryz.ntmps38
  exact Mar
 ·rw[if_neg (by simpa using zD)]at hR;have h4:¬(40:Int)<(l.length:Int):=Mcm;have HR:=zHi hR;clear hS hR;go_enter Tryz.func38,Tryz.ntmps38
  go_wp2_with fail
  go_loopw [11] (fun i wr=>∃k:Nat,k<=l.length/\i=.int .i64 k/\Hid (R=zgj zcr (l.drop k))/\Below w.heap.size w wr) (fun i _=>l.length-(intOf i).toNat)
  case atStart=>exact⟨0,Nat.zero_le _,rfl,by show _=_;rw[HR.o,List.drop_zero],Below.refl _ _⟩
  case round=>
   obtain⟨k,hk,rfl,HX,hB⟩:=hrel;have HB:=zHi hB;by_cases aa:k<l.length
   ·obtain⟨b,off,rfl,hb,ah⟩:=(HS.o.keep hB).at aa;have hx:=HX.o;rw[List.drop_eq_getElem_cons aa,zgj]at hx;obtain⟨z1,z2,z3⟩:=hz l[k] (List.getElem_mem aa);have hck:=fun W=>ziD l[k] W z1 z2 z3
    generalize l[k]=x at*;obtain⟨av,iL,am⟩:=yH3 hx hck aa;unfold Rec.v at iL;generalize zcr x=er at*;obtain⟨kd,nm,ot,pl,dy,tl,nu,de⟩:=x;have i0:wr.cell? ⟨b,off+k*8,none⟩=some (.int .i64 kd):=ah 0 _ rfl;have i1:wr.cell? ⟨b,off+k*8+1,none⟩=some (.string nm):=ah 1 _ rfl;have i2:wr.cell? ⟨b,off+k*8+2,none⟩=some (.string ot):=ah 2 _ rfl;have i3:wr.cell? ⟨b,off+k*8+3,none⟩=some (.string pl):=ah 3 _ rfl;have i4:wr.cell? ⟨b,off+k*8+4,none⟩=some (.int .i64 dy):=ah 4 _ rfl;have i5:wr.cell? ⟨b,off+k*8+5,none⟩=some (.int .i64 tl):=ah 5 _ rfl;have i6:wr.cell? ⟨b,off+k*8+6,none⟩=some (.int .i64 nu):=ah 6 _ rfl;have i7:wr.cell? ⟨b,off+k*8+7,none⟩=some (.int .i64 de):=ah 7 _ rfl;have au:(k:Int)<(l.length:Int):=Mcm;have aP:(0:Int)<=(k:Int):=Mcm;have fD:(k:Int)<=(c:Int):=Mcm;have aE:=hB.size;clear ah hx hck HX hB;by_cases h0:er=0
    ·subst h0;go_wp2_with (go_at_call 72;go_must(refine(iL.o _).mono ?_);rintro e wq ⟨rfl,z,rfl⟩)
     go_round
     case rel=>exact⟨k+1,am.o,by go_num,by show _=_;rw[av.o];rfl,HB.o.trans (Below.mono (B:=wr.heap.size) Bw aE)⟩
     case measure=>have:=am.o;simp only[intOf];omega
    ·have bw:Hid (R=er):=by show _=_;rw[av.o,if_pos Mdg]
     go_wp2_with (go_at_call 72;go_must(refine(iL.o _).mono ?_);rintro e wq ⟨rfl,z,rfl⟩)
     go_ret
     exact Ret.of (zbC bw.o.symm) (HB.o.trans (Below.mono (B:=wr.heap.size) Bw aE))
   ·have au:¬(k:Int)<(l.length:Int):=Mcm;have hx:=HX.o;rw[List.drop_eq_nil_of_le Mcm,zgj]at hx;have bw:Hid (R=0):=hx;clear hx hB;go_wp2_with fail
    go_ret
    exact Ret.of (zbC bw.o.symm) HB.o
end
theorem zoG:∀a b:Fin 64,a.val*64+b.val≠0->zcP 12 (a.val*64+b.val)=Lib.ctz 64 (a.val*64+b.val)::zcP 12 ((a.val*64+b.val) &&& (a.val*64+b.val-1)):=by decide+kernel
theorem zoH(x:Nat)(hx:x<4096)(h0:x≠0):zcP 12 x=Lib.ctz 64 x::zcP 12 (x &&& (x-1)):=by
 have h:=zoG ⟨x/64,by omega⟩ ⟨x%64,by omega⟩;have e:x/64*64+x%64=x:=Mcm;simp only[e]at h;exact h h0
theorem bits_up{n x:Nat}(hn:n<=12)(hx:x<2^n):zcP n x=zcP 12 x:=by
 unfold zcP;have h:List.range 12=List.range n++(List.range (12-n)).map (n+ ·):=by
  rw[<-List.range_add];congr 1
  omega
 rw[h,List.filter_append];have h2:((List.range (12-n)).map (n+ ·)).filter (fun i=>x.testBit i)=[]:=by
  rw[List.filter_eq_nil_iff];intro i hi;obtain⟨j,_,rfl⟩:=List.mem_map.1 hi;have:x.testBit (n+j)=false:=Nat.testBit_lt_two_pow (Nat.lt_of_lt_of_le hx (Nat.pow_le_pow_right Mco Mcm));rw[this];decide
 rw[h2,List.append_nil]
theorem ziE{n x:Nat}(hx:x<2^n):x &&& (x-1)<2^n:=Nat.lt_of_le_of_lt Nat.and_le_left hx
theorem bits_step{n x:Nat}(hn:n<=12)(hx:x<2^n)(h0:x≠0):zcP n x=Lib.ctz 64 x::zcP n (x &&& (x-1)):=by
 have ny:x<4096:=Nat.lt_of_lt_of_le hx (Nat.pow_le_pow_right (n:=2) Mco hn);rw[bits_up hn hx,bits_up hn (ziE hx)];exact zoH x ny h0
theorem bits_none(n:Nat):zcP n 0=[]:=by
 unfold zcP;rw[List.filter_eq_nil_iff];intro i _;simp
theorem zl6{x:Nat}(h0:x≠0):x &&& (x-1)<x:=Nat.lt_of_le_of_lt Nat.and_le_right Mcm
theorem zoa:∀(l:List Int) (i:Nat),nmGo l (i+1)=zje l
 | [],_=>rfl
 |c::l,i=>by
  rw[nmGo,zje,zoa l (i+1)];have h:(!(zcS c)&&(i+1==0||(c != 45&&(decide (c<48)||decide (57<c)))))=(!zcS c&&!zkV c&&c != 45):=by
   cases zcS c
   ·have h0:(i+1==0)=false:=Mcp;rw[h0];by_cases h1:c=45
    ·subst h1;rfl
    ·have h2:(c != 45)=true:=McP;rw[h2,zkV];by_cases h3:c<48
     ·have h4:¬48<=c:=Mcm;simp only[h3,h4,decide_true,decide_false,Bool.not_false,Bool.true_and,Bool.false_or,Bool.true_or,Bool.false_and]
     ·have h4:48<=c:=Mcm;by_cases h5:57<c
      ·have h6:¬c<=57:=Mcm;simp only[h3,h4,h5,h6,decide_true,decide_false,Bool.not_false,Bool.true_and,Bool.false_or,Bool.true_or,Bool.false_and,Bool.or_true]
      ·have h6:c<=57:=Mcm;simp only[h3,h4,h5,h6,decide_true,decide_false,Bool.not_false,Bool.true_and,Bool.false_or,Bool.true_or,Bool.false_and,Bool.or_true,Bool.or_false,Bool.not_true]
   ·rfl
  rw[h]
theorem zmP(s:ByteArray):s.toList.isEmpty=decide ((s.size:Int)<1):=by
 have e:s.toList.length=s.size:=by rw[ByteArray.toList_eq,Array.length_toList];rfl
 generalize s.size=n at*;cases hl:s.toList with
 |nil=>
  rw[hl]at e;subst e;rfl
 |cons a l=>
  rw[hl,List.length_cons]at e;have h:¬((n:Int)<1):=Mcm;rw[decide_eq_false h];rfl
theorem zcM(s:ByteArray):zaS s=zcT s:=by
 unfold zaS zcT;rw[zmP];have hl:=zgO s;cases hb:zdm s with
 |nil=>
  rw[hb]at hl;have h0:(s.size:Int)<1:=by simp at hl;omega
  simp[h0]
 |cons c l=>
  rw[hb]at hl;have h0:¬(s.size:Int)<1:=by simp at hl;omega
  have h1:nmGo (c::l) 0=if !zcS c then false else zje l:=by rw[nmGo,zoa];simp
  rw[h1];simp only[h0,decide_false,Bool.not_false,Bool.true_and,Bool.false_or,List.getD_cons_zero,List.drop_succ_cons,List.drop_zero];cases zcS c<;>by_cases h2:(12:Int)<s.size<;>simp[h2]<;>omega
