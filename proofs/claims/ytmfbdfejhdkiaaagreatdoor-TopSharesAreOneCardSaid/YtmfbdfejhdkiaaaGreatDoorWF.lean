/- Walks of the reference's parts: large, without. -/
import Derived.Test.YtmfbdfejhdkiaaaGreatDoorJN
set_option linter.all false
set_option maxRecDepth 100000
set_option maxHeartbeats 4000000
namespace Go.Proofs.YtmfbdfejhdkiaaaGreatDoor
open Go.RowKit Go.Shelf
attribute [local go_sem] World.cell?_alloc_mark zae za4 zao za8 zav zaw zax zay zaz za0 za1
attribute [local go_sem] zap zac
theorem rMulI(a b c d:Int)(w:World)(ha:a.natAbs<=1000000000)(hb:b.natAbs<=1000000000)(hc:c.natAbs<=1000000000)(hd:d.natAbs<=1000000000)(aN:0<b)(fW:0<d)(_h:True):Calls Tryz.prog 122 #[.agg #[.int .i64 a,.int .i64 b],.agg #[.int .i64 c,.int .i64 d]] w (Ret w (zaD (Rat.divInt (a*c) (b*d)))):=by
 have m1:=zaQ ha hd;have m2:=zaQ hc hb;have m3:=zaQ hb hd;have m4:0<b*d:=Int.mul_pos aN fW;obtain⟨m1,n1⟩:=m1;obtain⟨m2,n2⟩:=m2;obtain⟨m3,n3⟩:=m3;have w1:IntKind.i64.wrap (a*d)=a*d:=IntWalk.i64_in _ Mcq;have w2:IntKind.i64.wrap (c*b)=c*b:=IntWalk.i64_in _ Mcq;have w3:IntKind.i64.wrap (b*d)=b*d:=IntWalk.i64_in _ Mcq;have m5:=zaQ ha hc;obtain⟨m5,n5⟩:=m5;have m6:=zaQ hb hc;obtain⟨m6,n6⟩:=m6;have w5:IntKind.i64.wrap (a*c)=a*c:=IntWalk.i64_in _ Mcq;have w6:IntKind.i64.wrap (b*c)=b*c:=IntWalk.i64_in _ Mcq;have hs:(a*c).natAbs<=4611686018427387904:=Mcq;have hl:(b*d)<=4611686018427387904:=Mcq;have h4:0<(b*d):=m4;obtain⟨HS,HL,H4⟩:=yH3 hs hl h4;clear hs hl m4 h4 ha hb hc hd;go_enter Tryz.func122,Tryz.ntmps122
 go_wp2_with (go_at_call 63;go_must(refine(ze7 _ _ _ HS.o H4.o HL.o).mono ?_);rintro e w1 ⟨rfl,z1,rfl⟩;simp only[zaD])
 refine bodyPost_ret (v:=zaD (Rat.divInt (a*c) (b*d))) ?_ rfl ?_
 ·refine zaT rfl _ _ _ _ _ rfl ?_ ?_
  ·simp[go_sem]
  ·simp[go_sem]
 ·exact Ret.of rfl Bw
theorem zgB(p q:Rat)(w:World)(ck:zaL p)(dR:zaL q):Calls Tryz.prog 122 #[zaD p,zaD q] w (Ret w (zaD (p*q))):=by
 rw[zgX];exact rMulI _ _ _ _ _ ck.1 (by have:=ck.2;omega) dR.1 (by have:=dR.2;omega) (zbS p) (zbS q) trivial
def zhB(l:Parts)(n:ByteArray)(k:Nat):Int:=match(l.drop k).findIdx? fun p=>zaf p.1 n with
 |none=> -1
 |some i=>((k+i:Nat):Int)
theorem zo4{l:Parts}{n:ByteArray}{k:Nat}(h:k<l.length):zhB l n k=if zaf l[k].1 n then(k:Int)else zhB l n (k+1):=by
 unfold zhB;rw[List.drop_eq_getElem_cons h,List.findIdx?_cons];cases hs:zaf l[k].1 n
 ·rw[if_neg Mcv,if_neg Mcv];cases(l.drop (k+1)).findIdx? fun p=>zaf p.1 n with
  |none=>rfl
  |some i=>
   simp only[Option.map_some];omega
 ·rw[if_pos rfl,if_pos rfl];simp
theorem partI_end{l:Parts}{n:ByteArray}{k:Nat}(h:¬k<l.length):zhB l n k= -1:=by
 unfold zhB;rw[List.drop_of_length_le Mcq];rfl
theorem zmH(l:Parts)(n:ByteArray):(zhB l n 0= -1/\zag l n=0)\/∃(i:Nat) (h:i<l.length),zhB l n 0=(i:Int)/\zag l n=l[i].2:=by
 unfold zhB zag;rw[List.drop_zero];cases hx:l.findIdx? fun p=>zaf p.1 n with
 |none=>
  refine .inl ⟨rfl,?_⟩;rw[List.findIdx?_eq_none_iff]at hx;have:l.find? (fun p=>zaf p.1 n)=none:=by
   rw[List.find?_eq_none];intro p hp;rw[hx p hp];simp
  rw[this];rfl
 |some i=>
  rw[List.findIdx?_eq_some_iff_getElem]at hx;obtain⟨hi,h1,h2⟩:=hx;refine .inr ⟨i,hi,by simp,?_⟩;have:l.find? (fun p=>zaf p.1 n)=some l[i]:=by
   rw[List.find?_eq_some_iff_getElem];exact⟨h1,i,hi,rfl,fun j hj=>by simpa using h2 j hj⟩
  rw[this];rfl
theorem rPart_any(l:Parts)(n:ByteArray)(A:Option Addr)(c:Nat)(w:World)(hl:l.length<=1000000000)(hS:Sl w 3 zaa A l):Calls Tryz.prog 156 #[.slice A l.length c,.string n] w (Ret0 w (.int .i64 (zhB l n 0))):=by
 have HS:=zHi hS;obtain⟨R,hR⟩:=Qd (zhB l n 0)
 rw[<-hR];have HR:=zHi hR;clear hS hR;go_enter Tryz.func156,Tryz.ntmps156
 go_upto_region 2 with fail
 go_loopw [5] (fun i wr=>∃k:Nat,k<=l.length/\i=.int .i64 k/\w=wr/\Hid (R=zhB l n k)) (fun i _=>l.length-(intOf i).toNat)
 case atStart=>exact⟨0,Nat.zero_le _,rfl,rfl,HR.o⟩
 case round=>
  obtain⟨k,hk,rfl,rfl,HX⟩:=hrel;by_cases aa:k<l.length
  ·obtain⟨b,off,rfl,hb,ah⟩:=HS.o.at aa;have hx:=HX.o;rw[zo4 aa]at hx;obtain⟨ax,ak⟩:=yH2 hx aa;generalize l[k]=x at*;obtain⟨nm,q⟩:=x;have i0:w.cell? ⟨b,off+k*3,none⟩=some (.string nm):=ah 0 _ rfl;have ar:(k:Int)<(l.length:Int):=Mcq;have aR:(0:Int)<=(k:Int):=Mcq;clear ah hx aa;cases hs:zaf nm n
   ·have HE:Hid (R=zhB l n (k+1)):=by show _=_;rw[ax.o,hs];rfl
    have bk:(nm.toList==n.toList)=false:=hs;go_wp2_with fail
    exact MJ
   ·have HE:Hid (R=(k:Int)):=by show _=_;rw[ax.o,hs];rfl
    have bk:(nm.toList==n.toList)=true:=hs;exact M6
  ·have ar:¬(k:Int)<(l.length:Int):=Mcq;have HE:Hid (R= -1):=by show _=_;rw[HX.o,partI_end aa]
   exact M6
theorem zfm(l:Parts)(n:ByteArray)(A:Option Addr)(c:Nat)(w:World)(hl:l.length<=1000000000)(hS:Sl w 3 zaa A l):Calls Tryz.prog 120 #[.slice A l.length c,.string n] w (Ret w (zaD (zag l n))):=by
 have HP:=zHi (fun W (h:Qa w W)=>rPart_any l n A c W hl (hS.keep h));rcases zmH l n with⟨h1,h2⟩|⟨i,hi,h1,h2⟩
 ·rw[h1]at HP;rw[h2];clear hS;go_enter Tryz.func120,Tryz.ntmps120
  go_wp2_with (first
   |(go_at_call 156;go_must(refine(HP.o _ Bw).mono ?_);rintro e wq ⟨rfl,rfl⟩)
   |(go_at_call 115;go_must(refine(zin _).mono ?_);rintro e wq ⟨rfl,z,rfl⟩))
  refine bodyPost_ret (v:=zaD 0) ?_ rfl ?_
  ·exact Mce
  ·exact Ret.of rfl Bw
 ·rw[h1]at HP;rw[h2];obtain⟨b,off,rfl,hb,ah⟩:=hS.at hi;generalize l[i]=x at*;obtain⟨nm,q⟩:=x;have i1:w.cell? ⟨b,off+i*3+1,none⟩=some (.int .i64 q.num):=ah 1 _ rfl;have i2:w.cell? ⟨b,off+i*3+2,none⟩=some (.int .i64 q.den):=ah 2 _ rfl;have ar:(i:Int)<(l.length:Int):=Mcq;have aR:(0:Int)<=(i:Int):=Mcq;clear hS ah h1 h2;go_enter Tryz.func120,Tryz.ntmps120
  go_wp2_with (go_at_call 156;go_must(refine(HP.o _ Bw).mono ?_);rintro e wq ⟨rfl,rfl⟩)
  refine bodyPost_ret (v:=zaD q) ?_ rfl ?_
  ·exact Mce
  ·exact Ret.of rfl Bw
def zgC(w:World)(xs:Parts)(e:Ending)(w':World):Prop:= ∃v,e=.returned v/\OwnS w' w.heap.size 59 3 zaa v xs/\Qa w w'
theorem zde{w:World}{b:Nat}{t:TypeId}{fr:Nat×Nat}{x:ByteArray×Rat}(h:w.heap[b]?=some (.cells #[.string x.1,.int .i64 x.2.num,.int .i64 x.2.den] t fr)):Sl w 3 zaa (some ⟨b,0,none⟩) [x]:=fun _=>
 ⟨b,0,rfl,zab h,fun k y hk j u hu=>by
   match k,hk with
   |0,hk=>
    obtain rfl:x=y:=by simpa using hk
    simp only[World.cell?,h];match j,hu with
    |0,hu|1,hu|2,hu=>exact hu⟩
theorem zo5{l:Parts}{k:Nat}(h:k<l.length):zaG (l.drop k)=(bigQ l[k].2||zaG (l.drop (k+1))):=by
 rw[List.drop_eq_getElem_cons h];rfl
theorem zdN(l:Parts)(A:Option Addr)(c:Nat)(w:World)(hl:l.length<=1000000000)(hS:Sl w 3 zaa A l):Calls Tryz.prog 124 #[.slice A l.length c] w (Ret0 w (.bool (zaG l))):=by
 have HS:=zHi hS;obtain⟨R,hR⟩:=Qd (zaG l)
 rw[<-hR];have HR:=zHi hR;clear hS hR;go_enter Tryz.func124,Tryz.ntmps124
 go_upto_region 2 with fail
 go_loopw [3] (fun i wr=>∃k:Nat,k<=l.length/\i=.int .i64 k/\w=wr/\Hid (R=zaG (l.drop k))) (fun i _=>l.length-(intOf i).toNat)
 case atStart=>exact⟨0,Nat.zero_le _,rfl,rfl,HR.o⟩
 case round=>
  obtain⟨k,hk,rfl,rfl,HX⟩:=hrel;by_cases aa:k<l.length
  ·obtain⟨b,off,rfl,hb,ah⟩:=HS.o.at aa;have hx:=HX.o;rw[zo5 aa]at hx;obtain⟨ax,ak⟩:=yH2 hx aa;generalize l[k]=x at*;obtain⟨nm,q⟩:=x;have i2:w.cell? ⟨b,off+k*3+2,none⟩=some (.int .i64 q.den):=ah 2 _ rfl;have ar:(k:Int)<(l.length:Int):=Mcq;have aR:(0:Int)<=(k:Int):=Mcq;clear ah hx aa;by_cases hs:1000000000<(q.den:Int)
   ·have HE:Hid (R=true):=by show _=_;rw[ax.o];simp[bigQ,hs]
    exact M6
   ·have HE:Hid (R=zaG (l.drop (k+1))):=by show _=_;rw[ax.o];simp[bigQ,hs]
    go_wp2_with fail
    exact MJ
  ·have ar:¬(k:Int)<(l.length:Int):=Mcq;have HE:Hid (R=false):=by show _=_;rw[HX.o,List.drop_of_length_le Mcq];rfl
   exact M6
theorem zh3{l:Parts}{n:ByteArray}{k:Nat}(h:k<l.length):zar (l.take (k+1)) n=zar (l.take k) n++(if zaf l[k].1 n then[]else[l[k]]):=by
 unfold zar;rw[List.take_add_one,List.getElem?_eq_getElem h,List.filter_append];simp only[Option.toList_some,List.filter_cons,List.filter_nil];cases zaf l[k].1 n<;>rfl
theorem zh4(l:Parts)(n:ByteArray)(A:Option Addr)(c:Nat)(w:World)(hl:l.length<=100000)(hS:Sl w 3 zaa A l):Calls Tryz.prog 121 #[.slice A l.length c,.string n] w (zgC w (zar l n)):=by
 have HS:=zHi hS;unfold zgC;clear hS;go_enter Tryz.func121,Tryz.ntmps121
 go_upto_region 3 with fail
 go_loopw [5,6] (fun v i wr=>∃k:Nat,k<=l.length/\i=.int .i64 k/\OwnS wr w.heap.size 59 3 zaa v (zar (l.take k) n)/\Qa w wr) (fun _ i _=>l.length-(intOf i).toNat)
 case atStart=>exact⟨0,Nat.zero_le _,rfl,OwnS.nil,Qb⟩
 case round=>
  obtain⟨k,hk,rfl,ac,hB⟩:=hrel;have aW:=hB.size;obtain⟨HO,HB⟩:=yH2 ac hB;by_cases aa:k<l.length
  ·have ai:=zh3 (n:=n) aa;have bX:(zar (l.take k) n).length<=100000:=by
    exact MaV
   generalize zar (l.take k) n=xs at*;obtain⟨VA,vc,rfl,_,kf⟩:=ac.sl zai;obtain⟨b,off,rfl,hb,ah⟩:=(HS.o.keep hB).at aa;have ak:=zHi aa;generalize l[k]=x at*;obtain⟨nm,q⟩:=x;have i0:wr.cell? ⟨b,off+k*3,none⟩=some (.string nm):=ah 0 _ rfl;have i1:wr.cell? ⟨b,off+k*3+1,none⟩=some (.int .i64 q.num):=ah 1 _ rfl;have i2:wr.cell? ⟨b,off+k*3+2,none⟩=some (.int .i64 q.den):=ah 2 _ rfl;have ar:(k:Int)<(l.length:Int):=Mcq;have aR:(0:Int)<=(k:Int):=Mcq;have iS:=zHi bX;clear ah aa ac hB bX;cases hs:zaf nm n
   ·have aA:Hid (zar (l.take (k+1)) n=xs++[(nm,q)]):=Md3;have bk:(nm.toList==n.toList)=false:=hs;clear ai hs
    go_wp2_with (at_builtin
                 go_loud(refine zas (v:=.slice VA xs.length vc) (n:=xs.length) (m:=1) rfl _ _ rfl zdW zai zcb rfl (xs:=xs) (ys:=[(nm,q)]) (HO.o.keep (n:=wr.heap.size) Bw) rfl rfl rfl (zde (zat _ _ _ rfl)) McX Mc4 Mcw ?_)
                 intro v3 w3 h1 h2 h3;have av:=Below.grown (B:=w.heap.size) (a:=w) (HB.o.trans (Below.mono (B:=wr.heap.size) (zad Qb _) aW)) h2 Mcw (fun j hj=>(HO.o.ge j hj).1);obtain⟨H1,aJ⟩:=yH2 h1 av
                 clear h1 h2 h3 av)
    exact Maf
   ·have aA:Hid (zar (l.take (k+1)) n=xs):=Md3;have bk:(nm.toList==n.toList)=true:=hs;exact MaN
  ·exact MaS
