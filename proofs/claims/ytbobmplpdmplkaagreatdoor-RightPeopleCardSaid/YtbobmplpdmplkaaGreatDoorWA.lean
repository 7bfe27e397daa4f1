import Derived.Test.YtbobmplpdmplkaaGreatDoorE2
set_option linter.all false
set_option maxRecDepth 100000
set_option maxHeartbeats 4000000
namespace Go.Proofs.YtbobmplpdmplkaaGreatDoor
open Go.RowKit Go.Shelf
attribute [local go_sem] World.cell?_alloc_mark zaf za4 zam za7 zaw zax zay zaz za0 za1 za2
attribute [local go_sem] zan zac
def zfh(d:Deed):Bool:=!(decide (20<d.place.size)||decide (20<d.frm.size)||decide (10<d.to.length))&&d.to.all fun p=>!decide (20<p.name.size)
def fewP(ls:List Law)(ds:List Deed):Bool:=!(decide (12<ls.length)||decide (14<ds.length))&&ds.all zfh
theorem zoN{d:Deed}(h:zfh d=true):zdt d:=by
 unfold zfh at h;simp at h;obtain⟨⟨⟨h1,h2⟩,h3⟩,h4⟩:=h;exact⟨by omega,by omega,fun p hp=>by have:=h4 p hp;omega,by omega⟩
theorem few_lens{ls:List Law}{ds:List Deed}(h:fewP ls ds=true):(∀d∈ds,zdt d)/\ls.length<=12/\ds.length<=14/\(∀d∈ds,d.to.length<=10):=by
 unfold fewP at h;simp at h;obtain⟨⟨h1,h2⟩,h3⟩:=h;refine⟨fun d hd=>zoN (h3 d hd),h1,h2,fun d hd=>?_⟩;have:=h3 d hd;unfold zfh at this;simp at this;exact this.1.2
theorem brief_any(d:Deed)(B:Option Addr)(c:Nat)(w:World)(hc:d.to.length<=c)(hS:Sl w 3 RPart.cells B d.to):
 Calls Tryz.prog 29 #[d.v B c] w (Ret w (.bool (zfh d))):=by
 obtain⟨kd,dy,pl,fr,ts,cl,yr⟩:=d;have HS:=zHi hS;obtain⟨R,hR⟩:∃R,R=zfh ⟨kd,dy,pl,fr,ts,cl,yr⟩:=⟨_,rfl⟩
 rw[<-hR];unfold zfh at hR;unfold Deed.v;simp only at hR hc hS⊢;clear hS;go_enter Tryz.func29,Tryz.ntmps29
 by_cases l1:20<pl.size
 ·have HE:Hid (R=false):=by show _=_;rw[hR,decide_eq_true l1];rfl
  have q1:(20:Int)<(pl.size:Int):=Mcy;exact Mag
 have q1:¬(20:Int)<(pl.size:Int):=Mcy;by_cases l2:20<fr.size
 ·have HE:Hid (R=false):=by show _=_;rw[hR,decide_eq_true l2];simp
  have q2:(20:Int)<(fr.size:Int):=Mcy;exact Mag
 have q2:¬(20:Int)<(fr.size:Int):=Mcy;by_cases l3:10<ts.length
 ·have HE:Hid (R=false):=by show _=_;rw[hR,decide_eq_true l3];simp
  have q3:(10:Int)<(ts.length:Int):=Mcy;exact Mag
 have q3:¬(10:Int)<(ts.length:Int):=Mcy;have uY:Hid (R=(ts.drop 0).all fun p=>!decide (20<p.name.size)):=by
  show _=_;rw[hR,decide_eq_false l1,decide_eq_false l2,decide_eq_false l3,List.drop_zero];rfl
 clear hR;go_upto_region 3 with fail
 have k4:(w.alloc (.cells #[.int .i64 kd,.int .i64 dy,.string pl,.string fr,.slice B ts.length c,.int .i64 cl,.int .i64 yr] 76)).cell? ⟨w.heap.size,4,none⟩=some (.slice B ts.length c):=Mc3;have hB:Below w.heap.size w (w.alloc (.cells #[.int .i64 kd,.int .i64 dy,.string pl,.string fr,.slice B ts.length c,.int .i64 cl,.int .i64 yr] 76)):=Bw;generalize w.alloc (.cells #[.int .i64 kd,.int .i64 dy,.string pl,.string fr,.slice B ts.length c,.int .i64 cl,.int .i64 yr] 76)=W at*;obtain⟨yX,HB⟩:=yH2 (HS.o.keep hB) hB;clear hB HS;go_upto_region 4 with fail
 go_loopw [3] (fun i wr=>∃k:Nat,k<=ts.length/\i=.int .i64 k/\W=wr/\Hid (R=(ts.drop k).all fun p=>!decide (20<p.name.size))) (fun i _=>ts.length-(intOf i).toNat)
 case atStart=>exact⟨0,Nat.zero_le _,rfl,rfl,uY.o⟩
 case round=>
  obtain⟨k,hk,rfl,rfl,HX⟩:=hrel;by_cases ae:k<ts.length
  ·obtain⟨b,off,rfl,hb,ah⟩:=yX.o.at ae;have hx:=HX.o;rw[List.drop_eq_getElem_cons ae,List.all_cons]at hx;obtain⟨au,ak⟩:=yH2 hx ae;generalize ts[k]=x at*;obtain⟨nm,nu,de⟩:=x;have i0:W.cell? ⟨b,off+k*3,none⟩=some (.string nm):=ah 0 _ rfl;have ar:(k:Int)<(ts.length:Int):=Mcy;have aQ:(0:Int)<=(k:Int):=Mcy;clear ah hx ae;by_cases l5:20<nm.size
   ·have HE:Hid (R=false):=by show _=_;rw[au.o];simp[l5]
    have q5:(20:Int)<(nm.size:Int):=Mcy;exact MR
   ·have q5:¬(20:Int)<(nm.size:Int):=Mcy;have HE:Hid (R=(ts.drop (k+1)).all fun p=>!decide (20<p.name.size)):=by show _=_;rw[au.o];simp[l5]
    go_wp2_with fail
    exact MH
  ·have ar:¬(k:Int)<(ts.length:Int):=Mcy;have HE:Hid (R=true):=by show _=_;rw[HX.o,List.drop_of_length_le Mcy];rfl
   exact MR
theorem few_any(ls:List Law)(ds:List Deed)(LA:Option Addr)(n nc:Nat)(DA:Option Addr)(m mc:Nat)(w:World)(hR:RightsIn w ls ds LA n nc DA m mc):
 Calls Tryz.prog 6 #[.agg #[.slice LA n nc,.slice DA m mc]] w (Ret w (.bool (fewP ls ds))):=by
 obtain⟨rfl,rfl,xF,sB,_,hD⟩:=hR;have HD:=zHi hD;obtain⟨R,hR⟩:∃R,R=fewP ls ds:=⟨_,rfl⟩
 rw[<-hR];unfold fewP at hR;clear hD;go_enter Tryz.func6,Tryz.ntmps6
 by_cases l1:12<ls.length
 ·have HE:Hid (R=false):=by show _=_;rw[hR,decide_eq_true l1];rfl
  have q1:(12:Int)<(ls.length:Int):=Mcy;exact Mag
 have q1:¬(12:Int)<(ls.length:Int):=Mcy;by_cases l2:14<ds.length
 ·have HE:Hid (R=false):=by show _=_;rw[hR,decide_eq_true l2];simp
  have q2:(14:Int)<(ds.length:Int):=Mcy;exact Mag
 have q2:¬(14:Int)<(ds.length:Int):=Mcy;have uY:Hid (R=(ds.drop 0).all zfh):=by
  show _=_;rw[hR,decide_eq_false l1,decide_eq_false l2,List.drop_zero];rfl
 clear hR;go_upto_region 3 with fail
 have k4:(w.alloc (.cells #[.slice LA ls.length nc,.slice DA ds.length mc] 25)).cell? ⟨w.heap.size,1,none⟩=some (.slice DA ds.length mc):=Mc3;have hB:Below w.heap.size w (w.alloc (.cells #[.slice LA ls.length nc,.slice DA ds.length mc] 25)):=Bw;have hsz:w.heap.size<(w.alloc (.cells #[.slice LA ls.length nc,.slice DA ds.length mc] 25)).heap.size:=McB;generalize w.alloc (.cells #[.slice LA ls.length nc,.slice DA ds.length mc] 25)=W at*;obtain⟨jB,HB⟩:=yH2 (HD.o.keep zcc hB) hB;clear hB HD;go_upto_region 4 with fail
 go_loopw [3] (fun i wr=>∃k:Nat,k<=ds.length/\i=.int .i64 k/\Hid (R=(ds.drop k).all zfh)/\Below W.heap.size W wr) (fun i _=>ds.length-(intOf i).toNat)
 case atStart=>exact⟨0,Nat.zero_le _,rfl,uY.o,Below.refl _ _⟩
 case round=>
  obtain⟨k,hk,rfl,HX,nz⟩:=hrel;have j4:wr.cell? ⟨w.heap.size,1,none⟩=some (.slice DA ds.length mc):=(zah nz hsz).trans k4;have zM:=nz.size;by_cases ae:k<ds.length
  ·obtain⟨b,off,cs,hA,hb,hr,ah⟩:=(jB.o.keep zcc nz).at ae;have hx:=HX.o;rw[List.drop_eq_getElem_cons ae,List.all_cons]at hx;obtain⟨au,ak⟩:=yH2 hx ae;generalize ds[k]=x at*;obtain⟨B,c,hc,rfl,hS⟩:=hr;have yG:=zHi (fun W' (h:Below wr.heap.size wr W')=>brief_any x B c W' hc (hS.keep h));unfold Deed.v at yG;subst hA;have i0:=ah 0 _ rfl;have i1:=ah 1 _ rfl;have i2:=ah 2 _ rfl;have i3:=ah 3 _ rfl;have i4:=ah 4 _ rfl;have i5:=ah 5 _ rfl;have i6:=ah 6 _ rfl;simp only[Nat.add_zero]at i0;have ar:(k:Int)<(ds.length:Int):=Mcy;have aQ:(0:Int)<=(k:Int):=Mcy;have b8:=zHi nz;generalize zfh x=q at*;clear ah hx ae hS nz;cases q
   ·have HE:Hid (R=false):=MdP;go_wp2_with (go_at_call 29;go_must(refine(yG.o _ Bw).mono ?_);rintro e wq ⟨rfl,z,rfl⟩)
    go_ret
    exact Ret.of (zaO HE.o.symm) (HB.o.trans ((b8.o.trans (Below.mono (B:=wr.heap.size) Bw zM)).mono HB.o.size))
   ·have HE:Hid (R=(ds.drop (k+1)).all zfh):=MdP;go_wp2_with (go_at_call 29;go_must(refine(yG.o _ Bw).mono ?_);rintro e wq ⟨rfl,z,rfl⟩)
    go_round
    case rel=>exact⟨k+1,ak.o,by go_num,HE.o,b8.o.trans (Below.mono (B:=wr.heap.size) Bw zM)⟩
    case measure=>have:=ak.o;simp only[intOf];omega
  ·have ar:¬(k:Int)<(ds.length:Int):=Mcy;have HE:Hid (R=true):=by show _=_;rw[HX.o,List.drop_of_length_le Mcy];rfl
   have b8:=zHi nz;clear nz;go_wp2_with fail
   go_ret
   exact Ret.of (zaO HE.o.symm) (HB.o.trans (b8.o.mono HB.o.size))
theorem zlJ(a b:ByteArray):zae a b=zae b a:=by rw[Bool.eq_iff_iff,zau,zau];exact⟨Eq.symm,Eq.symm⟩
theorem zdy(xs:List ByteArray)(s:ByteArray)(A:Option Addr)(c:Nat)(w:World)(hl:xs.length<=100000)(hc:xs.length<=c)(hS:Sl w 1 sC A xs):
 Calls Tryz.prog 45 #[.slice A xs.length c,.string s] w (Ret0 w (.bool (xs.any (zae s)))):=by
 have HS:=zHi hS;obtain⟨R,hR⟩:∃R,R=(xs.drop 0).any (zae s):=⟨_,rfl⟩
 rw[show xs.any (zae s)=R from by rw[hR];rfl];have HR:=zHi hR;clear hS hR;go_enter Tryz.func45,Tryz.ntmps45
 go_wp2_with fail
 go_loopw [5] (fun i wr=>∃j:Nat,j<=xs.length/\i=.int .i64 j/\w=wr/\Hid (R=(xs.drop j).any (zae s))) (fun i _=>xs.length-(intOf i).toNat)
 case atStart=>exact⟨0,Nat.zero_le _,rfl,rfl,HR.o⟩
 case round=>
  obtain⟨j,hj,rfl,rfl,HX⟩:=hrel;by_cases ae:j<xs.length
  ·obtain⟨b,off,rfl,hb,ah⟩:=HS.o.at ae;have hx:=HX.o;rw[List.drop_eq_getElem_cons ae,List.any_cons]at hx;obtain⟨au,ak⟩:=yH2 hx ae;generalize xs[j]=x at*;have x0:w.cell? ⟨b,off+j,none⟩=some (.string x):=McZ;have br:(j:Int)<(xs.length:Int):=Mcy;have sk:(0:Int)<=(j:Int):=Mcy;clear hx ah ae;cases he:(x.toList==s.toList)
   ·have rX:zae s x=false:=by rw[zlJ];exact he
    have uC:=zHi rX;clear rX;go_wp2_with fail
    go_round
    case rel=>exact⟨j+1,ak.o,by go_num,by first|exact True.intro|rfl,by show _=_;rw[au.o,uC.o,Bool.false_or]⟩
    case measure=>have:=ak.o;simp only[intOf];omega
   ·have rX:zae s x=true:=by rw[zlJ];exact he
    have uC:=zHi rX;clear rX;go_wp2_with fail
    go_ret
    exact⟨by rw[au.o,uC.o,Bool.true_or];rfl,rfl⟩
  ·have sE:¬((j:Int)<(xs.length:Int)):=Mcy;have hx:=HX.o;rw[List.drop_of_length_le Mcy,List.any_nil]at hx;have au:=zHi hx;clear hx;go_wp2_with fail
   go_ret
   exact⟨by rw[au.o];rfl,rfl⟩
theorem zeD(dd:List ByteArray)(n:ByteArray)(LA CA MA DA WA RA GA:Option Addr)(n0 c0 n1 c1 n2 c2 n3 c3 n4 c4 n5 c5 n6 c6:Nat)(w:World)(hl:dd.length<=100000)(hc:dd.length<=c3)(hS:Sl w 1 sC DA dd):
 Calls Tryz.prog 19 #[.agg #[.slice LA n0 c0,.slice CA n1 c1,.slice MA n2 c2,.slice DA dd.length c3,.slice WA n4 c4,.slice RA n5 c5,.slice GA n6 c6],.string n] w (Ret w (.bool (dd.any (zae n)))):=by
 have qx:=zHi (fun W (h:Below w.heap.size w W)=>zdy dd n DA c3 W hl hc (hS.keep h));generalize dd.any (zae n)=R at*;clear hS;go_enter Tryz.func19,Tryz.ntmps19
 go_wp2_with (go_at_call 45;go_must(refine(qx.o _ Bw).mono ?_);rintro e wq ⟨rfl,rfl⟩)
 go_ret
 exact Ret.of rfl Bw
def zdi(cs:List (ByteArray×ByteArray))(n:ByteArray):List ByteArray:=(cs.filter fun c=>zae c.1 n).map (·.2)
theorem kids_snoc{cs:List (ByteArray×ByteArray)}{n:ByteArray}{k:Nat}(h:k<cs.length):zdi (cs.take (k+1)) n=zdi (cs.take k) n++(if zae cs[k].1 n then[cs[k].2]else[]):=by
 unfold zdi;rw[List.take_add_one,List.getElem?_eq_getElem h,List.filter_append,List.map_append];simp only[Option.toList_some,List.filter_cons,List.filter_nil];cases zae cs[k].1 n<;>rfl
def zdz(w:World)(xs:List ByteArray)(e:Ending)(w':World):Prop:= ∃v,e=.returned v/\OwnS w' w.heap.size 9 1 sC v xs/\Below w.heap.size w w'
theorem zfQ{w:World}{b:Nat}{t:TypeId}{fr:Nat×Nat}{x:ByteArray}(h:w.heap[b]?=some (.cells #[.string x] t fr)):Sl w 1 sC (some ⟨b,0,none⟩) [x]:=fun _=>
 ⟨b,0,rfl,zab h,fun k y hk j u hu=>by
   match k,hk with
   |0,hk=>
    obtain rfl:x=y:=by simpa using hk
    simp only[World.cell?,h];match j,hu with
    |0,hu=>exact hu⟩
theorem zg6(cs:List (ByteArray×ByteArray))(n:ByteArray)(LA CA MA DA WA RA GA:Option Addr)(n0 c0 n1 c1 n2 c2 n3 c3 n4 c4 n5 c5 n6 c6:Nat)(w:World)(hl:cs.length<=100000)(hS:Sl w 2 zaT CA cs):
 Calls Tryz.prog 46 #[.agg #[.slice LA n0 c0,.slice CA cs.length c1,.slice MA n2 c2,.slice DA n3 c3,.slice WA n4 c4,.slice RA n5 c5,.slice GA n6 c6],.string n] w (zdz w (zdi cs n)):=by
 have fY:=zHi hS;unfold zdz;clear hS;go_enter Tryz.func46,Tryz.ntmps46
 go_upto_region 1 with fail
 obtain⟨W0,am⟩:∃W0,W0=w.alloc (.cells #[.slice LA n0 c0,.slice CA cs.length c1,.slice MA n2 c2,.slice DA n3 c3,.slice WA n4 c4,.slice RA n5 c5,.slice GA n6 c6] 44):=⟨_,rfl⟩
 have b0:W0.heap[w.heap.size]?=some (.cells #[.slice LA n0 c0,.slice CA cs.length c1,.slice MA n2 c2,.slice DA n3 c3,.slice WA n4 c4,.slice RA n5 c5,.slice GA n6 c6] 44):=Mdp;have aK:Below w.heap.size w W0:=Mdb;rw[<-am];obtain⟨aj,HS⟩:=yH2 aK (fY.o.keep aK);obtain⟨-,k1⟩:=cF2 b0;have l0:=zab b0;clear am b0 aK fY;go_upto_region 3 with fail
 go_loopw [5,6] (fun v i wr=>∃k:Nat,k<=cs.length/\i=.int .i64 k/\OwnS wr W0.heap.size 9 1 sC v (zdi (cs.take k) n)/\Below W0.heap.size W0 wr) (fun _ i _=>cs.length-(intOf i).toNat)
 case atStart=>exact⟨0,Nat.zero_le _,rfl,OwnS.nil,Below.refl _ _⟩
 case round=>
  obtain⟨k,hk,rfl,aa,hB⟩:=hrel;have aG:=hB.size;obtain⟨HO,HB⟩:=yH2 aa hB;have d1:wr.cell? ⟨w.heap.size,1,none⟩=some (.slice CA cs.length c1):=(zah hB l0).trans k1;by_cases ae:k<cs.length
  ·have aq:=kids_snoc (n:=n) ae;have bM:(zdi (cs.take k) n).length<=100000:=by
    unfold zdi;rw[List.length_map];exact MaQ
   generalize zdi (cs.take k) n=xs at*;obtain⟨VA,vc,rfl,_,kB⟩:=aa.sl za9;obtain⟨b,off,rfl,hb,ah⟩:=(HS.o.keep hB).at ae;have ak:=zHi ae;generalize cs[k]=x at*;obtain⟨nm,kd⟩:=x;have i0:wr.cell? ⟨b,off+k*2,none⟩=some (.string nm):=ah 0 _ rfl;have i1:wr.cell? ⟨b,off+k*2+1,none⟩=some (.string kd):=ah 1 _ rfl;have ar:(k:Int)<(cs.length:Int):=Mcy;have aQ:(0:Int)<=(k:Int):=Mcy;have fN:=zHi bM;clear ah ae aa hB bM;cases hs:zae nm n
   ·have aB:Hid (zdi (cs.take (k+1)) n=xs):=Md6;have bn:(nm.toList==n.toList)=false:=hs;exact MaE
   ·have aB:Hid (zdi (cs.take (k+1)) n=xs++[kd]):=Md6;have bn:(nm.toList==n.toList)=true:=hs;clear aq hs
    go_wp2_with (at_builtin
                 go_loud(refine zat (v:=.slice VA xs.length vc) (n:=xs.length) (m:=1) rfl _ _ rfl zbB za9 zbA rfl (xs:=xs) (ys:=[kd]) (HO.o.keep (n:=wr.heap.size) Bw) rfl rfl rfl (zfQ (zar _ _ _ rfl)) Mc7 Mdh McD ?_)
                 intro v3 w3 h1 h2 h3;have ax:=Below.grown (B:=W0.heap.size) (a:=W0) (HB.o.trans (Below.mono (B:=wr.heap.size) (zad (Below.refl _ _) _) aG)) h2 McD (fun j hj=>(HO.o.ge j hj).1);obtain⟨H1,aD⟩:=yH2 h1 ax
                 clear h1 h2 h3 ax)
    exact Mac
  ·have ar:¬(k:Int)<(cs.length:Int):=Mcy;rw[List.take_of_length_le Mcy]at HO;clear aa hB;go_wp2_with fail
   go_ret
   exact⟨_,rfl,HO.o.base_le aj.o.size,aj.o.trans (HB.o.mono aj.o.size)⟩
