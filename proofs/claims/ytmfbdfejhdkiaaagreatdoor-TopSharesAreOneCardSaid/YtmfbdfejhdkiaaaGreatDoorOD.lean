/- Walk of the reference's Spouse. -/
import Derived.Test.YtmfbdfejhdkiaaaGreatDoorWP
set_option linter.all false
set_option maxRecDepth 100000
set_option maxHeartbeats 4000000
namespace Go.Proofs.YtmfbdfejhdkiaaaGreatDoor
open Go.RowKit
attribute [local go_sem] World.cell?_alloc_mark zae za4 zao za8 zav zaw zax zay zaz za0 za1
attribute [local go_sem] zap zac
def nAnn:ByteArray:=⟨#[97,110,110]⟩
def nBob:ByteArray:=⟨#[98,111,98]⟩
def nCat:ByteArray:=⟨#[99,97,116]⟩
def nDan:ByteArray:=⟨#[100,97,110]⟩
def nA1:ByteArray:=⟨#[97,49]⟩
def n0:ByteArray:=⟨#[]⟩
def zcB:List Law:=[⟨0,false,1,4⟩,⟨50000,true,1,2⟩]
def famD(k:Nat):Deed:=match k with
 |0=>⟨6,0,n0,nAnn,[⟨nBob,0,0⟩],0,0⟩
 |1=>⟨6,0,n0,nAnn,[⟨nCat,0,0⟩],0,0⟩
 |2=>⟨7,0,n0,nAnn,[⟨nDan,0,0⟩],0,0⟩
 |3=>⟨0,100,nA1,n0,[⟨nAnn,1,1⟩],1,0⟩
 |_=>⟨8,200,n0,nAnn,[],0,0⟩
def zcc:List Deed:=[famD 0,famD 1,famD 2,famD 3,famD 4]
def fam1:St:=⟨[(nAnn,nBob)],[],[],[],[],[]⟩
def fam2:St:=⟨[(nAnn,nBob),(nAnn,nCat)],[],[],[],[],[]⟩
def fam3:St:=⟨[(nAnn,nBob),(nAnn,nCat)],[(nAnn,nDan)],[],[],[],[]⟩
def fam4:St:=⟨[(nAnn,nBob),(nAnn,nCat)],[(nAnn,nDan)],[],[],[],[⟨nA1,1,-1,[(nAnn,1)],[]⟩]⟩
def zkI:Parts:=[(nBob,Rat.divInt 3 8),(nCat,Rat.divInt 3 8),(nDan,Rat.divInt 1 4)]
def fam5:St:=⟨[(nAnn,nBob),(nAnn,nCat)],[(nAnn,nDan)],[nAnn],[],[],[⟨nA1,1,-1,zkI,[nAnn]⟩]⟩
theorem fam_laws:za9 zcB=0:=by kernel_rfl
open Classical in
theorem fam_0:zbt zcB zbb 0 0 (famD 0)=(fam1,0):=by
 have h1:zaC (famD 0)=0:=Mcs;have h2:¬Desc zbb (zbh (famD 0)) (famD 0).frm:=zie rfl;unfold zbt;rw[h1];show(if(0 != 0)=true then _ else if decide (60<=0)=true then _ else if decide ((0:Int)<0)=true then _ else zcD zbb (famD 0))=_;unfold zcD;rw[decide_eq_false h2];rfl
open Classical in
theorem fam_1:zbt zcB fam1 1 0 (famD 1)=(fam2,0):=by
 have h1:zaC (famD 1)=0:=Mcs;have h2:¬Desc fam1 (zbh (famD 1)) (famD 1).frm:=zie Mcs;unfold zbt;rw[h1];show(if(0 != 0)=true then _ else if decide (60<=1)=true then _ else if decide ((0:Int)<0)=true then _ else zcD fam1 (famD 1))=_;unfold zcD;rw[decide_eq_false h2];have e1:(zaj fam1 (famD 1).frm).any (zaf (zbh (famD 1)))=false:=Mcs;have e2:decide (2<=(zbM fam1 (zbh (famD 1))).length)=false:=Mcs;rw[e1,e2];rfl
theorem fam_2:zbt zcB fam2 2 0 (famD 2)=(fam3,0):=by kernel_rfl
theorem fam_3:zbt zcB fam3 3 0 (famD 3)=(fam4,0):=by kernel_rfl
theorem fam_4:zbt zcB fam4 4 100 (famD 4)=(fam5,0):=by kernel_rfl
theorem zjR(upto:Int)(h:200<=upto):zaB zcB zcc upto=(fam5,5,0):=by
 have q0:decide ((famD 0).day<=upto)=true:=MdD;have q1:decide ((famD 1).day<=upto)=true:=MdD;have q2:decide ((famD 2).day<=upto)=true:=MdD;have q3:decide ((famD 3).day<=upto)=true:=by show decide ((100:Int)<=upto)=true;simp;omega
 have q4:decide ((famD 4).day<=upto)=true:=by show decide ((200:Int)<=upto)=true;simp;omega
 have z:¬((0:Int) != 0)=true:=Mcu;unfold zaB zcc;rw[fam_laws,if_neg z];rw[zau,fam_0,if_neg z,q0,if_pos rfl];show zau zcB upto _ fam1 fam1 1 0=_;rw[zau,fam_1,if_neg z,q1,if_pos rfl];show zau zcB upto _ fam2 fam2 2 0=_;rw[zau,fam_2,if_neg z,q2,if_pos rfl];show zau zcB upto _ fam3 fam3 3 0=_;rw[zau,fam_3,if_neg z,q3,if_pos rfl];show zau zcB upto _ fam4 fam4 4 100=_;rw[zau,fam_4,if_neg z,q4,if_pos rfl];rfl
open Go.Shelf
def sixV(a b c d e f:Int):Value:=.agg #[.int .i64 a,.int .i64 b,.int .i64 c,.int .i64 d,.int .i64 e,.int .i64 f]
def zkJ(k:Int):Value:=if k=0 then sixV 1 0 2 1 1 1 else if k=1 then sixV 1 1 2 1 0 0 else if k=2 then sixV 1 1 0 0 0 0 else if k=3 then sixV 1 0 0 0 0 1 else if k=4 then sixV 0 1 2 1 0 0 else if k=8 then sixV 0 1 0 0 0 0 else sixV 0 1 1 0 0 0
theorem zmV{fn:Func}{p:Tmp}(h:fn.results= #[.cell p 121])(tmps:Array Value)(w:World)(B:Nat)(a b c d e f:Int)(hp:tmps.getD p undef=.pointer (some ⟨B,0,none⟩))
 (h0:w.cell? ⟨B,0,none⟩=some (.int .i64 a))(h1:w.cell? ⟨B,1,none⟩=some (.int .i64 b))(h2:w.cell? ⟨B,2,none⟩=some (.int .i64 c))(h3:w.cell? ⟨B,3,none⟩=some (.int .i64 d))(h4:w.cell? ⟨B,4,none⟩=some (.int .i64 e))(h5:w.cell? ⟨B,5,none⟩=some (.int .i64 f)):
 (results fn tmps).run Tryz.prog w=.ok (sixV a b c d e f) w:=by
 rw[zdL h,hp];unfold sixV;go_simp
theorem zmW(k:Int)(w:World):Calls Tryz.prog 68 #[.int .i64 k] w (Ret w (zkJ k)):=by
 unfold zkJ;go_enter Tryz.func68,Tryz.ntmps68
 by_cases h0:k=0
 ·rw[if_pos h0];subst h0;go_wp2_with fail
  refine bodyPost_ret (v:=sixV 1 0 2 1 1 1) ?_ rfl ?_
  ·exact MZ
  ·exact Ret.of rfl Bw
 rw[if_neg h0];have e0:(k==0)=false:=MdJ;by_cases h1:k=1
 ·rw[if_pos h1];subst h1;go_wp2_with fail
  refine bodyPost_ret (v:=sixV 1 1 2 1 0 0) ?_ rfl ?_
  ·exact MZ
  ·exact Ret.of rfl Bw
 rw[if_neg h1];have e1:(k==1)=false:=McZ;by_cases h2:k=2
 ·rw[if_pos h2];subst h2;go_wp2_with fail
  refine bodyPost_ret (v:=sixV 1 1 0 0 0 0) ?_ rfl ?_
  ·exact MZ
  ·exact Ret.of rfl Bw
 rw[if_neg h2];have e2:(k==2)=false:=Mei;by_cases h3:k=3
 ·rw[if_pos h3];subst h3;go_wp2_with fail
  refine bodyPost_ret (v:=sixV 1 0 0 0 0 1) ?_ rfl ?_
  ·exact MZ
  ·exact Ret.of rfl Bw
 rw[if_neg h3];have e3:(k==3)=false:=by simpa using h3
 by_cases h4:k=4
 ·rw[if_pos h4];subst h4;go_wp2_with fail
  refine bodyPost_ret (v:=sixV 0 1 2 1 0 0) ?_ rfl ?_
  ·exact MZ
  ·exact Ret.of rfl Bw
 rw[if_neg h4];have e4:(k==4)=false:=by simpa using h4
 by_cases h8:k=8
 ·rw[if_pos h8];subst h8;go_wp2_with fail
  refine bodyPost_ret (v:=sixV 0 1 0 0 0 0) ?_ rfl ?_
  ·exact MZ
  ·exact Ret.of rfl Bw
 rw[if_neg h8];have e8:(k==8)=false:=by simpa using h8
 go_wp2_with fail
 refine bodyPost_ret (v:=sixV 0 1 1 0 0 0) ?_ rfl ?_
 ·exact MZ
 ·exact Ret.of rfl Bw
def zlP(n o:ByteArray)(m:ByteArray×ByteArray):ByteArray:=if zaf m.1 n then m.2 else o
def spSt(n o:ByteArray)(m:ByteArray×ByteArray):ByteArray:=if zaf m.2 n then m.1 else zlP n o m
def spGo(n:ByteArray)(l:List (ByteArray×ByteArray))(o:ByteArray):ByteArray:=l.foldl (spSt n) o
theorem zlQ(n:ByteArray)(l:List (ByteArray×ByteArray))(m:ByteArray×ByteArray)(o:ByteArray):spGo n (l++[m]) o=spSt n (spGo n l o) m:=by
 unfold spGo;rw[List.foldl_append];rfl
theorem spGo_eq(n:ByteArray)(l:List (ByteArray×ByteArray)):spGo n l.reverse ⟨#[]⟩=zds n l:=by
 induction l with
 |nil=>rfl
 |cons m l ih=>
  rw[List.reverse_cons,zlQ,ih];obtain⟨a,b⟩:=m;rw[zds];unfold spSt zlP;simp only;cases h1:zaf a n
  ·cases h2:zaf b n<;>simp
  ·cases h2:zaf b n
   ·simp
   ·simp only[if_true];exact(za3.1 h1).trans (za3.1 h2).symm
def zgk(ms:List (ByteArray×ByteArray))(dd:List ByteArray)(n:ByteArray):ByteArray:=if dd.any (zaf (spGo n ms ⟨#[]⟩))then⟨#[]⟩else spGo n ms ⟨#[]⟩
theorem zoN(s:St)(n:ByteArray):zgk s.marriages s.dead n=zaM s n:=by
 have h:=spGo_eq n s.marriages.reverse;rw[List.reverse_reverse]at h;unfold zgk zaM zaP;rw[h]
theorem zmX(ms:List (ByteArray×ByteArray))(dd:List ByteArray)(n:ByteArray)(LA CA MA DA WA RA GA:Option Addr)(n0 c0 n1 c1 n2 c2 n3 c3 n4 c4 n5 c5 n6 c6:Nat)(w:World)(hl:ms.length<=100000)(hS:Sl w 2 zaX MA ms)(br:dd.length<=100000)(kA:dd.length<=c3)(hD:Sl w 1 sC DA dd):
 Calls Tryz.prog 130 #[.agg #[.slice LA n0 c0,.slice CA n1 c1,.slice MA ms.length c2,.slice DA dd.length c3,.slice WA n4 c4,.slice RA n5 c5,.slice GA n6 c6],.string n] w (Ret w (.string (zgk ms dd n))):=by
 obtain⟨fH,ie⟩:=yH2 hS (fun x W (h:Qa w W)=>zeE dd x LA CA MA DA WA RA GA n0 c0 n1 c1 ms.length c2 dd.length c3 n4 c4 n5 c5 n6 c6 W br kA (hD.keep h));clear hS hD;go_enter Tryz.func130,Tryz.ntmps130
 go_upto_region 1 with fail
 obtain⟨W0,am⟩:=Qd (w.alloc (.cells #[.slice LA n0 c0,.slice CA n1 c1,.slice MA ms.length c2,.slice DA dd.length c3,.slice WA n4 c4,.slice RA n5 c5,.slice GA n6 c6] 35))
 have b0:W0.heap[w.heap.size]?=some (.cells #[.slice LA n0 c0,.slice CA n1 c1,.slice MA ms.length c2,.slice DA dd.length c3,.slice WA n4 c4,.slice RA n5 c5,.slice GA n6 c6] 35):=Mdg;have aS:Qa w W0:=Mc1;rw[<-am];obtain⟨aj,HS⟩:=yH2 aS (fH.o.keep aS);obtain⟨k0,k1,k2,k3,k4,k5,k6⟩:=cF7 b0;clear am b0 aS fH;go_upto_region 3 with fail
 go_loopw [5,6,7] (fun v i _ wr=>∃(k:Nat) (o:ByteArray),k<=ms.length/\i=.int .i64 k/\v=.string o/\W0=wr/\Hid (o=spGo n (ms.take k) ⟨#[]⟩)) (fun _ i _ _=>ms.length-(intOf i).toNat)
 case atStart=>exact⟨0,⟨#[]⟩,Nat.zero_le _,rfl,rfl,rfl,zHi rfl⟩
 case round=>
  obtain⟨k,o,hk,rfl,rfl,rfl,HX⟩:=hrel;by_cases aa:k<ms.length
  ·obtain⟨b,off,rfl,hb,ah⟩:=HS.o.at aa;have dw:ms.take (k+1)=ms.take k++[ms[k]]:=by rw[List.take_add_one,List.getElem?_eq_getElem aa];rfl
   have ak:=zHi aa;have ax:Hid (spGo n (ms.take (k+1)) ⟨#[]⟩=spSt n o ms[k]):=by show _=_;rw[dw,zlQ,<-HX.o];rfl
   generalize ms[k]=m at*;obtain⟨ma,mb⟩:=m;have i0:W0.cell? ⟨b,off+k*2,none⟩=some (.string ma):=ah 0 _ rfl;have i1:W0.cell? ⟨b,off+k*2+1,none⟩=some (.string mb):=ah 1 _ rfl;have ar:(k:Int)<(ms.length:Int):=Mcq;have aR:(0:Int)<=(k:Int):=Mcq;clear ah aa dw;go_upto_region 6 with fail
   go_loopw [5,7] (fun v z wr=>W0=wr/\((z=.int .i64 0/\v=.string o)\/(z=.int .i64 1/\v=.string (zlP n o (ma,mb)))\/(z=.int .i64 2/\v=.string (spSt n o (ma,mb))))) (fun _ z _=>2-(intOf z).toNat)
   case atStart=>exact⟨rfl,.inl ⟨rfl,rfl⟩⟩
   case round=>
    obtain⟨rfl,⟨rfl,rfl⟩|⟨rfl,rfl⟩|⟨rfl,rfl⟩⟩:=hrel
    ·cases hs:zaf ma n
     ·have bk:(ma.toList==n.toList)=false:=hs;have he:zlP n o (ma,mb)=o:=by unfold zlP;simp[hs]
      exact Mav
     ·have bk:(ma.toList==n.toList)=true:=hs;have he:zlP n o (ma,mb)=mb:=by unfold zlP;simp[hs]
      exact Mav
    ·generalize hmid:zlP n o (ma,mb)=o2 at*;have HM:=zHi hmid;clear hmid;cases hs:zaf mb n
     ·have bk:(mb.toList==n.toList)=false:=hs;have HE:Hid (spSt n o (ma,mb)=o2):=by show _=_;unfold spSt;rw[HM.o];simp[hs]
      exact MaQ
     ·have bk:(mb.toList==n.toList)=true:=hs;have HE:Hid (spSt n o (ma,mb)=ma):=by show _=_;unfold spSt;simp[hs]
      exact MaQ
    ·go_wp2_with fail
     go_round
     case rel=>exact⟨k+1,_,ak.o,by go_num,rfl,by first|exact True.intro|rfl,zHi ax.o.symm⟩
     case measure=>have:=ak.o;simp only[intOf];omega
  ·have ar:¬(k:Int)<(ms.length:Int):=Mcq;have hx:=HX.o;rw[List.take_of_length_le Mcq]at hx;have og:=zHi (fun W h=>ie.o o W h);cases hd:dd.any (zaf o)
   ·have HE:Hid (zgk ms dd n=o):=by show _=_;unfold zgk;rw[<-hx,hd];rfl
    exact Maz
   ·have HE:Hid (zgk ms dd n=⟨#[]⟩):=by show _=_;unfold zgk;rw[<-hx,hd];rfl
    exact Maz
