import Derived.Test.YtogklihlgindkaaGreatDoorOB
import Derived.Test.YtogklihlgindkaaGreatDoorE5
import Derived.Test.YtogklihlgindkaaGreatDoorE1
set_option linter.all false
set_option maxRecDepth 100000
set_option maxHeartbeats 4000000
namespace Go.Proofs.YtogklihlgindkaaGreatDoor
attribute [local go_sem] World.cell?_alloc_mark zaf za3 zam za6 zat zau zav zaw zax zay zaz
section
open Go.RowKit Go.Shelf
attribute [local go_sem] zao zac
end
section
open Go.RowKit
def nAnn:ByteArray:=⟨#[97,110,110]⟩
def nBob:ByteArray:=⟨#[98,111,98]⟩
def nCat:ByteArray:=⟨#[99,97,116]⟩
def nDan:ByteArray:=⟨#[100,97,110]⟩
def nA1:ByteArray:=⟨#[97,49]⟩
def n0:ByteArray:=⟨#[]⟩
def zcl:List Law:=[⟨0,false,1,4⟩,⟨50000,true,1,2⟩]
def famD(k:Nat):Deed:=match k with
 |0=>⟨6,0,n0,nAnn,[⟨nBob,0,0⟩],0,0⟩
 |1=>⟨6,0,n0,nAnn,[⟨nCat,0,0⟩],0,0⟩
 |2=>⟨7,0,n0,nAnn,[⟨nDan,0,0⟩],0,0⟩
 |3=>⟨0,100,nA1,n0,[⟨nAnn,1,1⟩],1,0⟩
 |_=>⟨8,200,n0,nAnn,[],0,0⟩
def zbI:List Deed:=[famD 0,famD 1,famD 2,famD 3,famD 4]
def fam1:St:=⟨[(nAnn,nBob)],[],[],[],[],[]⟩
def fam2:St:=⟨[(nAnn,nBob),(nAnn,nCat)],[],[],[],[],[]⟩
def fam3:St:=⟨[(nAnn,nBob),(nAnn,nCat)],[(nAnn,nDan)],[],[],[],[]⟩
def fam4:St:=⟨[(nAnn,nBob),(nAnn,nCat)],[(nAnn,nDan)],[],[],[],[⟨nA1,1,-1,[(nAnn,1)],[]⟩]⟩
def zgE:Parts:=[(nBob,Rat.divInt 3 8),(nCat,Rat.divInt 3 8),(nDan,Rat.divInt 1 4)]
def fam5:St:=⟨[(nAnn,nBob),(nAnn,nCat)],[(nAnn,nDan)],[nAnn],[],[],[⟨nA1,1,-1,zgE,[nAnn]⟩]⟩
def fam_laws:zaC zcl=0:=by kernel_rfl
open Classical in
def fam_0:zcn zcl zb3 0 0 (famD 0)=(fam1,0):=by
 have h1:zaH (famD 0)=0:=McT;have h2:¬Desc zb3 (zbh (famD 0)) (famD 0).frm:=zin rfl;unfold zcn;rw[h1];show(if(0 != 0)=true then _ else if decide (60<=0)=true then _ else if decide ((0:Int)<0)=true then _ else zcG zb3 (famD 0))=_;unfold zcG;rw[decide_eq_false h2];rfl
open Classical in
def fam_1:zcn zcl fam1 1 0 (famD 1)=(fam2,0):=by
 have h1:zaH (famD 1)=0:=McT;have h2:¬Desc fam1 (zbh (famD 1)) (famD 1).frm:=zin McT;unfold zcn;rw[h1];show(if(0 != 0)=true then _ else if decide (60<=1)=true then _ else if decide ((0:Int)<0)=true then _ else zcG fam1 (famD 1))=_;unfold zcG;rw[decide_eq_false h2];have e1:(zaj fam1 (famD 1).frm).any (zae (zbh (famD 1)))=false:=McT;have e2:decide (2<=(zbP fam1 (zbh (famD 1))).length)=false:=McT;rw[e1,e2];rfl
def fam_2:zcn zcl fam2 2 0 (famD 2)=(fam3,0):=by kernel_rfl
def fam_3:zcn zcl fam3 3 0 (famD 3)=(fam4,0):=by kernel_rfl
def fam_4:zcn zcl fam4 4 100 (famD 4)=(fam5,0):=by kernel_rfl
def zhr(upto:Int)(h:200<=upto):zaI zcl zbI upto=(fam5,5,0):=by
 have q0:decide ((famD 0).day<=upto)=true:=Md4;have q1:decide ((famD 1).day<=upto)=true:=Md4;have q2:decide ((famD 2).day<=upto)=true:=Md4;have q3:decide ((famD 3).day<=upto)=true:=by show decide ((100:Int)<=upto)=true;simp;omega
 have q4:decide ((famD 4).day<=upto)=true:=by show decide ((200:Int)<=upto)=true;simp;omega
 have z:¬((0:Int) != 0)=true:=McU;unfold zaI zbI;rw[fam_laws,if_neg z];rw[zaR,fam_0,if_neg z,q0,if_pos rfl];show zaR zcl upto _ fam1 fam1 1 0=_;rw[zaR,fam_1,if_neg z,q1,if_pos rfl];show zaR zcl upto _ fam2 fam2 2 0=_;rw[zaR,fam_2,if_neg z,q2,if_pos rfl];show zaR zcl upto _ fam3 fam3 3 0=_;rw[zaR,fam_3,if_neg z,q3,if_pos rfl];show zaR zcl upto _ fam4 fam4 4 100=_;rw[zaR,fam_4,if_neg z,q4,if_pos rfl];rfl
def zfq:List Rec:=[⟨1,nAnn,n0,n0,5,0,0,0⟩,⟨0,nBob,n0,n0,9,0,0,0⟩,⟨0,nAnn,n0,n0,7,0,0,0⟩,⟨3,nAnn,n0,nA1,4,0,1,2⟩,⟨3,nBob,n0,nA1,4,0,2,3⟩]
def recs5_ok:zf0 zfq=0:=by kernel_rfl
end
section
open Go.RowKit Go.Shelf
attribute [local go_sem] zao zac
def zgF{fn:Func}{p q:Tmp}(h:fn.results= #[.cell p 50,.tmp q])(tmps:Array Value)(w:World)(B:Nat)(x0 x1 e:Value)(hp:tmps.getD p undef=.pointer (some ⟨B,0,none⟩))(hq:tmps.getD q undef=e)
 (hx:w.heap[B]?=some (.cells #[x0,x1] 50)):(results fn tmps).run Tryz.prog w=.ok (.tuple #[.agg #[x0,x1],e]) w:=by
 obtain⟨h0,h1⟩:=cF2 hx;clear hx;rw[Array.getD_eq_getD_getElem?]at hp hq;simp only[results,h];simp[Sem.run_bind,hp,hq];go_simp
end
section
open Go.RowKit
end
section
open Go.RowKit
end
section
section
variable {P:Program} {ops:Array Oper} {md:Region.Mode} {C:World->Prop}
end
end
section
open Go.RowKit
def zn2(ds:List Deed):Int:=(ds.getLast?.map (·.day)).getD 0
def zp2{ds:List Deed}{k:Nat}(h:k<ds.length):zn2 (ds.take (k+1))=ds[k].day:=by
 have e:ds.take (k+1)=ds.take k++[ds[k]]:=by rw[List.take_add_one,List.getElem?_eq_getElem h];rfl
 unfold zn2;rw[e,List.getLast?_concat];rfl
end
open Go.RowKit Go.Shelf
attribute [local go_sem] zao zac
def zfr(d:Deed):Bool:=!(decide (20<d.place.size)||decide (20<d.frm.size)||decide (10<d.to.length))&&d.to.all λp=>!decide (20<p.name.size)
def fewP(ls:List Law)(ds:List Deed):Bool:=!(decide (12<ls.length)||decide (14<ds.length))&&ds.all zfr
def zp3{d:Deed}(h:zfr d=true):zdQ d:=by
 unfold zfr at h;simp at h;obtain⟨⟨⟨h1,h2⟩,h3⟩,h4⟩:=h;exact⟨by omega,by omega,λp hp=>by have:=h4 p hp;omega,by omega⟩
def few_lens{ls:List Law}{ds:List Deed}(h:fewP ls ds=true):(∀d∈ds,zdQ d)/\ls.length<=12/\ds.length<=14/\(∀d∈ds,d.to.length<=10):=by
 unfold fewP at h;simp at h;obtain⟨⟨h1,h2⟩,h3⟩:=h;refine⟨λd hd=>zp3 (h3 d hd),h1,h2,λd hd=>?_⟩;have:=h3 d hd;unfold zfr at this;simp at this;exact this.1.2
def brief_any(d:Deed)(B:Option Addr)(c:Nat)(w:World)(hc:d.to.length<=c)(hS:Sl w 3 RPart.cells B d.to):
 Calls Tryz.prog 17 #[d.v B c] w (Ret w (.bool (zfr d))):=by
 obtain⟨kd,dy,pl,fr,ts,cl,yr⟩:=d;have HS:=zHi hS;obtain⟨R,hR⟩:=Qd (zfr ⟨kd,dy,pl,fr,ts,cl,yr⟩)
 rw[<-hR];unfold zfr at hR;unfold Deed.v;simp only at hR hc hS⊢;clear hS;go_enter Tryz.func17,Tryz.ntmps17
 by_cases l1:20<pl.size
 ·have HE:Hid (R=false):=by show _=_;rw[hR,decide_eq_true l1];rfl
  have q1:(20:Int)<(pl.size:Int):=McS;exact Mar
 have q1:¬(20:Int)<(pl.size:Int):=McS;by_cases l2:20<fr.size
 ·have HE:Hid (R=false):=by show _=_;rw[hR,decide_eq_true l2];simp
  have q2:(20:Int)<(fr.size:Int):=McS;exact Mar
 have q2:¬(20:Int)<(fr.size:Int):=McS;by_cases l3:10<ts.length
 ·have HE:Hid (R=false):=by show _=_;rw[hR,decide_eq_true l3];simp
  have q3:(10:Int)<(ts.length:Int):=McS;exact Mar
 have q3:¬(10:Int)<(ts.length:Int):=McS;have vQ:Hid (R=(ts.drop 0).all λp=>!decide (20<p.name.size)):=by
  show _=_;rw[hR,decide_eq_false l1,decide_eq_false l2,decide_eq_false l3,List.drop_zero];rfl
 clear hR;go_upto_region 3 with fail
 have k4:(w.alloc (.cells #[.int .i64 kd,.int .i64 dy,.string pl,.string fr,.slice B ts.length c,.int .i64 cl,.int .i64 yr] 60)).cell? ⟨w.heap.size,4,none⟩=some (.slice B ts.length c):=Mdo;have hB:Qa w (w.alloc (.cells #[.int .i64 kd,.int .i64 dy,.string pl,.string fr,.slice B ts.length c,.int .i64 cl,.int .i64 yr] 60)):=Bw;generalize w.alloc (.cells #[.int .i64 kd,.int .i64 dy,.string pl,.string fr,.slice B ts.length c,.int .i64 cl,.int .i64 yr] 60)=W at*;obtain⟨kC,HB⟩:=yH2 (HS.o.keep hB) hB;clear hB HS;go_upto_region 4 with fail
 go_loopw [3] (λi wr=>∃k:Nat,k<=ts.length/\i=.int .i64 k/\W=wr/\Hid (R=(ts.drop k).all λp=>!decide (20<p.name.size))) (λi _=>ts.length-(intOf i).toNat)
 case atStart=>exact⟨0,Nat.zero_le _,rfl,rfl,vQ.o⟩
 case round=>
  obtain⟨k,hk,rfl,rfl,HX⟩:=hrel;by_cases ae:k<ts.length
  ·obtain⟨b,off,rfl,hb,ah⟩:=kC.o.at ae;have hx:=HX.o;rw[List.drop_eq_getElem_cons ae,List.all_cons]at hx;obtain⟨aw,aj⟩:=yH2 hx ae;generalize ts[k]=x at*;obtain⟨nm,nu,de⟩:=x;have i0:W.cell? ⟨b,off+k*3,none⟩=some (.string nm):=ah 0 _ rfl;have au:(k:Int)<(ts.length:Int):=McS;have aR:(0:Int)<=(k:Int):=McS;clear ah hx ae;by_cases l5:20<nm.size
   ·have HE:Hid (R=false):=by show _=_;rw[aw.o];simp[l5]
    have q5:(20:Int)<(nm.size:Int):=McS;exact MZ
   ·have q5:¬(20:Int)<(nm.size:Int):=McS;have HE:Hid (R=(ts.drop (k+1)).all λp=>!decide (20<p.name.size)):=by show _=_;rw[aw.o];simp[l5]
    go_wp2_with fail
    exact ML
  ·have au:¬(k:Int)<(ts.length:Int):=McS;have HE:Hid (R=true):=by show _=_;rw[HX.o,List.drop_of_length_le McS];rfl
   exact MZ
def few_any(ls:List Law)(ds:List Deed)(LA:Option Addr)(n nc:Nat)(DA:Option Addr)(m mc:Nat)(w:World)(hR:RightsIn w ls ds LA n nc DA m mc):
 Calls Tryz.prog 5 #[.agg #[.slice LA n nc,.slice DA m mc]] w (Ret w (.bool (fewP ls ds))):=by
 obtain⟨rfl,rfl,yx,te,_,hD⟩:=hR;have HD:=zHi hD;obtain⟨R,hR⟩:=Qd (fewP ls ds)
 rw[<-hR];unfold fewP at hR;clear hD;go_enter Tryz.func5,Tryz.ntmps5
 by_cases l1:12<ls.length
 ·have HE:Hid (R=false):=by show _=_;rw[hR,decide_eq_true l1];rfl
  have q1:(12:Int)<(ls.length:Int):=McS;exact Mar
 have q1:¬(12:Int)<(ls.length:Int):=McS;by_cases l2:14<ds.length
 ·have HE:Hid (R=false):=by show _=_;rw[hR,decide_eq_true l2];simp
  have q2:(14:Int)<(ds.length:Int):=McS;exact Mar
 have q2:¬(14:Int)<(ds.length:Int):=McS;have vQ:Hid (R=(ds.drop 0).all zfr):=by
  show _=_;rw[hR,decide_eq_false l1,decide_eq_false l2,List.drop_zero];rfl
 clear hR;go_upto_region 3 with fail
 have k4:(w.alloc (.cells #[.slice LA ls.length nc,.slice DA ds.length mc] 25)).cell? ⟨w.heap.size,1,none⟩=some (.slice DA ds.length mc):=Mdo;have hB:Qa w (w.alloc (.cells #[.slice LA ls.length nc,.slice DA ds.length mc] 25)):=Bw;have hsz:w.heap.size<(w.alloc (.cells #[.slice LA ls.length nc,.slice DA ds.length mc] 25)).heap.size:=McV;generalize w.alloc (.cells #[.slice LA ls.length nc,.slice DA ds.length mc] 25)=W at*;obtain⟨jX,HB⟩:=yH2 (HD.o.keep zbS hB) hB;clear hB HD;go_upto_region 4 with fail
 go_loopw [3] (λi wr=>∃k:Nat,k<=ds.length/\i=.int .i64 k/\Hid (R=(ds.drop k).all zfr)/\Qa W wr) (λi _=>ds.length-(intOf i).toNat)
 case atStart=>exact⟨0,Nat.zero_le _,rfl,vQ.o,Qb⟩
 case round=>
  obtain⟨k,hk,rfl,HX,nX⟩:=hrel;have j4:wr.cell? ⟨w.heap.size,1,none⟩=some (.slice DA ds.length mc):=(zai nX hsz).trans k4;have AN:=nX.size;by_cases ae:k<ds.length
  ·obtain⟨b,off,cs,hA,hb,hr,ah⟩:=(jX.o.keep zbS nX).at ae;have hx:=HX.o;rw[List.drop_eq_getElem_cons ae,List.all_cons]at hx;obtain⟨aw,aj⟩:=yH2 hx ae;generalize ds[k]=x at*;obtain⟨B,c,hc,rfl,hS⟩:=hr;have tK:=zHi (λW' (h:Qa wr W')=>brief_any x B c W' hc (hS.keep h));unfold Deed.v at tK;subst hA;have i0:=ah 0 _ rfl;have i1:=ah 1 _ rfl;have i2:=ah 2 _ rfl;have i3:=ah 3 _ rfl;have i4:=ah 4 _ rfl;have i5:=ah 5 _ rfl;have i6:=ah 6 _ rfl;simp only[Nat.add_zero]at i0;have au:(k:Int)<(ds.length:Int):=McS;have aR:(0:Int)<=(k:Int):=McS;have bk:=zHi nX;generalize zfr x=q at*;clear ah hx ae hS nX;cases q
   ·have HE:Hid (R=false):=Mea;go_wp2_with (go_at_call 17;go_must(refine(tK.o _ Bw).mono ?_);rintro e wq ⟨rfl,z,rfl⟩)
    go_ret
    exact Ret.of (zaT HE.o.symm) (HB.o.trans ((bk.o.trans (Below.mono (B:=wr.heap.size) Bw AN)).mono HB.o.size))
   ·have HE:Hid (R=(ds.drop (k+1)).all zfr):=Mea;go_wp2_with (go_at_call 17;go_must(refine(tK.o _ Bw).mono ?_);rintro e wq ⟨rfl,z,rfl⟩)
    go_round
    case rel=>exact⟨k+1,aj.o,by go_num,HE.o,bk.o.trans (Below.mono (B:=wr.heap.size) Bw AN)⟩
    case measure=>have:=aj.o;simp only[intOf];omega
  ·have au:¬(k:Int)<(ds.length:Int):=McS;have HE:Hid (R=true):=by show _=_;rw[HX.o,List.drop_of_length_le McS];rfl
   have bk:=zHi nX;clear nX;go_wp2_with fail
   go_ret
   exact Ret.of (zaT HE.o.symm) (HB.o.trans (bk.o.mono HB.o.size))
