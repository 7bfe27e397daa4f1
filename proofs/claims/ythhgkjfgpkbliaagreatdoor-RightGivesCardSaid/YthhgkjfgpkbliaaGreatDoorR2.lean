import Derived.Test.YthhgkjfgpkbliaaGreatDoorRE
import Derived.Test.YthhgkjfgpkbliaaGreatDoorE5
import Derived.Test.YthhgkjfgpkbliaaGreatDoorE1
import Derived.Test.YthhgkjfgpkbliaaGreatDoorOB
set_option linter.all false
set_option maxRecDepth 100000
set_option maxHeartbeats 4000000
namespace Go.Proofs.YthhgkjfgpkbliaaGreatDoor
attribute [local go_sem] World.cell?_alloc_mark zae zav zai zaw zam zan zao zap zaq zar zas
attribute [local go_sem] zah zac
section
open Go.RowKit Go.Shelf
end
section
open Go.RowKit
def nAnn:ByteArray:=⟨#[97,110,110]⟩
def nBob:ByteArray:=⟨#[98,111,98]⟩
def nCat:ByteArray:=⟨#[99,97,116]⟩
def nDan:ByteArray:=⟨#[100,97,110]⟩
def nA1:ByteArray:=⟨#[97,49]⟩
def n0:ByteArray:=⟨#[]⟩
def zbM:List Law:=[⟨0,false,1,4⟩,⟨50000,true,1,2⟩]
def famD(k:Nat):Deed:=match k with
 |0=>⟨6,0,n0,nAnn,[⟨nBob,0,0⟩],0,0⟩
 |1=>⟨6,0,n0,nAnn,[⟨nCat,0,0⟩],0,0⟩
 |2=>⟨7,0,n0,nAnn,[⟨nDan,0,0⟩],0,0⟩
 |3=>⟨0,100,nA1,n0,[⟨nAnn,1,1⟩],1,0⟩
 |_=>⟨8,200,n0,nAnn,[],0,0⟩
def zbs:List Deed:=[famD 0,famD 1,famD 2,famD 3,famD 4]
def fam1:St:=⟨[(nAnn,nBob)],[],[],[],[],[]⟩
def fam2:St:=⟨[(nAnn,nBob),(nAnn,nCat)],[],[],[],[],[]⟩
def fam3:St:=⟨[(nAnn,nBob),(nAnn,nCat)],[(nAnn,nDan)],[],[],[],[]⟩
def fam4:St:=⟨[(nAnn,nBob),(nAnn,nCat)],[(nAnn,nDan)],[],[],[],[⟨nA1,1,-1,[(nAnn,1)],[]⟩]⟩
def zf6:Parts:=[(nBob,Rat.divInt 3 8),(nCat,Rat.divInt 3 8),(nDan,Rat.divInt 1 4)]
def fam5:St:=⟨[(nAnn,nBob),(nAnn,nCat)],[(nAnn,nDan)],[nAnn],[],[],[⟨nA1,1,-1,zf6,[nAnn]⟩]⟩
theorem fam_laws:za7 zbM=0:=by kernel_rfl
open Classical in
theorem fam_0:zb4 zbM zbf 0 0 (famD 0)=(fam1,0):=by
 have h1:za8 (famD 0)=0:=MbE;have h2:¬Desc zbf (zbO (famD 0)) (famD 0).frm:=zgJ rfl;unfold zb4;rw[h1];show(if(0 != 0)=true then _ else if decide (60<=0)=true then _ else if decide ((0:Int)<0)=true then _ else zcS zbf (famD 0))=_;unfold zcS;rw[decide_eq_false h2];rfl
open Classical in
theorem fam_1:zb4 zbM fam1 1 0 (famD 1)=(fam2,0):=by
 have h1:za8 (famD 1)=0:=MbE;have h2:¬Desc fam1 (zbO (famD 1)) (famD 1).frm:=zgJ MbE;unfold zb4;rw[h1];show(if(0 != 0)=true then _ else if decide (60<=1)=true then _ else if decide ((0:Int)<0)=true then _ else zcS fam1 (famD 1))=_;unfold zcS;rw[decide_eq_false h2];have e1:(zaf fam1 (famD 1).frm).any (zag (zbO (famD 1)))=false:=MbE;have e2:decide (2<=(zb8 fam1 (zbO (famD 1))).length)=false:=MbE;rw[e1,e2];rfl
theorem fam_2:zb4 zbM fam2 2 0 (famD 2)=(fam3,0):=by kernel_rfl
theorem fam_3:zb4 zbM fam3 3 0 (famD 3)=(fam4,0):=by kernel_rfl
theorem fam_4:zb4 zbM fam4 4 100 (famD 4)=(fam5,0):=by kernel_rfl
theorem zfU(upto:Int)(h:200<=upto):zaz zbM zbs upto=(fam5,5,0):=by
 have q0:decide ((famD 0).day<=upto)=true:=Mck;have q1:decide ((famD 1).day<=upto)=true:=Mck;have q2:decide ((famD 2).day<=upto)=true:=Mck;have q3:decide ((famD 3).day<=upto)=true:=by show decide ((100:Int)<=upto)=true;simp;omega
 have q4:decide ((famD 4).day<=upto)=true:=by show decide ((200:Int)<=upto)=true;simp;omega
 have z:¬((0:Int) != 0)=true:=MbD;unfold zaz zbs;rw[fam_laws,if_neg z];rw[zax,fam_0,if_neg z,q0,if_pos rfl];show zax zbM upto _ fam1 fam1 1 0=_;rw[zax,fam_1,if_neg z,q1,if_pos rfl];show zax zbM upto _ fam2 fam2 2 0=_;rw[zax,fam_2,if_neg z,q2,if_pos rfl];show zax zbM upto _ fam3 fam3 3 0=_;rw[zax,fam_3,if_neg z,q3,if_pos rfl];show zax zbM upto _ fam4 fam4 4 100=_;rw[zax,fam_4,if_neg z,q4,if_pos rfl];rfl
def zer:List Rec:=[⟨1,nAnn,n0,n0,5,0,0,0⟩,⟨0,nBob,n0,n0,9,0,0,0⟩,⟨0,nAnn,n0,n0,7,0,0,0⟩,⟨3,nAnn,n0,nA1,4,0,1,2⟩,⟨3,nBob,n0,nA1,4,0,2,3⟩]
theorem recs5_ok:zev zer=0:=by kernel_rfl
end
section
open Go.RowKit Go.Shelf
section
variable {W w:World} {b:Nat} {t:TypeId} {fr:Nat×Nat} {a0 a1 a2 a3 a4 a5 a6:Value}
theorem zdX(h:W.heap[b]?=some (.cells #[a0,a1] t fr)):W.cell? ⟨b,0,none⟩=some a0/\W.cell? ⟨b,1,none⟩=some a1:=by
 simp only[World.cell?,h];exact⟨rfl,rfl⟩
theorem cells6(h:W.heap[b]?=some (.cells #[a0,a1,a2,a3,a4,a5] t fr)):W.cell? ⟨b,0,none⟩=some a0/\W.cell? ⟨b,1,none⟩=some a1/\W.cell? ⟨b,2,none⟩=some a2/\W.cell? ⟨b,3,none⟩=some a3/\W.cell? ⟨b,4,none⟩=some a4/\W.cell? ⟨b,5,none⟩=some a5:=by
 simp only[World.cell?,h];exact⟨rfl,rfl,rfl,rfl,rfl,rfl⟩
theorem frz{cs:Array Value}(h:W.heap[b]?=some (.cells cs t (0,0))):∀j,W.frozen? ⟨b,j,none⟩=false:=fun j=>by simp[World.frozen?,h]
end
end
section
section
variable {P:Program} {ops:Array Oper} {md:Region.Mode} {C:World->Prop}
end
end
open Go.RowKit
section
variable {P:Program} {ops:Array Oper} {md:Region.Mode} {w₀:World}
end
