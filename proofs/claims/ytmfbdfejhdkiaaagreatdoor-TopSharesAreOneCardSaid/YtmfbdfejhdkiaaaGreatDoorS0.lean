/- Chapter 3 in plain words: what the functions of the program and of the reference compute, on plain data. -/
import Derived.RowKit3
set_option linter.all false
set_option maxRecDepth 100000
set_option maxHeartbeats 4000000
namespace Go.Proofs.YtmfbdfejhdkiaaaGreatDoor
open Go.RowKit
structure Lot where
 remain:ByteArray
 state:Int
 site:ByteArray
 level:Int
 container:Int
 since:Int
structure Stay where
 lot:Lot
 till:Int
def inR(n lo hi:Int):Bool:=decide (lo<=n)&&decide (n<=hi)
def zcZ(s:ByteArray):List Int:=s.data.toList.map fun b=>(b.toNat:Int)
theorem zfz(s:ByteArray):(zcZ s).length=s.size:=by simp[zcZ]
theorem zfT(s:ByteArray)(k:Nat)(h:k<s.data.size):(zcZ s).drop k=((s.data[k].toNat:Int))::(zcZ s).drop (k+1):=by
 rw[List.drop_eq_getElem_cons (by simpa[zcZ]using h)];simp[zcZ]
def zkV(c:Int):Bool:=decide (48<=c)&&decide (c<=57)
def zcM(c:Int):Bool:=(decide (97<=c)&&decide (c<=122))||(decide (65<=c)&&decide (c<=90))
/- the program -/
def nmGo:List Int->Nat->Bool
 | [],_=>true
 |c::l,i=>if !(zcM c)&&(i==0||(c != 45&&(decide (c<48)||decide (57<c))))then false else nmGo l (i+1)
def zaE(s:ByteArray):Bool:=nmGo (zcZ s) 0&&(!s.toList.isEmpty&&decide ((s.size:Int)<=12))
def mget{K V:Type}(eq:K->K->Bool)(k:K):List (K×V)->Option V
 | []=>none
 |p::l=>if eq k p.1 then some p.2 else mget eq k l
def mput{K V:Type}(eq:K->K->Bool)(k:K)(v:V):List (K×V)->List (K×V)
 | []=>[(k,v)]
 |p::l=>if eq k p.1 then(k,v)::l else p::mput eq k v l
def zji:List Int->Bool
 | []=>true
 |c::l=>if !zcM c&&!zkV c&&c != 45 then false else zji l
def zcN(s:ByteArray):Bool:=
 if decide ((s.size:Int)<1)||decide (12<(s.size:Int))||!zcM ((zcZ s).getD 0 0)then false else zji ((zcZ s).drop 1)
