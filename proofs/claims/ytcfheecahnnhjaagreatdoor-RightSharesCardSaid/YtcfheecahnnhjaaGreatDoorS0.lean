import Derived.RowKit3
set_option linter.all false
set_option maxRecDepth 100000
set_option maxHeartbeats 4000000
namespace Go.Proofs.YtcfheecahnnhjaaGreatDoor
open Go.RowKit
structure Lot where
 remain:ByteArray
 state:Int
 site:ByteArray
 level:Int
 container:Int
 since:Int
structure Stay where
 lot:Lot
 till:Int
def inR(n lo hi:Int):Bool:=decide (lo<=n)&&decide (n<=hi)
def zdu(s:ByteArray):List Int:=s.data.toList.map fun b=>(b.toNat:Int)
theorem zgL(s:ByteArray):(zdu s).length=s.size:=by simp[zdu]
theorem zhX(s:ByteArray)(k:Nat)(h:k<s.data.size):(zdu s).drop k=((s.data[k].toNat:Int))::(zdu s).drop (k+1):=by
 rw[List.drop_eq_getElem_cons (by simpa[zdu]using h)];simp[zdu]
def zla(c:Int):Bool:=decide (48<=c)&&decide (c<=57)
def zdd(c:Int):Bool:=(decide (97<=c)&&decide (c<=122))||(decide (65<=c)&&decide (c<=90))
/- the program -/
def nmGo:List Int->Nat->Bool
 | [],_=>true
 |c::l,i=>if !(zdd c)&&(i==0||(c != 45&&(decide (c<48)||decide (57<c))))then false else nmGo l (i+1)
def zaT(s:ByteArray):Bool:=nmGo (zdu s) 0&&(!s.toList.isEmpty&&decide ((s.size:Int)<=12))
def mget{K V:Type}(eq:K->K->Bool)(k:K):List (K×V)->Option V
 | []=>none
 |p::l=>if eq k p.1 then some p.2 else mget eq k l
def mput{K V:Type}(eq:K->K->Bool)(k:K)(v:V):List (K×V)->List (K×V)
 | []=>[(k,v)]
 |p::l=>if eq k p.1 then(k,v)::l else p::mput eq k v l
def zjn:List Int->Bool
 | []=>true
 |c::l=>if !zdd c&&!zla c&&c != 45 then false else zjn l
def zcE(s:ByteArray):Bool:=
 if decide ((s.size:Int)<1)||decide (12<(s.size:Int))||!zdd ((zdu s).getD 0 0)then false else zjn ((zdu s).drop 1)
