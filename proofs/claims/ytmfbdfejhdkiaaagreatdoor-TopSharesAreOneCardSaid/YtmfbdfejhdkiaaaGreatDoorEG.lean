/- Walk of chapter 5's MayBury. -/
import Derived.Test.YtmfbdfejhdkiaaaGreatDoorEE
set_option linter.all false
set_option maxRecDepth 100000
set_option maxHeartbeats 4000000
namespace Go.Proofs.YtmfbdfejhdkiaaaGreatDoor
open Go.RowKit Go.Shelf
attribute [local go_sem] World.cell?_alloc_mark zae za4 zao za8 zav zaw zax zay zaz za0 za1
attribute [local go_sem] zap zac
open Classical in
structure MbAt (base:Nat) (W:World) (b T N TT WW:Nat) (s:St) (cls:Int) (name:ByteArray):Prop where
 peo:PeoAt base W b s
 tl:T<W.heap.size
 tc:W.cell? ⟨T,1,none⟩=some (.int .i64 cls)
 nl:N<W.heap.size
 nc:W.cell? ⟨N,0,none⟩=some (.string name)
 ttl:TT<W.heap.size
 ttc:W.cell? ⟨TT,0,none⟩=some (.pointer (some ⟨T,0,none⟩))
 wl:WW<W.heap.size
 wc:W.cell? ⟨WW,0,none⟩=some (.pointer (some ⟨b,0,none⟩))
theorem MbAt.keep{base:Nat}{W W':World}{b T N TT WW:Nat}{s:St}{cls:Int}{name:ByteArray}(h:MbAt base W b T N TT WW s cls name)(hB:Qa W W'):MbAt base W' b T N TT WW s cls name:=
 ⟨h.peo.keep hB,Nat.lt_of_lt_of_le h.tl hB.size,(zah hB h.tl).trans h.tc,Nat.lt_of_lt_of_le h.nl hB.size,(zah hB h.nl).trans h.nc,Nat.lt_of_lt_of_le h.ttl hB.size,(zah hB h.ttl).trans h.ttc,Nat.lt_of_lt_of_le h.wl hB.size,(zah hB h.wl).trans h.wc⟩
open Classical in
theorem sl_map{α β:Type}{w:World}{size:Nat}{f:α->List Value}{g:β->List Value}{A:Option Addr}{xs:List α}(h:Sl w size f A xs)(m:α->β)(hm:∀x,g (m x)=f x):Sl w size g A (xs.map m):=fun hl=>by
 obtain⟨b,off,hA,hb,hc⟩:=h Mez;refine⟨b,off,hA,hb,fun k x hk j u hu=>?_⟩;rw[List.getElem?_map,Option.map_eq_some_iff]at hk;obtain⟨y,hy,rfl⟩:=hk;rw[hm]at hu;exact hc k y hy j u hu
def toR(p:ByteArray×Rat):RPart:=⟨p.1,p.2.num,p.2.den⟩
theorem zkH{W:World}{a o:Nat}{v:Value}(h:W.cell? ⟨a,o,none⟩=some v):a<W.heap.size:=by
 unfold World.cell? at h;cases hh:W.heap[a]? with
 |none=>simp[hh]at h
 |some x=>exact zab hh
