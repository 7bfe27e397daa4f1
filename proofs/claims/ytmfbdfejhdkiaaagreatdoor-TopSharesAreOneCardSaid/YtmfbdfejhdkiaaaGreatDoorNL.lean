/- Plain law of TopSharesAreOne: what the told tenures of a place say of their days. -/
import Derived.Test.YtmfbdfejhdkiaaaGreatDoorNK
import Derived.Test.YtmfbdfejhdkiaaaGreatDoorYU
import Derived.Test.YtmfbdfejhdkiaaaGreatDoorDR
set_option linter.all false
set_option maxRecDepth 100000
set_option maxHeartbeats 4000000
namespace Go.Proofs.YtmfbdfejhdkiaaaGreatDoor
open Go.RowKit Go.Shelf
structure TopTen (ls:List Law) (es:List Deed) (pl:ByteArray) (txs:List TX):Prop where
 few:txs.length<=200
 day:∀(i:Nat) (h:i<txs.length),zct ls es [pl] txs[i].day=0/\hOn ls es pl txs[i].day=txs[i].hs/\0<=txs[i].day/\txs[i].day<=200000
 asc:∀(i:Nat) (h:i+1<txs.length),(txs[i]' Mcq).day<txs[i+1].day
 last:∀(i:Nat) (h:i<txs.length) (q:Int),(∀h':i+1<txs.length,q=txs[i+1].day-1)->(¬i+1<txs.length->q=200000)->zct ls es [pl] q=0/\hOn ls es pl q=txs[i].hs
 len:∀q,(hOn ls es pl q).length<=1200
theorem zoj{x:Int}(h:zbm x=true):0<=x/\x<=200000:=by
 unfold zbm inR at h;simp at h;omega
theorem top_len{ls:List Law}{es:List Deed}{pl:ByteArray}(jb:(zaB ls es 200000).2.2=0)(hd:es.length<=15)(q:Int):(hOn ls es pl q).length<=1200:=by
 have he:(zaB ls es q).2.2=0:=by rw[zfJ ls es q 200000];exact jb
 have:=(zgo he).holders pl q;unfold hOn;omega
theorem top_ten{ls:List Law}{es:List Deed}{pl:ByteArray}{txs:List TX}{L:List Int}(jb:(zaB ls es 200000).2.2=0)(hp:zaE pl=true)(hd:es.length<=15)(hL:L.Pairwise (· < ·))(hl:∀x,x∈L↔x∈zeT ls es pl es)(ht:txs.map (fun x=>(x.day,x.hs))=zbO (hOn ls es pl) L []):TopTen ls es pl txs:=by
 have hn:∀s∈[pl],zaE s=true:=Mel;have tm:∀q,zbm q=true->zct ls es [pl] q=0:=fun q hq=>on_at jb hn hq
 have jt:=days_ok (tm 0 Mcs) pl;obtain⟨S,hS⟩:=Qd (zbO (hOn ls es pl) L [])
 have ae:txs.length=S.length:=by rw[hS,<-ht,List.length_map]
 have hx:∀(i:Nat) (h:i<txs.length),txs[i].day=(S[i]' Mcq).1/\txs[i].hs=(S[i]' Mcq).2:=fun i h=>by
  have e:(txs.map fun x=>(x.day,x.hs))[i]?=S[i]?:=by rw[ht,hS]
  rw[List.getElem?_map,List.getElem?_eq_getElem h,List.getElem?_eq_getElem Mcq]at e;simp only[Option.map_some,Option.some.injEq]at e;rw[<-e];exact⟨rfl,rfl⟩
 have jD:(S.map (·.1)).Sublist L:=by rw[hS];exact zfK
 have oP:(S.map (·.1)).Pairwise (· < ·):=hL.sublist jD;have At:∀(i:Nat) (h:i+1<S.length),(S[i]' Mcq).1<S[i+1].1:=fun i h=>by
  have:=List.pairwise_iff_getElem.1 oP i (i+1) (by rw[List.length_map];omega) (by rw[List.length_map];omega) Mcq;simpa using this
 have cf:∀(i:Nat) (h:i<S.length),zbm S[i].1=true:=fun i h=>jt _ ((hl _).1 (jD.subset (List.mem_map.2 ⟨_,List.getElem_mem h,rfl⟩)))
 have tD:∀(i:Nat) (h:i<S.length) (q:Int),S[i].1<=q->(∀h':i+1<S.length,q<S[i+1].1)->hOn ls es pl q=S[i].2:=fun i h q h1 h2=>by
  subst hS;exact tenure_on hL hl h h1 h2
 refine⟨?_,fun i h=>?_,fun i h=>?_,fun i h q h1 h2=>?_,fun q=>top_len jb hd q⟩
 ·have h1:=days_few jb hL hl hd;have h2:=jD.length_le;rw[List.length_map]at h2;omega
 ·obtain⟨e1,e2⟩:=hx i h;rw[e1,e2];have hi:i<S.length:=Mcq;exact⟨tm _ (cf i hi),tD i hi _ (Int.le_refl _) (fun h'=>At i h'),zoj (cf i hi)⟩
 ·rw[(hx i Mcq).1,(hx (i+1) h).1];exact At i Mcq
 ·have hi:i<S.length:=Mcq;rw[(hx i h).2];have fW:=zoj (cf i hi);by_cases hc:i+1<txs.length
  ·have e:=h1 hc;have aI:i+1<S.length:=Mcq;rw[(hx (i+1) hc).1]at e;have h3:=At i aI;have h4:=zoj (cf (i+1) aI);have hq:zbm q=true:=by unfold zbm inR;simp;omega
   exact⟨tm _ hq,tD i hi q Mcq fun _=>by omega⟩
  ·have e:=h2 hc;have hq:zbm q=true:=by rw[e];kernel_rfl
   exact⟨tm _ hq,tD i hi q Mcq fun h'=>absurd h' Mcq⟩
def zjh(ds:List Deed)(d:Deed)(E:Int):List Deed:=if E=0 then ds++[d]else ds
theorem more_ok{ls:List Law}{ds:List Deed}{d:Deed}(h:(zaB ls ds 200000).2.2=0):(zaB ls (zjh ds d (zfN ls ds d)) 200000).2.2=0:=by
 unfold zjh;split
 ·exact((zgV Mc3).2.2.2.2.2 200000).1
 ·exact h
theorem more_len(ds:List Deed)(d:Deed)(E:Int):(zjh ds d E).length<=ds.length+1:=by
 unfold zjh;split
 ·simp
 ·omega
theorem znz{ls:List Law}{ds:List Deed}{d:Deed}{pl:ByteArray}(h:(zaB ls ds 200000).2.2=0)(hp:zaE pl=true)(hn:zfN ls ds d=0)(hd:0<d.day):
 zct ls ds [pl] (d.day-1)=0/\zct ls (zjh ds d (zfN ls ds d)) [pl] (d.day-1)=0/\hOn ls (zjh ds d (zfN ls ds d)) pl (d.day-1)=hOn ls ds pl (d.day-1):=by
 have hk:=(zgV hn).1.day;have hq:zbm (d.day-1)=true:=by unfold zbm inR;simp;omega
 have hs:∀s∈[pl],zaE s=true:=Mel;have e:zjh ds d (zfN ls ds d)=ds++[d]:=by unfold zjh;rw[if_pos hn]
 rw[e];exact⟨on_at h hs hq,on_at ((zgV hn).2.2.2.2.2 200000).1 hs hq,zpx hn Mcq⟩
