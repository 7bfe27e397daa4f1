/- The law RightNexts, walked. -/
import Derived.Test.YtmfbdfejhdkiaaaGreatDoorXX
set_option linter.all false
set_option maxRecDepth 100000
set_option maxHeartbeats 4000000
namespace Go.Proofs.YtmfbdfejhdkiaaaGreatDoor
open Go.RowKit Go.Shelf
attribute [local go_sem] World.cell?_alloc_mark zae za4 zao za8 zav zaw zax zay zaz za0 za1
attribute [local go_sem] zap zac
def famR:List RPart:=[⟨nBob,3,8⟩,⟨nCat,3,8⟩,⟨nDan,1,4⟩]
theorem fam_cells:zkI.map zaa=famR.map RPart.cells:=by kernel_rfl
theorem fam_holds:zbW fam5 nA1 200=zkI:=by kernel_rfl
theorem fam_err(names:List ByteArray)(day:Int)(hn:names.any (fun s=>!zaE s)=false)(hd:zbm day=true):zct zcB zcc names day=0:=by
 unfold zct;have h:(zco zcB zcc 200000).2=(5,0):=by rw[zd7,zjR 200000 Mcu]
 rw[h,hn,hd];rfl
theorem fam_lens:∀d∈zcc,zdE d:=by
 intro d hd;simp only[zcc,List.mem_cons,List.not_mem_nil,or_false]at hd;rcases hd with rfl|rfl|rfl|rfl|rfl<;>exact⟨by decide,by decide,by simp[famD];try decide,by simp[famD]⟩
def NxRes(V:World)(ls:List Law)(ds:List Deed)(d:Deed)(E:Int)(P:Option Addr)(p q:Nat)(R:Option Addr)(r s:Nat):Prop:=
 (E≠0/\P=none/\p=0/\q=0/\R=none/\r=0/\s=0)\/(E=0/\p=ls.length/\r=ds.length+1/\RightsIn V ls (ds++[d]) P ls.length q R (ds.length+1) s)
section
variable {w w' V W W2:World} {ls:List Law} {ds:List Deed} {d:Deed} {E:Int} {e:Ending} {P R:Option Addr} {p q r s gb:Nat}
theorem next_res(h:zmc w ls ds d E e w'):Qa w w'/\∃P p q R r s,e=.returned (.tuple #[.agg #[.slice P p q,.slice R r s],.int .i64 E])/\NxRes w' ls ds d E P p q R r s:=by
 obtain⟨hb,⟨h1,rfl⟩|⟨rfl,A,a,B,b,rfl,h2⟩⟩:=h
 ·exact⟨hb,_,_,_,_,_,_,rfl,.inl ⟨h1,rfl,rfl,rfl,rfl,rfl,rfl⟩⟩
 ·exact⟨hb,_,_,_,_,_,_,rfl,.inr ⟨rfl,rfl,rfl,h2⟩⟩
theorem NxRes.keep(h:NxRes V ls ds d E P p q R r s)(hB:Qa V W):NxRes W ls ds d E P p q R r s:=h.imp_right fun⟨a,b,c,x⟩=>⟨a,b,c,x.keep hB⟩
end
