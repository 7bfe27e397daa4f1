import Derived.Test.YthhgkjfgpkbliaaGreatDoorXF
set_option linter.all false
set_option maxRecDepth 100000
set_option maxHeartbeats 4000000
namespace Go.Proofs.YthhgkjfgpkbliaaGreatDoor
open Go.RowKit Go.Shelf
attribute [local go_sem] World.cell?_alloc_mark zae zav zai zaw zam zan zao zap zaq zar zas
attribute [local go_sem] zah zac
section
variable {base TB:Nat} {W W':World} {laws:List Law} {ds:List Deed} {LA DA:Option Addr} {nc mc:Nat} {s told s':St} {a0 a1 a2 a3 a4 a5 a6 b0 b1 b2 b3 b4 b5 b6 d0 d1 d2 d3 d4 d5 d6:Value}
end
theorem zlU{laws:List Law}(aG:za7 laws=0):∀ {ds:List Deed} {s:St} {k:Nat} {last:Int},GoodSt s last->(zax laws 200000 ds s s k last).2.2=0->∃b,GoodSt (zax laws 200000 ds s s k last).1 b/\b=((ds.getLast?.map (·.day)).getD last)
 | [],s,k,last,hg,_=>⟨last,hg,rfl⟩
 |d::l,s,k,last,hg,h=>by
  rw[zax]at h⊢;split at h
  ·exact Mae
  ·rename_i hc
   rw[if_neg hc];have hn:=zcy (show(zb4 laws s k last d).2=0 by simpa using hc);have hd:=zdv hn.1;have aD:zaZ laws s d=((zb4 laws s k last d).1,0):=by rw[<-hn.2.2.2];exact Prod.ext rfl Mcv
   have C4:decide (d.day<=200000)=true:=by simpa using hd.day.2
   rw[if_pos C4]at h⊢;obtain⟨b,g,e⟩:=zlU aG (zfF hg hd hn.2.2.1 aG aD) h;refine⟨b,g,?_⟩;rw[e];cases l with
   |nil=>rfl
   |cons x r=>
    rw[List.getLast?_cons_cons];cases hh:(x::r).getLast? with
    |none=>simp at hh
    |some y=>rfl
theorem zeV{laws:List Law}{ds:List Deed}{u:Int}(h:(zaz laws ds u).2.2=0):za7 laws=0:=by
 unfold zaz at h;split at h
 ·rename_i h1
  exact absurd h Mb7
 ·rename_i h1
  simpa using h1
theorem zh8{laws:List Law}{ds:List Deed}(h:(zaz laws ds 200000).2.2=0):GoodSt (zaz laws ds 200000).1 (ze7 ds):=by
 have aG:=zeV h;unfold zaz at h⊢;rw[if_neg McT]at h⊢;obtain⟨b,g,e⟩:=zlU aG (zec 0) h;rw[e]at g;exact g
theorem zmO(laws:List Law)(ds:List Deed)(u u':Int):(zaz laws ds u).2=(zaz laws ds u').2:=by
 unfold zaz;split
 ·rfl
 ·exact zfS laws u u' ds _ _ _ _ _
