/- Walks of chapter 5: copies of laws, deeds, parts; a deed copied. -/
import Derived.Test.YtjhbofabmpfniaaGreatDoorDM
set_option linter.unusedSimpArgs false
set_option linter.unusedVariables false
set_option maxRecDepth 100000
set_option maxHeartbeats 4000000
namespace Go.Proofs.YtjhbofabmpfniaaGreatDoor
open Go.RowKit Go.Shelf
attribute [local go_sem] World.cell?_alloc_mark zae za3 zam za6 zas zat zau zav zaw zax zay
attribute [local go_sem] zaj zac
theorem zkT (xs:List DV) (L:Option Addr) (n lc:Nat) (w:World) (hn:n=xs.length) (hl:xs.length<=100000) (hS:Sl w 7 DV.cells L xs):
 Calls Tryz.prog 71 #[.slice L n lc] w (zfo w 52 7 DV.cells xs):=by
 have HM:=zHi hn;have q22: ∀(w:World) (a:Option Addr) (n c n' c':Nat),(binOp .eql 23 (.slice a n c) (.slice none n' c')).run Tryz.prog w= .ok (.bool a.isNone) w:=fun w a n c n' c'=>Lib.run_eql_slice_nil w _ _ a n c n' c' Tryz.underlying23
 clear hn;go_enter Tryz.func71,Tryz.ntmps71
 cases L with
 |none=>
  exact MK
 |some ad=>
  go_wp2_with (at_builtin;refine zcl rfl _ _ rfl zeW zb0 zeV rfl (World.ownsRow_made w #[] 0 (Nat.le_refl _) (Nat.zero_le _) Mcq) rfl HM.o (hS.keep Bw) ?q1 ?q2 Mcq ?_)
  case q1=>simp[maxLen,HM.o];omega
  case q2=>simp[HM.o];omega
  intro v' w' h1 h2 h3;go_wp2_with fail
  go_ret
  refine⟨v',rfl,OwnS.of_own zb0 MdV,Below.grown Bw h2 Mcq Mc8⟩
theorem zms (xs:List Law) (L:Option Addr) (n lc:Nat) (w:World) (hn:n=xs.length) (hl:xs.length<=100000) (hS:Sl w 4 Law.cells L xs):
 Calls Tryz.prog 70 #[.slice L n lc] w (zfo w 130 4 Law.cells xs):=by
 have HM:=zHi hn;have q22: ∀(w:World) (a:Option Addr) (n c n' c':Nat),(binOp .eql 22 (.slice a n c) (.slice none n' c')).run Tryz.prog w= .ok (.bool a.isNone) w:=fun w a n c n' c'=>Lib.run_eql_slice_nil w _ _ a n c n' c' Tryz.underlying22
 clear hn;go_enter Tryz.func70,Tryz.ntmps70
 cases L with
 |none=>
  exact MK
 |some ad=>
  go_wp2_with (at_builtin;refine zcl rfl _ _ rfl elLaw (fun _=>rfl) lw_one rfl (World.ownsRow_made w #[] 0 (Nat.le_refl _) (Nat.zero_le _) Mcq) rfl HM.o (hS.keep Bw) ?q1 ?q2 Mcq ?_)
  case q1=>simp[maxLen,HM.o];omega
  case q2=>simp[HM.o];omega
  intro v' w' h1 h2 h3;go_wp2_with fail
  go_ret
  refine⟨v',rfl,OwnS.of_own (fun _=>rfl) MdV,Below.grown Bw h2 Mcq Mc8⟩
theorem zju (xs:List RPart) (L:Option Addr) (n lc:Nat) (w:World) (hn:n=xs.length) (hl:xs.length<=100000) (hS:Sl w 3 RPart.cells L xs):
 Calls Tryz.prog 108 #[.slice L n lc] w (zfo w 75 3 RPart.cells xs):=by
 have HM:=zHi hn;have q22: ∀(w:World) (a:Option Addr) (n c n' c':Nat),(binOp .eql 39 (.slice a n c) (.slice none n' c')).run Tryz.prog w= .ok (.bool a.isNone) w:=fun w a n c n' c'=>Lib.run_eql_slice_nil w _ _ a n c n' c' Tryz.underlying39
 clear hn;go_enter Tryz.func108,Tryz.ntmps108
 cases L with
 |none=>
  exact MK
 |some ad=>
  go_wp2_with (at_builtin;refine zcl rfl _ _ rfl elRPart zjP rp_one rfl (World.ownsRow_made w #[] 0 (Nat.le_refl _) (Nat.zero_le _) Mcq) rfl HM.o (hS.keep Bw) ?q1 ?q2 Mcq ?_)
  case q1=>simp[maxLen,HM.o];omega
  case q2=>simp[HM.o];omega
  intro v' w' h1 h2 h3;go_wp2_with fail
  go_ret
  refine⟨v',rfl,OwnS.of_own zjP MdV,Below.grown Bw h2 Mcq Mc8⟩
theorem dv_of {W:World} {A:Option Addr} {ds:List Deed} (h:SlW W 7 zfc A ds): ∃xs:List DV,xs.map (·.d)=ds/\(∀x∈xs,x.d.to.length<=x.c/\Sl W 3 RPart.cells x.B x.d.to)/\Sl W 7 DV.cells A xs:=by
 by_cases h0:ds=[]
 ·subst h0;exact⟨[],rfl,by simp,fun h=>absurd h Mcq⟩
 ·have hl:0<ds.length:=by cases ds with
   |nil=>exact absurd rfl h0
   |cons _ _=>simp
  obtain⟨b,off,hA,hb,hc⟩:=h hl;have hx: ∀(k:Nat) (hk:k<ds.length),∃y:DV,y.d=ds[k]/\y.d.to.length<=y.c/\Sl W 3 RPart.cells y.B y.d.to/\ ∀j u,y.cells[j]?=some u->W.cell? ⟨b,off+k*7+j,none⟩=some u:=fun k hk=>by
   obtain⟨cs,⟨B,c,h1,h2,h3⟩,h4⟩:=hc k _ (List.getElem?_eq_getElem hk);refine⟨⟨ds[k],B,c⟩,rfl,h1,h3,fun j u hu=>h4 j u ?_⟩;rw[h2];exact hu
  have b9: ∀n,n<=ds.length-> ∃xs:List DV,xs.map (·.d)=ds.take n/\(∀x∈xs,x.d.to.length<=x.c/\Sl W 3 RPart.cells x.B x.d.to)/\ ∀k x,xs[k]?=some x-> ∀j u,x.cells[j]?=some u->W.cell? ⟨b,off+k*7+j,none⟩=some u:=by
   intro n;induction n with
   |zero=>intro _;exact⟨[],by simp,by simp,by simp⟩
   |succ n ih=>
    intro hn;obtain⟨xs,h1,h2,h3⟩:=ih Mcn;obtain⟨y,e1,e2,e3,e4⟩:=hx n Mcn;have ag:xs.length=n:=by
     have:=congrArg List.length h1;simp at this;omega
    refine⟨xs++[y],?_,?_,?_⟩
    ·rw[List.map_append,h1,List.take_add_one,List.getElem?_eq_getElem (show n<ds.length by omega)];simp[e1]
    ·intro x ua;rcases List.mem_append.1 ua with ua|ua
     ·exact h2 x ua
     ·rw[List.mem_singleton]at ua;subst ua;exact⟨e2,e3⟩
    ·intro k x hk;by_cases jC:k<n
     ·rw[List.getElem?_append_left Mcn]at hk;exact h3 k x hk
     ·have fS:k=n:=by
       exact MbJ
      subst fS;rw[List.getElem?_append_right Mcn,ag]at hk;simp at hk;subst hk;exact e4
  obtain⟨xs,h1,h2,h3⟩:=b9 ds.length (Nat.le_refl _);rw[List.take_length]at h1;exact⟨xs,h1,h2,fun _=>⟨b,off,hA,hb,h3⟩⟩
end Go.Proofs.YtjhbofabmpfniaaGreatDoor
