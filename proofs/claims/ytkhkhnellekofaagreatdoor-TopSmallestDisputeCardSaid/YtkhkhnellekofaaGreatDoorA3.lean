/- Walks: the reference's names and sites; an event by itself. -/
import Derived.Test.YtkhkhnellekofaaGreatDoorRJ
import Derived.Test.YtkhkhnellekofaaGreatDoorO9
import Derived.Test.YtkhkhnellekofaaGreatDoorO0
import Derived.Test.YtkhkhnellekofaaGreatDoorJH
import Derived.Test.YtkhkhnellekofaaGreatDoorRN
import Derived.Test.YtkhkhnellekofaaGreatDoorRL
import Derived.Test.YtkhkhnellekofaaGreatDoorE2
import Derived.Test.YtkhkhnellekofaaGreatDoorK0
import Derived.Test.YtkhkhnellekofaaGreatDoorProg
import Derived.Test.YtkhkhnellekofaaGreatDoorN1
set_option linter.unusedSimpArgs false
set_option linter.unusedVariables false
namespace Go.Proofs.YtkhkhnellekofaaGreatDoor
open Go.RowKit
structure FewS (k:Nat) (s:St):Prop where
 graves:s.graves.length<=k
 kids:s.children.length<=k
 marr:s.marriages.length<=k
 dead:s.dead.length<=k
 ren:s.renounce.length<=k
 wills: ∀n,(willOf s n).length<=8
 held: ∀g∈s.graves,g.holders.length<=80*k/\g.died.length<=k/\g.fin<=200000
theorem after_le (day years:Int):afterP day years<=200000:=by
 unfold afterP addMonthsP
 simp only
 split
 ·decide
 ·split
  ·rename_i h
   have:=(inR_iff5.1 h).2
   omega
  ·decide
theorem few_zero:FewS 0 zeroSt:=⟨Nat.le_refl _,Nat.le_refl _,Nat.le_refl _,Nat.le_refl _,Nat.le_refl _,fun n=>by simp[zeroSt,willOf],by simp[zeroSt]⟩
theorem FewS.up {k:Nat} {s:St} (h:FewS k s):FewS (k+1) s:=
 ⟨Nat.le_succ_of_le h.graves,Nat.le_succ_of_le h.kids,Nat.le_succ_of_le h.marr,Nat.le_succ_of_le h.dead,Nat.le_succ_of_le h.ren,h.wills,fun g hg=>by have:=h.held g hg;exact⟨by omega,by omega,this.2.2⟩⟩
theorem without_len (l:Parts) (n:ByteArray):(withoutP l n).length<=l.length:=List.length_filter_le _ _
theorem gain_len {own:Rat}: ∀ {l out o:Parts},gainGo own l out=some o->o.length<=out.length+l.length
 | [],out,o,h=>by
   rw[gainGo]at h
   cases h
   simp
 |p::l,out,o,h=>by
  rw[gainGo]at h
  split at h
  ·cases h
  split at h
  ·cases h
  have:=gain_len h
  have h2:=given_len p.1 (own*p.2) out
  simp
  omega
theorem FewS.withG {k:Nat} {s:St} {i:Nat} {g g':Grave} (h:FewS k s) (hi:s.graves[i]?=some g) (h1:g'.holders.length<=80*k+80) (h2:g'.died.length<=k+1) (h3:g'.fin<=200000):FewS (k+1) (s.withGrave i g'):=by
 refine {h.up with graves:= ?_,held:=fun x hx=> ?_}
 ·unfold St.withGrave
  simp only[List.length_set]
  exact Nat.le_succ_of_le h.graves
 ·unfold St.withGrave at hx
  rcases List.mem_or_eq_of_mem_set hx with hx|rfl
  ·exact h.up.held x hx
  ·exact⟨by omega,h2,h3⟩
theorem few_ix {s:St} {pl:ByteArray} {day:Int} {i:Nat} (h:graveIx s pl day=some i): ∃g,s.graves[i]?=some g/\s.graves.getD i zeroG=g/\g∈s.graves:=by
 obtain⟨g,h1,_⟩:=graveIx_some h
 exact⟨g,h1,grave_at h1,List.mem_of_getElem? h1⟩
theorem few_take {laws:List Law} {s s':St} {d:Deed} {last:Int} {k:Nat} (h:FewS k s) (hk:k<60) (hG:GoodSt s last) (hd:OkD d) (hl:last<=d.day) (hlw:checkLawsP laws=0) (ht:takeD laws s d=(s',0)):FewS (k+1) s':=by
 have hto:=hd.len
 have hkd:=hd.kind
 unfold takeD at ht
 split at ht
 ·unfold grantP at ht
  split at ht
  ·simp at ht
  split at ht
  ·simp at ht
  split at ht
  ·simp at ht
  simp only[Prod.mk.injEq,and_true]at ht
  rw[<-ht]
  refine {h.up with graves:= ?_,held:=fun g hg=> ?_}
  ·have:=h.graves
   simp
   omega
  ·rcases List.mem_append.1 hg with hg|hg
   ·exact h.up.held g hg
   ·rw[List.mem_singleton.1 hg]
    have:=givenAll_len d.to []
    simp only[List.length_nil]at this⊢
    refine⟨by omega,Nat.zero_le _,?_⟩
    split
    ·exact after_le _ _
    ·decide
 split at ht
 ·unfold transferP at ht
  split at ht
  ·simp at ht
  rename_i i hi
  obtain⟨g,hg1,hg2,hgm⟩:=few_ix hi
  rw[hg2]at ht
  simp only at ht
  split at ht
  ·simp at ht
  split at ht
  ·simp at ht
  split at ht
  ·simp at ht
  split at ht
  ·simp at ht
  split at ht
  ·simp at ht
  rename_i out ho
  simp only[Prod.mk.injEq,and_true]at ht
  rw[<-ht]
  have h1:=gain_len ho
  have h2:=given_len d.frm (shareP g.holders d.frm*(1-sumQ (ratParts d.to))) (withoutP g.holders d.frm)
  have h3:=without_len g.holders d.frm
  have h4:=h.held g hgm
  have h5:(ratParts d.to).length=d.to.length:=by unfold ratParts;simp
  exact h.withG hg1 (by simp only;omega) (by simp only;omega) (by simp only;omega)
 split at ht
 ·unfold surrenderP at ht
  split at ht
  ·simp at ht
  rename_i i hi
  obtain⟨g,hg1,hg2,hgm⟩:=few_ix hi
  rw[hg2]at ht
  simp only at ht
  split at ht
  ·simp at ht
  split at ht
  ·simp at ht
  simp only[Prod.mk.injEq,and_true]at ht
  rw[<-ht]
  have h3:=without_len g.holders d.frm
  have h4:=h.held g hgm
  exact h.withG hg1 (by simp only[List.length_map];omega) (by simp only;omega) (by simp only;omega)
 split at ht
 ·unfold renewP at ht
  split at ht
  ·simp at ht
  rename_i i hi
  obtain⟨g,hg1,hg2,hgm⟩:=few_ix hi
  rw[hg2]at ht
  simp only at ht
  split at ht
  ·simp at ht
  split at ht
  ·simp at ht
  simp only[Prod.mk.injEq,and_true]at ht
  rw[<-ht]
  have h4:=h.held g hgm
  exact h.withG hg1 (by simp only;omega) (by simp only;omega) (after_le _ _)
 split at ht
 ·unfold willP at ht
  split at ht
  ·simp at ht
  simp only[Prod.mk.injEq,and_true]at ht
  rw[<-ht]
  refine {h.up with wills:=fun n=> ?_}
  rw[will_append]
  split
  ·unfold ratParts;simpa using hto
  ·exact h.wills n
 split at ht
 ·unfold renounceP at ht
  split at ht
  ·simp at ht
  split at ht
  ·simp at ht
  simp only[Prod.mk.injEq,and_true]at ht
  rw[<-ht]
  exact {h.up with ren:=by have:=h.ren;simp;omega}
 split at ht
 ·unfold childP at ht
  split at ht
  ·simp at ht
  split at ht
  ·simp at ht
  split at ht
  ·simp at ht
  simp only[Prod.mk.injEq,and_true]at ht
  rw[<-ht]
  exact {h.up with kids:=by have:=h.kids;simp;omega}
 split at ht
 ·unfold marryP at ht
  split at ht
  ·simp at ht
  split at ht
  ·simp at ht
  simp only[Prod.mk.injEq,and_true]at ht
  rw[<-ht]
  exact {h.up with marr:=by have:=h.marr;simp;omega}
 ·unfold deathP at ht
  split at ht
  ·simp at ht
  split at ht
  ·simp at ht
  rename_i gs hgs
  simp only[Prod.mk.injEq,and_true]at ht
  rw[<-ht]
  obtain⟨hlen,hat⟩:=dies_at hgs
  refine {h.up with graves:=by have:=h.graves;simp only;omega,dead:=by have:=h.dead;simp;omega,held:=fun x hx=> ?_}
  obtain⟨i,hi⟩:=List.mem_iff_getElem?.1 hx
  obtain⟨g,g1,g2⟩:=hat i x hi
  have h4:=h.held g (List.mem_of_getElem? g1)
  rcases g2 with⟨rfl,_⟩|⟨_,hs,out,e1,e2,rfl⟩
  ·exact h.up.held x (List.mem_of_getElem? g1)
  ·have h1:=gain_len e2
   have h3:=without_len g.holders d.frm
   have hsh:=law_share hlw d.day
   have hgd:=estate_good (hG.wills d.frm) hsh e1
   have hes:=(estate_same (s:=s) (n:=d.frm) (hG.wills d.frm) hsh).1 hs e1
   have hhl:=heirs_len (s:=s) (law:=lawOnP laws d.day) (n:=d.frm) (by rw[hes];exact hgd.1)
   rw[hes]at hhl
   have:=h.wills d.frm
   have:=h.kids
   simp only[List.length_append,List.length_singleton]at*
   exact⟨by omega,by omega,h4.2.2⟩
end Go.Proofs.YtkhkhnellekofaaGreatDoor
namespace Go.Proofs.YtkhkhnellekofaaGreatDoor
open Go.RowKit Go.Shelf
attribute [local go_sem] World.cell?_alloc_mark ext_size ext_cell ext_frozen lt_add_r lt_add_r2 lt_add_r3 lt_add_r4 lt_add_r5 lt_add_r6 lt_add_r7 lt_add_r8
attribute [local go_sem] ext_setCell alloc_setCell_lt
theorem rec_kind {x:Rec} (h:checkRecP x=0):0<=x.kind/\x.kind<=4:=by
 unfold checkRecP at h
 split at h
 ·simp at h
 ·rename_i hc
  unfold inR at hc
  simp at hc
  omega
theorem contradicts_any (l:List Rec) (A:Option Addr) (c:Nat) (w:World) (hc:l.length<=c) (hl:l.length<=1000) (hok: ∀x∈l,checkRecP x=0) (hS:Sl w 8 Rec.cells A l):
 Calls Tryz.prog 38 #[.slice A l.length c] w (Ret w (.bool (contraP l))):=
 contradicts_of l A c _ _ w hc hl (fun x hx=>rec_kind (hok x hx)) hS (fun W hB=>circle_any l A c W hc hl (hS.keep hB)) (fun W hB=>tooMuch_any l A c W hc hl hok (hS.keep hB))
end Go.Proofs.YtkhkhnellekofaaGreatDoor
namespace Go.Proofs.YtkhkhnellekofaaGreatDoor
open Go.RowKit Go.Shelf
attribute [local go_sem] World.cell?_alloc_mark ext_size ext_cell ext_frozen lt_add_r lt_add_r2 lt_add_r3 lt_add_r4 lt_add_r5 lt_add_r6 lt_add_r7 lt_add_r8
attribute [local go_sem] ext_setCell alloc_setCell_lt
noncomputable def bestsGo (l:List Rec):Nat->Option (List Nat)
 |0=>none
 |k+1=>bestStep l (bestsGo l k) (bitsP l.length k)
def BestAt (W:World) (base:Nat) (v:Value):Option (List Nat)->Prop
 |none=>v= .slice none 0 0
 |some s=>s≠[]/\OwnS W base 3 1 intC v s
end Go.Proofs.YtkhkhnellekofaaGreatDoor
namespace Go.Proofs.YtkhkhnellekofaaGreatDoor
open Go.RowKit
def zC (n:Int):List Value:=[.int .i64 n]
theorem zC_len (n:Int):(zC n).length=1:=rfl
theorem zC_one (n:Int): ∀u∈zC n,u.oneCell'=true:=by simp[zC,Value.oneCell']
end Go.Proofs.YtkhkhnellekofaaGreatDoor
namespace Go.Proofs.YtkhkhnellekofaaGreatDoor
open Go.RowKit
attribute [local go_sem] World.cell?_alloc_mark ext_size ext_cell ext_frozen lt_add_r lt_add_r2 lt_add_r3 lt_add_r4 lt_add_r5 lt_add_r6 lt_add_r7 lt_add_r8
theorem bwithin_any (n lo hi:Int) (w:World):
 Calls Tryz.prog 33 #[.int .i64 n, .int .i64 lo, .int .i64 hi] w (Ret0 w (.bool (inR n lo hi))):=by
 go_enter Tryz.func33,Tryz.ntmps33
 go_wp2
 all_goals go_ret
 all_goals(refine⟨?_,rfl⟩;simp[inR, *])
 omega
theorem letter_any (n:Int) (w:World):Calls Tryz.prog 62 #[.int .u8 n] w (Ret0 w (.bool (letterI n))):=by
 go_enter Tryz.func62,Tryz.ntmps62
 go_wp2
 all_goals go_ret
 all_goals refine⟨?_,rfl⟩
 all_goals refine bool_eq' ?_
 all_goals go_tidy
 all_goals simp[letterI]
 all_goals omega
theorem digit_any (n:Int) (w:World):Calls Tryz.prog 63 #[.int .u8 n] w (Ret0 w (.bool (digitI n))):=by
 go_enter Tryz.func63,Tryz.ntmps63
 go_wp2
 all_goals go_ret
 all_goals refine⟨?_,rfl⟩
 all_goals refine bool_eq' ?_
 all_goals go_tidy
 all_goals simp[digitI]
 all_goals omega
end Go.Proofs.YtkhkhnellekofaaGreatDoor
namespace Go.Proofs.YtkhkhnellekofaaGreatDoor
open Go.RowKit
attribute [local go_sem] World.cell?_alloc_mark ext_size ext_cell ext_frozen lt_add_r lt_add_r2 lt_add_r3 lt_add_r4 lt_add_r5 lt_add_r6 lt_add_r7 lt_add_r8
end Go.Proofs.YtkhkhnellekofaaGreatDoor
namespace Go.Proofs.YtkhkhnellekofaaGreatDoor
open Go.RowKit
attribute [local go_sem] World.cell?_alloc_mark ext_size ext_cell ext_frozen lt_add_r lt_add_r2 lt_add_r3 lt_add_r4 lt_add_r5 lt_add_r6 lt_add_r7 lt_add_r8
set_option maxRecDepth 100000 in
set_option maxHeartbeats 2000000 in
theorem bIsName_any (s:ByteArray) (w:World) (hs:s.size<=100000):
 Calls Tryz.prog 34 #[.string s] w (Ret0 w (.bool (isNameR s))):=by
 go_enter Tryz.func34,Tryz.ntmps34
 by_cases h0:s.size=0
 ·have H0:=Lib.hid h0
  have h1:(s.size:Int)<1:=by omega
  clear h0
  go_wp2_with fail
  go_ret
  exact⟨by simp[isNameR,h1],rfl⟩
 have h0':0<s.size:=by omega
 have hg:(bytesI s).getD 0 0=(s[0].toNat:Int):=by simp only[bytesI,List.getD_eq_getElem?_getD,List.getElem?_map,Array.getElem?_toList];rw[Array.getElem?_eq_getElem h0'];rfl
 go_wp2_with (first
  |(go_at_call 62;refine(letter_any _ _).mono ?_;intro e wq hq;rcases Ret0.bools hq with⟨rfl,⟨hb,rfl⟩|⟨hb,rfl⟩⟩<;>clear hq)
  |(go_at_call 63;refine(digit_any _ _).mono ?_;intro e wq hq;rcases Ret0.bools hq with⟨rfl,⟨hb,rfl⟩|⟨hb,rfl⟩⟩<;>clear hq))
 ·have HG:=Lib.hid hg
  clear hg
  go_loop [3] (fun i=> ∃k:Nat,1<=k/\k<=s.size/\i= .int .i64 k/\nmGoR ((bytesI s).drop 1)=nmGoR ((bytesI s).drop k)) (fun i=>s.size-(intOf i).toNat)
  case atStart=>exact⟨1,by omega,by omega,rfl,rfl⟩
  case round=>
   obtain⟨k,hk1,hk,rfl,hf⟩:=hrel
   by_cases hlt:k<s.size
   ·rw[bytesI_drop s k hlt,show s.data[k]=s[k]from rfl]at hf
    have HF:=Lib.hid hf
    clear hf
    have HL:=Lib.hid hlt
    go_wp2_with (first
     |(go_at_call 62;refine(letter_any _ _).mono ?_;intro e wq hq;rcases Ret0.bools hq with⟨rfl,⟨hb,rfl⟩|⟨hb,rfl⟩⟩<;>clear hq)
     |(go_at_call 63;refine(digit_any _ _).mono ?_;intro e wq hq;rcases Ret0.bools hq with⟨rfl,⟨hb,rfl⟩|⟨hb,rfl⟩⟩<;>clear hq))
    all_goals first
     |(go_round
       case rel=>exact⟨k+1,by omega,by have:=HL.out;omega,by go_num,by rw[HF.out,nmGoR,if_neg (by simp[*])]⟩
       case measure=>have:=HL.out;simp[intOf];omega)
     |(go_ret
       exact⟨by rw[isNameR,HG.out,HF.out,nmGoR];simp[*],rfl⟩)
   ·have hnil:(bytesI s).drop k=[]:=List.drop_eq_nil_of_le (by rw[bytesI_len];omega)
    rw[hnil,nmGoR]at hf
    clear hnil
    have HF:=Lib.hid hf
    clear hf
    go_wp2_with fail
    go_ret
    exact⟨by rw[isNameR,HG.out,HF.out];simp[*],rfl⟩
 ·go_ret
  exact⟨by rw[isNameR,hg];simp[*],rfl⟩
 ·go_ret
  exact⟨by rw[isNameR,hg];simp[*],rfl⟩
end Go.Proofs.YtkhkhnellekofaaGreatDoor
