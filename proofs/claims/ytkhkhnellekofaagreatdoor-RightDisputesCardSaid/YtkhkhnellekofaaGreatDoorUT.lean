/- Walks of the reference's choose, LeastDispute. -/
import Derived.Test.YtkhkhnellekofaaGreatDoorUR
import Derived.Test.YtkhkhnellekofaaGreatDoorRB
set_option linter.unusedSimpArgs false
set_option linter.unusedVariables false
namespace Go.Proofs.YtkhkhnellekofaaGreatDoor
open Go.RowKit Go.Shelf
attribute [local go_sem] World.cell?_alloc_mark ext_size ext_cell ext_frozen lt_add_r lt_add_r2 lt_add_r3 lt_add_r4 lt_add_r5 lt_add_r6 lt_add_r7 lt_add_r8
attribute [local go_sem] ext_setCell alloc_setCell_lt
def GotPost (w:World) (R:List Nat) (e:Ending) (w':World):Prop:=
 ∃A c,e= .returned (.slice A R.length c)/\R.length<=c/\Sl w' 1 intC A R/\Below w.heap.size w w'
noncomputable def restC (l:List Rec) (d:Nat) (set:List Nat) (j:Nat):List Nat:=
 ((List.range' j (l.length-j)).findSome? fun i=>if(chooseP l d (set++[i]) (i+1)).isEmpty then none else some (chooseP l d (set++[i]) (i+1))).getD []
theorem crest_end {l:List Rec} {d j:Nat} {set:List Nat} (h: ¬j<l.length):restC l d set j=[]:=by
 unfold restC
 rw[show l.length-j=0 by omega]
 rfl
theorem crest_none {l:List Rec} {d j:Nat} {set:List Nat} (h:j<l.length) (hc:chooseP l d (set++[j]) (j+1)=[]):restC l d set j=restC l d set (j+1):=by
 unfold restC
 rw[show l.length-j=(l.length-(j+1))+1 by omega,List.range'_succ,List.findSome?_cons,hc]
 rfl
theorem crest_some {l:List Rec} {d j x:Nat} {r set:List Nat} (h:j<l.length) (hc:chooseP l d (set++[j]) (j+1)=x::r):restC l d set j=x::r:=by
 unfold restC
 rw[show l.length-j=(l.length-(j+1))+1 by omega,List.range'_succ,List.findSome?_cons,hc]
 rfl
set_option maxRecDepth 100000 in
set_option maxHeartbeats 2000000 in
theorem rChoose_any (l:List Rec) (A:Option Addr) (c n:Nat) (hc:l.length<=c) (hl:l.length<=1000) (hn:n<=1000) (hok: ∀x∈l,checkRecP x=0): ∀(d:Nat) (set:List Nat) (k:Nat),set.length+d=n->(∀x∈set,x<l.length)->k<=l.length-> ∀(SA:Option Addr) (sc:Nat) (w:World),set.length<=sc->Sl w 8 Rec.cells A l->Sl w 1 intC SA set->
 Calls Tryz.prog 56 #[.slice A l.length c, .slice SA set.length sc, .int .i64 k, .int .i64 n] w (GotPost w (chooseP l d set k)):=by
 intro d
 induction d with
 |zero=>
  intro set k hsn hin hk SA sc w hsc hS hT
  have HOF:=Lib.hid (fun W (hW:Below w.heap.size w W)=>rOf_any l set A c SA sc W hc hsc (by omega) hin (hS.keep hW) (hT.keep hW))
  have HCO:=Lib.hid (fun W VA vc (hv:(ofP l set).length<=vc) (h:Sl W 8 Rec.cells VA (ofP l set))=>rContradicts_any (ofP l set) VA vc W hv (by have:=of_len l set;omega) (fun x hx=>hok x (of_mem x hx)) h)
  have HT:=Lib.hid hT
  rw[chooseP]
  have hsn2:(set.length:Int)=(n:Int):=by omega
  clear hS hT hin hok
  go_enter Tryz.func56,Tryz.ntmps56
  cases hce:contraP (ofP l set)
  ·rw[if_neg (by simp)]
   have HCE:=Lib.hid hce
   clear hce
   go_wp2_with (first
    |(go_at_call 44;go_must(refine(HOF.out _ Bw).mono ?_);rintro e w1 ⟨v1,rfl,o1,b1⟩;obtain⟨A1,c1,rfl,s1,hc1⟩:=o1.sl recC_len)
    |(go_at_call 11;go_must(refine(HCO.out _ A1 c1 hc1 s1).mono ?_);rw[HCE.out];rintro e w2 ⟨rfl,z,rfl⟩))
   go_ret
   exact⟨none,0,rfl,by simp,Sl.nil,Bw⟩
  ·rw[if_pos rfl]
   have HCE:=Lib.hid hce
   clear hce
   go_wp2_with (first
    |(go_at_call 44;go_must(refine(HOF.out _ Bw).mono ?_);rintro e w1 ⟨v1,rfl,o1,b1⟩;obtain⟨A1,c1,rfl,s1,hc1⟩:=o1.sl recC_len)
    |(go_at_call 11;go_must(refine(HCO.out _ A1 c1 hc1 s1).mono ?_);rw[HCE.out];rintro e w2 ⟨rfl,z,rfl⟩))
   go_ret
   exact⟨SA,sc,rfl,hsc,HT.out.keep (n:=w.heap.size) Bw,Bw⟩
 |succ d ih=>
  intro set k hsn hin hk SA sc w hsc hS hT
  have HS:=Lib.hid hS
  have HT:=Lib.hid hT
  have HIN:=Lib.hid hin
  have HIH:Hid (∀(j:Nat) (SA2:Option Addr) (sc2:Nat) (W:World),j<l.length->set.length+1<=sc2->Sl W 8 Rec.cells A l->Sl W 1 intC SA2 (set++[j])->Calls Tryz.prog 56 #[.slice A l.length c, .slice SA2 (set.length+1) sc2, .int .i64 ((j:Int)+1), .int .i64 n] W (GotPost W (chooseP l d (set++[j]) (j+1)))):=by
   intro j SA2 sc2 W hj h1 h2 h3
   have:=ih (set++[j]) (j+1) (by simp;omega) (fun x hx=>by
    rcases List.mem_append.1 hx with h|h
    ·exact hin x h
    ·simp at h;omega) hj SA2 sc2 W (by simpa using h1) h2 h3
   rw[show(set++[j]).length=set.length+1 by simp]at this
   exact this
  have HCI:=Lib.hid (fun W (hW:Below w.heap.size w W)=>copyInts_any set SA sc W (by omega) (hT.keep hW))
  obtain⟨R,hR⟩: ∃R,R=chooseP l (d+1) set k:=⟨_,rfl⟩
  rw[<-hR]
  have HR:Hid (R=restC l d set k):=by
   show _=_
   rw[hR,chooseP]
   rfl
  have hne: ¬(set.length:Int)=(n:Int):=by omega
  have hne2:((set.length:Int)==(n:Int))=false:=by simpa using hne
  clear hS hT hin ih hR
  go_enter Tryz.func56,Tryz.ntmps56
  go_upto_region 6 with fail
  go_loopw [9] (fun i wr=> ∃j:Nat,j<=l.length/\i= .int .i64 j/\Below w.heap.size w wr/\Hid (R=restC l d set j)) (fun i _=>l.length-(intOf i).toNat)
  case atStart=>exact⟨k,hk,rfl,Below.refl _ _,HR.out⟩
  case round=>
   obtain⟨j,hj,rfl,hB,HX⟩:=hrel
   have HB:=Lib.hid hB
   have hbs:=hB.size
   by_cases hlt:j<l.length
   ·have HLT:=Lib.hid hlt
    have hki:(j:Int)<(l.length:Int):=by omega
    have w1:IntKind.i64.wrap ((j:Int)+1)=(j:Int)+1:=by rw[IntKind.wrap_i64];omega
    have hk0:(0:Int)<=(j:Int):=by omega
    cases hcc:chooseP l d (set++[j]) (j+1)with
    |nil=>
     have HX2:=Lib.hid (HX.out.trans (crest_none hlt hcc))
     have HCC:=Lib.hid hcc
     clear hcc hB hlt HX
     go_wp2_with (first
      |(go_at_call 26;go_must(refine(HCI.out _ HB.out).mono ?_);rintro e w1 ⟨v1,rfl,o1,b1⟩;obtain⟨A1,c1,rfl,s1,hc1⟩:=o1.sl intC_len;have hb1:=HB.out.trans (b1.mono hbs);have hs1:=b1.size)
      |(at_builtin
        go_loud(refine wpList_append_S (v:= .slice A1 set.length c1) (n:=set.length) (m:=1) rfl _ _ rfl elInt intC_len intC_one rfl (xs:=set) (ys:=[j]) (o1.keep (n:=w1.heap.size) Bw) rfl rfl rfl (sl_int (J_new _ _ _ rfl)) (by simp[maxLen];omega) (by omega) (by simp;omega) ?_)
        intro v3 w3 h1 h2 h3
        have hb3:=Below.grown (B:=w.heap.size) (a:=w) (hb1.trans (Below.mono (B:=w1.heap.size) (B_alloc (Below.refl _ _) _) hb1.size)) h2 (by have:=hb1.size;simp;omega) (fun i hi=>by have:=(o1.ge i hi).1;omega)
        obtain⟨A5,c5,hv5,s5,hc5⟩:=h1.sl intC_len
        rw[List.length_append,List.length_singleton]at hv5 hc5
        subst hv5
        clear h1 h2 h3)
      |(go_at_call 56;go_must(refine(HIH.out j A5 c5 _ HLT.out hc5 (HS.out.keep hb3) s5).mono ?_);rintro e w6 ⟨A6,c6,rfl,hc6,s6,b6⟩;rw[HCC.out]at hc6 s6⊢;have HB6:=Lib.hid (hb3.trans (b6.mono hb3.size));clear b6 hb3))
     go_round
     case rel=>exact⟨j+1,HLT.out,by go_num,HB6.out,HX2.out⟩
     case measure=>have:=HLT.out;simp only[intOf];omega
    |cons x r=>
     have HRX:=Lib.hid (HX.out.trans (crest_some hlt hcc))
     have HCC:=Lib.hid hcc
     have hpos:(0:Int)<((x::r).length:Int):=by rw[List.length_cons];omega
     have hpos2:(0:Int)<(r.length:Int)+1:=by omega
     clear hcc hB hlt HX
     go_wp2_with (first
      |(go_at_call 26;go_must(refine(HCI.out _ HB.out).mono ?_);rintro e w1 ⟨v1,rfl,o1,b1⟩;obtain⟨A1,c1,rfl,s1,hc1⟩:=o1.sl intC_len;have hb1:=HB.out.trans (b1.mono hbs);have hs1:=b1.size)
      |(at_builtin
        go_loud(refine wpList_append_S (v:= .slice A1 set.length c1) (n:=set.length) (m:=1) rfl _ _ rfl elInt intC_len intC_one rfl (xs:=set) (ys:=[j]) (o1.keep (n:=w1.heap.size) Bw) rfl rfl rfl (sl_int (J_new _ _ _ rfl)) (by simp[maxLen];omega) (by omega) (by simp;omega) ?_)
        intro v3 w3 h1 h2 h3
        have hb3:=Below.grown (B:=w.heap.size) (a:=w) (hb1.trans (Below.mono (B:=w1.heap.size) (B_alloc (Below.refl _ _) _) hb1.size)) h2 (by have:=hb1.size;simp;omega) (fun i hi=>by have:=(o1.ge i hi).1;omega)
        obtain⟨A5,c5,hv5,s5,hc5⟩:=h1.sl intC_len
        rw[List.length_append,List.length_singleton]at hv5 hc5
        subst hv5
        clear h1 h2 h3)
      |(go_at_call 56;go_must(refine(HIH.out j A5 c5 _ HLT.out hc5 (HS.out.keep hb3) s5).mono ?_);rintro e w6 ⟨A6,c6,rfl,hc6,s6,b6⟩;rw[HCC.out]at hc6 s6⊢;have HB6:=Lib.hid (hb3.trans (b6.mono hb3.size));clear b6 hb3))
     go_ret
     exact⟨A6,c6,by rw[HRX.out];rfl,by rw[HRX.out];exact hc6,by rw[HRX.out];exact s6,HB6.out⟩
   ·have HRX:=Lib.hid (HX.out.trans (crest_end hlt))
    have hki: ¬(j:Int)<(l.length:Int):=by omega
    go_wp2_with fail
    go_ret
    exact⟨none,0,by rw[HRX.out];rfl,by rw[HRX.out];simp,by rw[HRX.out];exact Sl.nil,HB.out⟩
theorem lgo_none {l:List Rec} {f size:Nat} (h:chooseP l size [] 0=[]):leastGo l (f+1) size=leastGo l f (size+1):=by
 rw[leastGo,h]
 rfl
theorem lgo_some {l:List Rec} {f size x:Nat} {r:List Nat} (h:chooseP l size [] 0=x::r):leastGo l (f+1) size=x::r:=by
 rw[leastGo,h]
 rfl
set_option maxRecDepth 100000 in
set_option maxHeartbeats 2000000 in
theorem rLeast_any (l:List Rec) (A:Option Addr) (c:Nat) (w:World) (hc:l.length<=c) (hl:l.length<=999) (hok: ∀x∈l,checkRecP x=0) (hS:Sl w 8 Rec.cells A l):
 Calls Tryz.prog 29 #[.slice A l.length c] w (GotPost w (leastGo l l.length 1)):=by
 have HCH:Hid (∀(k:Nat) W,k<=l.length->Below w.heap.size w W->Calls Tryz.prog 56 #[.slice A l.length c, .slice none 0 0, .int .i64 0, .int .i64 k] W (GotPost W (chooseP l k [] 0))):=fun k W hk hW=>
  rChoose_any l A c k hc (by omega) (by omega) hok k [] 0 (by simp) (by simp) (Nat.zero_le _) none 0 W (by simp) (hS.keep hW) Sl.nil
 obtain⟨R,hR⟩: ∃R,R=leastGo l l.length 1:=⟨_,rfl⟩
 rw[<-hR]
 have HR:=Lib.hid hR
 clear hS hok hR
 go_enter Tryz.func29,Tryz.ntmps29
 go_upto_region 2 with fail
 go_loopw [3] (fun i wr=> ∃k f:Nat,i= .int .i64 k/\f+k=l.length+1/\Below w.heap.size w wr/\Hid (R=leastGo l f k)) (fun i _=>l.length+1-(intOf i).toNat)
 case atStart=>exact⟨1,l.length,rfl,rfl,Below.refl _ _,HR.out⟩
 case round=>
  obtain⟨k,f,rfl,hf,hB,HX⟩:=hrel
  have HB:=Lib.hid hB
  have hbs:=hB.size
  cases f with
  |zero=>
   have HRX:Hid (R=[]):=by show _=_;rw[HX.out,leastGo]
   have hki: ¬(k:Int)<=(l.length:Int):=by omega
   have hki2:(l.length:Int)<(k:Int):=by omega
   clear hB HX
   go_wp2_with fail
   go_ret
   exact⟨none,0,by rw[HRX.out];rfl,by rw[HRX.out];simp,by rw[HRX.out];exact Sl.nil,HB.out⟩
  |succ f=>
   have HLE:Hid (k<=l.length):=by show _<=_;omega
   have hki:(k:Int)<=(l.length:Int):=by omega
   have w1:IntKind.i64.wrap ((k:Int)+1)=(k:Int)+1:=by rw[IntKind.wrap_i64];omega
   cases hcc:chooseP l k [] 0 with
   |nil=>
    have HX2:=Lib.hid (HX.out.trans (lgo_none hcc))
    have HCC:=Lib.hid hcc
    clear hcc hB HX
    go_wp2_with (go_at_call 56;go_must(refine(HCH.out k _ HLE.out HB.out).mono ?_);rintro e w6 ⟨A6,c6,rfl,hc6,s6,b6⟩;rw[HCC.out]at hc6 s6⊢;have HB6:=Lib.hid (HB.out.trans (b6.mono hbs));clear b6)
    go_round
    case rel=>exact⟨k+1,f,by go_num,by omega,HB6.out,HX2.out⟩
    case measure=>have:=HLE.out;simp only[intOf];omega
   |cons x r=>
    have HRX:=Lib.hid (HX.out.trans (lgo_some hcc))
    have HCC:=Lib.hid hcc
    have hpos:(0:Int)<((x::r).length:Int):=by rw[List.length_cons];omega
    have hpos2:(0:Int)<(r.length:Int)+1:=by omega
    clear hcc hB HX
    go_wp2_with (go_at_call 56;go_must(refine(HCH.out k _ HLE.out HB.out).mono ?_);rintro e w6 ⟨A6,c6,rfl,hc6,s6,b6⟩;rw[HCC.out]at hc6 s6⊢;have HB6:=Lib.hid (HB.out.trans (b6.mono hbs));clear b6)
    go_ret
    exact⟨A6,c6,by rw[HRX.out];rfl,by rw[HRX.out];exact hc6,by rw[HRX.out];exact s6,HB6.out⟩
end Go.Proofs.YtkhkhnellekofaaGreatDoor
