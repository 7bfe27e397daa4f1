/- Walks of chapter 5's Holders, inForce, Class, Ends. -/
import Derived.Test.YtkhkhnellekofaaGreatDoorE8
import Derived.Test.YtkhkhnellekofaaGreatDoorO0
import Derived.Test.YtkhkhnellekofaaGreatDoorJ4
set_option linter.unusedSimpArgs false
set_option linter.unusedVariables false
namespace Go.Proofs.YtkhkhnellekofaaGreatDoor
open Go.RowKit Go.Shelf
attribute [local go_sem] World.cell?_alloc_mark ext_size ext_cell ext_frozen lt_add_r lt_add_r2 lt_add_r3 lt_add_r4 lt_add_r5 lt_add_r6 lt_add_r7 lt_add_r8
attribute [local go_sem] ext_setCell alloc_setCell_lt
theorem mapS_fresh {W:World} {b:Nat} {K V:Type} {ek:K->Value} {ev:V->Value} (h:W.heap[b]?=some (.map #[] 0)):MapS W b ek ev ([]:List (K×V)):=⟨#[],0,h,rfl,by simp,by simp⟩
def NewPost (w:World) (e:Ending) (w':World):Prop:=
 e= .returned (.agg #[.map (some (w.heap.size+1)), .map (some (w.heap.size+1+1)), .map (some (w.heap.size+1+1+1)), .slice none 0 0, .map (some (w.heap.size+1+1+1+1)), .map (some (w.heap.size+1+1+1+1+1))])/\
 w'.heap.size=w.heap.size+6/\(∀k,1<=k->k<=5->w'.heap[w.heap.size+k]?=some (.map #[] 0))/\Below w.heap.size w w'
theorem results_people {fn:Func} {p:Tmp} (h:fn.results= #[.cell p 110]) (tmps:Array Value) (w:World) (B:Nat) (x0 x1 x2 x3 x4 x5:Value) (hp:tmps.getD p undef= .pointer (some ⟨B,0,none⟩))
 (hx:w.heap[B]?=some (.cells #[x0,x1,x2,x3,x4,x5] 110)):(results fn tmps).run Tryz.prog w= .ok (.agg #[x0,x1,x2,x3,x4,x5]) w:=by
 have h0:w.cell? ⟨B,0,none⟩=some x0:=by simp only[World.cell?,hx];rfl
 have h1:w.cell? ⟨B,1,none⟩=some x1:=by simp only[World.cell?,hx];rfl
 have h2:w.cell? ⟨B,2,none⟩=some x2:=by simp only[World.cell?,hx];rfl
 have h3:w.cell? ⟨B,3,none⟩=some x3:=by simp only[World.cell?,hx];rfl
 have h4:w.cell? ⟨B,4,none⟩=some x4:=by simp only[World.cell?,hx];rfl
 have h5:w.cell? ⟨B,5,none⟩=some x5:=by simp only[World.cell?,hx];rfl
 clear hx
 rw[results_c1 h,hp]
 go_simp
set_option maxRecDepth 100000 in
set_option maxHeartbeats 2000000 in
theorem newPeople_any (w:World):Calls Tryz.prog 107 #[] w (NewPost w):=by
 have hmm:= @run_makeMap Tryz.prog
 go_enter Tryz.func107,Tryz.ntmps107
 go_wp2_with fail
 refine bodyPost_ret (v:= .agg #[.map (some (w.heap.size+1)), .map (some (w.heap.size+1+1)), .map (some (w.heap.size+1+1+1)), .slice none 0 0, .map (some (w.heap.size+1+1+1+1)), .map (some (w.heap.size+1+1+1+1+1))]) ?_ rfl ?_
 ·refine results_people rfl _ _ w.heap.size _ _ _ _ _ _ rfl ?_
  exact J_alloc (J_alloc (J_alloc (J_alloc (J_alloc (J_new _ _ _ rfl)))))
 ·refine⟨rfl,by simp,fun k h1 h2=> ?_,Bw⟩
  obtain rfl|rfl|rfl|rfl|rfl:k=1\/k=2\/k=3\/k=4\/k=5:=by omega
  ·exact J_alloc (J_alloc (J_alloc (J_alloc (J_new _ _ _ (by simp)))))
  ·exact J_alloc (J_alloc (J_alloc (J_new _ _ _ (by simp))))
  ·exact J_alloc (J_alloc (J_new _ _ _ (by simp)))
  ·exact J_alloc (J_new _ _ _ (by simp))
  ·exact J_new _ _ _ (by simp)
set_option maxRecDepth 100000 in
theorem wld_new {base:Nat} {w W:World} (hb:base<=w.heap.size) (hs:w.heap.size+6=W.heap.size) (hm: ∀k,1<=k->k<=5->W.heap[w.heap.size+k]?=some (.map #[] 0)):
 WldAt base (W.alloc (.cells #[.map (some (w.heap.size+1)), .map (some (w.heap.size+1+1)), .map (some (w.heap.size+1+1+1)), .slice none 0 0, .map (some (w.heap.size+1+1+1+1)), .map (some (w.heap.size+1+1+1+1+1)), .slice none 0 0, .int .i64 0, .int .i64 0] 113)) W.heap.size zeroSt 0 0:=by
 have hk: ∀k,1<=k->k<=5->(W.alloc (.cells #[.map (some (w.heap.size+1)), .map (some (w.heap.size+1+1)), .map (some (w.heap.size+1+1+1)), .slice none 0 0, .map (some (w.heap.size+1+1+1+1)), .map (some (w.heap.size+1+1+1+1+1)), .slice none 0 0, .int .i64 0, .int .i64 0] 113)).heap[w.heap.size+k]?=some (.map #[] 0):=fun k h1 h2=>(Below.heap_alloc _ _ _ (by omega)).trans (hm k h1 h2)
 refine⟨[],w.heap.size+1,w.heap.size+2,w.heap.size+3,w.heap.size+4,w.heap.size+5, .slice none 0 0, .slice none 0 0,[],by omega,J_new _ _ _ rfl,⟨by simp,⟨by omega,by omega,by omega,by omega,by omega⟩,mapS_fresh (hk 1 (by omega) (by omega)),⟨[],[],mapS_fresh (hk 2 (by omega) (by omega)),mapS_fresh (hk 3 (by omega) (by omega)),fun n=> .inl ⟨rfl,rfl⟩,fun n=> .inl ⟨rfl,rfl⟩,rfl,by simp,by simp,by simp⟩,OwnS.nil,⟨[],mapS_fresh (hk 4 (by omega) (by omega)),fun n=> .inl ⟨rfl,rfl⟩⟩,mapS_fresh (hk 5 (by omega) (by omega))⟩,⟨OwnS.nil,rfl,by simp,fun i T g h=>by simp at h⟩⟩
section
variable {s:St} {d:Deed}
theorem grant_err:(grantP s d).2≠0->(grantP s d).1=s:=by
 unfold grantP
 (try simp only)
 (repeat' split)<;>intro h<;>first|rfl|exact absurd rfl h
theorem transfer_err:(transferP s d).2≠0->(transferP s d).1=s:=by
 unfold transferP
 (try simp only)
 (repeat' split)<;>intro h<;>first|rfl|exact absurd rfl h
theorem surrender_err:(surrenderP s d).2≠0->(surrenderP s d).1=s:=by
 unfold surrenderP
 (try simp only)
 (repeat' split)<;>intro h<;>first|rfl|exact absurd rfl h
theorem renew_err:(renewP s d).2≠0->(renewP s d).1=s:=by
 unfold renewP
 (try simp only)
 (repeat' split)<;>intro h<;>first|rfl|exact absurd rfl h
theorem will_err:(willP s d).2≠0->(willP s d).1=s:=by
 unfold willP
 (try simp only)
 (repeat' split)<;>intro h<;>first|rfl|exact absurd rfl h
theorem renounce_err:(renounceP s d).2≠0->(renounceP s d).1=s:=by
 unfold renounceP
 (try simp only)
 (repeat' split)<;>intro h<;>first|rfl|exact absurd rfl h
theorem child_err:(childP s d).2≠0->(childP s d).1=s:=by
 unfold childP
 (try simp only)
 (repeat' split)<;>intro h<;>first|rfl|exact absurd rfl h
theorem marry_err:(marryP s d).2≠0->(marryP s d).1=s:=by
 unfold marryP
 (try simp only)
 (repeat' split)<;>intro h<;>first|rfl|exact absurd rfl h
theorem death_err {laws:List Law}:(deathP laws s d).2≠0->(deathP laws s d).1=s:=by
 unfold deathP
 (try simp only)
 (repeat' split)<;>intro h<;>first|rfl|exact absurd rfl h
theorem take_err {laws:List Law} (h:(takeD laws s d).2≠0):(takeD laws s d).1=s:=by
 revert h
 unfold takeD
 split
 ·exact grant_err
 split
 ·exact transfer_err
 split
 ·exact surrender_err
 split
 ·exact renew_err
 split
 ·exact will_err
 split
 ·exact renounce_err
 split
 ·exact child_err
 split
 ·exact marry_err
 exact death_err
theorem takeQ_err {laws:List Law} {co:Nat} {last:Int} (h:(takeQ laws s co last d).2≠0):(takeQ laws s co last d).1=s:=by
 revert h
 unfold takeQ
 split
 ·exact fun _=>rfl
 split
 ·exact fun _=>rfl
 exact take_err
theorem next_take {laws:List Law} {co:Nat} {last:Int} (h:checkDeedP d=0):nextD laws s co last d=takeQ laws s co last d:=by
 unfold nextD takeQ
 rw[h]
 rfl
end
end Go.Proofs.YtkhkhnellekofaaGreatDoor
namespace Go.Proofs.YtkhkhnellekofaaGreatDoor
open Go.RowKit Go.Shelf
attribute [local go_sem] World.cell?_alloc_mark ext_size ext_cell ext_frozen lt_add_r lt_add_r2 lt_add_r3 lt_add_r4 lt_add_r5 lt_add_r6 lt_add_r7 lt_add_r8
attribute [local go_sem] ext_setCell alloc_setCell_lt
noncomputable def stopQ (laws:List Law) (ds:List Deed) (upto:Int):St×Nat×Int:=
 if checkLawsP laws != 0 then(zeroSt,0,checkLawsP laws)else stopGo laws upto ds zeroSt 0 0
def ReplayPost (w:World) (R:St×Nat×Int) (e:Ending) (w':World):Prop:=
 ∃base b la co,e= .returned (.tuple #[.pointer (some ⟨b,0,none⟩), .int .i64 R.2.1, .int .i64 R.2.2])/\w.heap.size<=base/\WldAt base w' b R.1 la co/\Below w.heap.size w w'/\(∃last,GoodSt R.1 last)/\ ∃k,k<=60/\FewS k R.1
theorem takeQ_ok {laws:List Law} {s:St} {k:Nat} {last:Int} {d:Deed} (h:(takeQ laws s k last d).2=0) (hd:OkD d) (hG:GoodSt s last) (hF:FewS k s) (hlw:checkLawsP laws=0):k<60/\GoodSt (takeQ laws s k last d).1 d.day/\FewS (k+1) (takeQ laws s k last d).1:=by
 unfold takeQ at h⊢
 split at h
 ·simp at h
 rename_i h1
 split at h
 ·simp at h
 rename_i h2
 rw[if_neg h1,if_neg h2]
 have hk:k<60:=by simpa using h1
 have hl:last<=d.day:=by simpa using h2
 have ht:takeD laws s d=((takeD laws s d).1,0):=Prod.ext rfl h
 exact⟨hk,take_keeps hG hd hl hlw ht,few_take hF hk hG hd hl hlw ht⟩
set_option maxRecDepth 100000 in
set_option maxHeartbeats 2000000 in
theorem replay_any (laws:List Law) (ds:List Deed) (upto:Int) (LA:Option Addr) (n nc:Nat) (DA:Option Addr) (m mc:Nat) (w:World) (hR:RightsIn w laws ds LA n nc DA m mc) (hF:FormsIn w) (hL:LensIn w) (hO: ∀d∈ds,okLens d):
 Calls Tryz.prog 89 #[.agg #[.slice LA n nc, .slice DA m mc], .int .i64 upto] w (ReplayPost w (stopQ laws ds upto)):=by
 obtain⟨R,hR⟩: ∃R,R=stopQ laws ds upto:=⟨_,rfl⟩
 rw[<-hR]
 unfold stopQ at hR
 have HR:=Lib.hid hR
 clear hR
 obtain⟨rfl,rfl,hlc,hdc,hLS,hDS⟩:=hR
 have HF:=Lib.hid hF
 have HL:=Lib.hid hL
 have HO:=Lib.hid hO
 have HLS:=Lib.hid hLS
 have HDS:=Lib.hid hDS
 clear hF hL hO hLS hDS
 go_enter Tryz.func89,Tryz.ntmps89
 go_upto_region 2 with(go_at_call 107;go_must(refine(newPeople_any _).mono ?_);rintro e wq ⟨rfl,n1,n2,n3⟩;have N1:=Lib.hid n1;have N2:=Lib.hid n2;have N3:=Lib.hid n3;clear n1 n2 n3)
 have hwl:=wld_new (base:=w.heap.size+1) (w:=w.alloc (.cells #[.slice LA laws.length nc, .slice DA ds.length mc] 58)) (W:=wq) (by simp) N1.out.symm N2.out
 have hsz:=N1.out
 simp only[World.size_alloc]at hwl hsz
 have hb0:Below w.heap.size w wq:=Below.trans (B_alloc (Below.refl _ _) _) (N3.out.mono (by simp))
 have hbx:wq.heap[w.heap.size]?=some (.cells #[.slice LA laws.length nc, .slice DA ds.length mc] 58):=(N3.out.block _ (by simp)).trans (J_new _ _ _ rfl)
 have hbl:=blk_lt hbx
 have hB2: ∀o,Below w.heap.size w (wq.alloc o):=fun o=>B_alloc hb0 _ (by omega)
 have hX2: ∀o,(wq.alloc o).heap[w.heap.size]?=some (.cells #[.slice LA laws.length nc, .slice DA ds.length mc] 58):=fun o=>J_alloc hbx
 obtain⟨b,hb⟩: ∃b,b=wq.heap.size:=⟨_,rfl⟩
 rw[<-hb]at hwl⊢
 have h2:=hB2 (.cells #[.map (some (w.heap.size+1+1)), .map (some (w.heap.size+1+1+1)), .map (some (w.heap.size+1+1+1+1)), .slice none 0 0, .map (some (w.heap.size+1+1+1+1+1)), .map (some (w.heap.size+1+1+1+1+1+1)), .slice none 0 0, .int .i64 0, .int .i64 0] 113)
 have hx2:=hX2 (.cells #[.map (some (w.heap.size+1+1)), .map (some (w.heap.size+1+1+1)), .map (some (w.heap.size+1+1+1+1)), .slice none 0 0, .map (some (w.heap.size+1+1+1+1+1)), .map (some (w.heap.size+1+1+1+1+1+1)), .slice none 0 0, .int .i64 0, .int .i64 0] 113)
 clear hB2 hX2 hb0 hbx hbl hsz N1 N2 N3 hb
 generalize wq.alloc _=W2 at*
 have HWL:=Lib.hid hwl
 have HB2:=Lib.hid h2
 have HX2:=Lib.hid hx2
 have hsl:=blk_lt hx2
 have x0:W2.cell? ⟨w.heap.size,0,none⟩=some (.slice LA laws.length nc):=by simp only[World.cell?,hx2];rfl
 have x1:W2.cell? ⟨w.heap.size,1,none⟩=some (.slice DA ds.length mc):=by simp only[World.cell?,hx2];rfl
 have HCK:=Lib.hid (fun W (hB:Below W2.heap.size W2 W)=>checkLaws5_any laws LA laws.length nc W rfl (HLS.out.keep (h2.trans (hB.mono (Nat.le_of_lt hsl)))))
 clear hwl h2 hx2
 by_cases hlw:checkLawsP laws=0
 ·rw[hlw]at HCK HR
  have HLW:=Lib.hid hlw
  clear hlw
  go_upto_block 0 with(go_at_call 22;go_must(refine(HCK.out _ Bw).mono ?_);rintro e wq ⟨rfl,z,rfl⟩)
  clear HCK x0 x1
  go_cut [9,10,11,25]from 26 (fun _ _ _ _ W=> ∃s,Hid (R=(s,ds.length,0))/\ ∃la co,WldAt (w.heap.size+1) W b s la co/\Below w.heap.size w W/\W.heap[w.heap.size]?=some (.cells #[.slice LA laws.length nc, .slice DA ds.length mc] 58)/\(∃last,GoodSt s last)/\ ∃k,k<=60/\FewS k s)
  case first=>
   go_wp2_with fail
   go_loopw [25] (fun i wr=> ∃(k:Nat) (s:St) (last:Int),k<=ds.length/\i= .int .i64 k/\Hid (R=stopGo laws upto (ds.drop k) s k last)/\Hid (WldAt (w.heap.size+1) wr b s last k)/\Hid (GoodSt s last)/\Hid (FewS k s)/\k<=60/\Below w.heap.size w wr/\wr.heap[w.heap.size]?=some (.cells #[.slice LA laws.length nc, .slice DA ds.length mc] 58)) (fun i _=>ds.length-(intOf i).toNat)
   case atStart=>
    refine⟨0,zeroSt,0,Nat.zero_le _,rfl,?_,HWL.out.keep (n:=W2.heap.size) Bw,good_zero 0,few_zero,by omega,?_,?_⟩
    ·show _=_
     rw[HR.out]
     simp
    ·exact HB2.out.trans (Below.mono (B:=W2.heap.size) Bw (Nat.le_of_lt hsl))
    ·exact J_ext HX2.out
   case round=>
    obtain⟨k,s,last,hk,rfl,HX,HW,HG,HFw,hk6,hB,hX⟩:=hrel
    clear HWL HB2 HX2 HR
    have x0:wr.cell? ⟨w.heap.size,0,none⟩=some (.slice LA laws.length nc):=by simp only[World.cell?,hX];rfl
    have hsl2:=blk_lt hX
    have HB:=Lib.hid hB
    have HXX:=Lib.hid hX
    by_cases hlt:k<ds.length
    ·obtain⟨db,off,cs,hA,hdb,⟨B,c,hcap,hcs,hS⟩,hc⟩:=(HDS.out.keep deed_keeps hB).at hlt
     subst hA hcs
     have hst:=HX.out
     rw[List.drop_eq_getElem_cons hlt,stopGo,<-List.drop_eq_getElem_cons hlt]at hst
     have hok:=HO.out ds[k] (List.getElem_mem hlt)
     have hcd: ∀W,Below wr.heap.size wr W->_:=fun W hW=>checkDeedQ_any ds[k] B c W (HF.out.keep (hB.trans (hW.mono (Nat.le_of_lt hsl2)))) hok hcap (hS.keep hW)
     have htk: ∀W,Below wr.heap.size wr W->OkD ds[k]->_:=fun W hW hd=>take_any (w.heap.size+1) b s k last laws LA nc ds[k] B c W (HW.out.keep hW) HG.out HFw.out hd HLW.out (HL.out.keep (hB.trans (hW.mono (Nat.le_of_lt hsl2)))) (HLS.out.keep (hB.trans (hW.mono (Nat.le_of_lt hsl2)))) hcap (hS.keep hW)
     rw[checkDeedQ_eq]at hcd
     have HLT:=Lib.hid hlt
     have HDL:=Lib.hid (show k+(ds.drop k).length=ds.length by rw[List.length_drop];omega)
     have HST:=Lib.hid hst
     have HCD:=Lib.hid hcd
     have HTK:=Lib.hid htk
     generalize ds[k]=d at*
     clear hst hok hcd htk hX hB hS
     have hkeep:OkD d->(takeQ laws s k last d).2=0->k<60/\GoodSt (takeQ laws s k last d).1 d.day/\FewS (k+1) (takeQ laws s k last d).1:=fun hd h=>takeQ_ok h hd HG.out HFw.out HLW.out
     have hdok:checkDeedP d=0->OkD d:=deed_ok
     have hnt:=fun h=>next_take (laws:=laws) (s:=s) (co:=k) (last:=last) (d:=d) h
     obtain⟨kd,dy,pl,fr,ts,cl,yr⟩:=d
     have i0:wr.cell? ⟨db,off+k*7,none⟩=some (.int .i64 kd):=hc 0 _ rfl
     have i1:wr.cell? ⟨db,off+k*7+1,none⟩=some (.int .i64 dy):=hc 1 _ rfl
     have i2:wr.cell? ⟨db,off+k*7+2,none⟩=some (.string pl):=hc 2 _ rfl
     have i3:wr.cell? ⟨db,off+k*7+3,none⟩=some (.string fr):=hc 3 _ rfl
     have i4:wr.cell? ⟨db,off+k*7+4,none⟩=some (.slice B ts.length c):=hc 4 _ rfl
     have i5:wr.cell? ⟨db,off+k*7+5,none⟩=some (.int .i64 cl):=hc 5 _ rfl
     have i6:wr.cell? ⟨db,off+k*7+6,none⟩=some (.int .i64 yr):=hc 6 _ rfl
     have hki:(k:Int)<(ds.length:Int):=by omega
     have hk0:(0:Int)<=(k:Int):=by omega
     have hkm:(k:Int)<=(mc:Int):=by omega
     have hwn:w.heap.size≠wr.heap.size:=by omega
     unfold Deed.v at HTK
     simp only at hnt hkeep HTK HST
     clear hc
     by_cases hce:checkDeedP ⟨kd,dy,pl,fr,ts,cl,yr⟩=0
     ·have hod:=hdok hce
      have hst:=HST.out
      rw[hce,hnt hce]at hst
      rw[hce]at HCD
      have hkp:=hkeep hod
      have her:=fun h=>takeQ_err (laws:=laws) (s:=s) (d:=⟨kd,dy,pl,fr,ts,cl,yr⟩) (co:=k) (last:=last) h
      have HTK2:=Lib.hid (fun W hW=>HTK.out W hW hod)
      clear HST HTK hnt hkeep hdok hod
      generalize takeQ laws s k last ⟨kd,dy,pl,fr,ts,cl,yr⟩=x at*
      generalize checkDeedP ⟨kd,dy,pl,fr,ts,cl,yr⟩=ce at*
      obtain⟨s',er⟩:=x
      by_cases hday:upto<dy
      ·have HRX:Hid (R=(s,ds.length,0)):=by
        show _=_
        rw[hst,if_pos (by simp[hday]),HDL.out]
       clear hst hkp her HTK2 HDL
       go_wp2_with (go_at_call 108;go_must(refine(HCD.out _ Bw).mono ?_);rintro e wq ⟨rfl,z,rfl⟩)
       go_meet
       exact⟨s,HRX.out,last,k,HW.out.keep (n:=wr.heap.size) Bw,HB.out.trans (Below.mono (B:=wr.heap.size) Bw (by omega)),by repeat(first|assumption|with_reducible refine J_alloc ?_|with_reducible refine J_ext ?_|with_reducible refine J_ne (by omega) ?_),⟨last,HG.out⟩,k,hk6,HFw.out⟩
      ·have hst2:R=if(er != 0)=true then(s,k,er)else stopGo laws upto (ds.drop (k+1)) s' (k+1) dy:=by rw[hst,if_neg (by simp[hday])]
       have HST2:=Lib.hid hst2
       have hcdm:=HCD.out
       clear hst hst2 HDL
       by_cases h0:er=0
       ·subst h0
        obtain⟨hk60,hG2,hF2⟩:=hkp rfl
        have HG2:=Lib.hid hG2
        have HF2:=Lib.hid hF2
        have hw9:=wrap_k (k:=k) (Nat.lt_trans hk60 (by decide))
        have hw8:=wrap_k2 (k:=k) (Nat.lt_trans hk60 (by decide))
        clear hkp her hG2 hF2 hcdm
        go_wp2_with (first
         |(go_at_call 108;go_must(refine(HCD.out _ Bw).mono ?_);rintro e wq ⟨rfl,z,rfl⟩)
         |(go_at_call 109
           go_must(refine(HTK2.out _ Bw).mono ?_)
           rintro e wq ⟨rfl,t1,t2⟩
           simp only[if_true]at t1
           have T1:=Lib.hid t1
           have hbw:Below w.heap.size w wq:=(HB.out.trans (Below.mono (B:=wr.heap.size) Bw (Nat.le_of_lt hsl2))).trans (t2.mono (Nat.le_succ _))
           have hxw:=(t2.block w.heap.size (Nat.lt_succ_self _)).trans (show _=some (.cells #[.slice LA laws.length nc, .slice (some ⟨db,off,none⟩) ds.length mc] 58) from by have hX:=HXX.out;repeat(first|assumption|with_reducible refine J_alloc ?_|with_reducible refine J_ext ?_|with_reducible refine J_ne (by omega) ?_))
           have HBW:=Lib.hid hbw
           have HXW:=Lib.hid hxw
           clear t1 t2 hbw hxw))
        go_round
        case rel=>
         clear hw9 hw8
         refine⟨k+1,s',dy,HLT.out,by go_num,?_,T1.out,HG2.out,HF2.out,hk60,HBW.out,HXW.out⟩
         show _=_
         rw[HST2.out]
         simp
        case measure=>clear hw9 hw8;have:=HLT.out;simp only[intOf];omega
       ·have hs:=her h0
        simp only at hs
        subst hs
        have HRX:Hid (R=(s',k,er)):=by
         show _=_
         rw[HST2.out,if_pos (by simpa using h0)]
        clear hkp her HST2 hcdm
        go_wp2_with (first
         |(go_at_call 108;go_must(refine(HCD.out _ Bw).mono ?_);rintro e wq ⟨rfl,z,rfl⟩)
         |(go_at_call 109
           go_must(refine(HTK2.out _ Bw).mono ?_)
           rintro e wq ⟨rfl,t1,t2⟩
           have T1:=Lib.hid t1
           have hbw:Below w.heap.size w wq:=(HB.out.trans (Below.mono (B:=wr.heap.size) Bw (Nat.le_of_lt hsl2))).trans (t2.mono (Nat.le_succ _))
           have HBW:=Lib.hid hbw
           clear t1 t2 hbw))
        go_ret3
        rw[HRX.out]
        exact⟨w.heap.size+1,b,_,_,rfl,by omega,T1.out,HBW.out,⟨last,HG.out⟩,k,hk6,HFw.out⟩
     ·have hne:(nextD laws s k last ⟨kd,dy,pl,fr,ts,cl,yr⟩)=(s,checkDeedP ⟨kd,dy,pl,fr,ts,cl,yr⟩):=by
       unfold nextD
       rw[if_pos (by simpa using hce)]
      have hst:=HST.out
      rw[hne]at hst
      generalize checkDeedP ⟨kd,dy,pl,fr,ts,cl,yr⟩=ce at*
      have HRX:Hid (R=(s,k,ce)):=by
       show _=_
       rw[hst,if_neg (by simp[hce]),if_pos (by simpa using hce)]
      clear hst hne HST HTK hnt hkeep hdok HDL
      go_wp2_with (go_at_call 108;go_must(refine(HCD.out _ Bw).mono ?_);rintro e wq ⟨rfl,z,rfl⟩)
      go_ret3
      rw[HRX.out]
      exact⟨w.heap.size+1,b,last,k,rfl,by omega,HW.out.keep (n:=wr.heap.size) Bw,HB.out.trans (Below.mono (B:=wr.heap.size) Bw (by omega)),⟨last,HG.out⟩,k,hk6,HFw.out⟩
    ·have hki: ¬(k:Int)<(ds.length:Int):=by omega
     have hx:=HX.out
     rw[List.drop_eq_nil_of_le (by omega),stopGo]at hx
     have hke:k=ds.length:=by omega
     have HRX:Hid (R=(s,ds.length,0)):=by show _=_;rw[hx,hke]
     clear hx hke hX hB
     go_wp2_with fail
     go_meet
     exact⟨s,HRX.out,last,k,HW.out,HB.out,HXX.out,⟨last,HG.out⟩,k,hk6,HFw.out⟩
  case rest=>
   obtain⟨s,HRX,la,co,hW,hB,hX,hg,hf⟩:=hcut
   have x1:wc.cell? ⟨w.heap.size,1,none⟩=some (.slice DA ds.length mc):=by simp only[World.cell?,hX];rfl
   have hsl2:=blk_lt hX
   have HW:=Lib.hid hW
   have HB:=Lib.hid hB
   clear hW hB hX
   go_upto_region 15 with fail
   go_quiet (fail)
   go_wp2_with fail
   go_ret3
   rw[HRX.out]
   exact⟨w.heap.size+1,b,la,co,rfl,by omega,HW.out.keep (n:=wc.heap.size) Bw,HB.out.trans (Below.mono (B:=wc.heap.size) Bw (by omega)),hg,hf⟩
 ·generalize checkLawsP laws=er at*
  have hne:(er != 0)=true:=by simpa using hlw
  have HRX:Hid (R=(zeroSt,0,er)):=by show _=_;rw[HR.out,if_pos hne]
  clear HR
  go_wp2_with (go_at_call 22;go_must(refine(HCK.out _ Bw).mono ?_);rintro e wq ⟨rfl,z,rfl⟩)
  go_ret3
  rw[HRX.out]
  exact⟨w.heap.size+1,b,0,0,rfl,by omega,HWL.out.keep (n:=W2.heap.size) Bw,HB2.out.trans (Below.mono (B:=W2.heap.size) Bw (by omega)),⟨0,good_zero 0⟩,0,by omega,few_zero⟩
end Go.Proofs.YtkhkhnellekofaaGreatDoor
namespace Go.Proofs.YtkhkhnellekofaaGreatDoor
open Go.RowKit Go.Shelf
attribute [local go_sem] World.cell?_alloc_mark ext_size ext_cell ext_frozen lt_add_r lt_add_r2 lt_add_r3 lt_add_r4 lt_add_r5 lt_add_r6 lt_add_r7 lt_add_r8
attribute [local go_sem] ext_setCell alloc_setCell_lt
set_option maxRecDepth 100000 in
set_option maxHeartbeats 2000000 in
theorem ifStr_any (g:Nat) (lb:Array Value) (eg: ∀args w,(callFunc g args).run Tryz.prog w= .ok (.enter g args) w) (p:ByteArray->Bool) (A:Option Addr) (c:Nat) (xs:List ByteArray) (w:World) (hl:xs.length<=100000)
 (hS:Sl w 1 sC A xs) (hp:GivesOn g lb (fun s=> .string s) p xs w):Calls Tryz.prog 106 #[.slice A xs.length c, .func (.func g) #[] lb] w (fun e w'=> ∃i:Int,e= .returned (.int .i64 i)/\decide (0<=i)=xs.any p/\Below w.heap.size w w'):=by
 have HS:=Lib.hid hS
 have HP:=Lib.hid hp
 clear hS hp
 go_enter Tryz.func106,Tryz.ntmps106
 go_wp2_with fail
 go_loopw [8] (fun i wr=> ∃k:Nat,k<=xs.length/\i= .int .i64 k/\Hid (xs.any p=(xs.drop k).any p)/\Below w.heap.size w wr) (fun i _=>xs.length-(intOf i).toNat)
 case atStart=>exact⟨0,Nat.zero_le _,rfl,by show _=_;rw[List.drop_zero],Below.refl _ _⟩
 case round=>
  obtain⟨k,hk,rfl,HX,hB⟩:=hrel
  have HB:=Lib.hid hB
  by_cases hlt:k<xs.length
  ·obtain⟨b,off,rfl,hb,hc⟩:=(HS.out.keep hB).at hlt
   have i0:wr.cell? ⟨b,off+k,none⟩=some (.string xs[k]):=by have:=hc 0 _ rfl;simpa using this
   have hx:=HX.out
   rw[List.drop_eq_getElem_cons hlt,List.any_cons]at hx
   have hcall: ∀W,Below w.heap.size w W->Calls Tryz.prog g (#[.string xs[k]]++lb) W fun e w'=>e= .returned (.bool (p xs[k]))/\Below w.heap.size w w':=fun W hW=>HP.out xs[k] (List.getElem_mem hlt) W hW
   generalize xs[k]=x at*
   generalize hpx:p x=px at*
   have HX2:=Lib.hid hx
   have hki:(k:Int)<(xs.length:Int):=by omega
   have hk0:(0:Int)<=(k:Int):=by omega
   have HLT:=Lib.hid hlt
   have HCL:=Lib.hid hcall
   clear hc hx hcall HX hpx
   cases px
   ·go_wp2_with (go_at_fn g;refine(HCL.out _ HB.out).mono ?_;rintro e w' ⟨rfl,h1⟩)
    go_round
    case rel=>exact⟨k+1,HLT.out,by go_num,by show _=_;rw[HX2.out];simp,h1⟩
    case measure=>have:=HLT.out;simp only[intOf];omega
   ·go_wp2_with (go_at_fn g;refine(HCL.out _ HB.out).mono ?_;rintro e w' ⟨rfl,h1⟩)
    go_ret
    exact⟨k,rfl,by rw[HX2.out];simp,h1⟩
  ·have hki: ¬(k:Int)<(xs.length:Int):=by omega
   have hx:=HX.out
   rw[List.drop_eq_nil_of_le (by omega)]at hx
   have HX2:=Lib.hid hx
   clear hx hB
   go_wp2_with fail
   go_ret
   exact⟨-1,rfl,by rw[HX2.out];simp,HB.out⟩
set_option maxRecDepth 100000 in
set_option maxHeartbeats 2000000 in
theorem cfStr_any (g:Nat) (lb:Array Value) (eg: ∀args w,(callFunc g args).run Tryz.prog w= .ok (.enter g args) w) (p:ByteArray->Bool) (A:Option Addr) (n c:Nat) (xs:List ByteArray) (w:World) (hn:n=xs.length) (hl:xs.length<=100000)
 (hS:Sl w 1 sC A xs) (hp:GivesOn g lb (fun s=> .string s) p xs w):Calls Tryz.prog 87 #[.slice A n c, .func (.func g) #[] lb] w (Ret w (.bool (xs.any p))):=by
 subst hn
 have HI:=Lib.hid (ifStr_any g lb eg p A c xs w hl hS hp)
 clear hS hp
 go_enter Tryz.func87,Tryz.ntmps87
 go_wp2_with (go_at_call 106;refine HI.out.mono ?_;rintro e wq ⟨i,rfl,hi,hB⟩)
 go_ret
 rw[<-hi]
 exact Ret.of rfl hB
set_option maxRecDepth 100000 in
set_option maxHeartbeats 2000000 in
theorem onn_any (s:ByteArray) (W:World) (hs:s.size<=100000):Calls Tryz.prog 88 #[.string s] W (Ret W (.bool (!isNameP s))):=by
 go_enter Tryz.func88,Tryz.ntmps88
 go_wp2_with (go_at_call 83;refine(isName5_any _ _ hs).mono ?_;intro e wq hq;rcases Ret0.bools hq with⟨rfl,⟨hb,rfl⟩|⟨hb,rfl⟩⟩<;>clear hq)
 all_goals go_ret
 all_goals exact Ret.of (bool_eq (by simp[*])) Bw
theorem onn_gives (xs:List ByteArray) (w:World) (hs: ∀s∈xs,s.size<=100000):GivesOn 88 #[] (fun s=> .string s) (fun s=>!isNameP s) xs w:=fun x hx W hW=>by
 refine(onn_any x W (hs x hx)).mono ?_
 rintro e wq ⟨rfl,z,rfl⟩
 exact⟨rfl,hW.trans ((below_ext W z).mono hW.size)⟩
theorem replay_snd (laws:List Law) (u u':Int): ∀(ds:List Deed) (s t t':St) (k:Nat) (l:Int),(replayGo laws u ds s t k l).2=(replayGo laws u' ds s t' k l).2
 | [],_,_,_,_,_=>rfl
 |d::ds,s,t,t',k,l=>by
  rw[replayGo,replayGo]
  split
  ·rfl
  ·exact replay_snd laws u u' ds _ _ _ _ _
noncomputable def onErr (laws:List Law) (ds:List Deed) (names:List ByteArray) (day:Int):Int:=
 if(stopQ laws ds 200000).2.2 != 0 then(stopQ laws ds 200000).2.2 else if names.any (fun s=>!isNameP s)then 4 else if !isDayP day then 2 else 0
theorem stopQ_replay (laws:List Law) (ds:List Deed):(stopQ laws ds 200000).2=(replayD laws ds 200000).2:=by
 unfold stopQ replayD
 split
 ·rfl
 ·exact stop_all (Int.le_refl _)
theorem stopQ_told {laws:List Law} {ds:List Deed} (h:(stopQ laws ds 200000).2.2=0) (day:Int):(stopQ laws ds day).1=(replayD laws ds day).1/\(stopQ laws ds day).2.2=0:=by
 rw[stopQ_replay]at h
 unfold replayD at h
 unfold stopQ replayD
 split at h
 ·rename_i hc
  rw[if_pos hc,if_pos hc]
  exact⟨rfl,h⟩
 ·rename_i hc
  rw[if_neg hc,if_neg hc]
  exact stop_told (by rw[replay_snd laws day 200000 ds zeroSt zeroSt zeroSt];exact h)
end Go.Proofs.YtkhkhnellekofaaGreatDoor
namespace Go.Proofs.YtkhkhnellekofaaGreatDoor
open Go.RowKit Go.Shelf
attribute [local go_sem] World.cell?_alloc_mark ext_size ext_cell ext_frozen lt_add_r lt_add_r2 lt_add_r3 lt_add_r4 lt_add_r5 lt_add_r6 lt_add_r7 lt_add_r8
attribute [local go_sem] ext_setCell alloc_setCell_lt
set_option maxRecDepth 100000 in
set_option maxHeartbeats 2000000 in
theorem replayN_any (laws:List Law) (ds:List Deed) (LA:Option Addr) (n nc:Nat) (DA:Option Addr) (m mc:Nat) (w:World) (hR:RightsIn w laws ds LA n nc DA m mc) (hF:FormsIn w) (hL:LensIn w) (hO: ∀d∈ds,okLens d):
 Calls Tryz.prog 86 #[.agg #[.slice LA n nc, .slice DA m mc]] w (Ret w (.tuple #[.int .i64 (stopQ laws ds 200000).2.1, .int .i64 (stopQ laws ds 200000).2.2])):=by
 have hrp:=fun W (hB:Below w.heap.size w W)=>replay_any laws ds 200000 LA n nc DA m mc W (hR.keep hB) (hF.keep hB) (hL.keep hB) hO
 clear hR hF hL hO
 generalize stopQ laws ds 200000=R at*
 have HRP:=Lib.hid hrp
 clear hrp
 go_enter Tryz.func86,Tryz.ntmps86
 go_wp2_with (go_at_call 89;go_must(refine(HRP.out _ Bw).mono ?_);rintro e wq ⟨base,b,la,co,rfl,h1,h2,h3,h4,h5⟩;have H3:=Lib.hid h3;clear h1 h2 h3 h4 h5)
 go_ret2
 exact Ret.of rfl (Below.trans (B_alloc (Below.refl _ _) _) (H3.out.mono (by simp)))
def OnPost (w:World) (laws:List Law) (ds:List Deed) (names:List ByteArray) (day:Int) (e:Ending) (w':World):Prop:=
 Below w.heap.size w w'/\((onErr laws ds names day≠0/\e= .returned (.tuple #[.pointer none, .int .i64 (onErr laws ds names day)]))\/
  (onErr laws ds names day=0/\ ∃base b la co,e= .returned (.tuple #[.pointer (some ⟨b,0,none⟩), .int .i64 0])/\w.heap.size<=base/\WldAt base w' b (replayD laws ds day).1 la co/\(∃last,GoodSt (replayD laws ds day).1 last)/\ ∃k,k<=60/\FewS k (replayD laws ds day).1))
set_option maxRecDepth 100000 in
set_option maxHeartbeats 2000000 in
theorem on_any (laws:List Law) (ds:List Deed) (day:Int) (names:List ByteArray) (LA:Option Addr) (n nc:Nat) (DA:Option Addr) (m mc:Nat) (NA:Option Addr) (l c:Nat) (w:World) (hR:RightsIn w laws ds LA n nc DA m mc) (hF:FormsIn w) (hL:LensIn w) (hO: ∀d∈ds,okLens d)
 (hl:l=names.length) (hln:names.length<=100000) (hN: ∀s∈names,s.size<=100000) (hS:Sl w 1 sC NA names):
 Calls Tryz.prog 57 #[.agg #[.slice LA n nc, .slice DA m mc], .int .i64 day, .slice NA l c] w (OnPost w laws ds names day):=by
 subst hl
 have eg: ∀args w,(callFunc 88 args).run Tryz.prog w= .ok (.enter 88 args) w:=enters_of Tryz.func88 (by kernel_rfl) rfl
 have hrn:=fun W (hB:Below w.heap.size w W)=>replayN_any laws ds LA n nc DA m mc W (hR.keep hB) (hF.keep hB) (hL.keep hB) hO
 have hrp:=fun W (hB:Below w.heap.size w W)=>replay_any laws ds day LA n nc DA m mc W (hR.keep hB) (hF.keep hB) (hL.keep hB) hO
 have hcf:=fun W (hB:Below w.heap.size w W)=>cfStr_any 88 #[] eg (fun s=>!isNameP s) NA names.length c names W rfl hln (hS.keep hB) (onn_gives names W hN)
 have htold:=stopQ_told (laws:=laws) (ds:=ds) (day:=day)
 have he:onErr laws ds names day=if(stopQ laws ds 200000).2.2 != 0 then(stopQ laws ds 200000).2.2 else if names.any (fun s=>!isNameP s)then 4 else if !isDayP day then 2 else 0:=rfl
 unfold OnPost
 generalize onErr laws ds names day=E at*
 obtain⟨R,hR0⟩: ∃R,R=stopQ laws ds 200000:=⟨_,rfl⟩
 rw[<-hR0]at hrn htold he
 obtain⟨⟨S0,n0,er⟩,hS0⟩: ∃x,x=R:=⟨_,rfl⟩
 subst hS0
 simp only at hrn htold he
 generalize hna:names.any (fun s=>!isNameP s)=na at*
 have HRN:=Lib.hid hrn
 have HRP:=Lib.hid hrp
 have HCF:=Lib.hid hcf
 clear hrn hrp hcf hR hF hL hO hS hN hR0 hna eg
 by_cases h0:er=0
 ·subst h0
  have he1:E=if na then 4 else if !isDayP day then 2 else 0:=by rw[he];rfl
  obtain⟨ht1,ht2⟩:=htold rfl
  clear he htold
  cases na
  ·generalize hdd:isDayP day=dd at*
   cases dd
   ·have hE:E=2:=by rw[he1];rfl
    subst hE
    clear he1 ht1 ht2
    go_enter Tryz.func57,Tryz.ntmps57
    go_wp2_with (first
     |(go_at_call 86;refine(HRN.out _ Bw).mono ?_;rintro e wq ⟨rfl,zq,rfl⟩)
     |(go_at_call 87;refine(HCF.out _ Bw).mono ?_;rintro e wq ⟨rfl,zq,rfl⟩)
     |(go_at_call 50;refine(isDay5_any _ _).mono ?_;rintro e wq ⟨rfl,rfl⟩;rw[hdd]))
    go_ret2
    exact⟨Bw, .inl ⟨by decide,rfl⟩⟩
   ·have hE:E=0:=by rw[he1];rfl
    subst hE
    rw[<-ht1]
    clear he1 ht1
    generalize stopQ laws ds day=R at*
    obtain⟨S1,n1,e1⟩:=R
    simp only at ht2
    subst ht2
    try simp only at HRP
    go_enter Tryz.func57,Tryz.ntmps57
    go_wp2_with (first
     |(go_at_call 86;refine(HRN.out _ Bw).mono ?_;rintro e wq ⟨rfl,zq,rfl⟩)
     |(go_at_call 87;refine(HCF.out _ Bw).mono ?_;rintro e wq ⟨rfl,zq,rfl⟩)
     |(go_at_call 50;refine(isDay5_any _ _).mono ?_;rintro e wq ⟨rfl,rfl⟩;rw[hdd])
     |(go_at_call 89;go_must(refine(HRP.out _ Bw).mono ?_);rintro e wq ⟨base,b,la,co,rfl,h1,h2,h3,h4,h5⟩;have H1:=Lib.hid h1;have H2:=Lib.hid h2;have H3:=Lib.hid h3;have H4:=Lib.hid h4;have H5:=Lib.hid h5;clear h1 h2 h3 h4 h5))
    go_ret2
    have h1:=H1.out
    refine⟨Below.trans Bw (H3.out.mono ?_), .inr ⟨by first|rfl|trivial,base,b,la,co,rfl,Nat.le_trans ?_ h1,H2.out,H4.out,H5.out⟩⟩
    ·simp[ext_size];omega
    ·simp[ext_size];omega
  ·have hE:E=4:=by rw[he1];rfl
   subst hE
   clear he1 ht1 ht2
   go_enter Tryz.func57,Tryz.ntmps57
   go_wp2_with (first
    |(go_at_call 86;refine(HRN.out _ Bw).mono ?_;rintro e wq ⟨rfl,zq,rfl⟩)
    |(go_at_call 87;refine(HCF.out _ Bw).mono ?_;rintro e wq ⟨rfl,zq,rfl⟩))
   go_ret2
   exact⟨Bw, .inl ⟨by decide,rfl⟩⟩
 ·have hE:E=er:=by rw[he,if_pos (by simpa using h0)]
  subst hE
  clear he htold
  go_enter Tryz.func57,Tryz.ntmps57
  go_wp2_with (go_at_call 86;refine(HRN.out _ Bw).mono ?_;rintro e wq ⟨rfl,zq,rfl⟩)
  go_ret2
  exact⟨Bw, .inl ⟨h0,rfl⟩⟩
end Go.Proofs.YtkhkhnellekofaaGreatDoor
namespace Go.Proofs.YtkhkhnellekofaaGreatDoor
open Go.RowKit Go.Shelf
attribute [local go_sem] World.cell?_alloc_mark ext_size ext_cell ext_frozen lt_add_r lt_add_r2 lt_add_r3 lt_add_r4 lt_add_r5 lt_add_r6 lt_add_r7 lt_add_r8
attribute [local go_sem] ext_setCell alloc_setCell_lt
def holdersP (s:St) (place:ByteArray) (day:Int):Parts:=match graveIx s place day with
 |none=>[]
 |some i=>(s.graves.getD i zeroG).holders
def HoldersPost (w:World) (laws:List Law) (ds:List Deed) (place:ByteArray) (day:Int) (e:Ending) (w':World):Prop:=
 Below w.heap.size w w'/\((onErr laws ds [place] day≠0/\e= .returned (.tuple #[.slice none 0 0, .int .i64 (onErr laws ds [place] day)]))\/
  (onErr laws ds [place] day=0/\ ∃A c,e= .returned (.tuple #[.slice A (holdersP (replayD laws ds day).1 place day).length c, .int .i64 0])/\(holdersP (replayD laws ds day).1 place day).length<=c/\Sl w' 3 partCells A (holdersP (replayD laws ds day).1 place day)))
set_option maxRecDepth 100000 in
set_option maxHeartbeats 2000000 in
theorem holders_any (laws:List Law) (ds:List Deed) (place:ByteArray) (day:Int) (LA:Option Addr) (n nc:Nat) (DA:Option Addr) (m mc:Nat) (w:World) (hR:RightsIn w laws ds LA n nc DA m mc) (hF:FormsIn w) (hL:LensIn w) (hO: ∀d∈ds,okLens d) (hp:place.size<=100000):
 Calls Tryz.prog 30 #[.agg #[.slice LA n nc, .slice DA m mc], .string place, .int .i64 day] w (HoldersPost w laws ds place day):=by
 have hon:=fun W (hB:Below w.heap.size w W) NA (hS:Sl W 1 sC NA [place])=>on_any laws ds day [place] LA n nc DA m mc NA 1 1 W (hR.keep hB) (hF.keep hB) (hL.keep hB) hO rfl (by simp) (by simpa using hp) hS
 have HON:=Lib.hid hon
 unfold HoldersPost
 clear hon hR hF hL hO
 unfold OnPost at HON
 generalize onErr laws ds [place] day=E at*
 generalize(replayD laws ds day).1=s at*
 generalize hxs:holdersP s place day=xs at*
 have HXS:=Lib.hid hxs
 clear hxs
 go_enter Tryz.func30,Tryz.ntmps30
 by_cases h0:E=0
 ·subst h0
  go_upto_region 4 with(go_at_call 57
                        go_must(refine(HON.out _ Bw _ (sl_one (J_new _ _ _ (by simp)))).mono ?_)
                        rintro e wq ⟨h1,⟨hne,_⟩|⟨_,base,b,la,co,rfl,h2,h3,h4,h5⟩⟩
                        ·exact absurd rfl hne
                        have H1:=Lib.hid h1
                        have H3:=Lib.hid h3
                        have H5:=Lib.hid h5
                        clear h1 h2 h3 h4 h5)
  obtain⟨Bk,dd,cc,pp,wl,rr,mv,tv,ps,hb0,hC,hP,hT⟩:=H3.out
  obtain⟨k,hk6,hfew⟩:=H5.out
  have hgl:=hfew.graves
  have hin:=fun W (hB:Below wq.heap.size wq W)=>in_any base b s la co place day W (hC.keep hB) (hT.keep hB) (by omega)
  have hb1:Below w.heap.size w wq:=Below.trans (B_alloc (B_alloc (Below.refl _ _) _) _ (by simp)) (H1.out.mono (by simp;omega))
  have HB1:=Lib.hid hb1
  have hxs:=HXS.out
  unfold holdersP at hxs
  clear HXS
  cases hix:graveIx s place day with
  |none=>
   rw[hix]at hin hxs
   subst hxs
   have HIN:=Lib.hid hin
   clear hin hC hP hT hfew hb1
   go_wp2_with (go_at_call 58;go_must(refine(HIN.out _ Bw).mono ?_);rintro e wz ⟨rfl,z,rfl⟩;simp only[ptrOf,Option.map_none])
   go_ret2
   exact⟨HB1.out.trans (Below.mono (B:=wq.heap.size) Bw HB1.out.size),none,⟨0,rfl⟩,fun h=>absurd h (by simp)⟩
  |some i=>
   obtain⟨T,g,hpi,hpd,hgi,hgd,hTA,_⟩:=grave_tomb hT hix
   rw[hix]at hin hxs
   simp only[hgd]at hxs
   subst hxs
   obtain⟨H,hc',D,dc,frm,t1,t2,t3,t4,t5,t6,t7⟩:=hTA
   have hTl:=blk_lt t1
   have hin2: ∀W,Below wq.heap.size wq W->Calls Tryz.prog 58 #[.pointer (some ⟨b,0,none⟩), .string place, .int .i64 day] W (Ret W (.pointer (some ⟨T,0,none⟩))):=fun W hB=>by
    have:=hin W hB
    simpa only[ptrOf,Option.map_some,hpd]using this
   have HIN:=Lib.hid hin2
   unfold TombC at t1
   have k4:wq.cell? ⟨T,4,none⟩=some (.slice H g.holders.length hc'):=by simp only[World.cell?,t1];rfl
   have T5:=Lib.hid t5
   clear hin hin2 hC hP hT hfew hb1 t1 t5 t6 t7 hgd hgi hpd hpi hix
   go_wp2_with (go_at_call 58;go_must(refine(HIN.out _ Bw).mono ?_);rintro e wz ⟨rfl,z,rfl⟩)
   go_ret2
   exact⟨HB1.out.trans (Below.mono (B:=wq.heap.size) Bw HB1.out.size),H,hc',rfl,t3,(Ro.sl part_len T5.out).keep (n:=wq.heap.size) Bw⟩
 ·go_wp2_with (go_at_call 57
               go_must(refine(HON.out _ Bw _ (sl_one (J_new _ _ _ (by simp)))).mono ?_)
               rintro e wq ⟨h1,⟨_,rfl⟩|⟨he,_⟩⟩
               rotate_left 1
               ·exact absurd he h0
               have H1:=Lib.hid h1
               clear h1)
  go_ret2
  exact⟨Below.trans (B_alloc (B_alloc (Below.refl _ _) _) _ (by simp)) (H1.out.mono (by simp;omega)), .inl ⟨h0,rfl⟩⟩
def InForcePost (w:World) (laws:List Law) (ds:List Deed) (place:ByteArray) (ns:List ByteArray) (day:Int) (e:Ending) (w':World):Prop:=
 Below w.heap.size w w'/\((onErr laws ds (place::ns) day≠0/\e= .returned (.tuple #[.pointer none, .pointer none, .int .i64 (onErr laws ds (place::ns) day)]))\/
  (onErr laws ds (place::ns) day=0/\graveIx (replayD laws ds day).1 place day=none/\e= .returned (.tuple #[.pointer none, .pointer none, .int .i64 12]))\/
  (onErr laws ds (place::ns) day=0/\ ∃base b la co B T i g,graveIx (replayD laws ds day).1 place day=some i/\(replayD laws ds day).1.graves[i]?=some g/\e= .returned (.tuple #[.pointer (some ⟨b,0,none⟩), .pointer (some ⟨T,0,none⟩), .int .i64 0])/\w.heap.size<=base/\WldAt base w' b (replayD laws ds day).1 la co/\TombAt w' base B T g/\(∃last,GoodSt (replayD laws ds day).1 last)/\ ∃k,k<=60/\FewS k (replayD laws ds day).1))
set_option maxRecDepth 100000 in
set_option maxHeartbeats 2000000 in
theorem inForceR_any (laws:List Law) (ds:List Deed) (place:ByteArray) (ns:List ByteArray) (day:Int) (LA:Option Addr) (n nc:Nat) (DA:Option Addr) (m mc:Nat) (NA:Option Addr) (l c:Nat) (w:World) (hR:RightsIn w laws ds LA n nc DA m mc) (hF:FormsIn w) (hL:LensIn w) (hO: ∀d∈ds,okLens d) (hp:place.size<=100000)
 (hl:l=ns.length) (hln:ns.length<=1000) (hN: ∀s∈ns,s.size<=100000) (hS:Sl w 1 sC NA ns):
 Calls Tryz.prog 77 #[.agg #[.slice LA n nc, .slice DA m mc], .int .i64 day, .string place, .slice NA l c] w (InForcePost w laws ds place ns day):=by
 subst hl
 have hon:=fun W (hB:Below w.heap.size w W) XA xc (hS:Sl W 1 sC XA (place::ns))=>on_any laws ds day (place::ns) LA n nc DA m mc XA (1+ns.length) xc W (hR.keep hB) (hF.keep hB) (hL.keep hB) hO (by simp;omega) (by simp;omega) (by simpa using⟨hp,hN⟩) hS
 have HON:=Lib.hid hon
 have HS:=Lib.hid hS
 unfold InForcePost
 clear hon hR hF hL hO hS
 unfold OnPost at HON
 generalize onErr laws ds (place::ns) day=E at*
 generalize(replayD laws ds day).1=s at*
 go_enter Tryz.func77,Tryz.ntmps77
 go_upto_region 1 with fail
 go_cut [11,12]from 14 to 24 (fun v11 v12 W=>Below w.heap.size w W/\((E≠0/\v11= .pointer none/\v12= .int .i64 E)\/(E=0/\v12= .int .i64 0/\ ∃base b la co,v11= .pointer (some ⟨b,0,none⟩)/\w.heap.size<=base/\WldAt base W b s la co/\(∃last,GoodSt s last)/\ ∃k,k<=60/\FewS k s)))
 case first=>
  refine wp_region_held_drew (S:=(fun w'=>w'.cell? ⟨w.heap.size,0,none⟩=some (.slice LA n nc)/\w'.cell? ⟨w.heap.size,1,none⟩=some (.slice DA m mc))) (by kernel_rfl) ?hS ?hrest
  case hS=>refine⟨?_,?_⟩<;>(simp[go_sem];done)
  case hrest=>
   intro hHeld
   refine TkH 0 ?_
   refine TkH 1 ?_
   refine TkH 2 ?_
   refine TkH 4 ?_
   refine wpAnyH_ready (rs:=[3]) (by kernel_rfl) (by simp) (AllReadyH.cons (List.getElem?_toArray.trans rfl) (fun K hK=> ?_) AllReadyH.nil)
   go_simp
   have hWB:Below w.heap.size w (w.alloc (.cells #[.slice LA n nc, .slice DA m mc] 58)).drew:=Bw
   have hcs: ∀W,Below (w.heap.size+1) (w.alloc (.cells #[.slice LA n nc, .slice DA m mc] 58)).drew W->W.cell? ⟨w.heap.size,0,none⟩=some (.slice LA n nc)/\W.cell? ⟨w.heap.size,1,none⟩=some (.slice DA m mc):=fun W hW=>by
    refine⟨(B_cell hW (Nat.lt_succ_self _)).trans ?_,(B_cell hW (Nat.lt_succ_self _)).trans ?_⟩<;>(simp[go_sem];done)
   have HCS:=Lib.hid hcs
   clear hcs
   have hb1:Below (w.heap.size+1) (w.alloc (.cells #[.slice LA n nc, .slice DA m mc] 58)).drew ((w.alloc (.cells #[.slice LA n nc, .slice DA m mc] 58)).drew.alloc (.cells #[.string place] 9)):=B_alloc (Below.refl _ _) _ (by simp)
   refine hK.out _ _ ?_ (fun hHeld=> ?_)
   focus((try dsimp only);exact HCS.out _ hb1)
   clear hK K
   try simp only[Act.put,List.setIfInBounds_toArray,List.set_cons_zero,List.set_cons_succ]
   refine wpAnyH_ready (rs:=[5]) (by kernel_rfl) (by simp) (AllReadyH.cons (List.getElem?_toArray.trans rfl) (fun K hK=> ?_) AllReadyH.nil)
   refine step_append_S (v:= .slice (some ⟨w.heap.size+1,0,none⟩) 1 1) (n:=1) (m:=ns.length) rfl _ _ rfl elStr5 sC_len sC_one rfl (base:=w.heap.size+1) (xs:=[place]) (ys:=ns) (.inr ⟨w.heap.size+1,0,1,#[.string place],rfl,by omega,J_new _ _ _ (by simp),Nat.le_refl _,by simp[maxLen],by simp,fun j u hj=> ?hel⟩) rfl rfl rfl (HS.out.keep (n:=w.heap.size) Bw) (by simp[maxLen];omega) (by omega) (by simp) ?happ
   case hel=>
    match j,hj with
    |0,hj=>simpa[sC]using hj
    |j+1,hj=>simp[sC]at hj
   case happ=>
    intro v6 w6 h1 h2 h3
    obtain⟨A6,c6,hv6,hS6,_⟩:=h1.sl sC_len
    rw[show([place]++ns).length=1+ns.length by simp;omega]at hv6
    subst hv6
    have hb6:Below (w.heap.size+1) (w.alloc (.cells #[.slice LA n nc, .slice DA m mc] 58)).drew w6:=grown_below hb1 h2 (Nat.le_refl _) (by simp)
    have hw6:Below w.heap.size w w6:=hWB.trans (hb6.mono (Nat.le_succ _))
    have HW6:=Lib.hid hw6
    refine hK.out _ _ ?_ (fun hHeld=> ?_)
    focus((try dsimp only);exact HCS.out _ hb6)
    clear hK K
    try simp only[Act.put,List.setIfInBounds_toArray,List.set_cons_zero,List.set_cons_succ]
    refine wpAnyH_ready (rs:=[6]) (by kernel_rfl) (by simp) (AllReadyH.cons (List.getElem?_toArray.trans rfl) (fun K hK=> ?_) AllReadyH.nil)
    go_simp
    refine(HON.out w6 HW6.out A6 c6 hS6).mono ?_
    rintro e wq ⟨k1,hcase⟩
    have hb7:Below (w.heap.size+1) (w.alloc (.cells #[.slice LA n nc, .slice DA m mc] 58)).drew wq:=hb6.trans (k1.mono (by have:=hb6.size;simp at this;omega))
    have HB7:=Lib.hid (hw6.trans (k1.mono hw6.size))
    clear h1 h2 h3 k1 hw6 hb6 hb1 hWB HON
    rcases hcase with⟨hne,rfl⟩|⟨he,base,b,la,co,rfl,q2,q3,q4,q5⟩
    ·have HNE:=Lib.hid hne
     clear hne
     refine hK.out _ _ ?_ (fun hHeld=> ?_)
     focus((try dsimp only);exact HCS.out _ hb7)
     clear hK K
     try simp only[Act.put,List.setIfInBounds_toArray,List.set_cons_zero,List.set_cons_succ]
     refine TkH 7 ?_
     refine TkH 8 ?_
     refine TkH 9 ?_
     refine wpAnyH_ready (rs:=[10]) (by kernel_rfl) (by simp) (AllReadyH.cons (List.getElem?_toArray.trans rfl) (fun K hK=> ?_) AllReadyH.nil)
     go_simp
     refine hK.out _ _ ?_ (fun hHeld=> ?_)
     focus((try dsimp only);exact HCS.out _ hb7)
     clear hK K
     try simp only[Act.put,List.setIfInBounds_toArray,List.set_cons_zero,List.set_cons_succ]
     refine wpAnyH_ready (rs:=[11]) (by kernel_rfl) (by simp) (AllReadyH.cons (List.getElem?_toArray.trans rfl) (fun K hK=> ?_) AllReadyH.nil)
     go_simp
     refine hK.out _ _ ?_ (fun hHeld=> ?_)
     focus((try dsimp only);exact HCS.out _ hb7)
     clear hK K
     try simp only[Act.put,List.setIfInBounds_toArray,List.set_cons_zero,List.set_cons_succ]
     refine wpAnyH_done (by kernel_rfl) ?_ _
     go_wp2_with fail
     go_meet
     exact⟨HB7.out, .inl ⟨HNE.out,rfl,rfl⟩⟩
    ·have HE:=Lib.hid he
     have Q2:=Lib.hid q2
     have Q3:=Lib.hid q3
     have Q4:=Lib.hid q4
     have Q5:=Lib.hid q5
     clear he q2 q3 q4 q5
     refine hK.out _ _ ?_ (fun hHeld=> ?_)
     focus((try dsimp only);exact HCS.out _ hb7)
     clear hK K
     try simp only[Act.put,List.setIfInBounds_toArray,List.set_cons_zero,List.set_cons_succ]
     refine TkH 7 ?_
     refine TkH 8 ?_
     refine TkH 9 ?_
     refine wpAnyH_ready (rs:=[10]) (by kernel_rfl) (by simp) (AllReadyH.cons (List.getElem?_toArray.trans rfl) (fun K hK=> ?_) AllReadyH.nil)
     go_simp
     refine hK.out _ _ ?_ (fun hHeld=> ?_)
     focus((try dsimp only);exact HCS.out _ hb7)
     clear hK K
     try simp only[Act.put,List.setIfInBounds_toArray,List.set_cons_zero,List.set_cons_succ]
     refine wpAnyH_ready (rs:=[11]) (by kernel_rfl) (by simp) (AllReadyH.cons (List.getElem?_toArray.trans rfl) (fun K hK=> ?_) AllReadyH.nil)
     go_simp
     refine hK.out _ _ ?_ (fun hHeld=> ?_)
     focus((try dsimp only);exact HCS.out _ hb7)
     clear hK K
     try simp only[Act.put,List.setIfInBounds_toArray,List.set_cons_zero,List.set_cons_succ]
     refine wpAnyH_done (by kernel_rfl) ?_ _
     go_wp2_with fail
     go_meet
     exact⟨HB7.out, .inr ⟨HE.out,rfl,base,b,la,co,rfl,Nat.le_trans HW6.out.size Q2.out,Q3.out,Q4.out,Q5.out⟩⟩
 case rest=>
  obtain⟨hB,hcase⟩:=hcut
  rcases hcase with⟨hne,rfl,rfl⟩|⟨he,rfl,base,b,la,co,rfl,q2,q3,q4,q5⟩
  ·have HNE:=Lib.hid hne
   go_wp2_with fail
   go_ret3
   exact⟨hB, .inl ⟨HNE.out,rfl⟩⟩
  ·have HE:=Lib.hid he
   clear he
   have HB:=Lib.hid hB
   have Q3:=Lib.hid q3
   have Q4:=Lib.hid q4
   have Q5:=Lib.hid q5
   obtain⟨Bk,dd,cc,pp,wl,rr,mv,tv,ps,hb0,hC,hP,hT⟩:=q3
   obtain⟨k,hk6,hfew⟩:=q5
   have hgl:=hfew.graves
   have hin:=fun W (hB:Below wc.heap.size wc W)=>in_any base b s la co place day W (hC.keep hB) (hT.keep hB) (by omega)
   have hsz:=hB.size
   have HSZ:=Lib.hid hsz
   cases hix:graveIx s place day with
   |none=>
    rw[hix]at hin
    have HIN:=Lib.hid hin
    have HIX:=Lib.hid hix
    clear hin hC hP hT hfew hB q4 hix
    go_wp2_with (go_at_call 58;go_must(refine(HIN.out _ Bw).mono ?_);rintro e wz ⟨rfl,z,rfl⟩;simp only[ptrOf,Option.map_none])
    go_ret3
    exact⟨HB.out.trans (Below.mono (B:=wc.heap.size) Bw HSZ.out), .inr (.inl ⟨HE.out,HIX.out,rfl⟩)⟩
   |some i=>
    obtain⟨T,g,hpi,hpd,hgi,hgd,hTA,_⟩:=grave_tomb hT hix
    have hin2: ∀W,Below wc.heap.size wc W->Calls Tryz.prog 58 #[.pointer (some ⟨b,0,none⟩), .string place, .int .i64 day] W (Ret W (.pointer (some ⟨T,0,none⟩))):=fun W hB=>by
     have:=hin W hB
     rw[hix]at this
     simpa only[ptrOf,Option.map_some,hpd]using this
    have HIN:=Lib.hid hin2
    have HIX:=Lib.hid hix
    have HGI:=Lib.hid hgi
    have HTA:=Lib.hid hTA
    clear hin hin2 hC hP hT hfew hB q4 hTA hgd hpd hpi hix hgi
    go_wp2_with (go_at_call 58;go_must(refine(HIN.out _ Bw).mono ?_);rintro e wz ⟨rfl,z,rfl⟩)
    go_ret3
    have hbz:Below wc.heap.size wc (wc.ext z):=Bw
    exact⟨HB.out.trans (hbz.mono HSZ.out), .inr (.inr ⟨HE.out,base,b,la,co,Bk,T,i,g,HIX.out,HGI.out,rfl,q2,Q3.out.keep hbz,HTA.out.keep hbz,Q4.out,Q5.out⟩)⟩
end Go.Proofs.YtkhkhnellekofaaGreatDoor
