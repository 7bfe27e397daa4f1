/- Walk of chapter 5's replay. -/
import Derived.Test.YtmaidggpbihlgaaGreatDoorE8
import Derived.Test.YtmaidggpbihlgaaGreatDoorDK
import Derived.Test.YtmaidggpbihlgaaGreatDoorJ4
set_option linter.unusedSimpArgs false
set_option linter.unusedVariables false
namespace Go.Proofs.YtmaidggpbihlgaaGreatDoor
open Go.RowKit Go.Shelf
attribute [local go_sem] World.cell?_alloc_mark ext_size ext_cell ext_frozen lt_add_r lt_add_r2 lt_add_r3 lt_add_r4 lt_add_r5 lt_add_r6 lt_add_r7 lt_add_r8
attribute [local go_sem] ext_setCell alloc_setCell_lt
theorem mapS_fresh {W:World} {b:Nat} {K V:Type} {ek:K->Value} {ev:V->Value} (h:W.heap[b]?=some (.map #[] 0)):MapS W b ek ev ([]:List (K×V)):=⟨#[],0,h,rfl,by simp,by simp⟩
def NewPost (w:World) (e:Ending) (w':World):Prop:=
 e= .returned (.agg #[.map (some (w.heap.size+1)), .map (some (w.heap.size+1+1)), .map (some (w.heap.size+1+1+1)), .slice none 0 0, .map (some (w.heap.size+1+1+1+1)), .map (some (w.heap.size+1+1+1+1+1))])/\
 w'.heap.size=w.heap.size+6/\(∀k,1<=k->k<=5->w'.heap[w.heap.size+k]?=some (.map #[] 0))/\Below w.heap.size w w'
theorem results_people {fn:Func} {p:Tmp} (h:fn.results= #[.cell p 92]) (tmps:Array Value) (w:World) (B:Nat) (x0 x1 x2 x3 x4 x5:Value) (hp:tmps.getD p undef= .pointer (some ⟨B,0,none⟩))
 (hx:w.heap[B]?=some (.cells #[x0,x1,x2,x3,x4,x5] 92)):(results fn tmps).run Tryz.prog w= .ok (.agg #[x0,x1,x2,x3,x4,x5]) w:=by
 have h0:w.cell? ⟨B,0,none⟩=some x0:=by simp only[World.cell?,hx];rfl
 have h1:w.cell? ⟨B,1,none⟩=some x1:=by simp only[World.cell?,hx];rfl
 have h2:w.cell? ⟨B,2,none⟩=some x2:=by simp only[World.cell?,hx];rfl
 have h3:w.cell? ⟨B,3,none⟩=some x3:=by simp only[World.cell?,hx];rfl
 have h4:w.cell? ⟨B,4,none⟩=some x4:=by simp only[World.cell?,hx];rfl
 have h5:w.cell? ⟨B,5,none⟩=some x5:=by simp only[World.cell?,hx];rfl
 clear hx
 rw[results_c1 h,hp]
 go_simp
set_option maxRecDepth 100000 in
set_option maxHeartbeats 2000000 in
theorem newPeople_any (w:World):Calls Tryz.prog 55 #[] w (NewPost w):=by
 have hmm:= @run_makeMap Tryz.prog
 go_enter Tryz.func55,Tryz.ntmps55
 go_wp2_with fail
 refine bodyPost_ret (v:= .agg #[.map (some (w.heap.size+1)), .map (some (w.heap.size+1+1)), .map (some (w.heap.size+1+1+1)), .slice none 0 0, .map (some (w.heap.size+1+1+1+1)), .map (some (w.heap.size+1+1+1+1+1))]) ?_ rfl ?_
 ·refine results_people rfl _ _ w.heap.size _ _ _ _ _ _ rfl ?_
  exact J_alloc (J_alloc (J_alloc (J_alloc (J_alloc (J_new _ _ _ rfl)))))
 ·refine⟨rfl,by simp,fun k h1 h2=> ?_,Bw⟩
  obtain rfl|rfl|rfl|rfl|rfl:k=1\/k=2\/k=3\/k=4\/k=5:=by omega
  ·exact J_alloc (J_alloc (J_alloc (J_alloc (J_new _ _ _ (by simp)))))
  ·exact J_alloc (J_alloc (J_alloc (J_new _ _ _ (by simp))))
  ·exact J_alloc (J_alloc (J_new _ _ _ (by simp)))
  ·exact J_alloc (J_new _ _ _ (by simp))
  ·exact J_new _ _ _ (by simp)
set_option maxRecDepth 100000 in
theorem wld_new {base:Nat} {w W:World} (hb:base<=w.heap.size) (hs:w.heap.size+6=W.heap.size) (hm: ∀k,1<=k->k<=5->W.heap[w.heap.size+k]?=some (.map #[] 0)):
 WldAt base (W.alloc (.cells #[.map (some (w.heap.size+1)), .map (some (w.heap.size+1+1)), .map (some (w.heap.size+1+1+1)), .slice none 0 0, .map (some (w.heap.size+1+1+1+1)), .map (some (w.heap.size+1+1+1+1+1)), .slice none 0 0, .int .i64 0, .int .i64 0] 95)) W.heap.size zeroSt 0 0:=by
 have hk: ∀k,1<=k->k<=5->(W.alloc (.cells #[.map (some (w.heap.size+1)), .map (some (w.heap.size+1+1)), .map (some (w.heap.size+1+1+1)), .slice none 0 0, .map (some (w.heap.size+1+1+1+1)), .map (some (w.heap.size+1+1+1+1+1)), .slice none 0 0, .int .i64 0, .int .i64 0] 95)).heap[w.heap.size+k]?=some (.map #[] 0):=fun k h1 h2=>(Below.heap_alloc _ _ _ (by omega)).trans (hm k h1 h2)
 refine⟨[],w.heap.size+1,w.heap.size+2,w.heap.size+3,w.heap.size+4,w.heap.size+5, .slice none 0 0, .slice none 0 0,[],by omega,J_new _ _ _ rfl,⟨by simp,⟨by omega,by omega,by omega,by omega,by omega⟩,mapS_fresh (hk 1 (by omega) (by omega)),⟨[],[],mapS_fresh (hk 2 (by omega) (by omega)),mapS_fresh (hk 3 (by omega) (by omega)),fun n=> .inl ⟨rfl,rfl⟩,fun n=> .inl ⟨rfl,rfl⟩,rfl,by simp,by simp,by simp⟩,OwnS.nil,⟨[],mapS_fresh (hk 4 (by omega) (by omega)),fun n=> .inl ⟨rfl,rfl⟩⟩,mapS_fresh (hk 5 (by omega) (by omega))⟩,⟨OwnS.nil,rfl,by simp,fun i T g h=>by simp at h⟩⟩
section
variable {s:St} {d:Deed}
theorem grant_err:(grantP s d).2≠0->(grantP s d).1=s:=by
 unfold grantP
 (try simp only)
 (repeat' split)<;>intro h<;>first|rfl|exact absurd rfl h
theorem transfer_err:(transferP s d).2≠0->(transferP s d).1=s:=by
 unfold transferP
 (try simp only)
 (repeat' split)<;>intro h<;>first|rfl|exact absurd rfl h
theorem surrender_err:(surrenderP s d).2≠0->(surrenderP s d).1=s:=by
 unfold surrenderP
 (try simp only)
 (repeat' split)<;>intro h<;>first|rfl|exact absurd rfl h
theorem renew_err:(renewP s d).2≠0->(renewP s d).1=s:=by
 unfold renewP
 (try simp only)
 (repeat' split)<;>intro h<;>first|rfl|exact absurd rfl h
theorem will_err:(willP s d).2≠0->(willP s d).1=s:=by
 unfold willP
 (try simp only)
 (repeat' split)<;>intro h<;>first|rfl|exact absurd rfl h
theorem renounce_err:(renounceP s d).2≠0->(renounceP s d).1=s:=by
 unfold renounceP
 (try simp only)
 (repeat' split)<;>intro h<;>first|rfl|exact absurd rfl h
theorem child_err:(childP s d).2≠0->(childP s d).1=s:=by
 unfold childP
 (try simp only)
 (repeat' split)<;>intro h<;>first|rfl|exact absurd rfl h
theorem marry_err:(marryP s d).2≠0->(marryP s d).1=s:=by
 unfold marryP
 (try simp only)
 (repeat' split)<;>intro h<;>first|rfl|exact absurd rfl h
theorem death_err {laws:List Law}:(deathP laws s d).2≠0->(deathP laws s d).1=s:=by
 unfold deathP
 (try simp only)
 (repeat' split)<;>intro h<;>first|rfl|exact absurd rfl h
theorem take_err {laws:List Law} (h:(takeD laws s d).2≠0):(takeD laws s d).1=s:=by
 revert h
 unfold takeD
 split
 ·exact grant_err
 split
 ·exact transfer_err
 split
 ·exact surrender_err
 split
 ·exact renew_err
 split
 ·exact will_err
 split
 ·exact renounce_err
 split
 ·exact child_err
 split
 ·exact marry_err
 exact death_err
theorem takeQ_err {laws:List Law} {co:Nat} {last:Int} (h:(takeQ laws s co last d).2≠0):(takeQ laws s co last d).1=s:=by
 revert h
 unfold takeQ
 split
 ·exact fun _=>rfl
 split
 ·exact fun _=>rfl
 exact take_err
theorem next_take {laws:List Law} {co:Nat} {last:Int} (h:checkDeedP d=0):nextD laws s co last d=takeQ laws s co last d:=by
 unfold nextD takeQ
 rw[h]
 rfl
end
end Go.Proofs.YtmaidggpbihlgaaGreatDoor
namespace Go.Proofs.YtmaidggpbihlgaaGreatDoor
open Go.RowKit Go.Shelf
attribute [local go_sem] World.cell?_alloc_mark ext_size ext_cell ext_frozen lt_add_r lt_add_r2 lt_add_r3 lt_add_r4 lt_add_r5 lt_add_r6 lt_add_r7 lt_add_r8
attribute [local go_sem] ext_setCell alloc_setCell_lt
noncomputable def stopQ (laws:List Law) (ds:List Deed) (upto:Int):St×Nat×Int:=
 if checkLawsP laws != 0 then(zeroSt,0,checkLawsP laws)else stopGo laws upto ds zeroSt 0 0
def ReplayPost (w:World) (R:St×Nat×Int) (e:Ending) (w':World):Prop:=
 ∃base b la co,e= .returned (.tuple #[.pointer (some ⟨b,0,none⟩), .int .i64 R.2.1, .int .i64 R.2.2])/\w.heap.size<=base/\WldAt base w' b R.1 la co/\Below w.heap.size w w'/\(∃last,GoodSt R.1 last)/\ ∃k,k<=60/\FewS k R.1
theorem takeQ_ok {laws:List Law} {s:St} {k:Nat} {last:Int} {d:Deed} (h:(takeQ laws s k last d).2=0) (hd:OkD d) (hG:GoodSt s last) (hF:FewS k s) (hlw:checkLawsP laws=0):k<60/\GoodSt (takeQ laws s k last d).1 d.day/\FewS (k+1) (takeQ laws s k last d).1:=by
 unfold takeQ at h⊢
 split at h
 ·simp at h
 rename_i h1
 split at h
 ·simp at h
 rename_i h2
 rw[if_neg h1,if_neg h2]
 have hk:k<60:=by simpa using h1
 have hl:last<=d.day:=by simpa using h2
 have ht:takeD laws s d=((takeD laws s d).1,0):=Prod.ext rfl h
 exact⟨hk,take_keeps hG hd hl hlw ht,few_take hF hk hG hd hl hlw ht⟩
set_option maxRecDepth 100000 in
set_option maxHeartbeats 2000000 in
theorem replay_any (laws:List Law) (ds:List Deed) (upto:Int) (LA:Option Addr) (n nc:Nat) (DA:Option Addr) (m mc:Nat) (w:World) (hR:RightsIn w laws ds LA n nc DA m mc) (hF:FormsIn w) (hL:LensIn w) (hO: ∀d∈ds,okLens d):
 Calls Tryz.prog 25 #[.agg #[.slice LA n nc, .slice DA m mc], .int .i64 upto] w (ReplayPost w (stopQ laws ds upto)):=by
 obtain⟨R,hR⟩: ∃R,R=stopQ laws ds upto:=⟨_,rfl⟩
 rw[<-hR]
 unfold stopQ at hR
 have HR:=Lib.hid hR
 clear hR
 obtain⟨rfl,rfl,hlc,hdc,hLS,hDS⟩:=hR
 have HF:=Lib.hid hF
 have HL:=Lib.hid hL
 have HO:=Lib.hid hO
 have HLS:=Lib.hid hLS
 have HDS:=Lib.hid hDS
 clear hF hL hO hLS hDS
 go_enter Tryz.func25,Tryz.ntmps25
 go_upto_region 2 with(go_at_call 55;go_must(refine(newPeople_any _).mono ?_);rintro e wq ⟨rfl,n1,n2,n3⟩;have N1:=Lib.hid n1;have N2:=Lib.hid n2;have N3:=Lib.hid n3;clear n1 n2 n3)
 have hwl:=wld_new (base:=w.heap.size+1) (w:=w.alloc (.cells #[.slice LA laws.length nc, .slice DA ds.length mc] 25)) (W:=wq) (by simp) N1.out.symm N2.out
 have hsz:=N1.out
 simp only[World.size_alloc]at hwl hsz
 have hb0:Below w.heap.size w wq:=Below.trans (B_alloc (Below.refl _ _) _) (N3.out.mono (by simp))
 have hbx:wq.heap[w.heap.size]?=some (.cells #[.slice LA laws.length nc, .slice DA ds.length mc] 25):=(N3.out.block _ (by simp)).trans (J_new _ _ _ rfl)
 have hbl:=blk_lt hbx
 have hB2: ∀o,Below w.heap.size w (wq.alloc o):=fun o=>B_alloc hb0 _ (by omega)
 have hX2: ∀o,(wq.alloc o).heap[w.heap.size]?=some (.cells #[.slice LA laws.length nc, .slice DA ds.length mc] 25):=fun o=>J_alloc hbx
 obtain⟨b,hb⟩: ∃b,b=wq.heap.size:=⟨_,rfl⟩
 rw[<-hb]at hwl⊢
 have h2:=hB2 (.cells #[.map (some (w.heap.size+1+1)), .map (some (w.heap.size+1+1+1)), .map (some (w.heap.size+1+1+1+1)), .slice none 0 0, .map (some (w.heap.size+1+1+1+1+1)), .map (some (w.heap.size+1+1+1+1+1+1)), .slice none 0 0, .int .i64 0, .int .i64 0] 95)
 have hx2:=hX2 (.cells #[.map (some (w.heap.size+1+1)), .map (some (w.heap.size+1+1+1)), .map (some (w.heap.size+1+1+1+1)), .slice none 0 0, .map (some (w.heap.size+1+1+1+1+1)), .map (some (w.heap.size+1+1+1+1+1+1)), .slice none 0 0, .int .i64 0, .int .i64 0] 95)
 clear hB2 hX2 hb0 hbx hbl hsz N1 N2 N3 hb
 generalize wq.alloc _=W2 at*
 have HWL:=Lib.hid hwl
 have HB2:=Lib.hid h2
 have HX2:=Lib.hid hx2
 have hsl:=blk_lt hx2
 have x0:W2.cell? ⟨w.heap.size,0,none⟩=some (.slice LA laws.length nc):=by simp only[World.cell?,hx2];rfl
 have x1:W2.cell? ⟨w.heap.size,1,none⟩=some (.slice DA ds.length mc):=by simp only[World.cell?,hx2];rfl
 have HCK:=Lib.hid (fun W (hB:Below W2.heap.size W2 W)=>checkLaws5_any laws LA laws.length nc W rfl (HLS.out.keep (h2.trans (hB.mono (Nat.le_of_lt hsl)))))
 clear hwl h2 hx2
 by_cases hlw:checkLawsP laws=0
 ·rw[hlw]at HCK HR
  have HLW:=Lib.hid hlw
  clear hlw
  go_upto_block 0 with(go_at_call 56;go_must(refine(HCK.out _ Bw).mono ?_);rintro e wq ⟨rfl,z,rfl⟩)
  clear HCK x0 x1
  go_cut [9,10,11,25]from 26 (fun _ _ _ _ W=> ∃s,Hid (R=(s,ds.length,0))/\ ∃la co,WldAt (w.heap.size+1) W b s la co/\Below w.heap.size w W/\W.heap[w.heap.size]?=some (.cells #[.slice LA laws.length nc, .slice DA ds.length mc] 25)/\(∃last,GoodSt s last)/\ ∃k,k<=60/\FewS k s)
  case first=>
   go_wp2_with fail
   go_loopw [25] (fun i wr=> ∃(k:Nat) (s:St) (last:Int),k<=ds.length/\i= .int .i64 k/\Hid (R=stopGo laws upto (ds.drop k) s k last)/\Hid (WldAt (w.heap.size+1) wr b s last k)/\Hid (GoodSt s last)/\Hid (FewS k s)/\k<=60/\Below w.heap.size w wr/\wr.heap[w.heap.size]?=some (.cells #[.slice LA laws.length nc, .slice DA ds.length mc] 25)) (fun i _=>ds.length-(intOf i).toNat)
   case atStart=>
    refine⟨0,zeroSt,0,Nat.zero_le _,rfl,?_,HWL.out.keep (n:=W2.heap.size) Bw,good_zero 0,few_zero,by omega,?_,?_⟩
    ·show _=_
     rw[HR.out]
     simp
    ·exact HB2.out.trans (Below.mono (B:=W2.heap.size) Bw (Nat.le_of_lt hsl))
    ·exact J_ext HX2.out
   case round=>
    obtain⟨k,s,last,hk,rfl,HX,HW,HG,HFw,hk6,hB,hX⟩:=hrel
    clear HWL HB2 HX2 HR
    have x0:wr.cell? ⟨w.heap.size,0,none⟩=some (.slice LA laws.length nc):=by simp only[World.cell?,hX];rfl
    have hsl2:=blk_lt hX
    have HB:=Lib.hid hB
    have HXX:=Lib.hid hX
    by_cases hlt:k<ds.length
    ·obtain⟨db,off,cs,hA,hdb,⟨B,c,hcap,hcs,hS⟩,hc⟩:=(HDS.out.keep deed_keeps hB).at hlt
     subst hA hcs
     have hst:=HX.out
     rw[List.drop_eq_getElem_cons hlt,stopGo,<-List.drop_eq_getElem_cons hlt]at hst
     have hok:=HO.out ds[k] (List.getElem_mem hlt)
     have hcd: ∀W,Below wr.heap.size wr W->_:=fun W hW=>checkDeedQ_any ds[k] B c W (HF.out.keep (hB.trans (hW.mono (Nat.le_of_lt hsl2)))) hok hcap (hS.keep hW)
     have htk: ∀W,Below wr.heap.size wr W->OkD ds[k]->_:=fun W hW hd=>take_any (w.heap.size+1) b s k last laws LA nc ds[k] B c W (HW.out.keep hW) HG.out HFw.out hd HLW.out (HL.out.keep (hB.trans (hW.mono (Nat.le_of_lt hsl2)))) (HLS.out.keep (hB.trans (hW.mono (Nat.le_of_lt hsl2)))) hcap (hS.keep hW)
     rw[checkDeedQ_eq]at hcd
     have HLT:=Lib.hid hlt
     have HDL:=Lib.hid (show k+(ds.drop k).length=ds.length by rw[List.length_drop];omega)
     have HST:=Lib.hid hst
     have HCD:=Lib.hid hcd
     have HTK:=Lib.hid htk
     generalize ds[k]=d at*
     clear hst hok hcd htk hX hB hS
     have hkeep:OkD d->(takeQ laws s k last d).2=0->k<60/\GoodSt (takeQ laws s k last d).1 d.day/\FewS (k+1) (takeQ laws s k last d).1:=fun hd h=>takeQ_ok h hd HG.out HFw.out HLW.out
     have hdok:checkDeedP d=0->OkD d:=deed_ok
     have hnt:=fun h=>next_take (laws:=laws) (s:=s) (co:=k) (last:=last) (d:=d) h
     obtain⟨kd,dy,pl,fr,ts,cl,yr⟩:=d
     have i0:wr.cell? ⟨db,off+k*7,none⟩=some (.int .i64 kd):=hc 0 _ rfl
     have i1:wr.cell? ⟨db,off+k*7+1,none⟩=some (.int .i64 dy):=hc 1 _ rfl
     have i2:wr.cell? ⟨db,off+k*7+2,none⟩=some (.string pl):=hc 2 _ rfl
     have i3:wr.cell? ⟨db,off+k*7+3,none⟩=some (.string fr):=hc 3 _ rfl
     have i4:wr.cell? ⟨db,off+k*7+4,none⟩=some (.slice B ts.length c):=hc 4 _ rfl
     have i5:wr.cell? ⟨db,off+k*7+5,none⟩=some (.int .i64 cl):=hc 5 _ rfl
     have i6:wr.cell? ⟨db,off+k*7+6,none⟩=some (.int .i64 yr):=hc 6 _ rfl
     have hki:(k:Int)<(ds.length:Int):=by omega
     have hk0:(0:Int)<=(k:Int):=by omega
     have hkm:(k:Int)<=(mc:Int):=by omega
     have hwn:w.heap.size≠wr.heap.size:=by omega
     unfold Deed.v at HTK
     simp only at hnt hkeep HTK HST
     clear hc
     by_cases hce:checkDeedP ⟨kd,dy,pl,fr,ts,cl,yr⟩=0
     ·have hod:=hdok hce
      have hst:=HST.out
      rw[hce,hnt hce]at hst
      rw[hce]at HCD
      have hkp:=hkeep hod
      have her:=fun h=>takeQ_err (laws:=laws) (s:=s) (d:=⟨kd,dy,pl,fr,ts,cl,yr⟩) (co:=k) (last:=last) h
      have HTK2:=Lib.hid (fun W hW=>HTK.out W hW hod)
      clear HST HTK hnt hkeep hdok hod
      generalize takeQ laws s k last ⟨kd,dy,pl,fr,ts,cl,yr⟩=x at*
      generalize checkDeedP ⟨kd,dy,pl,fr,ts,cl,yr⟩=ce at*
      obtain⟨s',er⟩:=x
      by_cases hday:upto<dy
      ·have HRX:Hid (R=(s,ds.length,0)):=by
        show _=_
        rw[hst,if_pos (by simp[hday]),HDL.out]
       clear hst hkp her HTK2 HDL
       go_wp2_with (go_at_call 36;go_must(refine(HCD.out _ Bw).mono ?_);rintro e wq ⟨rfl,z,rfl⟩)
       go_meet
       exact⟨s,HRX.out,last,k,HW.out.keep (n:=wr.heap.size) Bw,HB.out.trans (Below.mono (B:=wr.heap.size) Bw (by omega)),by repeat(first|assumption|with_reducible refine J_alloc ?_|with_reducible refine J_ext ?_|with_reducible refine J_ne (by omega) ?_),⟨last,HG.out⟩,k,hk6,HFw.out⟩
      ·have hst2:R=if(er != 0)=true then(s,k,er)else stopGo laws upto (ds.drop (k+1)) s' (k+1) dy:=by rw[hst,if_neg (by simp[hday])]
       have HST2:=Lib.hid hst2
       have hcdm:=HCD.out
       clear hst hst2 HDL
       by_cases h0:er=0
       ·subst h0
        obtain⟨hk60,hG2,hF2⟩:=hkp rfl
        have HG2:=Lib.hid hG2
        have HF2:=Lib.hid hF2
        have hw9:=wrap_k (k:=k) (Nat.lt_trans hk60 (by decide))
        have hw8:=wrap_k2 (k:=k) (Nat.lt_trans hk60 (by decide))
        clear hkp her hG2 hF2 hcdm
        go_wp2_with (first
         |(go_at_call 36;go_must(refine(HCD.out _ Bw).mono ?_);rintro e wq ⟨rfl,z,rfl⟩)
         |(go_at_call 37
           go_must(refine(HTK2.out _ Bw).mono ?_)
           rintro e wq ⟨rfl,t1,t2⟩
           simp only[if_true]at t1
           have T1:=Lib.hid t1
           have hbw:Below w.heap.size w wq:=(HB.out.trans (Below.mono (B:=wr.heap.size) Bw (Nat.le_of_lt hsl2))).trans (t2.mono (Nat.le_succ _))
           have hxw:=(t2.block w.heap.size (Nat.lt_succ_self _)).trans (show _=some (.cells #[.slice LA laws.length nc, .slice (some ⟨db,off,none⟩) ds.length mc] 25) from by have hX:=HXX.out;repeat(first|assumption|with_reducible refine J_alloc ?_|with_reducible refine J_ext ?_|with_reducible refine J_ne (by omega) ?_))
           have HBW:=Lib.hid hbw
           have HXW:=Lib.hid hxw
           clear t1 t2 hbw hxw))
        go_round
        case rel=>
         clear hw9 hw8
         refine⟨k+1,s',dy,HLT.out,by go_num,?_,T1.out,HG2.out,HF2.out,hk60,HBW.out,HXW.out⟩
         show _=_
         rw[HST2.out]
         simp
        case measure=>clear hw9 hw8;have:=HLT.out;simp only[intOf];omega
       ·have hs:=her h0
        simp only at hs
        subst hs
        have HRX:Hid (R=(s',k,er)):=by
         show _=_
         rw[HST2.out,if_pos (by simpa using h0)]
        clear hkp her HST2 hcdm
        go_wp2_with (first
         |(go_at_call 36;go_must(refine(HCD.out _ Bw).mono ?_);rintro e wq ⟨rfl,z,rfl⟩)
         |(go_at_call 37
           go_must(refine(HTK2.out _ Bw).mono ?_)
           rintro e wq ⟨rfl,t1,t2⟩
           have T1:=Lib.hid t1
           have hbw:Below w.heap.size w wq:=(HB.out.trans (Below.mono (B:=wr.heap.size) Bw (Nat.le_of_lt hsl2))).trans (t2.mono (Nat.le_succ _))
           have HBW:=Lib.hid hbw
           clear t1 t2 hbw))
        go_ret3
        rw[HRX.out]
        exact⟨w.heap.size+1,b,_,_,rfl,by omega,T1.out,HBW.out,⟨last,HG.out⟩,k,hk6,HFw.out⟩
     ·have hne:(nextD laws s k last ⟨kd,dy,pl,fr,ts,cl,yr⟩)=(s,checkDeedP ⟨kd,dy,pl,fr,ts,cl,yr⟩):=by
       unfold nextD
       rw[if_pos (by simpa using hce)]
      have hst:=HST.out
      rw[hne]at hst
      generalize checkDeedP ⟨kd,dy,pl,fr,ts,cl,yr⟩=ce at*
      have HRX:Hid (R=(s,k,ce)):=by
       show _=_
       rw[hst,if_neg (by simp[hce]),if_pos (by simpa using hce)]
      clear hst hne HST HTK hnt hkeep hdok HDL
      go_wp2_with (go_at_call 36;go_must(refine(HCD.out _ Bw).mono ?_);rintro e wq ⟨rfl,z,rfl⟩)
      go_ret3
      rw[HRX.out]
      exact⟨w.heap.size+1,b,last,k,rfl,by omega,HW.out.keep (n:=wr.heap.size) Bw,HB.out.trans (Below.mono (B:=wr.heap.size) Bw (by omega)),⟨last,HG.out⟩,k,hk6,HFw.out⟩
    ·have hki: ¬(k:Int)<(ds.length:Int):=by omega
     have hx:=HX.out
     rw[List.drop_eq_nil_of_le (by omega),stopGo]at hx
     have hke:k=ds.length:=by omega
     have HRX:Hid (R=(s,ds.length,0)):=by show _=_;rw[hx,hke]
     clear hx hke hX hB
     go_wp2_with fail
     go_meet
     exact⟨s,HRX.out,last,k,HW.out,HB.out,HXX.out,⟨last,HG.out⟩,k,hk6,HFw.out⟩
  case rest=>
   obtain⟨s,HRX,la,co,hW,hB,hX,hg,hf⟩:=hcut
   have x1:wc.cell? ⟨w.heap.size,1,none⟩=some (.slice DA ds.length mc):=by simp only[World.cell?,hX];rfl
   have hsl2:=blk_lt hX
   have HW:=Lib.hid hW
   have HB:=Lib.hid hB
   clear hW hB hX
   go_upto_region 15 with fail
   go_quiet (fail)
   go_wp2_with fail
   go_ret3
   rw[HRX.out]
   exact⟨w.heap.size+1,b,la,co,rfl,by omega,HW.out.keep (n:=wc.heap.size) Bw,HB.out.trans (Below.mono (B:=wc.heap.size) Bw (by omega)),hg,hf⟩
 ·generalize checkLawsP laws=er at*
  have hne:(er != 0)=true:=by simpa using hlw
  have HRX:Hid (R=(zeroSt,0,er)):=by show _=_;rw[HR.out,if_pos hne]
  clear HR
  go_wp2_with (go_at_call 56;go_must(refine(HCK.out _ Bw).mono ?_);rintro e wq ⟨rfl,z,rfl⟩)
  go_ret3
  rw[HRX.out]
  exact⟨w.heap.size+1,b,0,0,rfl,by omega,HWL.out.keep (n:=W2.heap.size) Bw,HB2.out.trans (Below.mono (B:=W2.heap.size) Bw (by omega)),⟨0,good_zero 0⟩,0,by omega,few_zero⟩
end Go.Proofs.YtmaidggpbihlgaaGreatDoor
