/- Walks of chapter 5's Holders, inForce, Class, Ends. -/
import Derived.Test.YtmaidggpbihlgaaGreatDoorEB
set_option linter.unusedSimpArgs false
set_option linter.unusedVariables false
namespace Go.Proofs.YtmaidggpbihlgaaGreatDoor
open Go.RowKit Go.Shelf
attribute [local go_sem] World.cell?_alloc_mark ext_size ext_cell ext_frozen lt_add_r lt_add_r2 lt_add_r3 lt_add_r4 lt_add_r5 lt_add_r6 lt_add_r7 lt_add_r8
attribute [local go_sem] ext_setCell alloc_setCell_lt
set_option maxRecDepth 100000 in
set_option maxHeartbeats 2000000 in
theorem ifStr_any (g:Nat) (lb:Array Value) (eg: ∀args w,(callFunc g args).run Tryz.prog w= .ok (.enter g args) w) (p:ByteArray->Bool) (A:Option Addr) (c:Nat) (xs:List ByteArray) (w:World) (hl:xs.length<=100000)
 (hS:Sl w 1 sC A xs) (hp:GivesOn g lb (fun s=> .string s) p xs w):Calls Tryz.prog 118 #[.slice A xs.length c, .func (.func g) #[] lb] w (fun e w'=> ∃i:Int,e= .returned (.int .i64 i)/\decide (0<=i)=xs.any p/\Below w.heap.size w w'):=by
 have HS:=Lib.hid hS
 have HP:=Lib.hid hp
 clear hS hp
 go_enter Tryz.func118,Tryz.ntmps118
 go_wp2_with fail
 go_loopw [8] (fun i wr=> ∃k:Nat,k<=xs.length/\i= .int .i64 k/\Hid (xs.any p=(xs.drop k).any p)/\Below w.heap.size w wr) (fun i _=>xs.length-(intOf i).toNat)
 case atStart=>exact⟨0,Nat.zero_le _,rfl,by show _=_;rw[List.drop_zero],Below.refl _ _⟩
 case round=>
  obtain⟨k,hk,rfl,HX,hB⟩:=hrel
  have HB:=Lib.hid hB
  by_cases hlt:k<xs.length
  ·obtain⟨b,off,rfl,hb,hc⟩:=(HS.out.keep hB).at hlt
   have i0:wr.cell? ⟨b,off+k,none⟩=some (.string xs[k]):=by have:=hc 0 _ rfl;simpa using this
   have hx:=HX.out
   rw[List.drop_eq_getElem_cons hlt,List.any_cons]at hx
   have hcall: ∀W,Below w.heap.size w W->Calls Tryz.prog g (#[.string xs[k]]++lb) W fun e w'=>e= .returned (.bool (p xs[k]))/\Below w.heap.size w w':=fun W hW=>HP.out xs[k] (List.getElem_mem hlt) W hW
   generalize xs[k]=x at*
   generalize hpx:p x=px at*
   have HX2:=Lib.hid hx
   have hki:(k:Int)<(xs.length:Int):=by omega
   have hk0:(0:Int)<=(k:Int):=by omega
   have HLT:=Lib.hid hlt
   have HCL:=Lib.hid hcall
   clear hc hx hcall HX hpx
   cases px
   ·go_wp2_with (go_at_fn g;refine(HCL.out _ HB.out).mono ?_;rintro e w' ⟨rfl,h1⟩)
    go_round
    case rel=>exact⟨k+1,HLT.out,by go_num,by show _=_;rw[HX2.out];simp,h1⟩
    case measure=>have:=HLT.out;simp only[intOf];omega
   ·go_wp2_with (go_at_fn g;refine(HCL.out _ HB.out).mono ?_;rintro e w' ⟨rfl,h1⟩)
    go_ret
    exact⟨k,rfl,by rw[HX2.out];simp,h1⟩
  ·have hki: ¬(k:Int)<(xs.length:Int):=by omega
   have hx:=HX.out
   rw[List.drop_eq_nil_of_le (by omega)]at hx
   have HX2:=Lib.hid hx
   clear hx hB
   go_wp2_with fail
   go_ret
   exact⟨-1,rfl,by rw[HX2.out];simp,HB.out⟩
set_option maxRecDepth 100000 in
set_option maxHeartbeats 2000000 in
theorem cfStr_any (g:Nat) (lb:Array Value) (eg: ∀args w,(callFunc g args).run Tryz.prog w= .ok (.enter g args) w) (p:ByteArray->Bool) (A:Option Addr) (n c:Nat) (xs:List ByteArray) (w:World) (hn:n=xs.length) (hl:xs.length<=100000)
 (hS:Sl w 1 sC A xs) (hp:GivesOn g lb (fun s=> .string s) p xs w):Calls Tryz.prog 62 #[.slice A n c, .func (.func g) #[] lb] w (Ret w (.bool (xs.any p))):=by
 subst hn
 have HI:=Lib.hid (ifStr_any g lb eg p A c xs w hl hS hp)
 clear hS hp
 go_enter Tryz.func62,Tryz.ntmps62
 go_wp2_with (go_at_call 118;refine HI.out.mono ?_;rintro e wq ⟨i,rfl,hi,hB⟩)
 go_ret
 rw[<-hi]
 exact Ret.of rfl hB
set_option maxRecDepth 100000 in
set_option maxHeartbeats 2000000 in
theorem onn_any (s:ByteArray) (W:World) (hs:s.size<=100000):Calls Tryz.prog 63 #[.string s] W (Ret W (.bool (!isNameP s))):=by
 go_enter Tryz.func63,Tryz.ntmps63
 go_wp2_with (go_at_call 64;refine(isName5_any _ _ hs).mono ?_;intro e wq hq;rcases Ret0.bools hq with⟨rfl,⟨hb,rfl⟩|⟨hb,rfl⟩⟩<;>clear hq)
 all_goals go_ret
 all_goals exact Ret.of (bool_eq (by simp[*])) Bw
theorem onn_gives (xs:List ByteArray) (w:World) (hs: ∀s∈xs,s.size<=100000):GivesOn 63 #[] (fun s=> .string s) (fun s=>!isNameP s) xs w:=fun x hx W hW=>by
 refine(onn_any x W (hs x hx)).mono ?_
 rintro e wq ⟨rfl,z,rfl⟩
 exact⟨rfl,hW.trans ((below_ext W z).mono hW.size)⟩
theorem replay_snd (laws:List Law) (u u':Int): ∀(ds:List Deed) (s t t':St) (k:Nat) (l:Int),(replayGo laws u ds s t k l).2=(replayGo laws u' ds s t' k l).2
 | [],_,_,_,_,_=>rfl
 |d::ds,s,t,t',k,l=>by
  rw[replayGo,replayGo]
  split
  ·rfl
  ·exact replay_snd laws u u' ds _ _ _ _ _
noncomputable def onErr (laws:List Law) (ds:List Deed) (names:List ByteArray) (day:Int):Int:=
 if(stopQ laws ds 200000).2.2 != 0 then(stopQ laws ds 200000).2.2 else if names.any (fun s=>!isNameP s)then 4 else if !isDayP day then 2 else 0
theorem stopQ_replay (laws:List Law) (ds:List Deed):(stopQ laws ds 200000).2=(replayD laws ds 200000).2:=by
 unfold stopQ replayD
 split
 ·rfl
 ·exact stop_all (Int.le_refl _)
theorem stopQ_told {laws:List Law} {ds:List Deed} (h:(stopQ laws ds 200000).2.2=0) (day:Int):(stopQ laws ds day).1=(replayD laws ds day).1/\(stopQ laws ds day).2.2=0:=by
 rw[stopQ_replay]at h
 unfold replayD at h
 unfold stopQ replayD
 split at h
 ·rename_i hc
  rw[if_pos hc,if_pos hc]
  exact⟨rfl,h⟩
 ·rename_i hc
  rw[if_neg hc,if_neg hc]
  exact stop_told (by rw[replay_snd laws day 200000 ds zeroSt zeroSt zeroSt];exact h)
end Go.Proofs.YtmaidggpbihlgaaGreatDoor
namespace Go.Proofs.YtmaidggpbihlgaaGreatDoor
open Go.RowKit Go.Shelf
attribute [local go_sem] World.cell?_alloc_mark ext_size ext_cell ext_frozen lt_add_r lt_add_r2 lt_add_r3 lt_add_r4 lt_add_r5 lt_add_r6 lt_add_r7 lt_add_r8
attribute [local go_sem] ext_setCell alloc_setCell_lt
theorem blk_none {W:World} {b:Nat} {base:Nat} {s:St} {la co:Int} (h:WldAt base W b s la co):b<W.heap.size:=h.lt.1
set_option maxRecDepth 100000 in
set_option maxHeartbeats 2000000 in
theorem replayN_any (laws:List Law) (ds:List Deed) (LA:Option Addr) (n nc:Nat) (DA:Option Addr) (m mc:Nat) (w:World) (hR:RightsIn w laws ds LA n nc DA m mc) (hF:FormsIn w) (hL:LensIn w) (hO: ∀d∈ds,okLens d):
 Calls Tryz.prog 8 #[.agg #[.slice LA n nc, .slice DA m mc]] w (Ret w (.tuple #[.int .i64 (stopQ laws ds 200000).2.1, .int .i64 (stopQ laws ds 200000).2.2])):=by
 have hrp:=fun W (hB:Below w.heap.size w W)=>replay_any laws ds 200000 LA n nc DA m mc W (hR.keep hB) (hF.keep hB) (hL.keep hB) hO
 clear hR hF hL hO
 generalize stopQ laws ds 200000=R at*
 have HRP:=Lib.hid hrp
 clear hrp
 go_enter Tryz.func8,Tryz.ntmps8
 go_wp2_with (go_at_call 25;go_must(refine(HRP.out _ Bw).mono ?_);rintro e wq ⟨base,b,la,co,rfl,h1,h2,h3,h4,h5⟩;have H3:=Lib.hid h3;clear h1 h2 h3 h4 h5)
 go_ret2
 exact Ret.of rfl (Below.trans (B_alloc (Below.refl _ _) _) (H3.out.mono (by simp)))
def OnPost (w:World) (laws:List Law) (ds:List Deed) (names:List ByteArray) (day:Int) (e:Ending) (w':World):Prop:=
 Below w.heap.size w w'/\((onErr laws ds names day≠0/\e= .returned (.tuple #[.pointer none, .int .i64 (onErr laws ds names day)]))\/
  (onErr laws ds names day=0/\ ∃base b la co,e= .returned (.tuple #[.pointer (some ⟨b,0,none⟩), .int .i64 0])/\w.heap.size<=base/\WldAt base w' b (replayD laws ds day).1 la co/\(∃last,GoodSt (replayD laws ds day).1 last)/\ ∃k,k<=60/\FewS k (replayD laws ds day).1))
set_option maxRecDepth 100000 in
set_option maxHeartbeats 2000000 in
theorem on_any (laws:List Law) (ds:List Deed) (day:Int) (names:List ByteArray) (LA:Option Addr) (n nc:Nat) (DA:Option Addr) (m mc:Nat) (NA:Option Addr) (l c:Nat) (w:World) (hR:RightsIn w laws ds LA n nc DA m mc) (hF:FormsIn w) (hL:LensIn w) (hO: ∀d∈ds,okLens d)
 (hl:l=names.length) (hln:names.length<=100000) (hN: ∀s∈names,s.size<=100000) (hS:Sl w 1 sC NA names):
 Calls Tryz.prog 30 #[.agg #[.slice LA n nc, .slice DA m mc], .int .i64 day, .slice NA l c] w (OnPost w laws ds names day):=by
 subst hl
 have eg: ∀args w,(callFunc 63 args).run Tryz.prog w= .ok (.enter 63 args) w:=enters_of Tryz.func63 (by kernel_rfl) rfl
 have hrn:=fun W (hB:Below w.heap.size w W)=>replayN_any laws ds LA n nc DA m mc W (hR.keep hB) (hF.keep hB) (hL.keep hB) hO
 have hrp:=fun W (hB:Below w.heap.size w W)=>replay_any laws ds day LA n nc DA m mc W (hR.keep hB) (hF.keep hB) (hL.keep hB) hO
 have hcf:=fun W (hB:Below w.heap.size w W)=>cfStr_any 63 #[] eg (fun s=>!isNameP s) NA names.length c names W rfl hln (hS.keep hB) (onn_gives names W hN)
 have htold:=stopQ_told (laws:=laws) (ds:=ds) (day:=day)
 have he:onErr laws ds names day=if(stopQ laws ds 200000).2.2 != 0 then(stopQ laws ds 200000).2.2 else if names.any (fun s=>!isNameP s)then 4 else if !isDayP day then 2 else 0:=rfl
 unfold OnPost
 generalize onErr laws ds names day=E at*
 obtain⟨R,hR0⟩: ∃R,R=stopQ laws ds 200000:=⟨_,rfl⟩
 rw[<-hR0]at hrn htold he
 obtain⟨⟨S0,n0,er⟩,hS0⟩: ∃x,x=R:=⟨_,rfl⟩
 subst hS0
 simp only at hrn htold he
 generalize hna:names.any (fun s=>!isNameP s)=na at*
 have HRN:=Lib.hid hrn
 have HRP:=Lib.hid hrp
 have HCF:=Lib.hid hcf
 clear hrn hrp hcf hR hF hL hO hS hN hR0 hna eg
 by_cases h0:er=0
 ·subst h0
  have he1:E=if na then 4 else if !isDayP day then 2 else 0:=by rw[he];rfl
  obtain⟨ht1,ht2⟩:=htold rfl
  clear he htold
  cases na
  ·generalize hdd:isDayP day=dd at*
   cases dd
   ·have hE:E=2:=by rw[he1];rfl
    subst hE
    clear he1 ht1 ht2
    go_enter Tryz.func30,Tryz.ntmps30
    go_wp2_with (first
     |(go_at_call 8;refine(HRN.out _ Bw).mono ?_;rintro e wq ⟨rfl,zq,rfl⟩)
     |(go_at_call 62;refine(HCF.out _ Bw).mono ?_;rintro e wq ⟨rfl,zq,rfl⟩)
     |(go_at_call 65;refine(isDay5_any _ _).mono ?_;rintro e wq ⟨rfl,rfl⟩;rw[hdd]))
    go_ret2
    exact⟨Bw, .inl ⟨by decide,rfl⟩⟩
   ·have hE:E=0:=by rw[he1];rfl
    subst hE
    rw[<-ht1]
    clear he1 ht1
    generalize stopQ laws ds day=R at*
    obtain⟨S1,n1,e1⟩:=R
    simp only at ht2
    subst ht2
    try simp only at HRP
    go_enter Tryz.func30,Tryz.ntmps30
    go_wp2_with (first
     |(go_at_call 8;refine(HRN.out _ Bw).mono ?_;rintro e wq ⟨rfl,zq,rfl⟩)
     |(go_at_call 62;refine(HCF.out _ Bw).mono ?_;rintro e wq ⟨rfl,zq,rfl⟩)
     |(go_at_call 65;refine(isDay5_any _ _).mono ?_;rintro e wq ⟨rfl,rfl⟩;rw[hdd])
     |(go_at_call 25;go_must(refine(HRP.out _ Bw).mono ?_);rintro e wq ⟨base,b,la,co,rfl,h1,h2,h3,h4,h5⟩;have H1:=Lib.hid h1;have H2:=Lib.hid h2;have H3:=Lib.hid h3;have H4:=Lib.hid h4;have H5:=Lib.hid h5;clear h1 h2 h3 h4 h5))
    go_ret2
    have h1:=H1.out
    refine⟨Below.trans Bw (H3.out.mono ?_), .inr ⟨by first|rfl|trivial,base,b,la,co,rfl,Nat.le_trans ?_ h1,H2.out,H4.out,H5.out⟩⟩
    ·simp[ext_size];omega
    ·simp[ext_size];omega
  ·have hE:E=4:=by rw[he1];rfl
   subst hE
   clear he1 ht1 ht2
   go_enter Tryz.func30,Tryz.ntmps30
   go_wp2_with (first
    |(go_at_call 8;refine(HRN.out _ Bw).mono ?_;rintro e wq ⟨rfl,zq,rfl⟩)
    |(go_at_call 62;refine(HCF.out _ Bw).mono ?_;rintro e wq ⟨rfl,zq,rfl⟩))
   go_ret2
   exact⟨Bw, .inl ⟨by decide,rfl⟩⟩
 ·have hE:E=er:=by rw[he,if_pos (by simpa using h0)]
  subst hE
  clear he htold
  go_enter Tryz.func30,Tryz.ntmps30
  go_wp2_with (go_at_call 8;refine(HRN.out _ Bw).mono ?_;rintro e wq ⟨rfl,zq,rfl⟩)
  go_ret2
  exact⟨Bw, .inl ⟨h0,rfl⟩⟩
end Go.Proofs.YtmaidggpbihlgaaGreatDoor
namespace Go.Proofs.YtmaidggpbihlgaaGreatDoor
open Go.RowKit Go.Shelf
attribute [local go_sem] World.cell?_alloc_mark ext_size ext_cell ext_frozen lt_add_r lt_add_r2 lt_add_r3 lt_add_r4 lt_add_r5 lt_add_r6 lt_add_r7 lt_add_r8
attribute [local go_sem] ext_setCell alloc_setCell_lt
def holdersP (s:St) (place:ByteArray) (day:Int):Parts:=match graveIx s place day with
 |none=>[]
 |some i=>(s.graves.getD i zeroG).holders
def HoldersPost (w:World) (laws:List Law) (ds:List Deed) (place:ByteArray) (day:Int) (e:Ending) (w':World):Prop:=
 Below w.heap.size w w'/\((onErr laws ds [place] day≠0/\e= .returned (.tuple #[.slice none 0 0, .int .i64 (onErr laws ds [place] day)]))\/
  (onErr laws ds [place] day=0/\ ∃A c,e= .returned (.tuple #[.slice A (holdersP (replayD laws ds day).1 place day).length c, .int .i64 0])/\(holdersP (replayD laws ds day).1 place day).length<=c/\Sl w' 3 partCells A (holdersP (replayD laws ds day).1 place day)))
set_option maxRecDepth 100000 in
set_option maxHeartbeats 2000000 in
theorem holders_any (laws:List Law) (ds:List Deed) (place:ByteArray) (day:Int) (LA:Option Addr) (n nc:Nat) (DA:Option Addr) (m mc:Nat) (w:World) (hR:RightsIn w laws ds LA n nc DA m mc) (hF:FormsIn w) (hL:LensIn w) (hO: ∀d∈ds,okLens d) (hp:place.size<=100000):
 Calls Tryz.prog 11 #[.agg #[.slice LA n nc, .slice DA m mc], .string place, .int .i64 day] w (HoldersPost w laws ds place day):=by
 have hon:=fun W (hB:Below w.heap.size w W) NA (hS:Sl W 1 sC NA [place])=>on_any laws ds day [place] LA n nc DA m mc NA 1 1 W (hR.keep hB) (hF.keep hB) (hL.keep hB) hO rfl (by simp) (by simpa using hp) hS
 have HON:=Lib.hid hon
 unfold HoldersPost
 clear hon hR hF hL hO
 unfold OnPost at HON
 generalize onErr laws ds [place] day=E at*
 generalize(replayD laws ds day).1=s at*
 generalize hxs:holdersP s place day=xs at*
 have HXS:=Lib.hid hxs
 clear hxs
 go_enter Tryz.func11,Tryz.ntmps11
 by_cases h0:E=0
 ·subst h0
  go_upto_region 4 with(go_at_call 30
                        go_must(refine(HON.out _ Bw _ (sl_one (J_new _ _ _ (by simp)))).mono ?_)
                        rintro e wq ⟨h1,⟨hne,_⟩|⟨_,base,b,la,co,rfl,h2,h3,h4,h5⟩⟩
                        ·exact absurd rfl hne
                        have H1:=Lib.hid h1
                        have H3:=Lib.hid h3
                        have H5:=Lib.hid h5
                        clear h1 h2 h3 h4 h5)
  obtain⟨Bk,dd,cc,pp,wl,rr,mv,tv,ps,hb0,hC,hP,hT⟩:=H3.out
  obtain⟨k,hk6,hfew⟩:=H5.out
  have hgl:=hfew.graves
  have hin:=fun W (hB:Below wq.heap.size wq W)=>in_any base b s la co place day W (hC.keep hB) (hT.keep hB) (by omega)
  have hb1:Below w.heap.size w wq:=Below.trans (B_alloc (B_alloc (Below.refl _ _) _) _ (by simp)) (H1.out.mono (by simp;omega))
  have HB1:=Lib.hid hb1
  have hxs:=HXS.out
  unfold holdersP at hxs
  clear HXS
  cases hix:graveIx s place day with
  |none=>
   rw[hix]at hin hxs
   subst hxs
   have HIN:=Lib.hid hin
   clear hin hC hP hT hfew hb1
   go_wp2_with (go_at_call 31;go_must(refine(HIN.out _ Bw).mono ?_);rintro e wz ⟨rfl,z,rfl⟩;simp only[ptrOf,Option.map_none])
   go_ret2
   exact⟨HB1.out.trans (Below.mono (B:=wq.heap.size) Bw HB1.out.size),none,⟨0,rfl⟩,fun h=>absurd h (by simp)⟩
  |some i=>
   obtain⟨T,g,hpi,hpd,hgi,hgd,hTA,_⟩:=grave_tomb hT hix
   rw[hix]at hin hxs
   simp only[hgd]at hxs
   subst hxs
   obtain⟨H,hc',D,dc,frm,t1,t2,t3,t4,t5,t6,t7⟩:=hTA
   have hTl:=blk_lt t1
   have hin2: ∀W,Below wq.heap.size wq W->Calls Tryz.prog 31 #[.pointer (some ⟨b,0,none⟩), .string place, .int .i64 day] W (Ret W (.pointer (some ⟨T,0,none⟩))):=fun W hB=>by
    have:=hin W hB
    simpa only[ptrOf,Option.map_some,hpd]using this
   have HIN:=Lib.hid hin2
   unfold TombC at t1
   have k4:wq.cell? ⟨T,4,none⟩=some (.slice H g.holders.length hc'):=by simp only[World.cell?,t1];rfl
   have T5:=Lib.hid t5
   clear hin hin2 hC hP hT hfew hb1 t1 t5 t6 t7 hgd hgi hpd hpi hix
   go_wp2_with (go_at_call 31;go_must(refine(HIN.out _ Bw).mono ?_);rintro e wz ⟨rfl,z,rfl⟩)
   go_ret2
   exact⟨HB1.out.trans (Below.mono (B:=wq.heap.size) Bw HB1.out.size),H,hc',rfl,t3,(Ro.sl part_len T5.out).keep (n:=wq.heap.size) Bw⟩
 ·go_wp2_with (go_at_call 30
               go_must(refine(HON.out _ Bw _ (sl_one (J_new _ _ _ (by simp)))).mono ?_)
               rintro e wq ⟨h1,⟨_,rfl⟩|⟨he,_⟩⟩
               rotate_left 1
               ·exact absurd he h0
               have H1:=Lib.hid h1
               clear h1)
  go_ret2
  exact⟨Below.trans (B_alloc (B_alloc (Below.refl _ _) _) _ (by simp)) (H1.out.mono (by simp;omega)), .inl ⟨h0,rfl⟩⟩
def InForcePost (w:World) (laws:List Law) (ds:List Deed) (place:ByteArray) (ns:List ByteArray) (day:Int) (e:Ending) (w':World):Prop:=
 Below w.heap.size w w'/\((onErr laws ds (place::ns) day≠0/\e= .returned (.tuple #[.pointer none, .pointer none, .int .i64 (onErr laws ds (place::ns) day)]))\/
  (onErr laws ds (place::ns) day=0/\graveIx (replayD laws ds day).1 place day=none/\e= .returned (.tuple #[.pointer none, .pointer none, .int .i64 12]))\/
  (onErr laws ds (place::ns) day=0/\ ∃base b la co B T i g,graveIx (replayD laws ds day).1 place day=some i/\(replayD laws ds day).1.graves[i]?=some g/\e= .returned (.tuple #[.pointer (some ⟨b,0,none⟩), .pointer (some ⟨T,0,none⟩), .int .i64 0])/\w.heap.size<=base/\WldAt base w' b (replayD laws ds day).1 la co/\TombAt w' base B T g/\(∃last,GoodSt (replayD laws ds day).1 last)/\ ∃k,k<=60/\FewS k (replayD laws ds day).1))
set_option maxRecDepth 100000 in
set_option maxHeartbeats 2000000 in
theorem inForceR_any (laws:List Law) (ds:List Deed) (place:ByteArray) (ns:List ByteArray) (day:Int) (LA:Option Addr) (n nc:Nat) (DA:Option Addr) (m mc:Nat) (NA:Option Addr) (l c:Nat) (w:World) (hR:RightsIn w laws ds LA n nc DA m mc) (hF:FormsIn w) (hL:LensIn w) (hO: ∀d∈ds,okLens d) (hp:place.size<=100000)
 (hl:l=ns.length) (hln:ns.length<=1000) (hN: ∀s∈ns,s.size<=100000) (hS:Sl w 1 sC NA ns):
 Calls Tryz.prog 44 #[.agg #[.slice LA n nc, .slice DA m mc], .int .i64 day, .string place, .slice NA l c] w (InForcePost w laws ds place ns day):=by
 subst hl
 have hon:=fun W (hB:Below w.heap.size w W) XA xc (hS:Sl W 1 sC XA (place::ns))=>on_any laws ds day (place::ns) LA n nc DA m mc XA (1+ns.length) xc W (hR.keep hB) (hF.keep hB) (hL.keep hB) hO (by simp;omega) (by simp;omega) (by simpa using⟨hp,hN⟩) hS
 have HON:=Lib.hid hon
 have HS:=Lib.hid hS
 unfold InForcePost
 clear hon hR hF hL hO hS
 unfold OnPost at HON
 generalize onErr laws ds (place::ns) day=E at*
 generalize(replayD laws ds day).1=s at*
 go_enter Tryz.func44,Tryz.ntmps44
 go_upto_region 1 with fail
 go_cut [11,12]from 14 to 24 (fun v11 v12 W=>Below w.heap.size w W/\((E≠0/\v11= .pointer none/\v12= .int .i64 E)\/(E=0/\v12= .int .i64 0/\ ∃base b la co,v11= .pointer (some ⟨b,0,none⟩)/\w.heap.size<=base/\WldAt base W b s la co/\(∃last,GoodSt s last)/\ ∃k,k<=60/\FewS k s)))
 case first=>
  refine wp_region_held_drew (S:=(fun w'=>w'.cell? ⟨w.heap.size,0,none⟩=some (.slice LA n nc)/\w'.cell? ⟨w.heap.size,1,none⟩=some (.slice DA m mc))) (by kernel_rfl) ?hS ?hrest
  case hS=>refine⟨?_,?_⟩<;>(simp[go_sem];done)
  case hrest=>
   intro hHeld
   refine TkH 0 ?_
   refine TkH 1 ?_
   refine TkH 2 ?_
   refine TkH 4 ?_
   refine wpAnyH_ready (rs:=[3]) (by kernel_rfl) (by simp) (AllReadyH.cons (List.getElem?_toArray.trans rfl) (fun K hK=> ?_) AllReadyH.nil)
   go_simp
   have hWB:Below w.heap.size w (w.alloc (.cells #[.slice LA n nc, .slice DA m mc] 25)).drew:=Bw
   have hcs: ∀W,Below (w.heap.size+1) (w.alloc (.cells #[.slice LA n nc, .slice DA m mc] 25)).drew W->W.cell? ⟨w.heap.size,0,none⟩=some (.slice LA n nc)/\W.cell? ⟨w.heap.size,1,none⟩=some (.slice DA m mc):=fun W hW=>by
    refine⟨(B_cell hW (Nat.lt_succ_self _)).trans ?_,(B_cell hW (Nat.lt_succ_self _)).trans ?_⟩<;>(simp[go_sem];done)
   have HCS:=Lib.hid hcs
   clear hcs
   have hb1:Below (w.heap.size+1) (w.alloc (.cells #[.slice LA n nc, .slice DA m mc] 25)).drew ((w.alloc (.cells #[.slice LA n nc, .slice DA m mc] 25)).drew.alloc (.cells #[.string place] 9)):=B_alloc (Below.refl _ _) _ (by simp)
   refine hK.out _ _ ?_ (fun hHeld=> ?_)
   focus((try dsimp only);exact HCS.out _ hb1)
   clear hK K
   try simp only[Act.put,List.setIfInBounds_toArray,List.set_cons_zero,List.set_cons_succ]
   refine wpAnyH_ready (rs:=[5]) (by kernel_rfl) (by simp) (AllReadyH.cons (List.getElem?_toArray.trans rfl) (fun K hK=> ?_) AllReadyH.nil)
   refine step_append_S (v:= .slice (some ⟨w.heap.size+1,0,none⟩) 1 1) (n:=1) (m:=ns.length) rfl _ _ rfl elStr5 sC_len sC_one rfl (base:=w.heap.size+1) (xs:=[place]) (ys:=ns) (.inr ⟨w.heap.size+1,0,1,#[.string place],rfl,by omega,J_new _ _ _ (by simp),Nat.le_refl _,by simp[maxLen],by simp,fun j u hj=> ?hel⟩) rfl rfl rfl (HS.out.keep (n:=w.heap.size) Bw) (by simp[maxLen];omega) (by omega) (by simp) ?happ
   case hel=>
    match j,hj with
    |0,hj=>simpa[sC]using hj
    |j+1,hj=>simp[sC]at hj
   case happ=>
    intro v6 w6 h1 h2 h3
    obtain⟨A6,c6,hv6,hS6,_⟩:=h1.sl sC_len
    rw[show([place]++ns).length=1+ns.length by simp;omega]at hv6
    subst hv6
    have hb6:Below (w.heap.size+1) (w.alloc (.cells #[.slice LA n nc, .slice DA m mc] 25)).drew w6:=grown_below hb1 h2 (Nat.le_refl _) (by simp)
    have hw6:Below w.heap.size w w6:=hWB.trans (hb6.mono (Nat.le_succ _))
    have HW6:=Lib.hid hw6
    refine hK.out _ _ ?_ (fun hHeld=> ?_)
    focus((try dsimp only);exact HCS.out _ hb6)
    clear hK K
    try simp only[Act.put,List.setIfInBounds_toArray,List.set_cons_zero,List.set_cons_succ]
    refine wpAnyH_ready (rs:=[6]) (by kernel_rfl) (by simp) (AllReadyH.cons (List.getElem?_toArray.trans rfl) (fun K hK=> ?_) AllReadyH.nil)
    go_simp
    refine(HON.out w6 HW6.out A6 c6 hS6).mono ?_
    rintro e wq ⟨k1,hcase⟩
    have hb7:Below (w.heap.size+1) (w.alloc (.cells #[.slice LA n nc, .slice DA m mc] 25)).drew wq:=hb6.trans (k1.mono (by have:=hb6.size;simp at this;omega))
    have HB7:=Lib.hid (hw6.trans (k1.mono hw6.size))
    clear h1 h2 h3 k1 hw6 hb6 hb1 hWB HON
    rcases hcase with⟨hne,rfl⟩|⟨he,base,b,la,co,rfl,q2,q3,q4,q5⟩
    ·have HNE:=Lib.hid hne
     clear hne
     refine hK.out _ _ ?_ (fun hHeld=> ?_)
     focus((try dsimp only);exact HCS.out _ hb7)
     clear hK K
     try simp only[Act.put,List.setIfInBounds_toArray,List.set_cons_zero,List.set_cons_succ]
     refine TkH 7 ?_
     refine TkH 8 ?_
     refine TkH 9 ?_
     refine wpAnyH_ready (rs:=[10]) (by kernel_rfl) (by simp) (AllReadyH.cons (List.getElem?_toArray.trans rfl) (fun K hK=> ?_) AllReadyH.nil)
     go_simp
     refine hK.out _ _ ?_ (fun hHeld=> ?_)
     focus((try dsimp only);exact HCS.out _ hb7)
     clear hK K
     try simp only[Act.put,List.setIfInBounds_toArray,List.set_cons_zero,List.set_cons_succ]
     refine wpAnyH_ready (rs:=[11]) (by kernel_rfl) (by simp) (AllReadyH.cons (List.getElem?_toArray.trans rfl) (fun K hK=> ?_) AllReadyH.nil)
     go_simp
     refine hK.out _ _ ?_ (fun hHeld=> ?_)
     focus((try dsimp only);exact HCS.out _ hb7)
     clear hK K
     try simp only[Act.put,List.setIfInBounds_toArray,List.set_cons_zero,List.set_cons_succ]
     refine wpAnyH_done (by kernel_rfl) ?_ _
     go_wp2_with fail
     go_meet
     exact⟨HB7.out, .inl ⟨HNE.out,rfl,rfl⟩⟩
    ·have HE:=Lib.hid he
     have Q2:=Lib.hid q2
     have Q3:=Lib.hid q3
     have Q4:=Lib.hid q4
     have Q5:=Lib.hid q5
     clear he q2 q3 q4 q5
     refine hK.out _ _ ?_ (fun hHeld=> ?_)
     focus((try dsimp only);exact HCS.out _ hb7)
     clear hK K
     try simp only[Act.put,List.setIfInBounds_toArray,List.set_cons_zero,List.set_cons_succ]
     refine TkH 7 ?_
     refine TkH 8 ?_
     refine TkH 9 ?_
     refine wpAnyH_ready (rs:=[10]) (by kernel_rfl) (by simp) (AllReadyH.cons (List.getElem?_toArray.trans rfl) (fun K hK=> ?_) AllReadyH.nil)
     go_simp
     refine hK.out _ _ ?_ (fun hHeld=> ?_)
     focus((try dsimp only);exact HCS.out _ hb7)
     clear hK K
     try simp only[Act.put,List.setIfInBounds_toArray,List.set_cons_zero,List.set_cons_succ]
     refine wpAnyH_ready (rs:=[11]) (by kernel_rfl) (by simp) (AllReadyH.cons (List.getElem?_toArray.trans rfl) (fun K hK=> ?_) AllReadyH.nil)
     go_simp
     refine hK.out _ _ ?_ (fun hHeld=> ?_)
     focus((try dsimp only);exact HCS.out _ hb7)
     clear hK K
     try simp only[Act.put,List.setIfInBounds_toArray,List.set_cons_zero,List.set_cons_succ]
     refine wpAnyH_done (by kernel_rfl) ?_ _
     go_wp2_with fail
     go_meet
     exact⟨HB7.out, .inr ⟨HE.out,rfl,base,b,la,co,rfl,Nat.le_trans HW6.out.size Q2.out,Q3.out,Q4.out,Q5.out⟩⟩
 case rest=>
  obtain⟨hB,hcase⟩:=hcut
  rcases hcase with⟨hne,rfl,rfl⟩|⟨he,rfl,base,b,la,co,rfl,q2,q3,q4,q5⟩
  ·have HNE:=Lib.hid hne
   go_wp2_with fail
   go_ret3
   exact⟨hB, .inl ⟨HNE.out,rfl⟩⟩
  ·have HE:=Lib.hid he
   clear he
   have HB:=Lib.hid hB
   have Q3:=Lib.hid q3
   have Q4:=Lib.hid q4
   have Q5:=Lib.hid q5
   obtain⟨Bk,dd,cc,pp,wl,rr,mv,tv,ps,hb0,hC,hP,hT⟩:=q3
   obtain⟨k,hk6,hfew⟩:=q5
   have hgl:=hfew.graves
   have hin:=fun W (hB:Below wc.heap.size wc W)=>in_any base b s la co place day W (hC.keep hB) (hT.keep hB) (by omega)
   have hsz:=hB.size
   have HSZ:=Lib.hid hsz
   cases hix:graveIx s place day with
   |none=>
    rw[hix]at hin
    have HIN:=Lib.hid hin
    have HIX:=Lib.hid hix
    clear hin hC hP hT hfew hB q4 hix
    go_wp2_with (go_at_call 31;go_must(refine(HIN.out _ Bw).mono ?_);rintro e wz ⟨rfl,z,rfl⟩;simp only[ptrOf,Option.map_none])
    go_ret3
    exact⟨HB.out.trans (Below.mono (B:=wc.heap.size) Bw HSZ.out), .inr (.inl ⟨HE.out,HIX.out,rfl⟩)⟩
   |some i=>
    obtain⟨T,g,hpi,hpd,hgi,hgd,hTA,_⟩:=grave_tomb hT hix
    have hin2: ∀W,Below wc.heap.size wc W->Calls Tryz.prog 31 #[.pointer (some ⟨b,0,none⟩), .string place, .int .i64 day] W (Ret W (.pointer (some ⟨T,0,none⟩))):=fun W hB=>by
     have:=hin W hB
     rw[hix]at this
     simpa only[ptrOf,Option.map_some,hpd]using this
    have HIN:=Lib.hid hin2
    have HIX:=Lib.hid hix
    have HGI:=Lib.hid hgi
    have HTA:=Lib.hid hTA
    clear hin hin2 hC hP hT hfew hB q4 hTA hgd hpd hpi hix hgi
    go_wp2_with (go_at_call 31;go_must(refine(HIN.out _ Bw).mono ?_);rintro e wz ⟨rfl,z,rfl⟩)
    go_ret3
    have hbz:Below wc.heap.size wc (wc.ext z):=Bw
    exact⟨HB.out.trans (hbz.mono HSZ.out), .inr (.inr ⟨HE.out,base,b,la,co,Bk,T,i,g,HIX.out,HGI.out,rfl,q2,Q3.out.keep hbz,HTA.out.keep hbz,Q4.out,Q5.out⟩)⟩
end Go.Proofs.YtmaidggpbihlgaaGreatDoor
