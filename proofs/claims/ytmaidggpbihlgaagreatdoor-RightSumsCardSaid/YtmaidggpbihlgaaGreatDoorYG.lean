/- The law RightSums, walked. -/
import Derived.Test.YtmaidggpbihlgaaGreatDoorWB
import Derived.Test.YtmaidggpbihlgaaGreatDoorWD
import Derived.Test.YtmaidggpbihlgaaGreatDoorOW
import Derived.Test.YtmaidggpbihlgaaGreatDoorDQ
set_option linter.unusedSimpArgs false
set_option linter.unusedVariables false
namespace Go.Proofs.YtmaidggpbihlgaaGreatDoor
open Go.RowKit Go.Shelf
attribute [local go_sem] World.cell?_alloc_mark ext_size ext_cell ext_frozen lt_add_r lt_add_r2 lt_add_r3 lt_add_r4 lt_add_r5 lt_add_r6 lt_add_r7 lt_add_r8
attribute [local go_sem] ext_setCell alloc_setCell_lt
def GotParts (base:Nat) (w0:World) (v5 v6:Value) (W:World):Prop:=
 Below base w0 W/\((∃E:Int,E≠0/\v6= .int .i64 E/\v5= .slice none 0 0)\/(v6= .int .i64 0/\ ∃(xs:Parts) (A:Option Addr) (c:Nat),v5= .slice A xs.length c/\xs.length<=c/\Hid (PartsOk xs)/\Sl W 3 partCells A xs))
theorem wrap_q {i y:Nat} (h:y=i+1) (hl:y<1000000000):IntKind.i64.wrap ((y:Int)-1)=(i:Int):=by
 subst h
 rw[IntKind.wrap_i64]
 omega
theorem less_at {xs:Parts} (h:GoodParts xs) {i y:Nat} (e:y=i+1) (hy:y<xs.length):Op.bytesLess (xs[i]'(by omega)).1.toList xs[y].1.toList=true:=
 List.pairwise_iff_getElem.1 h.asc i y (by omega) hy (by omega)
set_option maxRecDepth 100000 in
set_option maxHeartbeats 2000000 in
theorem rightSums_any (ls:List Law) (ds:List Deed) (LA:Option Addr) (n nc:Nat) (DA:Option Addr) (m mc:Nat) (pl:ByteArray) (dy:Int) (w:World) (hL:Laid5 w) (hR:RightsIn w ls ds LA n nc DA m mc):
 Calls Tryz.prog 4 #[.agg #[.slice LA n nc, .slice DA m mc], .agg #[.string pl, .int .i64 dy]] w (Ret w (.bool true)):=by
 have HL:=Lib.hid hL
 have HR:=Lib.hid hR
 have HFW:=Lib.hid (fun W (h:Below w.heap.size w W)=>few_any ls ds LA n nc DA m mc W (hR.keep h))
 clear hL hR
 go_enter Tryz.func4,Tryz.ntmps4
 go_upto_region 1 with fail
 obtain⟨W0,hW0⟩: ∃W0,W0=(w.alloc (.cells #[.slice LA n nc, .slice DA m mc] 25)).alloc (.cells #[.string pl, .int .i64 dy] 40):=⟨_,rfl⟩
 have b0:W0.heap[w.heap.size]?=some (.cells #[.slice LA n nc, .slice DA m mc] 25):=by rw[hW0];exact J_alloc (J_new _ _ _ rfl)
 have b1:W0.heap[w.heap.size+1]?=some (.cells #[.string pl, .int .i64 dy] 40):=by rw[hW0];exact J_new _ _ _ (by simp)
 have hB0:Below w.heap.size w W0:=by rw[hW0];repeat(first|exact B_refl|exact Below.refl _ _|assumption|with_reducible refine B_alloc ?_ _|with_reducible refine B_ext ?_ _|with_reducible refine B_drew ?_|with_reducible refine B_drewN ?_ _|with_reducible refine B_set ?_ (by simp;omega) _)
 rw[<-hW0]
 have HB0:=Lib.hid hB0
 clear hW0 hB0
 go_upto_region 3 with(go_at_call 6;go_must(refine(awake5_any _ (HL.out.keep HB0.out)).mono ?_);rintro e wq ⟨rfl,z0,rfl⟩)
 have c0:(W0.ext z0).heap[w.heap.size]?=some (.cells #[.slice LA n nc, .slice DA m mc] 25):=J_ext b0
 have c1:(W0.ext z0).heap[w.heap.size+1]?=some (.cells #[.string pl, .int .i64 dy] 40):=J_ext b1
 have hB1:Below w.heap.size w (W0.ext z0):=B_ext HB0.out z0
 generalize W0.ext z0=W1 at*
 have HB1:=Lib.hid hB1
 clear b0 b1 HB0 hB1
 have r0:W1.cell? ⟨w.heap.size,0,none⟩=some (.slice LA n nc):=by simp only[World.cell?,c0];rfl
 have r1:W1.cell? ⟨w.heap.size,1,none⟩=some (.slice DA m mc):=by simp only[World.cell?,c0];rfl
 have x0:W1.cell? ⟨w.heap.size+1,0,none⟩=some (.string pl):=by simp only[World.cell?,c1];rfl
 have x1:W1.cell? ⟨w.heap.size+1,1,none⟩=some (.int .i64 dy):=by simp only[World.cell?,c1];rfl
 have l0:=blk_lt c0
 have l1:=blk_lt c1
 clear c0 c1
 cases hfw:fewP ls ds
 ·rw[hfw]at HFW
  clear hfw
  go_wp2_with (go_at_call 7;go_must(refine(HFW.out _ (by have:=HB1.out;repeat(first|exact B_refl|exact Below.refl _ _|assumption|with_reducible refine B_alloc ?_ _|with_reducible refine B_ext ?_ _|with_reducible refine B_drew ?_|with_reducible refine B_drewN ?_ _|with_reducible refine B_set ?_ (by simp;omega) _))).mono ?_);rintro e wq ⟨rfl,z,rfl⟩)
  go_ret
  exact Ret.of rfl (B_ext HB1.out z)
 have hfl:=few_lens hfw
 rw[hfw]at HFW
 clear hfw
 by_cases hpl:20<pl.size
 ·have hp1:(20:Int)<(pl.size:Int):=by omega
  clear hfl
  go_wp2_with (go_at_call 7;go_must(refine(HFW.out _ (by have:=HB1.out;repeat(first|exact B_refl|exact Below.refl _ _|assumption|with_reducible refine B_alloc ?_ _|with_reducible refine B_ext ?_ _|with_reducible refine B_drew ?_|with_reducible refine B_drewN ?_ _|with_reducible refine B_set ?_ (by simp;omega) _))).mono ?_);rintro e wq ⟨rfl,z,rfl⟩)
  go_ret
  exact Ret.of rfl (B_ext HB1.out z)
 have hp1: ¬(20:Int)<(pl.size:Int):=by omega
 obtain⟨hok,hl12,hd14,ht10⟩:=hfl
 have HOK5:=Lib.hid hok
 have HCO:=Lib.hid (fun W (h:Below w.heap.size w W)=>copied_any ls ds LA n nc DA m mc W (HR.out.keep h) (by omega) (by omega) (fun d hd=>by have:=ht10 d hd;omega))
 have HHO:=Lib.hid (fun A1 n1 B1 n2 W (h:Below w.heap.size w W) (hr:RightsIn W ls ds A1 ls.length n1 B1 ds.length n2)=>holders_any ls ds pl dy A1 ls.length n1 B1 ds.length n2 W hr (HL.out.keep h).forms (HL.out.keep h).lens HOK5.out (by omega))
 have HES:=Lib.hid (fun(nm:ByteArray) (hn:nm.size<=100) A1 n1 B1 n2 W (h:Below w.heap.size w W) (hr:RightsIn W ls ds A1 ls.length n1 B1 ds.length n2)=>estApi_any ls ds nm dy A1 ls.length n1 B1 ds.length n2 W hr (HL.out.keep h).forms (HL.out.keep h).lens HOK5.out (by omega))
 clear hok hl12 hd14 ht10 hpl HR
 go_upto_region 5 with(go_at_call 7;go_must(refine(HFW.out _ (by have:=HB1.out;repeat(first|exact B_refl|exact Below.refl _ _|assumption|with_reducible refine B_alloc ?_ _|with_reducible refine B_ext ?_ _|with_reducible refine B_drew ?_|with_reducible refine B_drewN ?_ _|with_reducible refine B_set ?_ (by simp;omega) _))).mono ?_);rintro e wq ⟨rfl,z,rfl⟩)
 have hB2:Below w.heap.size w (W1.ext z):=B_ext HB1.out z
 have y0:(W1.ext z).cell? ⟨w.heap.size,0,none⟩=some (.slice LA n nc):=(ext_cell _ _ _ _ l0).trans r0
 have y1:(W1.ext z).cell? ⟨w.heap.size,1,none⟩=some (.slice DA m mc):=(ext_cell _ _ _ _ l0).trans r1
 have y2:(W1.ext z).cell? ⟨w.heap.size+1,0,none⟩=some (.string pl):=(ext_cell _ _ _ _ l1).trans x0
 have y3:(W1.ext z).cell? ⟨w.heap.size+1,1,none⟩=some (.int .i64 dy):=(ext_cell _ _ _ _ l1).trans x1
 have hs2:W1.heap.size<=(W1.ext z).heap.size:=by simp[ext_size]
 have m0:w.heap.size<(W1.ext z).heap.size:=by omega
 have m1:w.heap.size+1<(W1.ext z).heap.size:=by omega
 clear l0 l1 r0 r1 x0 x1 HFW HB1 hs2
 generalize W1.ext z=W2 at*
 have HB2:=Lib.hid hB2
 have hs2:=hB2.size
 clear hB2
 have HSF:=Lib.hid (fun(w':World) (h:Below W2.heap.size W2 w')=>(show w'.cell? ⟨w.heap.size,0,none⟩=some (.slice LA n nc)/\w'.cell? ⟨w.heap.size,1,none⟩=some (.slice DA m mc)/\w'.cell? ⟨w.heap.size+1,0,none⟩=some (.string pl)/\w'.cell? ⟨w.heap.size+1,1,none⟩=some (.int .i64 dy) from⟨(B_cell h m0).trans y0,(B_cell h m0).trans y1,(B_cell h m1).trans y2,(B_cell h m1).trans y3⟩))
 go_cut [5,6]from 23 to 111 (fun v5 v6 W=>GotParts W2.heap.size W2 v5 v6 W)
 case first=>
  refine wp_region_mark 6 (fun bb w'=>bb=true\/(w'.cell? ⟨w.heap.size,0,none⟩=some (.slice LA n nc)/\w'.cell? ⟨w.heap.size,1,none⟩=some (.slice DA m mc)/\w'.cell? ⟨w.heap.size+1,0,none⟩=some (.string pl)/\w'.cell? ⟨w.heap.size+1,1,none⟩=some (.int .i64 dy))) (by kernel_rfl) (.inr (HSF.out _ (B_drew (Below.refl _ _)))) ?hrest
  case hrest=>
   intro hHeld
   refine TkM 0 ?_
   refine TkM 2 ?_
   refine TkM 3 ?_
   refine TkM 4 ?_
   refine TkM 5 ?_
   refine wpAnyM_ready (rs:=[1]) (by kernel_rfl) (by simp) (AllReadyM.cons (List.getElem?_toArray.trans rfl) false (by kernel_rfl) (fun K hK=> ?_) AllReadyM.nil)
   go_simp
   refine(HCO.out _ (B_drew HB2.out)).mono ?_
   rintro e w5 ⟨A1,n1,B1,n2,rfl,hr5,hb5⟩
   have hb5':Below W2.heap.size W2 w5:=(B_drew (Below.refl _ _):Below W2.heap.size W2 W2.drew).trans hb5
   refine hK.out _ _ ?_ (fun hHeld=> ?_)
   focus((try dsimp only);exact .inr (HSF.out _ hb5'))
   clear hK K
   try simp only[Act.put,List.setIfInBounds_toArray,List.set_cons_zero,List.set_cons_succ]
   refine wpAnyM_ready (rs:=[6]) (by kernel_rfl) (by simp) (AllReadyM.cons (List.getElem?_toArray.trans rfl) true (by kernel_rfl) (fun K hK=> ?_) AllReadyM.nil)
   go_simp
   refine(HHO.out A1 n1 B1 n2 _ (HB2.out.trans (hb5'.mono hs2)) hr5).mono ?_
   rintro e w6 ⟨hb6,hcs⟩
   have hb6':Below W2.heap.size W2 w6:=hb5'.trans (hb6.mono hb5'.size)
   have HB6:=Lib.hid hb6'
   have HRG:=Lib.hid (fun(h:onErr ls ds [pl] dy=0)=>replay_good h)
   generalize onErr ls ds [pl] dy=E at*
   generalize(replayD ls ds dy).1=st at*
   clear hr5 hb5 hb5' hb6 hb6'
   rcases hcs with⟨hE,rfl⟩|⟨hE,A6,c6,rfl,hc6,s6⟩
   ·refine hK.out _ _ ?_ (fun hHeld=> ?_)
    focus((try dsimp only);exact .inl rfl)
    clear hK K
    try simp only[Act.put,List.setIfInBounds_toArray,List.set_cons_zero,List.set_cons_succ]
    refine wpAnyM_free (i:=7) (v:= ?_) true (by kernel_rfl) (List.getElem?_toArray.trans rfl) (by decide) (by kernel_rfl) (by kernel_rfl) (by kernel_rfl) (fun _ _ _ h=>h) (Or.inl ⟨by rfl,?_⟩) (by first|assumption|trivial) ?_
    rotate_left 1
    focus(intro w hSw;go_simp;first|done|with_reducible rfl)
    try simp only[Act.put,List.setIfInBounds_toArray,List.set_cons_zero,List.set_cons_succ]
    refine wpAnyM_free (i:=8) (v:= ?_) true (by kernel_rfl) (List.getElem?_toArray.trans rfl) (by decide) (by kernel_rfl) (by kernel_rfl) (by kernel_rfl) (fun _ _ _ h=>h) (Or.inl ⟨by rfl,?_⟩) (by first|assumption|trivial) ?_
    rotate_left 1
    focus(intro w hSw;go_simp;first|done|with_reducible rfl)
    try simp only[Act.put,List.setIfInBounds_toArray,List.set_cons_zero,List.set_cons_succ]
    refine wpAnyM_free (i:=9) (v:= ?_) true (by kernel_rfl) (List.getElem?_toArray.trans rfl) (by decide) (by kernel_rfl) (by kernel_rfl) (by kernel_rfl) (fun _ _ _ h=>h) (Or.inl ⟨by rfl,?_⟩) (by first|assumption|trivial) ?_
    rotate_left 1
    focus(intro w hSw;go_simp;first|done|with_reducible rfl)
    try simp only[Act.put,List.setIfInBounds_toArray,List.set_cons_zero,List.set_cons_succ]
    refine wpAnyM_ready (rs:=[10]) (by kernel_rfl) (by simp) (AllReadyM.cons (List.getElem?_toArray.trans rfl) true (by kernel_rfl) (fun K hK=> ?_) AllReadyM.nil)
    go_simp
    refine hK.out _ _ ?_ (fun hHeld=> ?_)
    focus((try dsimp only);exact .inl rfl)
    clear hK K
    try simp only[Act.put,List.setIfInBounds_toArray,List.set_cons_zero,List.set_cons_succ]
    refine wpAnyM_ready (rs:=[11]) (by kernel_rfl) (by simp) (AllReadyM.cons (List.getElem?_toArray.trans rfl) true (by kernel_rfl) (fun K hK=> ?_) AllReadyM.nil)
    go_simp
    refine hK.out _ _ ?_ (fun hHeld=> ?_)
    focus((try dsimp only);exact .inl rfl)
    clear hK K
    try simp only[Act.put,List.setIfInBounds_toArray,List.set_cons_zero,List.set_cons_succ]
    refine wpAnyM_done (by kernel_rfl) ?_ _
    clear hHeld
    go_wp2_with fail
    go_meet
    exact⟨HB6.out, .inl ⟨E,hE,rfl,rfl⟩⟩
   ·obtain⟨last,hg⟩:=HRG.out hE
    have hpk:=holders_ok hg pl dy
    clear HRG hg hE
    generalize holdersP st pl dy=xs at*
    have S6:=Lib.hid s6
    have HPK:=Lib.hid hpk
    clear s6 hpk
    refine hK.out _ _ ?_ (fun hHeld=> ?_)
    focus((try dsimp only);exact .inl rfl)
    clear hK K
    try simp only[Act.put,List.setIfInBounds_toArray,List.set_cons_zero,List.set_cons_succ]
    refine wpAnyM_free (i:=7) (v:= ?_) true (by kernel_rfl) (List.getElem?_toArray.trans rfl) (by decide) (by kernel_rfl) (by kernel_rfl) (by kernel_rfl) (fun _ _ _ h=>h) (Or.inl ⟨by rfl,?_⟩) (by first|assumption|trivial) ?_
    rotate_left 1
    focus(intro w hSw;go_simp;first|done|with_reducible rfl)
    try simp only[Act.put,List.setIfInBounds_toArray,List.set_cons_zero,List.set_cons_succ]
    refine wpAnyM_free (i:=8) (v:= ?_) true (by kernel_rfl) (List.getElem?_toArray.trans rfl) (by decide) (by kernel_rfl) (by kernel_rfl) (by kernel_rfl) (fun _ _ _ h=>h) (Or.inl ⟨by rfl,?_⟩) (by first|assumption|trivial) ?_
    rotate_left 1
    focus(intro w hSw;go_simp;first|done|with_reducible rfl)
    try simp only[Act.put,List.setIfInBounds_toArray,List.set_cons_zero,List.set_cons_succ]
    refine wpAnyM_free (i:=9) (v:= ?_) true (by kernel_rfl) (List.getElem?_toArray.trans rfl) (by decide) (by kernel_rfl) (by kernel_rfl) (by kernel_rfl) (fun _ _ _ h=>h) (Or.inl ⟨by rfl,?_⟩) (by first|assumption|trivial) ?_
    rotate_left 1
    focus(intro w hSw;go_simp;first|done|with_reducible rfl)
    try simp only[Act.put,List.setIfInBounds_toArray,List.set_cons_zero,List.set_cons_succ]
    refine wpAnyM_ready (rs:=[10]) (by kernel_rfl) (by simp) (AllReadyM.cons (List.getElem?_toArray.trans rfl) true (by kernel_rfl) (fun K hK=> ?_) AllReadyM.nil)
    go_simp
    refine hK.out _ _ ?_ (fun hHeld=> ?_)
    focus((try dsimp only);exact .inl rfl)
    clear hK K
    try simp only[Act.put,List.setIfInBounds_toArray,List.set_cons_zero,List.set_cons_succ]
    refine wpAnyM_ready (rs:=[11]) (by kernel_rfl) (by simp) (AllReadyM.cons (List.getElem?_toArray.trans rfl) true (by kernel_rfl) (fun K hK=> ?_) AllReadyM.nil)
    go_simp
    refine hK.out _ _ ?_ (fun hHeld=> ?_)
    focus((try dsimp only);exact .inl rfl)
    clear hK K
    try simp only[Act.put,List.setIfInBounds_toArray,List.set_cons_zero,List.set_cons_succ]
    refine wpAnyM_done (by kernel_rfl) ?_ _
    clear hHeld
    go_wp2_with fail
    go_meet
    exact⟨HB6.out, .inr ⟨rfl,xs,A6,c6,rfl,hc6,Lib.hid HPK.out,S6.out⟩⟩
 case rest=>
  obtain⟨hB3,hgot⟩:=hcut
  have HB3:=Lib.hid hB3
  have hs3:=hB3.size
  have hw3:w.heap.size<=wc.heap.size:=by omega
  clear hB3
  rcases hgot with⟨E,hE,rfl,rfl⟩|⟨rfl,xs,A6,c6,rfl,hc6,HPK,s6⟩
  ·have hEb:(E==0)=false:=by simpa using hE
   clear HES HHO HCO HSF
   go_wp2_with fail
   go_ret
   exact Ret.of rfl (HB2.out.trans (HB3.out.mono hs2))
  go_upto_region 10 with fail
  obtain⟨WN,hWN⟩: ∃WN,WN=wc.alloc (.cells #[.string ⟨#[97,110,110]⟩, .string ⟨#[98,111,98]⟩, .string ⟨#[101,118,101]⟩] 9):=⟨_,rfl⟩
  have nb:WN.heap[wc.heap.size]?=some (.cells #[.string ⟨#[97,110,110]⟩, .string ⟨#[98,111,98]⟩, .string ⟨#[101,118,101]⟩] 9):=by rw[hWN];exact J_new _ _ _ rfl
  have hBN:Below wc.heap.size wc WN:=by rw[hWN];repeat(first|exact B_refl|exact Below.refl _ _|assumption|with_reducible refine B_alloc ?_ _|with_reducible refine B_ext ?_ _|with_reducible refine B_drew ?_|with_reducible refine B_drewN ?_ _|with_reducible refine B_set ?_ (by simp;omega) _)
  rw[<-hWN]
  have hnm: ∀j,j<3-> ∃nm:ByteArray,nm.size<=100/\WN.cell? ⟨wc.heap.size,j,none⟩=some (.string nm):=by
   intro j hj
   obtain rfl|rfl|rfl:j=0\/j=1\/j=2:=by omega
   ·exact⟨⟨#[97,110,110]⟩,by decide,by simp only[World.cell?,nb];rfl⟩
   ·exact⟨⟨#[98,111,98]⟩,by decide,by simp only[World.cell?,nb];rfl⟩
   ·exact⟨⟨#[101,118,101]⟩,by decide,by simp only[World.cell?,nb];rfl⟩
  have hnl:=blk_lt nb
  have HNM:=Lib.hid hnm
  have HBN:=Lib.hid (HB3.out.trans (hBN.mono hs3))
  have s6N:Sl WN 3 partCells A6 xs:=s6.keep hBN
  clear hWN nb hBN hnm s6 HB3 hw3
  generalize wc.heap.size=NB at*
  go_loopw [5,6,8,9,10,11] (fun v5 _ v8 _ _ _ wr=> ∃(z:Int) (ys:Parts) (A:Option Addr) (c:Nat),-1<=z/\z<=3/\v8= .int .i64 z/\v5= .slice A ys.length c/\ys.length<=c/\Hid (PartsOk ys)/\Sl wr 3 partCells A ys/\Below WN.heap.size WN wr) (fun _ _ v8 _ _ _ _=>(3-intOf v8).toNat)
  case atStart=>exact⟨-1,xs,A6,c6,by decide,by decide,rfl,rfl,hc6,HPK,s6N,Below.refl _ _⟩
  case round=>
   clear s6N HPK hc6 xs
   obtain⟨z,xs,A,c,hz0,hz3,rfl,rfl,hc,HOK,hS,hB⟩:=hrel
   obtain⟨WR,hWR⟩: ∃WR,WR=wr:=⟨_,rfl⟩
   subst hWR
   have HS:=Lib.hid hS
   have HB:=Lib.hid hB
   have hbs:=hB.size
   clear hS hB
   by_cases hz:z<3
   ·by_cases hzn:0<=z
    ·obtain⟨j,rfl⟩: ∃j:Nat,z=(j:Int):=⟨z.toNat,by omega⟩
     obtain⟨nm,hnm,hcell⟩:=HNM.out j (by omega)
     have n0:WR.cell? ⟨NB,j,none⟩=some (.string nm):=(B_cell HB.out hnl).trans hcell
     have hnr:NB<WR.heap.size:=by omega
     have HW2:=Lib.hid (HBN.out.trans (HB.out.mono HBN.out.size))
     have HSF2:=Lib.hid (fun(w':World) (h:Below WR.heap.size WR w')=>(show w'.cell? ⟨w.heap.size,0,none⟩=some (.slice LA n nc)/\w'.cell? ⟨w.heap.size,1,none⟩=some (.slice DA m mc)/\w'.cell? ⟨w.heap.size+1,1,none⟩=some (.int .i64 dy)/\w'.cell? ⟨NB,j,none⟩=some (.string nm) from
      ⟨(HSF.out _ (HW2.out.trans (h.mono HW2.out.size))).1,(HSF.out _ (HW2.out.trans (h.mono HW2.out.size))).2.1,(HSF.out _ (HW2.out.trans (h.mono HW2.out.size))).2.2.2,(B_cell h hnr).trans n0⟩))
     clear hcell
     go_upto_region 13 with fail
     go_cut [5,6]from 39 to 111 (fun v5 v6 W=>Below WR.heap.size WR W/\ ∃(ys:Parts) (A:Option Addr) (c:Nat) (E:Int),v5= .slice A ys.length c/\ys.length<=c/\v6= .int .i64 E/\Sl W 3 partCells A ys/\Hid ((E≠0->ys=[])/\(E=0->PartsOk ys/\ys≠[])))
     case first=>
      refine wp_region_mark 8 (fun bb w'=>bb=true\/(w'.cell? ⟨w.heap.size,0,none⟩=some (.slice LA n nc)/\w'.cell? ⟨w.heap.size,1,none⟩=some (.slice DA m mc)/\w'.cell? ⟨w.heap.size+1,1,none⟩=some (.int .i64 dy)/\w'.cell? ⟨NB,j,none⟩=some (.string nm))) (by kernel_rfl) (.inr (HSF2.out _ (B_drew (Below.refl _ _)))) ?hrest
      case hrest=>
       intro hHeld
       refine TkM 0 ?_
       refine TkM 2 ?_
       refine TkM 3 ?_
       refine TkM 4 ?_
       refine TkM 5 ?_
       refine TkM 6 ?_
       refine TkM 7 ?_
       refine wpAnyM_ready (rs:=[1]) (by kernel_rfl) (by simp) (AllReadyM.cons (List.getElem?_toArray.trans rfl) false (by kernel_rfl) (fun K hK=> ?_) AllReadyM.nil)
       go_simp
       refine(HCO.out _ (B_drew (HB2.out.trans (HW2.out.mono hs2)))).mono ?_
       rintro e w5 ⟨A1,n1,B1,n2,rfl,hr5,hb5⟩
       have hb5':Below WR.heap.size WR w5:=(B_drew (Below.refl _ _):Below WR.heap.size WR WR.drew).trans hb5
       refine hK.out _ _ ?_ (fun hHeld=> ?_)
       focus((try dsimp only);exact .inr (HSF2.out _ hb5'))
       clear hK K
       try simp only[Act.put,List.setIfInBounds_toArray,List.set_cons_zero,List.set_cons_succ]
       refine wpAnyM_ready (rs:=[8]) (by kernel_rfl) (by simp) (AllReadyM.cons (List.getElem?_toArray.trans rfl) true (by kernel_rfl) (fun K hK=> ?_) AllReadyM.nil)
       go_simp
       refine(HES.out nm hnm A1 n1 B1 n2 _ (HB2.out.trans ((HW2.out.trans (hb5'.mono HW2.out.size)).mono hs2)) hr5).mono ?_
       rintro e w6 ⟨hb6,A6,c6,rfl,hc6,s6⟩
       have HB6:=Lib.hid (hb5'.trans (hb6.mono hb5'.size))
       have S6:=Lib.hid s6
       have HEO:=Lib.hid (est_ok (laws:=ls) (ds:=ds) (name:=nm) (day:=dy))
       generalize estApi ls ds nm dy=R at*
       clear hr5 hb5 hb5' hb6 s6
       refine hK.out _ _ ?_ (fun hHeld=> ?_)
       focus((try dsimp only);exact .inl rfl)
       clear hK K
       try simp only[Act.put,List.setIfInBounds_toArray,List.set_cons_zero,List.set_cons_succ]
       refine wpAnyM_free (i:=9) (v:= ?_) true (by kernel_rfl) (List.getElem?_toArray.trans rfl) (by decide) (by kernel_rfl) (by kernel_rfl) (by kernel_rfl) (fun _ _ _ h=>h) (Or.inl ⟨by rfl,?_⟩) (by first|assumption|trivial) ?_
       rotate_left 1
       focus(intro w hSw;go_simp;first|done|with_reducible rfl)
       try simp only[Act.put,List.setIfInBounds_toArray,List.set_cons_zero,List.set_cons_succ]
       refine wpAnyM_free (i:=10) (v:= ?_) true (by kernel_rfl) (List.getElem?_toArray.trans rfl) (by decide) (by kernel_rfl) (by kernel_rfl) (by kernel_rfl) (fun _ _ _ h=>h) (Or.inl ⟨by rfl,?_⟩) (by first|assumption|trivial) ?_
       rotate_left 1
       focus(intro w hSw;go_simp;first|done|with_reducible rfl)
       try simp only[Act.put,List.setIfInBounds_toArray,List.set_cons_zero,List.set_cons_succ]
       refine wpAnyM_free (i:=11) (v:= ?_) true (by kernel_rfl) (List.getElem?_toArray.trans rfl) (by decide) (by kernel_rfl) (by kernel_rfl) (by kernel_rfl) (fun _ _ _ h=>h) (Or.inl ⟨by rfl,?_⟩) (by first|assumption|trivial) ?_
       rotate_left 1
       focus(intro w hSw;go_simp;first|done|with_reducible rfl)
       try simp only[Act.put,List.setIfInBounds_toArray,List.set_cons_zero,List.set_cons_succ]
       refine wpAnyM_ready (rs:=[12]) (by kernel_rfl) (by simp) (AllReadyM.cons (List.getElem?_toArray.trans rfl) true (by kernel_rfl) (fun K hK=> ?_) AllReadyM.nil)
       go_simp
       refine hK.out _ _ ?_ (fun hHeld=> ?_)
       focus((try dsimp only);exact .inl rfl)
       clear hK K
       try simp only[Act.put,List.setIfInBounds_toArray,List.set_cons_zero,List.set_cons_succ]
       refine wpAnyM_ready (rs:=[13]) (by kernel_rfl) (by simp) (AllReadyM.cons (List.getElem?_toArray.trans rfl) true (by kernel_rfl) (fun K hK=> ?_) AllReadyM.nil)
       go_simp
       refine hK.out _ _ ?_ (fun hHeld=> ?_)
       focus((try dsimp only);exact .inl rfl)
       clear hK K
       try simp only[Act.put,List.setIfInBounds_toArray,List.set_cons_zero,List.set_cons_succ]
       refine wpAnyM_done (by kernel_rfl) ?_ _
       clear hHeld
       go_wp2_with fail
       go_meet
       exact⟨HB6.out,R.1,A6,c6,R.2,rfl,hc6,rfl,S6.out,HEO⟩
     case rest=>
      clear HOK HS hc
      obtain⟨hB4,xs,A,c,E,rfl,hc,rfl,s4,HEO⟩:=hcut
      have HB4:=Lib.hid hB4
      have HWB:=Lib.hid (HB.out.trans (hB4.mono hbs))
      have HS:=Lib.hid s4
      clear hB4 s4 n0 HSF2
      by_cases hE:E=0
      ·subst hE
       have hk:=HEO.out.2 rfl
       have HOK:=Lib.hid hk.1
       have hlz:((xs.length:Int)==0)=false:=by simpa using hk.2
       clear hk HEO
       have hparts:=HOK.out.parts
       have HSUM:=Lib.hid (fun W (h:Below wc.heap.size wc W)=>sumL_any xs A c W hc hparts.2.2 hparts.1 hparts.2.1 ((HS.out).keep (n:=wc.heap.size) h))
       have HSR:=Lib.hid (sum_right HOK.out.good HOK.out.small HOK.out.one)
       have HLN:=Lib.hid hparts.2.2
       clear hparts
       generalize sumLaw xs 0=qr at*
       obtain⟨q,ok⟩:=qr
       simp only[fracV]at HSUM HSR
       go_upto_region 18 with(go_at_call 13;go_must(refine(HSUM.out _ Bw).mono ?_);rintro e w7 ⟨rfl,z7,rfl⟩)
       obtain⟨WS,hWS⟩: ∃WS,WS=(wc.ext z7).alloc (.cells #[.int .i64 q.num, .int .i64 q.den] 45):=⟨_,rfl⟩
       have s0:WS.heap[wc.heap.size+z7.os.size]?=some (.cells #[.int .i64 q.num, .int .i64 q.den] 45):=by rw[hWS];exact J_new _ _ _ (ext_size _ _).symm
       have hBS:Below wc.heap.size wc WS:=by rw[hWS];repeat(first|exact B_refl|exact Below.refl _ _|assumption|with_reducible refine B_alloc ?_ _|with_reducible refine B_ext ?_ _|with_reducible refine B_drew ?_|with_reducible refine B_drewN ?_ _|with_reducible refine B_set ?_ (by simp;omega) _)
       rw[<-hWS]
       have HBS:=Lib.hid hBS
       have d0:WS.cell? ⟨wc.heap.size+z7.os.size,0,none⟩=some (.int .i64 q.num):=by simp only[World.cell?,s0];rfl
       have d1:WS.cell? ⟨wc.heap.size+z7.os.size,1,none⟩=some (.int .i64 q.den):=by simp only[World.cell?,s0];rfl
       generalize wc.heap.size+z7.os.size=TB at*
       clear hWS hBS s0
       go_cut [93]from 94 to 111 (fun v wc=>v= .bool false/\WS=wc)
       case first=>
        cases ok
        ·have hd: ¬(q.den:Int)<=1000000000:=by have:=HSR.out;simpa using this
         go_wp2_with fail
         go_meet
         exact⟨rfl,rfl⟩
        ·by_cases hz:0<xs.length
         ·have hz1:(0:Int)<(xs.length:Int):=by omega
          by_cases hd:(q.den:Int)<=1000000000
          ·have hq1:q=1:=by
            have h:=HSR.out
            rw[decide_eq_true hz,decide_eq_true hd]at h
            simpa using h
           subst hq1
           have e1:(1:Rat).num=1:=rfl
           have e2:(1:Rat).den=1:=rfl
           rw[e1]at d0
           rw[e2]at d1
           go_wp2_with fail
           go_meet
           exact⟨rfl,rfl⟩
          ·go_wp2_with fail
           go_meet
           exact⟨rfl,rfl⟩
         ·have hz1: ¬(0:Int)<(xs.length:Int):=by omega
          go_wp2_with fail
          go_meet
          exact⟨rfl,rfl⟩
       case rest=>
        obtain⟨rfl,rfl⟩:=hcut
        go_upto_region 21 with fail
        go_loopw [11] (fun v11 wx=> ∃y:Nat,1<=y/\y<=xs.length+1/\v11= .int .i64 y/\Below WS.heap.size WS wx) (fun v11 _=>xs.length+2-(intOf v11).toNat)
        case atStart=>exact⟨1,by omega,by omega,rfl,Below.refl _ _⟩
        case round=>
         obtain⟨y,hy1,hy2,rfl,hBX⟩:=hrel
         have HBX:=Lib.hid hBX
         have hxs:=hBX.size
         by_cases hlt:y<xs.length
         ·have hlti:(y:Int)<(xs.length:Int):=by omega
          obtain⟨i,hyi⟩: ∃i,y=i+1:=⟨y-1,by omega⟩
          have hil:i<xs.length:=by omega
          have hls:=less_at HOK.out.good hyi hlt
          have hS:=(HS.out).keep (n:=wc.heap.size) (HBS.out.trans (hBX.mono HBS.out.size))
          obtain⟨bb,off,hA,hbb,hcc⟩:=hS.at (k:=i) hil
          obtain⟨bb2,off2,hA2,_,hcc2⟩:=hS.at (k:=y) hlt
          obtain⟨rfl,rfl⟩:bb=bb2/\off=off2:=by rw[hA]at hA2;simpa using hA2
          have i0:wr.cell? ⟨bb,off+i*3,none⟩=some (.string xs[i].1):=hcc 0 _ rfl
          have i1:wr.cell? ⟨bb,off+y*3,none⟩=some (.string xs[y].1):=hcc2 0 _ rfl
          generalize xs[i].1=n0 at*
          generalize xs[y].1=n1 at*
          have q1:=wrap_q hyi (Nat.lt_of_lt_of_le hlt HLN.out)
          have q2:(0:Int)<=(i:Int):=by omega
          have q3:(i:Int)<(xs.length:Int):=by omega
          have q4:(0:Int)<=(y:Int):=by omega
          have HLT:=Lib.hid hlt
          have hyb:y<1000000000:=Nat.lt_of_lt_of_le hlt HLN.out
          subst hA
          clear hcc hcc2 hS hBX hlt hA2 hy1 hy2 hyi hil
          go_upto_region 23 with fail
          (refine wp_region_ext_lit (by kernel_rfl) (by kernel_rfl) ?_
           repeat(first|go_big_quiet_skip|(go_big_quiet_want;go_big_quiet_op;first|go_big_quiet_on|(apply Exists.intro;refine⟨fun _=> ?_,?_⟩;(fail);go_big_quiet_on)))
           refine wpQuiet_nil ?_
           rintro _ ⟨zq,rfl⟩)
          go_wp2_with fail
          go_round
          case rel=>exact⟨y+1,by omega,by have:=HLT.out;omega,by go_num,B_ext HBX.out zq⟩
          case measure=>have:=HLT.out;simp only[intOf];omega
         ·have hlti: ¬(y:Int)<(xs.length:Int):=by omega
          clear hBX hlt hy1 hy2
          go_wp2_with fail
          go_round
          case rel=>exact⟨(j:Int)+1,xs,A,c,by omega,by omega,by go_num,rfl,hc,HOK,(HS.out).keep (n:=wc.heap.size) (HBS.out.trans (HBX.out.mono HBS.out.size)),(HWB.out).trans ((HBS.out.trans (HBX.out.mono HBS.out.size)).mono (HWB.out).size)⟩
          case measure=>simp only[intOf];omega
      ·have hEb:(E==0)=false:=by simpa using hE
       have hnil:=HEO.out.1 hE
       subst hnil
       go_wp2_with fail
       go_round
       case rel=>exact⟨(j:Int)+1,[],A,c,by omega,by omega,by go_num,rfl,hc,Lib.hid PartsOk.nil,Sl.nil,HWB.out⟩
       case measure=>simp only[intOf];omega
    ·have hparts:=HOK.out.parts
     have HSUM:=Lib.hid (fun W (h:Below WR.heap.size WR W)=>sumL_any xs A c W hc hparts.2.2 hparts.1 hparts.2.1 ((HS.out).keep (n:=WR.heap.size) h))
     have HSR:=Lib.hid (sum_right HOK.out.good HOK.out.small HOK.out.one)
     have HLN:=Lib.hid hparts.2.2
     clear hparts
     generalize sumLaw xs 0=qr at*
     obtain⟨q,ok⟩:=qr
     simp only[fracV]at HSUM HSR
     go_upto_region 18 with(go_at_call 13;go_must(refine(HSUM.out _ Bw).mono ?_);rintro e w7 ⟨rfl,z7,rfl⟩)
     obtain⟨WS,hWS⟩: ∃WS,WS=(WR.ext z7).alloc (.cells #[.int .i64 q.num, .int .i64 q.den] 45):=⟨_,rfl⟩
     have s0:WS.heap[WR.heap.size+z7.os.size]?=some (.cells #[.int .i64 q.num, .int .i64 q.den] 45):=by rw[hWS];exact J_new _ _ _ (ext_size _ _).symm
     have hBS:Below WR.heap.size WR WS:=by rw[hWS];repeat(first|exact B_refl|exact Below.refl _ _|assumption|with_reducible refine B_alloc ?_ _|with_reducible refine B_ext ?_ _|with_reducible refine B_drew ?_|with_reducible refine B_drewN ?_ _|with_reducible refine B_set ?_ (by simp;omega) _)
     rw[<-hWS]
     have HBS:=Lib.hid hBS
     have d0:WS.cell? ⟨WR.heap.size+z7.os.size,0,none⟩=some (.int .i64 q.num):=by simp only[World.cell?,s0];rfl
     have d1:WS.cell? ⟨WR.heap.size+z7.os.size,1,none⟩=some (.int .i64 q.den):=by simp only[World.cell?,s0];rfl
     generalize WR.heap.size+z7.os.size=TB at*
     clear hWS hBS s0
     go_cut [93]from 94 to 111 (fun v wc=>v= .bool false/\WS=wc)
     case first=>
      cases ok
      ·have hd: ¬(q.den:Int)<=1000000000:=by have:=HSR.out;simpa using this
       go_wp2_with fail
       go_meet
       exact⟨rfl,rfl⟩
      ·by_cases hz:0<xs.length
       ·have hz1:(0:Int)<(xs.length:Int):=by omega
        by_cases hd:(q.den:Int)<=1000000000
        ·have hq1:q=1:=by
          have h:=HSR.out
          rw[decide_eq_true hz,decide_eq_true hd]at h
          simpa using h
         subst hq1
         have e1:(1:Rat).num=1:=rfl
         have e2:(1:Rat).den=1:=rfl
         rw[e1]at d0
         rw[e2]at d1
         go_wp2_with fail
         go_meet
         exact⟨rfl,rfl⟩
        ·go_wp2_with fail
         go_meet
         exact⟨rfl,rfl⟩
       ·have hz1: ¬(0:Int)<(xs.length:Int):=by omega
        go_wp2_with fail
        go_meet
        exact⟨rfl,rfl⟩
     case rest=>
      obtain⟨rfl,rfl⟩:=hcut
      go_upto_region 21 with fail
      go_loopw [11] (fun v11 wx=> ∃y:Nat,1<=y/\y<=xs.length+1/\v11= .int .i64 y/\Below WS.heap.size WS wx) (fun v11 _=>xs.length+2-(intOf v11).toNat)
      case atStart=>exact⟨1,by omega,by omega,rfl,Below.refl _ _⟩
      case round=>
       obtain⟨y,hy1,hy2,rfl,hBX⟩:=hrel
       have HBX:=Lib.hid hBX
       have hxs:=hBX.size
       by_cases hlt:y<xs.length
       ·have hlti:(y:Int)<(xs.length:Int):=by omega
        obtain⟨i,hyi⟩: ∃i,y=i+1:=⟨y-1,by omega⟩
        have hil:i<xs.length:=by omega
        have hls:=less_at HOK.out.good hyi hlt
        have hS:=(HS.out).keep (n:=WR.heap.size) (HBS.out.trans (hBX.mono HBS.out.size))
        obtain⟨bb,off,hA,hbb,hcc⟩:=hS.at (k:=i) hil
        obtain⟨bb2,off2,hA2,_,hcc2⟩:=hS.at (k:=y) hlt
        obtain⟨rfl,rfl⟩:bb=bb2/\off=off2:=by rw[hA]at hA2;simpa using hA2
        have i0:wr.cell? ⟨bb,off+i*3,none⟩=some (.string xs[i].1):=hcc 0 _ rfl
        have i1:wr.cell? ⟨bb,off+y*3,none⟩=some (.string xs[y].1):=hcc2 0 _ rfl
        generalize xs[i].1=n0 at*
        generalize xs[y].1=n1 at*
        have q1:=wrap_q hyi (Nat.lt_of_lt_of_le hlt HLN.out)
        have q2:(0:Int)<=(i:Int):=by omega
        have q3:(i:Int)<(xs.length:Int):=by omega
        have q4:(0:Int)<=(y:Int):=by omega
        have HLT:=Lib.hid hlt
        have hyb:y<1000000000:=Nat.lt_of_lt_of_le hlt HLN.out
        subst hA
        clear hcc hcc2 hS hBX hlt hA2 hy1 hy2 hyi hil
        go_upto_region 23 with fail
        (refine wp_region_ext_lit (by kernel_rfl) (by kernel_rfl) ?_
         repeat(first|go_big_quiet_skip|(go_big_quiet_want;go_big_quiet_op;first|go_big_quiet_on|(apply Exists.intro;refine⟨fun _=> ?_,?_⟩;(fail);go_big_quiet_on)))
         refine wpQuiet_nil ?_
         rintro _ ⟨zq,rfl⟩)
        go_wp2_with fail
        go_round
        case rel=>exact⟨y+1,by omega,by have:=HLT.out;omega,by go_num,B_ext HBX.out zq⟩
        case measure=>have:=HLT.out;simp only[intOf];omega
       ·have hlti: ¬(y:Int)<(xs.length:Int):=by omega
        clear hBX hlt hy1 hy2
        go_wp2_with fail
        go_round
        case rel=>exact⟨z+1,xs,A,c,by omega,by omega,by go_num,rfl,hc,HOK,(HS.out).keep (n:=WR.heap.size) (HBS.out.trans (HBX.out.mono HBS.out.size)),(HB.out).trans ((HBS.out.trans (HBX.out.mono HBS.out.size)).mono (HB.out).size)⟩
        case measure=>simp only[intOf];omega
   ·go_wp2_with fail
    go_ret
    exact Ret.of rfl (HB2.out.trans ((HBN.out.trans (HB.out.mono HBN.out.size)).mono hs2))
end Go.Proofs.YtmaidggpbihlgaaGreatDoor
