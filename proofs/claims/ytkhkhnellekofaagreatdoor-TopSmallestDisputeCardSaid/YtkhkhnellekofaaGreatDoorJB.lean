/- Plain: estates as the program reckons them, with its mark. -/
import Derived.Test.YtkhkhnellekofaaGreatDoorJ6
import Derived.Test.YtkhkhnellekofaaGreatDoorO0
set_option linter.unusedSimpArgs false
set_option linter.unusedVariables false
namespace Go.Proofs.YtkhkhnellekofaaGreatDoor
open Go.RowKit Go.Shelf
attribute [local go_sem] World.cell?_alloc_mark ext_size ext_cell ext_frozen lt_add_r lt_add_r2 lt_add_r3 lt_add_r4 lt_add_r5 lt_add_r6 lt_add_r7 lt_add_r8
attribute [local go_sem] ext_setCell alloc_setCell_lt
def lens12:List Int:=[31,28,31,30,31,30,31,31,30,31,30,31]
def LensIn (w:World):Prop:=0<w.heap.size/\ ∀(k:Nat) (n:Int),lens12[k]?=some n->w.cell? ⟨0,k,none⟩=some (.int .i64 n)
theorem LensIn.keep {w W:World} {n:Nat} (h:LensIn w) (hB:Below n w W) (hn:w.heap.size<=n:=by first|exact Nat.le_refl _|omega):LensIn W:=
 ⟨Nat.lt_of_lt_of_le h.1 hB.size,fun k x hx=>(hB.cell (p:=⟨0,_,none⟩) (Nat.lt_of_lt_of_le h.1 hn)).trans (h.2 k x hx)⟩
set_option maxRecDepth 100000 in
set_option maxHeartbeats 2000000 in
theorem rwithin_any (n lo hi:Int) (w:World):Calls Tryz.prog 60 #[.int .i64 n, .int .i64 lo, .int .i64 hi] w (Ret0 w (.bool (inR n lo hi))):=by
 go_enter Tryz.func60,Tryz.ntmps60
 go_wp2_with fail
 all_goals go_ret
 all_goals exact⟨by first|(simp_all[inR];done)|(simp_all[inR];omega),rfl⟩
set_option maxRecDepth 100000 in
set_option maxHeartbeats 2000000 in
theorem risDay_any (n:Int) (w:World):Calls Tryz.prog 59 #[.int .i64 n] w (Ret0 w (.bool (isDayP n))):=by
 go_enter Tryz.func59,Tryz.ntmps59
 go_wp2_with (go_at_call 60;refine(rwithin_any _ _ _ _).mono ?_;rintro e wq ⟨rfl,rfl⟩)
 go_ret
 exact⟨rfl,rfl⟩
set_option maxRecDepth 100000 in
set_option maxHeartbeats 2000000 in
theorem isLeap_any (y:Int) (w:World) (h0:0<=y) (h1:y<=100000):Calls Tryz.prog 111 #[.int .i64 y] w (Ret0 w (.bool (leapP y))):=by
 rw[<-leapQ_eq h0]
 have w1:wrap64 (y.tmod 4)=y.tmod 4:=by rw[Int.tmod_eq_emod_of_nonneg h0];unfold wrap64;omega
 have w2:wrap64 (y.tmod 100)=y.tmod 100:=by rw[Int.tmod_eq_emod_of_nonneg h0];unfold wrap64;omega
 have w3:wrap64 (y.tmod 400)=y.tmod 400:=by rw[Int.tmod_eq_emod_of_nonneg h0];unfold wrap64;omega
 have v1:IntKind.i64.wrap (y.tmod 4)=y.tmod 4:=by rw[IntKind.wrap_i64];rw[Int.tmod_eq_emod_of_nonneg h0];omega
 have v2:IntKind.i64.wrap (y.tmod 100)=y.tmod 100:=by rw[IntKind.wrap_i64];rw[Int.tmod_eq_emod_of_nonneg h0];omega
 have v3:IntKind.i64.wrap (y.tmod 400)=y.tmod 400:=by rw[IntKind.wrap_i64];rw[Int.tmod_eq_emod_of_nonneg h0];omega
 go_enter Tryz.func111,Tryz.ntmps111
 go_wp2_with fail
 all_goals go_ret
 all_goals exact⟨by simp[leapQ,Int.tmod_eq_emod_of_nonneg h0, *],rfl⟩
set_option maxRecDepth 100000 in
set_option maxHeartbeats 2000000 in
theorem length_any (y:Int) (m:Nat) (w:World) (hL:LensIn w) (h0:0<=y) (h1:y<=100000) (hm1:1<=m) (hm2:m<=12):Calls Tryz.prog 93 #[.int .i64 y, .int .i64 m] w (Ret0 w (.int .i64 (monthDaysP y m))):=by
 have hd:=days_get y hm1 hm2
 have hlt:m-1<lens12.length:=by simp[lens12];omega
 have hc:=hL.2 (m-1) _ (List.getElem?_eq_getElem hlt)
 have hg:lens12.getD (m-1) 0=lens12[m-1]:=by rw[List.getD_eq_getElem?_getD,List.getElem?_eq_getElem hlt];rfl
 have hg2:[31,28,31,30,31,30,31,31,30,31,30,31].getD (m-1) 0=lens12[m-1]:=hg
 rw[hg2]at hd
 generalize lens12[m-1]=len at hc hd
 have hw:IntKind.i64.wrap ((m:Int)-1)=(m:Int)-1:=IntWalk.i64_in _ (by omega)
 have hn0:(0:Int)<=(m:Int)-1:=by omega
 have hn1:(m:Int)-1<12:=by omega
 have htn:((m:Int)-1).toNat=m-1:=by omega
 have HD:=Lib.hid hd
 clear hd hg hg2 hL hlt
 by_cases h2:m=2
 ·subst h2
  cases hl:leapP y
  ·go_enter Tryz.func93,Tryz.ntmps93
   go_wp2_with (go_at_call 111;refine(isLeap_any _ _ h0 h1).mono ?_;rintro e wq ⟨rfl,rfl⟩;rw[hl])
   all_goals go_ret
   all_goals exact⟨by rw[HD.out,hl];rfl,rfl⟩
  ·go_enter Tryz.func93,Tryz.ntmps93
   go_wp2_with (go_at_call 111;refine(isLeap_any _ _ h0 h1).mono ?_;rintro e wq ⟨rfl,rfl⟩;rw[hl])
   all_goals go_ret
   all_goals exact⟨by rw[HD.out,hl];rfl,rfl⟩
 ·have hb:((m:Int)==2)=false:=by rw[beq_eq_false_iff_ne];omega
  have hb2: ¬(m:Int)=2:=by omega
  go_enter Tryz.func93,Tryz.ntmps93
  go_wp2_with fail
  go_ret
  exact⟨by rw[HD.out,hb];simp,rfl⟩
set_option maxRecDepth 100000 in
set_option maxHeartbeats 2000000 in
theorem begin_any (y:Int) (w:World) (h0:1800<=y) (h1:y<=100000):Calls Tryz.prog 110 #[.int .i64 y] w (Ret0 w (.int .i64 (begP y))):=by
 have hp:0<=y-1:=by omega
 have e1:(y-1).tdiv 4=(y-1)/4:=Int.tdiv_eq_ediv_of_nonneg hp
 have e2:(y-1).tdiv 100=(y-1)/100:=Int.tdiv_eq_ediv_of_nonneg hp
 have e3:(y-1).tdiv 400=(y-1)/400:=Int.tdiv_eq_ediv_of_nonneg hp
 have hv:begP y=365*(y-1800)+(y-1)/4-(y-1)/100+(y-1)/400-436:=by unfold begP;rw[leaps_div hp];omega
 have HV:=Lib.hid hv
 clear hv
 have k0:IntKind.i64.wrap (y-1)=y-1:=IntWalk.i64_in _ (by omega)
 have k1:IntKind.i64.wrap (y-1800)=y-1800:=IntWalk.i64_in _ (by omega)
 have k2:IntKind.i64.wrap (365*(y-1800))=365*(y-1800):=IntWalk.i64_in _ (by omega)
 go_enter Tryz.func110,Tryz.ntmps110
 go_wp2_with fail
 go_ret
 refine⟨congrArg Ending.returned (int_eq ?_),rfl⟩
 rw[HV.out]
theorem first_bounds {y:Int} {m:Nat} (h0:1800<=y) (h1:y<=2500) (hm1:1<=m) (hm2:m<=13):0<=firstP y m/\firstP y m<=1000000:=by
 have hb:begP y=365*(y-1800)+(y-1)/4-(y-1)/100+(y-1)/400-436:=by unfold begP;rw[leaps_div (by omega)];omega
 have h: ∀k:Nat,k<=12->begP y<=firstP y (k+1)/\firstP y (k+1)<=begP y+31*k:=fun k=>by
  induction k with
  |zero=>intro _;rw[first_one];omega
  |succ k ih=>
   intro hk
   have:=ih (by omega)
   have h2:=first_up y (show 1<=k+1 by omega)
   have h3:=days_pos y (show 1<=k+1 by omega) (show k+1<=12 by omega)
   omega
 obtain⟨k,rfl⟩: ∃k,m=k+1:=⟨m-1,by omega⟩
 have:=h k (by omega)
 omega
set_option maxRecDepth 100000 in
set_option maxHeartbeats 2000000 in
theorem dayOf_any (y:Int) (m:Nat) (d:Int) (w:World) (hL:LensIn w) (h0:1800<=y) (h1:y<=2500) (hm1:1<=m) (hm2:m<=12) (hd1:0<=d) (hd2:d<=1000):
 Calls Tryz.prog 92 #[.int .i64 y, .int .i64 m, .int .i64 d] w (Ret0 w (.int .i64 (firstP y m+d-1))):=by
 have hbb:=first_bounds (m:=1) h0 h1 (by omega) (by omega)
 rw[first_one]at hbb
 have k0:IntKind.i64.wrap (begP y+d)=begP y+d:=IntWalk.i64_in _ (by omega)
 have k1:IntKind.i64.wrap (begP y+d-1)=begP y+d-1:=IntWalk.i64_in _ (by omega)
 go_enter Tryz.func92,Tryz.ntmps92
 go_wp2_with (go_at_call 110;refine(begin_any _ _ h0 (by omega)).mono ?_;rintro e wq ⟨rfl,rfl⟩)
 go_loop [7,8] (fun n i=> ∃k:Nat,1<=k/\k<=m/\i= .int .i64 k/\n= .int .i64 (firstP y k+d-1)) (fun _ i=>m-(intOf i).toNat)
 case atStart=>exact⟨1,by omega,hm1,rfl,by rw[first_one]⟩
 case round=>
  obtain⟨k,hk1,hk2,rfl,rfl⟩:=hrel
  by_cases hlt:k<m
  ·have hb:=first_bounds (m:=k) h0 h1 hk1 (by omega)
   have hdp:=days_pos y hk1 (show k<=12 by omega)
   have hu:=first_up y hk1
   have HU:=Lib.hid hu
   have k2:IntKind.i64.wrap (firstP y k+d-1+monthDaysP y k)=firstP y k+d-1+monthDaysP y k:=IntWalk.i64_in _ (by omega)
   have hlt2:(k:Int)<(m:Int):=by omega
   clear hu
   go_wp2_with (go_at_call 93;refine(length_any y k _ hL (by omega) (by omega) hk1 (by omega)).mono ?_;rintro e wq ⟨rfl,rfl⟩)
   go_round
   case rel=>exact⟨k+1,by omega,by omega,by go_num,by rw[HU.out];exact int_eq (by omega)⟩
   case measure=>simp[intOf];omega
  ·obtain rfl:k=m:=by omega
   have hlt2: ¬(k:Int)<(k:Int):=by omega
   go_wp2_with fail
   go_ret
   exact⟨rfl,rfl⟩
def dateV (y m d:Int):Value:= .agg #[.int .i64 y, .int .i64 m, .int .i64 d]
theorem results_date {fn:Func} {p:Tmp} (h:fn.results= #[.cell p 120]) (tmps:Array Value) (w:World) (B:Nat) (x y z:Int) (hp:tmps.getD p undef= .pointer (some ⟨B,0,none⟩))
 (h0:w.cell? ⟨B,0,none⟩=some (.int .i64 x)) (h1:w.cell? ⟨B,1,none⟩=some (.int .i64 y)) (h2:w.cell? ⟨B,2,none⟩=some (.int .i64 z)):(results fn tmps).run Tryz.prog w= .ok (dateV x y z) w:=by
 rw[results_c1 h,hp]
 unfold dateV
 go_simp
theorem J_set3 {w:World} {g:Nat} {z0 z1 z2 a b c:Value} {t:TypeId} {fr:Nat×Nat} (h:w.heap[g]?=some (.cells #[z0,z1,z2] t fr)):(((w.setCell ⟨g,0,none⟩ a).setCell ⟨g,1,none⟩ b).setCell ⟨g,2,none⟩ c).heap[g]?=some (.cells #[a,b,c] t fr):=by
 have:=Joins.block_setCell (i:=2) (Joins.block_setCell (i:=1) (Joins.block_setCell (i:=0) h a) b) c
 simpa using this
set_option maxRecDepth 100000 in
set_option maxHeartbeats 2000000 in
theorem dateOf_any (day:Int) (w:World) (hL:LensIn w) (h0:0<=day) (h1:day<=200000):
 Calls Tryz.prog 91 #[.int .i64 day] w (fun e w'=>DateIs day (yearP day) (monthP day)/\Ret w (dateV (yearP day) (monthP day) (day-firstP (yearP day) (monthP day)+1)) e w'):=by
 have hlow:=beg_low h0 h1
 have hhigh:=beg_high h0 h1
 have hdv:day.tdiv 366=day/366:=Int.tdiv_eq_ediv_of_nonneg h0
 have hq0:0<=day/366:=by omega
 have hq1:day/366<=546:=by omega
 rw[hdv]at hlow hhigh
 have hyp:yearP day=yearGo day 10 (1800+day/366):=by unfold yearP;rw[hdv]
 have HY:=Lib.hid hyp
 have HH:=Lib.hid hhigh
 clear hyp hhigh
 go_enter Tryz.func91,Tryz.ntmps91
 go_wp2_with fail
 go_loopg [] 10 (fun gg wr=> ∃(f:Nat) (y:Int),f<=gg/\y+f=1800+day/366+10/\1800<=y/\y<=2400/\Hid (yearP day=yearGo day f y)/\Hid (begP y<=day)/\Below w.heap.size w wr/\wr.heap[w.heap.size]?=some (.cells #[.int .i64 0, .int .i64 0, .int .i64 0] 120)/\wr.heap[w.heap.size+1]?=some (.cells #[.int .i64 y, .int .i64 1, .int .i64 0] 120))
 case atStart=>exact⟨10,1800+day/366,Nat.le_refl _,by omega,by omega,by omega,HY.out,hlow,Bw,J_alloc (J_new _ _ _ rfl),J_new _ _ _ (by simp)⟩
 case round=>
  obtain⟨f,y,hf,hyf,hy0,hy1,HYF,HBY,hB,g0,g1⟩:=hrel
  have a0:wr.cell? ⟨w.heap.size+1,0,none⟩=some (.int .i64 y):=by simp[World.cell?,g1]
  have a1:wr.cell? ⟨w.heap.size+1,1,none⟩=some (.int .i64 1):=by simp[World.cell?,g1]
  have a2:wr.cell? ⟨w.heap.size+1,2,none⟩=some (.int .i64 0):=by simp[World.cell?,g1]
  have z0:wr.frozen? ⟨w.heap.size+1,0,none⟩=false:=by simp[World.frozen?,g1]
  have z1:wr.frozen? ⟨w.heap.size+1,1,none⟩=false:=by simp[World.frozen?,g1]
  have z2:wr.frozen? ⟨w.heap.size+1,2,none⟩=false:=by simp[World.frozen?,g1]
  have b0:wr.cell? ⟨w.heap.size,0,none⟩=some (.int .i64 0):=by simp[World.cell?,g0]
  have b1:wr.cell? ⟨w.heap.size,1,none⟩=some (.int .i64 0):=by simp[World.cell?,g0]
  have b2:wr.cell? ⟨w.heap.size,2,none⟩=some (.int .i64 0):=by simp[World.cell?,g0]
  have x0:wr.frozen? ⟨w.heap.size,0,none⟩=false:=by simp[World.frozen?,g0]
  have x1:wr.frozen? ⟨w.heap.size,1,none⟩=false:=by simp[World.frozen?,g0]
  have x2:wr.frozen? ⟨w.heap.size,2,none⟩=false:=by simp[World.frozen?,g0]
  have e1:w.heap.size+1<wr.heap.size:=blk_lt g1
  have e0:w.heap.size<wr.heap.size:=blk_lt g0
  have hLr:=hL.keep hB
  have k0:IntKind.i64.wrap (y+1)=y+1:=IntWalk.i64_in _ (by omega)
  by_cases hc:begP (y+1)<=day
  ·have hf1:f≠0:=by
    rintro rfl
    have:=HH.out
    rw[show y=1800+day/366+10 by omega]at hc
    omega
   obtain⟨f',rfl⟩: ∃f',f=f'+1:=⟨f-1,by omega⟩
   have HN:Hid (yearP day=yearGo day f' (y+1)):=by
    show _=_
    rw[HYF.out,year_step (by rw[first_one];exact hc)]
   have HC:=Lib.hid hc
   go_wp2_with (go_at_call 110;refine(begin_any _ _ (by omega) (by omega)).mono ?_;rintro e wq ⟨rfl,rfl⟩)
   go_roundg f'
   case measure=>omega
   case rel=>
    refine⟨f',y+1,Nat.le_refl _,by omega,by omega,by omega,HN,HC.out,by repeat(first|exact B_refl|exact Below.refl _ _|assumption|with_reducible refine B_alloc ?_ _|with_reducible refine B_ext ?_ _|with_reducible refine B_drew ?_|with_reducible refine B_drewN ?_ _|with_reducible refine B_set ?_ (by dsimp only;omega) _),J_ne (by omega) g0,?_⟩
    have:=Joins.block_setCell (i:=0) g1 (.int .i64 (y+1))
    simpa using this
  ·have HN:Hid (yearP day=y):=by
    show _=_
    rw[HYF.out,year_stop (by rw[first_one];exact hc)]
   have hfb:=first_bounds (m:=1) hy0 (by omega) (by omega) (by omega)
   rw[first_one]at hfb
   have k1:IntKind.i64.wrap (day-begP y)=day-begP y:=IntWalk.i64_in _ (by omega)
   have hmp:monthP day=monthGo day y 12 1:=by unfold monthP;rw[HN.out]
   have HMP:=Lib.hid hmp
   have hyr:day<firstP y 12+monthDaysP y 12:=by
    rw[<-first_year hy0,first_one];omega
   have HYR:=Lib.hid hyr
   have HBY2:=HBY.out
   have HB0:Hid (firstP y 1<=day):=by show _<=_;rw[first_one];exact HBY2
   clear hmp hyr HBY2
   have G0:=Lib.hid g0
   have G1:=Lib.hid g1
   go_upto_region 5 with(go_at_call 110;refine(begin_any _ _ (by omega) (by omega)).mono ?_;rintro e wq ⟨rfl,rfl⟩)
   clear a0 a1 a2 z0 z1 z2 b0 b1 b2 x0 x1 x2 g0 g1
   go_loopg [0] 12 (fun gg v wm=> ∃(m:Nat),1<=m/\m<=12/\12-m<=gg/\v= .int .i64 (day-firstP y m)/\Hid (monthP day=monthGo day y (13-m) m)/\Hid (firstP y m<=day)/\Below w.heap.size w wm/\wm.heap[w.heap.size]?=some (.cells #[.int .i64 0, .int .i64 0, .int .i64 0] 120)/\wm.heap[w.heap.size+1]?=some (.cells #[.int .i64 y, .int .i64 m, .int .i64 0] 120))
   case atStart=>exact⟨1,by omega,by omega,by omega,by rw[first_one],HMP.out,HB0.out,hB,G0.out,G1.out⟩
   case round=>
    obtain⟨m,hm1,hm2,hgm,rfl,HM,HLO,hBm,g0,g1⟩:=hrel
    have a0:wr.cell? ⟨w.heap.size+1,0,none⟩=some (.int .i64 y):=by simp[World.cell?,g1]
    have a1:wr.cell? ⟨w.heap.size+1,1,none⟩=some (.int .i64 m):=by simp[World.cell?,g1]
    have a2:wr.cell? ⟨w.heap.size+1,2,none⟩=some (.int .i64 0):=by simp[World.cell?,g1]
    have z0:wr.frozen? ⟨w.heap.size+1,0,none⟩=false:=by simp[World.frozen?,g1]
    have z1:wr.frozen? ⟨w.heap.size+1,1,none⟩=false:=by simp[World.frozen?,g1]
    have z2:wr.frozen? ⟨w.heap.size+1,2,none⟩=false:=by simp[World.frozen?,g1]
    have b0:wr.cell? ⟨w.heap.size,0,none⟩=some (.int .i64 0):=by simp[World.cell?,g0]
    have b1:wr.cell? ⟨w.heap.size,1,none⟩=some (.int .i64 0):=by simp[World.cell?,g0]
    have b2:wr.cell? ⟨w.heap.size,2,none⟩=some (.int .i64 0):=by simp[World.cell?,g0]
    have x0:wr.frozen? ⟨w.heap.size,0,none⟩=false:=by simp[World.frozen?,g0]
    have x1:wr.frozen? ⟨w.heap.size,1,none⟩=false:=by simp[World.frozen?,g0]
    have x2:wr.frozen? ⟨w.heap.size,2,none⟩=false:=by simp[World.frozen?,g0]
    have e1:w.heap.size+1<wr.heap.size:=blk_lt g1
    have e0:w.heap.size<wr.heap.size:=blk_lt g0
    have hLm:=hL.keep hBm
    have hdp:=days_pos y hm1 hm2
    have hfm:=first_bounds (m:=m) hy0 (by omega) hm1 (by omega)
    have hu:=first_up y hm1
    have HU:=Lib.hid hu
    have hlo:=HLO.out
    have k2:IntKind.i64.wrap (day-firstP y m-monthDaysP y m)=day-firstP y m-monthDaysP y m:=IntWalk.i64_in _ (by omega)
    have k3:IntKind.i64.wrap ((m:Int)+1)=(m:Int)+1:=IntWalk.i64_in _ (by omega)
    have k4:IntKind.i64.wrap (day-firstP y m+1)=day-firstP y m+1:=IntWalk.i64_in _ (by omega)
    by_cases hc2:monthDaysP y m<=day-firstP y m
    ·have hm12:m<12:=by
      rcases Nat.lt_or_ge m 12 with h|h
      ·exact h
      ·have:=HYR.out
       obtain rfl:m=12:=by omega
       rw[show((12:Nat):Int)=12 from rfl]at hc2
       omega
     have HN2:Hid (monthP day=monthGo day y (13-(m+1)) (m+1)):=by
      show _=_
      rw[HM.out,show 13-m=(13-(m+1))+1 by omega,month_step hm12 (by rw[hu];omega)]
     have hlo2:firstP y (m+1)<=day:=by rw[hu];omega
     have HL2:=Lib.hid hlo2
     clear hu hlo hlo2
     go_wp2_with (go_at_call 93;refine(length_any y m _ hLm (by omega) (by omega) hm1 hm2).mono ?_;rintro e wq ⟨rfl,rfl⟩)
     go_roundg (12-(m+1))
     case measure=>omega
     case rel=>
      refine⟨m+1,by omega,by omega,Nat.le_refl _,by rw[HU.out];exact int_eq (by omega),HN2,HL2.out,by repeat(first|exact B_refl|exact Below.refl _ _|assumption|with_reducible refine B_alloc ?_ _|with_reducible refine B_ext ?_ _|with_reducible refine B_drew ?_|with_reducible refine B_drewN ?_ _|with_reducible refine B_set ?_ (by dsimp only;omega) _),J_ne (by omega) g0,?_⟩
      have:=Joins.block_setCell (i:=1) g1 (.int .i64 ((m:Int)+1))
      simpa using this
    ·have HN2:Hid (monthP day=m):=by
      show _=_
      rw[HM.out,month_stop (by rw[hu];omega)]
     have HD:Hid (DateIs day (yearP day) (monthP day)):=by
      show DateIs _ _ _
      rw[HN.out,HN2.out]
      exact⟨hy0,by omega,hm1,hm2,hlo,by omega⟩
     clear hu hlo
     go_wp2_with (go_at_call 93;refine(length_any y m _ hLm (by omega) (by omega) hm1 hm2).mono ?_;rintro e wq ⟨rfl,rfl⟩)
     refine bodyPost_ret (v:=dateV (yearP day) (monthP day) (day-firstP (yearP day) (monthP day)+1)) ?_ rfl ?_
     ·rw[HN.out,HN2.out]
      have g2:=J_set3 (a:= .int .i64 y) (b:= .int .i64 m) (c:= .int .i64 (day-firstP y m+1)) (J_ne (b:=w.heap.size+1) (o:=2) (v:= .int .i64 (day-firstP y m+1)) (by omega) g0)
      refine results_date rfl _ _ w.heap.size _ _ _ rfl ?_ ?_ ?_
      all_goals simp[World.cell?,g2]
     ·exact⟨HD.out,Ret.of rfl (by repeat(first|exact B_refl|exact Below.refl _ _|assumption|with_reducible refine B_alloc ?_ _|with_reducible refine B_ext ?_ _|with_reducible refine B_drew ?_|with_reducible refine B_drewN ?_ _|with_reducible refine B_set ?_ (by dsimp only;omega) _))⟩
set_option maxRecDepth 100000 in
set_option maxHeartbeats 2000000 in
theorem rlater_any (day mo:Int) (w:World) (hL:LensIn w) (h0:0<=day) (h1:day<=200000) (hm0: -12000<=mo) (hm1:mo<=12000):
 Calls Tryz.prog 61 #[.int .i64 day, .int .i64 mo] w (fun e w'=> ∃n:Int,∃ok:Bool,(ok=true->addMonthsP day mo=n/\0<=n)/\(ok=false->addMonthsP day mo= -1)/\Ret w (.tuple #[.int .i64 n, .bool ok]) e w'):=by
 have hA:addMonthsP day mo=if !inR ((yearP day*12+monthP day-1+mo)/12) 1800 2347 then-1 else
  if isDayP (firstP ((yearP day*12+monthP day-1+mo)/12) ((yearP day*12+monthP day-1+mo)%12+1).toNat+min (day-firstP (yearP day) (monthP day)+1) (monthDaysP ((yearP day*12+monthP day-1+mo)/12) ((yearP day*12+monthP day-1+mo)%12+1))-1)then
   firstP ((yearP day*12+monthP day-1+mo)/12) ((yearP day*12+monthP day-1+mo)%12+1).toNat+min (day-firstP (yearP day) (monthP day)+1) (monthDaysP ((yearP day*12+monthP day-1+mo)/12) ((yearP day*12+monthP day-1+mo)%12+1))-1 else-1:=rfl
 have HA:=Lib.hid hA
 clear hA
 have HD:=Lib.hid (fun W h=>dateOf_any day W h h0 h1)
 generalize yearP day=y at*
 generalize monthP day=m at*
 generalize addMonthsP day mo=R at*
 go_enter Tryz.func61,Tryz.ntmps61
 go_upto_region 2 with(go_at_call 91;refine(HD.out _ hL).mono ?_;rintro e wq ⟨hdi,rfl,z,rfl⟩;simp only[dateV])
 obtain⟨d1,d2,d3,d4,d5,d6⟩:=hdi
 obtain⟨f1,f2⟩:=days_pos y d3 d4
 obtain⟨X,hX⟩: ∃X,X=day-firstP y m+1:=⟨_,rfl⟩
 obtain⟨N,hN⟩: ∃N,N=12*y+m-1+mo:=⟨_,rfl⟩
 have HA2:Hid (R=if !inR (N/12) 1800 2347 then-1 else if isDayP (firstP (N/12) (N%12+1).toNat+min X (monthDaysP (N/12) (N%12+1))-1)then firstP (N/12) (N%12+1).toNat+min X (monthDaysP (N/12) (N%12+1))-1 else-1):=by
  show _=_
  rw[HA.out,hX,hN,show y*12+(m:Int)-1+mo=12*y+m-1+mo by omega]
 have hX1:1<=X:=by omega
 have hX2:X<=31:=by omega
 rw[<-hX]
 have k1:IntKind.i64.wrap (12*y)=12*y:=IntWalk.i64_in _ (by omega)
 have k2:IntKind.i64.wrap (12*y+m)=12*y+m:=IntWalk.i64_in _ (by omega)
 have k3:IntKind.i64.wrap (12*y+m-1)=12*y+m-1:=IntWalk.i64_in _ (by omega)
 have k4:IntKind.i64.wrap (12*y+m-1+mo)=N:=by rw[hN];exact IntWalk.i64_in _ (by omega)
 have hNb: -20000<=N/\N<=100000:=by omega
 obtain⟨hNb1,hNb2⟩:=hNb
 clear HA hX hN HD d5 d6 f1 f2
 by_cases hN0:N<0
 ·have hN1:inR (N/12) 1800 2347=false:=by simp[inR];omega
  have HR:Hid (R= -1):=by show _=_;rw[HA2.out,hN1];rfl
  clear hN1
  go_wp2_with fail
  go_ret2
  exact⟨0,false,by simp,fun _=>HR.out,Ret.of rfl Bw⟩
 ·have hN1:0<=N:=by omega
  have hq0:0<=N/12:=by omega
  obtain⟨mm,hmm⟩: ∃mm:Nat,(mm:Int)=N%12+1:=⟨(N%12+1).toNat,by omega⟩
  have hmm1:1<=mm:=by omega
  have hmm2:mm<=12:=by omega
  have ht:(N%12+1).toNat=mm:=by omega
  have HA3:Hid (R=if !inR (N/12) 1800 2347 then-1 else if isDayP (firstP (N/12) mm+min X (monthDaysP (N/12) mm)-1)then firstP (N/12) mm+min X (monthDaysP (N/12) mm)-1 else-1):=by
   show _=_
   rw[HA2.out,ht,<-hmm]
  have k5:IntKind.i64.wrap (N%12+1)=(mm:Int):=by rw[hmm];exact IntWalk.i64_in _ (by omega)
  obtain⟨Y,hY⟩: ∃Y,N/12=Y:=⟨_,rfl⟩
  rw[hY]at HA3
  have hY1:Y<=10000:=by omega
  have hq1:0<=Y:=by omega
  clear HA2 ht
  have HMM:=Lib.hid hmm
  clear hmm
  cases hin:inR Y 1800 2347
  ·have HR:Hid (R= -1):=by show _=_;rw[HA3.out,hin];rfl
   go_wp2_with (go_at_call 60;refine(rwithin_any _ _ _ _).mono ?_;rintro e wq ⟨rfl,rfl⟩;rw[hin])
   all_goals go_ret2
   all_goals exact⟨0,false,by simp,fun _=>HR.out,Ret.of rfl Bw⟩
  ·have hYr:1800<=Y/\Y<=2347:=by simpa[inR]using hin
   obtain⟨f1,f2⟩:=days_pos Y hmm1 hmm2
   have hfb:=first_bounds (m:=mm) hYr.1 (by omega) hmm1 (by omega)
   have HR:Hid (R=if isDayP (firstP Y mm+min X (monthDaysP Y mm)-1)then firstP Y mm+min X (monthDaysP Y mm)-1 else-1):=by show _=_;rw[HA3.out,hin];rfl
   have HLW:Hid (∀W,Below w.heap.size w W->LensIn W):=fun W h=>hL.keep h
   clear HA3 hL
   go_upto_region 6 with(go_at_call 60;refine(rwithin_any _ _ _ _).mono ?_;rintro e wq ⟨rfl,rfl⟩;rw[hin])
   have HLg:=Lib.hid (fun W (hW:Below w.heap.size w W)=>length_any Y mm W (HLW.out _ hW) hq1 (by omega) hmm1 hmm2)
   have HDy:=Lib.hid (fun d W (hW:Below w.heap.size w W) (hd0:0<=d) (hd1:d<=1000)=>dayOf_any Y mm d W (HLW.out _ hW) hYr.1 (by omega) hmm1 hmm2 hd0 hd1)
   generalize monthDaysP Y mm=L at*
   clear hfb
   refine wp_region_ext_lit (by kernel_rfl) (by kernel_rfl) ?_
   repeat(first|go_big_quiet_skip|(go_big_quiet_want;go_big_quiet_op;first|go_big_quiet_on|(apply Exists.intro;refine⟨fun _=> ?_,?_⟩;(first|(go_at_call 93;exact quietx0 (HLg.out _ Bw))|(go_at_call 92;exact quietx0 (HDy.out _ _ Bw (by omega) (by omega))));go_big_quiet_on)))
   refine wpQuiet_nil ?_
   rintro _ ⟨zq,rfl⟩
   generalize hO:firstP Y mm+min X L-1=out at*
   have HO:=Lib.hid hO
   clear hO HLg HDy HLW
   cases hd:isDayP out
   ·have HD2:=Lib.hid hd
    go_wp2_with (go_at_call 59;refine(risDay_any _ _).mono ?_;rintro e wq ⟨rfl,rfl⟩;rw[hd])
    go_ret2
    exact⟨out,false,by simp,fun _=>by rw[HR.out,HD2.out];rfl,Ret.of rfl Bw⟩
   ·have HD2:=Lib.hid hd
    go_wp2_with (go_at_call 59;refine(risDay_any _ _).mono ?_;rintro e wq ⟨rfl,rfl⟩;rw[hd])
    go_ret2
    refine⟨out,true,fun _=>⟨by rw[HR.out,HD2.out];rfl,?_⟩,by simp,Ret.of rfl Bw⟩
    have h:=HD2.out
    simp[isDayP,inR]at h
    omega
end Go.Proofs.YtkhkhnellekofaaGreatDoor
namespace Go.Proofs.YtkhkhnellekofaaGreatDoor
open Go.RowKit
def seenQ (q:Rat):Rat:=if bigQ q then 0 else q
theorem seen_big (q:Rat):bigQ (seenQ q)=false:=by
 unfold seenQ
 cases h:bigQ q
 ·simpa using h
 ·simp[bigQ]
theorem seen_nonneg {q:Rat} (h:0<=q):0<=seenQ q:=by
 unfold seenQ
 split
 ·exact Rat.le_refl
 ·exact h
theorem seen_le {q:Rat} (h:0<=q):seenQ q<=q:=by
 unfold seenQ
 split
 ·exact h
 ·exact Rat.le_refl
theorem seen_of {q:Rat} (h:bigQ q=false):seenQ q=q:=by simp[seenQ,h]
def gain1 (own:Rat) (p:ByteArray×Rat) (x:Parts×Bool):Parts×Bool:=
 (setP x.1 p.1 (seenQ (shareP x.1 p.1+seenQ (own*p.2))),x.2||bigQ (own*p.2)||bigQ (shareP x.1 p.1+seenQ (own*p.2)))
def gainF (own:Rat):Parts->Parts×Bool->Parts×Bool
 | [],x=>x
 |p::l,x=>gainF own l (gain1 own p x)
theorem gainF_append (own:Rat): ∀(a b:Parts) (x:Parts×Bool),gainF own (a++b) x=gainF own b (gainF own a x)
 | [],_,_=>rfl
 |p::a,b,x=>gainF_append own a b _
theorem gain_mark {own:Rat}: ∀ {l:Parts} {x:Parts×Bool},x.2=true->(gainF own l x).2=true
 | [],_,h=>h
 |p::l,x,h=>gain_mark (l:=l) (by simp[gain1,h])
theorem set_good {l:Parts} (h:GoodParts l) {n:ByteArray} {q:Rat} (hq:0<=q):GoodParts (setP l n q):=by
 by_cases h0:q=0
 ·subst h0
  rw[set_zero h.asc]
  exact without_good h
 ·refine⟨set_asc h.asc n q,fun p hp=> ?_⟩
  rcases set_mem hp with rfl|hp
  ·show 0<q
   grind
  ·exact h.pos p hp
theorem sum_set {l:Parts} (h:GoodParts l) (n:ByteArray) (q:Rat):sumQ (setP l n q)=sumQ l-shareP l n+q:=by
 have hw:=without_sum (n:=n) h
 rw[set_keeps h.asc]
 by_cases hq:q==0
 ·rw[if_pos hq]
  have:q=0:=by simpa using hq
  subst this
  grind
 ·rw[if_neg hq,sum_given]
  grind
theorem small_set {l:Parts} {n:ByteArray} {q:Rat} (h:largeP l=false) (hq:bigQ q=false):largeP (setP l n q)=false:=by
 unfold largeP at*
 rw[List.any_eq_false]at*
 intro p hp
 rcases set_mem hp with rfl|hp
 ·simpa using hq
 ·exact h p hp
theorem len_set {n:ByteArray} {q:Rat}: ∀ {l:Parts},(setP l n q).length<=l.length+1
 | []=>by unfold setP;split<;>simp
 |x::l=>by
  unfold setP
  have:=len_set (n:=n) (q:=q) (l:=l)
  split
  ·simpa using this
  ·split
   ·split<;>simp<;>omega
   ·split<;>simp
theorem share_small {l:Parts} (n:ByteArray) (h:largeP l=false):bigQ (shareP l n)=false:=by
 unfold shareP
 cases hf:l.find? (fun p=>sameB p.1 n)with
 |none=>simp[bigQ]
 |some p=>
  unfold largeP at h
  rw[List.any_eq_false]at h
  simpa using h p (List.mem_of_find?_eq_some hf)
theorem share_le_sum {l:Parts} (h:GoodParts l) (n:ByteArray):shareP l n<=sumQ l:=by
 have h1:=without_sum (n:=n) h
 have h2:=sum_nonneg (l:=withoutP l n) fun p hp=>by have:=(without_good h (n:=n)).pos p hp;grind
 grind
theorem small_q {q:Rat} (h0:0<=q) (h1:q<=1) (hb:bigQ q=false):small5 q:=by
 unfold bigQ at hb
 have hd:=q.den_pos
 have hb2:(q.den:Int)<=1000000000:=by simpa using hb
 rw[Rat.le_iff]at h0 h1
 have h2:0<=q.num:=by simpa using h0
 have h3:q.num<=(q.den:Int):=by simpa using h1
 exact⟨by omega,by omega⟩
structure Bd (out:Parts) (t:Rat):Prop where
 good:GoodParts out
 small:largeP out=false
 le:sumQ out<=t
theorem Bd.share {out:Parts} {t:Rat} (h:Bd out t) (ht:t<=1) (n:ByteArray):small5 (shareP out n):=
 small_q (share_nonneg h.good n) (by have:=share_le_sum h.good n;have:=h.le;grind) (share_small n h.small)
theorem Bd.set {out:Parts} {t g:Rat} (h:Bd out t) (n:ByteArray) (hg:0<=g):Bd (setP out n (seenQ (shareP out n+g))) (t+g):=by
 have hs:=share_nonneg h.good n
 have h1:0<=shareP out n+g:=by grind
 refine⟨set_good h.good (seen_nonneg h1),small_set h.small (seen_big _),?_⟩
 rw[sum_set h.good]
 have:=seen_le h1
 have:=h.le
 grind
theorem Bd.gain {own:Rat} {out:Parts} {t:Rat} {p:ByteArray×Rat} {f:Bool} (h:Bd out t) (ho:0<=own) (hp:0<=p.2):Bd (gain1 own p (out,f)).1 (t+own*p.2):=by
 have hm:0<=own*p.2:=Rat.mul_nonneg ho hp
 have h1:=h.set p.1 (seen_nonneg hm)
 have h2:=seen_le hm
 exact⟨h1.good,h1.small,by have:=h1.le;grind [gain1]⟩
theorem set_seen {out:Parts} (h:GoodParts out) {n:ByteArray} {g:Rat} (hg:0<=g) (hb:bigQ (shareP out n+g)=false):setP out n (seenQ (shareP out n+g))=givenP out n g:=by
 rw[seen_of hb,set_given h hg]
theorem given_has {n:ByteArray} {q:Rat}: ∀ {l:Parts},GoodParts l->0<q->(n,shareP l n+q)∈givenP l n q
 | [],_,hq=>by
   have:(q==0)=false:=by rw[beq_eq_false_iff_ne];grind
   simp[givenP,this,shareP,Rat.zero_add]
 |x::l,h,hq=>by
  have hq0:(q==0)=false:=by rw[beq_eq_false_iff_ne];grind
  have ht:GoodParts l:=⟨(List.pairwise_cons.1 h.asc).2,fun p hp=>h.pos p (by simp[hp])⟩
  rw[givenP,hq0]
  cases hl:lessN x.1 n
  ·cases hs:sameB x.1 n
   ·have hlt:lessN n x.1=true:=by
     rcases lessN_tri x.1 n with h1|h1|h1
     ·rw[hl]at h1;cases h1
     ·exact absurd h1 (same_ne.1 hs)
     ·exact h1
    have h0:shareP (x::l) n=0:=(share_none fun p hp=>by
     rcases List.mem_cons.1 hp with rfl|hp
     ·exact(lessN_ne hlt).symm
     ·exact(lessN_ne (lessN_trans hlt ((List.pairwise_cons.1 h.asc).1 p hp))).symm).1
    simp[h0,Rat.zero_add]
   ·rw[share_cons,hs]
    simp
  ·rw[share_cons,less_same hl]
   simp only[Bool.false_eq_true,if_false,if_true]
   exact List.mem_cons_of_mem _ (given_has ht hq)
theorem given_big {out:Parts} (h:GoodParts out) (hs:largeP out=false) {n:ByteArray} {g:Rat} (hg:0<=g):largeP (givenP out n g)=bigQ (shareP out n+g):=by
 by_cases h0:g=0
 ·subst h0
  have:givenP out n 0=out:=by cases out<;>simp[givenP]
  rw[this,hs,Rat.add_zero,share_small n hs]
 ·cases hb:bigQ (shareP out n+g)
  ·rw[<-set_given h hg]
   exact small_set hs hb
  ·unfold largeP
   rw[List.any_eq_true]
   exact⟨_,given_has h (by grind),hb⟩
theorem gain_same {own:Rat} (ho:0<=own): ∀ {l out:Parts},(∀p∈l,0<=p.2)->GoodParts out->largeP out=false->
 (∀o,gainGo own l out=some o->gainF own l (out,false)=(o,false))/\(gainGo own l out=none->(gainF own l (out,false)).2=true)
 | [],out,_,_,_=>by
   refine⟨fun o h=> ?_,fun h=> ?_⟩
   ·rw[gainGo]at h;cases h;rfl
   ·rw[gainGo]at h;cases h
 |p::l,out,hp,hg,hs=>by
  have hm:0<=own*p.2:=Rat.mul_nonneg ho (hp p (by simp))
  rw[gainGo]
  show(∀o,_=_->gainF own l (gain1 own p (out,false))=_)/\(_->(gainF own l (gain1 own p (out,false))).2=true)
  cases h1:bigQ (own*p.2)
  ·have hsq:seenQ (own*p.2)=own*p.2:=seen_of h1
   have hgl:=given_big hg hs (n:=p.1) hm
   rw[if_neg (by simp)]
   cases h2:bigQ (shareP out p.1+own*p.2)
   ·have e:gain1 own p (out,false)=(givenP out p.1 (own*p.2),false):=by
     unfold gain1
     simp only[hsq,h1,h2,Bool.or_self]
     rw[set_seen hg hm h2]
    rw[hgl,h2,if_neg (by simp),e]
    exact gain_same ho (fun q hq=>hp q (by simp[hq])) (given_good hm hg) (by rw[hgl,h2])
   ·rw[hgl,h2,if_pos rfl]
    refine⟨fun o h=>by(cases h),fun _=>gain_mark ?_⟩
    simp[gain1,hsq,h2]
  ·rw[if_pos rfl]
   refine⟨fun o h=>by(cases h),fun _=>gain_mark ?_⟩
   simp[gain1,h1]
theorem gain_bd {own:Rat} (ho:0<=own): ∀ {l out:Parts} {f:Bool} {t:Rat},(∀p∈l,0<=p.2)->Bd out t->Bd (gainF own l (out,f)).1 (t+own*sumQ l)
 | [],out,f,t,_,h=>by
   show Bd out (t+own*0)
   rw[Rat.mul_zero,Rat.add_zero]
   exact h
 |p::l,out,f,t,hp,h=>by
  have h1:=gain_bd ho (l:=l) (f:=(gain1 own p (out,f)).2) (fun q hq=>hp q (by simp[hq])) (h.gain (f:=f) ho (hp p (by simp)))
  have e:t+own*p.2+own*sumQ l=t+own*sumQ (p::l):=by rw[sumQ];grind
  rw[e]at h1
  exact h1
def transferF (hs:Parts) (frm:ByteArray) (tl:Parts):Parts×Bool:=
 gainF (shareP hs frm) tl (setP hs frm (seenQ (shareP hs frm*(1-sumQ tl))),bigQ (shareP hs frm*(1-sumQ tl)))
theorem transfer_same {hs tl:Parts} {frm:ByteArray} (hg:GoodParts hs) (hl:largeP hs=false) (hp: ∀p∈tl,0<=p.2) (h1:sumQ tl<=1):
 (if bigQ (shareP hs frm*(1-sumQ tl))then none else gainGo (shareP hs frm) tl (givenP (withoutP hs frm) frm (shareP hs frm*(1-sumQ tl))))=if(transferF hs frm tl).2 then none else some (transferF hs frm tl).1:=by
 have ho:=share_nonneg hg frm
 have hk:0<=shareP hs frm*(1-sumQ tl):=Rat.mul_nonneg ho (by grind)
 unfold transferF
 cases hb:bigQ (shareP hs frm*(1-sumQ tl))
 ·rw[seen_of hb,if_neg (by simp)]
  have e:setP hs frm (shareP hs frm*(1-sumQ tl))=givenP (withoutP hs frm) frm (shareP hs frm*(1-sumQ tl)):=by
   rw[set_keeps hg.asc]
   split
   ·rename_i h0
    have:shareP hs frm*(1-sumQ tl)=0:=by simpa using h0
    rw[this]
    cases withoutP hs frm<;>simp[givenP]
   ·rfl
  have hgs:=set_good hg (n:=frm) hk
  have hss:=small_set (n:=frm) hl hb
  obtain⟨g1,g2⟩:=gain_same ho hp hgs hss
  rw[e]at g1 g2⊢
  cases hx:gainGo (shareP hs frm) tl (givenP (withoutP hs frm) frm (shareP hs frm*(1-sumQ tl)))with
  |none=>rw[g2 hx,if_pos rfl]
  |some o=>rw[g1 o hx,if_neg (by simp)]
 ·rw[if_pos rfl,gain_mark rfl,if_pos rfl]
end Go.Proofs.YtkhkhnellekofaaGreatDoor
namespace Go.Proofs.YtkhkhnellekofaaGreatDoor
open Go.RowKit
def givesF (n:ByteArray) (f:Rat) (x:Parts×Bool):Parts×Bool:=
 (setP x.1 n (seenQ (shareP x.1 n+f)),x.2||bigQ (shareP x.1 n+f))
mutual
def linesF (part:Rat):List Tree->Parts×Bool->Parts×Bool
 | [],x=>x
 |t::l,x=>linesF part l (treeF part t x)
def treeF (part:Rat):Tree->Parts×Bool->Parts×Bool
 | .leaf n,x=>givesF n part x
 | .node l,x=>linesF (seenQ (part*(1/(l.length:Rat)))) l (x.1,x.2||bigQ (part*(1/(l.length:Rat))))
end
def divideF (l:List Tree) (f:Rat) (x:Parts×Bool):Parts×Bool:=
 linesF (seenQ (f*(1/(l.length:Rat)))) l (x.1,x.2||bigQ (f*(1/(l.length:Rat))))
theorem treeF_node (part:Rat) (l:List Tree) (x:Parts×Bool):treeF part (.node l) x=divideF l part x:=by rw[treeF,divideF]
theorem linesF_append (part:Rat): ∀(a b:List Tree) (x:Parts×Bool),linesF part (a++b) x=linesF part b (linesF part a x)
 | [],_,_=>by rw[List.nil_append,linesF]
 |t::a,b,x=>by rw[List.cons_append,linesF,linesF,linesF_append part a b]
def willF (s:St) (frm:ByteArray):Parts->Parts×Bool->Rat->(Parts×Bool)×Rat
 | [],x,rest=>(x,rest)
 |p::l,x,rest=>if ableP s p.1 frm then willF s frm l (givesF p.1 p.2 x) (rest-p.2)else willF s frm l x rest
def heirSpouse (s:St) (n:ByteArray):ByteArray:=if ableP s (spouseP s n) n then spouseP s n else⟨#[]⟩
def estateF (s:St) (law:Law) (n:ByteArray):Parts×Bool:=
 let y:=willF s n (willOf s n) ([],false) 1
 let sp:=heirSpouse s n
 let lines:=treesP s law.stems n (generations s) n
 if lines.isEmpty then givesF sp y.2 y.1 else
 if noB sp then divideF lines y.2 y.1 else
 divideF lines (y.2-y.2*Rat.divInt law.num law.den) (givesF sp (y.2*Rat.divInt law.num law.den) y.1)
mutual
theorem lines_mark {part:Rat}: ∀ {l:List Tree} {x:Parts×Bool},x.2=true->(linesF part l x).2=true
 | [],x,h=>by rw[linesF];exact h
 |t::l,x,h=>by rw[linesF];exact lines_mark (tree_mark h)
theorem tree_mark {part:Rat}: ∀ {t:Tree} {x:Parts×Bool},x.2=true->(treeF part t x).2=true
 | .leaf n,x,h=>by rw[treeF];simp[givesF,h]
 | .node l,x,h=>by rw[treeF];exact lines_mark (by simp[h])
end
theorem gives_ok {out:Parts} (h:GoodParts out) {n:ByteArray} {f:Rat} (hf:0<=f) (hb:bigQ (shareP out n+f)=false):givesF n f (out,false)=(givenP out n f,false):=by
 unfold givesF
 simp only[hb,Bool.or_self]
 rw[set_seen h hf hb]
theorem div_one (a:Rat) (n:Nat):a*(1/(n:Rat))=a/(n:Rat):=by
 rw[Rat.div_def,Rat.div_def,Rat.one_mul]
theorem div_nonneg5 {a:Rat} (h:0<=a) (n:Nat):0<=a*(1/(n:Rat)):=by
 rw[div_one]
 exact rat_div_nonneg h Rat.natCast_nonneg
mutual
theorem lines_same {each:Rat} (he:0<=each): ∀ {l:List Tree} {out:Parts},GoodParts out->largeP out=false->
 (∀o,spreadP each l out=some o->linesF each l (out,false)=(o,false))/\(spreadP each l out=none->(linesF each l (out,false)).2=true)
 | [],out,hg,hs=>by
   rw[spreadP,linesF]
   exact⟨fun o h=>by cases h;rfl,fun h=>by cases h⟩
 |t::l,out,hg,hs=>by
  obtain⟨h1,h2⟩:=tree_same he (t:=t) hg hs
  rw[spreadP,linesF]
  cases ht:treeP each t out with
  |none=>
   refine⟨fun o h=>by(cases h),fun _=>lines_mark (h2 ht)⟩
  |some o1=>
   rw[h1 o1 ht]
   obtain⟨g1,g2⟩:=tree_good he hg hs ht
   exact lines_same he g1 g2
theorem tree_same {each:Rat} (he:0<=each): ∀ {t:Tree} {out:Parts},GoodParts out->largeP out=false->
 (∀o,treeP each t out=some o->treeF each t (out,false)=(o,false))/\(treeP each t out=none->(treeF each t (out,false)).2=true)
 | .leaf n,out,hg,hs=>by
   rw[treeP,treeF,given_big hg hs he]
   cases hb:bigQ (shareP out n+each)
   ·rw[if_neg (by simp),gives_ok hg he hb]
    exact⟨fun o h=>by cases h;rfl,fun h=>by cases h⟩
   ·rw[if_pos rfl]
    refine⟨fun o h=>by(cases h),fun _=>by simp[givesF,hb]⟩
 | .node l,out,hg,hs=>by
   rw[treeP,treeF,div_one]
   cases hb:bigQ (each/(l.length:Rat))
   ·rw[if_neg (by simp),seen_of hb]
    exact lines_same (rat_div_nonneg he Rat.natCast_nonneg) hg hs
   ·rw[if_pos rfl]
    exact⟨fun o h=>by(cases h),fun _=>lines_mark (by simp)⟩
end
theorem given_zero (out:Parts) (n:ByteArray):givenP out n 0=out:=by cases out<;>simp[givenP]
theorem gives_zero {out:Parts} (h:GoodParts out) (hs:largeP out=false) (n:ByteArray):givesF n 0 (out,false)=(out,false):=by
 rw[gives_ok h Rat.le_refl (by rw[Rat.add_zero];exact share_small n hs),given_zero]
theorem seen_zero (k:Nat):seenQ (0*(1/(k:Rat)))=0/\bigQ (0*(1/(k:Rat)))=false:=by
 rw[Rat.zero_mul]
 exact⟨seen_of (by decide),by decide⟩
mutual
theorem lines_zero: ∀ {l:List Tree} {out:Parts},GoodParts out->largeP out=false->linesF 0 l (out,false)=(out,false)
 | [],out,_,_=>by rw[linesF]
 |t::l,out,hg,hs=>by rw[linesF,tree_zero hg hs,lines_zero hg hs]
theorem tree_zero: ∀ {t:Tree} {out:Parts},GoodParts out->largeP out=false->treeF 0 t (out,false)=(out,false)
 | .leaf n,out,hg,hs=>by rw[treeF,gives_zero hg hs]
 | .node l,out,hg,hs=>by
   rw[treeF,(seen_zero l.length).1,(seen_zero l.length).2]
   exact lines_zero hg hs
end
theorem divide_zero {l:List Tree} {out:Parts} (hg:GoodParts out) (hs:largeP out=false):divideF l 0 (out,false)=(out,false):=by
 rw[divideF,(seen_zero l.length).1,(seen_zero l.length).2]
 exact lines_zero hg hs
theorem will_same {s:St} {frm:ByteArray}: ∀ {l out:Parts} {rest:Rat},(∀p∈l,0<p.2)->(∀p∈l,IsN 720720 p.2)->GoodParts out->(∀p∈out,IsN 720720 p.2)->
 willF s frm l (out,false) rest=(((willGo s frm l out rest).1,false),(willGo s frm l out rest).2)
 | [],out,rest,_,_,_,_=>rfl
 |p::l,out,rest,hp,hN,hg,hn=>by
  have hl:=fun q (hq:q∈l)=>hp q (by simp[hq])
  have hNl:=fun q (hq:q∈l)=>hN q (by simp[hq])
  rw[willF,willGo]
  split
  ·have h0:0<=p.2:=by have:=hp p (by simp);grind
   have hgi:=given_isN (nm:=p.1) (hN p (by simp)) hn
   have hb:bigQ (shareP out p.1+p.2)=false:=by
    rw[<-given_big hg (small_of (by decide) (by decide) hn) h0]
    exact small_of (by decide) (by decide) hgi
   rw[gives_ok hg h0 hb]
   exact will_same hl hNl (given_good h0 hg) hgi
  ·exact will_same hl hNl hg hn
theorem isN_law {law:Law} (hl:isShareP 16 law.num law.den=true):(∃d:Nat,0<d/\d<=16/\IsN d (Rat.divInt law.num law.den))/\0<=Rat.divInt law.num law.den/\Rat.divInt law.num law.den<=1:=by
 refine⟨?_,(share_rat hl).2.2⟩
 have hd:=hl
 unfold isShareP at hd
 simp only[Bool.and_eq_true,decide_eq_true_eq]at hd
 refine⟨law.den.toNat,by omega,by omega,law.num,?_⟩
 have hz:(law.den:Rat)≠0:=ratI (by omega)
 have e:((law.den.toNat:Nat):Rat)=(law.den:Rat):=by rw[<-Rat.intCast_natCast,Int.toNat_of_nonneg (by omega)]
 rw[Rat.divInt_eq_div,e]
 grind
theorem isN_small {n:Nat} (h0:0<n) (h1:n<=1000000000) {q:Rat} (h:IsN n q):bigQ q=false:=by
 have:=isN_den h0 h
 unfold bigQ
 simp
 omega
theorem estate_same {s:St} {law:Law} {n:ByteArray} (hw:WillOk (willOf s n)) (hl:isShareP 16 law.num law.den=true):
 (∀o,estateP s law n=some o->(estateF s law n)=(o,false))/\(estateP s law n=none->(estateF s law n).2=true):=by
 have hws:=will_same (s:=s) (frm:=n) (rest:=1) hw.pos hw.isN good_nil (by simp)
 have hg:=will_go (s:=s) (frm:=n) (out:=[]) (rest:=1) hw.pos hw.isN hw.le good_nil (by simp) (isN_one _)
 unfold estateP estateF heirSpouse
 rw[hws]
 generalize willGo s n (willOf s n) [] 1=q at*
 obtain⟨out,rest⟩:=q
 dsimp only at*
 obtain⟨g1,g2,g3,g4,g5⟩:=hg
 have gs:largeP out=false:=small_of (by decide) (by decide) g2
 obtain⟨⟨ld,ld0,ld1,l1⟩,l2,l3⟩:=isN_law hl
 generalize Rat.divInt law.num law.den=la at*
 generalize(if ableP s (spouseP s n) n=true then spouseP s n else⟨#[]⟩)=sp at*
 generalize treesP s law.stems n (generations s) n=tr at*
 by_cases hr:rest=0
 ·subst hr
  have hz:(0:Rat)-0=0:=by grind
  simp only[Rat.zero_mul,hz,beq_self_eq_true,if_true]
  refine⟨fun o h=> ?_,fun h=>by cases h⟩
  cases h
  split
  ·exact gives_zero g1 gs sp
  ·split
   ·exact divide_zero g1 gs
   ·rw[gives_zero g1 gs,divide_zero g1 gs]
 ·have hr0:(rest==0)=false:=by simpa using hr
  have hrp:0<rest:=by grind
  simp only[hr0,Bool.false_eq_true,if_false]
  cases he:tr.isEmpty
  ·simp only[Bool.false_eq_true,if_false]
   have hdiv: ∀ {x:Parts} {r:Rat},GoodParts x->largeP x=false->0<=r->
    (∀o,(if bigQ (r/(tr.length:Rat))=true then none else spreadP (r/(tr.length:Rat)) tr x)=some o->divideF tr r (x,false)=(o,false))/\((if bigQ (r/(tr.length:Rat))=true then none else spreadP (r/(tr.length:Rat)) tr x)=none->(divideF tr r (x,false)).2=true):=fun {x r} hx hxs hr'=>by
    rw[divideF,div_one]
    cases hb:bigQ (r/(tr.length:Rat))
    ·rw[if_neg (by simp),seen_of hb]
     exact lines_same (rat_div_nonneg hr' Rat.natCast_nonneg) hx hxs
    ·rw[if_pos rfl]
     exact⟨fun o h=>by(cases h),fun _=>lines_mark (by simp)⟩
   cases hn:noB sp
   ·simp only[Bool.false_eq_true,if_false]
    have ho0:0<=rest*la:=Rat.mul_nonneg g4 l2
    have ho1:rest*la<=rest:=by
     have:=Rat.mul_nonneg g4 (show 0<=1-la by grind)
     grind
    have hb:bigQ (shareP out sp+rest*la)=false:=by
     have h1:IsN (720720*ld) (shareP out sp+rest*la):=by
      refine isN_add (isN_up ?_) (isN_mul g3 l1)
      unfold shareP
      cases hf:out.find? (fun p=>sameB p.1 sp)with
      |none=>exact isN_zero _
      |some p=>exact g2 p (List.mem_of_find?_eq_some hf)
     exact isN_small (by omega) (by omega) h1
    rw[gives_ok g1 ho0 hb]
    have hg2:=given_good (n:=sp) ho0 g1
    have hs2:largeP (givenP out sp (rest*la))=false:=by rw[given_big g1 gs ho0];exact hb
    by_cases hz:rest-rest*la=0
    ·rw[hz]
     simp only[beq_self_eq_true,if_true]
     exact⟨fun o h=>by cases h;exact divide_zero hg2 hs2,fun h=>by cases h⟩
    ·have hz2:(rest-rest*la==0)=false:=by simpa using hz
     simp only[hz2,Bool.false_eq_true,if_false]
     exact hdiv hg2 hs2 (by grind)
   ·simp only[if_true]
    have hz:rest-0=rest:=by grind
    simp only[hz,hr0,Bool.false_eq_true,if_false]
    exact hdiv g1 gs g4
  ·simp only[if_true]
   have hb:bigQ (shareP out sp+rest)=false:=by
    rw[<-given_big g1 gs g4]
    exact small_of (by decide) (by decide) (given_isN g3 g2)
   rw[gives_ok g1 g4 hb]
   exact⟨fun o h=>by cases h;rfl,fun h=>by cases h⟩
end Go.Proofs.YtkhkhnellekofaaGreatDoor
