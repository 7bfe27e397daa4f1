/- Plain: gains as the program's counter reckons them, with its mark. -/
import Derived.Shelf.Small.Strs
import Derived.Shelf.SlicesE.Clone
import Derived.Shelf.SlicesE.Index
import Derived.Shelf.SlicesQ.Contains
import Derived.Shelf.Spec.TrailingZeros
import Derived.Test.YtmaidggpbihlgaaGreatDoorJ0
import Derived.Test.YtmaidggpbihlgaaGreatDoorO0
import Derived.Test.YtmaidggpbihlgaaGreatDoorJ6
set_option linter.unusedSimpArgs false
set_option linter.unusedVariables false
namespace Go.Proofs.YtmaidggpbihlgaaGreatDoor
open Go.RowKit Go.Shelf
def cmpStr_ren:Go.Shelf.Ren:=⟨fun|106=>76|213=>125|265=>166|n=>n,fun|9=>9|3=>3|n=>n,fun|n=>n⟩
theorem cmpStr:Go.Proofs.Lays.n106 Tryz.prog cmpStr_ren:= {
 mixed:=by kernel_rfl
 f106:=Tryz.func76.trans (congrArg some (by kernel_rfl))
 f213:=Tryz.func125.trans (congrArg some (by kernel_rfl))
 f265:=Tryz.func166.trans (congrArg some (by kernel_rfl))
 t3:=Tryz.underlying3
 a3:=Tryz.isAgg3
 z3:=Tryz.sizeOf3
 v3:=Tryz.zeroValue3
 t9:=Tryz.underlying9
 a9:=Tryz.isAgg9
 z9:=Tryz.sizeOf9
 v9:=Tryz.zeroValue9}
def clPart_ren:Go.Shelf.Ren:=⟨fun|41=>87|n=>n,fun|22=>41|23=>49|4=>4|n=>n,fun|n=>n⟩
theorem clPart:Go.Proofs.SlLaysE0.n41 Tryz.prog clPart_ren:= {
 mixed:=by kernel_rfl
 f41:=⟨Tryz.f87.name,by decide,Tryz.func87.trans (congrArg some (by kernel_rfl))⟩
 t4:=Tryz.underlying4
 a4:=Tryz.isAgg4
 z4:=Tryz.sizeOf4
 v4:=Tryz.zeroValue4
 t22:=Tryz.underlying41
 a22:=Tryz.isAgg41
 z22:=Tryz.sizeOf41
 v22:=Tryz.zeroValue41}
def clStr_ren:Go.Shelf.Ren:=⟨fun|41=>134|n=>n,fun|22=>33|23=>9|4=>4|n=>n,fun|n=>n⟩
theorem clStr:Go.Proofs.SlLaysE0.n41 Tryz.prog clStr_ren:= {
 mixed:=by kernel_rfl
 f41:=⟨Tryz.f134.name,by decide,Tryz.func134.trans (congrArg some (by kernel_rfl))⟩
 t4:=Tryz.underlying4
 a4:=Tryz.isAgg4
 z4:=Tryz.sizeOf4
 v4:=Tryz.zeroValue4
 t22:=Tryz.underlying33
 a22:=Tryz.isAgg33
 z22:=Tryz.sizeOf33
 v22:=Tryz.zeroValue33}
def coStr_ren:Go.Shelf.Ren:=⟨fun|31=>49|29=>92|n=>n,fun|22=>33|23=>9|4=>4|3=>3|0=>0|n=>n,fun|n=>n⟩
theorem coStr:Go.Proofs.SlLaysE.n31 Tryz.prog coStr_ren:= {
 mixed:=by kernel_rfl
 f29:=⟨Tryz.f92.name,by decide,Tryz.func92.trans (congrArg some (by kernel_rfl))⟩
 f31:=⟨Tryz.f49.name,by decide,Tryz.func49.trans (congrArg some (by kernel_rfl))⟩
 t0:=Tryz.underlying0
 a0:=Tryz.isAgg0
 z0:=Tryz.sizeOf0
 v0:=Tryz.zeroValue0
 t3:=Tryz.underlying3
 a3:=Tryz.isAgg3
 z3:=Tryz.sizeOf3
 v3:=Tryz.zeroValue3
 t4:=Tryz.underlying4
 a4:=Tryz.isAgg4
 z4:=Tryz.sizeOf4
 v4:=Tryz.zeroValue4
 t22:=Tryz.underlying33
 a22:=Tryz.isAgg33
 z22:=Tryz.sizeOf33
 v22:=Tryz.zeroValue33
 a23:=Tryz.isAgg9
 z23:=Tryz.sizeOf9}
def coPair_ren:Go.Shelf.Ren:=⟨fun|7=>90|6=>136|n=>n,fun|22=>32|24=>149|4=>4|0=>0|3=>3|n=>n,fun|n=>n⟩
theorem coPair:Go.Proofs.SlLaysQ.n7 Tryz.prog coPair_ren:= {
 mixed:=by kernel_rfl
 f6:=⟨Tryz.f136.name,by decide,Tryz.func136.trans (congrArg some (by kernel_rfl))⟩
 f7:=⟨Tryz.f90.name,by decide,Tryz.func90.trans (congrArg some (by kernel_rfl))⟩
 t0:=Tryz.underlying0
 a0:=Tryz.isAgg0
 z0:=Tryz.sizeOf0
 v0:=Tryz.zeroValue0
 t3:=Tryz.underlying3
 a3:=Tryz.isAgg3
 z3:=Tryz.sizeOf3
 v3:=Tryz.zeroValue3
 t4:=Tryz.underlying4
 a4:=Tryz.isAgg4
 z4:=Tryz.sizeOf4
 v4:=Tryz.zeroValue4
 t22:=Tryz.underlying32
 a22:=Tryz.isAgg32
 z22:=Tryz.sizeOf32
 v22:=Tryz.zeroValue32}
def tzBits_ren:Go.Shelf.Ren:=⟨fun|27=>94|28=>137|29=>138|n=>n,fun|25=>154|3=>3|27=>180|22=>182|4=>4|53=>211|0=>0|5=>5|54=>212|n=>n,fun|0=>2|1=>3|n=>n⟩
theorem tzBits:Go.Proofs.Lays7.n27 Tryz.prog tzBits_ren:= {
 mixed:=by kernel_rfl
 f27:=Tryz.func94.trans (congrArg some (by kernel_rfl))
 f28:=Tryz.func137.trans (congrArg some (by kernel_rfl))
 f29:=Tryz.func138.trans (congrArg some (by kernel_rfl))
 t0:=Tryz.underlying0
 a0:=Tryz.isAgg0
 z0:=Tryz.sizeOf0
 v0:=Tryz.zeroValue0
 i0:=by kernel_rfl
 t3:=Tryz.underlying3
 a3:=Tryz.isAgg3
 z3:=Tryz.sizeOf3
 v3:=Tryz.zeroValue3
 i3:=by kernel_rfl
 t4:=Tryz.underlying4
 a4:=Tryz.isAgg4
 z4:=Tryz.sizeOf4
 v4:=Tryz.zeroValue4
 i4:=by kernel_rfl
 t5:=Tryz.underlying5
 a5:=Tryz.isAgg5
 z5:=Tryz.sizeOf5
 v5:=Tryz.zeroValue5
 i5:=by kernel_rfl
 t22:=Tryz.underlying182
 a22:=Tryz.isAgg182
 z22:=Tryz.sizeOf182
 v22:=Tryz.zeroValue182
 i22:=by kernel_rfl
 t25:=Tryz.underlying154
 a25:=Tryz.isAgg154
 z25:=Tryz.sizeOf154
 v25:=Tryz.zeroValue154
 i25:=by kernel_rfl
 t27:=Tryz.underlying180
 a27:=Tryz.isAgg180
 z27:=Tryz.sizeOf180
 v27:=Tryz.zeroValue180
 i27:=by kernel_rfl
 t53:=Tryz.underlying211
 a53:=Tryz.isAgg211
 z53:=Tryz.sizeOf211
 v53:=Tryz.zeroValue211
 i53:=by kernel_rfl
 t54:=Tryz.underlying212
 a54:=Tryz.isAgg212
 z54:=Tryz.sizeOf212
 g0:=by kernel_rfl
 g1:=by kernel_rfl}
end Go.Proofs.YtmaidggpbihlgaaGreatDoor
namespace Go.Proofs.YtmaidggpbihlgaaGreatDoor
open Go.RowKit
theorem leaps_div {y:Int} (h:0<=y):leapsP y=y/4-y/100+y/400:=by
 unfold leapsP
 rw[Int.tdiv_eq_ediv_of_nonneg h,Int.tdiv_eq_ediv_of_nonneg h,Int.tdiv_eq_ediv_of_nonneg h]
theorem leap_mod {y:Int} (h:0<=y):leapP y=((y%4==0&&y%100 != 0)||y%400==0):=by
 unfold leapP
 rw[Int.tmod_eq_emod_of_nonneg h,Int.tmod_eq_emod_of_nonneg h,Int.tmod_eq_emod_of_nonneg h]
def leapQ (y:Int):Bool:=y.tmod 4==0&&(y.tmod 100 != 0||y.tmod 400==0)
theorem leapQ_eq {y:Int} (h:0<=y):leapQ y=leapP y:=by
 rw[leap_mod h]
 unfold leapQ
 rw[Int.tmod_eq_emod_of_nonneg h,Int.tmod_eq_emod_of_nonneg h,Int.tmod_eq_emod_of_nonneg h,Bool.eq_iff_iff]
 simp only[Bool.and_eq_true,Bool.or_eq_true,beq_iff_eq,bne_iff_ne]
 omega
def begP (y:Int):Int:=365*(y-1800)+leapsP (y-1)-436
theorem first_one (y:Int):firstP y 1=begP y:=by
 unfold firstP begP
 simp[monthsGo]
theorem beg_up {y:Int} (h:1800<=y):begP (y+1)=begP y+365+(if leapP y then 1 else 0):=by
 unfold begP
 rw[leaps_div (by omega),leaps_div (by omega),leap_mod (by omega)]
 have e:y+1-1=y:=by omega
 rw[e]
 split
 ·rename_i hl
  simp only[Bool.or_eq_true,Bool.and_eq_true,beq_iff_eq,bne_iff_ne]at hl
  omega
 ·rename_i hl
  simp only[Bool.or_eq_true,Bool.and_eq_true,beq_iff_eq,bne_iff_ne]at hl
  omega
theorem beg_low {day:Int} (h0:0<=day) (h1:day<=200000):begP (1800+day.tdiv 366)<=day:=by
 unfold begP
 rw[Int.tdiv_eq_ediv_of_nonneg h0,leaps_div (by omega)]
 omega
theorem beg_high {day:Int} (h0:0<=day) (h1:day<=200000):day<begP (1800+day.tdiv 366+10+1):=by
 unfold begP
 rw[Int.tdiv_eq_ediv_of_nonneg h0,leaps_div (by omega)]
 omega
theorem days_get (y:Int) {m:Nat} (h1:1<=m) (h2:m<=12):monthDaysP y m=if(m:Int)==2&&leapP y then 29 else[31,28,31,30,31,30,31,31,30,31,30,31].getD (m-1) 0:=by
 unfold monthDaysP
 have:m=1\/m=2\/m=3\/m=4\/m=5\/m=6\/m=7\/m=8\/m=9\/m=10\/m=11\/m=12:=by omega
 rcases this with rfl|rfl|rfl|rfl|rfl|rfl|rfl|rfl|rfl|rfl|rfl|rfl<;>rfl
theorem days_pos (y:Int) {m:Nat} (h1:1<=m) (h2:m<=12):28<=monthDaysP y m/\monthDaysP y m<=31:=by
 rw[days_get y h1 h2]
 have:m=1\/m=2\/m=3\/m=4\/m=5\/m=6\/m=7\/m=8\/m=9\/m=10\/m=11\/m=12:=by omega
 rcases this with rfl|rfl|rfl|rfl|rfl|rfl|rfl|rfl|rfl|rfl|rfl|rfl<;>simp<;>split<;>simp
theorem first_up (y:Int) {m:Nat} (h:1<=m):firstP y (m+1)=firstP y m+monthDaysP y m:=by
 obtain⟨k,rfl⟩: ∃k,m=k+1:=⟨m-1,by omega⟩
 unfold firstP
 simp only[Nat.add_sub_cancel,monthsGo]
 have:((k+1:Nat):Int)=(k:Int)+1:=by omega
 rw[this]
 omega
theorem first_year {y:Int} (h:1800<=y):firstP (y+1) 1=firstP y 12+monthDaysP y 12:=by
 rw[first_one,beg_up h,<-first_one,show(12:Int)=((12:Nat):Int) by rfl,<-first_up y (by omega)]
 unfold firstP
 have e:monthsGo y (12+1-1)=365+(if leapP y then 1 else 0):=by
  simp only[monthsGo,monthDaysP,lensP]
  cases leapP y<;>simp
 rw[e]
 simp[monthsGo]
 omega
structure DateIs (day y:Int) (m:Nat):Prop where
 y0:1800<=y
 y1:y<=2400
 m0:1<=m
 m1:m<=12
 lo:firstP y m<=day
 hi:day<firstP y m+monthDaysP y m
theorem year_step {day:Int} {f:Nat} {y:Int} (h:firstP (y+1) 1<=day):yearGo day (f+1) y=yearGo day f (y+1):=by
 rw[yearGo,if_pos (by simpa using h)]
theorem year_stop {day:Int} {y:Int} (h: ¬firstP (y+1) 1<=day): ∀f,yearGo day f y=y
 |0=>rfl
 |f+1=>by rw[yearGo,if_neg (by simpa using h)]
theorem month_step {day y:Int} {f m:Nat} (hm:m<12) (h:firstP y (m+1)<=day):monthGo day y (f+1) m=monthGo day y f (m+1):=by
 rw[monthGo,if_pos (by simp[hm,h])]
theorem month_stop {day y:Int} {m:Nat} (h: ¬(m<12/\firstP y (m+1)<=day)): ∀f,monthGo day y f m=m
 |0=>rfl
 |f+1=>by rw[monthGo,if_neg (by simpa using h)]
end Go.Proofs.YtmaidggpbihlgaaGreatDoor
namespace Go.Proofs.YtmaidggpbihlgaaGreatDoor
open Go.RowKit Go.Shelf
attribute [local go_sem] World.cell?_alloc_mark ext_size ext_cell ext_frozen lt_add_r lt_add_r2 lt_add_r3 lt_add_r4 lt_add_r5 lt_add_r6 lt_add_r7 lt_add_r8
attribute [local go_sem] ext_setCell alloc_setCell_lt
def lens12:List Int:=[31,28,31,30,31,30,31,31,30,31,30,31]
def LensIn (w:World):Prop:=4<w.heap.size/\ ∀(k:Nat) (n:Int),lens12[k]?=some n->w.cell? ⟨4,k,none⟩=some (.int .i64 n)
theorem LensIn.keep {w W:World} {n:Nat} (h:LensIn w) (hB:Below n w W) (hn:w.heap.size<=n:=by first|exact Nat.le_refl _|omega):LensIn W:=
 ⟨Nat.lt_of_lt_of_le h.1 hB.size,fun k x hx=>(hB.cell (p:=⟨4,_,none⟩) (Nat.lt_of_lt_of_le h.1 hn)).trans (h.2 k x hx)⟩
set_option maxRecDepth 100000 in
set_option maxHeartbeats 2000000 in
theorem rwithin_any (n lo hi:Int) (w:World):Calls Tryz.prog 184 #[.int .i64 n, .int .i64 lo, .int .i64 hi] w (Ret0 w (.bool (inR n lo hi))):=by
 go_enter Tryz.func184,Tryz.ntmps184
 go_wp2_with fail
 all_goals go_ret
 all_goals exact⟨by first|(simp_all[inR];done)|(simp_all[inR];omega),rfl⟩
set_option maxRecDepth 100000 in
set_option maxHeartbeats 2000000 in
theorem risDay_any (n:Int) (w:World):Calls Tryz.prog 183 #[.int .i64 n] w (Ret0 w (.bool (isDayP n))):=by
 go_enter Tryz.func183,Tryz.ntmps183
 go_wp2_with (go_at_call 184;refine(rwithin_any _ _ _ _).mono ?_;rintro e wq ⟨rfl,rfl⟩)
 go_ret
 exact⟨rfl,rfl⟩
set_option maxRecDepth 100000 in
set_option maxHeartbeats 2000000 in
theorem isLeap_any (y:Int) (w:World) (h0:0<=y) (h1:y<=100000):Calls Tryz.prog 206 #[.int .i64 y] w (Ret0 w (.bool (leapP y))):=by
 rw[<-leapQ_eq h0]
 have w1:wrap64 (y.tmod 4)=y.tmod 4:=by rw[Int.tmod_eq_emod_of_nonneg h0];unfold wrap64;omega
 have w2:wrap64 (y.tmod 100)=y.tmod 100:=by rw[Int.tmod_eq_emod_of_nonneg h0];unfold wrap64;omega
 have w3:wrap64 (y.tmod 400)=y.tmod 400:=by rw[Int.tmod_eq_emod_of_nonneg h0];unfold wrap64;omega
 have v1:IntKind.i64.wrap (y.tmod 4)=y.tmod 4:=by rw[IntKind.wrap_i64];rw[Int.tmod_eq_emod_of_nonneg h0];omega
 have v2:IntKind.i64.wrap (y.tmod 100)=y.tmod 100:=by rw[IntKind.wrap_i64];rw[Int.tmod_eq_emod_of_nonneg h0];omega
 have v3:IntKind.i64.wrap (y.tmod 400)=y.tmod 400:=by rw[IntKind.wrap_i64];rw[Int.tmod_eq_emod_of_nonneg h0];omega
 go_enter Tryz.func206,Tryz.ntmps206
 go_wp2_with fail
 all_goals go_ret
 all_goals exact⟨by simp[leapQ,Int.tmod_eq_emod_of_nonneg h0, *],rfl⟩
set_option maxRecDepth 100000 in
set_option maxHeartbeats 2000000 in
theorem length_any (y:Int) (m:Nat) (w:World) (hL:LensIn w) (h0:0<=y) (h1:y<=100000) (hm1:1<=m) (hm2:m<=12):Calls Tryz.prog 201 #[.int .i64 y, .int .i64 m] w (Ret0 w (.int .i64 (monthDaysP y m))):=by
 have hd:=days_get y hm1 hm2
 have hlt:m-1<lens12.length:=by simp[lens12];omega
 have hc:=hL.2 (m-1) _ (List.getElem?_eq_getElem hlt)
 have hg:lens12.getD (m-1) 0=lens12[m-1]:=by rw[List.getD_eq_getElem?_getD,List.getElem?_eq_getElem hlt];rfl
 have hg2:[31,28,31,30,31,30,31,31,30,31,30,31].getD (m-1) 0=lens12[m-1]:=hg
 rw[hg2]at hd
 generalize lens12[m-1]=len at hc hd
 have hw:IntKind.i64.wrap ((m:Int)-1)=(m:Int)-1:=IntWalk.i64_in _ (by omega)
 have hn0:(0:Int)<=(m:Int)-1:=by omega
 have hn1:(m:Int)-1<12:=by omega
 have htn:((m:Int)-1).toNat=m-1:=by omega
 have HD:=Lib.hid hd
 clear hd hg hg2 hL hlt
 by_cases h2:m=2
 ·subst h2
  cases hl:leapP y
  ·go_enter Tryz.func201,Tryz.ntmps201
   go_wp2_with (go_at_call 206;refine(isLeap_any _ _ h0 h1).mono ?_;rintro e wq ⟨rfl,rfl⟩;rw[hl])
   all_goals go_ret
   all_goals exact⟨by rw[HD.out,hl];rfl,rfl⟩
  ·go_enter Tryz.func201,Tryz.ntmps201
   go_wp2_with (go_at_call 206;refine(isLeap_any _ _ h0 h1).mono ?_;rintro e wq ⟨rfl,rfl⟩;rw[hl])
   all_goals go_ret
   all_goals exact⟨by rw[HD.out,hl];rfl,rfl⟩
 ·have hb:((m:Int)==2)=false:=by rw[beq_eq_false_iff_ne];omega
  have hb2: ¬(m:Int)=2:=by omega
  go_enter Tryz.func201,Tryz.ntmps201
  go_wp2_with fail
  go_ret
  exact⟨by rw[HD.out,hb];simp,rfl⟩
set_option maxRecDepth 100000 in
set_option maxHeartbeats 2000000 in
theorem begin_any (y:Int) (w:World) (h0:1800<=y) (h1:y<=100000):Calls Tryz.prog 205 #[.int .i64 y] w (Ret0 w (.int .i64 (begP y))):=by
 have hp:0<=y-1:=by omega
 have e1:(y-1).tdiv 4=(y-1)/4:=Int.tdiv_eq_ediv_of_nonneg hp
 have e2:(y-1).tdiv 100=(y-1)/100:=Int.tdiv_eq_ediv_of_nonneg hp
 have e3:(y-1).tdiv 400=(y-1)/400:=Int.tdiv_eq_ediv_of_nonneg hp
 have hv:begP y=365*(y-1800)+(y-1)/4-(y-1)/100+(y-1)/400-436:=by unfold begP;rw[leaps_div hp];omega
 have HV:=Lib.hid hv
 clear hv
 have k0:IntKind.i64.wrap (y-1)=y-1:=IntWalk.i64_in _ (by omega)
 have k1:IntKind.i64.wrap (y-1800)=y-1800:=IntWalk.i64_in _ (by omega)
 have k2:IntKind.i64.wrap (365*(y-1800))=365*(y-1800):=IntWalk.i64_in _ (by omega)
 go_enter Tryz.func205,Tryz.ntmps205
 go_wp2_with fail
 go_ret
 refine⟨congrArg Ending.returned (int_eq ?_),rfl⟩
 rw[HV.out]
theorem first_bounds {y:Int} {m:Nat} (h0:1800<=y) (h1:y<=2500) (hm1:1<=m) (hm2:m<=13):0<=firstP y m/\firstP y m<=1000000:=by
 have hb:begP y=365*(y-1800)+(y-1)/4-(y-1)/100+(y-1)/400-436:=by unfold begP;rw[leaps_div (by omega)];omega
 have h: ∀k:Nat,k<=12->begP y<=firstP y (k+1)/\firstP y (k+1)<=begP y+31*k:=fun k=>by
  induction k with
  |zero=>intro _;rw[first_one];omega
  |succ k ih=>
   intro hk
   have:=ih (by omega)
   have h2:=first_up y (show 1<=k+1 by omega)
   have h3:=days_pos y (show 1<=k+1 by omega) (show k+1<=12 by omega)
   omega
 obtain⟨k,rfl⟩: ∃k,m=k+1:=⟨m-1,by omega⟩
 have:=h k (by omega)
 omega
set_option maxRecDepth 100000 in
set_option maxHeartbeats 2000000 in
theorem dayOf_any (y:Int) (m:Nat) (d:Int) (w:World) (hL:LensIn w) (h0:1800<=y) (h1:y<=2500) (hm1:1<=m) (hm2:m<=12) (hd1:0<=d) (hd2:d<=1000):
 Calls Tryz.prog 200 #[.int .i64 y, .int .i64 m, .int .i64 d] w (Ret0 w (.int .i64 (firstP y m+d-1))):=by
 have hbb:=first_bounds (m:=1) h0 h1 (by omega) (by omega)
 rw[first_one]at hbb
 have k0:IntKind.i64.wrap (begP y+d)=begP y+d:=IntWalk.i64_in _ (by omega)
 have k1:IntKind.i64.wrap (begP y+d-1)=begP y+d-1:=IntWalk.i64_in _ (by omega)
 go_enter Tryz.func200,Tryz.ntmps200
 go_wp2_with (go_at_call 205;refine(begin_any _ _ h0 (by omega)).mono ?_;rintro e wq ⟨rfl,rfl⟩)
 go_loop [7,8] (fun n i=> ∃k:Nat,1<=k/\k<=m/\i= .int .i64 k/\n= .int .i64 (firstP y k+d-1)) (fun _ i=>m-(intOf i).toNat)
 case atStart=>exact⟨1,by omega,hm1,rfl,by rw[first_one]⟩
 case round=>
  obtain⟨k,hk1,hk2,rfl,rfl⟩:=hrel
  by_cases hlt:k<m
  ·have hb:=first_bounds (m:=k) h0 h1 hk1 (by omega)
   have hdp:=days_pos y hk1 (show k<=12 by omega)
   have hu:=first_up y hk1
   have HU:=Lib.hid hu
   have k2:IntKind.i64.wrap (firstP y k+d-1+monthDaysP y k)=firstP y k+d-1+monthDaysP y k:=IntWalk.i64_in _ (by omega)
   have hlt2:(k:Int)<(m:Int):=by omega
   clear hu
   go_wp2_with (go_at_call 201;refine(length_any y k _ hL (by omega) (by omega) hk1 (by omega)).mono ?_;rintro e wq ⟨rfl,rfl⟩)
   go_round
   case rel=>exact⟨k+1,by omega,by omega,by go_num,by rw[HU.out];exact int_eq (by omega)⟩
   case measure=>simp[intOf];omega
  ·obtain rfl:k=m:=by omega
   have hlt2: ¬(k:Int)<(k:Int):=by omega
   go_wp2_with fail
   go_ret
   exact⟨rfl,rfl⟩
def dateV (y m d:Int):Value:= .agg #[.int .i64 y, .int .i64 m, .int .i64 d]
theorem results_date {fn:Func} {p:Tmp} (h:fn.results= #[.cell p 226]) (tmps:Array Value) (w:World) (B:Nat) (x y z:Int) (hp:tmps.getD p undef= .pointer (some ⟨B,0,none⟩))
 (h0:w.cell? ⟨B,0,none⟩=some (.int .i64 x)) (h1:w.cell? ⟨B,1,none⟩=some (.int .i64 y)) (h2:w.cell? ⟨B,2,none⟩=some (.int .i64 z)):(results fn tmps).run Tryz.prog w= .ok (dateV x y z) w:=by
 rw[results_c1 h,hp]
 unfold dateV
 go_simp
theorem J_set3 {w:World} {g:Nat} {z0 z1 z2 a b c:Value} {t:TypeId} {fr:Nat×Nat} (h:w.heap[g]?=some (.cells #[z0,z1,z2] t fr)):(((w.setCell ⟨g,0,none⟩ a).setCell ⟨g,1,none⟩ b).setCell ⟨g,2,none⟩ c).heap[g]?=some (.cells #[a,b,c] t fr):=by
 have:=Joins.block_setCell (i:=2) (Joins.block_setCell (i:=1) (Joins.block_setCell (i:=0) h a) b) c
 simpa using this
set_option maxRecDepth 100000 in
set_option maxHeartbeats 2000000 in
theorem dateOf_any (day:Int) (w:World) (hL:LensIn w) (h0:0<=day) (h1:day<=200000):
 Calls Tryz.prog 199 #[.int .i64 day] w (fun e w'=>DateIs day (yearP day) (monthP day)/\Ret w (dateV (yearP day) (monthP day) (day-firstP (yearP day) (monthP day)+1)) e w'):=by
 have hlow:=beg_low h0 h1
 have hhigh:=beg_high h0 h1
 have hdv:day.tdiv 366=day/366:=Int.tdiv_eq_ediv_of_nonneg h0
 have hq0:0<=day/366:=by omega
 have hq1:day/366<=546:=by omega
 rw[hdv]at hlow hhigh
 have hyp:yearP day=yearGo day 10 (1800+day/366):=by unfold yearP;rw[hdv]
 have HY:=Lib.hid hyp
 have HH:=Lib.hid hhigh
 clear hyp hhigh
 go_enter Tryz.func199,Tryz.ntmps199
 go_wp2_with fail
 go_loopg [] 10 (fun gg wr=> ∃(f:Nat) (y:Int),f<=gg/\y+f=1800+day/366+10/\1800<=y/\y<=2400/\Hid (yearP day=yearGo day f y)/\Hid (begP y<=day)/\Below w.heap.size w wr/\wr.heap[w.heap.size]?=some (.cells #[.int .i64 0, .int .i64 0, .int .i64 0] 226)/\wr.heap[w.heap.size+1]?=some (.cells #[.int .i64 y, .int .i64 1, .int .i64 0] 226))
 case atStart=>exact⟨10,1800+day/366,Nat.le_refl _,by omega,by omega,by omega,HY.out,hlow,Bw,J_alloc (J_new _ _ _ rfl),J_new _ _ _ (by simp)⟩
 case round=>
  obtain⟨f,y,hf,hyf,hy0,hy1,HYF,HBY,hB,g0,g1⟩:=hrel
  have a0:wr.cell? ⟨w.heap.size+1,0,none⟩=some (.int .i64 y):=by simp[World.cell?,g1]
  have a1:wr.cell? ⟨w.heap.size+1,1,none⟩=some (.int .i64 1):=by simp[World.cell?,g1]
  have a2:wr.cell? ⟨w.heap.size+1,2,none⟩=some (.int .i64 0):=by simp[World.cell?,g1]
  have z0:wr.frozen? ⟨w.heap.size+1,0,none⟩=false:=by simp[World.frozen?,g1]
  have z1:wr.frozen? ⟨w.heap.size+1,1,none⟩=false:=by simp[World.frozen?,g1]
  have z2:wr.frozen? ⟨w.heap.size+1,2,none⟩=false:=by simp[World.frozen?,g1]
  have b0:wr.cell? ⟨w.heap.size,0,none⟩=some (.int .i64 0):=by simp[World.cell?,g0]
  have b1:wr.cell? ⟨w.heap.size,1,none⟩=some (.int .i64 0):=by simp[World.cell?,g0]
  have b2:wr.cell? ⟨w.heap.size,2,none⟩=some (.int .i64 0):=by simp[World.cell?,g0]
  have x0:wr.frozen? ⟨w.heap.size,0,none⟩=false:=by simp[World.frozen?,g0]
  have x1:wr.frozen? ⟨w.heap.size,1,none⟩=false:=by simp[World.frozen?,g0]
  have x2:wr.frozen? ⟨w.heap.size,2,none⟩=false:=by simp[World.frozen?,g0]
  have e1:w.heap.size+1<wr.heap.size:=blk_lt g1
  have e0:w.heap.size<wr.heap.size:=blk_lt g0
  have hLr:=hL.keep hB
  have k0:IntKind.i64.wrap (y+1)=y+1:=IntWalk.i64_in _ (by omega)
  by_cases hc:begP (y+1)<=day
  ·have hf1:f≠0:=by
    rintro rfl
    have:=HH.out
    rw[show y=1800+day/366+10 by omega]at hc
    omega
   obtain⟨f',rfl⟩: ∃f',f=f'+1:=⟨f-1,by omega⟩
   have HN:Hid (yearP day=yearGo day f' (y+1)):=by
    show _=_
    rw[HYF.out,year_step (by rw[first_one];exact hc)]
   have HC:=Lib.hid hc
   go_wp2_with (go_at_call 205;refine(begin_any _ _ (by omega) (by omega)).mono ?_;rintro e wq ⟨rfl,rfl⟩)
   go_roundg f'
   case measure=>omega
   case rel=>
    refine⟨f',y+1,Nat.le_refl _,by omega,by omega,by omega,HN,HC.out,by repeat(first|exact B_refl|exact Below.refl _ _|assumption|with_reducible refine B_alloc ?_ _|with_reducible refine B_ext ?_ _|with_reducible refine B_drew ?_|with_reducible refine B_drewN ?_ _|with_reducible refine B_set ?_ (by dsimp only;omega) _),J_ne (by omega) g0,?_⟩
    have:=Joins.block_setCell (i:=0) g1 (.int .i64 (y+1))
    simpa using this
  ·have HN:Hid (yearP day=y):=by
    show _=_
    rw[HYF.out,year_stop (by rw[first_one];exact hc)]
   have hfb:=first_bounds (m:=1) hy0 (by omega) (by omega) (by omega)
   rw[first_one]at hfb
   have k1:IntKind.i64.wrap (day-begP y)=day-begP y:=IntWalk.i64_in _ (by omega)
   have hmp:monthP day=monthGo day y 12 1:=by unfold monthP;rw[HN.out]
   have HMP:=Lib.hid hmp
   have hyr:day<firstP y 12+monthDaysP y 12:=by
    rw[<-first_year hy0,first_one];omega
   have HYR:=Lib.hid hyr
   have HBY2:=HBY.out
   have HB0:Hid (firstP y 1<=day):=by show _<=_;rw[first_one];exact HBY2
   clear hmp hyr HBY2
   have G0:=Lib.hid g0
   have G1:=Lib.hid g1
   go_upto_region 5 with(go_at_call 205;refine(begin_any _ _ (by omega) (by omega)).mono ?_;rintro e wq ⟨rfl,rfl⟩)
   clear a0 a1 a2 z0 z1 z2 b0 b1 b2 x0 x1 x2 g0 g1
   go_loopg [0] 12 (fun gg v wm=> ∃(m:Nat),1<=m/\m<=12/\12-m<=gg/\v= .int .i64 (day-firstP y m)/\Hid (monthP day=monthGo day y (13-m) m)/\Hid (firstP y m<=day)/\Below w.heap.size w wm/\wm.heap[w.heap.size]?=some (.cells #[.int .i64 0, .int .i64 0, .int .i64 0] 226)/\wm.heap[w.heap.size+1]?=some (.cells #[.int .i64 y, .int .i64 m, .int .i64 0] 226))
   case atStart=>exact⟨1,by omega,by omega,by omega,by rw[first_one],HMP.out,HB0.out,hB,G0.out,G1.out⟩
   case round=>
    obtain⟨m,hm1,hm2,hgm,rfl,HM,HLO,hBm,g0,g1⟩:=hrel
    have a0:wr.cell? ⟨w.heap.size+1,0,none⟩=some (.int .i64 y):=by simp[World.cell?,g1]
    have a1:wr.cell? ⟨w.heap.size+1,1,none⟩=some (.int .i64 m):=by simp[World.cell?,g1]
    have a2:wr.cell? ⟨w.heap.size+1,2,none⟩=some (.int .i64 0):=by simp[World.cell?,g1]
    have z0:wr.frozen? ⟨w.heap.size+1,0,none⟩=false:=by simp[World.frozen?,g1]
    have z1:wr.frozen? ⟨w.heap.size+1,1,none⟩=false:=by simp[World.frozen?,g1]
    have z2:wr.frozen? ⟨w.heap.size+1,2,none⟩=false:=by simp[World.frozen?,g1]
    have b0:wr.cell? ⟨w.heap.size,0,none⟩=some (.int .i64 0):=by simp[World.cell?,g0]
    have b1:wr.cell? ⟨w.heap.size,1,none⟩=some (.int .i64 0):=by simp[World.cell?,g0]
    have b2:wr.cell? ⟨w.heap.size,2,none⟩=some (.int .i64 0):=by simp[World.cell?,g0]
    have x0:wr.frozen? ⟨w.heap.size,0,none⟩=false:=by simp[World.frozen?,g0]
    have x1:wr.frozen? ⟨w.heap.size,1,none⟩=false:=by simp[World.frozen?,g0]
    have x2:wr.frozen? ⟨w.heap.size,2,none⟩=false:=by simp[World.frozen?,g0]
    have e1:w.heap.size+1<wr.heap.size:=blk_lt g1
    have e0:w.heap.size<wr.heap.size:=blk_lt g0
    have hLm:=hL.keep hBm
    have hdp:=days_pos y hm1 hm2
    have hfm:=first_bounds (m:=m) hy0 (by omega) hm1 (by omega)
    have hu:=first_up y hm1
    have HU:=Lib.hid hu
    have hlo:=HLO.out
    have k2:IntKind.i64.wrap (day-firstP y m-monthDaysP y m)=day-firstP y m-monthDaysP y m:=IntWalk.i64_in _ (by omega)
    have k3:IntKind.i64.wrap ((m:Int)+1)=(m:Int)+1:=IntWalk.i64_in _ (by omega)
    have k4:IntKind.i64.wrap (day-firstP y m+1)=day-firstP y m+1:=IntWalk.i64_in _ (by omega)
    by_cases hc2:monthDaysP y m<=day-firstP y m
    ·have hm12:m<12:=by
      rcases Nat.lt_or_ge m 12 with h|h
      ·exact h
      ·have:=HYR.out
       obtain rfl:m=12:=by omega
       rw[show((12:Nat):Int)=12 from rfl]at hc2
       omega
     have HN2:Hid (monthP day=monthGo day y (13-(m+1)) (m+1)):=by
      show _=_
      rw[HM.out,show 13-m=(13-(m+1))+1 by omega,month_step hm12 (by rw[hu];omega)]
     have hlo2:firstP y (m+1)<=day:=by rw[hu];omega
     have HL2:=Lib.hid hlo2
     clear hu hlo hlo2
     go_wp2_with (go_at_call 201;refine(length_any y m _ hLm (by omega) (by omega) hm1 hm2).mono ?_;rintro e wq ⟨rfl,rfl⟩)
     go_roundg (12-(m+1))
     case measure=>omega
     case rel=>
      refine⟨m+1,by omega,by omega,Nat.le_refl _,by rw[HU.out];exact int_eq (by omega),HN2,HL2.out,by repeat(first|exact B_refl|exact Below.refl _ _|assumption|with_reducible refine B_alloc ?_ _|with_reducible refine B_ext ?_ _|with_reducible refine B_drew ?_|with_reducible refine B_drewN ?_ _|with_reducible refine B_set ?_ (by dsimp only;omega) _),J_ne (by omega) g0,?_⟩
      have:=Joins.block_setCell (i:=1) g1 (.int .i64 ((m:Int)+1))
      simpa using this
    ·have HN2:Hid (monthP day=m):=by
      show _=_
      rw[HM.out,month_stop (by rw[hu];omega)]
     have HD:Hid (DateIs day (yearP day) (monthP day)):=by
      show DateIs _ _ _
      rw[HN.out,HN2.out]
      exact⟨hy0,by omega,hm1,hm2,hlo,by omega⟩
     clear hu hlo
     go_wp2_with (go_at_call 201;refine(length_any y m _ hLm (by omega) (by omega) hm1 hm2).mono ?_;rintro e wq ⟨rfl,rfl⟩)
     refine bodyPost_ret (v:=dateV (yearP day) (monthP day) (day-firstP (yearP day) (monthP day)+1)) ?_ rfl ?_
     ·rw[HN.out,HN2.out]
      have g2:=J_set3 (a:= .int .i64 y) (b:= .int .i64 m) (c:= .int .i64 (day-firstP y m+1)) (J_ne (b:=w.heap.size+1) (o:=2) (v:= .int .i64 (day-firstP y m+1)) (by omega) g0)
      refine results_date rfl _ _ w.heap.size _ _ _ rfl ?_ ?_ ?_
      all_goals simp[World.cell?,g2]
     ·exact⟨HD.out,Ret.of rfl (by repeat(first|exact B_refl|exact Below.refl _ _|assumption|with_reducible refine B_alloc ?_ _|with_reducible refine B_ext ?_ _|with_reducible refine B_drew ?_|with_reducible refine B_drewN ?_ _|with_reducible refine B_set ?_ (by dsimp only;omega) _))⟩
theorem minI_eq (a b:Int):(if a<=b then a else b)=min a b:=by rw[Int.min_def]
set_option maxRecDepth 100000 in
set_option maxHeartbeats 2000000 in
theorem rlater_any (day mo:Int) (w:World) (hL:LensIn w) (h0:0<=day) (h1:day<=200000) (hm0: -12000<=mo) (hm1:mo<=12000):
 Calls Tryz.prog 185 #[.int .i64 day, .int .i64 mo] w (fun e w'=> ∃n:Int,∃ok:Bool,(ok=true->addMonthsP day mo=n/\0<=n)/\(ok=false->addMonthsP day mo= -1)/\Ret w (.tuple #[.int .i64 n, .bool ok]) e w'):=by
 have hA:addMonthsP day mo=if !inR ((yearP day*12+monthP day-1+mo)/12) 1800 2347 then-1 else
  if isDayP (firstP ((yearP day*12+monthP day-1+mo)/12) ((yearP day*12+monthP day-1+mo)%12+1).toNat+min (day-firstP (yearP day) (monthP day)+1) (monthDaysP ((yearP day*12+monthP day-1+mo)/12) ((yearP day*12+monthP day-1+mo)%12+1))-1)then
   firstP ((yearP day*12+monthP day-1+mo)/12) ((yearP day*12+monthP day-1+mo)%12+1).toNat+min (day-firstP (yearP day) (monthP day)+1) (monthDaysP ((yearP day*12+monthP day-1+mo)/12) ((yearP day*12+monthP day-1+mo)%12+1))-1 else-1:=rfl
 have HA:=Lib.hid hA
 clear hA
 have HD:=Lib.hid (fun W h=>dateOf_any day W h h0 h1)
 generalize yearP day=y at*
 generalize monthP day=m at*
 generalize addMonthsP day mo=R at*
 go_enter Tryz.func185,Tryz.ntmps185
 go_upto_region 2 with(go_at_call 199;refine(HD.out _ hL).mono ?_;rintro e wq ⟨hdi,rfl,z,rfl⟩;simp only[dateV])
 obtain⟨d1,d2,d3,d4,d5,d6⟩:=hdi
 obtain⟨f1,f2⟩:=days_pos y d3 d4
 obtain⟨X,hX⟩: ∃X,X=day-firstP y m+1:=⟨_,rfl⟩
 obtain⟨N,hN⟩: ∃N,N=12*y+m-1+mo:=⟨_,rfl⟩
 have HA2:Hid (R=if !inR (N/12) 1800 2347 then-1 else if isDayP (firstP (N/12) (N%12+1).toNat+min X (monthDaysP (N/12) (N%12+1))-1)then firstP (N/12) (N%12+1).toNat+min X (monthDaysP (N/12) (N%12+1))-1 else-1):=by
  show _=_
  rw[HA.out,hX,hN,show y*12+(m:Int)-1+mo=12*y+m-1+mo by omega]
 have hX1:1<=X:=by omega
 have hX2:X<=31:=by omega
 rw[<-hX]
 have k1:IntKind.i64.wrap (12*y)=12*y:=IntWalk.i64_in _ (by omega)
 have k2:IntKind.i64.wrap (12*y+m)=12*y+m:=IntWalk.i64_in _ (by omega)
 have k3:IntKind.i64.wrap (12*y+m-1)=12*y+m-1:=IntWalk.i64_in _ (by omega)
 have k4:IntKind.i64.wrap (12*y+m-1+mo)=N:=by rw[hN];exact IntWalk.i64_in _ (by omega)
 have hNb: -20000<=N/\N<=100000:=by omega
 obtain⟨hNb1,hNb2⟩:=hNb
 clear HA hX hN HD d5 d6 f1 f2
 by_cases hN0:N<0
 ·have hN1:inR (N/12) 1800 2347=false:=by simp[inR];omega
  have HR:Hid (R= -1):=by show _=_;rw[HA2.out,hN1];rfl
  clear hN1
  go_wp2_with fail
  go_ret2
  exact⟨0,false,by simp,fun _=>HR.out,Ret.of rfl Bw⟩
 ·have hN1:0<=N:=by omega
  have hq0:0<=N/12:=by omega
  obtain⟨mm,hmm⟩: ∃mm:Nat,(mm:Int)=N%12+1:=⟨(N%12+1).toNat,by omega⟩
  have hmm1:1<=mm:=by omega
  have hmm2:mm<=12:=by omega
  have ht:(N%12+1).toNat=mm:=by omega
  have HA3:Hid (R=if !inR (N/12) 1800 2347 then-1 else if isDayP (firstP (N/12) mm+min X (monthDaysP (N/12) mm)-1)then firstP (N/12) mm+min X (monthDaysP (N/12) mm)-1 else-1):=by
   show _=_
   rw[HA2.out,ht,<-hmm]
  have k5:IntKind.i64.wrap (N%12+1)=(mm:Int):=by rw[hmm];exact IntWalk.i64_in _ (by omega)
  obtain⟨Y,hY⟩: ∃Y,N/12=Y:=⟨_,rfl⟩
  rw[hY]at HA3
  have hY1:Y<=10000:=by omega
  have hq1:0<=Y:=by omega
  clear HA2 ht
  have HMM:=Lib.hid hmm
  clear hmm
  cases hin:inR Y 1800 2347
  ·have HR:Hid (R= -1):=by show _=_;rw[HA3.out,hin];rfl
   go_wp2_with (go_at_call 184;refine(rwithin_any _ _ _ _).mono ?_;rintro e wq ⟨rfl,rfl⟩;rw[hin])
   all_goals go_ret2
   all_goals exact⟨0,false,by simp,fun _=>HR.out,Ret.of rfl Bw⟩
  ·have hYr:1800<=Y/\Y<=2347:=by simpa[inR]using hin
   obtain⟨f1,f2⟩:=days_pos Y hmm1 hmm2
   have hfb:=first_bounds (m:=mm) hYr.1 (by omega) hmm1 (by omega)
   have HR:Hid (R=if isDayP (firstP Y mm+min X (monthDaysP Y mm)-1)then firstP Y mm+min X (monthDaysP Y mm)-1 else-1):=by show _=_;rw[HA3.out,hin];rfl
   have HLW:Hid (∀W,Below w.heap.size w W->LensIn W):=fun W h=>hL.keep h
   clear HA3 hL
   go_upto_region 6 with(go_at_call 184;refine(rwithin_any _ _ _ _).mono ?_;rintro e wq ⟨rfl,rfl⟩;rw[hin])
   have HLg:=Lib.hid (fun W (hW:Below w.heap.size w W)=>length_any Y mm W (HLW.out _ hW) hq1 (by omega) hmm1 hmm2)
   have HDy:=Lib.hid (fun d W (hW:Below w.heap.size w W) (hd0:0<=d) (hd1:d<=1000)=>dayOf_any Y mm d W (HLW.out _ hW) hYr.1 (by omega) hmm1 hmm2 hd0 hd1)
   generalize monthDaysP Y mm=L at*
   clear hfb
   refine wp_region_ext_lit (by kernel_rfl) (by kernel_rfl) ?_
   repeat(first|go_big_quiet_skip|(go_big_quiet_want;go_big_quiet_op;first|go_big_quiet_on|(apply Exists.intro;refine⟨fun _=> ?_,?_⟩;(first|(go_at_call 201;exact quietx0 (HLg.out _ Bw))|(go_at_call 200;exact quietx0 (HDy.out _ _ Bw (by omega) (by omega))));go_big_quiet_on)))
   refine wpQuiet_nil ?_
   rintro _ ⟨zq,rfl⟩
   generalize hO:firstP Y mm+min X L-1=out at*
   have HO:=Lib.hid hO
   clear hO HLg HDy HLW
   cases hd:isDayP out
   ·have HD2:=Lib.hid hd
    go_wp2_with (go_at_call 183;refine(risDay_any _ _).mono ?_;rintro e wq ⟨rfl,rfl⟩;rw[hd])
    go_ret2
    exact⟨out,false,by simp,fun _=>by rw[HR.out,HD2.out];rfl,Ret.of rfl Bw⟩
   ·have HD2:=Lib.hid hd
    go_wp2_with (go_at_call 183;refine(risDay_any _ _).mono ?_;rintro e wq ⟨rfl,rfl⟩;rw[hd])
    go_ret2
    refine⟨out,true,fun _=>⟨by rw[HR.out,HD2.out];rfl,?_⟩,by simp,Ret.of rfl Bw⟩
    have h:=HD2.out
    simp[isDayP,inR]at h
    omega
end Go.Proofs.YtmaidggpbihlgaaGreatDoor
namespace Go.Proofs.YtmaidggpbihlgaaGreatDoor
open Go.RowKit
def seenQ (q:Rat):Rat:=if bigQ q then 0 else q
theorem seen_big (q:Rat):bigQ (seenQ q)=false:=by
 unfold seenQ
 cases h:bigQ q
 ·simpa using h
 ·simp[bigQ]
theorem seen_nonneg {q:Rat} (h:0<=q):0<=seenQ q:=by
 unfold seenQ
 split
 ·exact Rat.le_refl
 ·exact h
theorem seen_le {q:Rat} (h:0<=q):seenQ q<=q:=by
 unfold seenQ
 split
 ·exact h
 ·exact Rat.le_refl
theorem seen_of {q:Rat} (h:bigQ q=false):seenQ q=q:=by simp[seenQ,h]
def gain1 (own:Rat) (p:ByteArray×Rat) (x:Parts×Bool):Parts×Bool:=
 (setP x.1 p.1 (seenQ (shareP x.1 p.1+seenQ (own*p.2))),x.2||bigQ (own*p.2)||bigQ (shareP x.1 p.1+seenQ (own*p.2)))
def gainF (own:Rat):Parts->Parts×Bool->Parts×Bool
 | [],x=>x
 |p::l,x=>gainF own l (gain1 own p x)
theorem gainF_append (own:Rat): ∀(a b:Parts) (x:Parts×Bool),gainF own (a++b) x=gainF own b (gainF own a x)
 | [],_,_=>rfl
 |p::a,b,x=>gainF_append own a b _
theorem gain_mark {own:Rat}: ∀ {l:Parts} {x:Parts×Bool},x.2=true->(gainF own l x).2=true
 | [],_,h=>h
 |p::l,x,h=>gain_mark (l:=l) (by simp[gain1,h])
theorem set_good {l:Parts} (h:GoodParts l) {n:ByteArray} {q:Rat} (hq:0<=q):GoodParts (setP l n q):=by
 by_cases h0:q=0
 ·subst h0
  rw[set_zero h.asc]
  exact without_good h
 ·refine⟨set_asc h.asc n q,fun p hp=> ?_⟩
  rcases set_mem hp with rfl|hp
  ·show 0<q
   grind
  ·exact h.pos p hp
theorem sum_set {l:Parts} (h:GoodParts l) (n:ByteArray) (q:Rat):sumQ (setP l n q)=sumQ l-shareP l n+q:=by
 have hw:=without_sum (n:=n) h
 rw[set_keeps h.asc]
 by_cases hq:q==0
 ·rw[if_pos hq]
  have:q=0:=by simpa using hq
  subst this
  grind
 ·rw[if_neg hq,sum_given]
  grind
theorem small_set {l:Parts} {n:ByteArray} {q:Rat} (h:largeP l=false) (hq:bigQ q=false):largeP (setP l n q)=false:=by
 unfold largeP at*
 rw[List.any_eq_false]at*
 intro p hp
 rcases set_mem hp with rfl|hp
 ·simpa using hq
 ·exact h p hp
theorem len_set {n:ByteArray} {q:Rat}: ∀ {l:Parts},(setP l n q).length<=l.length+1
 | []=>by unfold setP;split<;>simp
 |x::l=>by
  unfold setP
  have:=len_set (n:=n) (q:=q) (l:=l)
  split
  ·simpa using this
  ·split
   ·split<;>simp<;>omega
   ·split<;>simp
theorem share_small {l:Parts} (n:ByteArray) (h:largeP l=false):bigQ (shareP l n)=false:=by
 unfold shareP
 cases hf:l.find? (fun p=>sameB p.1 n)with
 |none=>simp[bigQ]
 |some p=>
  unfold largeP at h
  rw[List.any_eq_false]at h
  simpa using h p (List.mem_of_find?_eq_some hf)
theorem share_le_sum {l:Parts} (h:GoodParts l) (n:ByteArray):shareP l n<=sumQ l:=by
 have h1:=without_sum (n:=n) h
 have h2:=sum_nonneg (l:=withoutP l n) fun p hp=>by have:=(without_good h (n:=n)).pos p hp;grind
 grind
theorem small_q {q:Rat} (h0:0<=q) (h1:q<=1) (hb:bigQ q=false):small5 q:=by
 unfold bigQ at hb
 have hd:=q.den_pos
 have hb2:(q.den:Int)<=1000000000:=by simpa using hb
 rw[Rat.le_iff]at h0 h1
 have h2:0<=q.num:=by simpa using h0
 have h3:q.num<=(q.den:Int):=by simpa using h1
 exact⟨by omega,by omega⟩
structure Bd (out:Parts) (t:Rat):Prop where
 good:GoodParts out
 small:largeP out=false
 le:sumQ out<=t
theorem Bd.share {out:Parts} {t:Rat} (h:Bd out t) (ht:t<=1) (n:ByteArray):small5 (shareP out n):=
 small_q (share_nonneg h.good n) (by have:=share_le_sum h.good n;have:=h.le;grind) (share_small n h.small)
theorem Bd.set {out:Parts} {t g:Rat} (h:Bd out t) (n:ByteArray) (hg:0<=g):Bd (setP out n (seenQ (shareP out n+g))) (t+g):=by
 have hs:=share_nonneg h.good n
 have h1:0<=shareP out n+g:=by grind
 refine⟨set_good h.good (seen_nonneg h1),small_set h.small (seen_big _),?_⟩
 rw[sum_set h.good]
 have:=seen_le h1
 have:=h.le
 grind
theorem Bd.gain {own:Rat} {out:Parts} {t:Rat} {p:ByteArray×Rat} {f:Bool} (h:Bd out t) (ho:0<=own) (hp:0<=p.2):Bd (gain1 own p (out,f)).1 (t+own*p.2):=by
 have hm:0<=own*p.2:=Rat.mul_nonneg ho hp
 have h1:=h.set p.1 (seen_nonneg hm)
 have h2:=seen_le hm
 exact⟨h1.good,h1.small,by have:=h1.le;grind [gain1]⟩
theorem set_seen {out:Parts} (h:GoodParts out) {n:ByteArray} {g:Rat} (hg:0<=g) (hb:bigQ (shareP out n+g)=false):setP out n (seenQ (shareP out n+g))=givenP out n g:=by
 rw[seen_of hb,set_given h hg]
theorem given_has {n:ByteArray} {q:Rat}: ∀ {l:Parts},GoodParts l->0<q->(n,shareP l n+q)∈givenP l n q
 | [],_,hq=>by
   have:(q==0)=false:=by rw[beq_eq_false_iff_ne];grind
   simp[givenP,this,shareP,Rat.zero_add]
 |x::l,h,hq=>by
  have hq0:(q==0)=false:=by rw[beq_eq_false_iff_ne];grind
  have ht:GoodParts l:=⟨(List.pairwise_cons.1 h.asc).2,fun p hp=>h.pos p (by simp[hp])⟩
  rw[givenP,hq0]
  cases hl:lessN x.1 n
  ·cases hs:sameB x.1 n
   ·have hlt:lessN n x.1=true:=by
     rcases lessN_tri x.1 n with h1|h1|h1
     ·rw[hl]at h1;cases h1
     ·exact absurd h1 (same_ne.1 hs)
     ·exact h1
    have h0:shareP (x::l) n=0:=(share_none fun p hp=>by
     rcases List.mem_cons.1 hp with rfl|hp
     ·exact(lessN_ne hlt).symm
     ·exact(lessN_ne (lessN_trans hlt ((List.pairwise_cons.1 h.asc).1 p hp))).symm).1
    simp[h0,Rat.zero_add]
   ·rw[share_cons,hs]
    simp
  ·rw[share_cons,less_same hl]
   simp only[Bool.false_eq_true,if_false,if_true]
   exact List.mem_cons_of_mem _ (given_has ht hq)
theorem given_big {out:Parts} (h:GoodParts out) (hs:largeP out=false) {n:ByteArray} {g:Rat} (hg:0<=g):largeP (givenP out n g)=bigQ (shareP out n+g):=by
 by_cases h0:g=0
 ·subst h0
  have:givenP out n 0=out:=by cases out<;>simp[givenP]
  rw[this,hs,Rat.add_zero,share_small n hs]
 ·cases hb:bigQ (shareP out n+g)
  ·rw[<-set_given h hg]
   exact small_set hs hb
  ·unfold largeP
   rw[List.any_eq_true]
   exact⟨_,given_has h (by grind),hb⟩
theorem gain_same {own:Rat} (ho:0<=own): ∀ {l out:Parts},(∀p∈l,0<=p.2)->GoodParts out->largeP out=false->
 (∀o,gainGo own l out=some o->gainF own l (out,false)=(o,false))/\(gainGo own l out=none->(gainF own l (out,false)).2=true)
 | [],out,_,_,_=>by
   refine⟨fun o h=> ?_,fun h=> ?_⟩
   ·rw[gainGo]at h;cases h;rfl
   ·rw[gainGo]at h;cases h
 |p::l,out,hp,hg,hs=>by
  have hm:0<=own*p.2:=Rat.mul_nonneg ho (hp p (by simp))
  rw[gainGo]
  show(∀o,_=_->gainF own l (gain1 own p (out,false))=_)/\(_->(gainF own l (gain1 own p (out,false))).2=true)
  cases h1:bigQ (own*p.2)
  ·have hsq:seenQ (own*p.2)=own*p.2:=seen_of h1
   have hgl:=given_big hg hs (n:=p.1) hm
   rw[if_neg (by simp)]
   cases h2:bigQ (shareP out p.1+own*p.2)
   ·have e:gain1 own p (out,false)=(givenP out p.1 (own*p.2),false):=by
     unfold gain1
     simp only[hsq,h1,h2,Bool.or_self]
     rw[set_seen hg hm h2]
    rw[hgl,h2,if_neg (by simp),e]
    exact gain_same ho (fun q hq=>hp q (by simp[hq])) (given_good hm hg) (by rw[hgl,h2])
   ·rw[hgl,h2,if_pos rfl]
    refine⟨fun o h=>by(cases h),fun _=>gain_mark ?_⟩
    simp[gain1,hsq,h2]
  ·rw[if_pos rfl]
   refine⟨fun o h=>by(cases h),fun _=>gain_mark ?_⟩
   simp[gain1,h1]
theorem gain_bd {own:Rat} (ho:0<=own): ∀ {l out:Parts} {f:Bool} {t:Rat},(∀p∈l,0<=p.2)->Bd out t->Bd (gainF own l (out,f)).1 (t+own*sumQ l)
 | [],out,f,t,_,h=>by
   show Bd out (t+own*0)
   rw[Rat.mul_zero,Rat.add_zero]
   exact h
 |p::l,out,f,t,hp,h=>by
  have h1:=gain_bd ho (l:=l) (f:=(gain1 own p (out,f)).2) (fun q hq=>hp q (by simp[hq])) (h.gain (f:=f) ho (hp p (by simp)))
  have e:t+own*p.2+own*sumQ l=t+own*sumQ (p::l):=by rw[sumQ];grind
  rw[e]at h1
  exact h1
def transferF (hs:Parts) (frm:ByteArray) (tl:Parts):Parts×Bool:=
 gainF (shareP hs frm) tl (setP hs frm (seenQ (shareP hs frm*(1-sumQ tl))),bigQ (shareP hs frm*(1-sumQ tl)))
theorem transfer_same {hs tl:Parts} {frm:ByteArray} (hg:GoodParts hs) (hl:largeP hs=false) (hp: ∀p∈tl,0<=p.2) (h1:sumQ tl<=1):
 (if bigQ (shareP hs frm*(1-sumQ tl))then none else gainGo (shareP hs frm) tl (givenP (withoutP hs frm) frm (shareP hs frm*(1-sumQ tl))))=if(transferF hs frm tl).2 then none else some (transferF hs frm tl).1:=by
 have ho:=share_nonneg hg frm
 have hk:0<=shareP hs frm*(1-sumQ tl):=Rat.mul_nonneg ho (by grind)
 unfold transferF
 cases hb:bigQ (shareP hs frm*(1-sumQ tl))
 ·rw[seen_of hb,if_neg (by simp)]
  have e:setP hs frm (shareP hs frm*(1-sumQ tl))=givenP (withoutP hs frm) frm (shareP hs frm*(1-sumQ tl)):=by
   rw[set_keeps hg.asc]
   split
   ·rename_i h0
    have:shareP hs frm*(1-sumQ tl)=0:=by simpa using h0
    rw[this]
    cases withoutP hs frm<;>simp[givenP]
   ·rfl
  have hgs:=set_good hg (n:=frm) hk
  have hss:=small_set (n:=frm) hl hb
  obtain⟨g1,g2⟩:=gain_same ho hp hgs hss
  rw[e]at g1 g2⊢
  cases hx:gainGo (shareP hs frm) tl (givenP (withoutP hs frm) frm (shareP hs frm*(1-sumQ tl)))with
  |none=>rw[g2 hx,if_pos rfl]
  |some o=>rw[g1 o hx,if_neg (by simp)]
 ·rw[if_pos rfl,gain_mark rfl,if_pos rfl]
end Go.Proofs.YtmaidggpbihlgaaGreatDoor
