/- Walk of chapter 5's lawOn. -/
import Derived.Test.YtmaidggpbihlgaaGreatDoorJ2
import Derived.Test.YtmaidggpbihlgaaGreatDoorJ0
import Derived.Deep.Cut
import Derived.Deep.CutBlock
set_option linter.unusedSimpArgs false
set_option linter.unusedVariables false
namespace Go.Proofs.YtmaidggpbihlgaaGreatDoor
open Go.RowKit
attribute [local go_sem] World.cell?_alloc_mark ext_size ext_cell ext_frozen lt_add_r lt_add_r2 lt_add_r3 lt_add_r4 lt_add_r5 lt_add_r6 lt_add_r7 lt_add_r8
attribute [local go_sem] ext_setCell alloc_setCell_lt
def befP (ls:List Law) (k:Nat):Option Int:=if k=0 then none else(ls[k-1]?).map (·.frm)
theorem bef_succ (ls:List Law) {k:Nat} (h:k<ls.length):befP ls (k+1)=some ls[k].frm:=by
 rw[befP,if_neg (by omega)]
 simp[h]
set_option maxRecDepth 100000 in
set_option maxHeartbeats 2000000 in
theorem checkLaws5_any (ls:List Law) (A:Option Addr) (n c:Nat) (w:World) (hn:n=ls.length) (hS:Sl w 4 Law.cells A ls):Calls Tryz.prog 56 #[.slice A n c] w (Ret w (.int .i64 (checkLawsP ls))):=by
 subst hn
 go_enter Tryz.func56,Tryz.ntmps56
 by_cases h10:10<ls.length
 ·have hx:decide ((10:Int)<(ls.length:Int))=true:=by simp;omega
  go_wp2_with fail
  go_ret
  exact Ret.of (int_eq (by rw[checkLawsP,if_pos (by simp;omega)])) Bw
 have hx:decide ((10:Int)<(ls.length:Int))=false:=by simp;omega
 go_wp2_with fail
 have hT:checkLawsP ls=lawsGo (ls.drop 0) (befP ls 0):=by rw[checkLawsP,if_neg (by simp;omega)];rfl
 go_loopw [2,10] (fun u i wr=>u= .int .i64 0/\ ∃k:Nat,k<=ls.length/\i= .int .i64 k/\checkLawsP ls=lawsGo (ls.drop k) (befP ls k)/\ ∃z,wr=w.ext z) (fun _ i _=>ls.length-(intOf i).toNat)
 case atStart=>exact⟨rfl,0,Nat.zero_le _,rfl,hT,ext_below (Below.refl _ _)⟩
 case round=>
  obtain⟨rfl,k,hk,rfl,hf,z,rfl⟩:=hrel
  clear hT hx
  by_cases hlt:k<ls.length
  ·rw[List.drop_eq_getElem_cons hlt,lawsGo]at hf
   obtain⟨b,off,rfl,hb,hc⟩:=hS.at hlt
   have h0:w.cell? ⟨b,off+k*4,none⟩=some (.int .i64 ls[k].frm):=hc 0 _ rfl
   have h1:w.cell? ⟨b,off+k*4+1,none⟩=some (.bool ls[k].stems):=hc 1 _ rfl
   have h2:w.cell? ⟨b,off+k*4+2,none⟩=some (.int .i64 ls[k].num):=hc 2 _ rfl
   have h3:w.cell? ⟨b,off+k*4+3,none⟩=some (.int .i64 ls[k].den):=hc 3 _ rfl
   have HF:=Lib.hid hf
   have hkn:(k:Int)<(ls.length:Int):=by omega
   have hprev:0<k->w.cell? ⟨b,off+(k-1)*4,none⟩=some (.int .i64 (ls[k-1]'(by omega)).frm):=fun hk0=>by
    obtain⟨b',off',he,_,hc'⟩:=hS.at (k:=k-1) (by omega)
    cases he
    exact hc' 0 _ rfl
   have HP:=Lib.hid hprev
   have HB:befP ls (k+1)=some ls[k].frm:=bef_succ ls hlt
   have HB:=Lib.hid HB
   clear hc hf hS hprev
   go_upto_region 10 with(first
    |(go_at_call 65;refine(isDay5_any _ _).mono ?_;intro e wq hq;rcases Ret0.bools hq with⟨rfl,⟨hb,rfl⟩|⟨hb,rfl⟩⟩<;>clear hq)
    |(go_at_call 101;refine(isFraction5_any _ _ _).mono ?_;intro e wq hq;rcases Ret.bools hq with⟨zq,rfl,⟨hb,rfl⟩|⟨hb,rfl⟩⟩<;>clear hq))
   all_goals first
    |(go_ret
      exact Ret.of (int_eq (by rw[HF.out];simp[lawErr, *])) Bw)
    |skip
   rcases Nat.eq_zero_or_pos k with hk0|hk0
   ·have hd:decide ((k:Int)>0)=false:=by simp;omega
    have hbn:befP ls k=none:=by rw[befP,if_pos hk0]
    go_quiet (fail)
    go_wp2_with fail
    go_round
    case rel=>subst hk0;exact⟨rfl,1,by omega,rfl,by rw[HF.out,HB.out];simp[lawErr, *],ext_below Bw⟩
    case measure=>simp[intOf];omega
   ·have hd:decide ((k:Int)>0)=true:=by simp;omega
    have hwr:IntKind.i64.wrap ((k:Int)-1)=(k:Int)-1:=IntWalk.i64_in _ (by omega)
    have hnn:0<=(k:Int)-1:=by omega
    have htn:((k:Int)-1).toNat=k-1:=by omega
    have hlt2:(k:Int)-1<(ls.length:Int):=by omega
    have hp:=HP.out hk0
    have hbs:befP ls k=some (ls[k-1]'(by omega)).frm:=by have:=bef_succ ls (k:=k-1) (by omega);rwa [Nat.sub_add_cancel hk0]at this
    go_quiet (fail)
    go_wp2_with fail
    all_goals first
     |(go_ret
       exact Ret.of (int_eq (by rw[HF.out];simp[lawErr, *])) Bw)
     |(go_round
       case rel=>exact⟨rfl,k+1,by omega,by go_num,by rw[HF.out,HB.out];simp[lawErr, *],ext_below Bw⟩
       case measure=>simp[intOf];omega)
  ·rw[List.drop_eq_nil_of_le (by omega),lawsGo]at hf
   have HF:=Lib.hid hf
   clear hf hS
   have hkn: ¬(k:Int)<(ls.length:Int):=by omega
   go_wp2_with fail
   go_ret
   exact Ret.of (int_eq (by rw[HF.out])) Bw
end Go.Proofs.YtmaidggpbihlgaaGreatDoor
namespace Go.Proofs.YtmaidggpbihlgaaGreatDoor
open Go.RowKit
attribute [local go_sem] World.cell?_alloc_mark ext_size ext_cell ext_frozen lt_add_r lt_add_r2 lt_add_r3 lt_add_r4 lt_add_r5 lt_add_r6 lt_add_r7 lt_add_r8
attribute [local go_sem] ext_setCell alloc_setCell_lt
def Law.v (x:Law):Value:= .agg #[.int .i64 x.frm, .bool x.stems, .int .i64 x.num, .int .i64 x.den]
theorem results_law {fn:Func} {p:Tmp} (h:fn.results= #[.cell p 100]) (tmps:Array Value) (w:World) (B:Nat) (x:Law) (hp:tmps.getD p undef= .pointer (some ⟨B,0,none⟩))
 (h0:w.cell? ⟨B,0,none⟩=some (.int .i64 x.frm)) (h1:w.cell? ⟨B,1,none⟩=some (.bool x.stems)) (h2:w.cell? ⟨B,2,none⟩=some (.int .i64 x.num)) (h3:w.cell? ⟨B,3,none⟩=some (.int .i64 x.den)):(results fn tmps).run Tryz.prog w= .ok x.v w:=by
 rw[results_c1 h,hp]
 unfold Law.v
 go_simp
theorem lawOn_snoc (ls:List Law) (day:Int) {k:Nat} (h:k<ls.length):lawOnP (ls.take (k+1)) day=if decide (ls[k].frm<=day)then ls[k]else lawOnP (ls.take k) day:=by
 rw[List.take_succ_eq_append_getElem h]
 unfold lawOnP
 rw[List.filter_append]
 by_cases hc:ls[k].frm<=day<;>simp[hc]
theorem J_new (w:World) (o:Obj) (k:Nat) (h:k=w.heap.size):(w.alloc o).heap[k]?=some o:=by rw[h];exact heap_alloc_new w o
theorem J_alloc {w:World} {o x:Obj} {k:Nat} (h:w.heap[k]?=some x):(w.alloc o).heap[k]?=some x:=(Below.heap_alloc w o k (blk_lt h)).trans h
theorem J_set4 {w:World} {g:Nat} {z0 z1 z2 z3 a b c d:Value} {t:TypeId} {fr:Nat×Nat} (h:w.heap[g]?=some (.cells #[z0,z1,z2,z3] t fr)):
 ((((w.setCell ⟨g,0,none⟩ a).setCell ⟨g,1,none⟩ b).setCell ⟨g,2,none⟩ c).setCell ⟨g,3,none⟩ d).heap[g]?=some (.cells #[a,b,c,d] t fr):=by
 have:=Joins.block_setCell (i:=3) (Joins.block_setCell (i:=2) (Joins.block_setCell (i:=1) (Joins.block_setCell (i:=0) h a) b) c) d
 simpa using this
set_option maxRecDepth 100000 in
set_option maxHeartbeats 2000000 in
theorem lawOn5_any (ls:List Law) (A:Option Addr) (c:Nat) (day:Int) (w:World) (hl:ls.length<=10) (hS:Sl w 4 Law.cells A ls):Calls Tryz.prog 33 #[.slice A ls.length c, .int .i64 day] w (Ret w (lawOnP ls day).v):=by
 go_enter Tryz.func33,Tryz.ntmps33
 go_wp2_with fail
 go_loopw [12] (fun i wr=> ∃k:Nat,k<=ls.length/\i= .int .i64 k/\ ∃x:Law,x=lawOnP (ls.take k) day/\Below w.heap.size w wr/\w.heap.size+2<=wr.heap.size/\wr.heap[w.heap.size]?=some (.cells #[.int .i64 0, .bool false, .int .i64 0, .int .i64 0] 100)/\wr.heap[w.heap.size+1]?=some (.cells #[.int .i64 x.frm, .bool x.stems, .int .i64 x.num, .int .i64 x.den] 100)) (fun i _=>ls.length-(intOf i).toNat)
 case atStart=>
  refine⟨0,Nat.zero_le _,rfl,zeroLaw,rfl,?_,?_,?_,?_⟩
  ·exact Bw
  ·simp
  ·exact J_alloc (J_new _ _ _ rfl)
  ·exact J_new _ _ _ (by simp)
 case round=>
  obtain⟨k,hk,rfl,x,hx,hB,hsz,g0,g1⟩:=hrel
  have c0:wr.cell? ⟨w.heap.size+1,0,none⟩=some (.int .i64 x.frm):=by simp[World.cell?,g1]
  have c1:wr.cell? ⟨w.heap.size+1,1,none⟩=some (.bool x.stems):=by simp[World.cell?,g1]
  have c2:wr.cell? ⟨w.heap.size+1,2,none⟩=some (.int .i64 x.num):=by simp[World.cell?,g1]
  have c3:wr.cell? ⟨w.heap.size+1,3,none⟩=some (.int .i64 x.den):=by simp[World.cell?,g1]
  have d0:wr.cell? ⟨w.heap.size,0,none⟩=some (.int .i64 0):=by simp[World.cell?,g0]
  have d1:wr.cell? ⟨w.heap.size,1,none⟩=some (.bool false):=by simp[World.cell?,g0]
  have d2:wr.cell? ⟨w.heap.size,2,none⟩=some (.int .i64 0):=by simp[World.cell?,g0]
  have d3:wr.cell? ⟨w.heap.size,3,none⟩=some (.int .i64 0):=by simp[World.cell?,g0]
  have f0:wr.frozen? ⟨w.heap.size,0,none⟩=false:=by simp[World.frozen?,g0]
  have f1:wr.frozen? ⟨w.heap.size+1,0,none⟩=false:=by simp[World.frozen?,g1]
  have e1:wr.frozen? ⟨w.heap.size+1,1,none⟩=false:=by simp[World.frozen?,g1]
  have e2:wr.frozen? ⟨w.heap.size+1,2,none⟩=false:=by simp[World.frozen?,g1]
  have e3:wr.frozen? ⟨w.heap.size+1,3,none⟩=false:=by simp[World.frozen?,g1]
  have m1:wr.frozen? ⟨w.heap.size,1,none⟩=false:=by simp[World.frozen?,g0]
  have m2:wr.frozen? ⟨w.heap.size,2,none⟩=false:=by simp[World.frozen?,g0]
  have m3:wr.frozen? ⟨w.heap.size,3,none⟩=false:=by simp[World.frozen?,g0]
  have hs1:w.heap.size+1<wr.heap.size:=by omega
  have hs0:w.heap.size<wr.heap.size:=by omega
  have hs2:w.heap.size+1≠wr.heap.size:=by omega
  by_cases hlt:k<ls.length
  ·obtain⟨b,off,rfl,hb,hc⟩:=(hS.keep hB).at hlt
   have h0:wr.cell? ⟨b,off+k*4,none⟩=some (.int .i64 ls[k].frm):=hc 0 _ rfl
   have h1:wr.cell? ⟨b,off+k*4+1,none⟩=some (.bool ls[k].stems):=hc 1 _ rfl
   have h2:wr.cell? ⟨b,off+k*4+2,none⟩=some (.int .i64 ls[k].num):=hc 2 _ rfl
   have h3:wr.cell? ⟨b,off+k*4+3,none⟩=some (.int .i64 ls[k].den):=hc 3 _ rfl
   clear hc hS
   go_wp2_with fail
   ·refine⟨⟨k+1,by omega,by go_num,ls[k],by rw[lawOn_snoc ls day hlt,if_pos (by simp;assumption)],?_,?_,?_,?_⟩,by simp[intOf];omega⟩
    ·exact B_alloc (B_set (B_set (B_set (B_set hB (by simp) _) (by simp) _) (by simp) _) (by simp) _) _
    ·simp;omega
    ·exact J_alloc (((B_set (B_set (B_set (B_set (Below.refl (w.heap.size+1) wr) (by simp) _) (by simp) _) (by simp) _) (by simp) _).block w.heap.size (by omega)).trans g0)
    ·exact J_alloc (J_set4 g1)
   ·refine⟨⟨k+1,by omega,by go_num,lawOnP (ls.take k) day,by rw[lawOn_snoc ls day hlt,if_neg (by simp;assumption)],?_,?_,?_,?_⟩,by simp[intOf];omega⟩
    ·exact B_alloc hB _
    ·simp;omega
    ·exact J_alloc g0
    ·exact J_alloc (by simpa[hx]using g1)
  ·go_wp2_with fail
   have hk2:ls.take k=ls:=List.take_of_length_le (by omega)
   have g4:=J_set4 (a:= .int .i64 (lawOnP ls day).frm) (b:= .bool (lawOnP ls day).stems) (c:= .int .i64 (lawOnP ls day).num) (d:= .int .i64 (lawOnP ls day).den) g0
   rw[hk2]
   refine bodyPost_ret (v:=(lawOnP ls day).v) ?_ rfl ?_
   ·refine results_law rfl _ _ w.heap.size _ rfl ?_ ?_ ?_ ?_<;>simp[World.cell?,g4]
   ·exact Ret.of rfl (B_set (B_set (B_set (B_set hB (by simp) _) (by simp) _) (by simp) _) (by simp) _)
end Go.Proofs.YtmaidggpbihlgaaGreatDoor
