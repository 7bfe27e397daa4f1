/- Walk of chapter 5's world.take. -/
import Derived.Test.YtmaidggpbihlgaaGreatDoorE5
import Derived.Test.YtmaidggpbihlgaaGreatDoorE7
import Derived.Test.YtmaidggpbihlgaaGreatDoorE6
import Derived.Test.YtmaidggpbihlgaaGreatDoorRD
import Derived.Test.YtmaidggpbihlgaaGreatDoorJN
import Derived.Test.YtmaidggpbihlgaaGreatDoorJO
set_option linter.unusedSimpArgs false
set_option linter.unusedVariables false
namespace Go.Proofs.YtmaidggpbihlgaaGreatDoor
open Go.RowKit Go.Shelf
attribute [local go_sem] World.cell?_alloc_mark ext_size ext_cell ext_frozen lt_add_r lt_add_r2 lt_add_r3 lt_add_r4 lt_add_r5 lt_add_r6 lt_add_r7 lt_add_r8
attribute [local go_sem] ext_setCell alloc_setCell_lt
noncomputable def takeQ (laws:List Law) (s:St) (co:Nat) (last:Int) (d:Deed):St×Int:=
 if decide (60<=co)then(s,8)else if decide (d.day<last)then(s,9)else takeD laws s d
def TakenPost (base b:Nat) (x:St×Int) (day la co:Int) (w:World) (e:Ending) (w':World):Prop:=
 e= .returned (.int .i64 x.2)/\WldAt base w' b x.1 (if x.2=0 then day else la) (if x.2=0 then co+1 else co)/\Below base w w'
theorem wldC_tick {W:World} {b d c p wl r:Nat} {mv tv:Value} {la co:Int} (h:WldC W b d c p wl r mv tv la co) (la' co':Int):WldC ((W.setCell ⟨b,7,none⟩ (.int .i64 la')).setCell ⟨b,8,none⟩ (.int .i64 co')) b d c p wl r mv tv la' co':=by
 unfold WldC at*
 have:=Joins.block_setCell (i:=8) (Joins.block_setCell (i:=7) h (.int .i64 la')) (.int .i64 co')
 simpa using this
theorem wld_tick {base b:Nat} {W:World} {s:St} {la co:Int} (h:WldAt base W b s la co) (la' co':Int):WldAt base ((W.setCell ⟨b,7,none⟩ (.int .i64 la')).setCell ⟨b,8,none⟩ (.int .i64 co')) b s la' co':=by
 obtain⟨B,d,c,p,wl,r,mv,tv,ps,h1,h2,h3,h4⟩:=h
 have hg:W.grownBy ((W.setCell ⟨b,7,none⟩ (.int .i64 la')).setCell ⟨b,8,none⟩ (.int .i64 co')) (some b):=grown_trans (grown_set W b 7 _) (grown_set _ b 8 _)
 exact⟨B,d,c,p,wl,r,mv,tv,ps,h1,wldC_tick h2 la' co',h3.kept hg h2 (by decide) (by decide) (by decide),h4.kept hg h2 (by decide) (by decide) (by decide) (by decide)⟩
theorem wrap_k {k:Nat} (h:k<1000):wrap64 ((k:Int)+1)=(k:Int)+1:=by
 unfold wrap64
 omega
theorem wrap_k2 {k:Nat} (h:k<1000):IntKind.i64.wrap ((k:Int)+1)=(k:Int)+1:=by
 rw[IntKind.wrap_i64]
 omega
theorem wld_drew {base b:Nat} {W:World} {s:St} {la co:Int} (h:WldAt base W b s la co):WldAt base W.drew b s la co:=h.keep (n:=W.heap.size) ⟨rfl,rfl,rfl,Nat.le_refl _,fun _ _=>rfl⟩
theorem taken_ok {base b:Nat} {s':St} {day la co:Int} {w w':World} (h:WldAt base w' b s' day (co+1)) (hB:Below base w w'):TakenPost base b (s',0) day la co w (.returned (.int .i64 0)) w':=⟨rfl,by simpa using h,hB⟩
theorem taken_no {base b:Nat} {s':St} {day la co er:Int} {w w':World} (h0:er≠0) (h:WldAt base w' b s' la co) (hB:Below base w w'):TakenPost base b (s',er) day la co w (.returned (.int .i64 er)) w':=⟨rfl,by simpa[h0]using h,hB⟩
theorem B_alloc_drop {base:Nat} {w w':World} {o:Obj} (h:Below base (w.alloc o) w') (hb:base<=w.heap.size):Below base w w':=Below.trans (B_alloc (Below.refl _ _) _ (by omega)) h
set_option maxRecDepth 100000 in
set_option maxHeartbeats 2000000 in
theorem take_any (base b:Nat) (s:St) (k:Nat) (last:Int) (laws:List Law) (LA:Option Addr) (lc:Nat) (d:Deed) (B:Option Addr) (c:Nat) (w:World) (hW:WldAt base w b s last k) (hGS:GoodSt s last) (hF:FewS k s) (hd:OkD d) (hlw:checkLawsP laws=0) (hL:LensIn w) (hLS:Sl w 4 Law.cells LA laws) (hcap:d.to.length<=c) (hS:Sl w 3 RPart.cells B d.to):
 Calls Tryz.prog 37 #[.pointer (some ⟨b,0,none⟩), .slice LA laws.length lc,d.v B c] w (TakenPost base b (takeQ laws s k last d) d.day last k w):=by
 have hW0:=hW
 obtain⟨Bk,dd,cc,pp,wl,rr,mv,tv,ps,hb0,hC,hP,hT⟩:=hW
 have hbl:=blk_lt hC
 have hkd:=hd.kind
 have HW:=Lib.hid hW0
 unfold WldC at hC
 have c7:w.cell? ⟨b,7,none⟩=some (.int .i64 last):=by simp only[World.cell?,hC];rfl
 have c8:w.cell? ⟨b,8,none⟩=some (.int .i64 k):=by simp only[World.cell?,hC];rfl
 clear hC hP hT hW0
 by_cases h60:60<=k
 ·have hx:takeQ laws s k last d=(s,8):=by simp[takeQ,h60]
  rw[hx]
  obtain⟨kd,dy,pl,fr,ts,cl,yr⟩:=d
  have hk6:(60:Int)<=(k:Int):=by omega
  clear hd hx hGS hF hLS hS hkd hL hlw hcap
  unfold Deed.v
  simp only
  go_enter Tryz.func37,Tryz.ntmps37
  go_wp2_with fail
  go_ret
  exact⟨rfl,HW.out.keep (n:=w.heap.size) Bw,Below.mono (B:=w.heap.size) Bw (by omega)⟩
 have hk6: ¬(60:Int)<=(k:Int):=by omega
 have hk10:k<1000:=by omega
 by_cases hlt:d.day<last
 ·have hx:takeQ laws s k last d=(s,9):=by simp[takeQ,h60,hlt]
  rw[hx]
  obtain⟨kd,dy,pl,fr,ts,cl,yr⟩:=d
  simp only at hlt
  clear hd hx hGS hF hLS hS hkd hL hlw hcap
  unfold Deed.v
  simp only
  go_enter Tryz.func37,Tryz.ntmps37
  go_upto_region 3 with fail
  go_quiet (fail)
  go_wp2_with fail
  go_ret
  exact⟨rfl,HW.out.keep (n:=w.heap.size) Bw,Below.mono (B:=w.heap.size) Bw (by omega)⟩
 have hx:takeQ laws s k last d=takeD laws s d:=by simp[takeQ,h60,hlt]
 rw[hx]
 clear hx
 have hle:last<=d.day:=by omega
 have hgl:=hF.graves
 have hcl:=hF.kids
 have hml:=hF.marr
 have hwl:=hF.wills d.frm
 have hhe: ∀g∈s.graves,g.holders.length<=10000:=fun g hg=>by have:=(hF.held g hg).1;omega
 have hhd: ∀g∈s.graves,g.holders.length<=70000/\g.died.length<=1000:=fun g hg=>by have:=hF.held g hg;omega
 have hll:laws.length<=10:=by
  unfold checkLawsP at hlw
  split at hlw
  ·cases hlw
  ·rename_i h;simpa using h
 have hfin: ∀g∈s.graves,g.fin<=200000:=fun g hg=>(hF.held g hg).2.2
 have hsh:=law_share hlw d.day
 have HGS:=Lib.hid hGS
 have HF:=Lib.hid (And.intro hhe (And.intro hhd hfin))
 have HOD:=Lib.hid hd
 have HLI:=Lib.hid hL
 have HLS:=Lib.hid hLS
 have HSS:=Lib.hid hS
 have HLW:=Lib.hid hsh
 have e0: ∀W:World,takeD laws s d=takeD laws s d:=fun _=>rfl
 clear hGS hF hd hL hLS hS hlw hsh hhe hhd hfin e0
 have hkk:d.kind=0\/d.kind=1\/d.kind=2\/d.kind=3\/d.kind=4\/d.kind=5\/d.kind=6\/d.kind=7\/d.kind=8:=by omega
 clear hkd
 obtain⟨kd,dy,pl,fr,ts,cl,yr⟩:=d
 simp only at hlt hle hkk hcap hwl
 rcases hkk with rfl|rfl|rfl|rfl|rfl|rfl|rfl|rfl|rfl
 ·have hcl: ∀W,Below w.heap.size w W->Calls Tryz.prog 81 #[.pointer (some ⟨b,0,none⟩), .agg #[.int .i64 0, .int .i64 dy, .string pl, .string fr, .slice B ts.length c, .int .i64 cl, .int .i64 yr]] W (TakePost base b (takeD laws s ⟨0,dy,pl,fr,ts,cl,yr⟩) last k W):=fun W hB=>by
   rw[show takeD laws s ⟨0,dy,pl,fr,ts,cl,yr⟩=grantP s ⟨0,dy,pl,fr,ts,cl,yr⟩from by simp[takeD]]
   exact grant_any base b s last k ⟨0,dy,pl,fr,ts,cl,yr⟩ B c W (HW.out.keep hB) (HLI.out.keep hB) HOD.out rfl (by omega) hcap (HSS.out.keep hB)
  generalize takeD laws s ⟨0,dy,pl,fr,ts,cl,yr⟩=X at*
  have HCL:=Lib.hid hcl
  clear hcl HGS HF HOD HLI HLS HSS HLW
  obtain⟨s',er⟩:=X
  unfold Deed.v
  simp only
  go_enter Tryz.func37,Tryz.ntmps37
  go_upto_region 3 with fail
  go_quiet (fail)
  go_upto_region 18 with
   (go_at_call 81
    go_must(refine(HCL.out _ Bw).mono ?_)
    rintro e wq ⟨rfl,hW,hB,hK⟩
    have h0:=((hK w.heap.size _ _ (J_new _ _ _ rfl)).trans (J_new _ _ _ rfl))
    obtain⟨Bk',d',c',p',wl',r',mv',tv',ps',hb0',hC',hP',hT'⟩:=id hW
    have HW':=Lib.hid hW
    have HC':=Lib.hid hC'
    have HB':=Lib.hid hB
    have HH0:=Lib.hid h0
    clear hW hB hK h0 hP' hT' hC')
  have d1:wq.cell? ⟨w.heap.size,1,none⟩=some (.int .i64 dy):=by simp only[World.cell?,HH0.out];rfl
  have hC2:=HC'.out
  have hbl2:=blk_lt hC2
  have hdl2:=blk_lt HH0.out
  unfold WldC at hC2
  have z7:wq.cell? ⟨b,7,none⟩=some (.int .i64 last):=by simp only[World.cell?,hC2];rfl
  have z8:wq.cell? ⟨b,8,none⟩=some (.int .i64 k):=by simp only[World.cell?,hC2];rfl
  have f7:wq.frozen? ⟨b,7,none⟩=false:=by simp only[World.frozen?,hC2];rfl
  have f8:wq.frozen? ⟨b,8,none⟩=false:=by simp only[World.frozen?,hC2];rfl
  have hwb:w.heap.size≠b:=fun e=>Nat.lt_irrefl _ (e▸hbl)
  clear hC2
  have hBB:Below base w wq:=Below.trans (Below.mono (B:=w.heap.size) Bw (Nat.le_of_lt (Nat.lt_of_le_of_lt hb0 hbl))) HB'.out
  have HBB:=Lib.hid hBB
  clear hBB
  by_cases h0:er=0
  ·subst h0
   have hw9:=wrap_k hk10
   have hw8:=wrap_k2 hk10
   go_wp2_with fail
   go_region
   all_goals go_wp2_with fail
   all_goals go_ret
   all_goals exact taken_ok (wld_drew (wld_tick HW'.out dy ((k:Int)+1))) (B_drew (B_set (B_set HBB.out hb0' _) hb0' _))
  ·go_wp2_with fail
   go_ret
   exact taken_no h0 HW'.out HBB.out
 ·have hcl: ∀W,Below w.heap.size w W->Calls Tryz.prog 82 #[.pointer (some ⟨b,0,none⟩), .agg #[.int .i64 1, .int .i64 dy, .string pl, .string fr, .slice B ts.length c, .int .i64 cl, .int .i64 yr]] W (TakePost base b (takeD laws s ⟨1,dy,pl,fr,ts,cl,yr⟩) last k W):=fun W hB=>by
   rw[show takeD laws s ⟨1,dy,pl,fr,ts,cl,yr⟩=transferP s ⟨1,dy,pl,fr,ts,cl,yr⟩from by simp[takeD]]
   exact transfer_any base b s last k last ⟨1,dy,pl,fr,ts,cl,yr⟩ B c W (HW.out.keep hB) HGS.out HOD.out rfl (by omega) HF.out.1 hcap (HSS.out.keep hB)
  generalize takeD laws s ⟨1,dy,pl,fr,ts,cl,yr⟩=X at*
  have HCL:=Lib.hid hcl
  clear hcl HGS HF HOD HLI HLS HSS HLW
  obtain⟨s',er⟩:=X
  unfold Deed.v
  simp only
  go_enter Tryz.func37,Tryz.ntmps37
  go_upto_region 3 with fail
  go_quiet (fail)
  go_upto_region 18 with
   (go_at_call 82
    go_must(refine(HCL.out _ Bw).mono ?_)
    rintro e wq ⟨rfl,hW,hB,hK⟩
    have h0:=((hK w.heap.size _ _ (J_new _ _ _ rfl)).trans (J_new _ _ _ rfl))
    obtain⟨Bk',d',c',p',wl',r',mv',tv',ps',hb0',hC',hP',hT'⟩:=id hW
    have HW':=Lib.hid hW
    have HC':=Lib.hid hC'
    have HB':=Lib.hid hB
    have HH0:=Lib.hid h0
    clear hW hB hK h0 hP' hT' hC')
  have d1:wq.cell? ⟨w.heap.size,1,none⟩=some (.int .i64 dy):=by simp only[World.cell?,HH0.out];rfl
  have hC2:=HC'.out
  have hbl2:=blk_lt hC2
  have hdl2:=blk_lt HH0.out
  unfold WldC at hC2
  have z7:wq.cell? ⟨b,7,none⟩=some (.int .i64 last):=by simp only[World.cell?,hC2];rfl
  have z8:wq.cell? ⟨b,8,none⟩=some (.int .i64 k):=by simp only[World.cell?,hC2];rfl
  have f7:wq.frozen? ⟨b,7,none⟩=false:=by simp only[World.frozen?,hC2];rfl
  have f8:wq.frozen? ⟨b,8,none⟩=false:=by simp only[World.frozen?,hC2];rfl
  have hwb:w.heap.size≠b:=fun e=>Nat.lt_irrefl _ (e▸hbl)
  clear hC2
  have hBB:Below base w wq:=Below.trans (Below.mono (B:=w.heap.size) Bw (Nat.le_of_lt (Nat.lt_of_le_of_lt hb0 hbl))) HB'.out
  have HBB:=Lib.hid hBB
  clear hBB
  by_cases h0:er=0
  ·subst h0
   have hw9:=wrap_k hk10
   have hw8:=wrap_k2 hk10
   go_wp2_with fail
   go_region
   all_goals go_wp2_with fail
   all_goals go_ret
   all_goals exact taken_ok (wld_drew (wld_tick HW'.out dy ((k:Int)+1))) (B_drew (B_set (B_set HBB.out hb0' _) hb0' _))
  ·go_wp2_with fail
   go_ret
   exact taken_no h0 HW'.out HBB.out
 ·have hcl: ∀W,Below w.heap.size w W->Calls Tryz.prog 83 #[.pointer (some ⟨b,0,none⟩), .agg #[.int .i64 2, .int .i64 dy, .string pl, .string fr, .slice B ts.length c, .int .i64 cl, .int .i64 yr]] W (TakePost base b (takeD laws s ⟨2,dy,pl,fr,ts,cl,yr⟩) last k W):=fun W hB=>by
   rw[show takeD laws s ⟨2,dy,pl,fr,ts,cl,yr⟩=surrenderP s ⟨2,dy,pl,fr,ts,cl,yr⟩from by simp[takeD]]
   exact surrender_any base b s last k last ⟨2,dy,pl,fr,ts,cl,yr⟩ B c W (HW.out.keep hB) HGS.out (by omega) HF.out.1
  generalize takeD laws s ⟨2,dy,pl,fr,ts,cl,yr⟩=X at*
  have HCL:=Lib.hid hcl
  clear hcl HGS HF HOD HLI HLS HSS HLW
  obtain⟨s',er⟩:=X
  unfold Deed.v
  simp only
  go_enter Tryz.func37,Tryz.ntmps37
  go_upto_region 3 with fail
  go_quiet (fail)
  go_upto_region 18 with
   (go_at_call 83
    go_must(refine(HCL.out _ Bw).mono ?_)
    rintro e wq ⟨rfl,hW,hB,hK⟩
    have h0:=((hK w.heap.size _ _ (J_new _ _ _ rfl)).trans (J_new _ _ _ rfl))
    obtain⟨Bk',d',c',p',wl',r',mv',tv',ps',hb0',hC',hP',hT'⟩:=id hW
    have HW':=Lib.hid hW
    have HC':=Lib.hid hC'
    have HB':=Lib.hid hB
    have HH0:=Lib.hid h0
    clear hW hB hK h0 hP' hT' hC')
  have d1:wq.cell? ⟨w.heap.size,1,none⟩=some (.int .i64 dy):=by simp only[World.cell?,HH0.out];rfl
  have hC2:=HC'.out
  have hbl2:=blk_lt hC2
  have hdl2:=blk_lt HH0.out
  unfold WldC at hC2
  have z7:wq.cell? ⟨b,7,none⟩=some (.int .i64 last):=by simp only[World.cell?,hC2];rfl
  have z8:wq.cell? ⟨b,8,none⟩=some (.int .i64 k):=by simp only[World.cell?,hC2];rfl
  have f7:wq.frozen? ⟨b,7,none⟩=false:=by simp only[World.frozen?,hC2];rfl
  have f8:wq.frozen? ⟨b,8,none⟩=false:=by simp only[World.frozen?,hC2];rfl
  have hwb:w.heap.size≠b:=fun e=>Nat.lt_irrefl _ (e▸hbl)
  clear hC2
  have hBB:Below base w wq:=Below.trans (Below.mono (B:=w.heap.size) Bw (Nat.le_of_lt (Nat.lt_of_le_of_lt hb0 hbl))) HB'.out
  have HBB:=Lib.hid hBB
  clear hBB
  by_cases h0:er=0
  ·subst h0
   have hw9:=wrap_k hk10
   have hw8:=wrap_k2 hk10
   go_wp2_with fail
   go_region
   all_goals go_wp2_with fail
   all_goals go_ret
   all_goals exact taken_ok (wld_drew (wld_tick HW'.out dy ((k:Int)+1))) (B_drew (B_set (B_set HBB.out hb0' _) hb0' _))
  ·go_wp2_with fail
   go_ret
   exact taken_no h0 HW'.out HBB.out
 ·have hcl: ∀W,Below w.heap.size w W->Calls Tryz.prog 84 #[.pointer (some ⟨b,0,none⟩), .agg #[.int .i64 3, .int .i64 dy, .string pl, .string fr, .slice B ts.length c, .int .i64 cl, .int .i64 yr]] W (TakePost base b (takeD laws s ⟨3,dy,pl,fr,ts,cl,yr⟩) last k W):=fun W hB=>by
   rw[show takeD laws s ⟨3,dy,pl,fr,ts,cl,yr⟩=renewP s ⟨3,dy,pl,fr,ts,cl,yr⟩from by simp[takeD]]
   exact renewal_any base b s last k last ⟨3,dy,pl,fr,ts,cl,yr⟩ B c W (HW.out.keep hB) (HLI.out.keep hB) HOD.out (by omega) HF.out.2.2
  generalize takeD laws s ⟨3,dy,pl,fr,ts,cl,yr⟩=X at*
  have HCL:=Lib.hid hcl
  clear hcl HGS HF HOD HLI HLS HSS HLW
  obtain⟨s',er⟩:=X
  unfold Deed.v
  simp only
  go_enter Tryz.func37,Tryz.ntmps37
  go_upto_region 3 with fail
  go_quiet (fail)
  go_upto_region 18 with
   (go_at_call 84
    go_must(refine(HCL.out _ Bw).mono ?_)
    rintro e wq ⟨rfl,hW,hB,hK⟩
    have h0:=((hK w.heap.size _ _ (J_new _ _ _ rfl)).trans (J_new _ _ _ rfl))
    obtain⟨Bk',d',c',p',wl',r',mv',tv',ps',hb0',hC',hP',hT'⟩:=id hW
    have HW':=Lib.hid hW
    have HC':=Lib.hid hC'
    have HB':=Lib.hid hB
    have HH0:=Lib.hid h0
    clear hW hB hK h0 hP' hT' hC')
  have d1:wq.cell? ⟨w.heap.size,1,none⟩=some (.int .i64 dy):=by simp only[World.cell?,HH0.out];rfl
  have hC2:=HC'.out
  have hbl2:=blk_lt hC2
  have hdl2:=blk_lt HH0.out
  unfold WldC at hC2
  have z7:wq.cell? ⟨b,7,none⟩=some (.int .i64 last):=by simp only[World.cell?,hC2];rfl
  have z8:wq.cell? ⟨b,8,none⟩=some (.int .i64 k):=by simp only[World.cell?,hC2];rfl
  have f7:wq.frozen? ⟨b,7,none⟩=false:=by simp only[World.frozen?,hC2];rfl
  have f8:wq.frozen? ⟨b,8,none⟩=false:=by simp only[World.frozen?,hC2];rfl
  have hwb:w.heap.size≠b:=fun e=>Nat.lt_irrefl _ (e▸hbl)
  clear hC2
  have hBB:Below base w wq:=Below.trans (Below.mono (B:=w.heap.size) Bw (Nat.le_of_lt (Nat.lt_of_le_of_lt hb0 hbl))) HB'.out
  have HBB:=Lib.hid hBB
  clear hBB
  by_cases h0:er=0
  ·subst h0
   have hw9:=wrap_k hk10
   have hw8:=wrap_k2 hk10
   go_wp2_with fail
   go_region
   all_goals go_wp2_with fail
   all_goals go_ret
   all_goals exact taken_ok (wld_drew (wld_tick HW'.out dy ((k:Int)+1))) (B_drew (B_set (B_set HBB.out hb0' _) hb0' _))
  ·go_wp2_with fail
   go_ret
   exact taken_no h0 HW'.out HBB.out
 ·have hcl: ∀W,Below w.heap.size w W->Calls Tryz.prog 86 #[.pointer (some ⟨b,0,none⟩), .agg #[.int .i64 4, .int .i64 dy, .string pl, .string fr, .slice B ts.length c, .int .i64 cl, .int .i64 yr]] W (TakePost base b (takeD laws s ⟨4,dy,pl,fr,ts,cl,yr⟩) last k W):=fun W hB=>by
   rw[show takeD laws s ⟨4,dy,pl,fr,ts,cl,yr⟩=willP s ⟨4,dy,pl,fr,ts,cl,yr⟩from by simp[takeD]]
   exact will_any base b s last k ⟨4,dy,pl,fr,ts,cl,yr⟩ B c W (HW.out.keep hB) HOD.out rfl (HSS.out.keep hB)
  generalize takeD laws s ⟨4,dy,pl,fr,ts,cl,yr⟩=X at*
  have HCL:=Lib.hid hcl
  clear hcl HGS HF HOD HLI HLS HSS HLW
  obtain⟨s',er⟩:=X
  unfold Deed.v
  simp only
  go_enter Tryz.func37,Tryz.ntmps37
  go_upto_region 3 with fail
  go_quiet (fail)
  go_upto_region 7 with fail
  refine wp_region_held_drew (S:=(fun w'=>w'.cell? ⟨w.heap.size,0,none⟩=some (.int .i64 4)/\w'.cell? ⟨w.heap.size,1,none⟩=some (.int .i64 dy)/\w'.cell? ⟨w.heap.size,2,none⟩=some (.string pl)/\w'.cell? ⟨w.heap.size,3,none⟩=some (.string fr)/\w'.cell? ⟨w.heap.size,4,none⟩=some (.slice B ts.length c)/\w'.cell? ⟨w.heap.size,5,none⟩=some (.int .i64 cl)/\w'.cell? ⟨w.heap.size,6,none⟩=some (.int .i64 yr))) (by kernel_rfl) ?hS4 ?hrest4
  case hS4=>refine⟨?_,?_,?_,?_,?_,?_,?_⟩<;>(simp[go_sem];done)
  intro hHeld
  refine TkH 0 ?_
  refine TkH 1 ?_
  refine TkH 2 ?_
  refine TkH 3 ?_
  refine wpAnyH_ready (rs:=[4]) (by kernel_rfl) (by simp) (AllReadyH.cons (List.getElem?_toArray.trans rfl) (fun K hK=> ?_) AllReadyH.nil)
  go_simp
  refine(HCL.out _ Bw).mono ?_
  rintro e wq ⟨rfl,hW,hB,hK⟩
  have h0:=((hK w.heap.size _ _ (J_new _ _ _ rfl)).trans (J_new _ _ _ rfl))
  obtain⟨Bk',d',c',p',wl',r',mv',tv',ps',hb0',hC',hP',hT'⟩:=id hW
  have HW':=Lib.hid hW
  have HC':=Lib.hid hC'
  have HB':=Lib.hid hB
  have HH0:=Lib.hid h0
  have d0:wq.cell? ⟨w.heap.size,0,none⟩=some (.int .i64 4):=(by simp only[World.cell?,h0];rfl)
  have d1:wq.cell? ⟨w.heap.size,1,none⟩=some (.int .i64 dy):=(by simp only[World.cell?,h0];rfl)
  have d2:wq.cell? ⟨w.heap.size,2,none⟩=some (.string pl):=(by simp only[World.cell?,h0];rfl)
  have d3:wq.cell? ⟨w.heap.size,3,none⟩=some (.string fr):=(by simp only[World.cell?,h0];rfl)
  have d4:wq.cell? ⟨w.heap.size,4,none⟩=some (.slice B ts.length c):=(by simp only[World.cell?,h0];rfl)
  have d5:wq.cell? ⟨w.heap.size,5,none⟩=some (.int .i64 cl):=(by simp only[World.cell?,h0];rfl)
  have d6:wq.cell? ⟨w.heap.size,6,none⟩=some (.int .i64 yr):=(by simp only[World.cell?,h0];rfl)
  clear hW hB hK h0 hP' hT' hC'
  refine hK.out _ _ ?_ (fun hHeld=> ?_)
  focus((try dsimp only);exact⟨d0,d1,d2,d3,d4,d5,d6⟩)
  clear hK K
  try simp only[Act.put,List.setIfInBounds_toArray,List.set_cons_zero,List.set_cons_succ]
  refine wpAnyH_ready (rs:=[5]) (by kernel_rfl) (by simp) (AllReadyH.cons (List.getElem?_toArray.trans rfl) (fun K hK=> ?_) AllReadyH.nil)
  go_simp
  refine hK.out _ _ ?_ (fun hHeld=> ?_)
  focus((try dsimp only);exact⟨d0,d1,d2,d3,d4,d5,d6⟩)
  clear hK K
  try simp only[Act.put,List.setIfInBounds_toArray,List.set_cons_zero,List.set_cons_succ]
  refine wpAnyH_done (by kernel_rfl) ?_ _
  clear d0 d2 d3 d4 d5 d6 d1
  go_upto_region 18 with fail
  have d1:wq.cell? ⟨w.heap.size,1,none⟩=some (.int .i64 dy):=by simp only[World.cell?,HH0.out];rfl
  have hC2:=HC'.out
  have hbl2:=blk_lt hC2
  have hdl2:=blk_lt HH0.out
  unfold WldC at hC2
  have z7:wq.cell? ⟨b,7,none⟩=some (.int .i64 last):=by simp only[World.cell?,hC2];rfl
  have z8:wq.cell? ⟨b,8,none⟩=some (.int .i64 k):=by simp only[World.cell?,hC2];rfl
  have f7:wq.frozen? ⟨b,7,none⟩=false:=by simp only[World.frozen?,hC2];rfl
  have f8:wq.frozen? ⟨b,8,none⟩=false:=by simp only[World.frozen?,hC2];rfl
  have hwb:w.heap.size≠b:=fun e=>Nat.lt_irrefl _ (e▸hbl)
  clear hC2
  have hBB:Below base w wq:=Below.trans (Below.mono (B:=w.heap.size) Bw (Nat.le_of_lt (Nat.lt_of_le_of_lt hb0 hbl))) HB'.out
  have HBB:=Lib.hid hBB
  clear hBB
  by_cases h0:er=0
  ·subst h0
   have hw9:=wrap_k hk10
   have hw8:=wrap_k2 hk10
   go_wp2_with fail
   go_region
   all_goals go_wp2_with fail
   all_goals go_ret
   all_goals exact taken_ok (wld_drew (wld_tick HW'.out dy ((k:Int)+1))) (B_drew (B_set (B_set HBB.out hb0' _) hb0' _))
  ·go_wp2_with fail
   go_ret
   exact taken_no h0 HW'.out HBB.out
 ·have hcl: ∀W,Below w.heap.size w W->Calls Tryz.prog 86 #[.pointer (some ⟨b,0,none⟩), .agg #[.int .i64 5, .int .i64 dy, .string pl, .string fr, .slice B ts.length c, .int .i64 cl, .int .i64 yr]] W (TakePost base b (takeD laws s ⟨5,dy,pl,fr,ts,cl,yr⟩) last k W):=fun W hB=>by
   rw[show takeD laws s ⟨5,dy,pl,fr,ts,cl,yr⟩=renounceP s ⟨5,dy,pl,fr,ts,cl,yr⟩from by simp[takeD]]
   exact renounce_any base b s last k ⟨5,dy,pl,fr,ts,cl,yr⟩ B c W (HW.out.keep hB) HOD.out rfl hcap (HSS.out.keep hB)
  generalize takeD laws s ⟨5,dy,pl,fr,ts,cl,yr⟩=X at*
  have HCL:=Lib.hid hcl
  clear hcl HGS HF HOD HLI HLS HSS HLW
  obtain⟨s',er⟩:=X
  unfold Deed.v
  simp only
  go_enter Tryz.func37,Tryz.ntmps37
  go_upto_region 3 with fail
  go_quiet (fail)
  go_upto_region 7 with fail
  refine wp_region_held_drew (S:=(fun w'=>w'.cell? ⟨w.heap.size,0,none⟩=some (.int .i64 5)/\w'.cell? ⟨w.heap.size,1,none⟩=some (.int .i64 dy)/\w'.cell? ⟨w.heap.size,2,none⟩=some (.string pl)/\w'.cell? ⟨w.heap.size,3,none⟩=some (.string fr)/\w'.cell? ⟨w.heap.size,4,none⟩=some (.slice B ts.length c)/\w'.cell? ⟨w.heap.size,5,none⟩=some (.int .i64 cl)/\w'.cell? ⟨w.heap.size,6,none⟩=some (.int .i64 yr))) (by kernel_rfl) ?hS5 ?hrest5
  case hS5=>refine⟨?_,?_,?_,?_,?_,?_,?_⟩<;>(simp[go_sem];done)
  intro hHeld
  refine TkH 0 ?_
  refine TkH 1 ?_
  refine TkH 2 ?_
  refine TkH 3 ?_
  refine wpAnyH_ready (rs:=[4]) (by kernel_rfl) (by simp) (AllReadyH.cons (List.getElem?_toArray.trans rfl) (fun K hK=> ?_) AllReadyH.nil)
  go_simp
  refine(HCL.out _ Bw).mono ?_
  rintro e wq ⟨rfl,hW,hB,hK⟩
  have h0:=((hK w.heap.size _ _ (J_new _ _ _ rfl)).trans (J_new _ _ _ rfl))
  obtain⟨Bk',d',c',p',wl',r',mv',tv',ps',hb0',hC',hP',hT'⟩:=id hW
  have HW':=Lib.hid hW
  have HC':=Lib.hid hC'
  have HB':=Lib.hid hB
  have HH0:=Lib.hid h0
  have d0:wq.cell? ⟨w.heap.size,0,none⟩=some (.int .i64 5):=(by simp only[World.cell?,h0];rfl)
  have d1:wq.cell? ⟨w.heap.size,1,none⟩=some (.int .i64 dy):=(by simp only[World.cell?,h0];rfl)
  have d2:wq.cell? ⟨w.heap.size,2,none⟩=some (.string pl):=(by simp only[World.cell?,h0];rfl)
  have d3:wq.cell? ⟨w.heap.size,3,none⟩=some (.string fr):=(by simp only[World.cell?,h0];rfl)
  have d4:wq.cell? ⟨w.heap.size,4,none⟩=some (.slice B ts.length c):=(by simp only[World.cell?,h0];rfl)
  have d5:wq.cell? ⟨w.heap.size,5,none⟩=some (.int .i64 cl):=(by simp only[World.cell?,h0];rfl)
  have d6:wq.cell? ⟨w.heap.size,6,none⟩=some (.int .i64 yr):=(by simp only[World.cell?,h0];rfl)
  clear hW hB hK h0 hP' hT' hC'
  refine hK.out _ _ ?_ (fun hHeld=> ?_)
  focus((try dsimp only);exact⟨d0,d1,d2,d3,d4,d5,d6⟩)
  clear hK K
  try simp only[Act.put,List.setIfInBounds_toArray,List.set_cons_zero,List.set_cons_succ]
  refine wpAnyH_ready (rs:=[5]) (by kernel_rfl) (by simp) (AllReadyH.cons (List.getElem?_toArray.trans rfl) (fun K hK=> ?_) AllReadyH.nil)
  go_simp
  refine hK.out _ _ ?_ (fun hHeld=> ?_)
  focus((try dsimp only);exact⟨d0,d1,d2,d3,d4,d5,d6⟩)
  clear hK K
  try simp only[Act.put,List.setIfInBounds_toArray,List.set_cons_zero,List.set_cons_succ]
  refine wpAnyH_done (by kernel_rfl) ?_ _
  clear d0 d2 d3 d4 d5 d6 d1
  go_upto_region 18 with fail
  have d1:wq.cell? ⟨w.heap.size,1,none⟩=some (.int .i64 dy):=by simp only[World.cell?,HH0.out];rfl
  have hC2:=HC'.out
  have hbl2:=blk_lt hC2
  have hdl2:=blk_lt HH0.out
  unfold WldC at hC2
  have z7:wq.cell? ⟨b,7,none⟩=some (.int .i64 last):=by simp only[World.cell?,hC2];rfl
  have z8:wq.cell? ⟨b,8,none⟩=some (.int .i64 k):=by simp only[World.cell?,hC2];rfl
  have f7:wq.frozen? ⟨b,7,none⟩=false:=by simp only[World.frozen?,hC2];rfl
  have f8:wq.frozen? ⟨b,8,none⟩=false:=by simp only[World.frozen?,hC2];rfl
  have hwb:w.heap.size≠b:=fun e=>Nat.lt_irrefl _ (e▸hbl)
  clear hC2
  have hBB:Below base w wq:=Below.trans (Below.mono (B:=w.heap.size) Bw (Nat.le_of_lt (Nat.lt_of_le_of_lt hb0 hbl))) HB'.out
  have HBB:=Lib.hid hBB
  clear hBB
  by_cases h0:er=0
  ·subst h0
   have hw9:=wrap_k hk10
   have hw8:=wrap_k2 hk10
   go_wp2_with fail
   go_region
   all_goals go_wp2_with fail
   all_goals go_ret
   all_goals exact taken_ok (wld_drew (wld_tick HW'.out dy ((k:Int)+1))) (B_drew (B_set (B_set HBB.out hb0' _) hb0' _))
  ·go_wp2_with fail
   go_ret
   exact taken_no h0 HW'.out HBB.out
 ·have hcl: ∀W,Below w.heap.size w W->Calls Tryz.prog 86 #[.pointer (some ⟨b,0,none⟩), .agg #[.int .i64 6, .int .i64 dy, .string pl, .string fr, .slice B ts.length c, .int .i64 cl, .int .i64 yr]] W (TakePost base b (takeD laws s ⟨6,dy,pl,fr,ts,cl,yr⟩) last k W):=fun W hB=>by
   rw[show takeD laws s ⟨6,dy,pl,fr,ts,cl,yr⟩=childP s ⟨6,dy,pl,fr,ts,cl,yr⟩from by simp[takeD]]
   exact child_any base b s last k ⟨6,dy,pl,fr,ts,cl,yr⟩ B c W (HW.out.keep hB) HOD.out rfl hcap (HSS.out.keep hB) (by omega)
  generalize takeD laws s ⟨6,dy,pl,fr,ts,cl,yr⟩=X at*
  have HCL:=Lib.hid hcl
  clear hcl HGS HF HOD HLI HLS HSS HLW
  obtain⟨s',er⟩:=X
  unfold Deed.v
  simp only
  go_enter Tryz.func37,Tryz.ntmps37
  go_upto_region 3 with fail
  go_quiet (fail)
  go_upto_region 7 with fail
  refine wp_region_held_drew (S:=(fun w'=>w'.cell? ⟨w.heap.size,0,none⟩=some (.int .i64 6)/\w'.cell? ⟨w.heap.size,1,none⟩=some (.int .i64 dy)/\w'.cell? ⟨w.heap.size,2,none⟩=some (.string pl)/\w'.cell? ⟨w.heap.size,3,none⟩=some (.string fr)/\w'.cell? ⟨w.heap.size,4,none⟩=some (.slice B ts.length c)/\w'.cell? ⟨w.heap.size,5,none⟩=some (.int .i64 cl)/\w'.cell? ⟨w.heap.size,6,none⟩=some (.int .i64 yr))) (by kernel_rfl) ?hS6 ?hrest6
  case hS6=>refine⟨?_,?_,?_,?_,?_,?_,?_⟩<;>(simp[go_sem];done)
  intro hHeld
  refine TkH 0 ?_
  refine TkH 1 ?_
  refine TkH 2 ?_
  refine TkH 3 ?_
  refine wpAnyH_ready (rs:=[4]) (by kernel_rfl) (by simp) (AllReadyH.cons (List.getElem?_toArray.trans rfl) (fun K hK=> ?_) AllReadyH.nil)
  go_simp
  refine(HCL.out _ Bw).mono ?_
  rintro e wq ⟨rfl,hW,hB,hK⟩
  have h0:=((hK w.heap.size _ _ (J_new _ _ _ rfl)).trans (J_new _ _ _ rfl))
  obtain⟨Bk',d',c',p',wl',r',mv',tv',ps',hb0',hC',hP',hT'⟩:=id hW
  have HW':=Lib.hid hW
  have HC':=Lib.hid hC'
  have HB':=Lib.hid hB
  have HH0:=Lib.hid h0
  have d0:wq.cell? ⟨w.heap.size,0,none⟩=some (.int .i64 6):=(by simp only[World.cell?,h0];rfl)
  have d1:wq.cell? ⟨w.heap.size,1,none⟩=some (.int .i64 dy):=(by simp only[World.cell?,h0];rfl)
  have d2:wq.cell? ⟨w.heap.size,2,none⟩=some (.string pl):=(by simp only[World.cell?,h0];rfl)
  have d3:wq.cell? ⟨w.heap.size,3,none⟩=some (.string fr):=(by simp only[World.cell?,h0];rfl)
  have d4:wq.cell? ⟨w.heap.size,4,none⟩=some (.slice B ts.length c):=(by simp only[World.cell?,h0];rfl)
  have d5:wq.cell? ⟨w.heap.size,5,none⟩=some (.int .i64 cl):=(by simp only[World.cell?,h0];rfl)
  have d6:wq.cell? ⟨w.heap.size,6,none⟩=some (.int .i64 yr):=(by simp only[World.cell?,h0];rfl)
  clear hW hB hK h0 hP' hT' hC'
  refine hK.out _ _ ?_ (fun hHeld=> ?_)
  focus((try dsimp only);exact⟨d0,d1,d2,d3,d4,d5,d6⟩)
  clear hK K
  try simp only[Act.put,List.setIfInBounds_toArray,List.set_cons_zero,List.set_cons_succ]
  refine wpAnyH_ready (rs:=[5]) (by kernel_rfl) (by simp) (AllReadyH.cons (List.getElem?_toArray.trans rfl) (fun K hK=> ?_) AllReadyH.nil)
  go_simp
  refine hK.out _ _ ?_ (fun hHeld=> ?_)
  focus((try dsimp only);exact⟨d0,d1,d2,d3,d4,d5,d6⟩)
  clear hK K
  try simp only[Act.put,List.setIfInBounds_toArray,List.set_cons_zero,List.set_cons_succ]
  refine wpAnyH_done (by kernel_rfl) ?_ _
  clear d0 d2 d3 d4 d5 d6 d1
  go_upto_region 18 with fail
  have d1:wq.cell? ⟨w.heap.size,1,none⟩=some (.int .i64 dy):=by simp only[World.cell?,HH0.out];rfl
  have hC2:=HC'.out
  have hbl2:=blk_lt hC2
  have hdl2:=blk_lt HH0.out
  unfold WldC at hC2
  have z7:wq.cell? ⟨b,7,none⟩=some (.int .i64 last):=by simp only[World.cell?,hC2];rfl
  have z8:wq.cell? ⟨b,8,none⟩=some (.int .i64 k):=by simp only[World.cell?,hC2];rfl
  have f7:wq.frozen? ⟨b,7,none⟩=false:=by simp only[World.frozen?,hC2];rfl
  have f8:wq.frozen? ⟨b,8,none⟩=false:=by simp only[World.frozen?,hC2];rfl
  have hwb:w.heap.size≠b:=fun e=>Nat.lt_irrefl _ (e▸hbl)
  clear hC2
  have hBB:Below base w wq:=Below.trans (Below.mono (B:=w.heap.size) Bw (Nat.le_of_lt (Nat.lt_of_le_of_lt hb0 hbl))) HB'.out
  have HBB:=Lib.hid hBB
  clear hBB
  by_cases h0:er=0
  ·subst h0
   have hw9:=wrap_k hk10
   have hw8:=wrap_k2 hk10
   go_wp2_with fail
   go_region
   all_goals go_wp2_with fail
   all_goals go_ret
   all_goals exact taken_ok (wld_drew (wld_tick HW'.out dy ((k:Int)+1))) (B_drew (B_set (B_set HBB.out hb0' _) hb0' _))
  ·go_wp2_with fail
   go_ret
   exact taken_no h0 HW'.out HBB.out
 ·have hcl: ∀W,Below w.heap.size w W->Calls Tryz.prog 86 #[.pointer (some ⟨b,0,none⟩), .agg #[.int .i64 7, .int .i64 dy, .string pl, .string fr, .slice B ts.length c, .int .i64 cl, .int .i64 yr]] W (TakePost base b (takeD laws s ⟨7,dy,pl,fr,ts,cl,yr⟩) last k W):=fun W hB=>by
   rw[show takeD laws s ⟨7,dy,pl,fr,ts,cl,yr⟩=marryP s ⟨7,dy,pl,fr,ts,cl,yr⟩from by simp[takeD]]
   exact marry_any base b s last k ⟨7,dy,pl,fr,ts,cl,yr⟩ B c W (HW.out.keep hB) HOD.out rfl hcap (HSS.out.keep hB) (by omega)
  generalize takeD laws s ⟨7,dy,pl,fr,ts,cl,yr⟩=X at*
  have HCL:=Lib.hid hcl
  clear hcl HGS HF HOD HLI HLS HSS HLW
  obtain⟨s',er⟩:=X
  unfold Deed.v
  simp only
  go_enter Tryz.func37,Tryz.ntmps37
  go_upto_region 3 with fail
  go_quiet (fail)
  go_upto_region 7 with fail
  refine wp_region_held_drew (S:=(fun w'=>w'.cell? ⟨w.heap.size,0,none⟩=some (.int .i64 7)/\w'.cell? ⟨w.heap.size,1,none⟩=some (.int .i64 dy)/\w'.cell? ⟨w.heap.size,2,none⟩=some (.string pl)/\w'.cell? ⟨w.heap.size,3,none⟩=some (.string fr)/\w'.cell? ⟨w.heap.size,4,none⟩=some (.slice B ts.length c)/\w'.cell? ⟨w.heap.size,5,none⟩=some (.int .i64 cl)/\w'.cell? ⟨w.heap.size,6,none⟩=some (.int .i64 yr))) (by kernel_rfl) ?hS7 ?hrest7
  case hS7=>refine⟨?_,?_,?_,?_,?_,?_,?_⟩<;>(simp[go_sem];done)
  intro hHeld
  refine TkH 0 ?_
  refine TkH 1 ?_
  refine TkH 2 ?_
  refine TkH 3 ?_
  refine wpAnyH_ready (rs:=[4]) (by kernel_rfl) (by simp) (AllReadyH.cons (List.getElem?_toArray.trans rfl) (fun K hK=> ?_) AllReadyH.nil)
  go_simp
  refine(HCL.out _ Bw).mono ?_
  rintro e wq ⟨rfl,hW,hB,hK⟩
  have h0:=((hK w.heap.size _ _ (J_new _ _ _ rfl)).trans (J_new _ _ _ rfl))
  obtain⟨Bk',d',c',p',wl',r',mv',tv',ps',hb0',hC',hP',hT'⟩:=id hW
  have HW':=Lib.hid hW
  have HC':=Lib.hid hC'
  have HB':=Lib.hid hB
  have HH0:=Lib.hid h0
  have d0:wq.cell? ⟨w.heap.size,0,none⟩=some (.int .i64 7):=(by simp only[World.cell?,h0];rfl)
  have d1:wq.cell? ⟨w.heap.size,1,none⟩=some (.int .i64 dy):=(by simp only[World.cell?,h0];rfl)
  have d2:wq.cell? ⟨w.heap.size,2,none⟩=some (.string pl):=(by simp only[World.cell?,h0];rfl)
  have d3:wq.cell? ⟨w.heap.size,3,none⟩=some (.string fr):=(by simp only[World.cell?,h0];rfl)
  have d4:wq.cell? ⟨w.heap.size,4,none⟩=some (.slice B ts.length c):=(by simp only[World.cell?,h0];rfl)
  have d5:wq.cell? ⟨w.heap.size,5,none⟩=some (.int .i64 cl):=(by simp only[World.cell?,h0];rfl)
  have d6:wq.cell? ⟨w.heap.size,6,none⟩=some (.int .i64 yr):=(by simp only[World.cell?,h0];rfl)
  clear hW hB hK h0 hP' hT' hC'
  refine hK.out _ _ ?_ (fun hHeld=> ?_)
  focus((try dsimp only);exact⟨d0,d1,d2,d3,d4,d5,d6⟩)
  clear hK K
  try simp only[Act.put,List.setIfInBounds_toArray,List.set_cons_zero,List.set_cons_succ]
  refine wpAnyH_ready (rs:=[5]) (by kernel_rfl) (by simp) (AllReadyH.cons (List.getElem?_toArray.trans rfl) (fun K hK=> ?_) AllReadyH.nil)
  go_simp
  refine hK.out _ _ ?_ (fun hHeld=> ?_)
  focus((try dsimp only);exact⟨d0,d1,d2,d3,d4,d5,d6⟩)
  clear hK K
  try simp only[Act.put,List.setIfInBounds_toArray,List.set_cons_zero,List.set_cons_succ]
  refine wpAnyH_done (by kernel_rfl) ?_ _
  clear d0 d2 d3 d4 d5 d6 d1
  go_upto_region 18 with fail
  have d1:wq.cell? ⟨w.heap.size,1,none⟩=some (.int .i64 dy):=by simp only[World.cell?,HH0.out];rfl
  have hC2:=HC'.out
  have hbl2:=blk_lt hC2
  have hdl2:=blk_lt HH0.out
  unfold WldC at hC2
  have z7:wq.cell? ⟨b,7,none⟩=some (.int .i64 last):=by simp only[World.cell?,hC2];rfl
  have z8:wq.cell? ⟨b,8,none⟩=some (.int .i64 k):=by simp only[World.cell?,hC2];rfl
  have f7:wq.frozen? ⟨b,7,none⟩=false:=by simp only[World.frozen?,hC2];rfl
  have f8:wq.frozen? ⟨b,8,none⟩=false:=by simp only[World.frozen?,hC2];rfl
  have hwb:w.heap.size≠b:=fun e=>Nat.lt_irrefl _ (e▸hbl)
  clear hC2
  have hBB:Below base w wq:=Below.trans (Below.mono (B:=w.heap.size) Bw (Nat.le_of_lt (Nat.lt_of_le_of_lt hb0 hbl))) HB'.out
  have HBB:=Lib.hid hBB
  clear hBB
  by_cases h0:er=0
  ·subst h0
   have hw9:=wrap_k hk10
   have hw8:=wrap_k2 hk10
   go_wp2_with fail
   go_region
   all_goals go_wp2_with fail
   all_goals go_ret
   all_goals exact taken_ok (wld_drew (wld_tick HW'.out dy ((k:Int)+1))) (B_drew (B_set (B_set HBB.out hb0' _) hb0' _))
  ·go_wp2_with fail
   go_ret
   exact taken_no h0 HW'.out HBB.out
 ·have hcl: ∀W,Below w.heap.size w W->Calls Tryz.prog 85 #[.pointer (some ⟨b,0,none⟩), .slice LA laws.length lc, .agg #[.int .i64 8, .int .i64 dy, .string pl, .string fr, .slice B ts.length c, .int .i64 cl, .int .i64 yr]] W (TakePost base b (takeD laws s ⟨8,dy,pl,fr,ts,cl,yr⟩) last k W):=fun W hB=>by
   rw[show takeD laws s ⟨8,dy,pl,fr,ts,cl,yr⟩=deathP laws s ⟨8,dy,pl,fr,ts,cl,yr⟩from by simp[takeD]]
   exact death_any base b s last k last laws LA lc ⟨8,dy,pl,fr,ts,cl,yr⟩ B c W (HW.out.keep hB) HGS.out hle rfl HLW.out hll (HLS.out.keep hB) (by omega) (by omega) (by omega) (by simpa using Nat.le_trans hwl (by omega)) HF.out.2.1
  generalize takeD laws s ⟨8,dy,pl,fr,ts,cl,yr⟩=X at*
  have HCL:=Lib.hid hcl
  clear hcl HGS HF HOD HLI HLS HSS HLW
  obtain⟨s',er⟩:=X
  unfold Deed.v
  simp only
  go_enter Tryz.func37,Tryz.ntmps37
  go_upto_region 3 with fail
  go_quiet (fail)
  go_upto_region 18 with
   (go_at_call 85
    go_must(refine(HCL.out _ Bw).mono ?_)
    rintro e wq ⟨rfl,hW,hB,hK⟩
    have h0:=((hK w.heap.size _ _ (J_new _ _ _ rfl)).trans (J_new _ _ _ rfl))
    obtain⟨Bk',d',c',p',wl',r',mv',tv',ps',hb0',hC',hP',hT'⟩:=id hW
    have HW':=Lib.hid hW
    have HC':=Lib.hid hC'
    have HB':=Lib.hid hB
    have HH0:=Lib.hid h0
    clear hW hB hK h0 hP' hT' hC')
  have d1:wq.cell? ⟨w.heap.size,1,none⟩=some (.int .i64 dy):=by simp only[World.cell?,HH0.out];rfl
  have hC2:=HC'.out
  have hbl2:=blk_lt hC2
  have hdl2:=blk_lt HH0.out
  unfold WldC at hC2
  have z7:wq.cell? ⟨b,7,none⟩=some (.int .i64 last):=by simp only[World.cell?,hC2];rfl
  have z8:wq.cell? ⟨b,8,none⟩=some (.int .i64 k):=by simp only[World.cell?,hC2];rfl
  have f7:wq.frozen? ⟨b,7,none⟩=false:=by simp only[World.frozen?,hC2];rfl
  have f8:wq.frozen? ⟨b,8,none⟩=false:=by simp only[World.frozen?,hC2];rfl
  have hwb:w.heap.size≠b:=fun e=>Nat.lt_irrefl _ (e▸hbl)
  clear hC2
  have hBB:Below base w wq:=Below.trans (Below.mono (B:=w.heap.size) Bw (Nat.le_of_lt (Nat.lt_of_le_of_lt hb0 hbl))) HB'.out
  have HBB:=Lib.hid hBB
  clear hBB
  by_cases h0:er=0
  ·subst h0
   have hw9:=wrap_k hk10
   have hw8:=wrap_k2 hk10
   go_wp2_with fail
   go_region
   all_goals go_wp2_with fail
   all_goals go_ret
   all_goals exact taken_ok (wld_drew (wld_tick HW'.out dy ((k:Int)+1))) (B_drew (B_set (B_set HBB.out hb0' _) hb0' _))
  ·go_wp2_with fail
   go_ret
   exact taken_no h0 HW'.out HBB.out
end Go.Proofs.YtmaidggpbihlgaaGreatDoor
