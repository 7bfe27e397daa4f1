/- Walk of chapter 5's law: the sum of shares. -/
import Derived.Test.YtmaidggpbihlgaaGreatDoorJH
import Derived.Test.YtmaidggpbihlgaaGreatDoorJS
import Derived.Test.YtmaidggpbihlgaaGreatDoorE3
import Derived.Test.YtmaidggpbihlgaaGreatDoorNC
set_option linter.unusedSimpArgs false
set_option linter.unusedVariables false
namespace Go.Proofs.YtmaidggpbihlgaaGreatDoor
open Go.RowKit Go.Shelf
attribute [local go_sem] World.cell?_alloc_mark ext_size ext_cell ext_frozen lt_add_r lt_add_r2 lt_add_r3 lt_add_r4 lt_add_r5 lt_add_r6 lt_add_r7 lt_add_r8
attribute [local go_sem] ext_setCell alloc_setCell_lt
def briefP (d:Deed):Bool:=!(decide (20<d.place.size)||decide (20<d.frm.size)||decide (10<d.to.length))&&d.to.all fun p=>!decide (20<p.name.size)
def fewP (ls:List Law) (ds:List Deed):Bool:=!(decide (12<ls.length)||decide (14<ds.length))&&ds.all briefP
theorem brief_lens {d:Deed} (h:briefP d=true):okLens d:=by
 unfold briefP at h
 simp at h
 obtain⟨⟨⟨h1,h2⟩,h3⟩,h4⟩:=h
 exact⟨by omega,by omega,fun p hp=>by have:=h4 p hp;omega,by omega⟩
theorem few_lens {ls:List Law} {ds:List Deed} (h:fewP ls ds=true):(∀d∈ds,okLens d)/\ls.length<=12/\ds.length<=14/\(∀d∈ds,d.to.length<=10):=by
 unfold fewP at h
 simp at h
 obtain⟨⟨h1,h2⟩,h3⟩:=h
 refine⟨fun d hd=>brief_lens (h3 d hd),h1,h2,fun d hd=> ?_⟩
 have:=h3 d hd
 unfold briefP at this
 simp at this
 exact this.1.2
set_option maxRecDepth 100000 in
set_option maxHeartbeats 2000000 in
theorem brief_any (d:Deed) (B:Option Addr) (c:Nat) (w:World) (hc:d.to.length<=c) (hS:Sl w 3 RPart.cells B d.to):
 Calls Tryz.prog 24 #[d.v B c] w (Ret w (.bool (briefP d))):=by
 obtain⟨kd,dy,pl,fr,ts,cl,yr⟩:=d
 have HS:=Lib.hid hS
 obtain⟨R,hR⟩: ∃R,R=briefP ⟨kd,dy,pl,fr,ts,cl,yr⟩:=⟨_,rfl⟩
 rw[<-hR]
 unfold briefP at hR
 unfold Deed.v
 simp only at hR hc hS⊢
 clear hS
 go_enter Tryz.func24,Tryz.ntmps24
 by_cases l1:20<pl.size
 ·have HE:Hid (R=false):=by show _=_;rw[hR,decide_eq_true l1];rfl
  have q1:(20:Int)<(pl.size:Int):=by omega
  clear hR
  go_wp2_with fail
  go_ret
  exact Ret.of (bool_eq HE.out.symm) Bw
 have q1: ¬(20:Int)<(pl.size:Int):=by omega
 by_cases l2:20<fr.size
 ·have HE:Hid (R=false):=by show _=_;rw[hR,decide_eq_true l2];simp
  have q2:(20:Int)<(fr.size:Int):=by omega
  clear hR
  go_wp2_with fail
  go_ret
  exact Ret.of (bool_eq HE.out.symm) Bw
 have q2: ¬(20:Int)<(fr.size:Int):=by omega
 by_cases l3:10<ts.length
 ·have HE:Hid (R=false):=by show _=_;rw[hR,decide_eq_true l3];simp
  have q3:(10:Int)<(ts.length:Int):=by omega
  clear hR
  go_wp2_with fail
  go_ret
  exact Ret.of (bool_eq HE.out.symm) Bw
 have q3: ¬(10:Int)<(ts.length:Int):=by omega
 have HR0:Hid (R=(ts.drop 0).all fun p=>!decide (20<p.name.size)):=by
  show _=_
  rw[hR,decide_eq_false l1,decide_eq_false l2,decide_eq_false l3,List.drop_zero]
  rfl
 clear hR
 go_upto_region 3 with fail
 have k4:(w.alloc (.cells #[.int .i64 kd, .int .i64 dy, .string pl, .string fr, .slice B ts.length c, .int .i64 cl, .int .i64 yr] 56)).cell? ⟨w.heap.size,4,none⟩=some (.slice B ts.length c):=by simp[go_sem]
 have hB:Below w.heap.size w (w.alloc (.cells #[.int .i64 kd, .int .i64 dy, .string pl, .string fr, .slice B ts.length c, .int .i64 cl, .int .i64 yr] 56)):=Bw
 generalize w.alloc (.cells #[.int .i64 kd, .int .i64 dy, .string pl, .string fr, .slice B ts.length c, .int .i64 cl, .int .i64 yr] 56)=W at*
 have HS2:=Lib.hid (HS.out.keep hB)
 have HB:=Lib.hid hB
 clear hB HS
 go_upto_region 4 with fail
 go_loopw [3] (fun i wr=> ∃k:Nat,k<=ts.length/\i= .int .i64 k/\W=wr/\Hid (R=(ts.drop k).all fun p=>!decide (20<p.name.size))) (fun i _=>ts.length-(intOf i).toNat)
 case atStart=>exact⟨0,Nat.zero_le _,rfl,rfl,HR0.out⟩
 case round=>
  obtain⟨k,hk,rfl,rfl,HX⟩:=hrel
  by_cases hlt:k<ts.length
  ·obtain⟨b,off,rfl,hb,hcc⟩:=HS2.out.at hlt
   have hx:=HX.out
   rw[List.drop_eq_getElem_cons hlt,List.all_cons]at hx
   have HX2:=Lib.hid hx
   have HLT:=Lib.hid hlt
   generalize ts[k]=x at*
   obtain⟨nm,nu,de⟩:=x
   have i0:W.cell? ⟨b,off+k*3,none⟩=some (.string nm):=hcc 0 _ rfl
   have hki:(k:Int)<(ts.length:Int):=by omega
   have hk0:(0:Int)<=(k:Int):=by omega
   clear hcc hx hlt
   by_cases l5:20<nm.size
   ·have HE:Hid (R=false):=by show _=_;rw[HX2.out];simp[l5]
    have q5:(20:Int)<(nm.size:Int):=by omega
    go_wp2_with fail
    go_ret
    exact Ret.of (bool_eq HE.out.symm) HB.out
   ·have q5: ¬(20:Int)<(nm.size:Int):=by omega
    have HE:Hid (R=(ts.drop (k+1)).all fun p=>!decide (20<p.name.size)):=by show _=_;rw[HX2.out];simp[l5]
    go_wp2_with fail
    go_round
    case rel=>exact⟨k+1,HLT.out,by go_num,by first|exact True.intro|rfl,HE.out⟩
    case measure=>have:=HLT.out;simp only[intOf];omega
  ·have hki: ¬(k:Int)<(ts.length:Int):=by omega
   have HE:Hid (R=true):=by show _=_;rw[HX.out,List.drop_of_length_le (by omega)];rfl
   go_wp2_with fail
   go_ret
   exact Ret.of (bool_eq HE.out.symm) HB.out
set_option maxRecDepth 100000 in
set_option maxHeartbeats 2000000 in
theorem few_any (ls:List Law) (ds:List Deed) (LA:Option Addr) (n nc:Nat) (DA:Option Addr) (m mc:Nat) (w:World) (hR:RightsIn w ls ds LA n nc DA m mc):
 Calls Tryz.prog 7 #[.agg #[.slice LA n nc, .slice DA m mc]] w (Ret w (.bool (fewP ls ds))):=by
 obtain⟨rfl,rfl,hnc,hmc,_,hD⟩:=hR
 have HD:=Lib.hid hD
 obtain⟨R,hR⟩: ∃R,R=fewP ls ds:=⟨_,rfl⟩
 rw[<-hR]
 unfold fewP at hR
 clear hD
 go_enter Tryz.func7,Tryz.ntmps7
 by_cases l1:12<ls.length
 ·have HE:Hid (R=false):=by show _=_;rw[hR,decide_eq_true l1];rfl
  have q1:(12:Int)<(ls.length:Int):=by omega
  clear hR
  go_wp2_with fail
  go_ret
  exact Ret.of (bool_eq HE.out.symm) Bw
 have q1: ¬(12:Int)<(ls.length:Int):=by omega
 by_cases l2:14<ds.length
 ·have HE:Hid (R=false):=by show _=_;rw[hR,decide_eq_true l2];simp
  have q2:(14:Int)<(ds.length:Int):=by omega
  clear hR
  go_wp2_with fail
  go_ret
  exact Ret.of (bool_eq HE.out.symm) Bw
 have q2: ¬(14:Int)<(ds.length:Int):=by omega
 have HR0:Hid (R=(ds.drop 0).all briefP):=by
  show _=_
  rw[hR,decide_eq_false l1,decide_eq_false l2,List.drop_zero]
  rfl
 clear hR
 go_upto_region 3 with fail
 have k4:(w.alloc (.cells #[.slice LA ls.length nc, .slice DA ds.length mc] 25)).cell? ⟨w.heap.size,1,none⟩=some (.slice DA ds.length mc):=by simp[go_sem]
 have hB:Below w.heap.size w (w.alloc (.cells #[.slice LA ls.length nc, .slice DA ds.length mc] 25)):=Bw
 have hsz:w.heap.size<(w.alloc (.cells #[.slice LA ls.length nc, .slice DA ds.length mc] 25)).heap.size:=by simp
 generalize w.alloc (.cells #[.slice LA ls.length nc, .slice DA ds.length mc] 25)=W at*
 have HD2:=Lib.hid (HD.out.keep deed_keeps hB)
 have HB:=Lib.hid hB
 clear hB HD
 go_upto_region 4 with fail
 go_loopw [3] (fun i wr=> ∃k:Nat,k<=ds.length/\i= .int .i64 k/\Hid (R=(ds.drop k).all briefP)/\Below W.heap.size W wr) (fun i _=>ds.length-(intOf i).toNat)
 case atStart=>exact⟨0,Nat.zero_le _,rfl,HR0.out,Below.refl _ _⟩
 case round=>
  obtain⟨k,hk,rfl,HX,hBr⟩:=hrel
  have j4:wr.cell? ⟨w.heap.size,1,none⟩=some (.slice DA ds.length mc):=(B_cell hBr hsz).trans k4
  have hbr:=hBr.size
  by_cases hlt:k<ds.length
  ·obtain⟨b,off,cs,hA,hb,hr,hcc⟩:=(HD2.out.keep deed_keeps hBr).at hlt
   have hx:=HX.out
   rw[List.drop_eq_getElem_cons hlt,List.all_cons]at hx
   have HX2:=Lib.hid hx
   have HLT:=Lib.hid hlt
   generalize ds[k]=x at*
   obtain⟨B,c,hc,rfl,hS⟩:=hr
   have HBR:=Lib.hid (fun W' (h:Below wr.heap.size wr W')=>brief_any x B c W' hc (hS.keep h))
   unfold Deed.v at HBR
   subst hA
   have i0:=hcc 0 _ rfl
   have i1:=hcc 1 _ rfl
   have i2:=hcc 2 _ rfl
   have i3:=hcc 3 _ rfl
   have i4:=hcc 4 _ rfl
   have i5:=hcc 5 _ rfl
   have i6:=hcc 6 _ rfl
   simp only[Nat.add_zero]at i0
   have hki:(k:Int)<(ds.length:Int):=by omega
   have hk0:(0:Int)<=(k:Int):=by omega
   have HBW:=Lib.hid hBr
   generalize briefP x=q at*
   clear hcc hx hlt hS hBr
   cases q
   ·have HE:Hid (R=false):=by show _=_;rw[HX2.out];rfl
    go_wp2_with (go_at_call 24;go_must(refine(HBR.out _ Bw).mono ?_);rintro e wq ⟨rfl,z,rfl⟩)
    go_ret
    exact Ret.of (bool_eq HE.out.symm) (HB.out.trans ((HBW.out.trans (Below.mono (B:=wr.heap.size) Bw hbr)).mono HB.out.size))
   ·have HE:Hid (R=(ds.drop (k+1)).all briefP):=by show _=_;rw[HX2.out];rfl
    go_wp2_with (go_at_call 24;go_must(refine(HBR.out _ Bw).mono ?_);rintro e wq ⟨rfl,z,rfl⟩)
    go_round
    case rel=>exact⟨k+1,HLT.out,by go_num,HE.out,HBW.out.trans (Below.mono (B:=wr.heap.size) Bw hbr)⟩
    case measure=>have:=HLT.out;simp only[intOf];omega
  ·have hki: ¬(k:Int)<(ds.length:Int):=by omega
   have HE:Hid (R=true):=by show _=_;rw[HX.out,List.drop_of_length_le (by omega)];rfl
   have HBW:=Lib.hid hBr
   clear hBr
   go_wp2_with fail
   go_ret
   exact Ret.of (bool_eq HE.out.symm) (HB.out.trans (HBW.out.mono HB.out.size))
end Go.Proofs.YtmaidggpbihlgaaGreatDoor
namespace Go.Proofs.YtmaidggpbihlgaaGreatDoor
open Go.RowKit Go.Shelf
attribute [local go_sem] World.cell?_alloc_mark ext_size ext_cell ext_frozen lt_add_r lt_add_r2 lt_add_r3 lt_add_r4 lt_add_r5 lt_add_r6 lt_add_r7 lt_add_r8
attribute [local go_sem] ext_setCell alloc_setCell_lt
theorem results_fracB {fn:Func} {p q:Tmp} (h:fn.results= #[.cell p 45, .tmp q]) (tmps:Array Value) (w:World) (B:Nat) (x0 x1 e:Value) (hp:tmps.getD p undef= .pointer (some ⟨B,0,none⟩)) (hq:tmps.getD q undef=e)
 (hx:w.heap[B]?=some (.cells #[x0,x1] 45)):(results fn tmps).run Tryz.prog w= .ok (.tuple #[.agg #[x0,x1],e]) w:=by
 have h0:w.cell? ⟨B,0,none⟩=some x0:=by simp only[World.cell?,hx];rfl
 have h1:w.cell? ⟨B,1,none⟩=some x1:=by simp only[World.cell?,hx];rfl
 clear hx
 rw[Array.getD_eq_getD_getElem?]at hp hq
 simp only[results,h]
 simp[Sem.run_bind,hp,hq]
 go_simp
theorem small_sum {q:Rat} (h0:0<=q) (h1:q<=1) (hd: ¬1000000000<(q.den:Int)):small5 q:=by
 have a:=num_le h1
 have b:0<=q.num:=Rat.num_nonneg.2 h0
 exact⟨by omega,by omega⟩
set_option maxRecDepth 100000 in
set_option maxHeartbeats 4000000 in
theorem sumL_any (ps:Parts) (A:Option Addr) (c:Nat) (w:World) (hc:ps.length<=c) (hl:ps.length<=1000000000) (hg: ∀p∈ps,0<p.2/\p.2<=1/\(p.2.den:Int)<=1000000000) (hs:sumQ ps<=1) (hS:Sl w 3 partCells A ps):
 Calls Tryz.prog 13 #[.slice A ps.length c] w (Ret w (.tuple #[fracV (sumLaw ps 0).1, .bool (sumLaw ps 0).2])):=by
 have HS:=Lib.hid hS
 have HG:=Lib.hid hg
 obtain⟨R,hR⟩: ∃R,R=sumLaw ps 0:=⟨_,rfl⟩
 rw[<-hR]
 have HR:=Lib.hid hR
 have hs0:(0:Rat)+sumQ ps<=1:=by grind
 have HS0:=Lib.hid hs0
 clear hS hg hR hs hs0
 go_enter Tryz.func13,Tryz.ntmps13
 go_upto_region 3 with fail
 go_loopw [5,6] (fun i _ wr=> ∃(k:Nat) (q:Rat),k<=ps.length/\i= .int .i64 k/\Hid (R=sumLaw (ps.drop k) q)/\Hid (0<=q/\q+sumQ (ps.drop k)<=1)/\Below w.heap.size w wr/\wr.heap[w.heap.size]?=some (.cells #[.int .i64 0, .int .i64 0] 45)/\wr.heap[w.heap.size+1]?=some (.cells #[.int .i64 q.num, .int .i64 q.den] 45)) (fun i _ _=>ps.length-(intOf i).toNat)
 case atStart=>exact⟨0,0,Nat.zero_le _,rfl,by rw[List.drop_zero];exact HR.out,Lib.hid ⟨Rat.le_refl,by rw[List.drop_zero];exact HS0.out⟩,Bw,J_alloc (J_new _ _ _ rfl),by first|exact J_new _ _ _ (by simp)|simp[World.setCell]⟩
 case round=>
  obtain⟨k,q,hk,rfl,HX,HQ,hB,g0,g1⟩:=hrel
  have HB:=Lib.hid hB
  have hbs:=hB.size
  have hx0:=blk_lt g0
  have hx1:=blk_lt g1
  by_cases hlt:k<ps.length
  ·obtain⟨b,off,rfl,hb,hcc⟩:=(HS.out.keep hB).at hlt
   have hx:=HX.out
   have hq:=HQ.out
   have hgk:=HG.out _ (List.getElem_mem hlt)
   rw[List.drop_eq_getElem_cons hlt]at hx hq
   rw[sumLaw,stop_big hgk.1 hgk.2.1 hgk.2.2]at hx
   rw[sumQ]at hq
   have hrest:0<=sumQ (ps.drop (k+1)):=sum_le_mem fun p hp=>(HG.out p (List.mem_of_mem_drop hp)).1
   have HLT:=Lib.hid hlt
   have hr1:=num_pos hgk.1
   have hr2:=num_le hgk.2.1
   have hr3:=hgk.2.2
   have hrq:=Lib.hid hgk
   generalize ps[k]=p at*
   obtain⟨n,r⟩:=p
   have i1:wr.cell? ⟨b,off+k*3+1,none⟩=some (.int .i64 r.num):=hcc 1 _ rfl
   have i2:wr.cell? ⟨b,off+k*3+2,none⟩=some (.int .i64 r.den):=hcc 2 _ rfl
   have hki:(k:Int)<(ps.length:Int):=by omega
   have hk0:(0:Int)<=(k:Int):=by omega
   simp only at hx hq hr1 hr2 hr3
   have HX2:=Lib.hid hx
   have HQ2:=Lib.hid hq
   have HRS:=Lib.hid hrest
   clear hcc hx hlt hq hgk hrest hB
   go_upto_region 6 with fail
   obtain⟨WZ,hWZ⟩: ∃WZ,WZ=wr.alloc (.cells #[.int .i64 r.num, .int .i64 r.den] 45):=⟨_,rfl⟩
   have a0:WZ.heap[wr.heap.size]?=some (.cells #[.int .i64 r.num, .int .i64 r.den] 45):=by rw[hWZ];exact J_new _ _ _ rfl
   have z0:WZ.heap[w.heap.size]?=some (.cells #[.int .i64 0, .int .i64 0] 45):=by rw[hWZ];exact J_alloc g0
   have z1:WZ.heap[w.heap.size+1]?=some (.cells #[.int .i64 q.num, .int .i64 q.den] 45):=by rw[hWZ];exact J_alloc g1
   have hBZ:Below w.heap.size w WZ:=by rw[hWZ];exact B_alloc HB.out _
   rw[<-hWZ]
   have HBZ:=Lib.hid hBZ
   clear hWZ hBZ g0 g1 i1 i2
   have p0:WZ.cell? ⟨wr.heap.size,0,none⟩=some (.int .i64 r.num):=by simp only[World.cell?,a0];rfl
   have p1:WZ.cell? ⟨wr.heap.size,1,none⟩=some (.int .i64 r.den):=by simp only[World.cell?,a0];rfl
   have p2:WZ.cell? ⟨w.heap.size+1,0,none⟩=some (.int .i64 q.num):=by simp only[World.cell?,z1];rfl
   have p3:WZ.cell? ⟨w.heap.size+1,1,none⟩=some (.int .i64 q.den):=by simp only[World.cell?,z1];rfl
   have y0:=blk_lt z0
   have y1:=blk_lt z1
   have y2:=blk_lt a0
   have hin:inR (r.den:Int) 1 1000000000=true:=by unfold inR;simp;omega
   have e1: ¬r.num<1:=by omega
   have e2: ¬(r.den:Int)<r.num:=by omega
   by_cases hst:1000000000<(q.den:Int)
   ·have HE:Hid (R=(q,false)):=by show _=_;rw[HX2.out,if_pos (by simpa using hst)]
    have t0:WZ.cell? ⟨w.heap.size,0,none⟩=some (.int .i64 0):=by simp only[World.cell?,z0];rfl
    have t1:WZ.cell? ⟨w.heap.size,1,none⟩=some (.int .i64 0):=by simp only[World.cell?,z0];rfl
    have f0: ∀j,WZ.frozen? ⟨w.heap.size,j,none⟩=false:=fun j=>by simp[World.frozen?,z0]
    go_wp2_with (go_at_call 34;go_must(refine(bwithin_any _ _ _ _).mono ?_);rintro e wq ⟨rfl,rfl⟩;rw[hin])
    rw[HE.out]
    refine bodyPost_ret (v:= .tuple #[fracV q, .bool false]) ?_ rfl ?_
    ·exact results_fracB rfl _ _ w.heap.size _ _ _ rfl rfl (J_set2 z0)
    ·exact Ret.of rfl (B_set (B_set HBZ.out (by simp) _) (by simp) _)
   ·have HE:Hid (R=sumLaw (ps.drop (k+1)) (q+r)):=by show _=_;rw[HX2.out,if_neg (by simpa using hst)]
    have hq2:=HQ2.out
    have hqr:=hrq.out
    have hrr:=HRS.out
    have hqs:small5 q:=small_sum hq2.1 (by grind) hst
    have hrs:small5 r:=small_sum (by grind) hqr.2.1 (by have:=hqr.2.2;simp only at this;omega)
    have HADD:=Lib.hid (fun W=>rAdd_any q r W hqs hrs)
    have hnew:0<=q+r/\q+r+sumQ (ps.drop (k+1))<=1:=⟨by grind,by grind⟩
    have HN:=Lib.hid hnew
    unfold fracV at HADD
    clear hq2 hqr hrr hqs hrs hnew
    have f0: ∀j,WZ.frozen? ⟨w.heap.size+1,j,none⟩=false:=fun j=>by simp[World.frozen?,z1]
    go_wp2_with (first
     |(go_at_call 34;go_must(refine(bwithin_any _ _ _ _).mono ?_);rintro e wq ⟨rfl,rfl⟩;rw[hin])
     |(go_at_call 35;go_must(refine(HADD.out _).mono ?_);rintro e wq ⟨rfl,z,rfl⟩))
    go_round
    case rel=>exact⟨k+1,q+r,HLT.out,by go_num,HE.out,HN,B_ext (B_set (B_set HBZ.out (by simp) _) (by simp) _) z,J_ext (J_ne (by omega) (J_ne (by omega) z0)),J_ext (J_set2 z1)⟩
    case measure=>have:=HLT.out;simp only[intOf];omega
  ·have hki: ¬(k:Int)<(ps.length:Int):=by omega
   have HE:Hid (R=(q,true)):=by show _=_;rw[HX.out,List.drop_of_length_le (by omega)];rfl
   have p2:wr.cell? ⟨w.heap.size+1,0,none⟩=some (.int .i64 q.num):=by simp only[World.cell?,g1];rfl
   have p3:wr.cell? ⟨w.heap.size+1,1,none⟩=some (.int .i64 q.den):=by simp only[World.cell?,g1];rfl
   have t0:wr.cell? ⟨w.heap.size,0,none⟩=some (.int .i64 0):=by simp only[World.cell?,g0];rfl
   have t1:wr.cell? ⟨w.heap.size,1,none⟩=some (.int .i64 0):=by simp only[World.cell?,g0];rfl
   have f0: ∀j,wr.frozen? ⟨w.heap.size,j,none⟩=false:=fun j=>by simp[World.frozen?,g0]
   clear hB
   go_wp2_with fail
   rw[HE.out]
   refine bodyPost_ret (v:= .tuple #[fracV q, .bool true]) ?_ rfl ?_
   ·exact results_fracB rfl _ _ w.heap.size _ _ _ rfl rfl (J_set2 g0)
   ·exact Ret.of rfl (B_set (B_set HB.out (by simp) _) (by simp) _)
end Go.Proofs.YtmaidggpbihlgaaGreatDoor
