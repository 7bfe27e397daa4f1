/- Walk of chapter 5's renewal; plain part of surrender. -/
import Derived.Test.YtmaidggpbihlgaaGreatDoorJH
set_option linter.unusedSimpArgs false
set_option linter.unusedVariables false
namespace Go.Proofs.YtmaidggpbihlgaaGreatDoor
open Go.RowKit Go.Shelf
attribute [local go_sem] World.cell?_alloc_mark ext_size ext_cell ext_frozen lt_add_r lt_add_r2 lt_add_r3 lt_add_r4 lt_add_r5 lt_add_r6 lt_add_r7 lt_add_r8
attribute [local go_sem] ext_setCell alloc_setCell_lt
theorem OwnS.base_le {α:Type} {W:World} {base base':Nat} {e:TypeId} {size:Nat} {f:α->List Value} {v:Value} {xs:List α} (h:OwnS W base e size f v xs) (hb:base'<=base):OwnS W base' e size f v xs:=by
 rcases h with h|⟨g,o,cap,cur,rfl,h1,h2⟩
 ·exact .inl h
 ·exact .inr ⟨g,o,cap,cur,rfl,Nat.le_trans hb h1,h2⟩
theorem mul_le_one {a b:Rat} (ha:0<=a) (ha1:a<=1) (hb:0<=b) (hb1:b<=1):a*b<=1:=by
 have:=Rat.mul_nonneg ha (show 0<=1-b by grind)
 grind
theorem OwnS.sl' {α:Type} {W:World} {base:Nat} {e:TypeId} {size n c:Nat} {f:α->List Value} {A:Option Addr} {xs:List α} (hlen: ∀x,(f x).length=size) (h:OwnS W base e size f (.slice A n c) xs):Sl W size f A xs:=by
 obtain⟨A2,c2,e,hs,_⟩:=h.sl hlen
 cases e
 exact hs
theorem OwnS.ro' {α:Type} {W:World} {base:Nat} {e:TypeId} {size n c:Nat} {f:α->List Value} {A:Option Addr} {xs:List α} (h:OwnS W base e size f (.slice A n c) xs):Ro W e f A xs:=by
 obtain⟨A2,c2,e,_,hs⟩:=h.ro
 cases e
 exact hs
theorem Bd.up {out:Parts} {t u:Rat} (h:Bd out t) (hu:t<=u):Bd out u:=⟨h.good,h.small,Rat.le_trans h.le hu⟩
theorem transfer_bd {g:Grave} {frm:ByteArray} {ts:List RPart} (hG:GoodG g) (h: ∀p∈ts,0<p.rat/\IsN 720720 p.rat/\isShareP 16 p.num p.den=true) (h1:sumQ (ratParts ts)<=1):
 0<=shareP g.holders frm/\small5 (shareP g.holders frm)/\shareP g.holders frm<=1/\ ∀k,Bd (gainF (shareP g.holders frm) (ratParts (ts.take k)) (setP g.holders frm (seenQ (shareP g.holders frm*restQ ts)),bigQ (shareP g.holders frm*restQ ts))).1 1:=by
 have ho:=share_nonneg hG.good frm
 have hle:=share_le_sum hG.good frm
 have hsum:sumQ g.holders<=1:=by
  rcases hG.one with h|h
  ·rw[h];decide
  ·rw[h];exact Rat.le_refl
 have hst:=fun k=>sum_take (fun p hp=>(h p hp).1) (l:=ts) k
 have h0:=(hst 0)
 have hS0:0<=sumQ (ratParts ts):=Rat.le_trans h0.1 h0.2
 have hr:0<=shareP g.holders frm*restQ ts:=Rat.mul_nonneg ho (by unfold restQ;grind)
 have hb:Bd (setP g.holders frm (seenQ (shareP g.holders frm*restQ ts))) (1-shareP g.holders frm*sumQ (ratParts ts)):=by
  refine⟨set_good hG.good (seen_nonneg hr),small_set hG.small (seen_big _),?_⟩
  rw[sum_set hG.good]
  have:=seen_le hr
  unfold restQ at*
  grind
 refine⟨ho,small_q ho (by grind) (share_small frm hG.small),by grind,fun k=> ?_⟩
 have:=gain_bd ho (l:=ratParts (ts.take k)) (f:=bigQ (shareP g.holders frm*restQ ts)) (fun p hp=>by
  obtain⟨q,hq,rfl⟩:=List.mem_map.1 hp
  have:=(h q (List.mem_of_mem_take hq)).1
  show 0<=q.rat
  grind) hb
 refine this.up ?_
 have h3:=Rat.mul_nonneg ho (show 0<=sumQ (ratParts ts)-sumQ (ratParts (ts.take k)) by have:=(hst k).2;grind)
 grind
theorem gain_snoc (own:Rat) (ts:List RPart) (x:Parts×Bool) {k:Nat} (h:k<ts.length):gainF own (ratParts (ts.take (k+1))) x=gain1 own (ts[k].name,ts[k].rat) (gainF own (ratParts (ts.take k)) x):=by
 rw[List.take_succ_eq_append_getElem h]
 unfold ratParts
 rw[List.map_append,gainF_append]
 rfl
theorem rest_none (ts:List RPart):restQ (ts.take 0)=1:=by
 show(1:Rat)-0=1
 grind
def fracB (q:Rat):Obj:= .cells #[.int .i64 q.num, .int .i64 q.den] 45
set_option maxRecDepth 100000 in
set_option maxHeartbeats 8000000 in
theorem transfer_any (base b:Nat) (s:St) (la co last:Int) (d:Deed) (B:Option Addr) (c:Nat) (w:World) (hW:WldAt base w b s la co) (hGS:GoodSt s last) (hd:OkD d) (hk:d.kind=1) (hlen:s.graves.length<=1000) (hgl: ∀g∈s.graves,g.holders.length<=10000) (hcap:d.to.length<=c) (hS:Sl w 3 RPart.cells B d.to):
 Calls Tryz.prog 82 #[.pointer (some ⟨b,0,none⟩),d.v B c] w (TakePost base b (transferP s d) la co w):=by
 have hp:=(hd.parts (.inr (.inl hk))).2
 obtain⟨hsh,hsum,_,_⟩:=parts_ok hp
 have hdl:=hd.len
 clear hp hd hk
 have hTE:=fun i g h1 h2 h3=>transferP_eq (s:=s) (d:=d) (i:=i) (g:=g) h1 h2 h3 (fun p hp=>by
  obtain⟨q,hq,rfl⟩:=List.mem_map.1 hp
  have:=(hsh q hq).1
  show 0<=q.rat
  grind) hsum
 have hW0:=hW
 obtain⟨Bk,dd,cc,pp,wl,rr,mv,tv,ps,hb0,hC,hP,hT⟩:=hW
 have hbl:=blk_lt hC
 obtain⟨kd,dy,pl,fr,ts,cl,yr⟩:=d
 simp only at*
 have HIN:=Lib.hid (fun W (hB:Below w.heap.size w W)=>in_any base b s la co pl dy W (hC.keep hB) (hT.keep hB) (by omega))
 have HAD:=Lib.hid (fun W (hB:Below w.heap.size w W)=>anyDead_any base b s ts B _ c W rfl (by omega) (hW0.peo.keep hB) (hS.keep hB))
 have HW:=Lib.hid hW0
 have HSH:=Lib.hid hsh
 have HSM:=Lib.hid hsum
 have HC:=Lib.hid hC
 have HP:=Lib.hid hP
 have HS:=Lib.hid hS
 cases hix:graveIx s pl dy with
 |none=>
  rw[hix]at HIN
  have HG:Hid (transferP s ⟨kd,dy,pl,fr,ts,cl,yr⟩=(s,6)):=by show _=_;simp[transferP,hix]
  clear hix hTE hW0 hC hP hT hS hsh hsum
  unfold Deed.v
  simp only
  go_enter Tryz.func82,Tryz.ntmps82
  go_wp2_with (go_at_call 31;refine(HIN.out _ Bw).mono ?_;rintro e wq ⟨rfl,z,rfl⟩;simp only[ptrOf,Option.map_none])
  go_ret
  exact take_same HW.out Bw HG.out
 |some i=>
  obtain⟨T,g,hpi,hpd,hgi,hgd,hTA,hfo⟩:=grave_tomb hT hix
  have hGG:=hGS.graves g (List.mem_of_getElem? hgi)
  have hgln:=hgl g (List.mem_of_getElem? hgi)
  have hte:=hTE i g hix hgd hGG
  obtain⟨ho0,hosm,ho1,hbd⟩:=transfer_bd (frm:=fr) hGG hsh hsum
  have hIN2: ∀W,Below w.heap.size w W->Calls Tryz.prog 31 #[.pointer (some ⟨b,0,none⟩), .string pl, .int .i64 dy] W (Ret W (.pointer (some ⟨T,0,none⟩))):=fun W hB=>by
   have:=HIN.out W hB
   rw[hix]at this
   simpa only[ptrOf,Option.map_some,hpd]using this
  have HI2:=Lib.hid hIN2
  obtain⟨H,hc',D,dc,frm,t1,t2,t3,t4,t5,t6,t7⟩:=hTA
  have hTl:=blk_lt t1
  have HT1:=Lib.hid t1
  have HT5:=Lib.hid t5
  have HT6:=Lib.hid t6
  have HT7:=Lib.hid t7
  have HTE:=Lib.hid hte
  have HBD:=Lib.hid hbd
  have HGG:=Lib.hid hGG
  have HT:=Lib.hid hT
  have HPI:=Lib.hid hpi
  clear hIN2 HIN t1 t5 t6 t7 hte hbd hGG hT hpi hpd hgd hgi hfo hix hTE hGS hgl hW0 hC hP hS hsh hsum
  obtain⟨gpl,gcl,gfin,ghs,gdi⟩:=g
  simp only at*
  unfold TombC at HT1
  have k1:w.cell? ⟨T,1,none⟩=some (.int .i64 gcl):=by simp only[World.cell?,HT1.out];rfl
  have k4:w.cell? ⟨T,4,none⟩=some (.slice H ghs.length hc'):=by simp only[World.cell?,HT1.out];rfl
  obtain⟨own,hown⟩: ∃own,own=shareP ghs fr:=⟨_,rfl⟩
  have HSV:=Lib.hid (fun W (hB:Below w.heap.size w W)=>share_any ghs H hc' T fr W ((hB.cell (p:=⟨T,4,none⟩) hTl).trans k4) (Nat.lt_of_lt_of_le hTl hB.size) (by omega) HGG.out.good.asc (Ro.sl part_len (HT5.out.keep hB)))
  have HT1':=HT1
  rw[<-hown]at HSV ho0 hosm ho1 HBD
  have hte2:=HTE.out
  clear HTE
  simp only[<-hown,numZ]at hte2
  have HTE:=Lib.hid hte2
  clear hte2
  have HOW:=Lib.hid hown
  clear hown
  unfold fracV at HSV
  unfold Deed.v
  simp only
  go_enter Tryz.func82,Tryz.ntmps82
  go_upto_region 11 with(first
   |(go_at_call 31;refine(HI2.out _ Bw).mono ?_;rintro e wq ⟨rfl,z,rfl⟩)
   |(go_at_call 132;refine(HSV.out _ Bw).mono ?_;rintro e wq ⟨rfl,z2,rfl⟩)
   |(go_at_call 129;refine(HAD.out _ Bw).mono ?_;intro e wq hq;rcases Ret.bools hq with⟨zq,rfl,⟨hb,rfl⟩|⟨hb,rfl⟩⟩<;>clear hq))
  all_goals(try(go_ret;exact take_same HW.out Bw (by rw[HTE.out];simp[*];done)))
  have HG:Hid (transferP s ⟨kd,dy,pl,fr,ts,cl,yr⟩=if(transferF ghs fr (ratParts ts)).2 then(s,8)else(s.withGrave i ⟨gpl,gcl,gfin,(transferF ghs fr (ratParts ts)).1,gdi⟩,0)):=by
   show _=_
   rw[HTE.out]
   simp[*];done
  clear HTE HI2 HAD HSV
  go_cut [5,6,7]from 8 (fun v5 v6 v7 wc=>v5= .pointer (some ⟨T,0,none⟩)/\ ∃O R,v6= .pointer (some ⟨O,0,none⟩)/\v7= .pointer (some ⟨R,0,none⟩)/\Below w.heap.size w wc/\w.heap.size<O/\O<R/\R<wc.heap.size/\wc.heap[w.heap.size]?=some (.cells #[.int .i64 kd, .int .i64 dy, .string pl, .string fr, .slice B ts.length c, .int .i64 cl, .int .i64 yr] 56)/\wc.heap[O]?=some (fracB own)/\wc.heap[R]?=some (fracB (restQ (ts.take 0))))
  case first=>
   go_wp2_with fail
   go_meet
   refine⟨rfl,_,_,rfl,rfl,Bw,by omega,?_,?_,?_,?_,?_⟩
   ·first|omega|(simp[ext_size];done)|(simp[ext_size];omega)
   ·first|omega|(simp[ext_size];done)|(simp[ext_size];omega)
   ·repeat(first|exact J_new _ _ _ rfl|with_reducible refine J_ext ?_|with_reducible refine J_alloc ?_)
   ·repeat(first|exact J_new _ _ _ (by simp[ext_size])|with_reducible refine J_ext ?_|with_reducible refine J_alloc ?_)
   ·rw[rest_none]
    exact J_new _ _ _ (by first|rfl|simp[ext_size])
  case rest=>
   obtain⟨rfl,O,R,rfl,rfl,hB,hO,hR,hRs,g0,g1,g2⟩:=hcut
   have d0:wc.cell? ⟨w.heap.size,0,none⟩=some (.int .i64 kd):=by simp only[World.cell?,g0];rfl
   have d1:wc.cell? ⟨w.heap.size,1,none⟩=some (.int .i64 dy):=by simp only[World.cell?,g0];rfl
   have d2:wc.cell? ⟨w.heap.size,2,none⟩=some (.string pl):=by simp only[World.cell?,g0];rfl
   have d3:wc.cell? ⟨w.heap.size,3,none⟩=some (.string fr):=by simp only[World.cell?,g0];rfl
   have d4:wc.cell? ⟨w.heap.size,4,none⟩=some (.slice B ts.length c):=by simp only[World.cell?,g0];rfl
   have d5:wc.cell? ⟨w.heap.size,5,none⟩=some (.int .i64 cl):=by simp only[World.cell?,g0];rfl
   have d6:wc.cell? ⟨w.heap.size,6,none⟩=some (.int .i64 yr):=by simp only[World.cell?,g0];rfl
   have D4:=Lib.hid d4
   clear d0 d1 d2 d5 d6
   go_wp2_with fail
   go_loopw [45] (fun i wr=> ∃k:Nat,k<=ts.length/\i= .int .i64 k/\Below w.heap.size w wr/\R<wr.heap.size/\wr.heap[w.heap.size]?=some (.cells #[.int .i64 kd, .int .i64 dy, .string pl, .string fr, .slice B ts.length c, .int .i64 cl, .int .i64 yr] 56)/\wr.heap[O]?=some (fracB own)/\wr.heap[R]?=some (fracB (restQ (ts.take k)))) (fun i _=>ts.length-(intOf i).toNat)
   case atStart=>exact⟨0,Nat.zero_le _,rfl,hB,hRs,g0,g1,g2⟩
   case round=>
    clear hB hRs g0 g1 g2 d3 d4
    obtain⟨k,hk,rfl,hB,hRs,g0,g1,g2⟩:=hrel
    have hfit:=rest_fits HSH.out k
    have hst:=sum_take (fun p hp=>(HSH.out p hp).1) (l:=ts) k
    have hsl:small5 (restQ (ts.take k)):=hfit.small (by unfold restQ;have:=HSM.out;grind) (by unfold restQ;grind)
    have HSL:=Lib.hid hsl
    clear hfit hst hsl
    by_cases hlt:k<ts.length
    ·obtain⟨b',off,rfl,hb',hc⟩:=(HS.out.keep hB).at hlt
     have hpm:=(HSH.out ts[k] (List.getElem_mem hlt)).2.2
     have hrn:=rest_snoc ts hlt
     generalize ts[k]=p at*
     obtain⟨pn,pu,pd⟩:=p
     generalize restQ (ts.take k)=q at*
     have h0:wr.cell? ⟨b',off+k*3,none⟩=some (.string pn):=hc 0 _ rfl
     have h1:wr.cell? ⟨b',off+k*3+1,none⟩=some (.int .i64 pu):=hc 1 _ rfl
     have h2:wr.cell? ⟨b',off+k*3+2,none⟩=some (.int .i64 pd):=hc 2 _ rfl
     have HRN:=Lib.hid hrn
     have HSUB:=Lib.hid (fun W=>subS_any q pu pd W HSL.out hpm)
     have r0:wr.cell? ⟨R,0,none⟩=some (.int .i64 q.num):=by simp only[World.cell?,g2,fracB];rfl
     have r1:wr.cell? ⟨R,1,none⟩=some (.int .i64 q.den):=by simp only[World.cell?,g2,fracB];rfl
     have r2:wr.frozen? ⟨R,0,none⟩=false:=by simp only[World.frozen?,g2,fracB];rfl
     have r3:wr.frozen? ⟨R,1,none⟩=false:=by simp only[World.frozen?,g2,fracB];rfl
     have hki:(k:Int)<(ts.length:Int):=by omega
     have hk0:(0:Int)<=(k:Int):=by omega
     have hkc:(k:Int)<=(c:Int):=by omega
     have hRn:R≠wr.heap.size:=by omega
     have hOR:O≠R:=by omega
     have hwR:w.heap.size≠R:=by omega
     have G0:=Lib.hid g0
     have G1:=Lib.hid g1
     have G2:=Lib.hid g2
     clear hc hpm hrn g0 g1 g2
     go_wp2_with (go_at_call 69;refine(HSUB.out _).mono ?_;rintro e wq ⟨rfl,z,rfl⟩;simp only[fracV])
     go_round
     case rel=>
      have g0:=G0.out
      have g1:=G1.out
      refine⟨k+1,by omega,by go_num,?_,by simp[ext_size];omega,by repeat(first|assumption|with_reducible refine J_alloc ?_|with_reducible refine J_ext ?_|with_reducible refine J_ne (by omega) ?_),by repeat(first|assumption|with_reducible refine J_alloc ?_|with_reducible refine J_ext ?_|with_reducible refine J_ne (by omega) ?_),?_⟩
      ·exact Bw
      ·rw[HRN.out]
       (repeat(first|with_reducible refine J_alloc ?_|with_reducible refine J_ext ?_))
       exact J_set2 G2.out
     case measure=>simp[intOf];omega
    ·have hki: ¬(k:Int)<(ts.length:Int):=by omega
     rw[List.take_of_length_le (by omega)]at g2
     obtain⟨W1,rfl⟩: ∃x,x=wr:=⟨_,rfl⟩
     have t1:=(hB.block T hTl).trans HT1.out
     have m0:W1.cell? ⟨T,0,none⟩=some (.string gpl):=by simp only[World.cell?,t1];rfl
     have m1:W1.cell? ⟨T,1,none⟩=some (.int .i64 gcl):=by simp only[World.cell?,t1];rfl
     have m2:W1.cell? ⟨T,2,none⟩=some (.int .i64 frm):=by simp only[World.cell?,t1];rfl
     have m3:W1.cell? ⟨T,3,none⟩=some (.int .i64 gfin):=by simp only[World.cell?,t1];rfl
     have m4:W1.cell? ⟨T,4,none⟩=some (.slice H ghs.length hc'):=by simp only[World.cell?,t1];rfl
     have m5:W1.cell? ⟨T,5,none⟩=some (.slice D gdi.length dc):=by simp only[World.cell?,t1];rfl
     have hTr:T<W1.heap.size:=blk_lt t1
     have hT0:T≠W1.heap.size:=by omega
     have hT1:T≠W1.heap.size+1:=by omega
     have G0:=Lib.hid g0
     have G1:=Lib.hid g1
     have G2:=Lib.hid g2
     have HTR:=Lib.hid t1
     have HCL:=Lib.hid (fun W (hW:Below W1.heap.size W1 W)=>clonePart_any ghs H ghs.length hc' W rfl (by omega) (Ro.sl part_len ((HT5.out.keep hB).keep hW)))
     clear g0 g1 g2 t1
     go_upto_region 19 with fail
     go_cut [11]from 12 (fun v wc2=>v= .pointer (some ⟨W1.heap.size+1,0,none⟩)/\ ∃hv,MarkAt wc2 W1.heap.size false/\TombC wc2 (W1.heap.size+1) gpl gcl frm gfin hv (.slice D gdi.length dc)/\OwnS wc2 (W1.heap.size+1) 49 3 partCells hv ghs/\Below W1.heap.size W1 wc2)
     case first=>
      go_wp2_with (go_at_call 87
                   refine(HCL.out _ Bw).mono ?_
                   rintro e wq ⟨hv,rfl,o1,o2⟩
                   obtain⟨A1,c1,hv1,_,_⟩:=o1.sl part_len
                   subst hv1
                   have x1:wq.heap[W1.heap.size+1]?=some (.cells #[.string gpl, .int .i64 gcl, .int .i64 frm, .int .i64 gfin, .slice H ghs.length hc', .slice D gdi.length dc] 86):=(o2.block _ (by simp)).trans (J_new _ _ _ (by simp))
                   have x2:MarkAt wq W1.heap.size false:=(o2.block _ (by simp;omega)).trans (J_alloc (J_new _ _ _ rfl))
                   have x3:=blk_lt x1
                   have x4:wq.frozen? ⟨W1.heap.size+1,4,none⟩=false:=(by simp only[World.frozen?,x1];rfl)
                   have x5:wq.cell? ⟨W1.heap.size+1,4,none⟩=some (.slice H ghs.length hc'):=(by simp only[World.cell?,x1];rfl)
                   have X1:=Lib.hid x1
                   have X2:=Lib.hid x2
                   have O1:=Lib.hid o1
                   have O2:=Lib.hid o2
                   clear x1 x2 o1 o2)
      go_meet
      have hb2:Below W1.heap.size W1 wq:=Below.trans (B_alloc (B_alloc (Below.refl _ _) _) _ (by simp)) (O2.out.mono (by simp;omega))
      refine⟨rfl,_,J_ne (by omega) X2.out,tomb_set4 (show TombC wq _ gpl gcl frm gfin (.slice H ghs.length hc') (.slice D gdi.length dc) from X1.out) _,?_,B_set hb2 (by simp) _⟩
      refine OwnS.base_le (OwnS.grown O1.out (grown_set _ _ _ _) (.inr fun e=> ?_)) (by simp)
      have:=(O1.out.ge _ e).1
      simp at this
      omega
     case rest=>
      obtain⟨rfl,hv,hm,htx,hox,hB2⟩:=hcut
      have hs2:=hB2.size
      have hxl:=blk_lt htx
      have e3:wc.cell? ⟨w.heap.size,3,none⟩=some (.string fr):=(B_cell hB2 (by omega)).trans (by simp only[World.cell?,G0.out];rfl)
      have e4:wc.cell? ⟨w.heap.size,4,none⟩=some (.slice B ts.length c):=(B_cell hB2 (by omega)).trans (by simp only[World.cell?,G0.out];rfl)
      have o0:wc.cell? ⟨O,0,none⟩=some (.int .i64 own.num):=(B_cell hB2 (by omega)).trans (by simp only[World.cell?,G1.out,fracB];rfl)
      have o1:wc.cell? ⟨O,1,none⟩=some (.int .i64 own.den):=(B_cell hB2 (by omega)).trans (by simp only[World.cell?,G1.out,fracB];rfl)
      have hkl:ts.take k=ts:=List.take_of_length_le (by omega)
      rw[hkl]at HSL
      generalize hq:restQ ts=q at*
      have r0:wc.cell? ⟨R,0,none⟩=some (.int .i64 q.num):=(B_cell hB2 (by omega)).trans (by simp only[World.cell?,G2.out,fracB];rfl)
      have r1:wc.cell? ⟨R,1,none⟩=some (.int .i64 q.den):=(B_cell hB2 (by omega)).trans (by simp only[World.cell?,G2.out,fracB];rfl)
      have HQ:=Lib.hid hq
      have HM:=Lib.hid hm
      have HTX:=Lib.hid htx
      have HOX:=Lib.hid hox
      have HB2:=Lib.hid hB2
      clear hq hm htx hox hkl m0 m1 m2 m3 m4 m5 HCL
      go_wp2_with fail
      go_region_held3 (fun w'=>w'.cell? ⟨w.heap.size,3,none⟩=some (.string fr)/\w'.cell? ⟨O,0,none⟩=some (.int .i64 own.num)/\w'.cell? ⟨O,1,none⟩=some (.int .i64 own.den)/\w'.cell? ⟨R,0,none⟩=some (.int .i64 q.num)/\w'.cell? ⟨R,1,none⟩=some (.int .i64 q.den))
       ((refine⟨?_,?_,?_,?_,?_⟩<;>first|assumption|(simp[go_sem,e3,o0,o1,r0,r1];done)))
       (first
         |(go_at_call 122
           go_loud(refine(mulM_any W1.heap.size false _ HM.out.drew own q hosm HSL.out).mono ?_)
           rintro e wq ⟨rfl,m1,m2⟩
           have p3:wq.cell? ⟨w.heap.size,3,none⟩=some (.string fr):=(by rw[G_cell m2 (by simp;omega) (by omega)];simpa[go_sem]using e3)
           have p0:wq.cell? ⟨O,0,none⟩=some (.int .i64 own.num):=(by rw[G_cell m2 (by simp;omega) (by omega)];simpa[go_sem]using o0)
           have p1:wq.cell? ⟨O,1,none⟩=some (.int .i64 own.den):=(by rw[G_cell m2 (by simp;omega) (by omega)];simpa[go_sem]using o1)
           have q0:wq.cell? ⟨R,0,none⟩=some (.int .i64 q.num):=(by rw[G_cell m2 (by simp;omega) (by omega)];simpa[go_sem]using r0)
           have q1:wq.cell? ⟨R,1,none⟩=some (.int .i64 q.den):=(by rw[G_cell m2 (by simp;omega) (by omega)];simpa[go_sem]using r1)
           have M1:=Lib.hid m1
           have M2:=Lib.hid m2
           clear m1 m2)
         |(go_at_call 131
           refine(set_any (W1.heap.size+1) (W1.heap.size+1) ghs hv gpl gcl frm gfin (.slice D gdi.length dc) fr (seenQ (own*q)) _ ?q1 (Nat.le_refl _) ?q2 HGG.out.good.asc (by omega)).mono ?_
           case q1=>exact(M2.out.block _ (by simp;omega) (by simp)).trans HTX.out
           case q2=>exact OwnS.grown (W:=wc.drew) HOX.out M2.out (.inr fun e=>by have:=(HOX.out.ge _ e).1;omega)
           rintro e wz ⟨rfl,v',t1,t2,t3,_⟩
           have s3:wz.cell? ⟨w.heap.size,3,none⟩=some (.string fr):=(B_cell t3 (by omega)).trans p3
           have s0:wz.cell? ⟨O,0,none⟩=some (.int .i64 own.num):=(B_cell t3 (by omega)).trans p0
           have s1:wz.cell? ⟨O,1,none⟩=some (.int .i64 own.den):=(B_cell t3 (by omega)).trans p1
           have u0:wz.cell? ⟨R,0,none⟩=some (.int .i64 q.num):=(B_cell t3 (by omega)).trans q0
           have u1:wz.cell? ⟨R,1,none⟩=some (.int .i64 q.den):=(B_cell t3 (by omega)).trans q1
           have T1:=Lib.hid t1
           have T2:=Lib.hid t2
           have T3:=Lib.hid t3
           clear t1 t2 t3))
      have M:=Lib.hid (show MarkAt wz W1.heap.size (bigQ (own*q)) by have:=M1.out.keep T3.out (by omega);simpa using this)
      have s4:wz.cell? ⟨w.heap.size,4,none⟩=some (.slice B ts.length c):=(B_cell T3.out (by omega)).trans ((G_cell M2.out (by simp;omega) (by omega)).trans (by simpa[go_sem]using e4))
      have HBz:=Lib.hid (Below.trans (grown_below (B_drew HB2.out) M2.out (Nat.le_refl _)) (T3.out.mono (by omega)))
      have hlen0:=len_set (n:=fr) (q:=seenQ (own*q)) (l:=ghs)
      have HL0:=Lib.hid hlen0
      clear M1 M2 T3 HTX HOX HM HB2 e3 e4 o0 o1 r0 r1 p3 p0 p1 q0 q1 s3 s0 s1 u0 u1 hlen0
      go_wp2_with fail
      go_loopw [72] (fun i wr=> ∃(k:Nat) (v:Value) (out:Parts) (fl:Bool),k<=ts.length/\i= .int .i64 k/\Hid ((out,fl)=gainF own (ratParts (ts.take k)) (setP ghs fr (seenQ (own*q)),bigQ (own*q)))/\Hid (out.length<=ghs.length+1+k)/\MarkAt wr W1.heap.size fl/\TombC wr (W1.heap.size+1) gpl gcl frm gfin v (.slice D gdi.length dc)/\OwnS wr (W1.heap.size+1) 49 3 partCells v out/\Below W1.heap.size W1 wr/\W1.heap.size+1<wr.heap.size) (fun i _=>ts.length-(intOf i).toNat)
      case atStart=>exact⟨0,v',_,_,Nat.zero_le _,rfl,rfl,HL0.out,M.out,T1.out,T2.out,HBz.out,blk_lt T1.out⟩
      case round=>
       clear HL0 M T1 T2 HBz s4 hs2 hxl
       obtain⟨k2,v,out,fl,hk2,rfl,HX,HLN,hm,htx,hox,hBl,hsl⟩:=hrel
       obtain⟨A1,c1,rfl,hOS,hc1⟩:=hox.sl part_len
       have hbw:Below w.heap.size w wr:=hB.trans (hBl.mono (by omega))
       have hbd:Bd out 1:=by have:=HBD.out k2;rw[<-HX.out]at this;exact this
       have HD:=Lib.hid hbd
       have HM:=Lib.hid hm
       have HTX:=Lib.hid htx
       have HOX:=Lib.hid hox
       have HOS:=Lib.hid hOS
       have HBl:=Lib.hid hBl
       have hx4:wr.cell? ⟨W1.heap.size+1,4,none⟩=some (.slice A1 out.length c1):=by unfold TombC at htx;simp only[World.cell?,htx];rfl
       clear hm htx hox hOS hbd
       by_cases hlt2:k2<ts.length
       ·obtain⟨b',off,rfl,hb',hc⟩:=(HS.out.keep hbw).at hlt2
        obtain⟨hp0,hp1,hpm⟩:=HSH.out ts[k2] (List.getElem_mem hlt2)
        have hgs:=gain_snoc own ts (setP ghs fr (seenQ (own*q)),bigQ (own*q)) hlt2
        rw[<-HX.out]at hgs
        generalize ts[k2]=p at*
        obtain⟨pn,pu,pd⟩:=p
        obtain⟨_,_,sr0,sr1⟩:=share_rat hpm
        have i0:wr.cell? ⟨b',off+k2*3,none⟩=some (.string pn):=hc 0 _ rfl
        have i1:wr.cell? ⟨b',off+k2*3+1,none⟩=some (.int .i64 pu):=hc 1 _ rfl
        have i2:wr.cell? ⟨b',off+k2*3+2,none⟩=some (.int .i64 pd):=hc 2 _ rfl
        have o0:wr.cell? ⟨O,0,none⟩=some (.int .i64 own.num):=(B_cell HBl.out (by omega)).trans (by simp only[World.cell?,G1.out,fracB];rfl)
        have o1:wr.cell? ⟨O,1,none⟩=some (.int .i64 own.den):=(B_cell HBl.out (by omega)).trans (by simp only[World.cell?,G1.out,fracB];rfl)
        have hgq:small5 (seenQ (own*Rat.divInt pu pd)):=small_q (seen_nonneg (Rat.mul_nonneg ho0 sr0)) (Rat.le_trans (seen_le (Rat.mul_nonneg ho0 sr0)) (mul_le_one ho0 ho1 sr0 sr1)) (seen_big _)
        have HGS:=Lib.hid hgs
        have HGQ:=Lib.hid hgq
        have hki:(k2:Int)<(ts.length:Int):=by omega
        have hk0:(0:Int)<=(k2:Int):=by omega
        have hkc:(k2:Int)<=(c:Int):=by omega
        have hOn:O≠wr.heap.size:=by omega
        have hOl:O<wr.heap.size:=by omega
        have hl9:out.length<=90000:=by have:=HLN.out;omega
        clear hc hgs hgq hp0 hp1 sr0 sr1
        go_wp2_with (go_at_call 122
                     refine(mulS_any W1.heap.size fl _ (HM.out.alloc _) own pu pd hosm hpm).mono ?_
                     rintro e wq ⟨rfl,m1,m2⟩
                     have hws:=m2.size
                     have y0:wq.heap[wr.heap.size]?=some (.cells #[.string pn, .int .i64 pu, .int .i64 pd] 49):=(m2.block _ (by simp) (by simp;omega)).trans (J_new _ _ _ rfl)
                     have y1:wq.cell? ⟨wr.heap.size,0,none⟩=some (.string pn):=(by simp only[World.cell?,y0];rfl)
                     have y3:wr.heap.size<wq.heap.size:=blk_lt y0
                     have M1:=Lib.hid m1
                     have M2:=Lib.hid m2
                     clear m1 m2 y0
                     simp only[fracV])
        have hOQ:OwnS wq (W1.heap.size+1) 49 3 partCells (.slice A1 out.length c1) out:=OwnS.grown (W:=wr.alloc _) (HOX.out.keep (n:=wr.heap.size) (B_alloc (Below.refl _ _) _)) M2.out (.inr fun e=>by have:=(HOX.out.ge _ e).1;omega)
        have hTQ:TombC wq (W1.heap.size+1) gpl gcl frm gfin (.slice A1 out.length c1) (.slice D gdi.length dc):=(M2.out.block _ (by simp;omega) (by simp)).trans (J_alloc HTX.out)
        have hxq:wq.cell? ⟨W1.heap.size+1,4,none⟩=some (.slice A1 out.length c1):=by unfold TombC at hTQ;simp only[World.cell?,hTQ];rfl
        have hxs:W1.heap.size+1<wq.heap.size:=blk_lt hTQ
        have OQ:=Lib.hid hOQ
        have TQ:=Lib.hid hTQ
        have hshs:small5 (shareP out pn):=HD.out.share Rat.le_refl pn
        generalize hgt:seenQ (own*Rat.divInt pu pd)=gt at*
        generalize hsv:shareP out pn=sv at*
        have HGT:=Lib.hid hgt
        have HSV:=Lib.hid hsv
        have HSS:=Lib.hid hshs
        have hwn:wr.heap.size≠wq.heap.size:=by omega
        have hxn:W1.heap.size+1≠wq.heap.size:=by omega
        clear hOQ hTQ hshs hgt hsv i0 i1 i2 o0 o1
        go_region_held3 (fun w'=>w'.cell? ⟨wr.heap.size,0,none⟩=some (.string pn)/\w'.cell? ⟨wq.heap.size,0,none⟩=some (.int .i64 gt.num)/\w'.cell? ⟨wq.heap.size,1,none⟩=some (.int .i64 gt.den))
         ((refine⟨?_,?_,?_⟩<;>first|assumption|(simp[go_sem,y1,y3];done)))
         (first
           |(go_at_call 132
             go_loud(refine(share_any out A1 c1 (W1.heap.size+1) pn _ ?q1 ?q2 (by omega) HD.out.good.asc (Sl.keep (OQ.out.sl' part_len) (n:=wq.heap.size) Bw)).mono ?_)
             case q1=>simp[go_sem,hxq,hxs]
             case q2=>simp;omega
             rintro e w5 ⟨rfl,zs,rfl⟩
             rw[HSV.out]
             simp only[fracV])
           |(go_at_call 119
             go_loud(refine(addM_any W1.heap.size (fl||bigQ (own*Rat.divInt pu pd)) _ ?q3 sv gt HSS.out HGQ.out).mono ?_)
             case q3=>(repeat(first|exact M1.out|refine MarkAt.ext ?_ _|refine MarkAt.drew ?_|refine MarkAt.alloc ?_ _))
             rintro e w6 ⟨rfl,n1,n2⟩
             have p3:w6.cell? ⟨wr.heap.size,0,none⟩=some (.string pn):=(by rw[G_cell n2 (by simp[ext_size];omega) (by omega)];simp[go_sem,y1,y3])
             have p0:w6.cell? ⟨wq.heap.size,0,none⟩=some (.int .i64 gt.num):=(by rw[G_cell n2 (by simp[ext_size];omega) (by omega)];simp[go_sem])
             have p1:w6.cell? ⟨wq.heap.size,1,none⟩=some (.int .i64 gt.den):=(by rw[G_cell n2 (by simp[ext_size];omega) (by omega)];simp[go_sem])
             have N1:=Lib.hid n1
             have N2:=Lib.hid n2
             clear n1 n2
             simp only[fracV])
           |(go_at_call 131
             go_loud(refine(set_any (W1.heap.size+1) (W1.heap.size+1) out (.slice A1 out.length c1) gpl gcl frm gfin (.slice D gdi.length dc) pn (seenQ (sv+gt)) _ ?q4 (Nat.le_refl _) ?q5 HD.out.good.asc hl9).mono ?_)
             case q4=>exact(N2.out.block _ (by simp[ext_size];omega) (by simp)).trans (by repeat(first|exact TQ.out|refine J_ext ?_|refine J_drew ?_|refine J_alloc ?_))
             case q5=>exact OwnS.grown (OQ.out.keep (n:=wq.heap.size) Bw) N2.out (.inr fun e=>by have:=(OQ.out.ge _ e).1;omega)
             rintro e wz ⟨rfl,v',t1,t2,t3,t4⟩
             have s3:wz.cell? ⟨wr.heap.size,0,none⟩=some (.string pn):=(World.cell?_of_block (w:=w6) (t4 wr.heap.size (by have:=N2.out.size;simp[ext_size]at this;omega) (by omega) (fun e=>by have:=(HOX.out.ge _ e).2;omega))).trans p3
             have s0:wz.cell? ⟨wq.heap.size,0,none⟩=some (.int .i64 gt.num):=(World.cell?_of_block (w:=w6) (t4 wq.heap.size (by have:=N2.out.size;simp[ext_size]at this;omega) (by omega) (fun e=>by have:=(HOX.out.ge _ e).2;omega))).trans p0
             have s1:wz.cell? ⟨wq.heap.size,1,none⟩=some (.int .i64 gt.den):=(World.cell?_of_block (w:=w6) (t4 wq.heap.size (by have:=N2.out.size;simp[ext_size]at this;omega) (by omega) (fun e=>by have:=(HOX.out.ge _ e).2;omega))).trans p1
             have T1:=Lib.hid t1
             have T2:=Lib.hid t2
             have T3:=Lib.hid t3
             clear t1 t2 t3))
        have HG9:Hid (gain1 own (pn,Rat.divInt pu pd) (out,fl)=(setP out pn (seenQ (sv+gt)),fl||bigQ (own*Rat.divInt pu pd)||bigQ (sv+gt))):=by
         show _=_
         unfold gain1
         simp only[HGT.out,HSV.out]
        have hn1:MarkAt wz W1.heap.size (fl||bigQ (own*Rat.divInt pu pd)||bigQ (sv+gt)):=N1.out.keep T3.out (by omega)
        have HN1:=Lib.hid hn1
        have hlen2:=len_set (n:=pn) (q:=seenQ (sv+gt)) (l:=out)
        have HL2:=Lib.hid hlen2
        have hbz:Below W1.heap.size W1 wz:=by
         have h1:Below W1.heap.size W1 wq:=grown_below (B_alloc HBl.out _) M2.out (Nat.le_refl _)
         have h2:Below W1.heap.size W1 w6:=grown_below (W:=((wq.alloc (.cells #[.int .i64 gt.num, .int .i64 gt.den] 45)).drew).ext zs) Bw N2.out (Nat.le_refl _)
         exact h2.trans (T3.out.mono (by omega))
        have HBZ:=Lib.hid hbz
        have hzs:=blk_lt T1.out
        clear hn1 hlen2 hbz p3 p0 p1 s3 s0 s1 y1
        go_wp2_with fail
        go_round
        case rel=>
         have hgx:=HG9.out.symm.trans HGS.out.symm
         have hlx:(setP out pn (seenQ (sv+gt))).length<=ghs.length+1+(k2+1):=by have:=HL2.out;have:=HLN.out;omega
         (repeat apply Exists.intro)
         exact⟨⟨k2+1,v',setP out pn (seenQ (sv+gt)),_,by omega,by go_num,hgx,hlx,HN1.out,T1.out,T2.out,HBZ.out,hzs⟩,rfl⟩
        case measure=>simp[intOf];omega
       ·have hki: ¬(k2:Int)<(ts.length:Int):=by omega
        have hxe:(out,fl)=transferF ghs fr (ratParts ts):=by
         rw[HX.out,List.take_of_length_le (by omega)]
         unfold transferF
         rw[<-HOW.out,show(1:Rat)-sumQ (ratParts ts)=q from HQ.out]
        have hbt:=(hbw.block T hTl).trans HT1.out
        have HBT:=Lib.hid hbt
        have HBW:=Lib.hid hbw
        have hc0:wr.cell? ⟨W1.heap.size,0,none⟩=some (.bool fl):=(mark_cells HM.out).1
        have HG2:=HG.out
        rw[<-hxe]at HG2
        clear hxe HX HBD HGG hbw
        cases fl
        ·have HG3:=Lib.hid HG2
         have htx:=HTX.out
         unfold TombC at htx
         have n0:wr.cell? ⟨W1.heap.size+1,0,none⟩=some (.string gpl):=by simp only[World.cell?,htx];rfl
         have n1:wr.cell? ⟨W1.heap.size+1,1,none⟩=some (.int .i64 gcl):=by simp only[World.cell?,htx];rfl
         have n2:wr.cell? ⟨W1.heap.size+1,2,none⟩=some (.int .i64 frm):=by simp only[World.cell?,htx];rfl
         have n3:wr.cell? ⟨W1.heap.size+1,3,none⟩=some (.int .i64 gfin):=by simp only[World.cell?,htx];rfl
         have n5:wr.cell? ⟨W1.heap.size+1,5,none⟩=some (.slice D gdi.length dc):=by simp only[World.cell?,htx];rfl
         have z0:wr.cell? ⟨T,0,none⟩=some (.string gpl):=by simp only[World.cell?,hbt];rfl
         have z1:wr.cell? ⟨T,1,none⟩=some (.int .i64 gcl):=by simp only[World.cell?,hbt];rfl
         have z2:wr.cell? ⟨T,2,none⟩=some (.int .i64 frm):=by simp only[World.cell?,hbt];rfl
         have z3:wr.cell? ⟨T,3,none⟩=some (.int .i64 gfin):=by simp only[World.cell?,hbt];rfl
         have z4:wr.cell? ⟨T,4,none⟩=some (.slice H ghs.length hc'):=by simp only[World.cell?,hbt];rfl
         have z5:wr.cell? ⟨T,5,none⟩=some (.slice D gdi.length dc):=by simp only[World.cell?,hbt];rfl
         have fz: ∀j,wr.frozen? ⟨T,j,none⟩=false:=fun j=>by simp only[World.frozen?,hbt];rfl
         clear HG2 htx hbt
         go_wp2_with fail
         go_ret
         have hbw:=HBW.out
         have hro:Ro wr 49 partCells A1 out:=HOX.out.ro'
         have hN:TombAt ((((((wr.setCell ⟨T,0,none⟩ (.string gpl)).setCell ⟨T,1,none⟩ (.int .i64 gcl)).setCell ⟨T,2,none⟩ (.int .i64 frm)).setCell ⟨T,3,none⟩ (.int .i64 gfin)).setCell ⟨T,4,none⟩ (.slice A1 out.length c1)).setCell ⟨T,5,none⟩ (.slice D gdi.length dc)) base Bk T ⟨gpl,gcl,gfin,out,gdi⟩:=
          ⟨A1,c1,D,dc,frm,tomb_set6 HBT.out _ _ _ _ _ _,t2,hc1,t4,hro.kept (grown_tomb6 _ _ _ _ _ _ _ _) HBT.out (by decide),(HT6.out.keep hbw).kept (grown_tomb6 _ _ _ _ _ _ _ _) HBT.out (by decide),HT7.out⟩
         have hst:=wld_store hb0 (HC.out.keep hbw) (HP.out.keep hbw) (HT.out.keep hbw) HPI.out HBT.out (grown_tomb6 wr T _ _ _ _ _ _) hN
         have hb9:Below base w wr:=hbw.mono (by omega)
         have hbb:=grown_below hb9 (grown_tomb6 wr T (.string gpl) (.int .i64 gcl) (.int .i64 frm) (.int .i64 gfin) (.slice A1 out.length c1) (.slice D gdi.length dc)) t2 (by omega)
         have hgg:transferP s ⟨kd,dy,pl,fr,ts,cl,yr⟩=(s.withGrave i ⟨gpl,gcl,gfin,out,gdi⟩,0):=HG3.out.trans (if_neg (by simp))
         rw[hgg]
         clear hN HG3 hgg hb9 hro
         exact⟨rfl,hst,hbb,(KeepD.below hbw).trans (KeepD.cells (grown_tomb6 wr T _ _ _ _ _ _) HBT.out (by decide))⟩
        ·have HG3:=Lib.hid HG2
         clear HG2
         go_wp2_with fail
         go_ret
         exact take_same HW.out HBW.out (HG3.out.trans (by simp))
end Go.Proofs.YtmaidggpbihlgaaGreatDoor
namespace Go.Proofs.YtmaidggpbihlgaaGreatDoor
open Go.RowKit Go.Shelf
attribute [local go_sem] World.cell?_alloc_mark ext_size ext_cell ext_frozen lt_add_r lt_add_r2 lt_add_r3 lt_add_r4 lt_add_r5 lt_add_r6 lt_add_r7 lt_add_r8
attribute [local go_sem] ext_setCell alloc_setCell_lt
theorem tomb_set3 {W:World} {T:Nat} {pl:ByteArray} {cl fr en:Int} {v dv:Value} {cs3:Int} (h:TombC W T pl cl fr en v dv):TombC (W.setCell ⟨T,3,none⟩ (.int .i64 cs3)) T pl cl fr cs3 v dv:=by
 unfold TombC at*
 have:=Joins.block_setCell (i:=3) h (.int .i64 cs3)
 simpa using this
set_option maxRecDepth 100000 in
set_option maxHeartbeats 2000000 in
theorem renewal_any (base b:Nat) (s:St) (la co last:Int) (d:Deed) (B:Option Addr) (c:Nat) (w:World) (hW:WldAt base w b s la co) (hL:LensIn w) (hd:OkD d) (hlen:s.graves.length<=1000) (hfin: ∀g∈s.graves,g.fin<=200000):
 Calls Tryz.prog 84 #[.pointer (some ⟨b,0,none⟩),d.v B c] w (TakePost base b (renewP s d) la co w):=by
 have hd2:=hd.years
 clear hd
 have hW0:=hW
 obtain⟨Bk,dd,cc,pp,wl,rr,mv,tv,ps,hb0,hC,hP,hT⟩:=hW
 have hbl:=blk_lt hC
 obtain⟨kd,dy,pl,fr,ts,cl,yr⟩:=d
 simp only at*
 have HIN:=Lib.hid (fun W (hB:Below w.heap.size w W)=>in_any base b s la co pl dy W (hC.keep hB) (hT.keep hB) (by omega))
 have HW:=Lib.hid hW0
 have HC:=Lib.hid hC
 have HP:=Lib.hid hP
 cases hix:graveIx s pl dy with
 |none=>
  rw[hix]at HIN
  have HG:Hid (renewP s ⟨kd,dy,pl,fr,ts,cl,yr⟩=(s,6)):=by show _=_;simp[renewP,hix]
  clear hix hW0 hC hP hT hL
  unfold Deed.v
  simp only
  go_enter Tryz.func84,Tryz.ntmps84
  go_wp2_with (go_at_call 31;refine(HIN.out _ Bw).mono ?_;rintro e wq ⟨rfl,z,rfl⟩;simp only[ptrOf,Option.map_none])
  go_ret
  exact take_same HW.out Bw HG.out
 |some i=>
  obtain⟨T,g,hpi,hpd,hgi,hgd,hTA,hfo⟩:=grave_tomb hT hix
  have hgf:=hfin g (List.mem_of_getElem? hgi)
  have hIN2: ∀W,Below w.heap.size w W->Calls Tryz.prog 31 #[.pointer (some ⟨b,0,none⟩), .string pl, .int .i64 dy] W (Ret W (.pointer (some ⟨T,0,none⟩))):=fun W hB=>by
   have:=HIN.out W hB
   rw[hix]at this
   simpa only[ptrOf,Option.map_some,hpd]using this
  have HI2:=Lib.hid hIN2
  obtain⟨H,hc',D,dc,frm,t1,t2,t3,t4,t5,t6,t7⟩:=hTA
  have hTl:=blk_lt t1
  obtain⟨gpl,gcl,gfin,ghs,gdi⟩:=g
  simp only at*
  have hte:renewP s ⟨kd,dy,pl,fr,ts,cl,yr⟩=if decide (gfin<0)then(s,15)else if decide (afterP gfin yr<0)then(s,2)else(s.withGrave i ⟨gpl,gcl,afterP gfin yr,ghs,gdi⟩,0):=by
   unfold renewP
   simp only[hix,hgd]
  have HT1:=Lib.hid t1
  have HT5:=Lib.hid t5
  have HT6:=Lib.hid t6
  have HT7:=Lib.hid t7
  have HTE:=Lib.hid hte
  have HT:=Lib.hid hT
  have HPI:=Lib.hid hpi
  unfold TombC at t1
  have k3:w.cell? ⟨T,3,none⟩=some (.int .i64 gfin):=by simp only[World.cell?,t1];rfl
  have fz: ∀j,w.frozen? ⟨T,j,none⟩=false:=fun j=>by simp only[World.frozen?,t1];rfl
  have HLT:=Lib.hid (fun W (hB:Below w.heap.size w W) (h0:0<=gfin)=>later5_any gfin yr W (hL.keep hB) h0 hgf hd2.1 hd2.2)
  clear hIN2 HIN t1 t5 t6 t7 hte hT hpi hpd hgd hgi hfo hix hW0 hC hP hL hfin
  unfold Deed.v
  simp only
  go_enter Tryz.func84,Tryz.ntmps84
  by_cases hneg:gfin<0
  ·go_wp2_with (go_at_call 31;refine(HI2.out _ Bw).mono ?_;rintro e wq ⟨rfl,z,rfl⟩)
   go_ret
   exact take_same HW.out Bw (by rw[HTE.out];simp[hneg])
  ·have hpos:0<=gfin:=by omega
   go_upto_region 6 with(go_at_call 31;refine(HI2.out _ Bw).mono ?_;rintro e wq ⟨rfl,z,rfl⟩)
   generalize hR:afterP gfin yr=R at*
   (refine wp_region_ext_lit (by kernel_rfl) (by kernel_rfl) ?_
    repeat(first|go_big_quiet_skip|(go_big_quiet_want;go_big_quiet_op;first|go_big_quiet_on|(apply Exists.intro;refine⟨fun _=> ?_,?_⟩;(go_at_call 130;exact quietx (HLT.out _ Bw hpos));go_big_quiet_on)))
    refine wpQuiet_nil ?_
    rintro _ ⟨zq,rfl⟩)
   by_cases hRn:R<0
   ·go_wp2_with fail
    go_ret
    exact take_same HW.out Bw (by rw[HTE.out];simp[hneg,hRn])
   ·go_wp2_with fail
    go_ret
    have hgg:renewP s ⟨kd,dy,pl,fr,ts,cl,yr⟩=(s.withGrave i ⟨gpl,gcl,R,ghs,gdi⟩,0):=by rw[HTE.out];simp[show¬gfin<0 by omega,show¬R<0 by omega]
    rw[hgg]
    obtain⟨Z,hZ⟩: ∃Z,Z=((w.alloc (.cells #[.int .i64 kd, .int .i64 dy, .string pl, .string fr, .slice B ts.length c, .int .i64 cl, .int .i64 yr] 56)).ext z).ext zq:=⟨_,rfl⟩
    have hBZ:Below w.heap.size w Z:=by rw[hZ];repeat(first|exact B_refl|exact Below.refl _ _|assumption|with_reducible refine B_alloc ?_ _|with_reducible refine B_ext ?_ _|with_reducible refine B_drew ?_|with_reducible refine B_drewN ?_ _|with_reducible refine B_set ?_ (by simp;omega) _)
    have hTZ:=(hBZ.block T hTl).trans HT1.out
    have hN:TombAt (Z.setCell ⟨T,3,none⟩ (.int .i64 R)) base Bk T ⟨gpl,gcl,R,ghs,gdi⟩:=⟨H,hc',D,dc,frm,tomb_set3 (show TombC Z T gpl gcl frm gfin _ _ from hTZ),t2,t3,t4,(HT5.out.keep hBZ).kept (grown_set Z T 3 _) hTZ (by decide),(HT6.out.keep hBZ).kept (grown_set Z T 3 _) hTZ (by decide),HT7.out⟩
    have hst:=wld_store hb0 (HC.out.keep hBZ) (HP.out.keep hBZ) (HT.out.keep hBZ) HPI.out hTZ (grown_set Z T 3 (.int .i64 R)) hN
    have hb9:Below base w (Z.setCell ⟨T,3,none⟩ (.int .i64 R)):=B_set (hBZ.mono (by omega)) t2 _
    have hE:Z.setCell ⟨T,3,none⟩ (.int .i64 R)=(((w.setCell ⟨T,3,none⟩ (.int .i64 R)).alloc (.cells #[.int .i64 kd, .int .i64 dy, .string pl, .string fr, .slice B ts.length c, .int .i64 cl, .int .i64 yr] 56)).ext z).ext zq:=by
     rw[hZ,ext_setCell _ _ _ _ _ (by simp[ext_size];omega),ext_setCell _ _ _ _ _ (by simp;omega),alloc_setCell_lt _ _ _ _ _ hTl]
    have hkd:=(KeepD.below hBZ).trans (KeepD.cells (grown_set Z T 3 (.int .i64 R)) hTZ (by decide))
    rw[hE]at hst hb9 hkd
    exact⟨rfl,hst,hb9,hkd⟩
end Go.Proofs.YtmaidggpbihlgaaGreatDoor
