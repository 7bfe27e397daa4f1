/- Walk of chapter 5's surrender. -/
import Derived.Test.YtmaidggpbihlgaaGreatDoorJN
import Derived.Test.YtmaidggpbihlgaaGreatDoorJT
import Derived.Deep.RegionLaw
set_option linter.unusedSimpArgs false
set_option linter.unusedVariables false
namespace Go.Proofs.YtmaidggpbihlgaaGreatDoor
open Go.RowKit Go.Shelf
attribute [local go_sem] World.cell?_alloc_mark ext_size ext_cell ext_frozen lt_add_r lt_add_r2 lt_add_r3 lt_add_r4 lt_add_r5 lt_add_r6 lt_add_r7 lt_add_r8
attribute [local go_sem] ext_setCell alloc_setCell_lt
def surF (frm:ByteArray) (left:Rat):Parts->Parts×Bool->Parts×Bool
 | [],x=>x
 |p::l,x=>surF frm left l (if sameB p.1 frm then x else(x.1++[(p.1,seenQ (p.2/left))],x.2||bigQ (p.2/left)))
theorem surF_append (frm:ByteArray) (left:Rat): ∀(a b:Parts) (x:Parts×Bool),surF frm left (a++b) x=surF frm left b (surF frm left a x)
 | [],_,_=>rfl
 |p::a,b,x=>surF_append frm left a b _
theorem surF_snoc (frm:ByteArray) (left:Rat) (hs:Parts) (x:Parts×Bool) {k:Nat} (h:k<hs.length):surF frm left (hs.take (k+1)) x=if sameB hs[k].1 frm then surF frm left (hs.take k) x else((surF frm left (hs.take k) x).1++[(hs[k].1,seenQ (hs[k].2/left))],(surF frm left (hs.take k) x).2||bigQ (hs[k].2/left)):=by
 rw[List.take_succ_eq_append_getElem h,surF_append]
 rfl
theorem surF_same (frm:ByteArray) (left:Rat): ∀(hs out:Parts) (f:Bool),(surF frm left hs (out,f)).2=(f||largeP ((withoutP hs frm).map fun p=>(p.1,p.2/left)))/\
 ((surF frm left hs (out,f)).2=false->(surF frm left hs (out,f)).1=out++(withoutP hs frm).map fun p=>(p.1,p.2/left))
 | [],out,f=>by simp[surF,withoutP,largeP]
 |p::hs,out,f=>by
  rw[surF]
  cases hp:sameB p.1 frm
  ·have e:withoutP (p::hs) frm=p::withoutP hs frm:=by unfold withoutP;rw[List.filter_cons,hp];rfl
   obtain⟨h1,h2⟩:=surF_same frm left hs (out++[(p.1,seenQ (p.2/left))]) (f||bigQ (p.2/left))
   simp only[Bool.false_eq_true,if_false]
   rw[e,List.map_cons]
   refine⟨by rw[h1];unfold largeP;rw[List.any_cons,Bool.or_assoc],fun h=> ?_⟩
   rw[h2 h]
   rw[h1,Bool.or_eq_false_iff,Bool.or_eq_false_iff]at h
   rw[seen_of h.1.2]
   simp
  ·have e:withoutP (p::hs) frm=withoutP hs frm:=by unfold withoutP;rw[List.filter_cons,hp];rfl
   simp only[if_true]
   rw[e]
   exact surF_same frm left hs out f
theorem surF_len (frm:ByteArray) (left:Rat): ∀(hs out:Parts) (f:Bool),(surF frm left hs (out,f)).1.length<=out.length+hs.length
 | [],out,f=>by simp[surF]
 |p::hs,out,f=>by
  rw[surF]
  split
  ·have:=surF_len frm left hs out f
   simp;omega
  ·have:=surF_len frm left hs (out++[(p.1,seenQ (p.2/left))]) (f||bigQ (p.2/left))
   simp at this⊢;omega
theorem surrenderP_eq {s:St} {d:Deed} {i:Nat} {g:Grave} (hix:graveIx s d.place d.day=some i) (hg:s.graves.getD i zeroG=g):
 surrenderP s d=if shareP g.holders d.frm==0 then(s,19)else if(surF d.frm (1-shareP g.holders d.frm) g.holders ([],false)).2 then(s,8)else
  (s.withGrave i {g with holders:=(surF d.frm (1-shareP g.holders d.frm) g.holders ([],false)).1},0):=by
 obtain⟨h1,h2⟩:=surF_same d.frm (1-shareP g.holders d.frm) g.holders [] false
 unfold surrenderP
 rw[hix]
 simp only[hg]
 rw[Bool.false_or]at h1
 rw[<-h1]
 cases hf:(surF d.frm (1-shareP g.holders d.frm) g.holders ([],false)).2
 ·have:=h2 hf
  rw[List.nil_append]at this
  rw[<-this]
 ·rfl
theorem sur_small {g:Grave} {frm:ByteArray} (hG:GoodG g) (hne:shareP g.holders frm≠0):small5 (shareP g.holders frm)/\small5 (1-shareP g.holders frm)/\0<=1-shareP g.holders frm/\
 ∀p∈g.holders,sameB p.1 frm=false->0<1-shareP g.holders frm/\small5 p.2:=by
 have ho:=share_nonneg hG.good frm
 have hle:=share_le_sum hG.good frm
 have hsum:sumQ g.holders=1:=by
  rcases hG.one with h|h
  ·exact absurd h (share_some hne)
  ·exact h
 have hb:=share_small frm hG.small
 have hl1:shareP g.holders frm<=1:=by grind
 have hsm:=small_q ho hl1 hb
 have hb2:bigQ (1-shareP g.holders frm)=false:=by
  have hI:IsN (shareP g.holders frm).den (shareP g.holders frm):=⟨(shareP g.holders frm).num,by
   generalize shareP g.holders frm=q
   have h1:q=q.num/(q.den:Int):=by rw[<-Rat.divInt_eq_div,Rat.num_divInt_den]
   have h2:((q.den:Int):Rat)≠0:=ratI (by have:=q.den_pos;omega)
   rw[Rat.intCast_natCast]at h1 h2
   conv=>lhs;rw[h1]
   grind⟩
  exact isN_small (shareP g.holders frm).den_pos hsm.2 (isN_sub (isN_one _) hI)
 refine⟨hsm,small_q (by grind) (by grind) hb2,by grind,fun p hp hs=> ?_⟩
 have hpp:=hG.good.pos p hp
 have hpm:p∈withoutP g.holders frm:=List.mem_filter.2 ⟨hp,by rw[hs];rfl⟩
 have h1:=without_sum (n:=frm) hG.good
 have h2:=mem_le_sum (l:=withoutP g.holders frm) (fun q hq=>by have:=(without_good hG.good (n:=frm)).pos q hq;grind) p hpm
 refine⟨by grind,small_q (by grind) (by grind) ?_⟩
 have:=hG.small
 unfold largeP at this
 rw[List.any_eq_false]at this
 simpa using this p hp
theorem sl_part {w:World} {b:Nat} {p:ByteArray×Rat} {t:TypeId} {fr:Nat×Nat} (h:w.heap[b]?=some (.cells #[.string p.1, .int .i64 p.2.num, .int .i64 p.2.den] t fr)):Sl w 3 partCells (some ⟨b,0,none⟩) [p]:=fun _=>⟨b,0,rfl,blk_lt h,fun k y hy j u hu=>by
 have hk:k=0:=by have:=(List.getElem?_eq_some_iff.1 hy).1;simp at this;omega
 subst hk
 simp only[List.getElem?_cons_zero,Option.some.injEq]at hy
 subst hy
 match j,hu with
 |0,hu=>simp[partCells]at hu;simp[World.cell?,h,<-hu]
 |1,hu=>simp[partCells]at hu;simp[World.cell?,h,<-hu]
 |2,hu=>simp[partCells]at hu;simp[World.cell?,h,<-hu]
 |j+3,hu=>simp[partCells]at hu⟩
theorem sub1_any (q:Rat) (W:World) (hq:small5 q):Calls Tryz.prog 69 #[.agg #[.int .i64 1, .int .i64 1], .agg #[.int .i64 q.num, .int .i64 q.den]] W (Ret W (fracV (1-q))):=
 sub5_any 1 q W ⟨by decide,by decide⟩ hq
set_option maxRecDepth 100000 in
set_option maxHeartbeats 8000000 in
theorem surrender_any (base b:Nat) (s:St) (la co last:Int) (d:Deed) (B:Option Addr) (c:Nat) (w:World) (hW:WldAt base w b s la co) (hGS:GoodSt s last) (hlen:s.graves.length<=1000) (hgl: ∀g∈s.graves,g.holders.length<=10000):
 Calls Tryz.prog 83 #[.pointer (some ⟨b,0,none⟩),d.v B c] w (TakePost base b (surrenderP s d) la co w):=by
 have hTE:=fun i g h1 h2=>surrenderP_eq (s:=s) (d:=d) (i:=i) (g:=g) h1 h2
 have hW0:=hW
 obtain⟨Bk,dd,cc,pp,wl,rr,mv,tv,ps,hb0,hC,hP,hT⟩:=hW
 have hbl:=blk_lt hC
 obtain⟨kd,dy,pl,fr,ts,cl,yr⟩:=d
 simp only at*
 have HIN:=Lib.hid (fun W (hB:Below w.heap.size w W)=>in_any base b s la co pl dy W (hC.keep hB) (hT.keep hB) (by omega))
 have HW:=Lib.hid hW0
 have HC:=Lib.hid hC
 have HP:=Lib.hid hP
 cases hix:graveIx s pl dy with
 |none=>
  rw[hix]at HIN
  have HG:Hid (surrenderP s ⟨kd,dy,pl,fr,ts,cl,yr⟩=(s,6)):=by show _=_;simp[surrenderP,hix]
  clear hix hTE hW0 hC hP hT
  unfold Deed.v
  simp only
  go_enter Tryz.func83,Tryz.ntmps83
  go_wp2_with (go_at_call 31;refine(HIN.out _ Bw).mono ?_;rintro e wq ⟨rfl,z,rfl⟩;simp only[ptrOf,Option.map_none])
  go_ret
  exact take_same HW.out Bw HG.out
 |some i=>
  obtain⟨T,g,hpi,hpd,hgi,hgd,hTA,hfo⟩:=grave_tomb hT hix
  have hGG:=hGS.graves g (List.mem_of_getElem? hgi)
  have hgln:=hgl g (List.mem_of_getElem? hgi)
  have hte:=hTE i g hix hgd
  have hIN2: ∀W,Below w.heap.size w W->Calls Tryz.prog 31 #[.pointer (some ⟨b,0,none⟩), .string pl, .int .i64 dy] W (Ret W (.pointer (some ⟨T,0,none⟩))):=fun W hB=>by
   have:=HIN.out W hB
   rw[hix]at this
   simpa only[ptrOf,Option.map_some,hpd]using this
  have HI2:=Lib.hid hIN2
  obtain⟨H,hc',D,dc,frm,t1,t2,t3,t4,t5,t6,t7⟩:=hTA
  have hTl:=blk_lt t1
  have HT1:=Lib.hid t1
  have HT5:=Lib.hid t5
  have HT6:=Lib.hid t6
  have HT7:=Lib.hid t7
  have HTE:=Lib.hid hte
  have HGG:=Lib.hid hGG
  have HT:=Lib.hid hT
  have HPI:=Lib.hid hpi
  clear hIN2 HIN t1 t5 t6 t7 hte hGG hT hpi hpd hgd hgi hfo hix hTE hGS hgl hW0 hC hP
  obtain⟨gpl,gcl,gfin,ghs,gdi⟩:=g
  simp only at*
  unfold TombC at HT1
  have k4:w.cell? ⟨T,4,none⟩=some (.slice H ghs.length hc'):=by simp only[World.cell?,HT1.out];rfl
  obtain⟨own,hown⟩: ∃own,own=shareP ghs fr:=⟨_,rfl⟩
  have HSV:=Lib.hid (fun W (hB:Below w.heap.size w W)=>share_any ghs H hc' T fr W ((hB.cell (p:=⟨T,4,none⟩) hTl).trans k4) (Nat.lt_of_lt_of_le hTl hB.size) (by omega) HGG.out.good.asc (Ro.sl part_len (HT5.out.keep hB)))
  have hss:own≠0->_:=fun h=>sur_small HGG.out (frm:=fr) (by rw[<-hown];exact h)
  have HSS:=Lib.hid hss
  rw[<-hown]at HSV HSS
  have hte2:=HTE.out
  clear HTE hss
  simp only[<-hown,numZ]at hte2
  have HTE:=Lib.hid hte2
  clear hte2
  have HOW:=Lib.hid hown
  clear hown
  unfold fracV at HSV
  unfold Deed.v
  simp only
  go_enter Tryz.func83,Tryz.ntmps83
  go_upto_region 7 with(first
   |(go_at_call 31;refine(HI2.out _ Bw).mono ?_;rintro e wq ⟨rfl,z,rfl⟩)
   |(go_at_call 132;refine(HSV.out _ Bw).mono ?_;rintro e wq ⟨rfl,z2,rfl⟩))
  all_goals(try(go_ret;exact take_same HW.out Bw (by rw[HTE.out];simp[*];done)))
  have hzz:(own.num==0)=false:=by assumption
  have hown0:own≠0:=fun e=>by rw[e]at hzz;exact absurd hzz (by decide)
  obtain⟨hosm,hlsm,hl0,hps⟩:=HSS.out hown0
  have HG:Hid (surrenderP s ⟨kd,dy,pl,fr,ts,cl,yr⟩=if(surF fr (1-own) ghs ([],false)).2 then(s,8)else(s.withGrave i ⟨gpl,gcl,gfin,(surF fr (1-own) ghs ([],false)).1,gdi⟩,0)):=by
   show _=_
   rw[HTE.out]
   simp[*];done
  have HPS:=Lib.hid hps
  clear HTE HI2 HSV HSS hps
  generalize hlf:1-own=lf at*
  have HLF:=Lib.hid hlf
  clear hlf
  go_cut [5,6,7]from 8 (fun v5 v6 v7 wc=>v5= .pointer (some ⟨T,0,none⟩)/\ ∃O C,v6= .pointer (some ⟨O,0,none⟩)/\v7= .pointer (some ⟨C,0,none⟩)/\Below w.heap.size w wc/\w.heap.size<O/\O<C/\C+1=wc.heap.size/\wc.heap[w.heap.size]?=some (.cells #[.int .i64 kd, .int .i64 dy, .string pl, .string fr, .slice B ts.length c, .int .i64 cl, .int .i64 yr] 56)/\wc.heap[O]?=some (fracB own)/\MarkAt wc C false)
  case first=>
   go_wp2_with fail
   go_meet
   refine⟨rfl,_,_,rfl,rfl,Bw,by omega,?_,?_,?_,?_,?_⟩
   ·first|omega|(simp[ext_size];done)|(simp[ext_size];omega)
   ·first|omega|(simp[ext_size];done)|(simp[ext_size];omega)
   ·repeat(first|exact J_new _ _ _ rfl|with_reducible refine J_ext ?_|with_reducible refine J_alloc ?_)
   ·repeat(first|exact J_new _ _ _ (by simp[ext_size])|with_reducible refine J_ext ?_|with_reducible refine J_alloc ?_)
   ·exact J_new _ _ _ (by first|rfl|simp[ext_size])
  case rest=>
   obtain⟨rfl,O,C,rfl,rfl,hB,hO,hC,hCs,g0,g1,hm⟩:=hcut
   obtain⟨W0,rfl⟩: ∃x,x=wc:=⟨_,rfl⟩
   have t1:=(hB.block T hTl).trans HT1.out
   have m0:W0.cell? ⟨T,0,none⟩=some (.string gpl):=by simp only[World.cell?,t1];rfl
   have m1:W0.cell? ⟨T,1,none⟩=some (.int .i64 gcl):=by simp only[World.cell?,t1];rfl
   have m2:W0.cell? ⟨T,2,none⟩=some (.int .i64 frm):=by simp only[World.cell?,t1];rfl
   have m3:W0.cell? ⟨T,3,none⟩=some (.int .i64 gfin):=by simp only[World.cell?,t1];rfl
   have m4:W0.cell? ⟨T,4,none⟩=some (.slice H ghs.length hc'):=by simp only[World.cell?,t1];rfl
   have m5:W0.cell? ⟨T,5,none⟩=some (.slice D gdi.length dc):=by simp only[World.cell?,t1];rfl
   have hTr:T<W0.heap.size:=blk_lt t1
   have hT0:T≠W0.heap.size:=by omega
   have o0:W0.cell? ⟨O,0,none⟩=some (.int .i64 own.num):=by simp only[World.cell?,g1,fracB];rfl
   have o1:W0.cell? ⟨O,1,none⟩=some (.int .i64 own.den):=by simp only[World.cell?,g1,fracB];rfl
   have hOl:O<W0.heap.size:=by omega
   have hOn:O≠W0.heap.size:=by omega
   have G0:=Lib.hid g0
   have HM:=Lib.hid hm
   have HTR:=Lib.hid t1
   have HSB:=Lib.hid (fun W=>sub1_any own W hosm)
   rw[HLF.out]at HSB
   clear g0 g1 t1 hm
   go_wp2_with (go_at_call 69;refine(HSB.out _).mono ?_;rintro e wq ⟨rfl,z,rfl⟩;simp only[fracV])
   generalize hLL:W0.heap.size+1+z.os.size=L at*
   have HLL:=Lib.hid hLL
   have hL0:W0.heap.size<L:=by omega
   clear hLL m0 m1 m2 m3 m4 m5 o0 o1
   go_loopw [39] (fun i wr=> ∃(k:Nat) (v:Value) (out:Parts) (fl:Bool),k<=ghs.length/\i= .int .i64 k/\Hid ((out,fl)=surF fr lf (ghs.take k) ([],false))/\MarkAt wr C fl/\TombC wr W0.heap.size gpl gcl frm gfin v (.slice D gdi.length dc)/\OwnS wr W0.heap.size 49 3 partCells v out/\wr.heap[L]?=some (fracB lf)/\Below C W0 wr/\L<wr.heap.size) (fun i _=>ghs.length-(intOf i).toNat)
   case atStart=>
    refine⟨0, .slice none 0 0,[],false,Nat.zero_le _,rfl,rfl,?_,?_,OwnS.nil,?_,?_,?_⟩
    ·exact((HM.out.alloc _).ext z).alloc _
    ·exact J_alloc (J_ext (J_new _ _ _ rfl))
    ·exact J_new _ _ _ (by have:=HLL.out;simp[ext_size];omega)
    ·have hb0:Below C W0 W0:=Below.refl _ _
     exact B_alloc (B_ext (B_alloc hb0 _ (by omega)) _ (by omega)) _ (by omega)
    ·have:=HLL.out;simp[ext_size];omega
   case round=>
    obtain⟨k,v,out,fl,hk,rfl,HX,hm,htx,hox,hlx,hBl,hsl⟩:=hrel
    obtain⟨A1,c1,rfl,hOS,hc1⟩:=hox.sl part_len
    have hln:=surF_len fr lf (ghs.take k) [] false
    rw[<-HX.out]at hln
    simp only[List.length_nil,Nat.zero_add,List.length_take]at hln
    have hl9:out.length<=10000:=by omega
    clear hln hOS
    have hbw:Below w.heap.size w wr:=hB.trans (hBl.mono (by omega))
    have hx4:wr.cell? ⟨W0.heap.size,4,none⟩=some (.slice A1 out.length c1):=by unfold TombC at htx;simp only[World.cell?,htx];rfl
    have fx4:wr.frozen? ⟨W0.heap.size,4,none⟩=false:=by unfold TombC at htx;simp only[World.frozen?,htx];rfl
    have hl0':wr.cell? ⟨L,0,none⟩=some (.int .i64 lf.num):=by simp only[World.cell?,hlx,fracB];rfl
    have hl1':wr.cell? ⟨L,1,none⟩=some (.int .i64 lf.den):=by simp only[World.cell?,hlx,fracB];rfl
    have e3:wr.cell? ⟨w.heap.size,3,none⟩=some (.string fr):=(B_cell hBl (by omega)).trans (by simp only[World.cell?,G0.out];rfl)
    have HM:=Lib.hid hm
    have HTX:=Lib.hid htx
    have HOX:=Lib.hid hox
    have HLX:=Lib.hid hlx
    have HBl:=Lib.hid hBl
    have HBW:=Lib.hid hbw
    clear hm htx hox hlx hBl
    by_cases hlt:k<ghs.length
    ·obtain⟨b',off,rfl,hb',hc⟩:=(Ro.sl part_len (HT5.out.keep hbw)).at hlt
     have hgs:=surF_snoc fr lf ghs ([],false) hlt
     rw[<-HX.out]at hgs
     have hpp:=HPS.out ghs[k] (List.getElem_mem hlt)
     generalize ghs[k]=p at*
     obtain⟨pn,pq⟩:=p
     have i0:wr.cell? ⟨b',off+k*3,none⟩=some (.string pn):=hc 0 _ rfl
     have i1:wr.cell? ⟨b',off+k*3+1,none⟩=some (.int .i64 pq.num):=hc 1 _ rfl
     have i2:wr.cell? ⟨b',off+k*3+2,none⟩=some (.int .i64 pq.den):=hc 2 _ rfl
     have HGS:=Lib.hid hgs
     have HPP:=Lib.hid hpp
     have hki:(k:Int)<(ghs.length:Int):=by omega
     have hk0:(0:Int)<=(k:Int):=by omega
     have hkc:(k:Int)<=(hc':Int):=by omega
     have hwl:w.heap.size<wr.heap.size:=by omega
     have hwn:w.heap.size≠wr.heap.size:=by omega
     have hxl:W0.heap.size<wr.heap.size:=by omega
     have hxn:W0.heap.size≠wr.heap.size:=by omega
     have hLn:L≠wr.heap.size:=by omega
     clear hc hgs hpp hbw
     by_cases hsb:pn.toList=fr.toList
     ·have HSB:=Lib.hid (sameB_t hsb)
      have hs1:(pn.toList==fr.toList)=true:=by simpa using hsb
      have hs2:(pn.toList != fr.toList)=false:=by simp[hsb]
      clear hsb
      go_wp2_with fail
      go_round
      case rel=>
       have h1:=HGS.out
       rw[HSB.out]at h1
       exact⟨k+1,_,out,fl,by omega,by go_num,(h1.symm:_=_),HM.out.alloc _,J_alloc HTX.out,HOX.out.keep (n:=wr.heap.size) (B_alloc (Below.refl _ _) _),J_alloc HLX.out,B_alloc HBl.out _ (by omega),by simp;omega⟩
      case measure=>simp[intOf];omega
     ·have HSB:=Lib.hid (sameB_f hsb)
      have hs1:(pn.toList==fr.toList)=false:=by simpa using hsb
      have hs2:(pn.toList != fr.toList)=true:=by simp[hsb]
      clear hsb
      obtain⟨hlp,hpsm⟩:=HPP.out HSB.out
      go_upto_region 15 with fail
      refine wp_region_held_drew (S:=(fun w'=>w'.cell? ⟨wr.heap.size,0,none⟩=some (.string pn)/\w'.cell? ⟨wr.heap.size,1,none⟩=some (.int .i64 pq.num)/\w'.cell? ⟨wr.heap.size,2,none⟩=some (.int .i64 pq.den)/\w'.cell? ⟨L,0,none⟩=some (.int .i64 lf.num)/\w'.cell? ⟨L,1,none⟩=some (.int .i64 lf.den))) (by kernel_rfl) ?hS ?hrest
      case hS=>((try dsimp only);refine⟨?_,?_,?_,?_,?_⟩<;>(simp[go_sem,hl0',hl1',hsl];done))
      case hrest=>
       intro hHeld
       refine TkH 0 ?_
       refine TkH 2 ?_
       refine TkH 3 ?_
       refine TkH 4 ?_
       refine TkH 5 ?_
       refine TkH 6 ?_
       refine wpAnyH_ready (rs:=[1,7]) (by kernel_rfl) (by simp) (AllReadyH.cons (List.getElem?_toArray.trans rfl) (fun K hK=> ?_) (AllReadyH.cons (List.getElem?_toArray.trans rfl) (fun K hK=> ?_) AllReadyH.nil))
       ·go_simp
        refine hK.out _ _ ?_ (fun hHeld=> ?_)
        focus((try dsimp only);refine⟨?_,?_,?_,?_,?_⟩<;>first|assumption|(simp[go_sem,hl0',hl1',hsl];done)|(simp[go_sem,a0,a1,a2,l5,l6,yp,yL];done)|(simp[go_sem,z0,z1,z2,z5,z6,zx,zy];done))
        clear hK K
        try simp only[Act.put,List.setIfInBounds_toArray,List.set_cons_zero,List.set_cons_succ]
        refine wpAnyH_ready (rs:=[7]) (by kernel_rfl) (by simp) (AllReadyH.cons (List.getElem?_toArray.trans rfl) (fun K hK=> ?_) AllReadyH.nil)
        go_simp
        refine(quoM_any C fl _ ?q1 pq lf hpsm hlsm hlp).mono ?_
        case q1=>(repeat(first|exact HM.out|refine MarkAt.drew ?_|refine MarkAt.alloc ?_ _))
        rintro e w5 ⟨rfl,n1,n2⟩
        have hn2:=n2.size
        have y0:w5.heap[wr.heap.size]?=some (.cells #[.string pn, .int .i64 pq.num, .int .i64 pq.den] 49):=(n2.block _ (by simp) (by simp;omega)).trans (J_new _ _ _ rfl)
        have a0:w5.cell? ⟨wr.heap.size,0,none⟩=some (.string pn):=by simp only[World.cell?,y0];rfl
        have a1:w5.cell? ⟨wr.heap.size,1,none⟩=some (.int .i64 pq.num):=by simp only[World.cell?,y0];rfl
        have a2:w5.cell? ⟨wr.heap.size,2,none⟩=some (.int .i64 pq.den):=by simp only[World.cell?,y0];rfl
        have yL':w5.heap[L]?=some (fracB lf):=(n2.block _ (by simp;omega) (by simp;omega)).trans (J_alloc HLX.out)
        have l5:w5.cell? ⟨L,0,none⟩=some (.int .i64 lf.num):=by simp only[World.cell?,yL',fracB];rfl
        have l6:w5.cell? ⟨L,1,none⟩=some (.int .i64 lf.den):=by simp only[World.cell?,yL',fracB];rfl
        have yT:TombC w5 W0.heap.size gpl gcl frm gfin (.slice A1 out.length c1) (.slice D gdi.length dc):=(n2.block _ (by simp;omega) (by simp;omega)).trans (J_alloc HTX.out)
        have y2:w5.cell? ⟨W0.heap.size,4,none⟩=some (.slice A1 out.length c1):=by unfold TombC at yT;simp only[World.cell?,yT];rfl
        have yO:OwnS w5 W0.heap.size 49 3 partCells (.slice A1 out.length c1) out:=by refine OwnS.grown (hg:=n2) ?_ (.inr fun e=>by have:=(HOX.out.ge _ e).1;omega);exact HOX.out.keep (n:=wr.heap.size) Bw
        have yl:=blk_lt yT
        have yp:=blk_lt y0
        have yL:=blk_lt yL'
        have yn:W0.heap.size≠w5.heap.size:=by omega
        have ypn:wr.heap.size≠w5.heap.size:=by omega
        have YT:=Lib.hid yT
        have YO:=Lib.hid yO
        have YL:=Lib.hid yL'
        have Y0:=Lib.hid y0
        have N1:=Lib.hid n1
        have N2:=Lib.hid n2
        clear yT yO yL' n1 n2 y0
        simp only[fracV]
        refine hK.out _ _ ?_ (fun hHeld=> ?_)
        focus((try dsimp only);refine⟨?_,?_,?_,?_,?_⟩<;>first|assumption|(simp[go_sem,hl0',hl1',hsl];done)|(simp[go_sem,a0,a1,a2,l5,l6,yp,yL];done)|(simp[go_sem,z0,z1,z2,z5,z6,zx,zy];done))
        clear hK K
        try simp only[Act.put,List.setIfInBounds_toArray,List.set_cons_zero,List.set_cons_succ]
        refine TkH 8 ?_
        refine wpAnyH_ready (rs:=[9]) (by kernel_rfl) (by simp) (AllReadyH.cons (List.getElem?_toArray.trans rfl) (fun K hK=> ?_) AllReadyH.nil)
        go_simp
        refine hK.out _ _ ?_ (fun hHeld=> ?_)
        focus((try dsimp only);refine⟨?_,?_,?_,?_,?_⟩<;>first|assumption|(simp[go_sem,hl0',hl1',hsl];done)|(simp[go_sem,a0,a1,a2,l5,l6,yp,yL];done)|(simp[go_sem,z0,z1,z2,z5,z6,zx,zy];done))
        clear hK K
        try simp only[Act.put,List.setIfInBounds_toArray,List.set_cons_zero,List.set_cons_succ]
        refine wpAnyH_ready (rs:=[10]) (by kernel_rfl) (by simp) (AllReadyH.cons (List.getElem?_toArray.trans rfl) (fun K hK=> ?_) AllReadyH.nil)
        refine step_append_S (v:= .slice A1 out.length c1) (n:=out.length) (m:=1) rfl _ _ rfl elPart part_len part_one rfl (xs:=out) (ys:=[(pn,seenQ (pq/lf))]) (YO.out.keep (n:=w5.heap.size) Bw) rfl rfl rfl (sl_part (J_new _ _ _ rfl)) (by simp[maxLen];omega) (by omega) (by simp;omega) ?_
        intro v6 w6 h1 h2 h3
        obtain⟨A6,c6,hv6,_,_⟩:=h1.sl part_len
        rw[List.length_append]at hv6
        subst hv6
        have zT:TombC w6 W0.heap.size gpl gcl frm gfin (.slice A1 out.length c1) (.slice D gdi.length dc):=(h2.block _ (by simp;omega) (fun e=>own_type YO.out YT.out (by decide) e.symm)).trans (J_alloc YT.out)
        have z4:w6.cell? ⟨W0.heap.size,4,none⟩=some (.slice A1 out.length c1):=by unfold TombC at zT;simp only[World.cell?,zT];rfl
        have f4:w6.frozen? ⟨W0.heap.size,4,none⟩=false:=by unfold TombC at zT;simp only[World.frozen?,zT];rfl
        have zL:w6.heap[L]?=some (fracB lf):=(h2.block _ (by simp;omega) (fun e=>own_type YO.out YL.out (by decide) e.symm)).trans (J_alloc YL.out)
        have z5:w6.cell? ⟨L,0,none⟩=some (.int .i64 lf.num):=by simp only[World.cell?,zL,fracB];rfl
        have z6:w6.cell? ⟨L,1,none⟩=some (.int .i64 lf.den):=by simp only[World.cell?,zL,fracB];rfl
        have zP:w6.heap[wr.heap.size]?=some (.cells #[.string pn, .int .i64 pq.num, .int .i64 pq.den] 49):=(h2.block _ (by simp;omega) (fun e=>by have:=(HOX.out.ge _ e.symm).2;omega)).trans (J_alloc Y0.out)
        have z0:w6.cell? ⟨wr.heap.size,0,none⟩=some (.string pn):=by simp only[World.cell?,zP];rfl
        have z1:w6.cell? ⟨wr.heap.size,1,none⟩=some (.int .i64 pq.num):=by simp only[World.cell?,zP];rfl
        have z2:w6.cell? ⟨wr.heap.size,2,none⟩=some (.int .i64 pq.den):=by simp only[World.cell?,zP];rfl
        have zl:=blk_lt zT
        have zx:wr.heap.size≠W0.heap.size:=by omega
        have zy:L≠W0.heap.size:=by omega
        have ZT:=Lib.hid zT
        have ZL:=Lib.hid zL
        have H1:=Lib.hid h1
        have H2:=Lib.hid h2
        have H3:=Lib.hid h3
        clear zT zL zP h1 h2 h3
        refine hK.out _ _ ?_ (fun hHeld=> ?_)
        focus((try dsimp only);refine⟨?_,?_,?_,?_,?_⟩<;>first|assumption|(simp[go_sem,hl0',hl1',hsl];done)|(simp[go_sem,a0,a1,a2,l5,l6,yp,yL];done)|(simp[go_sem,z0,z1,z2,z5,z6,zx,zy];done))
        clear hK K
        try simp only[Act.put,List.setIfInBounds_toArray,List.set_cons_zero,List.set_cons_succ]
        refine TkH 11 ?_
        refine wpAnyH_ready (rs:=[12]) (by kernel_rfl) (by simp) (AllReadyH.cons (List.getElem?_toArray.trans rfl) (fun K hK=> ?_) AllReadyH.nil)
        go_simp
        refine hK.out _ _ ?_ (fun hHeld=> ?_)
        focus((try dsimp only);refine⟨?_,?_,?_,?_,?_⟩<;>first|assumption|(simp[go_sem,hl0',hl1',hsl];done)|(simp[go_sem,a0,a1,a2,l5,l6,yp,yL];done)|(simp[go_sem,z0,z1,z2,z5,z6,zx,zy];done))
        clear hK K
        try simp only[Act.put,List.setIfInBounds_toArray,List.set_cons_zero,List.set_cons_succ]
        refine wpAnyH_done (by kernel_rfl) ?_ _
        have hvX:blkOf (.slice A6 (out.length+[(pn,seenQ (pq/lf))].length) c6)≠some W0.heap.size:=fun e=>by
         rcases H3.out _ e with h|h
         ·exact own_type YO.out YT.out (by decide) h
         ·simp at h;omega
        have r1:MarkAt (w6.setCell ⟨W0.heap.size,4,none⟩ (.slice A6 (out.length+[(pn,seenQ (pq/lf))].length) c6)) C (fl||bigQ (pq/lf)):=
         J_ne (by omega) ((H2.out.block C (by have:=blk_lt N1.out;simp;omega) (fun e=>by have:=(HOX.out.ge _ e.symm).1;omega)).trans (J_alloc N1.out))
        have r2:=tomb_set4 ZT.out (.slice A6 (out.length+[(pn,seenQ (pq/lf))].length) c6)
        have r3:OwnS (w6.setCell ⟨W0.heap.size,4,none⟩ (.slice A6 (out.length+[(pn,seenQ (pq/lf))].length) c6)) W0.heap.size 49 3 partCells (.slice A6 (out.length+[(pn,seenQ (pq/lf))].length) c6) (out++[(pn,seenQ (pq/lf))]):=H1.out.grown (grown_set _ _ _ _) (.inr hvX)
        have r4:(w6.setCell ⟨W0.heap.size,4,none⟩ (.slice A6 (out.length+[(pn,seenQ (pq/lf))].length) c6)).heap[L]?=some (fracB lf):=J_ne (by omega) ZL.out
        have r5:Below C W0 w5:=grown_below (W:=(wr.alloc (.cells #[.string pn, .int .i64 pq.num, .int .i64 pq.den] 49)).drew) (B_drew (B_alloc HBl.out _ (by omega))) N2.out (Nat.le_refl _)
        have r6:Below C W0 w6:=Below.grown (B_alloc r5 _ (by omega)) H2.out (by have:=r5.size;simp;omega) (fun j hj=>by have:=(HOX.out.ge _ hj).1;omega)
        have r7:Below C W0 (w6.setCell ⟨W0.heap.size,4,none⟩ (.slice A6 (out.length+[(pn,seenQ (pq/lf))].length) c6)):=B_set r6 (by show C<=W0.heap.size;omega) _
        have r8:L<w6.heap.size:=blk_lt ZL.out
        have R1:=Lib.hid r1
        have R2:=Lib.hid r2
        have R3:=Lib.hid r3
        have R4:=Lib.hid r4
        have R7:=Lib.hid r7
        have hgx:=HGS.out
        rw[HSB.out]at hgx
        simp only[Bool.false_eq_true,if_false]at hgx
        have HGX:=Lib.hid hgx
        clear r1 r2 r3 r4 r5 r6 r7 hgx a0 a1 a2 l5 l6 y2 z4 f4 z5 z6 z0 z1 z2
        go_wp2_with fail
        go_round
        case rel=>exact⟨k+1,_,out++[(pn,seenQ (pq/lf))],_,by omega,by go_num,HGX.out.symm,R1.out,R2.out,R3.out,R4.out,R7.out,by simp;omega⟩
        case measure=>simp[intOf];omega
       ·go_simp
        refine(quoM_any C fl _ ?q1 pq lf hpsm hlsm hlp).mono ?_
        case q1=>(repeat(first|exact HM.out|refine MarkAt.drew ?_|refine MarkAt.alloc ?_ _))
        rintro e w5 ⟨rfl,n1,n2⟩
        have hn2:=n2.size
        have y0:w5.heap[wr.heap.size]?=some (.cells #[.string pn, .int .i64 pq.num, .int .i64 pq.den] 49):=(n2.block _ (by simp) (by simp;omega)).trans (J_new _ _ _ rfl)
        have a0:w5.cell? ⟨wr.heap.size,0,none⟩=some (.string pn):=by simp only[World.cell?,y0];rfl
        have a1:w5.cell? ⟨wr.heap.size,1,none⟩=some (.int .i64 pq.num):=by simp only[World.cell?,y0];rfl
        have a2:w5.cell? ⟨wr.heap.size,2,none⟩=some (.int .i64 pq.den):=by simp only[World.cell?,y0];rfl
        have yL':w5.heap[L]?=some (fracB lf):=(n2.block _ (by simp;omega) (by simp;omega)).trans (J_alloc HLX.out)
        have l5:w5.cell? ⟨L,0,none⟩=some (.int .i64 lf.num):=by simp only[World.cell?,yL',fracB];rfl
        have l6:w5.cell? ⟨L,1,none⟩=some (.int .i64 lf.den):=by simp only[World.cell?,yL',fracB];rfl
        have yT:TombC w5 W0.heap.size gpl gcl frm gfin (.slice A1 out.length c1) (.slice D gdi.length dc):=(n2.block _ (by simp;omega) (by simp;omega)).trans (J_alloc HTX.out)
        have y2:w5.cell? ⟨W0.heap.size,4,none⟩=some (.slice A1 out.length c1):=by unfold TombC at yT;simp only[World.cell?,yT];rfl
        have yO:OwnS w5 W0.heap.size 49 3 partCells (.slice A1 out.length c1) out:=by refine OwnS.grown (hg:=n2) ?_ (.inr fun e=>by have:=(HOX.out.ge _ e).1;omega);exact HOX.out.keep (n:=wr.heap.size) Bw
        have yl:=blk_lt yT
        have yp:=blk_lt y0
        have yL:=blk_lt yL'
        have yn:W0.heap.size≠w5.heap.size:=by omega
        have ypn:wr.heap.size≠w5.heap.size:=by omega
        have YT:=Lib.hid yT
        have YO:=Lib.hid yO
        have YL:=Lib.hid yL'
        have Y0:=Lib.hid y0
        have N1:=Lib.hid n1
        have N2:=Lib.hid n2
        clear yT yO yL' n1 n2 y0
        simp only[fracV]
        refine hK.out _ _ ?_ (fun hHeld=> ?_)
        focus((try dsimp only);refine⟨?_,?_,?_,?_,?_⟩<;>first|assumption|(simp[go_sem,hl0',hl1',hsl];done)|(simp[go_sem,a0,a1,a2,l5,l6,yp,yL];done)|(simp[go_sem,z0,z1,z2,z5,z6,zx,zy];done))
        clear hK K
        try simp only[Act.put,List.setIfInBounds_toArray,List.set_cons_zero,List.set_cons_succ]
        refine TkH 8 ?_
        refine wpAnyH_ready (rs:=[1,9]) (by kernel_rfl) (by simp) (AllReadyH.cons (List.getElem?_toArray.trans rfl) (fun K hK=> ?_) (AllReadyH.cons (List.getElem?_toArray.trans rfl) (fun K hK=> ?_) AllReadyH.nil))
        ·go_simp
         refine hK.out _ _ ?_ (fun hHeld=> ?_)
         focus((try dsimp only);refine⟨?_,?_,?_,?_,?_⟩<;>first|assumption|(simp[go_sem,hl0',hl1',hsl];done)|(simp[go_sem,a0,a1,a2,l5,l6,yp,yL];done)|(simp[go_sem,z0,z1,z2,z5,z6,zx,zy];done))
         clear hK K
         try simp only[Act.put,List.setIfInBounds_toArray,List.set_cons_zero,List.set_cons_succ]
         refine wpAnyH_ready (rs:=[9]) (by kernel_rfl) (by simp) (AllReadyH.cons (List.getElem?_toArray.trans rfl) (fun K hK=> ?_) AllReadyH.nil)
         go_simp
         refine hK.out _ _ ?_ (fun hHeld=> ?_)
         focus((try dsimp only);refine⟨?_,?_,?_,?_,?_⟩<;>first|assumption|(simp[go_sem,hl0',hl1',hsl];done)|(simp[go_sem,a0,a1,a2,l5,l6,yp,yL];done)|(simp[go_sem,z0,z1,z2,z5,z6,zx,zy];done))
         clear hK K
         try simp only[Act.put,List.setIfInBounds_toArray,List.set_cons_zero,List.set_cons_succ]
         refine wpAnyH_ready (rs:=[10]) (by kernel_rfl) (by simp) (AllReadyH.cons (List.getElem?_toArray.trans rfl) (fun K hK=> ?_) AllReadyH.nil)
         refine step_append_S (v:= .slice A1 out.length c1) (n:=out.length) (m:=1) rfl _ _ rfl elPart part_len part_one rfl (xs:=out) (ys:=[(pn,seenQ (pq/lf))]) (YO.out.keep (n:=w5.heap.size) Bw) rfl rfl rfl (sl_part (J_new _ _ _ rfl)) (by simp[maxLen];omega) (by omega) (by simp;omega) ?_
         intro v6 w6 h1 h2 h3
         obtain⟨A6,c6,hv6,_,_⟩:=h1.sl part_len
         rw[List.length_append]at hv6
         subst hv6
         have zT:TombC w6 W0.heap.size gpl gcl frm gfin (.slice A1 out.length c1) (.slice D gdi.length dc):=(h2.block _ (by simp;omega) (fun e=>own_type YO.out YT.out (by decide) e.symm)).trans (J_alloc YT.out)
         have z4:w6.cell? ⟨W0.heap.size,4,none⟩=some (.slice A1 out.length c1):=by unfold TombC at zT;simp only[World.cell?,zT];rfl
         have f4:w6.frozen? ⟨W0.heap.size,4,none⟩=false:=by unfold TombC at zT;simp only[World.frozen?,zT];rfl
         have zL:w6.heap[L]?=some (fracB lf):=(h2.block _ (by simp;omega) (fun e=>own_type YO.out YL.out (by decide) e.symm)).trans (J_alloc YL.out)
         have z5:w6.cell? ⟨L,0,none⟩=some (.int .i64 lf.num):=by simp only[World.cell?,zL,fracB];rfl
         have z6:w6.cell? ⟨L,1,none⟩=some (.int .i64 lf.den):=by simp only[World.cell?,zL,fracB];rfl
         have zP:w6.heap[wr.heap.size]?=some (.cells #[.string pn, .int .i64 pq.num, .int .i64 pq.den] 49):=(h2.block _ (by simp;omega) (fun e=>by have:=(HOX.out.ge _ e.symm).2;omega)).trans (J_alloc Y0.out)
         have z0:w6.cell? ⟨wr.heap.size,0,none⟩=some (.string pn):=by simp only[World.cell?,zP];rfl
         have z1:w6.cell? ⟨wr.heap.size,1,none⟩=some (.int .i64 pq.num):=by simp only[World.cell?,zP];rfl
         have z2:w6.cell? ⟨wr.heap.size,2,none⟩=some (.int .i64 pq.den):=by simp only[World.cell?,zP];rfl
         have zl:=blk_lt zT
         have zx:wr.heap.size≠W0.heap.size:=by omega
         have zy:L≠W0.heap.size:=by omega
         have ZT:=Lib.hid zT
         have ZL:=Lib.hid zL
         have H1:=Lib.hid h1
         have H2:=Lib.hid h2
         have H3:=Lib.hid h3
         clear zT zL zP h1 h2 h3
         refine hK.out _ _ ?_ (fun hHeld=> ?_)
         focus((try dsimp only);refine⟨?_,?_,?_,?_,?_⟩<;>first|assumption|(simp[go_sem,hl0',hl1',hsl];done)|(simp[go_sem,a0,a1,a2,l5,l6,yp,yL];done)|(simp[go_sem,z0,z1,z2,z5,z6,zx,zy];done))
         clear hK K
         try simp only[Act.put,List.setIfInBounds_toArray,List.set_cons_zero,List.set_cons_succ]
         refine TkH 11 ?_
         refine wpAnyH_ready (rs:=[12]) (by kernel_rfl) (by simp) (AllReadyH.cons (List.getElem?_toArray.trans rfl) (fun K hK=> ?_) AllReadyH.nil)
         go_simp
         refine hK.out _ _ ?_ (fun hHeld=> ?_)
         focus((try dsimp only);refine⟨?_,?_,?_,?_,?_⟩<;>first|assumption|(simp[go_sem,hl0',hl1',hsl];done)|(simp[go_sem,a0,a1,a2,l5,l6,yp,yL];done)|(simp[go_sem,z0,z1,z2,z5,z6,zx,zy];done))
         clear hK K
         try simp only[Act.put,List.setIfInBounds_toArray,List.set_cons_zero,List.set_cons_succ]
         refine wpAnyH_done (by kernel_rfl) ?_ _
         have hvX:blkOf (.slice A6 (out.length+[(pn,seenQ (pq/lf))].length) c6)≠some W0.heap.size:=fun e=>by
          rcases H3.out _ e with h|h
          ·exact own_type YO.out YT.out (by decide) h
          ·simp at h;omega
         have r1:MarkAt (w6.setCell ⟨W0.heap.size,4,none⟩ (.slice A6 (out.length+[(pn,seenQ (pq/lf))].length) c6)) C (fl||bigQ (pq/lf)):=
          J_ne (by omega) ((H2.out.block C (by have:=blk_lt N1.out;simp;omega) (fun e=>by have:=(HOX.out.ge _ e.symm).1;omega)).trans (J_alloc N1.out))
         have r2:=tomb_set4 ZT.out (.slice A6 (out.length+[(pn,seenQ (pq/lf))].length) c6)
         have r3:OwnS (w6.setCell ⟨W0.heap.size,4,none⟩ (.slice A6 (out.length+[(pn,seenQ (pq/lf))].length) c6)) W0.heap.size 49 3 partCells (.slice A6 (out.length+[(pn,seenQ (pq/lf))].length) c6) (out++[(pn,seenQ (pq/lf))]):=H1.out.grown (grown_set _ _ _ _) (.inr hvX)
         have r4:(w6.setCell ⟨W0.heap.size,4,none⟩ (.slice A6 (out.length+[(pn,seenQ (pq/lf))].length) c6)).heap[L]?=some (fracB lf):=J_ne (by omega) ZL.out
         have r5:Below C W0 w5:=grown_below (W:=(wr.alloc (.cells #[.string pn, .int .i64 pq.num, .int .i64 pq.den] 49)).drew) (B_drew (B_alloc HBl.out _ (by omega))) N2.out (Nat.le_refl _)
         have r6:Below C W0 w6:=Below.grown (B_alloc r5 _ (by omega)) H2.out (by have:=r5.size;simp;omega) (fun j hj=>by have:=(HOX.out.ge _ hj).1;omega)
         have r7:Below C W0 (w6.setCell ⟨W0.heap.size,4,none⟩ (.slice A6 (out.length+[(pn,seenQ (pq/lf))].length) c6)):=B_set r6 (by show C<=W0.heap.size;omega) _
         have r8:L<w6.heap.size:=blk_lt ZL.out
         have R1:=Lib.hid r1
         have R2:=Lib.hid r2
         have R3:=Lib.hid r3
         have R4:=Lib.hid r4
         have R7:=Lib.hid r7
         have hgx:=HGS.out
         rw[HSB.out]at hgx
         simp only[Bool.false_eq_true,if_false]at hgx
         have HGX:=Lib.hid hgx
         clear r1 r2 r3 r4 r5 r6 r7 hgx a0 a1 a2 l5 l6 y2 z4 f4 z5 z6 z0 z1 z2
         go_wp2_with fail
         go_round
         case rel=>exact⟨k+1,_,out++[(pn,seenQ (pq/lf))],_,by omega,by go_num,HGX.out.symm,R1.out,R2.out,R3.out,R4.out,R7.out,by simp;omega⟩
         case measure=>simp[intOf];omega
        ·go_simp
         refine hK.out _ _ ?_ (fun hHeld=> ?_)
         focus((try dsimp only);refine⟨?_,?_,?_,?_,?_⟩<;>first|assumption|(simp[go_sem,hl0',hl1',hsl];done)|(simp[go_sem,a0,a1,a2,l5,l6,yp,yL];done)|(simp[go_sem,z0,z1,z2,z5,z6,zx,zy];done))
         clear hK K
         try simp only[Act.put,List.setIfInBounds_toArray,List.set_cons_zero,List.set_cons_succ]
         refine wpAnyH_ready (rs:=[1]) (by kernel_rfl) (by simp) (AllReadyH.cons (List.getElem?_toArray.trans rfl) (fun K hK=> ?_) AllReadyH.nil)
         go_simp
         refine hK.out _ _ ?_ (fun hHeld=> ?_)
         focus((try dsimp only);refine⟨?_,?_,?_,?_,?_⟩<;>first|assumption|(simp[go_sem,hl0',hl1',hsl];done)|(simp[go_sem,a0,a1,a2,l5,l6,yp,yL];done)|(simp[go_sem,z0,z1,z2,z5,z6,zx,zy];done))
         clear hK K
         try simp only[Act.put,List.setIfInBounds_toArray,List.set_cons_zero,List.set_cons_succ]
         refine wpAnyH_ready (rs:=[10]) (by kernel_rfl) (by simp) (AllReadyH.cons (List.getElem?_toArray.trans rfl) (fun K hK=> ?_) AllReadyH.nil)
         refine step_append_S (v:= .slice A1 out.length c1) (n:=out.length) (m:=1) rfl _ _ rfl elPart part_len part_one rfl (xs:=out) (ys:=[(pn,seenQ (pq/lf))]) (YO.out.keep (n:=w5.heap.size) Bw) rfl rfl rfl (sl_part (J_new _ _ _ rfl)) (by simp[maxLen];omega) (by omega) (by simp;omega) ?_
         intro v6 w6 h1 h2 h3
         obtain⟨A6,c6,hv6,_,_⟩:=h1.sl part_len
         rw[List.length_append]at hv6
         subst hv6
         have zT:TombC w6 W0.heap.size gpl gcl frm gfin (.slice A1 out.length c1) (.slice D gdi.length dc):=(h2.block _ (by simp;omega) (fun e=>own_type YO.out YT.out (by decide) e.symm)).trans (J_alloc YT.out)
         have z4:w6.cell? ⟨W0.heap.size,4,none⟩=some (.slice A1 out.length c1):=by unfold TombC at zT;simp only[World.cell?,zT];rfl
         have f4:w6.frozen? ⟨W0.heap.size,4,none⟩=false:=by unfold TombC at zT;simp only[World.frozen?,zT];rfl
         have zL:w6.heap[L]?=some (fracB lf):=(h2.block _ (by simp;omega) (fun e=>own_type YO.out YL.out (by decide) e.symm)).trans (J_alloc YL.out)
         have z5:w6.cell? ⟨L,0,none⟩=some (.int .i64 lf.num):=by simp only[World.cell?,zL,fracB];rfl
         have z6:w6.cell? ⟨L,1,none⟩=some (.int .i64 lf.den):=by simp only[World.cell?,zL,fracB];rfl
         have zP:w6.heap[wr.heap.size]?=some (.cells #[.string pn, .int .i64 pq.num, .int .i64 pq.den] 49):=(h2.block _ (by simp;omega) (fun e=>by have:=(HOX.out.ge _ e.symm).2;omega)).trans (J_alloc Y0.out)
         have z0:w6.cell? ⟨wr.heap.size,0,none⟩=some (.string pn):=by simp only[World.cell?,zP];rfl
         have z1:w6.cell? ⟨wr.heap.size,1,none⟩=some (.int .i64 pq.num):=by simp only[World.cell?,zP];rfl
         have z2:w6.cell? ⟨wr.heap.size,2,none⟩=some (.int .i64 pq.den):=by simp only[World.cell?,zP];rfl
         have zl:=blk_lt zT
         have zx:wr.heap.size≠W0.heap.size:=by omega
         have zy:L≠W0.heap.size:=by omega
         have ZT:=Lib.hid zT
         have ZL:=Lib.hid zL
         have H1:=Lib.hid h1
         have H2:=Lib.hid h2
         have H3:=Lib.hid h3
         clear zT zL zP h1 h2 h3
         refine hK.out _ _ ?_ (fun hHeld=> ?_)
         focus((try dsimp only);refine⟨?_,?_,?_,?_,?_⟩<;>first|assumption|(simp[go_sem,hl0',hl1',hsl];done)|(simp[go_sem,a0,a1,a2,l5,l6,yp,yL];done)|(simp[go_sem,z0,z1,z2,z5,z6,zx,zy];done))
         clear hK K
         try simp only[Act.put,List.setIfInBounds_toArray,List.set_cons_zero,List.set_cons_succ]
         refine TkH 11 ?_
         refine wpAnyH_ready (rs:=[12]) (by kernel_rfl) (by simp) (AllReadyH.cons (List.getElem?_toArray.trans rfl) (fun K hK=> ?_) AllReadyH.nil)
         go_simp
         refine hK.out _ _ ?_ (fun hHeld=> ?_)
         focus((try dsimp only);refine⟨?_,?_,?_,?_,?_⟩<;>first|assumption|(simp[go_sem,hl0',hl1',hsl];done)|(simp[go_sem,a0,a1,a2,l5,l6,yp,yL];done)|(simp[go_sem,z0,z1,z2,z5,z6,zx,zy];done))
         clear hK K
         try simp only[Act.put,List.setIfInBounds_toArray,List.set_cons_zero,List.set_cons_succ]
         refine wpAnyH_done (by kernel_rfl) ?_ _
         have hvX:blkOf (.slice A6 (out.length+[(pn,seenQ (pq/lf))].length) c6)≠some W0.heap.size:=fun e=>by
          rcases H3.out _ e with h|h
          ·exact own_type YO.out YT.out (by decide) h
          ·simp at h;omega
         have r1:MarkAt (w6.setCell ⟨W0.heap.size,4,none⟩ (.slice A6 (out.length+[(pn,seenQ (pq/lf))].length) c6)) C (fl||bigQ (pq/lf)):=
          J_ne (by omega) ((H2.out.block C (by have:=blk_lt N1.out;simp;omega) (fun e=>by have:=(HOX.out.ge _ e.symm).1;omega)).trans (J_alloc N1.out))
         have r2:=tomb_set4 ZT.out (.slice A6 (out.length+[(pn,seenQ (pq/lf))].length) c6)
         have r3:OwnS (w6.setCell ⟨W0.heap.size,4,none⟩ (.slice A6 (out.length+[(pn,seenQ (pq/lf))].length) c6)) W0.heap.size 49 3 partCells (.slice A6 (out.length+[(pn,seenQ (pq/lf))].length) c6) (out++[(pn,seenQ (pq/lf))]):=H1.out.grown (grown_set _ _ _ _) (.inr hvX)
         have r4:(w6.setCell ⟨W0.heap.size,4,none⟩ (.slice A6 (out.length+[(pn,seenQ (pq/lf))].length) c6)).heap[L]?=some (fracB lf):=J_ne (by omega) ZL.out
         have r5:Below C W0 w5:=grown_below (W:=(wr.alloc (.cells #[.string pn, .int .i64 pq.num, .int .i64 pq.den] 49)).drew) (B_drew (B_alloc HBl.out _ (by omega))) N2.out (Nat.le_refl _)
         have r6:Below C W0 w6:=Below.grown (B_alloc r5 _ (by omega)) H2.out (by have:=r5.size;simp;omega) (fun j hj=>by have:=(HOX.out.ge _ hj).1;omega)
         have r7:Below C W0 (w6.setCell ⟨W0.heap.size,4,none⟩ (.slice A6 (out.length+[(pn,seenQ (pq/lf))].length) c6)):=B_set r6 (by show C<=W0.heap.size;omega) _
         have r8:L<w6.heap.size:=blk_lt ZL.out
         have R1:=Lib.hid r1
         have R2:=Lib.hid r2
         have R3:=Lib.hid r3
         have R4:=Lib.hid r4
         have R7:=Lib.hid r7
         have hgx:=HGS.out
         rw[HSB.out]at hgx
         simp only[Bool.false_eq_true,if_false]at hgx
         have HGX:=Lib.hid hgx
         clear r1 r2 r3 r4 r5 r6 r7 hgx a0 a1 a2 l5 l6 y2 z4 f4 z5 z6 z0 z1 z2
         go_wp2_with fail
         go_round
         case rel=>exact⟨k+1,_,out++[(pn,seenQ (pq/lf))],_,by omega,by go_num,HGX.out.symm,R1.out,R2.out,R3.out,R4.out,R7.out,by simp;omega⟩
         case measure=>simp[intOf];omega
    ·have hki: ¬(k:Int)<(ghs.length:Int):=by omega
     have hxe:(out,fl)=surF fr lf ghs ([],false):=by rw[HX.out,List.take_of_length_le (by omega)]
     have hbt:=(hbw.block T hTl).trans HT1.out
     have HBT:=Lib.hid hbt
     have hc0:wr.cell? ⟨C,0,none⟩=some (.bool fl):=(mark_cells HM.out).1
     have HG2:=HG.out
     rw[<-hxe]at HG2
     clear hxe HX HGG hbw hl0' hl1' e3
     cases fl
     ·have HG3:=Lib.hid HG2
      have htx:=HTX.out
      unfold TombC at htx
      have n0:wr.cell? ⟨W0.heap.size,0,none⟩=some (.string gpl):=by simp only[World.cell?,htx];rfl
      have n1:wr.cell? ⟨W0.heap.size,1,none⟩=some (.int .i64 gcl):=by simp only[World.cell?,htx];rfl
      have n2:wr.cell? ⟨W0.heap.size,2,none⟩=some (.int .i64 frm):=by simp only[World.cell?,htx];rfl
      have n3:wr.cell? ⟨W0.heap.size,3,none⟩=some (.int .i64 gfin):=by simp only[World.cell?,htx];rfl
      have n5:wr.cell? ⟨W0.heap.size,5,none⟩=some (.slice D gdi.length dc):=by simp only[World.cell?,htx];rfl
      have z0:wr.cell? ⟨T,0,none⟩=some (.string gpl):=by simp only[World.cell?,hbt];rfl
      have z1:wr.cell? ⟨T,1,none⟩=some (.int .i64 gcl):=by simp only[World.cell?,hbt];rfl
      have z2:wr.cell? ⟨T,2,none⟩=some (.int .i64 frm):=by simp only[World.cell?,hbt];rfl
      have z3:wr.cell? ⟨T,3,none⟩=some (.int .i64 gfin):=by simp only[World.cell?,hbt];rfl
      have z4:wr.cell? ⟨T,4,none⟩=some (.slice H ghs.length hc'):=by simp only[World.cell?,hbt];rfl
      have z5:wr.cell? ⟨T,5,none⟩=some (.slice D gdi.length dc):=by simp only[World.cell?,hbt];rfl
      have fz: ∀j,wr.frozen? ⟨T,j,none⟩=false:=fun j=>by simp only[World.frozen?,hbt];rfl
      clear HG2 htx hbt
      go_wp2_with fail
      go_ret
      have hbw:=HBW.out
      have hro:Ro wr 49 partCells A1 out:=HOX.out.ro'
      have hN:TombAt ((((((wr.setCell ⟨T,0,none⟩ (.string gpl)).setCell ⟨T,1,none⟩ (.int .i64 gcl)).setCell ⟨T,2,none⟩ (.int .i64 frm)).setCell ⟨T,3,none⟩ (.int .i64 gfin)).setCell ⟨T,4,none⟩ (.slice A1 out.length c1)).setCell ⟨T,5,none⟩ (.slice D gdi.length dc)) base Bk T ⟨gpl,gcl,gfin,out,gdi⟩:=
       ⟨A1,c1,D,dc,frm,tomb_set6 HBT.out _ _ _ _ _ _,t2,hc1,t4,hro.kept (grown_tomb6 _ _ _ _ _ _ _ _) HBT.out (by decide),(HT6.out.keep hbw).kept (grown_tomb6 _ _ _ _ _ _ _ _) HBT.out (by decide),HT7.out⟩
      have hst:=wld_store hb0 (HC.out.keep hbw) (HP.out.keep hbw) (HT.out.keep hbw) HPI.out HBT.out (grown_tomb6 wr T _ _ _ _ _ _) hN
      have hb9:Below base w wr:=hbw.mono (by omega)
      have hbb:=grown_below hb9 (grown_tomb6 wr T (.string gpl) (.int .i64 gcl) (.int .i64 frm) (.int .i64 gfin) (.slice A1 out.length c1) (.slice D gdi.length dc)) t2 (by omega)
      have hgg:surrenderP s ⟨kd,dy,pl,fr,ts,cl,yr⟩=(s.withGrave i ⟨gpl,gcl,gfin,out,gdi⟩,0):=HG3.out.trans (if_neg (by simp))
      rw[hgg]
      clear hN HG3 hgg hb9 hro
      exact⟨rfl,hst,hbb,(KeepD.below hbw).trans (KeepD.cells (grown_tomb6 wr T _ _ _ _ _ _) HBT.out (by decide))⟩
     ·have HG3:=Lib.hid HG2
      clear HG2
      go_wp2_with fail
      go_ret
      exact take_same HW.out HBW.out (HG3.out.trans (by simp))
end Go.Proofs.YtmaidggpbihlgaaGreatDoor
