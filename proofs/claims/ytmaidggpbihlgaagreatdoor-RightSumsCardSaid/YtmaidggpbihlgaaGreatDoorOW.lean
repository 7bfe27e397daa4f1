/- Plain: the shares of a place and of an estate are right. -/
import Derived.Test.YtmaidggpbihlgaaGreatDoorEE
import Derived.Test.YtmaidggpbihlgaaGreatDoorE7
import Derived.Test.YtmaidggpbihlgaaGreatDoorJS
set_option linter.unusedSimpArgs false
set_option linter.unusedVariables false
namespace Go.Proofs.YtmaidggpbihlgaaGreatDoor
open Go.RowKit Go.Shelf
attribute [local go_sem] World.cell?_alloc_mark ext_size ext_cell ext_frozen lt_add_r lt_add_r2 lt_add_r3 lt_add_r4 lt_add_r5 lt_add_r6 lt_add_r7 lt_add_r8
attribute [local go_sem] ext_setCell alloc_setCell_lt
noncomputable def estApi (laws:List Law) (ds:List Deed) (name:ByteArray) (day:Int):Parts×Int:=
 if onErr laws ds [name] day != 0 then([],onErr laws ds [name] day)else
 if isDeadP (replayD laws ds day).1 name then([],28)else
 match estateP (replayD laws ds day).1 (lawOnP laws day) name with
 |none=>([],8)
 |some o=>(o,0)
def EstPost (w:World) (r:Parts×Int) (e:Ending) (w':World):Prop:=
 Below w.heap.size w w'/\ ∃A c,e= .returned (.tuple #[.slice A r.1.length c, .int .i64 r.2])/\r.1.length<=c/\Sl w' 3 partCells A r.1
theorem on_laws {laws:List Law} {ds:List Deed} {names:List ByteArray} {day:Int} (h:onErr laws ds names day=0):checkLawsP laws=0:=by
 unfold onErr at h
 split at h
 ·rename_i h1
  rw[h]at h1
  simp at h1
 ·rename_i h1
  have h2:(stopQ laws ds 200000).2.2=0:=by simpa using h1
  unfold stopQ at h2
  split at h2
  ·exact h2
  ·rename_i h3
   simpa using h3
set_option maxRecDepth 100000 in
set_option maxHeartbeats 4000000 in
theorem estApi_any (laws:List Law) (ds:List Deed) (name:ByteArray) (day:Int) (LA:Option Addr) (n nc:Nat) (DA:Option Addr) (m mc:Nat) (w:World) (hR:RightsIn w laws ds LA n nc DA m mc) (hF:FormsIn w) (hL:LensIn w) (hO: ∀d∈ds,okLens d) (hp:name.size<=100000):
 Calls Tryz.prog 12 #[.agg #[.slice LA n nc, .slice DA m mc], .string name, .int .i64 day] w (EstPost w (estApi laws ds name day)):=by
 have hon:=fun W (hB:Below w.heap.size w W) NA (hS:Sl W 1 sC NA [name])=>on_any laws ds day [name] LA n nc DA m mc NA 1 1 W (hR.keep hB) (hF.keep hB) (hL.keep hB) hO rfl (by simp) (by simpa using hp) hS
 have HON:=Lib.hid hon
 have HLW:=Lib.hid (fun(h:onErr laws ds [name] day=0)=>on_laws h)
 have HLS:=Lib.hid hR.laws
 obtain⟨rfl,rfl,_,_,_,_⟩:=hR
 obtain⟨R,hRR⟩: ∃R,R=estApi laws ds name day:=⟨_,rfl⟩
 rw[<-hRR]
 unfold estApi at hRR
 unfold EstPost
 unfold OnPost at HON
 generalize onErr laws ds [name] day=E at*
 generalize(replayD laws ds day).1=s at*
 have HR:=Lib.hid hRR
 clear hon hF hL hO hRR
 go_enter Tryz.func12,Tryz.ntmps12
 by_cases h0:E=0
 ·subst h0
  have hlw:=HLW.out rfl
  have hll:laws.length<=10:=by
   unfold checkLawsP at hlw
   split at hlw
   ·simp at hlw
   ·rename_i h;simpa using h
  have hlaw:=law_share hlw day
  have hre:=HR.out
  rw[if_neg (by simp)]at hre
  have HR2:=Lib.hid hre
  clear hre HR HLW hlw
  go_upto_region 4 with(go_at_call 30
                        go_must(refine(HON.out _ Bw _ (sl_one (J_new _ _ _ (by simp)))).mono ?_)
                        rintro e wq ⟨h1,⟨hne,_⟩|⟨_,base,b,la,co,rfl,h2,h3,⟨last,h4⟩,h5⟩⟩
                        ·exact absurd rfl hne
                        have H1:=Lib.hid h1
                        have H3:=Lib.hid h3
                        have H4:=Lib.hid h4
                        have H5:=Lib.hid h5
                        clear h1 h2 h3 h4 h5)
  clear HON
  obtain⟨Bk,dd,cc,pp,wl,rr,mv,tv,ps,hb0,hC,hP,hT⟩:=H3.out
  obtain⟨k,hk6,hfew⟩:=H5.out
  have hb1:Below w.heap.size w wq:=Below.trans (B_alloc (B_alloc (Below.refl _ _) _) _ (by simp)) (H1.out.mono (by simp;omega))
  have x0:wq.cell? ⟨w.heap.size,0,none⟩=some (.slice LA laws.length nc):=(B_cell H1.out (by simp;omega)).trans (by simp[go_sem])
  have hx0:w.heap.size<wq.heap.size:=by have:=H1.out.size;simp at this;omega
  have hbl:=blk_lt hC
  have hlk:=look_dead hP name
  unfold WldC at hC
  have k0:wq.cell? ⟨b,0,none⟩=some (.map (some dd)):=by simp only[World.cell?,hC];rfl
  have HB1:=Lib.hid hb1
  cases hdd:isDeadP s name
  ·have hre:=HR2.out
   rw[hdd]at hlk hre
   simp only[Bool.false_eq_true,if_false]at hre
   have hes:=estate_same (law:=lawOnP laws day) (H4.out.wills name) hlaw
   obtain⟨EF,hEF⟩: ∃EF,EF=estateF s (lawOnP laws day) name:=⟨_,rfl⟩
   rw[<-hEF]at hes
   have hkl:s.children.length<=1000:=by have:=hfew.kids;omega
   have hml:s.marriages.length<=1000:=by have:=hfew.marr;omega
   have hwl:(willOf s name).length<=1000:=by have:=hfew.wills name;omega
   have HEF:=Lib.hid hEF
   have HES:=Lib.hid hes
   have HRE:=Lib.hid hre
   clear hes hre hEF hC hP hT hfew hb1 hdd HR2
   go_upto_region 7 with fail
   obtain⟨W6,hW6⟩: ∃W6,W6=wq.alloc (.cells #[.bool false] 97):=⟨_,rfl⟩
   have m6:MarkAt W6 wq.heap.size false:=by rw[hW6];exact J_new _ _ _ rfl
   have hb6:Below wq.heap.size wq W6:=by rw[hW6];repeat(first|exact B_refl|exact Below.refl _ _|assumption|with_reducible refine B_alloc ?_ _|with_reducible refine B_ext ?_ _|with_reducible refine B_drew ?_|with_reducible refine B_drewN ?_ _|with_reducible refine B_set ?_ (by simp;omega) _)
   have x6:W6.cell? ⟨w.heap.size,0,none⟩=some (.slice LA laws.length nc):=(B_cell hb6 hx0).trans x0
   rw[<-hW6]
   have M6:=Lib.hid m6
   have HB6:=Lib.hid hb6
   clear hW6 m6 hb6
   refine wp_region_held_drew (S:=(fun w'=>w'.cell? ⟨w.heap.size,0,none⟩=some (.slice LA laws.length nc))) (by kernel_rfl) ?hS ?hrest
   case hS=>exact x6
   case hrest=>
    intro hHeld
    refine TkH 0 ?_
    refine TkH 1 ?_
    refine TkH 2 ?_
    refine TkH 3 ?_
    refine TkH 4 ?_
    refine TkH 5 ?_
    refine TkH 7 ?_
    refine wpAnyH_ready (rs:=[6]) (by kernel_rfl) (by simp) (AllReadyH.cons (List.getElem?_toArray.trans rfl) (fun K hK=> ?_) AllReadyH.nil)
    go_simp
    refine(lawOn5_any laws LA nc day _ hll (HLS.out.keep (HB1.out.trans ((B_drew HB6.out).mono HB1.out.size)))).mono ?_
    rintro e w5 ⟨rfl,z,rfl⟩
    have hb7:Below wq.heap.size wq (W6.drew.ext z):=B_ext (B_drew HB6.out) z
    refine hK.out _ _ ?_ (fun hHeld=> ?_)
    focus((try dsimp only);exact(B_cell hb7 hx0).trans x0)
    clear hK K
    try simp only[Act.put,List.setIfInBounds_toArray,List.set_cons_zero,List.set_cons_succ]
    refine wpAnyH_ready (rs:=[8]) (by kernel_rfl) (by simp) (AllReadyH.cons (List.getElem?_toArray.trans rfl) (fun K hK=> ?_) AllReadyH.nil)
    go_simp
    refine(estate_any base b wq.heap.size s last (lawOnP laws day) name _ ?q1 H4.out ?q2 hkl hml hwl hlaw).mono ?_
    case q1=>exact fun W hW=>H3.out.peo.keep (grown_below hb7 hW (Nat.le_refl _))
    case q2=>exact M6.out.drew.ext z
    rintro e w8 ⟨v,rfl,n1,n2,n3⟩
    rw[<-HEF.out]at n1 n2
    have hb8:Below wq.heap.size wq w8:=grown_below hb7 n3 (Nat.le_refl _)
    have HB8:=Lib.hid (HB1.out.trans (hb8.mono HB1.out.size))
    have N1:=Lib.hid n1
    have k8:w8.cell? ⟨wq.heap.size,0,none⟩=some (.bool EF.2):=by
     unfold MarkAt at n2
     simp only[World.cell?,n2]
     rfl
    clear n1 n2 n3
    refine hK.out _ _ ?_ (fun hHeld=> ?_)
    focus((try dsimp only);exact(B_cell hb8 hx0).trans x0)
    clear hK K
    try simp only[Act.put,List.setIfInBounds_toArray,List.set_cons_zero,List.set_cons_succ]
    refine wpAnyH_ready (rs:=[9]) (by kernel_rfl) (by simp) (AllReadyH.cons (List.getElem?_toArray.trans rfl) (fun K hK=> ?_) AllReadyH.nil)
    go_simp
    refine hK.out _ _ ?_ (fun hHeld=> ?_)
    focus((try dsimp only);exact(B_cell hb8 hx0).trans x0)
    clear hK K
    try simp only[Act.put,List.setIfInBounds_toArray,List.set_cons_zero,List.set_cons_succ]
    refine wpAnyH_done (by kernel_rfl) ?_ _
    clear hHeld
    obtain⟨A9,n9,rfl,s9,hn9⟩:=N1.out.sl part_len
    have S9:=Lib.hid s9
    clear s9
    cases hE:estateP s (lawOnP laws day) name with
    |none=>
     have h1:=HES.out.2 hE
     have h2:=HRE.out
     rw[hE]at h2
     simp only at h2
     have HE:=Lib.hid h2
     rw[h1]at k8
     clear h1 h2 hE
     go_wp2_with fail
     go_ret2
     rw[HE.out]
     exact⟨HB8.out,none,0,rfl,Nat.le_refl _,Sl.nil⟩
    |some o=>
     have h1:=HES.out.1 o hE
     have h2:=HRE.out
     rw[hE]at h2
     simp only at h2
     have HE:=Lib.hid h2
     subst h1
     clear h2 hE
     go_wp2_with fail
     go_ret2
     rw[HE.out]
     exact⟨HB8.out,A9,n9,rfl,hn9,S9.out⟩
  ·have hre:=HR2.out
   rw[hdd,if_pos rfl]at hre
   rw[hdd]at hlk
   have HE:=Lib.hid hre
   clear hre HR2 hC hP hT hfew hb1 hdd
   go_wp2_with fail
   go_ret2
   rw[HE.out]
   exact⟨HB1.out,none,0,rfl,Nat.le_refl _,Sl.nil⟩
 ·have hre:=HR.out
  rw[if_pos (by simpa using h0)]at hre
  have HE:=Lib.hid hre
  clear hre HR HLW
  go_wp2_with (go_at_call 30
               go_must(refine(HON.out _ Bw _ (sl_one (J_new _ _ _ (by simp)))).mono ?_)
               rintro e wq ⟨h1,⟨_,rfl⟩|⟨he,_⟩⟩
               rotate_left 1
               ·exact absurd he h0
               have H1:=Lib.hid h1
               clear h1)
  go_ret2
  rw[HE.out]
  exact⟨Below.trans (B_alloc (B_alloc (Below.refl _ _) _) _ (by simp)) (H1.out.mono (by simp;omega)),none,0,rfl,Nat.le_refl _,Sl.nil⟩
end Go.Proofs.YtmaidggpbihlgaaGreatDoor
namespace Go.Proofs.YtmaidggpbihlgaaGreatDoor
open Go.RowKit Go.Shelf
structure PartsOk (l:Parts):Prop where
 good:GoodParts l
 small:largeP l=false
 one:l=[]\/sumQ l=1
theorem PartsOk.nil:PartsOk []:=⟨good_nil,rfl, .inl rfl⟩
theorem on_stop {laws:List Law} {ds:List Deed} {names:List ByteArray} {day:Int} (h:onErr laws ds names day=0):(stopQ laws ds 200000).2.2=0/\isDayP day=true:=by
 unfold onErr at h
 split at h
 ·rename_i h1
  rw[h]at h1
  simp at h1
 ·rename_i h1
  refine⟨by simpa using h1,?_⟩
  split at h
  ·cases h
  ·split at h
   ·cases h
   ·rename_i h2
    simpa using h2
theorem replay_good {laws:List Law} {ds:List Deed} {names:List ByteArray} {day:Int} (h:onErr laws ds names day=0): ∃last,GoodSt (replayD laws ds day).1 last:=by
 have hlw:=on_laws h
 obtain⟨h1,h2⟩:=on_stop h
 have h0:0<=day:=by
  unfold isDayP inR at h2
  simp at h2
  omega
 obtain⟨b,_,hg⟩:=told_good (laws:=laws) (upto:=day) hlw (ds:=ds) (s:=zeroSt) (k:=0) (last:=0) (good_zero 0) h0
 refine⟨b,?_⟩
 rw[<-(stopQ_told h1 day).1]
 unfold stopQ
 rw[if_neg (by simp[hlw])]
 exact hg
theorem holders_ok {s:St} {last:Int} (h:GoodSt s last) (place:ByteArray) (day:Int):PartsOk (holdersP s place day):=by
 unfold holdersP
 cases hx:graveIx s place day with
 |none=>exact PartsOk.nil
 |some i=>
  obtain⟨g,hg,_,_⟩:=graveIx_some hx
  have e:s.graves.getD i zeroG=g:=by rw[List.getD_eq_getElem?_getD,hg];rfl
  have k:=h.graves g (List.mem_of_getElem? hg)
  simp only[e]
  exact⟨k.good,k.small,k.one⟩
theorem est_ok {laws:List Law} {ds:List Deed} {name:ByteArray} {day:Int}:((estApi laws ds name day).2≠0->(estApi laws ds name day).1=[])/\((estApi laws ds name day).2=0->PartsOk (estApi laws ds name day).1/\(estApi laws ds name day).1≠[]):=by
 unfold estApi
 by_cases h0:onErr laws ds [name] day=0
 ·rw[if_neg (by simp[h0])]
  cases hd:isDeadP (replayD laws ds day).1 name
  ·rw[if_neg (by simp)]
   obtain⟨last,hg⟩:=replay_good h0
   cases hE:estateP (replayD laws ds day).1 (lawOnP laws day) name with
   |none=>exact⟨fun _=>rfl,fun h=>absurd h (by decide)⟩
   |some o=>
    have k:=estate_good (hg.wills name) (law_share (on_laws h0) day) hE
    refine⟨fun h=>absurd rfl h,fun _=>⟨⟨k.1,k.2.2, .inr k.2.1⟩,fun e=> ?_⟩⟩
    have h1:=k.2.1
    simp only at e
    rw[e,sumQ]at h1
    exact absurd h1 (by decide)
  ·rw[if_pos rfl]
   exact⟨fun _=>rfl,fun h=>absurd h (by decide)⟩
 ·rw[if_pos (by simpa using h0)]
  exact⟨fun _=>rfl,fun h=>absurd h h0⟩
theorem parts_many {M:Rat}: ∀ {l:Parts},(∀p∈l,0<p.2/\((p.2.den:Int):Rat)<=M)->(l.length:Rat)<=M*sumQ l
 | [],_=>by simp[sumQ]
 |p::l,h=>by
  have ih:=parts_many (l:=l) fun q hq=>h q (List.mem_cons_of_mem _ hq)
  obtain⟨h0,h1⟩:=h p List.mem_cons_self
  have hn:=num_pos h0
  have hd:((p.2.den:Int):Rat)≠0:=by
   intro e
   have k:(p.2.den:Int)=0:=by exact_mod_cast e
   have:=p.2.den_pos
   omega
  have e0:p.2=(p.2.num:Rat)/((p.2.den:Int):Rat):=by rw[<-Rat.divInt_eq_div];exact(Rat.num_divInt_den p.2).symm
  have e1:((1:Int):Rat)<=(p.2.num:Rat):=Rat.intCast_le_intCast.2 hn
  have e1':(1:Rat)<=(p.2.num:Rat):=e1
  have e:p.2*((p.2.den:Int):Rat)=(p.2.num:Rat):=by
   generalize((p.2.den:Int):Rat)=y at*
   generalize(p.2.num:Rat)=x at*
   rw[e0]
   grind
  have e3:p.2*((p.2.den:Int):Rat)<=p.2*M:=Rat.mul_le_mul_of_nonneg_left h1 (by grind)
  rw[List.length_cons,sumQ]
  have e4:((l.length+1:Nat):Rat)=(l.length:Rat)+1:=by simp
  rw[e4]
  generalize(l.length:Rat)=L at*
  generalize sumQ l=S at*
  generalize((p.2.den:Int):Rat)=y at*
  generalize(p.2.num:Rat)=x at*
  grind
theorem PartsOk.parts {l:Parts} (h:PartsOk l):(∀p∈l,0<p.2/\p.2<=1/\(p.2.den:Int)<=1000000000)/\sumQ l<=1/\l.length<=1000000000:=by
 have hs:sumQ l<=1:=by
  rcases h.one with e|e
  ·rw[e,sumQ];decide
  ·rw[e];exact Rat.le_refl
 have hp:=part_le h.good.pos hs
 have hd:=not_large h.small
 refine⟨fun p hm=>⟨h.good.pos p hm,hp p hm,hd p hm⟩,hs,?_⟩
 obtain⟨M,hM⟩: ∃M:Int,M=1000000000:=⟨_,rfl⟩
 have k:=parts_many (M:=(M:Rat)) (l:=l) fun p hm=>⟨h.good.pos p hm,Rat.intCast_le_intCast.2 (by rw[hM];exact hd p hm)⟩
 have hM0:(0:Rat)<=(M:Rat):=by
  have:((0:Int):Rat)<=(M:Rat):=Rat.intCast_le_intCast.2 (by omega)
  exact this
 have k1:(M:Rat)*sumQ l<=(M:Rat)*1:=Rat.mul_le_mul_of_nonneg_left hs hM0
 have k2:(((l.length:Int)):Rat)<=(M:Rat):=by
  rw[Rat.intCast_natCast]
  grind
 have k3:=Rat.intCast_le_intCast.1 k2
 omega
end Go.Proofs.YtmaidggpbihlgaaGreatDoor
