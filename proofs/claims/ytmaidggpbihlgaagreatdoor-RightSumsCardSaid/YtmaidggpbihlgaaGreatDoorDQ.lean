/- Rights and deeds that come in as data. -/
import Derived.Test.YtmaidggpbihlgaaGreatDoorAW
import Derived.Test.YtmaidggpbihlgaaGreatDoorRows
import Derived.Test.YtmaidggpbihlgaaGreatDoorTie
import Derived.Test.YtmaidggpbihlgaaGreatDoorNC
import Derived.Test.YtmaidggpbihlgaaGreatDoorDK
import Derived.Test.YtmaidggpbihlgaaGreatDoorJ0
set_option linter.unusedSimpArgs false
set_option linter.unusedVariables false
namespace Go.Proofs.YtmaidggpbihlgaaGreatDoor
open Go.RowKit Go.Shelf
attribute [local go_sem] World.cell?_alloc_mark ext_size ext_cell ext_frozen lt_add_r lt_add_r2 lt_add_r3 lt_add_r4 lt_add_r5 lt_add_r6 lt_add_r7 lt_add_r8
attribute [local go_sem] ext_setCell alloc_setCell_lt
def famR:List RPart:=[⟨nBob,3,8⟩,⟨nCat,3,8⟩,⟨nDan,1,4⟩]
theorem fam_cells:famParts.map partCells=famR.map RPart.cells:=by kernel_rfl
theorem fam_holds:holdersP fam5 nA1 200=famParts:=by kernel_rfl
theorem fam_err (names:List ByteArray) (day:Int) (hn:names.any (fun s=>!isNameP s)=false) (hd:isDayP day=true):onErr famLaws famDeeds names day=0:=by
 unfold onErr
 have h:(stopQ famLaws famDeeds 200000).2=(5,0):=by rw[stopQ_replay,fam_replay 200000 (by decide)]
 rw[h,hn,hd]
 rfl
theorem fam_bury:mayBuryP famLaws famDeeds nA1 nAnn 300=(true,0):=by
 unfold mayBuryP
 rw[fam_err [nA1,nAnn] 300 (by kernel_rfl) (by kernel_rfl),fam_replay 300 (by decide)]
 have h:graveIx fam5 nA1 300=some 0:=by kernel_rfl
 simp only[bne_self_eq_false,Bool.false_eq_true,if_false]
 rw[h]
 have hg:fam5.graves.getD 0 zeroG=⟨nA1,1,-1,famParts,[nAnn]⟩:=rfl
 simp only[hg]
 have he:entP fam5 ⟨nA1,1,-1,famParts,[nAnn]⟩ nAnn=true:=by
  unfold entP
  have:[nAnn].any (letsP fam5 1 nAnn)=true:=by
   rw[List.any_cons]
   unfold letsP
   rw[show sameB nAnn nAnn=true from same_refl _]
   rfl
  rw[this,Bool.or_true]
 rw[he,Bool.or_true]
theorem fam_lens: ∀d∈famDeeds,okLens d:=by
 intro d hd
 simp only[famDeeds,List.mem_cons,List.not_mem_nil,or_false]at hd
 rcases hd with rfl|rfl|rfl|rfl|rfl<;>exact⟨by decide,by decide,by simp[famD];try decide,by simp[famD]⟩
theorem recs5_lens:recLens recs5:=by
 intro x hx
 simp only[recs5,List.mem_cons,List.not_mem_nil,or_false]at hx
 rcases hx with rfl|rfl|rfl|rfl|rfl<;>exact⟨by decide,by decide,by decide⟩
theorem best_all (l:List Rec) (n:Nat) (hn:n=l.length): ∀k,Best l n k (bestsGo l k)
 |0=>best_zero l n
 |k+1=>by
  rw[bestsGo,<-hn]
  exact best_next (best_all l n hn k)
theorem leastR_is {l:List Rec} {s:List Nat} (h0:checkRecsP l=0) (h12:l.length<=12) (hs:IsLeast l s):leastR l=(s,0):=by
 unfold leastR
 rw[if_neg (by simp[h0]),if_neg (by simpa using h12)]
 have hB:=best_all l l.length rfl (2^l.length)
 cases hx:bestsGo l (2^l.length)with
 |none=>
  rw[hx]at hB
  have hb: ∀t,SetOf l.length t->contraP (ofP l t)=false:=best_least hB
  have:=hb s hs.set
  rw[hs.bad]at this
  cases this
 |some t=>
  rw[hx]at hB
  have hb:IsLeast l t:=best_least hB
  have e:t=s:=least_unique hb hs
  rw[e]
theorem leastR_none {l:List Rec} (h0:checkRecsP l=0) (h12:l.length<=12) (hs: ∀t,SetOf l.length t->contraP (ofP l t)=false):leastR l=([],12):=by
 unfold leastR
 rw[if_neg (by simp[h0]),if_neg (by simpa using h12)]
 have hB:=best_all l l.length rfl (2^l.length)
 cases hx:bestsGo l (2^l.length)with
 |none=>rfl
 |some t=>
  rw[hx]at hB
  have hb:IsLeast l t:=best_least hB
  have:=hs t hb.set
  rw[hb.bad]at this
  cases this
theorem recs5_res:leastR recs5=([0,2],0):=leastR_is recs5_ok (by decide) recs5_least
structure Laid5 (w:World):Prop where
 forms:FormsIn w
 lens:LensIn w
 tz:TzTab w
theorem Laid5.keep {w W:World} {n:Nat} (h:Laid5 w) (hB:Below n w W) (hn:w.heap.size<=n:=by first|exact Nat.le_refl _|omega):Laid5 W:=⟨h.forms.keep hB hn,h.lens.keep hB hn,h.tz.keep hB hn⟩
def HoldPost (w:World) (e:Ending) (w':World):Prop:= ∃A c,e= .returned (.tuple #[.slice A 3 c, .int .i64 0])/\3<=c/\Sl w' 3 RPart.cells A famR/\Below w.heap.size w w'
theorem famHolders_any (LA DA:Option Addr) (w:World) (hR:RightsIn w famLaws famDeeds LA 2 2 DA 5 5) (hL:Laid5 w):Calls Tryz.prog 11 #[.agg #[.slice LA 2 2, .slice DA 5 5], .string ⟨#[97,49]⟩, .int .i64 200] w (HoldPost w):=by
 refine(holders_any famLaws famDeeds nA1 200 LA 2 2 DA 5 5 w hR hL.forms hL.lens fam_lens (by decide)).mono ?_
 rintro e w' ⟨hB,h⟩
 rw[fam_err [nA1] 200 (by kernel_rfl) (by kernel_rfl),fam_replay 200 (by decide)]at h
 rcases h with⟨h,_⟩|⟨_,A,c,rfl,hc,hS⟩
 ·exact absurd rfl h
 ·rw[show((fam5,5,(0:Int)):St×Nat×Int).1=fam5 from rfl,fam_holds]at hc hS⊢
  exact⟨A,c,rfl,hc,sl_same hS fam_cells,hB⟩
theorem famBury_any (LA DA:Option Addr) (w:World) (hR:RightsIn w famLaws famDeeds LA 2 2 DA 5 5) (hL:Laid5 w):Calls Tryz.prog 19 #[.agg #[.slice LA 2 2, .slice DA 5 5], .string ⟨#[97,49]⟩, .string ⟨#[97,110,110]⟩, .int .i64 300] w (Ret w (.tuple #[.bool true, .int .i64 0])):=by
 have:=mayBury_any famLaws famDeeds nA1 nAnn 300 LA 2 2 DA 5 5 w hR hL.forms hL.lens fam_lens (by decide) (by decide)
 rw[fam_bury]at this
 exact this
def LeastPost5 (w:World) (e:Ending) (w':World):Prop:= ∃A c,e= .returned (.tuple #[.slice A 2 c, .int .i64 0])/\2<=c/\Sl w' 1 intC A [0,2]/\Below w.heap.size w w'
theorem famLeast_any (A:Option Addr) (w:World) (hS:Sl w 8 Rec.cells A recs5) (hL:Laid5 w):Calls Tryz.prog 20 #[.slice A 5 5] w (LeastPost5 w):=by
 refine(least_any recs5 A 5 w (Nat.le_refl _) recs5_lens hL.tz hS).mono ?_
 rintro e w' ⟨B,c,rfl,hc,hS,hB⟩
 rw[recs5_res]at hc hS⊢
 exact⟨B,c,rfl,hc,hS,hB⟩
theorem fam_same (A2:Option Addr) (c2:Nat) (hc2:3<=c2) (P:Nat) (W:World) (h:Sl W 3 RPart.cells A2 famR) (hP:W.heap[P]?=some (.cells #[.string ⟨#[98,111,98]⟩, .int .i64 3, .int .i64 8, .string ⟨#[99,97,116]⟩, .int .i64 3, .int .i64 8, .string ⟨#[100,97,110]⟩, .int .i64 1, .int .i64 4] 49)):
 Calls Tryz.prog 21 #[.slice A2 3 c2, .slice (some ⟨P,0,none⟩) 3 3] W (Ret W (.bool true)):=
 sameParts_any famR A2 (some ⟨P,0,none⟩) c2 3 _ h (sl_cells (fun _=>rfl) hP rfl) (by decide) hc2 (by decide)
theorem two_same (A5:Option Addr) (c5:Nat) (hc5:2<=c5) (P:Nat) (W:World) (h:Sl W 1 intC A5 [0,2]) (hP:W.heap[P]?=some (.cells #[.int .i64 0, .int .i64 2] 3)):
 Calls Tryz.prog 23 #[.slice A5 2 c5, .slice (some ⟨P,0,none⟩) 2 2] W (Ret W (.bool true)):=
 sameInts_any [0,2] A5 (some ⟨P,0,none⟩) c5 2 _ h (sl_cells (fun _=>rfl) hP rfl) (by decide) hc5 (by decide)
set_option maxRecDepth 100000 in
set_option maxHeartbeats 2000000 in
theorem awake5_any (w:World) (hL:Laid5 w):Calls Tryz.prog 6 #[] w (Ret w (.bool true)):=by
 have HL:=Lib.hid hL
 clear hL
 go_enter Tryz.func6,Tryz.ntmps6
 go_upto_region 2 with(first
  |(go_at_call 18;go_must(refine(family_any _).mono ?_);rintro e w1 ⟨LA,DA,rfl,hr,hb⟩;have HR:=Lib.hid hr;have HB:=Lib.hid hb;clear hr hb)
  |(go_at_call 11;go_must(refine(famHolders_any LA DA _ HR.out (HL.out.keep HB.out)).mono ?_);rintro e w2 ⟨A2,c2,rfl,hc2,hs2,hb2⟩;have HS2:=Lib.hid hs2;have HB2:=Lib.hid (HB.out.trans (hb2.mono HB.out.size));clear hs2 hb2))
 clear HR HB
 go_upto_region 3 with(first
  |(go_at_call 18;go_must(refine(family_any _).mono ?_);rintro e w3 ⟨LA3,DA3,rfl,hr,hb⟩;have HR:=Lib.hid hr;have HB3:=Lib.hid hb;have HB:=Lib.hid (HB2.out.trans (hb.mono HB2.out.size));clear hr hb)
  |(go_at_call 19;go_must(refine(famBury_any LA3 DA3 _ HR.out (HL.out.keep HB.out)).mono ?_);rintro e w4 ⟨rfl,z4,rfl⟩))
 have HS3:=Lib.hid ((HS2.out.keep HB3.out).keep (below_ext w3 z4))
 have HB4:=Lib.hid (HB.out.trans ((below_ext w3 z4).mono HB.out.size))
 generalize w3.ext z4=W4 at*
 clear HR HB HS2 HB2 HB3
 have hw4:w.heap.size<=W4.heap.size:=HB4.out.size
 go_upto_region 4 with(go_at_call 20
                       go_must(refine(famLeast_any _ _ (sl_cells (fun _=>rfl) (J_new _ _ _ rfl) rfl) ((HL.out.keep HB4.out).keep (n:=W4.heap.size) Bw)).mono ?_)
                       rintro e w5 ⟨A5,c5,rfl,hc5,hs5,hb5⟩)
 have HS6:=Lib.hid (HS3.out.keep ((B_alloc (Below.refl _ _) _ (Nat.le_refl _)).trans (hb5.mono (by simp))))
 have HB6:=Lib.hid (HB4.out.trans (((B_alloc (Below.refl _ _) _ (Nat.le_refl _)).trans (hb5.mono (by simp))).mono hw4))
 have HI5:=Lib.hid hs5
 clear HS3 HB4 hs5 hb5
 have HSP:=Lib.hid (fun(W:World) (hW:Below w5.heap.size w5 W)=>fun(P:Nat) hP=>fam_same A2 c2 hc2 P W (HS6.out.keep hW) hP)
 have HIS:=Lib.hid (fun(W:World) (hW:Below w5.heap.size w5 W)=>fun(P:Nat) hP=>two_same A5 c5 hc5 P W (HI5.out.keep hW) hP)
 clear HS6 HI5
 have hw5:w.heap.size<=w5.heap.size:=HB6.out.size
 clear HL
 go_wp2_with (first
  |(go_at_call 22;go_must(refine(part5_any _ _ _ _).mono ?_);rintro e wq ⟨rfl,zq,rfl⟩)
  |(go_at_call 21;go_must(refine(HSP.out _ Bw _ (J_new _ _ _ (by simp[ext_size]))).mono ?_);rintro e wq ⟨rfl,zq,rfl⟩)
  |(go_at_call 23;go_must(refine(HIS.out _ Bw _ (J_new _ _ _ (by simp[ext_size]))).mono ?_);rintro e wq ⟨rfl,zq,rfl⟩))
 go_ret
 exact Ret.of rfl (HB6.out.trans (Below.mono (B:=w5.heap.size) Bw HB6.out.size))
end Go.Proofs.YtmaidggpbihlgaaGreatDoor
namespace Go.Proofs.YtmaidggpbihlgaaGreatDoor
open Go.ChangeShapes Go.WideShapes Go.ChangeAt Go.RowKit Go.Deep Go.Shelf
section
variable {H:Type} {enc:TypeId×Value->H} {w:World} {base:Nat} {spare:Nat->Bool} {held:Bool}
theorem k5_int:Tryz.prog.cellsOf 3=1:=by kernel_rfl
theorem k5_str:Tryz.prog.cellsOf 9=1:=by kernel_rfl
theorem k5_bool:Tryz.prog.cellsOf 4=1:=by kernel_rfl
theorem k5_frac:Tryz.prog.cellsOf 45=2:=by kernel_rfl
set_option maxRecDepth 100000 in
theorem open_frac (n:Nat) (cs:List Value) (x:DataW H×List MemPlace) (h:DataW.trod enc Tryz.prog w base spare held n 45 cs=some x): ∃a b:Int,cs=[.int .i64 a, .int .i64 b]:=by
 obtain⟨xs,m,_,ex,hlen,hxl,hf⟩:=DataW.trod_struct Tryz.underlying45 h
 rw[show Tryz.prog.cellsOf 45=2 by kernel_rfl]at hlen
 match cs,hlen with
 | [v0,v1],_=>
   have g: ∀i,i<2-> ∃y,xs[i]?=some y:=fun i hi=>⟨_,List.getElem?_eq_getElem (by rw[hxl];exact hi)⟩
   obtain⟨y0,e0⟩:=g 0 (by decide)
   have h0:DataW.trod enc Tryz.prog w base spare held m 3 (List.take (Tryz.prog.cellsOf 3) (List.drop 0 [v0,v1]))=some y0:=(hf 0 _ rfl).trans e0
   rw[k5_int]at h0
   obtain⟨q0,c0,d0,_⟩:=DataW.trod_int Tryz.underlying3 h0
   simp only[List.drop_succ_cons,List.drop_zero,List.take_succ_cons,List.take_zero,List.cons.injEq,and_true]at c0
   obtain⟨y1,e1⟩:=g 1 (by decide)
   have h1:DataW.trod enc Tryz.prog w base spare held m 3 (List.take (Tryz.prog.cellsOf 3) (List.drop 1 [v0,v1]))=some y1:=(hf 1 _ rfl).trans e1
   rw[k5_int]at h1
   obtain⟨q1,c1,d1,_⟩:=DataW.trod_int Tryz.underlying3 h1
   simp only[List.drop_succ_cons,List.drop_zero,List.take_succ_cons,List.take_zero,List.cons.injEq,and_true]at c1
   subst c0 c1
   exact⟨q0,q1,rfl⟩
set_option maxRecDepth 100000 in
theorem open_law (n:Nat) (cs:List Value) (x:DataW H×List MemPlace) (h:DataW.trod enc Tryz.prog w base spare held n 100 cs=some x): ∃s:Law,cs=s.cells:=by
 obtain⟨xs,m,_,ex,hlen,hxl,hf⟩:=DataW.trod_struct Tryz.underlying100 h
 rw[show Tryz.prog.cellsOf 100=4 by kernel_rfl]at hlen
 match cs,hlen with
 | [v0,v1,v2,v3],_=>
   have g: ∀i,i<3-> ∃y,xs[i]?=some y:=fun i hi=>⟨_,List.getElem?_eq_getElem (by rw[hxl];exact hi)⟩
   obtain⟨y0,e0⟩:=g 0 (by decide)
   have h0:DataW.trod enc Tryz.prog w base spare held m 3 (List.take (Tryz.prog.cellsOf 3) (List.drop 0 [v0,v1,v2,v3]))=some y0:=(hf 0 _ rfl).trans e0
   rw[k5_int]at h0
   obtain⟨q0,c0,d0,_⟩:=DataW.trod_int Tryz.underlying3 h0
   simp only[List.drop_succ_cons,List.drop_zero,List.take_succ_cons,List.take_zero,List.cons.injEq,and_true]at c0
   obtain⟨y1,e1⟩:=g 1 (by decide)
   have h1:DataW.trod enc Tryz.prog w base spare held m 4 (List.take (Tryz.prog.cellsOf 4) (List.drop 1 [v0,v1,v2,v3]))=some y1:=(hf 1 _ rfl).trans e1
   rw[k5_bool]at h1
   obtain⟨q1,c1,d1⟩:=DataW.trod_bool Tryz.underlying4 h1
   simp only[List.drop_succ_cons,List.drop_zero,List.take_succ_cons,List.take_zero,List.cons.injEq,and_true]at c1
   obtain⟨y2,e2⟩:=g 2 (by decide)
   have h2:DataW.trod enc Tryz.prog w base spare held m 45 (List.take (Tryz.prog.cellsOf 45) (List.drop 2 [v0,v1,v2,v3]))=some y2:=(hf 2 _ rfl).trans e2
   rw[k5_frac]at h2
   obtain⟨q2,r2,c2⟩:=open_frac _ _ _ h2
   simp only[List.drop_succ_cons,List.drop_zero,List.take_succ_cons,List.take_zero,List.cons.injEq,and_true]at c2
   subst c0
   subst c1
   obtain⟨cx2,cy2⟩:=c2
   subst cx2 cy2
   exact⟨⟨q0,q1,q2,r2⟩,rfl⟩
set_option maxRecDepth 100000 in
theorem open_rec (n:Nat) (cs:List Value) (x:DataW H×List MemPlace) (h:DataW.trod enc Tryz.prog w base spare held n 67 cs=some x): ∃s:Rec,cs=s.cells:=by
 obtain⟨xs,m,_,ex,hlen,hxl,hf⟩:=DataW.trod_struct Tryz.underlying67 h
 rw[show Tryz.prog.cellsOf 67=8 by kernel_rfl]at hlen
 match cs,hlen with
 | [v0,v1,v2,v3,v4,v5,v6,v7],_=>
   have g: ∀i,i<7-> ∃y,xs[i]?=some y:=fun i hi=>⟨_,List.getElem?_eq_getElem (by rw[hxl];exact hi)⟩
   obtain⟨y0,e0⟩:=g 0 (by decide)
   have h0:DataW.trod enc Tryz.prog w base spare held m 3 (List.take (Tryz.prog.cellsOf 3) (List.drop 0 [v0,v1,v2,v3,v4,v5,v6,v7]))=some y0:=(hf 0 _ rfl).trans e0
   rw[k5_int]at h0
   obtain⟨q0,c0,d0,_⟩:=DataW.trod_int Tryz.underlying3 h0
   simp only[List.drop_succ_cons,List.drop_zero,List.take_succ_cons,List.take_zero,List.cons.injEq,and_true]at c0
   obtain⟨y1,e1⟩:=g 1 (by decide)
   have h1:DataW.trod enc Tryz.prog w base spare held m 9 (List.take (Tryz.prog.cellsOf 9) (List.drop 1 [v0,v1,v2,v3,v4,v5,v6,v7]))=some y1:=(hf 1 _ rfl).trans e1
   rw[k5_str]at h1
   obtain⟨q1,c1,d1,_⟩:=DataW.trod_string Tryz.underlying9 h1
   simp only[List.drop_succ_cons,List.drop_zero,List.take_succ_cons,List.take_zero,List.cons.injEq,and_true]at c1
   obtain⟨y2,e2⟩:=g 2 (by decide)
   have h2:DataW.trod enc Tryz.prog w base spare held m 9 (List.take (Tryz.prog.cellsOf 9) (List.drop 2 [v0,v1,v2,v3,v4,v5,v6,v7]))=some y2:=(hf 2 _ rfl).trans e2
   rw[k5_str]at h2
   obtain⟨q2,c2,d2,_⟩:=DataW.trod_string Tryz.underlying9 h2
   simp only[List.drop_succ_cons,List.drop_zero,List.take_succ_cons,List.take_zero,List.cons.injEq,and_true]at c2
   obtain⟨y3,e3⟩:=g 3 (by decide)
   have h3:DataW.trod enc Tryz.prog w base spare held m 9 (List.take (Tryz.prog.cellsOf 9) (List.drop 3 [v0,v1,v2,v3,v4,v5,v6,v7]))=some y3:=(hf 3 _ rfl).trans e3
   rw[k5_str]at h3
   obtain⟨q3,c3,d3,_⟩:=DataW.trod_string Tryz.underlying9 h3
   simp only[List.drop_succ_cons,List.drop_zero,List.take_succ_cons,List.take_zero,List.cons.injEq,and_true]at c3
   obtain⟨y4,e4⟩:=g 4 (by decide)
   have h4:DataW.trod enc Tryz.prog w base spare held m 3 (List.take (Tryz.prog.cellsOf 3) (List.drop 4 [v0,v1,v2,v3,v4,v5,v6,v7]))=some y4:=(hf 4 _ rfl).trans e4
   rw[k5_int]at h4
   obtain⟨q4,c4,d4,_⟩:=DataW.trod_int Tryz.underlying3 h4
   simp only[List.drop_succ_cons,List.drop_zero,List.take_succ_cons,List.take_zero,List.cons.injEq,and_true]at c4
   obtain⟨y5,e5⟩:=g 5 (by decide)
   have h5:DataW.trod enc Tryz.prog w base spare held m 3 (List.take (Tryz.prog.cellsOf 3) (List.drop 5 [v0,v1,v2,v3,v4,v5,v6,v7]))=some y5:=(hf 5 _ rfl).trans e5
   rw[k5_int]at h5
   obtain⟨q5,c5,d5,_⟩:=DataW.trod_int Tryz.underlying3 h5
   simp only[List.drop_succ_cons,List.drop_zero,List.take_succ_cons,List.take_zero,List.cons.injEq,and_true]at c5
   obtain⟨y6,e6⟩:=g 6 (by decide)
   have h6:DataW.trod enc Tryz.prog w base spare held m 45 (List.take (Tryz.prog.cellsOf 45) (List.drop 6 [v0,v1,v2,v3,v4,v5,v6,v7]))=some y6:=(hf 6 _ rfl).trans e6
   rw[k5_frac]at h6
   obtain⟨q6,r6,c6⟩:=open_frac _ _ _ h6
   simp only[List.drop_succ_cons,List.drop_zero,List.take_succ_cons,List.take_zero,List.cons.injEq,and_true]at c6
   subst c0
   subst c1
   subst c2
   subst c3
   subst c4
   subst c5
   obtain⟨cx6,cy6⟩:=c6
   subst cx6 cy6
   exact⟨⟨q0,q1,q2,q3,q4,q5,q6,r6⟩,rfl⟩
set_option maxRecDepth 100000 in
theorem open_form (n:Nat) (cs:List Value) (x:DataW H×List MemPlace) (h:DataW.trod enc Tryz.prog w base spare held n 144 cs=some x): ∃s:Form,cs=s.cells/\x.1= .agg [.lit (.string s.word.data.toList), .lit (.bool s.place), .lit (.bool s.frm), .lit (.bool s.cls), .lit (.bool s.years), .lit (.bool s.all), .lit (.bool s.parts), .lit (.bool s.shares)]:=by
 obtain⟨xs,m,_,ex,hlen,hxl,hf⟩:=DataW.trod_struct Tryz.underlying144 h
 rw[show Tryz.prog.cellsOf 144=8 by kernel_rfl]at hlen
 match cs,hlen with
 | [v0,v1,v2,v3,v4,v5,v6,v7],_=>
   have g: ∀i,i<8-> ∃y,xs[i]?=some y:=fun i hi=>⟨_,List.getElem?_eq_getElem (by rw[hxl];exact hi)⟩
   obtain⟨y0,e0⟩:=g 0 (by decide)
   have h0:DataW.trod enc Tryz.prog w base spare held m 9 (List.take (Tryz.prog.cellsOf 9) (List.drop 0 [v0,v1,v2,v3,v4,v5,v6,v7]))=some y0:=(hf 0 _ rfl).trans e0
   rw[k5_str]at h0
   obtain⟨q0,c0,d0,_⟩:=DataW.trod_string Tryz.underlying9 h0
   simp only[List.drop_succ_cons,List.drop_zero,List.take_succ_cons,List.take_zero,List.cons.injEq,and_true]at c0
   obtain⟨y1,e1⟩:=g 1 (by decide)
   have h1:DataW.trod enc Tryz.prog w base spare held m 4 (List.take (Tryz.prog.cellsOf 4) (List.drop 1 [v0,v1,v2,v3,v4,v5,v6,v7]))=some y1:=(hf 1 _ rfl).trans e1
   rw[k5_bool]at h1
   obtain⟨q1,c1,d1⟩:=DataW.trod_bool Tryz.underlying4 h1
   simp only[List.drop_succ_cons,List.drop_zero,List.take_succ_cons,List.take_zero,List.cons.injEq,and_true]at c1
   obtain⟨y2,e2⟩:=g 2 (by decide)
   have h2:DataW.trod enc Tryz.prog w base spare held m 4 (List.take (Tryz.prog.cellsOf 4) (List.drop 2 [v0,v1,v2,v3,v4,v5,v6,v7]))=some y2:=(hf 2 _ rfl).trans e2
   rw[k5_bool]at h2
   obtain⟨q2,c2,d2⟩:=DataW.trod_bool Tryz.underlying4 h2
   simp only[List.drop_succ_cons,List.drop_zero,List.take_succ_cons,List.take_zero,List.cons.injEq,and_true]at c2
   obtain⟨y3,e3⟩:=g 3 (by decide)
   have h3:DataW.trod enc Tryz.prog w base spare held m 4 (List.take (Tryz.prog.cellsOf 4) (List.drop 3 [v0,v1,v2,v3,v4,v5,v6,v7]))=some y3:=(hf 3 _ rfl).trans e3
   rw[k5_bool]at h3
   obtain⟨q3,c3,d3⟩:=DataW.trod_bool Tryz.underlying4 h3
   simp only[List.drop_succ_cons,List.drop_zero,List.take_succ_cons,List.take_zero,List.cons.injEq,and_true]at c3
   obtain⟨y4,e4⟩:=g 4 (by decide)
   have h4:DataW.trod enc Tryz.prog w base spare held m 4 (List.take (Tryz.prog.cellsOf 4) (List.drop 4 [v0,v1,v2,v3,v4,v5,v6,v7]))=some y4:=(hf 4 _ rfl).trans e4
   rw[k5_bool]at h4
   obtain⟨q4,c4,d4⟩:=DataW.trod_bool Tryz.underlying4 h4
   simp only[List.drop_succ_cons,List.drop_zero,List.take_succ_cons,List.take_zero,List.cons.injEq,and_true]at c4
   obtain⟨y5,e5⟩:=g 5 (by decide)
   have h5:DataW.trod enc Tryz.prog w base spare held m 4 (List.take (Tryz.prog.cellsOf 4) (List.drop 5 [v0,v1,v2,v3,v4,v5,v6,v7]))=some y5:=(hf 5 _ rfl).trans e5
   rw[k5_bool]at h5
   obtain⟨q5,c5,d5⟩:=DataW.trod_bool Tryz.underlying4 h5
   simp only[List.drop_succ_cons,List.drop_zero,List.take_succ_cons,List.take_zero,List.cons.injEq,and_true]at c5
   obtain⟨y6,e6⟩:=g 6 (by decide)
   have h6:DataW.trod enc Tryz.prog w base spare held m 4 (List.take (Tryz.prog.cellsOf 4) (List.drop 6 [v0,v1,v2,v3,v4,v5,v6,v7]))=some y6:=(hf 6 _ rfl).trans e6
   rw[k5_bool]at h6
   obtain⟨q6,c6,d6⟩:=DataW.trod_bool Tryz.underlying4 h6
   simp only[List.drop_succ_cons,List.drop_zero,List.take_succ_cons,List.take_zero,List.cons.injEq,and_true]at c6
   obtain⟨y7,e7⟩:=g 7 (by decide)
   have h7:DataW.trod enc Tryz.prog w base spare held m 4 (List.take (Tryz.prog.cellsOf 4) (List.drop 7 [v0,v1,v2,v3,v4,v5,v6,v7]))=some y7:=(hf 7 _ rfl).trans e7
   rw[k5_bool]at h7
   obtain⟨q7,c7,d7⟩:=DataW.trod_bool Tryz.underlying4 h7
   simp only[List.drop_succ_cons,List.drop_zero,List.take_succ_cons,List.take_zero,List.cons.injEq,and_true]at c7
   subst c0
   subst c1
   subst c2
   subst c3
   subst c4
   subst c5
   subst c6
   subst c7
   refine⟨⟨q0,q1,q2,q3,q4,q5,q6,q7⟩,rfl,?_⟩
   rw[ex]
   have hx:xs=[y0,y1,y2,y3,y4,y5,y6,y7]:=by
    apply List.ext_getElem?
    intro i
    match i with
    |0=>exact e0
    |1=>exact e1
    |2=>exact e2
    |3=>exact e3
    |4=>exact e4
    |5=>exact e5
    |6=>exact e6
    |7=>exact e7
    |i+8=>rw[List.getElem?_eq_none (by rw[hxl];show 8<=_;omega)];rfl
   rw[hx,d0,d1,d2,d3,d4,d5,d6,d7]
   rfl
theorem k5_laws:Tryz.prog.cellsOf 100=4:=by kernel_rfl
theorem k5_recs:Tryz.prog.cellsOf 67=8:=by kernel_rfl
theorem k5_form:Tryz.prog.cellsOf 144=8:=by kernel_rfl
set_option maxRecDepth 100000 in
theorem open_int (n:Nat) (cs:List Value) (x:DataW H×List MemPlace) (h:DataW.trod enc Tryz.prog w base spare held n 3 cs=some x): ∃s:Int,cs=zC s:=by
 obtain⟨q,c,_,_⟩:=DataW.trod_int Tryz.underlying3 h
 exact⟨q,c⟩
set_option maxRecDepth 100000 in
theorem open_laws {v:Value} {d:DataW H} {p:List MemPlace} {r:Reach} {b0:Nat} (hv:Value.okWide Tryz.prog w r b0 22 v) (h:DataW.Trod enc Tryz.prog w base spare held 22 v d p):
 ∃(es:List Law) (E:Option Addr) (ec:Nat),v= .slice E es.length ec/\Sl w 4 Law.cells E es/\es.length<=ec:=by
 obtain⟨a,len,cap,rfl⟩:=okWide_slice Tryz.underlying22 hv
 obtain⟨fuel,hf⟩:=h
 obtain⟨E,n,c,es,ea,hn,hS,hc,_⟩:=sl_of_trod (f:=Law.cells) (size:=4) (by decide) (fun _=>rfl) Tryz.underlying22 k5_laws open_law hf
 simp[Value.cells]at ea
 obtain⟨rfl,rfl,rfl⟩:=ea
 subst hn
 exact⟨es,_,_,rfl,hS,hc⟩
set_option maxRecDepth 100000 in
theorem open_recs {v:Value} {d:DataW H} {p:List MemPlace} {r:Reach} {b0:Nat} (hv:Value.okWide Tryz.prog w r b0 68 v) (h:DataW.Trod enc Tryz.prog w base spare held 68 v d p):
 ∃(es:List Rec) (E:Option Addr) (ec:Nat),v= .slice E es.length ec/\Sl w 8 Rec.cells E es/\es.length<=ec:=by
 obtain⟨a,len,cap,rfl⟩:=okWide_slice Tryz.underlying68 hv
 obtain⟨fuel,hf⟩:=h
 obtain⟨E,n,c,es,ea,hn,hS,hc,_⟩:=sl_of_trod (f:=Rec.cells) (size:=8) (by decide) recC_len Tryz.underlying68 k5_recs open_rec hf
 simp[Value.cells]at ea
 obtain⟨rfl,rfl,rfl⟩:=ea
 subst hn
 exact⟨es,_,_,rfl,hS,hc⟩
end
theorem ints_laid {n:String} {tab:List Int} {kd:IntKind} {arr el:TypeId} {N:Nat} {r:List (String×DataW Unit)} {W:World} {g:Nat} (h:laidMet Tryz.prog ((n, .agg (tab.map fun z=> .lit (.int kd z)))::r) W)
 (hg0:Tryz.prog.globalNamed n=some g) (ht0:(Tryz.prog.globals[g]?).map (·.type)=some arr) (ha:Tryz.prog.underlying arr=some (.array N el)) (he:Tryz.prog.underlying el=some (.int kd)) (hc1:Tryz.prog.cellsOf el=1) (hcN:Tryz.prog.cellsOf arr=N) (hN:tab.length=N):
 ∀(k:Nat) z,tab[k]?=some z->W.cell? ⟨g,k,none⟩=some (.int kd z):=by
 obtain⟨ps,⟨g',t,cs,fuel,p,q,hg,ht,hv,hd,_,_⟩,_,_⟩:=h
 obtain rfl:=Option.some.inj (hg0.symm.trans hg)
 obtain rfl:=Option.some.inj (ht0.symm.trans ht)
 obtain⟨xs,m,_,ex,hcl,hl,hel⟩:=DataW.trod_array ha hd
 rw[hcN]at hcl
 intro k z hk
 have hkl:k<N:=by rw[<-hN];exact(List.getElem?_eq_some_iff.1 hk).1
 have hE:=hel k hkl
 rw[hc1,Nat.mul_one,List.getElem?_eq_getElem (by omega)]at hE
 obtain⟨y,e1,e2,_⟩:=DataW.trod_int he hE
 have e3:(xs.map (·.1))=tab.map fun z=> .lit (.int kd z):=(DataW.agg.inj (Prod.mk.inj ex).1).symm
 have e4:=congrArg (fun l=>l[k]?) e3
 simp only[List.getElem?_map,hk,List.getElem?_eq_getElem (show k<xs.length by omega),e2,Option.map_some,Option.some.injEq,DataW.lit.injEq,Lit.int.injEq,true_and]at e4
 have h0:((cs.toList.drop k).take 1)[0]?=some (.int kd y):=by rw[e1];rfl
 have h1:cs.toList[k]?=some (.int kd y):=by simpa using h0
 rw[World.var?_cell hg hv k,<-Array.getElem?_toList,h1,e4]
theorem tz_laid {r:List (String×DataW Unit)} {W:World} (h:laidMet Tryz.prog (("math/bits.deBruijn64tab",Rows.laid_math_bits_deBruijn64tab)::r) W):TzTab W:=by
 have h1:=ints_laid (tab:=Lib.deBruijn64tab.map fun(z:Nat)=>(z:Int)) (kd:= .u8) (arr:=212) (el:=5) (N:=64) (g:=3) (by
  have e:(Rows.laid_math_bits_deBruijn64tab:DataW Unit)= .agg ((Lib.deBruijn64tab.map fun(z:Nat)=>(z:Int)).map fun z=> .lit (.int .u8 z)):=by kernel_rfl
  rw[<-e];exact h) (by kernel_rfl) (by kernel_rfl) Tryz.underlying212 Tryz.underlying5 (by kernel_rfl) (by kernel_rfl) (by kernel_rfl)
 have h2:TabAt 3 Lib.deBruijn64tab W:=fun j hj=>h1 j (Lib.deBruijn64tab.getD j 0:Nat) (by
  rw[List.getElem?_map,List.getD_eq_getElem?_getD,List.getElem?_eq_getElem hj]
  rfl)
 exact⟨h2,blk_cell (h2 0 (by decide+kernel))⟩
theorem lens_laid {r:List (String×DataW Unit)} {W:World} (h:laidMet Tryz.prog (("mortsafe/rule.lengths",Rows.laid_mortsafe_rule_lengths)::r) W):LensIn W:=by
 have h1:=ints_laid (tab:=lens12) (kd:= .i64) (arr:=234) (el:=3) (N:=12) (g:=4) (by
  have e:(Rows.laid_mortsafe_rule_lengths:DataW Unit)= .agg (lens12.map fun z=> .lit (.int .i64 z)):=by kernel_rfl
  rw[<-e];exact h) (by kernel_rfl) (by kernel_rfl) Tryz.underlying234 Tryz.underlying3 (by kernel_rfl) (by kernel_rfl) (by kernel_rfl)
 exact⟨blk_cell (h1 0 31 rfl),h1⟩
def formD (s:Form):DataW Unit:= .agg [.lit (.string s.word.data.toList), .lit (.bool s.place), .lit (.bool s.frm), .lit (.bool s.cls), .lit (.bool s.years), .lit (.bool s.all), .lit (.bool s.parts), .lit (.bool s.shares)]
theorem formD_inj {a b:Form} (h:formD a=formD b):a=b:=by
 obtain⟨⟨⟨x⟩⟩,p1,p2,p3,p4,p5,p6,p7⟩:=a
 obtain⟨⟨⟨y⟩⟩,q1,q2,q3,q4,q5,q6,q7⟩:=b
 simp[formD]at h
 obtain⟨rfl,rfl,rfl,rfl,rfl,rfl,rfl,rfl⟩:=h
 rfl
theorem forms_laid {r:List (String×DataW Unit)} {W:World} (h:laidMet Tryz.prog (("mortsafe/right.forms",Rows.laid_mortsafe_right_forms)::r) W):FormsIn W:=by
 have e0:(Rows.laid_mortsafe_right_forms:DataW Unit)= .agg (formsL.map formD):=by kernel_rfl
 rw[e0]at h
 obtain⟨ps,⟨g',t,cs,fuel,p,q,hg,ht,hv,hd,_,_⟩,_,_⟩:=h
 obtain rfl:=Option.some.inj ((show Tryz.prog.globalNamed "mortsafe/right.forms" =some 0 by kernel_rfl).symm.trans hg)
 obtain rfl:=Option.some.inj ((show(Tryz.prog.globals[0]?).map (·.type)=some 145 by kernel_rfl).symm.trans ht)
 obtain⟨xs,m,_,ex,hcl,hl,hel⟩:=DataW.trod_array Tryz.underlying145 hd
 have key: ∀k (f:Form),formsL[k]?=some f-> ∀j u,f.cells[j]?=some u->W.cell? ⟨0,k*8+j,none⟩=some u:=fun k f hk j u hu=>by
  have hkl:k<9:=(List.getElem?_eq_some_iff.1 hk).1
  have hE:=hel k hkl
  rw[k5_form,List.getElem?_eq_getElem (by omega)]at hE
  obtain⟨s,e1,e2⟩:=open_form _ _ _ hE
  have e3:(xs.map (·.1))=formsL.map formD:=(DataW.agg.inj (Prod.mk.inj ex).1).symm
  have e4:=congrArg (fun l=>l[k]?) e3
  simp only[List.getElem?_map,hk,List.getElem?_eq_getElem (show k<xs.length by omega),e2,Option.map_some,Option.some.injEq]at e4
  have e5:s=f:=formD_inj e4
  subst e5
  have hj:j<8:=(List.getElem?_eq_some_iff.1 hu).1
  have h1:((cs.toList.drop (k*8)).take 8)[j]?=some u:=by rw[e1];exact hu
  rw[List.getElem?_take_of_lt hj,List.getElem?_drop]at h1
  rw[World.var?_cell hg hv (k*8+j),<-Array.getElem?_toList,h1]
 exact⟨blk_cell (key 0 _ rfl 0 _ rfl),key⟩
end Go.Proofs.YtmaidggpbihlgaaGreatDoor
namespace Go.Proofs.YtmaidggpbihlgaaGreatDoor
open Go.ChangeShapes Go.WideShapes Go.ChangeAt Go.RowKit Go.Deep Go.Shelf
section
variable {H:Type} {enc:TypeId×Value->H} {P:Program} {w:World} {base:Nat} {spare:Nat->Bool} {held:Bool}
theorem slw_of_trod {α:Type} {R:World->α->List Value->Prop} {size:Nat} (hsz:0<size) (hlen: ∀x cs,R w x cs->cs.length=size) {t e:TypeId} {fuel:Nat} {cs:List Value} {x:DataW H×List MemPlace} (ht:P.underlying t=some (.slice e)) (hC:P.cellsOf e=size)
 (helem: ∀(n:Nat) (cs:List Value) (y:DataW H×List MemPlace),DataW.trod enc P w base spare held n e cs=some y-> ∃s:α,R w s cs) (h:DataW.trod enc P w base spare held fuel t cs=some x):
 ∃(A:Option Addr) (n c:Nat) (xs:List α),cs=[.slice A n c]/\n=xs.length/\SlW w size R A xs/\xs.length<=c/\c<=maxLen:=by
 rcases open_slice ht h with⟨rfl,_⟩|⟨a,len,cap,m,n,D,Pl,rfl,_,hl,hm,hmm,_,hi⟩
 ·exact⟨none,0,0,[],rfl,rfl,SlW.nil,Nat.le_refl _,Nat.zero_le _⟩
 ·have hle:len<=m:=by rw[hmm];split<;>omega
  obtain⟨l,hll,hq⟩:=list_of (Q:=fun i (s:α)=> ∃cs,R w s cs/\ ∀j,j<size->w.cell? ((a.add (i*size)).add j)=cs[j]?) len (fun i hil=>by
   obtain⟨cs',hc,hr⟩:=hi i (by omega)
   obtain⟨s,hs⟩:=helem _ _ _ hr
   rw[hC]at hc
   exact⟨s,cs',hs,(World.cells?_some hc).2.2⟩)
  refine⟨some a,len,cap,l,rfl,hll.symm,fun hp=> ?_,by omega,hm⟩
  have h0:0<l.length:=hp
  obtain⟨cs0,hr0,hx0⟩:=hq 0 l[0] (List.getElem?_eq_getElem h0)
  have hx:=hx0 0 hsz
  have hv: ∃v,cs0[0]?=some v:=⟨_,List.getElem?_eq_getElem (by rw[hlen _ _ hr0];exact hsz)⟩
  obtain⟨v,hv⟩:=hv
  rw[hv]at hx
  have hsp:=World.cell?_spot hx
  have hbl:=World.block_lt_of_cell? _ _ hx
  obtain⟨b,off,spot⟩:=a
  have hsp':spot=none:=by simpa[Addr.add]using hsp
  subst hsp'
  refine⟨b,off,rfl,by simpa[Addr.add]using hbl,fun k y hy=> ?_⟩
  obtain⟨cs1,hr1,hx1⟩:=hq k y hy
  refine⟨cs1,hr1,fun j u hu=> ?_⟩
  have hj:j<size:=by have:=(List.getElem?_eq_some_iff.1 hu).1;rw[hlen _ _ hr1]at this;exact this
  have:=hx1 j hj
  rw[hu]at this
  rw[<-this]
  congr 1
  unfold Addr.add
  split<;>split<;>simp_all<;>omega
end
section
variable {H:Type} {enc:TypeId×Value->H} {w:World} {base:Nat} {spare:Nat->Bool} {held:Bool}
theorem k5_part:Tryz.prog.cellsOf 49=3:=by kernel_rfl
theorem k5_parts:Tryz.prog.cellsOf 41=1:=by kernel_rfl
theorem k5_deed:Tryz.prog.cellsOf 56=7:=by kernel_rfl
theorem k5_lawsl:Tryz.prog.cellsOf 22=1:=by kernel_rfl
theorem k5_deedsl:Tryz.prog.cellsOf 23=1:=by kernel_rfl
theorem k5_rights:Tryz.prog.cellsOf 25=2:=by kernel_rfl
theorem rpart_len (x:RPart):x.cells.length=3:=rfl
set_option maxRecDepth 100000 in
theorem open_part (n:Nat) (cs:List Value) (x:DataW H×List MemPlace) (h:DataW.trod enc Tryz.prog w base spare held n 49 cs=some x): ∃s:RPart,cs=s.cells:=by
 obtain⟨xs,m,_,ex,hlen,hxl,hf⟩:=DataW.trod_struct Tryz.underlying49 h
 rw[show Tryz.prog.cellsOf 49=3 by kernel_rfl]at hlen
 match cs,hlen with
 | [v0,v1,v2],_=>
   have g: ∀i,i<2-> ∃y,xs[i]?=some y:=fun i hi=>⟨_,List.getElem?_eq_getElem (by rw[hxl];exact hi)⟩
   obtain⟨y0,e0⟩:=g 0 (by decide)
   have h0:DataW.trod enc Tryz.prog w base spare held m 9 (List.take (Tryz.prog.cellsOf 9) (List.drop 0 [v0,v1,v2]))=some y0:=(hf 0 _ rfl).trans e0
   rw[k5_str]at h0
   obtain⟨q0,c0,d0,_⟩:=DataW.trod_string Tryz.underlying9 h0
   simp only[List.drop_succ_cons,List.drop_zero,List.take_succ_cons,List.take_zero,List.cons.injEq,and_true]at c0
   obtain⟨y1,e1⟩:=g 1 (by decide)
   have h1:DataW.trod enc Tryz.prog w base spare held m 45 (List.take (Tryz.prog.cellsOf 45) (List.drop 1 [v0,v1,v2]))=some y1:=(hf 1 _ rfl).trans e1
   rw[k5_frac]at h1
   obtain⟨q1,r1,c1⟩:=open_frac _ _ _ h1
   simp only[List.drop_succ_cons,List.drop_zero,List.take_succ_cons,List.take_zero,List.cons.injEq,and_true]at c1
   subst c0
   obtain⟨cx1,cy1⟩:=c1
   subst cx1 cy1
   exact⟨⟨q0,q1,r1⟩,rfl⟩
set_option maxRecDepth 100000 in
theorem open_deed (n:Nat) (cs:List Value) (x:DataW H×List MemPlace) (h:DataW.trod enc Tryz.prog w base spare held n 56 cs=some x): ∃d:Deed,deedR w d cs:=by
 obtain⟨xs,m,_,ex,hlen,hxl,hf⟩:=DataW.trod_struct Tryz.underlying56 h
 rw[show Tryz.prog.cellsOf 56=7 by kernel_rfl]at hlen
 match cs,hlen with
 | [v0,v1,v2,v3,v4,v5,v6],_=>
   have g: ∀i,i<7-> ∃y,xs[i]?=some y:=fun i hi=>⟨_,List.getElem?_eq_getElem (by rw[hxl];exact hi)⟩
   obtain⟨y0,e0⟩:=g 0 (by decide)
   have h0:DataW.trod enc Tryz.prog w base spare held m 3 (List.take (Tryz.prog.cellsOf 3) (List.drop 0 [v0,v1,v2,v3,v4,v5,v6]))=some y0:=(hf 0 _ rfl).trans e0
   rw[k5_int]at h0
   obtain⟨q0,c0,d0,_⟩:=DataW.trod_int Tryz.underlying3 h0
   simp only[List.drop_succ_cons,List.drop_zero,List.take_succ_cons,List.take_zero,List.cons.injEq,and_true]at c0
   obtain⟨y1,e1⟩:=g 1 (by decide)
   have h1:DataW.trod enc Tryz.prog w base spare held m 3 (List.take (Tryz.prog.cellsOf 3) (List.drop 1 [v0,v1,v2,v3,v4,v5,v6]))=some y1:=(hf 1 _ rfl).trans e1
   rw[k5_int]at h1
   obtain⟨q1,c1,d1,_⟩:=DataW.trod_int Tryz.underlying3 h1
   simp only[List.drop_succ_cons,List.drop_zero,List.take_succ_cons,List.take_zero,List.cons.injEq,and_true]at c1
   obtain⟨y2,e2⟩:=g 2 (by decide)
   have h2:DataW.trod enc Tryz.prog w base spare held m 9 (List.take (Tryz.prog.cellsOf 9) (List.drop 2 [v0,v1,v2,v3,v4,v5,v6]))=some y2:=(hf 2 _ rfl).trans e2
   rw[k5_str]at h2
   obtain⟨q2,c2,d2,_⟩:=DataW.trod_string Tryz.underlying9 h2
   simp only[List.drop_succ_cons,List.drop_zero,List.take_succ_cons,List.take_zero,List.cons.injEq,and_true]at c2
   obtain⟨y3,e3⟩:=g 3 (by decide)
   have h3:DataW.trod enc Tryz.prog w base spare held m 9 (List.take (Tryz.prog.cellsOf 9) (List.drop 3 [v0,v1,v2,v3,v4,v5,v6]))=some y3:=(hf 3 _ rfl).trans e3
   rw[k5_str]at h3
   obtain⟨q3,c3,d3,_⟩:=DataW.trod_string Tryz.underlying9 h3
   simp only[List.drop_succ_cons,List.drop_zero,List.take_succ_cons,List.take_zero,List.cons.injEq,and_true]at c3
   obtain⟨y4,e4⟩:=g 4 (by decide)
   have h4:DataW.trod enc Tryz.prog w base spare held m 41 (List.take (Tryz.prog.cellsOf 41) (List.drop 4 [v0,v1,v2,v3,v4,v5,v6]))=some y4:=(hf 4 _ rfl).trans e4
   rw[k5_parts]at h4
   obtain⟨B4,n4,cap4,q4,c4,hn4,hS4,hc4,_⟩:=sl_of_trod (f:=RPart.cells) (size:=3) (by decide) rpart_len Tryz.underlying41 k5_part open_part h4
   simp only[List.drop_succ_cons,List.drop_zero,List.take_succ_cons,List.take_zero,List.cons.injEq,and_true]at c4
   obtain⟨y5,e5⟩:=g 5 (by decide)
   have h5:DataW.trod enc Tryz.prog w base spare held m 3 (List.take (Tryz.prog.cellsOf 3) (List.drop 5 [v0,v1,v2,v3,v4,v5,v6]))=some y5:=(hf 5 _ rfl).trans e5
   rw[k5_int]at h5
   obtain⟨q5,c5,d5,_⟩:=DataW.trod_int Tryz.underlying3 h5
   simp only[List.drop_succ_cons,List.drop_zero,List.take_succ_cons,List.take_zero,List.cons.injEq,and_true]at c5
   obtain⟨y6,e6⟩:=g 6 (by decide)
   have h6:DataW.trod enc Tryz.prog w base spare held m 3 (List.take (Tryz.prog.cellsOf 3) (List.drop 6 [v0,v1,v2,v3,v4,v5,v6]))=some y6:=(hf 6 _ rfl).trans e6
   rw[k5_int]at h6
   obtain⟨q6,c6,d6,_⟩:=DataW.trod_int Tryz.underlying3 h6
   simp only[List.drop_succ_cons,List.drop_zero,List.take_succ_cons,List.take_zero,List.cons.injEq,and_true]at c6
   subst c0
   subst c1
   subst c2
   subst c3
   subst c4
   subst c5
   subst c6
   subst hn4
   exact⟨⟨q0,q1,q2,q3,q4,q5,q6⟩,B4,cap4,hc4,rfl,hS4⟩
theorem deedR_len {W:World}: ∀(d:Deed) (cs:List Value),deedR W d cs->cs.length=7:=by
 rintro d cs ⟨B,c,_,rfl,_⟩
 rfl
set_option maxRecDepth 100000 in
theorem open_rights {v:Value} {d:DataW H} {p:List MemPlace} {r:Reach} {b0:Nat} (hv:Value.okWide Tryz.prog w r b0 25 v) (h:DataW.Trod enc Tryz.prog w base spare held 25 v d p):
 ∃(ls:List Law) (ds:List Deed) (A:Option Addr) (nc:Nat) (B:Option Addr) (mc:Nat),v= .agg #[.slice A ls.length nc, .slice B ds.length mc]/\RightsIn w ls ds A ls.length nc B ds.length mc:=by
 obtain⟨cs,rfl,hsz⟩:=okWide_struct Tryz.underlying25 hv
 obtain⟨l⟩:=cs
 rw[k5_rights]at hsz
 match l,hsz with
 | [v0,v1],_=>
   obtain⟨fuel,hf0⟩:=h
   obtain⟨xs,m,_,_,_,hxl,hf⟩:=DataW.trod_struct Tryz.underlying25 hf0
   have g: ∀i,i<2-> ∃y,xs[i]?=some y:=fun i hi=>⟨_,List.getElem?_eq_getElem (by rw[hxl];exact hi)⟩
   obtain⟨y0,e0⟩:=g 0 (by decide)
   obtain⟨y1,e1⟩:=g 1 (by decide)
   have h0:DataW.trod enc Tryz.prog w base spare held m 22 (List.take (Tryz.prog.cellsOf 22) (List.drop 0 [v0,v1]))=some y0:=(hf 0 _ rfl).trans e0
   have h1:DataW.trod enc Tryz.prog w base spare held m 23 (List.take (Tryz.prog.cellsOf 23) (List.drop 1 [v0,v1]))=some y1:=(hf 1 _ rfl).trans e1
   rw[k5_lawsl]at h0
   rw[k5_deedsl]at h1
   obtain⟨A,n,nc,ls,ea,hn,hS,hc,_⟩:=sl_of_trod (f:=Law.cells) (size:=4) (by decide) (fun x=>rfl) Tryz.underlying22 k5_laws open_law h0
   obtain⟨B,k,mc,ds,er,hk,hD,hmc,_⟩:=slw_of_trod (R:=deedR) (size:=7) (by decide) deedR_len Tryz.underlying23 k5_deed open_deed h1
   simp at ea er
   subst ea er hn hk
   exact⟨ls,ds,A,nc,B,mc,rfl,rfl,rfl,hc,hmc,hS,hD⟩
theorem open_spot_cells:Tryz.prog.cellsOf 40=2:=by kernel_rfl
set_option maxRecDepth 100000 in
theorem open_spot {v:Value} {d:DataW H} {p:List MemPlace} {r:Reach} {b0:Nat} (hv:Value.okWide Tryz.prog w r b0 40 v) (h:DataW.Trod enc Tryz.prog w base spare held 40 v d p):
 ∃(q0:ByteArray) (q1:Int),v= .agg #[.string q0, .int .i64 q1]/\q0.size<=maxLen:=by
 obtain⟨cs,rfl,hsz⟩:=okWide_struct Tryz.underlying40 hv
 obtain⟨l⟩:=cs
 rw[open_spot_cells]at hsz
 match l,hsz with
 | [v0,v1],_=>
   obtain⟨fuel,hf0⟩:=h
   obtain⟨xs,m,_,_,_,hxl,hf⟩:=DataW.trod_struct Tryz.underlying40 hf0
   have g: ∀i,i<2-> ∃y,xs[i]?=some y:=fun i hi=>⟨_,List.getElem?_eq_getElem (by rw[hxl];exact hi)⟩
   obtain⟨y0,e0⟩:=g 0 (by decide)
   have h0:DataW.trod enc Tryz.prog w base spare held m 9 (List.take (Tryz.prog.cellsOf 9) (List.drop 0 [v0,v1]))=some y0:=(hf 0 _ rfl).trans e0
   rw[k5_str]at h0
   obtain⟨q0,c0,d0,z0⟩:=DataW.trod_string Tryz.underlying9 h0
   simp only[List.drop_succ_cons,List.drop_zero,List.take_succ_cons,List.take_zero,List.cons.injEq,and_true]at c0
   obtain⟨y1,e1⟩:=g 1 (by decide)
   have h1:DataW.trod enc Tryz.prog w base spare held m 3 (List.take (Tryz.prog.cellsOf 3) (List.drop 1 [v0,v1]))=some y1:=(hf 1 _ rfl).trans e1
   rw[k5_int]at h1
   obtain⟨q1,c1,d1,_⟩:=DataW.trod_int Tryz.underlying3 h1
   simp only[List.drop_succ_cons,List.drop_zero,List.take_succ_cons,List.take_zero,List.cons.injEq,and_true]at c1
   subst c0
   subst c1
   exact⟨q0,q1,rfl,z0⟩
theorem open_gift_cells:Tryz.prog.cellsOf 52=6:=by kernel_rfl
set_option maxRecDepth 100000 in
theorem open_gift {v:Value} {d:DataW H} {p:List MemPlace} {r:Reach} {b0:Nat} (hv:Value.okWide Tryz.prog w r b0 52 v) (h:DataW.Trod enc Tryz.prog w base spare held 52 v d p):
 ∃(q0:ByteArray) (q1:ByteArray) (q2:ByteArray) (q3:Int) (q4 r4:Int),v= .agg #[.string q0, .string q1, .string q2, .int .i64 q3, .int .i64 q4, .int .i64 r4]/\q0.size<=maxLen/\q1.size<=maxLen/\q2.size<=maxLen:=by
 obtain⟨cs,rfl,hsz⟩:=okWide_struct Tryz.underlying52 hv
 obtain⟨l⟩:=cs
 rw[open_gift_cells]at hsz
 match l,hsz with
 | [v0,v1,v2,v3,v4,v5],_=>
   obtain⟨fuel,hf0⟩:=h
   obtain⟨xs,m,_,_,_,hxl,hf⟩:=DataW.trod_struct Tryz.underlying52 hf0
   have g: ∀i,i<5-> ∃y,xs[i]?=some y:=fun i hi=>⟨_,List.getElem?_eq_getElem (by rw[hxl];exact hi)⟩
   obtain⟨y0,e0⟩:=g 0 (by decide)
   have h0:DataW.trod enc Tryz.prog w base spare held m 9 (List.take (Tryz.prog.cellsOf 9) (List.drop 0 [v0,v1,v2,v3,v4,v5]))=some y0:=(hf 0 _ rfl).trans e0
   rw[k5_str]at h0
   obtain⟨q0,c0,d0,z0⟩:=DataW.trod_string Tryz.underlying9 h0
   simp only[List.drop_succ_cons,List.drop_zero,List.take_succ_cons,List.take_zero,List.cons.injEq,and_true]at c0
   obtain⟨y1,e1⟩:=g 1 (by decide)
   have h1:DataW.trod enc Tryz.prog w base spare held m 9 (List.take (Tryz.prog.cellsOf 9) (List.drop 1 [v0,v1,v2,v3,v4,v5]))=some y1:=(hf 1 _ rfl).trans e1
   rw[k5_str]at h1
   obtain⟨q1,c1,d1,z1⟩:=DataW.trod_string Tryz.underlying9 h1
   simp only[List.drop_succ_cons,List.drop_zero,List.take_succ_cons,List.take_zero,List.cons.injEq,and_true]at c1
   obtain⟨y2,e2⟩:=g 2 (by decide)
   have h2:DataW.trod enc Tryz.prog w base spare held m 9 (List.take (Tryz.prog.cellsOf 9) (List.drop 2 [v0,v1,v2,v3,v4,v5]))=some y2:=(hf 2 _ rfl).trans e2
   rw[k5_str]at h2
   obtain⟨q2,c2,d2,z2⟩:=DataW.trod_string Tryz.underlying9 h2
   simp only[List.drop_succ_cons,List.drop_zero,List.take_succ_cons,List.take_zero,List.cons.injEq,and_true]at c2
   obtain⟨y3,e3⟩:=g 3 (by decide)
   have h3:DataW.trod enc Tryz.prog w base spare held m 3 (List.take (Tryz.prog.cellsOf 3) (List.drop 3 [v0,v1,v2,v3,v4,v5]))=some y3:=(hf 3 _ rfl).trans e3
   rw[k5_int]at h3
   obtain⟨q3,c3,d3,_⟩:=DataW.trod_int Tryz.underlying3 h3
   simp only[List.drop_succ_cons,List.drop_zero,List.take_succ_cons,List.take_zero,List.cons.injEq,and_true]at c3
   obtain⟨y4,e4⟩:=g 4 (by decide)
   have h4:DataW.trod enc Tryz.prog w base spare held m 45 (List.take (Tryz.prog.cellsOf 45) (List.drop 4 [v0,v1,v2,v3,v4,v5]))=some y4:=(hf 4 _ rfl).trans e4
   rw[k5_frac]at h4
   obtain⟨q4,r4,c4⟩:=open_frac _ _ _ h4
   simp only[List.drop_succ_cons,List.drop_zero,List.take_succ_cons,List.take_zero,List.cons.injEq,and_true]at c4
   subst c0
   subst c1
   subst c2
   subst c3
   obtain⟨cx4,cy4⟩:=c4
   subst cx4 cy4
   exact⟨q0,q1,q2,q3,q4,r4,rfl,z0,z1,z2⟩
end
end Go.Proofs.YtmaidggpbihlgaaGreatDoor
