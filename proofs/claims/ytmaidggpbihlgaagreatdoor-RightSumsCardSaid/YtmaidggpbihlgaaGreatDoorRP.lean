/- Walks of the reference's records: IsDay, IsShare, few, right, CheckRecords. -/
import Derived.Test.YtmaidggpbihlgaaGreatDoorRN
import Derived.Test.YtmaidggpbihlgaaGreatDoorRL
import Derived.Test.YtmaidggpbihlgaaGreatDoorE6
import Derived.Test.YtmaidggpbihlgaaGreatDoorJT
import Derived.Test.YtmaidggpbihlgaaGreatDoorJB
import Derived.Test.YtmaidggpbihlgaaGreatDoorE3
import Derived.Test.YtmaidggpbihlgaaGreatDoorDK
import Derived.Test.YtmaidggpbihlgaaGreatDoorNH
import Derived.Test.YtmaidggpbihlgaaGreatDoorO0
import Derived.Test.YtmaidggpbihlgaaGreatDoorNC
import Derived.Test.YtmaidggpbihlgaaGreatDoorS0
import Derived.Laws.Strings
import Derived.Test.YtmaidggpbihlgaaGreatDoorO9
set_option linter.unusedSimpArgs false
set_option linter.unusedVariables false
namespace Go.Proofs.YtmaidggpbihlgaaGreatDoor
open Go.RowKit Go.Shelf
attribute [local go_sem] World.cell?_alloc_mark ext_size ext_cell ext_frozen lt_add_r lt_add_r2 lt_add_r3 lt_add_r4 lt_add_r5 lt_add_r6 lt_add_r7 lt_add_r8
attribute [local go_sem] ext_setCell alloc_setCell_lt
theorem rec_kind {x:Rec} (h:checkRecP x=0):0<=x.kind/\x.kind<=4:=by
 unfold checkRecP at h
 split at h
 ·simp at h
 ·rename_i hc
  unfold inR at hc
  simp at hc
  omega
theorem contradicts_any (l:List Rec) (A:Option Addr) (c:Nat) (w:World) (hc:l.length<=c) (hl:l.length<=1000) (hok: ∀x∈l,checkRecP x=0) (hS:Sl w 8 Rec.cells A l):
 Calls Tryz.prog 53 #[.slice A l.length c] w (Ret w (.bool (contraP l))):=
 contradicts_of l A c _ _ w hc hl (fun x hx=>rec_kind (hok x hx)) hS (fun W hB=>circle_any l A c W hc hl (hS.keep hB)) (fun W hB=>tooMuch_any l A c W hc hl hok (hS.keep hB))
end Go.Proofs.YtmaidggpbihlgaaGreatDoor
namespace Go.Proofs.YtmaidggpbihlgaaGreatDoor
open Go.RowKit Go.Shelf
attribute [local go_sem] World.cell?_alloc_mark ext_size ext_cell ext_frozen lt_add_r lt_add_r2 lt_add_r3 lt_add_r4 lt_add_r5 lt_add_r6 lt_add_r7 lt_add_r8
attribute [local go_sem] ext_setCell alloc_setCell_lt
theorem elInt:ElTy Tryz.prog 63 3 1 8:=elTy_of (z:= .int .i64 0) (by kernel_rfl) (by kernel_rfl) rfl (by decide)
def TzTab (w:World):Prop:=TabAt 3 Lib.deBruijn64tab w/\3<w.heap.size
theorem TzTab.keep {w W:World} {n:Nat} (h:TzTab w) (hB:Below n w W) (hn:w.heap.size<=n:=by first|exact Nat.le_refl _|omega):TzTab W:=
 ⟨fun j hj=>(B_cell hB (Nat.lt_of_lt_of_le h.2 hn)).trans (h.1 j hj),Nat.lt_of_lt_of_le h.2 hB.size⟩
theorem tz_any (x:Nat) (hx:x<4096) (w:World) (hT:TzTab w):Calls Tryz.prog 94 #[.int .u64 x] w (Ret0 w (.int .i64 (Lib.ctz 64 x))):=
 (Any7.bits_TrailingZeros tzBits x (by omega) w (fun _=>hT.1)).mono fun _ _ h=>⟨h.1,h.2.symm⟩
theorem sl_int {w:World} {b n:Nat} {t:TypeId} {fr:Nat×Nat} (h:w.heap[b]?=some (.cells #[.int .i64 (n:Int)] t fr)):Sl w 1 intC (some ⟨b,0,none⟩) [n]:=fun _=>⟨b,0,rfl,blk_lt h,fun k y hy j u hu=>by
 have hk:k=0:=by have:=(List.getElem?_eq_some_iff.1 hy).1;simp at this;omega
 subst hk
 simp only[List.getElem?_cons_zero,Option.some.injEq]at hy
 subst hy
 match j,hu with
 |0,hu=>simp[intC]at hu;simp[World.cell?,h,<-hu]
 |j+1,hu=>simp[intC]at hu⟩
theorem bits_and_i64 (a b:Nat) (ha:a<4611686018427387904) (hb:b<4611686018427387904):bits .and .i64 (a:Int) (b:Int)=((a &&& b:Nat):Int):=by
 have hx:a &&& b<=a:=Nat.and_le_left
 have h1:(BitVec.ofInt 64 (a:Int)).toNat=a:=by
  rw[BitVec.ofInt_natCast,BitVec.toNat_ofNat];exact Nat.mod_eq_of_lt (by omega)
 have h2:(BitVec.ofInt 64 (b:Int)).toNat=b:=by
  rw[BitVec.ofInt_natCast,BitVec.toNat_ofNat];exact Nat.mod_eq_of_lt (by omega)
 show IntKind.i64.wrap ((BitVec.ofInt 64 (a:Int) &&& BitVec.ofInt 64 (b:Int)).toNat:Int)=_
 rw[BitVec.toNat_and,h1,h2,IntKind.wrap_i64]
 omega
theorem and_pred (x:Nat) (hx:x<4096) (h0:x≠0):bits .and .i64 (x:Int) ((x:Int)-1)=((x &&& (x-1):Nat):Int):=by
 rw[show((x:Int)-1)=((x-1:Nat):Int) by omega]
 exact bits_and_i64 x (x-1) (by omega) (by omega)
set_option maxRecDepth 100000 in
set_option maxHeartbeats 2000000 in
theorem elements_any (n set:Nat) (w:World) (hn:n<=12) (hx:set<2^n) (hT:TzTab w):
 Calls Tryz.prog 51 #[.int .i64 set] w (fun e w'=> ∃v,e= .returned v/\OwnS w' w.heap.size 3 1 intC v (bitsP n set)/\Below w.heap.size w w'):=by
 have HT:=Lib.hid hT
 clear hT
 go_enter Tryz.func51,Tryz.ntmps51
 go_wp2_with fail
 go_loopw [0,3] (fun v0 v wr=> ∃(x:Nat) (acc:List Nat),v0= .int .i64 x/\x<2^n/\Hid (bitsP n set=acc++bitsP n x)/\OwnS wr w.heap.size 3 1 intC v acc/\Below w.heap.size w wr) (fun v0 _ _=>(intOf v0).toNat)
 case atStart=>exact⟨set,[],rfl,hx,rfl,OwnS.nil,Below.refl _ _⟩
 case round=>
  obtain⟨x,acc,rfl,hx2,HX,hown,hB⟩:=hrel
  obtain⟨VA,vc,rfl,_,hvc⟩:=hown.sl intC_len
  have HO:=Lib.hid hown
  have HB:=Lib.hid hB
  have h12:x<4096:=Nat.lt_of_lt_of_le hx2 (Nat.pow_le_pow_right (n:=2) (by decide) hn)
  by_cases h0:x=0
  ·subst h0
   have hx9:=HX.out
   rw[bits_none,List.append_nil]at hx9
   have HX9:=Lib.hid hx9
   clear hx9 hown
   go_wp2_with fail
   go_ret
   exact⟨_,rfl,by rw[HX9.out];exact HO.out,HB.out⟩
  ·have hne: ¬(x:Int)=0:=by omega
   have hcv:IntKind.u64.wrap (x:Int)=(x:Int):=by rw[IntKind.wrap_u64];omega
   have HTZ:=Lib.hid (fun W (hW:Below wr.heap.size wr W)=>tz_any x h12 W ((HT.out.keep HB.out).keep hW))
   have hal:acc.length<=12:=by
    have h1:=congrArg List.length HX.out
    have h2:(bitsP n set).length<=n:=by unfold bitsP;exact Nat.le_trans (List.length_filter_le _ _) (by simp)
    rw[List.length_append]at h1
    omega
   have hbs:=hB.size
   clear hown hB
   go_upto_region 3 with
    (first
      |(go_at_call 94
        go_must(refine(HTZ.out _ Bw).mono ?_)
        rintro e wq ⟨rfl,rfl⟩)
      |(at_builtin
        go_loud(refine wpList_append_S (v:= .slice VA acc.length vc) (n:=acc.length) (m:=1) rfl _ _ rfl elInt intC_len intC_one rfl (xs:=acc) (ys:=[Lib.ctz 64 x]) (HO.out.keep (n:=wr.heap.size) Bw) rfl rfl rfl (sl_int (J_new _ _ _ rfl)) (by simp[maxLen];omega) (by omega) (by simp;omega) ?_)
        intro v3 w3 h1 h2 h3
        have hb3:=Below.grown (B:=w.heap.size) (a:=w) (HB.out.trans (Below.mono (B:=wr.heap.size) (B_alloc (Below.refl _ _) _) hbs)) h2 (by simp;omega) (fun j hj=>(HO.out.ge j hj).1)
        have H1:=Lib.hid h1
        have HB3:=Lib.hid hb3
        clear h1 h2 h3 hb3))
   go_wp2_with fail
   go_round
   case rel=>
    rw[and_pred x h12 h0]
    refine⟨x &&& (x-1),acc++[Lib.ctz 64 x],rfl,and_pred_lt hx2,?_,H1.out,HB3.out⟩
    show _=_
    rw[HX.out,bits_step hn hx2 h0]
    simp
   case measure=>
    rw[and_pred x h12 h0]
    have:=and_pred_dec h0
    simp only[intOf]
    omega
end Go.Proofs.YtmaidggpbihlgaaGreatDoor
namespace Go.Proofs.YtmaidggpbihlgaaGreatDoor
open Go.RowKit Go.Shelf
attribute [local go_sem] World.cell?_alloc_mark ext_size ext_cell ext_frozen lt_add_r lt_add_r2 lt_add_r3 lt_add_r4 lt_add_r5 lt_add_r6 lt_add_r7 lt_add_r8
attribute [local go_sem] ext_setCell alloc_setCell_lt
def ConOk (w:World):Prop:= ∀(l:List Rec) (A:Option Addr) (c:Nat) (W:World),Below w.heap.size w W->l.length<=c->l.length<=1000->(∀x∈l,checkRecP x=0)->Sl W 8 Rec.cells A l->Calls Tryz.prog 53 #[.slice A l.length c] W (Ret W (.bool (contraP l)))
noncomputable def bestsGo (l:List Rec):Nat->Option (List Nat)
 |0=>none
 |k+1=>bestStep l (bestsGo l k) (bitsP l.length k)
def BestAt (W:World) (base:Nat) (v:Value):Option (List Nat)->Prop
 |none=>v= .slice none 0 0
 |some s=>s≠[]/\OwnS W base 3 1 intC v s
end Go.Proofs.YtmaidggpbihlgaaGreatDoor
namespace Go.Proofs.YtmaidggpbihlgaaGreatDoor
open Go.RowKit Go.Shelf
attribute [local go_sem] World.cell?_alloc_mark ext_size ext_cell ext_frozen lt_add_r lt_add_r2 lt_add_r3 lt_add_r4 lt_add_r5 lt_add_r6 lt_add_r7 lt_add_r8
attribute [local go_sem] ext_setCell alloc_setCell_lt
noncomputable def leastR (l:List Rec):List Nat×Int:=
 if checkRecsP l != 0 then([],checkRecsP l)else if decide (12<l.length)then([],8)else match bestsGo l (2^l.length)with
  |none=>([],12)
  |some s=>(s,0)
def IntsPost (w:World) (r:List Nat×Int) (e:Ending) (w':World):Prop:=
 ∃A c,e= .returned (.tuple #[.slice A r.1.length c, .int .i64 r.2])/\r.1.length<=c/\Sl w' 1 intC A r.1/\Below w.heap.size w w'
theorem first_ok {α:Type} {f:α->Int}: ∀ {l:List α},firstErr f l=0-> ∀x∈l,f x=0
 | [],_,_,h=>by cases h
 |y::l,h,x,hx=>by
  unfold firstErr at h
  split at h
  ·rename_i h0
   rw[h]at h0
   exact absurd h0 (by decide)
  ·rename_i h0
   rcases List.mem_cons.1 hx with rfl|hx
   ·simpa using h0
   ·exact first_ok h x hx
theorem recs_ok {l:List Rec} (h:checkRecsP l=0):l.length<=40/\ ∀x∈l,checkRecP x=0:=by
 unfold checkRecsP at h
 split at h
 ·simp at h
 ·rename_i hc
  exact⟨by simpa using hc,first_ok h⟩
theorem of_ok {l:List Rec} {set:List Nat} (h: ∀x∈l,checkRecP x=0): ∀x∈ofP l set,checkRecP x=0:=fun x hx=>h x (of_mem x hx)
theorem best_ne {l:List Rec}: ∀ {k:Nat} {s:List Nat},bestsGo l k=some s->s≠[]
 |0,s,h=>by rw[bestsGo]at h;cases h
 |k+1,s,h=>by
  rw[bestsGo]at h
  have hx: ∀x,contraP (ofP l x)=true->x≠[]:=fun x hc e=>by
   rw[e]at hc
   have:contraP (ofP l [])=false:=contra_nil
   rw[this]at hc
   cases hc
  cases hb:bestsGo l k with
  |none=>
   rw[hb]at h
   unfold bestStep at h
   dsimp only at h
   split at h
   ·rename_i hc
    simp only[Option.some.injEq]at h
    rw[<-h];exact hx _ hc
   ·cases h
  |some b=>
   rw[hb]at h
   unfold bestStep at h
   dsimp only at h
   have hbn:=best_ne hb
   split at h
   ·simp only[Option.some.injEq]at h
    rw[<-h];exact hbn
   ·split at h
    ·rename_i hc
     simp only[Option.some.injEq]at h
     rw[<-h];exact hx _ hc
    ·simp only[Option.some.injEq]at h
     rw[<-h];exact hbn
theorem bits_len (n k:Nat):(bitsP n k).length<=n:=by
 unfold bitsP
 exact Nat.le_trans (List.length_filter_le _ _) (by simp)
theorem best_keep {W W':World} {base n:Nat} {v:Value} {o:Option (List Nat)} (h:BestAt W base v o) (hB:Below n W W') (hn:W.heap.size<=n:=by first|exact Nat.le_refl _|omega):BestAt W' base v o:=by
 cases o with
 |none=>exact h
 |some s=>exact⟨h.1,h.2.keep hB hn⟩
theorem shl_any (n:Nat) (h:n<=12):wrap64 ((2:Int)^n)=((2^n:Nat):Int):=by
 have h2:2^n<=4096:=Nat.pow_le_pow_right (n:=2) (by decide) h
 have e:((2:Int)^n)=((2^n:Nat):Int):=by rw[Int.natCast_pow];rfl
 rw[e]
 generalize 2^n=m at*
 unfold wrap64
 omega
theorem neq_nil (W:World):(binOp .neq 63 (.slice none 0 0) (.slice none 0 0)).run Tryz.prog W= .ok (.bool false) W:=by kernel_rfl
theorem neq_some (a:Addr) (n c:Nat) (W:World):(binOp .neq 63 (.slice (some a) n c) (.slice none 0 0)).run Tryz.prog W= .ok (.bool true) W:=by kernel_rfl
theorem eql_nil (W:World):(binOp .eql 63 (.slice none 0 0) (.slice none 0 0)).run Tryz.prog W= .ok (.bool true) W:=by kernel_rfl
theorem eql_some (a:Addr) (n c:Nat) (W:World):(binOp .eql 63 (.slice (some a) n c) (.slice none 0 0)).run Tryz.prog W= .ok (.bool false) W:=by kernel_rfl
set_option maxRecDepth 100000 in
set_option maxHeartbeats 2000000 in
theorem least_any (l:List Rec) (A:Option Addr) (c:Nat) (w:World) (hc:l.length<=c) (hz:recLens l) (hT:TzTab w) (hS:Sl w 8 Rec.cells A l):
 Calls Tryz.prog 20 #[.slice A l.length c] w (IntsPost w (leastR l)):=by
 have HS:=Lib.hid hS
 have HCK:=Lib.hid (fun W (hB:Below w.heap.size w W)=>checkRecords_any l A l.length c W rfl hc hz (hS.keep hB))
 obtain⟨R,hR⟩: ∃R,R=leastR l:=⟨_,rfl⟩
 rw[<-hR]
 unfold leastR at hR
 have HT:=Lib.hid hT
 clear hS hT hz
 by_cases h0:checkRecsP l=0
 ·have hok:=recs_ok h0
  rw[if_neg (by simp[h0])]at hR
  rw[h0]at HCK
  by_cases h12:12<l.length
  ·rw[if_pos (by simpa using h12)]at hR
   subst hR
   have h12i:(12:Int)<(l.length:Int):=by omega
   clear hok h0
   go_enter Tryz.func20,Tryz.ntmps20
   go_wp2_with (go_at_call 50;go_must(refine(HCK.out _ Bw).mono ?_);rintro e wq ⟨rfl,z,rfl⟩)
   go_ret2
   exact⟨none,0,rfl,Nat.le_refl _,Sl.nil,Bw⟩
  ·rw[if_neg (by simpa using h12)]at hR
   have h12i: ¬(12:Int)<(l.length:Int):=by omega
   have HOK:=Lib.hid hok.2
   have HR:=Lib.hid hR
   have h40:=hok.1
   clear hok h0 hR
   go_enter Tryz.func20,Tryz.ntmps20
   go_upto_region 7 with(go_at_call 50;go_must(refine(HCK.out _ Bw).mono ?_);rintro e wq ⟨rfl,z,rfl⟩)
   have hsh:=shl_any l.length (by omega)
   have hp1:1<=2^l.length:=Nat.one_le_two_pow
   have hp2:2^l.length<=4096:=Nat.pow_le_pow_right (n:=2) (by decide) (show l.length<=12 by omega)
   obtain⟨N,hN⟩: ∃N,N=2^l.length:=⟨_,rfl⟩
   rw[<-hN]at hsh hp1 hp2
   have HN:=Lib.hid hN
   clear hN
   go_upto_region 8 with fail
   rw[hsh]
   clear hsh
   go_loopw [5,19] (fun v i wr=> ∃k:Nat,k<=N/\i= .int .i64 k/\BestAt wr w.heap.size v (bestsGo l k)/\Below w.heap.size w wr) (fun _ i _=>N-(intOf i).toNat)
   case atStart=>exact⟨0,Nat.zero_le _,rfl,rfl,Bw⟩
   case round=>
    obtain⟨k,hk,rfl,hbest,hB⟩:=hrel
    have HB:=Lib.hid hB
    have hbs:=hB.size
    by_cases hlt:k<N
    ·have HEL:=Lib.hid (elements_any l.length k wr (by omega) (by rw[<-HN.out];exact hlt) (HT.out.keep hB))
     have hxl:=bits_len l.length k
     have HIN:=Lib.hid (bits_set l.length k).2
     have HLT:=Lib.hid hlt
     have hki:(k:Int)<(N:Int):=by omega
     obtain⟨ob,hob⟩: ∃ob,bestsGo l k=ob:=⟨_,rfl⟩
     rw[hob]at hbest
     have hbn: ∀s,ob=some s->s≠[]:=fun s e=>best_ne (hob.trans e)
     have HBN:=Lib.hid hbn
     have HBK:=Lib.hid hob
     have HBE:=Lib.hid hbest
     obtain⟨xs,hxs⟩: ∃xs,bitsP l.length k=xs:=⟨_,rfl⟩
     rw[hxs]at HEL HIN hxl
     have HXE:=Lib.hid hxs
     have HOX:=Lib.hid (of_ok (set:=xs) HOK.out)
     clear hob hB hlt hbest hbn hxs
     go_upto_region 11 with(go_at_call 51;go_must(refine HEL.out.mono ?_);rintro e wq ⟨vx,rfl,hxo,hxb⟩)
     obtain⟨XA,xc,rfl,hXS,hxc⟩:=hxo.sl intC_len
     have HXO:=Lib.hid (hxo.base_le hbs)
     have HBX:=Lib.hid (HB.out.trans (hxb.mono hbs))
     have HBE2:=Lib.hid (best_keep HBE.out hxb)
     have HSOME:=Lib.hid (fun W (hW:Below wq.heap.size wq W)=>some_any l xs A c XA xc W hc hxc (by omega) HIN.out (HS.out.keep (HBX.out.trans (hW.mono HBX.out.size))) (hXS.keep hW))
     have HXS:=Lib.hid hXS
     have HXN:Hid (contraP (ofP l xs)=true->xs≠[]):=fun hc e=>by
      rw[e]at hc
      rw[show contraP (ofP l [])=false from contra_nil]at hc
      cases hc
     clear hxo hXS hxb HEL
     generalize hnx:xs.length=nx at*
     have HNX:=Lib.hid hnx
     clear hnx
     cases ob with
     |none=>
      have hv:u5= .slice none 0 0:=HBE2.out
      subst hv
      have hnn:=neq_nil
      cases hcx:contraP (ofP l xs)
      ·have HCX:=Lib.hid hcx
       clear hcx
       go_wp2_with (first
        |(go_at_call 52;go_must(refine(HCMP.out _ Bw).mono ?_);rintro e wq5 ⟨rfl,rfl⟩)
        |(go_at_call 54;go_must(refine(HSOME.out _ Bw).mono ?_);rintro e w7 ⟨v7,rfl,ho7,hb7⟩;obtain⟨A7,c7,rfl,hs7,hc7⟩:=ho7.sl recC_len;have HB7:=Lib.hid hb7;have HS7:=Lib.hid hs7;clear ho7 hb7 hs7)
        |(go_at_call 53;go_must(refine(contradicts_any (ofP l xs) A7 c7 _ hc7 (by have:=of_len l xs;have:=HNX.out;omega) HOX.out HS7.out).mono ?_);rw[HCX.out];rintro e wq8 ⟨rfl,z8,rfl⟩))
       go_round
       case rel=>
        refine⟨k+1,HLT.out,by go_num,?_,HBX.out.trans ((HB7.out.trans ((below_ext w7 z8).mono HB7.out.size)).mono (HBX.out.size))⟩
        rw[bestsGo,HXE.out,HBK.out]
        have hst:bestStep l (none) xs=none:=by
         unfold bestStep
         dsimp only
         simp[HCX.out]
        rw[hst]
        exact rfl
       case measure=>have:=HLT.out;simp only[intOf];omega
      ·have HXN2:=Lib.hid (HXN.out hcx)
       have HCX:=Lib.hid hcx
       clear hcx
       go_wp2_with (first
        |(go_at_call 52;go_must(refine(HCMP.out _ Bw).mono ?_);rintro e wq5 ⟨rfl,rfl⟩)
        |(go_at_call 54;go_must(refine(HSOME.out _ Bw).mono ?_);rintro e w7 ⟨v7,rfl,ho7,hb7⟩;obtain⟨A7,c7,rfl,hs7,hc7⟩:=ho7.sl recC_len;have HB7:=Lib.hid hb7;have HS7:=Lib.hid hs7;clear ho7 hb7 hs7)
        |(go_at_call 53;go_must(refine(contradicts_any (ofP l xs) A7 c7 _ hc7 (by have:=of_len l xs;have:=HNX.out;omega) HOX.out HS7.out).mono ?_);rw[HCX.out];rintro e wq8 ⟨rfl,z8,rfl⟩))
       go_round
       case rel=>
        refine⟨k+1,HLT.out,by go_num,?_,HBX.out.trans ((HB7.out.trans ((below_ext w7 z8).mono HB7.out.size)).mono (HBX.out.size))⟩
        rw[bestsGo,HXE.out,HBK.out]
        have hst:bestStep l (none) xs=some xs:=by
         unfold bestStep
         dsimp only
         simp[HCX.out]
        rw[hst]
        exact best_keep (best_keep (o:=some xs) ⟨HXN2.out,HXO.out⟩ HB7.out) (below_ext w7 z8)
       case measure=>have:=HLT.out;simp only[intOf];omega
     |some bs=>
      have hv: ∃sa sc,u5= .slice (some sa) bs.length sc/\bs.length<=sc/\Sl wq 1 intC (some sa) bs:=by
       obtain⟨h1,h2⟩:=HBE2.out
       obtain⟨SA,sc,e,h3,h4⟩:=h2.sl intC_len
       cases SA with
       |none=>
        exfalso
        obtain⟨b,off,h,_⟩:=h3 (List.length_pos_iff.2 h1)
        cases h
       |some sa=>exact⟨sa,sc,e,h4,h3⟩
      obtain⟨sa,sc,rfl,hsc,hSS⟩:=hv
      have HCMP:=Lib.hid (fun W (hW:Below wq.heap.size wq W)=>compare_any xs bs XA (some sa) xc sc W (by rw[HNX.out];exact hxc) hsc (by have:=HNX.out;omega) (HXS.out.keep hW) (hSS.keep hW))
      rw[HNX.out]at HCMP
      have hnn:=neq_some sa bs.length sc
      obtain⟨C,hC⟩: ∃C,lexC xs bs=C:=⟨_,rfl⟩
      rw[hC]at HCMP
      have hlb:xs.length=bs.length->decide (0<C)=lexB bs xs:=fun h=>by rw[<-hC];exact lexC_lex h
      generalize hnb:bs.length=nb at*
      have HNB:=Lib.hid hnb
      have HLB:=Lib.hid hlb
      clear hSS hC hnb hlb
      rcases Nat.lt_trichotomy nb nx with hgt|hgt|hgt
      ·have hg1:(nb:Int)<(nx:Int):=by omega
       have HG:=Lib.hid hgt
       clear hgt
       go_wp2_with fail
       go_round
       case rel=>
        refine⟨k+1,HLT.out,by go_num,?_,HBX.out⟩
        rw[bestsGo,HXE.out,HBK.out]
        have hst:bestStep l (some bs) xs=some bs:=by
         unfold bestStep
         dsimp only
         rw[HNX.out,HNB.out]
         simp[HG.out]
        rw[hst]
        exact HBE2.out
       case measure=>have:=HLT.out;simp only[intOf];omega
      ·subst hgt
       have hg1: ¬(nb:Int)<(nb:Int):=by omega
       by_cases hC0:0<C
       ·go_wp2_with (go_at_call 52;go_must(refine(HCMP.out _ Bw).mono ?_);rintro e wq5 ⟨rfl,rfl⟩)
        go_round
        case rel=>
         refine⟨k+1,HLT.out,by go_num,?_,HBX.out⟩
         rw[bestsGo,HXE.out,HBK.out]
         have hst:bestStep l (some bs) xs=some bs:=by
          have h1:=HLB.out (by rw[HNX.out])
          unfold bestStep
          dsimp only
          rw[HNX.out,HNB.out,<-h1]
          simp[hC0]
         rw[hst]
         exact HBE2.out
        case measure=>have:=HLT.out;simp only[intOf];omega
       ·have hC1:decide (0<C)=false:=by simpa using hC0
        have HC1:=Lib.hid hC1
        have HSTE:Hid (bestStep l (some bs) xs=if contraP (ofP l xs)then some xs else some bs):=by
         have h1:=HLB.out (by rw[HNX.out])
         show _=_
         unfold bestStep
         dsimp only
         rw[HNX.out,HNB.out,<-h1,HC1.out]
         simp
        clear hC1
        cases hcx:contraP (ofP l xs)
        ·have HCX:=Lib.hid hcx
         have HST2:Hid (bestStep l (some bs) xs=some bs):=by show _=_;rw[HSTE.out,hcx];rfl
         clear hcx
         go_wp2_with (first
          |(go_at_call 52;go_must(refine(HCMP.out _ Bw).mono ?_);rintro e wq5 ⟨rfl,rfl⟩)
          |(go_at_call 54;go_must(refine(HSOME.out _ Bw).mono ?_);rintro e w7 ⟨v7,rfl,ho7,hb7⟩;obtain⟨A7,c7,rfl,hs7,hc7⟩:=ho7.sl recC_len;have HB7:=Lib.hid hb7;have HS7:=Lib.hid hs7;clear ho7 hb7 hs7)
          |(go_at_call 53;go_must(refine(contradicts_any (ofP l xs) A7 c7 _ hc7 (by have:=of_len l xs;have:=HNX.out;omega) HOX.out HS7.out).mono ?_);rw[HCX.out];rintro e wq8 ⟨rfl,z8,rfl⟩))
         go_round
         case rel=>
          refine⟨k+1,HLT.out,by go_num,?_,HBX.out.trans ((HB7.out.trans ((below_ext w7 z8).mono HB7.out.size)).mono (HBX.out.size))⟩
          rw[bestsGo,HXE.out,HBK.out,HST2.out]
          exact best_keep (best_keep HBE2.out HB7.out) (below_ext w7 z8)
         case measure=>have:=HLT.out;simp only[intOf];omega
        ·have HXN2:=Lib.hid (HXN.out hcx)
         have HCX:=Lib.hid hcx
         have HST2:Hid (bestStep l (some bs) xs=some xs):=by show _=_;rw[HSTE.out,hcx];rfl
         clear hcx
         go_wp2_with (first
          |(go_at_call 52;go_must(refine(HCMP.out _ Bw).mono ?_);rintro e wq5 ⟨rfl,rfl⟩)
          |(go_at_call 54;go_must(refine(HSOME.out _ Bw).mono ?_);rintro e w7 ⟨v7,rfl,ho7,hb7⟩;obtain⟨A7,c7,rfl,hs7,hc7⟩:=ho7.sl recC_len;have HB7:=Lib.hid hb7;have HS7:=Lib.hid hs7;clear ho7 hb7 hs7)
          |(go_at_call 53;go_must(refine(contradicts_any (ofP l xs) A7 c7 _ hc7 (by have:=of_len l xs;have:=HNX.out;omega) HOX.out HS7.out).mono ?_);rw[HCX.out];rintro e wq8 ⟨rfl,z8,rfl⟩))
         go_round
         case rel=>
          refine⟨k+1,HLT.out,by go_num,?_,HBX.out.trans ((HB7.out.trans ((below_ext w7 z8).mono HB7.out.size)).mono (HBX.out.size))⟩
          rw[bestsGo,HXE.out,HBK.out,HST2.out]
          exact best_keep (best_keep (o:=some xs) ⟨HXN2.out,HXO.out⟩ HB7.out) (below_ext w7 z8)
         case measure=>have:=HLT.out;simp only[intOf];omega
      ·have hg1: ¬(nb:Int)<(nx:Int):=by omega
       have hg2: ¬nx=nb:=by omega
       have HSTE:Hid (bestStep l (some bs) xs=if contraP (ofP l xs)then some xs else some bs):=by
        show _=_
        unfold bestStep
        dsimp only
        rw[HNX.out,HNB.out]
        have e1:decide (nb<nx)=false:=by simp;omega
        have e2:(nx==nb)=false:=by simp;omega
        rw[e1,e2]
        simp
       clear hgt
       cases hcx:contraP (ofP l xs)
       ·have HCX:=Lib.hid hcx
        have HST2:Hid (bestStep l (some bs) xs=some bs):=by show _=_;rw[HSTE.out,hcx];rfl
        clear hcx
        go_wp2_with (first
         |(go_at_call 52;go_must(refine(HCMP.out _ Bw).mono ?_);rintro e wq5 ⟨rfl,rfl⟩)
         |(go_at_call 54;go_must(refine(HSOME.out _ Bw).mono ?_);rintro e w7 ⟨v7,rfl,ho7,hb7⟩;obtain⟨A7,c7,rfl,hs7,hc7⟩:=ho7.sl recC_len;have HB7:=Lib.hid hb7;have HS7:=Lib.hid hs7;clear ho7 hb7 hs7)
         |(go_at_call 53;go_must(refine(contradicts_any (ofP l xs) A7 c7 _ hc7 (by have:=of_len l xs;have:=HNX.out;omega) HOX.out HS7.out).mono ?_);rw[HCX.out];rintro e wq8 ⟨rfl,z8,rfl⟩))
        go_round
        case rel=>
         refine⟨k+1,HLT.out,by go_num,?_,HBX.out.trans ((HB7.out.trans ((below_ext w7 z8).mono HB7.out.size)).mono (HBX.out.size))⟩
         rw[bestsGo,HXE.out,HBK.out,HST2.out]
         exact best_keep (best_keep HBE2.out HB7.out) (below_ext w7 z8)
        case measure=>have:=HLT.out;simp only[intOf];omega
       ·have HXN2:=Lib.hid (HXN.out hcx)
        have HCX:=Lib.hid hcx
        have HST2:Hid (bestStep l (some bs) xs=some xs):=by show _=_;rw[HSTE.out,hcx];rfl
        clear hcx
        go_wp2_with (first
         |(go_at_call 52;go_must(refine(HCMP.out _ Bw).mono ?_);rintro e wq5 ⟨rfl,rfl⟩)
         |(go_at_call 54;go_must(refine(HSOME.out _ Bw).mono ?_);rintro e w7 ⟨v7,rfl,ho7,hb7⟩;obtain⟨A7,c7,rfl,hs7,hc7⟩:=ho7.sl recC_len;have HB7:=Lib.hid hb7;have HS7:=Lib.hid hs7;clear ho7 hb7 hs7)
         |(go_at_call 53;go_must(refine(contradicts_any (ofP l xs) A7 c7 _ hc7 (by have:=of_len l xs;have:=HNX.out;omega) HOX.out HS7.out).mono ?_);rw[HCX.out];rintro e wq8 ⟨rfl,z8,rfl⟩))
        go_round
        case rel=>
         refine⟨k+1,HLT.out,by go_num,?_,HBX.out.trans ((HB7.out.trans ((below_ext w7 z8).mono HB7.out.size)).mono (HBX.out.size))⟩
         rw[bestsGo,HXE.out,HBK.out,HST2.out]
         exact best_keep (best_keep (o:=some xs) ⟨HXN2.out,HXO.out⟩ HB7.out) (below_ext w7 z8)
        case measure=>have:=HLT.out;simp only[intOf];omega
    ·have hkN:k=2^l.length:=by have:=HN.out;omega
     have hki: ¬(k:Int)<(N:Int):=by omega
     have HKN:=Lib.hid hkN
     clear hkN hB
     cases hob:bestsGo l k with
     |none=>
      rw[hob]at hbest
      have hv:u5= .slice none 0 0:=hbest
      subst hv
      have hRR:R=([],12):=by rw[HR.out,<-HKN.out,hob]
      have HRR:=Lib.hid hRR
      have hnn:=eql_nil
      clear hob hbest hRR
      go_wp2_with fail
      go_ret2
      rw[HRR.out]
      exact⟨none,0,rfl,Nat.le_refl _,Sl.nil,HB.out⟩
     |some bs=>
      have hne:=best_ne hob
      rw[hob]at hbest
      obtain⟨h1,h2⟩:=hbest
      obtain⟨SA,sc,rfl,h3,h4⟩:=h2.sl intC_len
      have hRR:R=(bs,0):=by rw[HR.out,<-HKN.out,hob]
      have HRR:=Lib.hid hRR
      have H3:=Lib.hid h3
      cases SA with
      |none=>
       exfalso
       obtain⟨b,off,h,_⟩:=h3 (List.length_pos_iff.2 h1)
       cases h
      |some sa=>
       have hnn:=eql_some sa bs.length sc
       clear hob h1 h2 h3 hRR hne
       go_wp2_with fail
       go_ret2
       rw[HRR.out]
       exact⟨some sa,sc,rfl,h4,H3.out,HB.out⟩
 ·have HR:Hid (R=([],checkRecsP l)):=by show _=_;rw[hR,if_pos (by simpa using h0)]
  generalize checkRecsP l=E at*
  clear hR
  go_enter Tryz.func20,Tryz.ntmps20
  go_wp2_with (go_at_call 50;go_must(refine(HCK.out _ Bw).mono ?_);rintro e wq ⟨rfl,z,rfl⟩)
  go_ret2
  rw[HR.out]
  exact⟨none,0,rfl,Nat.le_refl _,Sl.nil,Bw⟩
end Go.Proofs.YtmaidggpbihlgaaGreatDoor
namespace Go.Proofs.YtmaidggpbihlgaaGreatDoor
open Go.RowKit
def nAnn:ByteArray:=⟨#[97,110,110]⟩
def nBob:ByteArray:=⟨#[98,111,98]⟩
def nCat:ByteArray:=⟨#[99,97,116]⟩
def nDan:ByteArray:=⟨#[100,97,110]⟩
def nA1:ByteArray:=⟨#[97,49]⟩
def n0:ByteArray:=⟨#[]⟩
def famLaws:List Law:=[⟨0,false,1,4⟩,⟨50000,true,1,2⟩]
def famD (k:Nat):Deed:=match k with
 |0=>⟨6,0,n0,nAnn,[⟨nBob,0,0⟩],0,0⟩
 |1=>⟨6,0,n0,nAnn,[⟨nCat,0,0⟩],0,0⟩
 |2=>⟨7,0,n0,nAnn,[⟨nDan,0,0⟩],0,0⟩
 |3=>⟨0,100,nA1,n0,[⟨nAnn,1,1⟩],1,0⟩
 |_=>⟨8,200,n0,nAnn,[],0,0⟩
def famDeeds:List Deed:=[famD 0,famD 1,famD 2,famD 3,famD 4]
def fam1:St:=⟨[(nAnn,nBob)],[],[],[],[],[]⟩
def fam2:St:=⟨[(nAnn,nBob),(nAnn,nCat)],[],[],[],[],[]⟩
def fam3:St:=⟨[(nAnn,nBob),(nAnn,nCat)],[(nAnn,nDan)],[],[],[],[]⟩
def fam4:St:=⟨[(nAnn,nBob),(nAnn,nCat)],[(nAnn,nDan)],[],[],[],[⟨nA1,1,-1,[(nAnn,1)],[]⟩]⟩
def famParts:Parts:=[(nBob,Rat.divInt 3 8),(nCat,Rat.divInt 3 8),(nDan,Rat.divInt 1 4)]
def fam5:St:=⟨[(nAnn,nBob),(nAnn,nCat)],[(nAnn,nDan)],[nAnn],[],[],[⟨nA1,1,-1,famParts,[nAnn]⟩]⟩
theorem fam_laws:checkLawsP famLaws=0:=by kernel_rfl
open Classical in
theorem fam_0:nextD famLaws zeroSt 0 0 (famD 0)=(fam1,0):=by
 have h1:checkDeedP (famD 0)=0:=by kernel_rfl
 have h2: ¬Desc zeroSt (toName (famD 0)) (famD 0).frm:=desc_none rfl
 unfold nextD
 rw[h1]
 show(if(0 != 0)=true then _ else if decide (60<=0)=true then _ else if decide ((0:Int)<0)=true then _ else childP zeroSt (famD 0))=_
 unfold childP
 rw[decide_eq_false h2]
 rfl
open Classical in
theorem fam_1:nextD famLaws fam1 1 0 (famD 1)=(fam2,0):=by
 have h1:checkDeedP (famD 1)=0:=by kernel_rfl
 have h2: ¬Desc fam1 (toName (famD 1)) (famD 1).frm:=desc_none (by kernel_rfl)
 unfold nextD
 rw[h1]
 show(if(0 != 0)=true then _ else if decide (60<=1)=true then _ else if decide ((0:Int)<0)=true then _ else childP fam1 (famD 1))=_
 unfold childP
 rw[decide_eq_false h2]
 have e1:(childrenP fam1 (famD 1).frm).any (sameB (toName (famD 1)))=false:=by kernel_rfl
 have e2:decide (2<=(parentsP fam1 (toName (famD 1))).length)=false:=by kernel_rfl
 rw[e1,e2]
 rfl
theorem fam_2:nextD famLaws fam2 2 0 (famD 2)=(fam3,0):=by kernel_rfl
theorem fam_3:nextD famLaws fam3 3 0 (famD 3)=(fam4,0):=by kernel_rfl
theorem fam_4:nextD famLaws fam4 4 100 (famD 4)=(fam5,0):=by kernel_rfl
theorem fam_replay (upto:Int) (h:200<=upto):replayD famLaws famDeeds upto=(fam5,5,0):=by
 have q0:decide ((famD 0).day<=upto)=true:=by show decide ((0:Int)<=upto)=true;simp;omega
 have q1:decide ((famD 1).day<=upto)=true:=by show decide ((0:Int)<=upto)=true;simp;omega
 have q2:decide ((famD 2).day<=upto)=true:=by show decide ((0:Int)<=upto)=true;simp;omega
 have q3:decide ((famD 3).day<=upto)=true:=by show decide ((100:Int)<=upto)=true;simp;omega
 have q4:decide ((famD 4).day<=upto)=true:=by show decide ((200:Int)<=upto)=true;simp;omega
 have z: ¬((0:Int) != 0)=true:=by decide
 unfold replayD famDeeds
 rw[fam_laws,if_neg z]
 rw[replayGo,fam_0,if_neg z,q0,if_pos rfl]
 show replayGo famLaws upto _ fam1 fam1 1 0=_
 rw[replayGo,fam_1,if_neg z,q1,if_pos rfl]
 show replayGo famLaws upto _ fam2 fam2 2 0=_
 rw[replayGo,fam_2,if_neg z,q2,if_pos rfl]
 show replayGo famLaws upto _ fam3 fam3 3 0=_
 rw[replayGo,fam_3,if_neg z,q3,if_pos rfl]
 show replayGo famLaws upto _ fam4 fam4 4 100=_
 rw[replayGo,fam_4,if_neg z,q4,if_pos rfl]
 rfl
def recs5:List Rec:=[⟨1,nAnn,n0,n0,5,0,0,0⟩,⟨0,nBob,n0,n0,9,0,0,0⟩,⟨0,nAnn,n0,n0,7,0,0,0⟩,⟨3,nAnn,n0,nA1,4,0,1,2⟩,⟨3,nBob,n0,nA1,4,0,2,3⟩]
theorem recs5_ok:checkRecsP recs5=0:=by kernel_rfl
open Classical in
theorem contra_of {l:List Rec} (h1:pairP l=false) (h2: ∀x∈l,x.kind≠2) (h3: ¬TooMuch l):contraP l=false:=by
 unfold contraP
 have h4: ¬Circle l:=fun hc=>by
  obtain⟨x,hx,hk,_⟩:=circle_records.1 hc
  exact h2 x hx hk
 rw[h1,decide_eq_false h4,decide_eq_false h3]
 rfl
theorem few_one (x:Rec) (h:Rat.divInt x.num x.den<=1): ¬TooMuch [x]:=fun⟨p,d,hc⟩=>by
 rw[sumGo,sumGo]at hc
 split at hc
 ·grind
 ·rw[sumGo]at hc;grind
theorem one_ok {i:Nat} (hi:i<5):contraP (ofP recs5 [i])=false:=by
 have:i=0\/i=1\/i=2\/i=3\/i=4:=by omega
 rcases this with rfl|rfl|rfl|rfl|rfl
 ·exact contra_of (l:=[⟨1,nAnn,n0,n0,5,0,0,0⟩]) rfl (by simp) (few_one _ (by decide))
 ·exact contra_of (l:=[⟨0,nBob,n0,n0,9,0,0,0⟩]) rfl (by simp) (few_one _ (by decide))
 ·exact contra_of (l:=[⟨0,nAnn,n0,n0,7,0,0,0⟩]) rfl (by simp) (few_one _ (by decide))
 ·exact contra_of (l:=[⟨3,nAnn,n0,nA1,4,0,1,2⟩]) rfl (by simp) (few_one _ (by decide))
 ·exact contra_of (l:=[⟨3,nBob,n0,nA1,4,0,2,3⟩]) rfl (by simp) (few_one _ (by decide))
theorem two_ok:contraP (ofP recs5 [0,1])=false:=by
 refine contra_of (l:=[⟨1,nAnn,n0,n0,5,0,0,0⟩,⟨0,nBob,n0,n0,9,0,0,0⟩]) (by kernel_rfl) (by simp) ?_
 rintro⟨p,d,hc⟩
 rw[sumGo,if_neg (by simp),sumGo,if_neg (by simp),sumGo]at hc
 exact absurd hc (by decide)
theorem two_bad:contraP (ofP recs5 [0,2])=true:=by
 unfold contraP
 have h:pairP (ofP recs5 [0,2])=true:=by kernel_rfl
 rw[h]
 rfl
theorem recs5_least:IsLeast recs5 [0,2]:=by
 refine⟨⟨by simp,by simp[recs5]⟩,two_bad,fun t ht hc=> ?_⟩
 match t,ht,hc with
 | [],_,hc=>
   rw[show contraP (ofP recs5 [])=false from contra_nil]at hc
   cases hc
 | [i],ht,hc=>
   rw[one_ok (ht.2 i (by simp))]at hc
   cases hc
 | [i,j],ht,hc=>
   refine .inr ⟨rfl,?_⟩
   have h1:=(List.pairwise_cons.1 ht.1).1 j (by simp)
   rw[<-Bool.not_eq_true]
   intro hl
   simp only[lexB,Bool.or_eq_true,decide_eq_true_eq,Bool.and_eq_true,beq_iff_eq]at hl
   have e:i=0/\j=1:=by
    rcases hl with h|⟨h,h|h⟩
    ·omega
    ·omega
    ·exact absurd h.2 (by simp)
   rw[e.1,e.2,two_ok]at hc
   cases hc
 |i::j::k::r,_,_=>exact .inl (by simp)
end Go.Proofs.YtmaidggpbihlgaaGreatDoor
namespace Go.Proofs.YtmaidggpbihlgaaGreatDoor
open Go.RowKit
attribute [local go_sem] World.cell?_alloc_mark ext_size ext_cell ext_frozen lt_add_r lt_add_r2 lt_add_r3 lt_add_r4 lt_add_r5 lt_add_r6 lt_add_r7 lt_add_r8
set_option maxRecDepth 100000 in
set_option maxHeartbeats 2000000 in
theorem bIsName_any (s:ByteArray) (w:World) (hs:s.size<=100000):
 Calls Tryz.prog 59 #[.string s] w (Ret0 w (.bool (isNameR s))):=by
 go_enter Tryz.func59,Tryz.ntmps59
 by_cases h0:s.size=0
 ·have H0:=Lib.hid h0
  have h1:(s.size:Int)<1:=by omega
  clear h0
  go_wp2_with fail
  go_ret
  exact⟨by simp[isNameR,h1],rfl⟩
 have h0':0<s.size:=by omega
 have hg:(bytesI s).getD 0 0=(s[0].toNat:Int):=by simp only[bytesI,List.getD_eq_getElem?_getD,List.getElem?_map,Array.getElem?_toList];rw[Array.getElem?_eq_getElem h0'];rfl
 go_wp2_with (first
  |(go_at_call 102;refine(letter_any _ _).mono ?_;intro e wq hq;rcases Ret0.bools hq with⟨rfl,⟨hb,rfl⟩|⟨hb,rfl⟩⟩<;>clear hq)
  |(go_at_call 103;refine(digit_any _ _).mono ?_;intro e wq hq;rcases Ret0.bools hq with⟨rfl,⟨hb,rfl⟩|⟨hb,rfl⟩⟩<;>clear hq))
 ·have HG:=Lib.hid hg
  clear hg
  go_loop [3] (fun i=> ∃k:Nat,1<=k/\k<=s.size/\i= .int .i64 k/\nmGoR ((bytesI s).drop 1)=nmGoR ((bytesI s).drop k)) (fun i=>s.size-(intOf i).toNat)
  case atStart=>exact⟨1,by omega,by omega,rfl,rfl⟩
  case round=>
   obtain⟨k,hk1,hk,rfl,hf⟩:=hrel
   by_cases hlt:k<s.size
   ·rw[bytesI_drop s k hlt,show s.data[k]=s[k]from rfl]at hf
    have HF:=Lib.hid hf
    clear hf
    have HL:=Lib.hid hlt
    go_wp2_with (first
     |(go_at_call 102;refine(letter_any _ _).mono ?_;intro e wq hq;rcases Ret0.bools hq with⟨rfl,⟨hb,rfl⟩|⟨hb,rfl⟩⟩<;>clear hq)
     |(go_at_call 103;refine(digit_any _ _).mono ?_;intro e wq hq;rcases Ret0.bools hq with⟨rfl,⟨hb,rfl⟩|⟨hb,rfl⟩⟩<;>clear hq))
    all_goals first
     |(go_round
       case rel=>exact⟨k+1,by omega,by have:=HL.out;omega,by go_num,by rw[HF.out,nmGoR,if_neg (by simp[*])]⟩
       case measure=>have:=HL.out;simp[intOf];omega)
     |(go_ret
       exact⟨by rw[isNameR,HG.out,HF.out,nmGoR];simp[*],rfl⟩)
   ·have hnil:(bytesI s).drop k=[]:=List.drop_eq_nil_of_le (by rw[bytesI_len];omega)
    rw[hnil,nmGoR]at hf
    clear hnil
    have HF:=Lib.hid hf
    clear hf
    go_wp2_with fail
    go_ret
    exact⟨by rw[isNameR,HG.out,HF.out];simp[*],rfl⟩
 ·go_ret
  exact⟨by rw[isNameR,hg];simp[*],rfl⟩
 ·go_ret
  exact⟨by rw[isNameR,hg];simp[*],rfl⟩
end Go.Proofs.YtmaidggpbihlgaaGreatDoor
namespace Go.Proofs.YtmaidggpbihlgaaGreatDoor
open Go.RowKit
set_option maxRecDepth 100000 in
theorem nm5_same: ∀(l:List Int) (i:Nat),nmGo l (i+1)=nmGoR l
 | [],_=>rfl
 |c::l,i=>by
  rw[nmGo,nmGoR,nm5_same l (i+1)]
  have h:(!(letterI c)&&(i+1==0||(c != 45&&(decide (c<48)||decide (57<c)))))=(!letterI c&&!digitI c&&c != 45):=by
   cases letterI c
   ·have h0:(i+1==0)=false:=by simp
    rw[h0]
    by_cases h1:c=45
    ·subst h1;rfl
    ·have h2:(c != 45)=true:=by simpa using h1
     rw[h2,digitI]
     by_cases h3:c<48
     ·have h4: ¬48<=c:=by omega
      simp only[h3,h4,decide_true,decide_false,Bool.not_false,Bool.true_and,Bool.false_or,Bool.true_or,Bool.false_and]
     ·have h4:48<=c:=by omega
      by_cases h5:57<c
      ·have h6: ¬c<=57:=by omega
       simp only[h3,h4,h5,h6,decide_true,decide_false,Bool.not_false,Bool.true_and,Bool.false_or,Bool.true_or,Bool.false_and,Bool.or_true]
      ·have h6:c<=57:=by omega
       simp only[h3,h4,h5,h6,decide_true,decide_false,Bool.not_false,Bool.true_and,Bool.false_or,Bool.true_or,Bool.false_and,Bool.or_true,Bool.or_false,Bool.not_true]
   ·rfl
  rw[h]
theorem empty5_size (s:ByteArray):s.toList.isEmpty=decide ((s.size:Int)<1):=by
 have e:s.toList.length=s.size:=by rw[ByteArray.toList_eq,Array.length_toList];rfl
 generalize s.size=n at*
 cases hl:s.toList with
 |nil=>
  rw[hl]at e
  subst e
  rfl
 |cons a l=>
  rw[hl,List.length_cons]at e
  have h: ¬((n:Int)<1):=by omega
  rw[decide_eq_false h]
  rfl
theorem isName5_same (s:ByteArray):isNameP s=isNameR s:=by
 unfold isNameP isNameR
 rw[empty5_size]
 have hl:=bytesI_len s
 cases hb:bytesI s with
 |nil=>
  rw[hb]at hl
  have h0:(s.size:Int)<1:=by simp at hl;omega
  simp[h0]
 |cons c l=>
  rw[hb]at hl
  have h0: ¬(s.size:Int)<1:=by simp at hl;omega
  have h1:nmGo (c::l) 0=if !letterI c then false else nmGoR l:=by rw[nmGo,nm5_same];simp
  rw[h1]
  simp only[h0,decide_false,Bool.not_false,Bool.true_and,Bool.false_or,List.getD_cons_zero,List.drop_succ_cons,List.drop_zero]
  cases letterI c<;>by_cases h2:(12:Int)<s.size<;>simp[h2]<;>omega
end Go.Proofs.YtmaidggpbihlgaaGreatDoor
namespace Go.Proofs.YtmaidggpbihlgaaGreatDoor
open Go.RowKit Go.Shelf
attribute [local go_sem] World.cell?_alloc_mark ext_size ext_cell ext_frozen lt_add_r lt_add_r2 lt_add_r3 lt_add_r4 lt_add_r5 lt_add_r6 lt_add_r7 lt_add_r8
attribute [local go_sem] ext_setCell alloc_setCell_lt
set_option maxRecDepth 100000 in
set_option maxHeartbeats 2000000 in
theorem r5IsDay_any (n:Int) (w:World):Calls Tryz.prog 57 #[.int .i64 n] w (Ret0 w (.bool (isDayP n))):=by
 go_enter Tryz.func57,Tryz.ntmps57
 go_wp2_with (go_at_call 34;go_must(refine(bwithin_any _ _ _ _).mono ?_);rintro e wq ⟨rfl,rfl⟩)
 go_ret
 exact⟨rfl,rfl⟩
set_option maxRecDepth 100000 in
set_option maxHeartbeats 2000000 in
theorem rIsShare_any (a b:Int) (w:World):Calls Tryz.prog 58 #[.agg #[.int .i64 a, .int .i64 b]] w (Ret w (.bool (isShareP 16 a b))):=by
 go_enter Tryz.func58,Tryz.ntmps58
 by_cases h1:inR b 1 16=true
 ·by_cases h2:inR a 0 b=true
  ·have x1:1<=b/\b<=16:=by simpa[inR]using h1
   have x2:0<=a/\a<=b:=by simpa[inR]using h2
   have g1:a.natAbs<=4611686018427387904:=by omega
   have g2:b.natAbs<=4611686018427387904:=by omega
   have G1:=Lib.hid g1
   have G2:=Lib.hid g2
   have hv:isShareP 16 a b=((Int.gcd a b:Int)==1):=by
    unfold isShareP
    simp only[x1.1,x1.2,x2.1,x2.2,decide_true,Bool.true_and]
    rw[Bool.eq_iff_iff,beq_iff_eq,beq_iff_eq]
    omega
   have HV:=Lib.hid hv
   clear g1 g2 hv x1 x2
   go_wp2_with (first
    |(go_at_call 34;refine(bwithin_any _ _ _ _).mono ?_;rintro e wq ⟨rfl,rfl⟩)
    |(go_at_call 88;refine(rGcd_any _ _ _ G1.out G2.out).mono ?_;rintro e w1 ⟨rfl,z1,rfl⟩))
   all_goals go_ret
   all_goals exact Ret.of (bool_eq (by rw[HV.out])) Bw
  ·have hv:isShareP 16 a b=false:=by
    unfold isShareP
    simp[inR]at h1 h2⊢
    omega
   go_wp2_with (go_at_call 34;refine(bwithin_any _ _ _ _).mono ?_;rintro e wq ⟨rfl,rfl⟩)
   all_goals go_ret
   all_goals exact Ret.of (bool_eq (by rw[hv])) Bw
 ·have hv:isShareP 16 a b=false:=by
   unfold isShareP
   simp[inR]at h1⊢
   omega
  go_wp2_with (go_at_call 34;refine(bwithin_any _ _ _ _).mono ?_;rintro e wq ⟨rfl,rfl⟩)
  all_goals go_ret
  all_goals exact Ret.of (bool_eq (by rw[hv])) Bw
end Go.Proofs.YtmaidggpbihlgaaGreatDoor
