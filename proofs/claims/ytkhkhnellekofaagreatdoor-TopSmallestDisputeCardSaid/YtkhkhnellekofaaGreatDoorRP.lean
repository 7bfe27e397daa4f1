/- Walk of the reference's CheckRecords. -/
import Derived.Test.YtkhkhnellekofaaGreatDoorA3
import Derived.Test.YtkhkhnellekofaaGreatDoorUB
set_option linter.unusedSimpArgs false
set_option linter.unusedVariables false
namespace Go.Proofs.YtkhkhnellekofaaGreatDoor
open Go.RowKit Go.Shelf
attribute [local go_sem] World.cell?_alloc_mark ext_size ext_cell ext_frozen lt_add_r lt_add_r2 lt_add_r3 lt_add_r4 lt_add_r5 lt_add_r6 lt_add_r7 lt_add_r8
attribute [local go_sem] ext_setCell alloc_setCell_lt
noncomputable def leastR (l:List Rec):List Nat×Int:=
 if checkRecsP l != 0 then([],checkRecsP l)else if decide (12<l.length)then([],8)else match bestsGo l (2^l.length)with
  |none=>([],12)
  |some s=>(s,0)
def IntsPost (w:World) (r:List Nat×Int) (e:Ending) (w':World):Prop:=
 ∃A c,e= .returned (.tuple #[.slice A r.1.length c, .int .i64 r.2])/\r.1.length<=c/\Sl w' 1 intC A r.1/\Below w.heap.size w w'
theorem first_ok {α:Type} {f:α->Int}: ∀ {l:List α},firstErr f l=0-> ∀x∈l,f x=0
 | [],_,_,h=>by cases h
 |y::l,h,x,hx=>by
  unfold firstErr at h
  split at h
  ·rename_i h0
   rw[h]at h0
   exact absurd h0 (by decide)
  ·rename_i h0
   rcases List.mem_cons.1 hx with rfl|hx
   ·simpa using h0
   ·exact first_ok h x hx
theorem recs_ok {l:List Rec} (h:checkRecsP l=0):l.length<=40/\ ∀x∈l,checkRecP x=0:=by
 unfold checkRecsP at h
 split at h
 ·simp at h
 ·rename_i hc
  exact⟨by simpa using hc,first_ok h⟩
theorem of_ok {l:List Rec} {set:List Nat} (h: ∀x∈l,checkRecP x=0): ∀x∈ofP l set,checkRecP x=0:=fun x hx=>h x (of_mem x hx)
theorem best_ne {l:List Rec}: ∀ {k:Nat} {s:List Nat},bestsGo l k=some s->s≠[]
 |0,s,h=>by rw[bestsGo]at h;cases h
 |k+1,s,h=>by
  rw[bestsGo]at h
  have hx: ∀x,contraP (ofP l x)=true->x≠[]:=fun x hc e=>by
   rw[e]at hc
   have:contraP (ofP l [])=false:=contra_nil
   rw[this]at hc
   cases hc
  cases hb:bestsGo l k with
  |none=>
   rw[hb]at h
   unfold bestStep at h
   dsimp only at h
   split at h
   ·rename_i hc
    simp only[Option.some.injEq]at h
    rw[<-h];exact hx _ hc
   ·cases h
  |some b=>
   rw[hb]at h
   unfold bestStep at h
   dsimp only at h
   have hbn:=best_ne hb
   split at h
   ·simp only[Option.some.injEq]at h
    rw[<-h];exact hbn
   ·split at h
    ·rename_i hc
     simp only[Option.some.injEq]at h
     rw[<-h];exact hx _ hc
    ·simp only[Option.some.injEq]at h
     rw[<-h];exact hbn
theorem bits_len (n k:Nat):(bitsP n k).length<=n:=by
 unfold bitsP
 exact Nat.le_trans (List.length_filter_le _ _) (by simp)
theorem best_keep {W W':World} {base n:Nat} {v:Value} {o:Option (List Nat)} (h:BestAt W base v o) (hB:Below n W W') (hn:W.heap.size<=n:=by first|exact Nat.le_refl _|omega):BestAt W' base v o:=by
 cases o with
 |none=>exact h
 |some s=>exact⟨h.1,h.2.keep hB hn⟩
theorem shl_any (n:Nat) (h:n<=12):wrap64 ((2:Int)^n)=((2^n:Nat):Int):=by
 have h2:2^n<=4096:=Nat.pow_le_pow_right (n:=2) (by decide) h
 have e:((2:Int)^n)=((2^n:Nat):Int):=by rw[Int.natCast_pow];rfl
 rw[e]
 generalize 2^n=m at*
 unfold wrap64
 omega
theorem neq_nil (W:World):(binOp .neq 25 (.slice none 0 0) (.slice none 0 0)).run Tryz.prog W= .ok (.bool false) W:=by kernel_rfl
theorem neq_some (a:Addr) (n c:Nat) (W:World):(binOp .neq 25 (.slice (some a) n c) (.slice none 0 0)).run Tryz.prog W= .ok (.bool true) W:=by kernel_rfl
theorem eql_nil (W:World):(binOp .eql 25 (.slice none 0 0) (.slice none 0 0)).run Tryz.prog W= .ok (.bool true) W:=by kernel_rfl
theorem eql_some (a:Addr) (n c:Nat) (W:World):(binOp .eql 25 (.slice (some a) n c) (.slice none 0 0)).run Tryz.prog W= .ok (.bool false) W:=by kernel_rfl
set_option maxRecDepth 100000 in
set_option maxHeartbeats 2000000 in
theorem least_any (l:List Rec) (A:Option Addr) (c:Nat) (w:World) (hc:l.length<=c) (hz:recLens l) (hT:TzTab w) (hS:Sl w 8 Rec.cells A l):
 Calls Tryz.prog 10 #[.slice A l.length c] w (IntsPost w (leastR l)):=by
 have HS:=Lib.hid hS
 have HCK:=Lib.hid (fun W (hB:Below w.heap.size w W)=>checkRecords_any l A l.length c W rfl hc hz (hS.keep hB))
 obtain⟨R,hR⟩: ∃R,R=leastR l:=⟨_,rfl⟩
 rw[<-hR]
 unfold leastR at hR
 have HT:=Lib.hid hT
 clear hS hT hz
 by_cases h0:checkRecsP l=0
 ·have hok:=recs_ok h0
  rw[if_neg (by simp[h0])]at hR
  rw[h0]at HCK
  by_cases h12:12<l.length
  ·rw[if_pos (by simpa using h12)]at hR
   subst hR
   have h12i:(12:Int)<(l.length:Int):=by omega
   clear hok h0
   go_enter Tryz.func10,Tryz.ntmps10
   go_wp2_with (go_at_call 18;go_must(refine(HCK.out _ Bw).mono ?_);rintro e wq ⟨rfl,z,rfl⟩)
   go_ret2
   exact⟨none,0,rfl,Nat.le_refl _,Sl.nil,Bw⟩
  ·rw[if_neg (by simpa using h12)]at hR
   have h12i: ¬(12:Int)<(l.length:Int):=by omega
   have HOK:=Lib.hid hok.2
   have HR:=Lib.hid hR
   have h40:=hok.1
   clear hok h0 hR
   go_enter Tryz.func10,Tryz.ntmps10
   go_upto_region 7 with(go_at_call 18;go_must(refine(HCK.out _ Bw).mono ?_);rintro e wq ⟨rfl,z,rfl⟩)
   have hsh:=shl_any l.length (by omega)
   have hp1:1<=2^l.length:=Nat.one_le_two_pow
   have hp2:2^l.length<=4096:=Nat.pow_le_pow_right (n:=2) (by decide) (show l.length<=12 by omega)
   obtain⟨N,hN⟩: ∃N,N=2^l.length:=⟨_,rfl⟩
   rw[<-hN]at hsh hp1 hp2
   have HN:=Lib.hid hN
   clear hN
   go_upto_region 8 with fail
   rw[hsh]
   clear hsh
   go_loopw [5,19] (fun v i wr=> ∃k:Nat,k<=N/\i= .int .i64 k/\BestAt wr w.heap.size v (bestsGo l k)/\Below w.heap.size w wr) (fun _ i _=>N-(intOf i).toNat)
   case atStart=>exact⟨0,Nat.zero_le _,rfl,rfl,Bw⟩
   case round=>
    obtain⟨k,hk,rfl,hbest,hB⟩:=hrel
    have HB:=Lib.hid hB
    have hbs:=hB.size
    by_cases hlt:k<N
    ·have HEL:=Lib.hid (elements_any l.length k wr (by omega) (by rw[<-HN.out];exact hlt) (HT.out.keep hB))
     have hxl:=bits_len l.length k
     have HIN:=Lib.hid (bits_set l.length k).2
     have HLT:=Lib.hid hlt
     have hki:(k:Int)<(N:Int):=by omega
     obtain⟨ob,hob⟩: ∃ob,bestsGo l k=ob:=⟨_,rfl⟩
     rw[hob]at hbest
     have hbn: ∀s,ob=some s->s≠[]:=fun s e=>best_ne (hob.trans e)
     have HBN:=Lib.hid hbn
     have HBK:=Lib.hid hob
     have HBE:=Lib.hid hbest
     obtain⟨xs,hxs⟩: ∃xs,bitsP l.length k=xs:=⟨_,rfl⟩
     rw[hxs]at HEL HIN hxl
     have HXE:=Lib.hid hxs
     have HOX:=Lib.hid (of_ok (set:=xs) HOK.out)
     clear hob hB hlt hbest hbn hxs
     go_upto_region 11 with(go_at_call 36;go_must(refine HEL.out.mono ?_);rintro e wq ⟨vx,rfl,hxo,hxb⟩)
     obtain⟨XA,xc,rfl,hXS,hxc⟩:=hxo.sl intC_len
     have HXO:=Lib.hid (hxo.base_le hbs)
     have HBX:=Lib.hid (HB.out.trans (hxb.mono hbs))
     have HBE2:=Lib.hid (best_keep HBE.out hxb)
     have HSOME:=Lib.hid (fun W (hW:Below wq.heap.size wq W)=>some_any l xs A c XA xc W hc hxc (by omega) HIN.out (HS.out.keep (HBX.out.trans (hW.mono HBX.out.size))) (hXS.keep hW))
     have HXS:=Lib.hid hXS
     have HXN:Hid (contraP (ofP l xs)=true->xs≠[]):=fun hc e=>by
      rw[e]at hc
      rw[show contraP (ofP l [])=false from contra_nil]at hc
      cases hc
     clear hxo hXS hxb HEL
     generalize hnx:xs.length=nx at*
     have HNX:=Lib.hid hnx
     clear hnx
     cases ob with
     |none=>
      have hv:u5= .slice none 0 0:=HBE2.out
      subst hv
      have hnn:=neq_nil
      cases hcx:contraP (ofP l xs)
      ·have HCX:=Lib.hid hcx
       clear hcx
       go_wp2_with (first
        |(go_at_call 37;go_must(refine(HCMP.out _ Bw).mono ?_);rintro e wq5 ⟨rfl,rfl⟩)
        |(go_at_call 39;go_must(refine(HSOME.out _ Bw).mono ?_);rintro e w7 ⟨v7,rfl,ho7,hb7⟩;obtain⟨A7,c7,rfl,hs7,hc7⟩:=ho7.sl recC_len;have HB7:=Lib.hid hb7;have HS7:=Lib.hid hs7;clear ho7 hb7 hs7)
        |(go_at_call 38;go_must(refine(contradicts_any (ofP l xs) A7 c7 _ hc7 (by have:=of_len l xs;have:=HNX.out;omega) HOX.out HS7.out).mono ?_);rw[HCX.out];rintro e wq8 ⟨rfl,z8,rfl⟩))
       go_round
       case rel=>
        refine⟨k+1,HLT.out,by go_num,?_,HBX.out.trans ((HB7.out.trans ((below_ext w7 z8).mono HB7.out.size)).mono (HBX.out.size))⟩
        rw[bestsGo,HXE.out,HBK.out]
        have hst:bestStep l (none) xs=none:=by
         unfold bestStep
         dsimp only
         simp[HCX.out]
        rw[hst]
        exact rfl
       case measure=>have:=HLT.out;simp only[intOf];omega
      ·have HXN2:=Lib.hid (HXN.out hcx)
       have HCX:=Lib.hid hcx
       clear hcx
       go_wp2_with (first
        |(go_at_call 37;go_must(refine(HCMP.out _ Bw).mono ?_);rintro e wq5 ⟨rfl,rfl⟩)
        |(go_at_call 39;go_must(refine(HSOME.out _ Bw).mono ?_);rintro e w7 ⟨v7,rfl,ho7,hb7⟩;obtain⟨A7,c7,rfl,hs7,hc7⟩:=ho7.sl recC_len;have HB7:=Lib.hid hb7;have HS7:=Lib.hid hs7;clear ho7 hb7 hs7)
        |(go_at_call 38;go_must(refine(contradicts_any (ofP l xs) A7 c7 _ hc7 (by have:=of_len l xs;have:=HNX.out;omega) HOX.out HS7.out).mono ?_);rw[HCX.out];rintro e wq8 ⟨rfl,z8,rfl⟩))
       go_round
       case rel=>
        refine⟨k+1,HLT.out,by go_num,?_,HBX.out.trans ((HB7.out.trans ((below_ext w7 z8).mono HB7.out.size)).mono (HBX.out.size))⟩
        rw[bestsGo,HXE.out,HBK.out]
        have hst:bestStep l (none) xs=some xs:=by
         unfold bestStep
         dsimp only
         simp[HCX.out]
        rw[hst]
        exact best_keep (best_keep (o:=some xs) ⟨HXN2.out,HXO.out⟩ HB7.out) (below_ext w7 z8)
       case measure=>have:=HLT.out;simp only[intOf];omega
     |some bs=>
      have hv: ∃sa sc,u5= .slice (some sa) bs.length sc/\bs.length<=sc/\Sl wq 1 intC (some sa) bs:=by
       obtain⟨h1,h2⟩:=HBE2.out
       obtain⟨SA,sc,e,h3,h4⟩:=h2.sl intC_len
       cases SA with
       |none=>
        exfalso
        obtain⟨b,off,h,_⟩:=h3 (List.length_pos_iff.2 h1)
        cases h
       |some sa=>exact⟨sa,sc,e,h4,h3⟩
      obtain⟨sa,sc,rfl,hsc,hSS⟩:=hv
      have HCMP:=Lib.hid (fun W (hW:Below wq.heap.size wq W)=>compare_any xs bs XA (some sa) xc sc W (by rw[HNX.out];exact hxc) hsc (by have:=HNX.out;omega) (HXS.out.keep hW) (hSS.keep hW))
      rw[HNX.out]at HCMP
      have hnn:=neq_some sa bs.length sc
      obtain⟨C,hC⟩: ∃C,lexC xs bs=C:=⟨_,rfl⟩
      rw[hC]at HCMP
      have hlb:xs.length=bs.length->decide (0<C)=lexB bs xs:=fun h=>by rw[<-hC];exact lexC_lex h
      generalize hnb:bs.length=nb at*
      have HNB:=Lib.hid hnb
      have HLB:=Lib.hid hlb
      clear hSS hC hnb hlb
      rcases Nat.lt_trichotomy nb nx with hgt|hgt|hgt
      ·have hg1:(nb:Int)<(nx:Int):=by omega
       have HG:=Lib.hid hgt
       clear hgt
       go_wp2_with fail
       go_round
       case rel=>
        refine⟨k+1,HLT.out,by go_num,?_,HBX.out⟩
        rw[bestsGo,HXE.out,HBK.out]
        have hst:bestStep l (some bs) xs=some bs:=by
         unfold bestStep
         dsimp only
         rw[HNX.out,HNB.out]
         simp[HG.out]
        rw[hst]
        exact HBE2.out
       case measure=>have:=HLT.out;simp only[intOf];omega
      ·subst hgt
       have hg1: ¬(nb:Int)<(nb:Int):=by omega
       by_cases hC0:0<C
       ·go_wp2_with (go_at_call 37;go_must(refine(HCMP.out _ Bw).mono ?_);rintro e wq5 ⟨rfl,rfl⟩)
        go_round
        case rel=>
         refine⟨k+1,HLT.out,by go_num,?_,HBX.out⟩
         rw[bestsGo,HXE.out,HBK.out]
         have hst:bestStep l (some bs) xs=some bs:=by
          have h1:=HLB.out (by rw[HNX.out])
          unfold bestStep
          dsimp only
          rw[HNX.out,HNB.out,<-h1]
          simp[hC0]
         rw[hst]
         exact HBE2.out
        case measure=>have:=HLT.out;simp only[intOf];omega
       ·have hC1:decide (0<C)=false:=by simpa using hC0
        have HC1:=Lib.hid hC1
        have HSTE:Hid (bestStep l (some bs) xs=if contraP (ofP l xs)then some xs else some bs):=by
         have h1:=HLB.out (by rw[HNX.out])
         show _=_
         unfold bestStep
         dsimp only
         rw[HNX.out,HNB.out,<-h1,HC1.out]
         simp
        clear hC1
        cases hcx:contraP (ofP l xs)
        ·have HCX:=Lib.hid hcx
         have HST2:Hid (bestStep l (some bs) xs=some bs):=by show _=_;rw[HSTE.out,hcx];rfl
         clear hcx
         go_wp2_with (first
          |(go_at_call 37;go_must(refine(HCMP.out _ Bw).mono ?_);rintro e wq5 ⟨rfl,rfl⟩)
          |(go_at_call 39;go_must(refine(HSOME.out _ Bw).mono ?_);rintro e w7 ⟨v7,rfl,ho7,hb7⟩;obtain⟨A7,c7,rfl,hs7,hc7⟩:=ho7.sl recC_len;have HB7:=Lib.hid hb7;have HS7:=Lib.hid hs7;clear ho7 hb7 hs7)
          |(go_at_call 38;go_must(refine(contradicts_any (ofP l xs) A7 c7 _ hc7 (by have:=of_len l xs;have:=HNX.out;omega) HOX.out HS7.out).mono ?_);rw[HCX.out];rintro e wq8 ⟨rfl,z8,rfl⟩))
         go_round
         case rel=>
          refine⟨k+1,HLT.out,by go_num,?_,HBX.out.trans ((HB7.out.trans ((below_ext w7 z8).mono HB7.out.size)).mono (HBX.out.size))⟩
          rw[bestsGo,HXE.out,HBK.out,HST2.out]
          exact best_keep (best_keep HBE2.out HB7.out) (below_ext w7 z8)
         case measure=>have:=HLT.out;simp only[intOf];omega
        ·have HXN2:=Lib.hid (HXN.out hcx)
         have HCX:=Lib.hid hcx
         have HST2:Hid (bestStep l (some bs) xs=some xs):=by show _=_;rw[HSTE.out,hcx];rfl
         clear hcx
         go_wp2_with (first
          |(go_at_call 37;go_must(refine(HCMP.out _ Bw).mono ?_);rintro e wq5 ⟨rfl,rfl⟩)
          |(go_at_call 39;go_must(refine(HSOME.out _ Bw).mono ?_);rintro e w7 ⟨v7,rfl,ho7,hb7⟩;obtain⟨A7,c7,rfl,hs7,hc7⟩:=ho7.sl recC_len;have HB7:=Lib.hid hb7;have HS7:=Lib.hid hs7;clear ho7 hb7 hs7)
          |(go_at_call 38;go_must(refine(contradicts_any (ofP l xs) A7 c7 _ hc7 (by have:=of_len l xs;have:=HNX.out;omega) HOX.out HS7.out).mono ?_);rw[HCX.out];rintro e wq8 ⟨rfl,z8,rfl⟩))
         go_round
         case rel=>
          refine⟨k+1,HLT.out,by go_num,?_,HBX.out.trans ((HB7.out.trans ((below_ext w7 z8).mono HB7.out.size)).mono (HBX.out.size))⟩
          rw[bestsGo,HXE.out,HBK.out,HST2.out]
          exact best_keep (best_keep (o:=some xs) ⟨HXN2.out,HXO.out⟩ HB7.out) (below_ext w7 z8)
         case measure=>have:=HLT.out;simp only[intOf];omega
      ·have hg1: ¬(nb:Int)<(nx:Int):=by omega
       have hg2: ¬nx=nb:=by omega
       have HSTE:Hid (bestStep l (some bs) xs=if contraP (ofP l xs)then some xs else some bs):=by
        show _=_
        unfold bestStep
        dsimp only
        rw[HNX.out,HNB.out]
        have e1:decide (nb<nx)=false:=by simp;omega
        have e2:(nx==nb)=false:=by simp;omega
        rw[e1,e2]
        simp
       clear hgt
       cases hcx:contraP (ofP l xs)
       ·have HCX:=Lib.hid hcx
        have HST2:Hid (bestStep l (some bs) xs=some bs):=by show _=_;rw[HSTE.out,hcx];rfl
        clear hcx
        go_wp2_with (first
         |(go_at_call 37;go_must(refine(HCMP.out _ Bw).mono ?_);rintro e wq5 ⟨rfl,rfl⟩)
         |(go_at_call 39;go_must(refine(HSOME.out _ Bw).mono ?_);rintro e w7 ⟨v7,rfl,ho7,hb7⟩;obtain⟨A7,c7,rfl,hs7,hc7⟩:=ho7.sl recC_len;have HB7:=Lib.hid hb7;have HS7:=Lib.hid hs7;clear ho7 hb7 hs7)
         |(go_at_call 38;go_must(refine(contradicts_any (ofP l xs) A7 c7 _ hc7 (by have:=of_len l xs;have:=HNX.out;omega) HOX.out HS7.out).mono ?_);rw[HCX.out];rintro e wq8 ⟨rfl,z8,rfl⟩))
        go_round
        case rel=>
         refine⟨k+1,HLT.out,by go_num,?_,HBX.out.trans ((HB7.out.trans ((below_ext w7 z8).mono HB7.out.size)).mono (HBX.out.size))⟩
         rw[bestsGo,HXE.out,HBK.out,HST2.out]
         exact best_keep (best_keep HBE2.out HB7.out) (below_ext w7 z8)
        case measure=>have:=HLT.out;simp only[intOf];omega
       ·have HXN2:=Lib.hid (HXN.out hcx)
        have HCX:=Lib.hid hcx
        have HST2:Hid (bestStep l (some bs) xs=some xs):=by show _=_;rw[HSTE.out,hcx];rfl
        clear hcx
        go_wp2_with (first
         |(go_at_call 37;go_must(refine(HCMP.out _ Bw).mono ?_);rintro e wq5 ⟨rfl,rfl⟩)
         |(go_at_call 39;go_must(refine(HSOME.out _ Bw).mono ?_);rintro e w7 ⟨v7,rfl,ho7,hb7⟩;obtain⟨A7,c7,rfl,hs7,hc7⟩:=ho7.sl recC_len;have HB7:=Lib.hid hb7;have HS7:=Lib.hid hs7;clear ho7 hb7 hs7)
         |(go_at_call 38;go_must(refine(contradicts_any (ofP l xs) A7 c7 _ hc7 (by have:=of_len l xs;have:=HNX.out;omega) HOX.out HS7.out).mono ?_);rw[HCX.out];rintro e wq8 ⟨rfl,z8,rfl⟩))
        go_round
        case rel=>
         refine⟨k+1,HLT.out,by go_num,?_,HBX.out.trans ((HB7.out.trans ((below_ext w7 z8).mono HB7.out.size)).mono (HBX.out.size))⟩
         rw[bestsGo,HXE.out,HBK.out,HST2.out]
         exact best_keep (best_keep (o:=some xs) ⟨HXN2.out,HXO.out⟩ HB7.out) (below_ext w7 z8)
        case measure=>have:=HLT.out;simp only[intOf];omega
    ·have hkN:k=2^l.length:=by have:=HN.out;omega
     have hki: ¬(k:Int)<(N:Int):=by omega
     have HKN:=Lib.hid hkN
     clear hkN hB
     cases hob:bestsGo l k with
     |none=>
      rw[hob]at hbest
      have hv:u5= .slice none 0 0:=hbest
      subst hv
      have hRR:R=([],12):=by rw[HR.out,<-HKN.out,hob]
      have HRR:=Lib.hid hRR
      have hnn:=eql_nil
      clear hob hbest hRR
      go_wp2_with fail
      go_ret2
      rw[HRR.out]
      exact⟨none,0,rfl,Nat.le_refl _,Sl.nil,HB.out⟩
     |some bs=>
      have hne:=best_ne hob
      rw[hob]at hbest
      obtain⟨h1,h2⟩:=hbest
      obtain⟨SA,sc,rfl,h3,h4⟩:=h2.sl intC_len
      have hRR:R=(bs,0):=by rw[HR.out,<-HKN.out,hob]
      have HRR:=Lib.hid hRR
      have H3:=Lib.hid h3
      cases SA with
      |none=>
       exfalso
       obtain⟨b,off,h,_⟩:=h3 (List.length_pos_iff.2 h1)
       cases h
      |some sa=>
       have hnn:=eql_some sa bs.length sc
       clear hob h1 h2 h3 hRR hne
       go_wp2_with fail
       go_ret2
       rw[HRR.out]
       exact⟨some sa,sc,rfl,h4,H3.out,HB.out⟩
 ·have HR:Hid (R=([],checkRecsP l)):=by show _=_;rw[hR,if_pos (by simpa using h0)]
  generalize checkRecsP l=E at*
  clear hR
  go_enter Tryz.func10,Tryz.ntmps10
  go_wp2_with (go_at_call 18;go_must(refine(HCK.out _ Bw).mono ?_);rintro e wq ⟨rfl,z,rfl⟩)
  go_ret2
  rw[HR.out]
  exact⟨none,0,rfl,Nat.le_refl _,Sl.nil,Bw⟩
end Go.Proofs.YtkhkhnellekofaaGreatDoor
namespace Go.Proofs.YtkhkhnellekofaaGreatDoor
open Go.RowKit Go.Shelf
attribute [local go_sem] World.cell?_alloc_mark ext_size ext_cell ext_frozen lt_add_r lt_add_r2 lt_add_r3 lt_add_r4 lt_add_r5 lt_add_r6 lt_add_r7 lt_add_r8
attribute [local go_sem] ext_setCell alloc_setCell_lt
theorem rec_any_err {x:Rec} {l:List Rec} {R:Int} (h:R=firstErr checkRecP (x::l)):R=if rRecP x != 0 then rRecP x else firstErr checkRecP l:=by
 rw[h,firstErr,rRec_eq]
set_option maxRecDepth 100000 in
set_option maxHeartbeats 4000000 in
theorem rCheckRecs_any (l:List Rec) (A:Option Addr) (c:Nat) (w:World) (hc:l.length<=c) (hz:recLens l) (hS:Sl w 8 Rec.cells A l):Calls Tryz.prog 9 #[.slice A l.length c] w (Ret w (.int .i64 (checkRecsP l))):=by
 have HS:=Lib.hid hS
 have HZ:=Lib.hid hz
 obtain⟨R,hR⟩: ∃R,R=checkRecsP l:=⟨_,rfl⟩
 rw[<-hR]
 unfold checkRecsP at hR
 clear hS hz
 by_cases h40:40<l.length
 ·rw[if_pos (by simpa using h40)]at hR
  subst hR
  have h4:(40:Int)<(l.length:Int):=by omega
  go_enter Tryz.func9,Tryz.ntmps9
  go_wp2_with fail
  go_ret
  exact Ret.of rfl Bw
 ·rw[if_neg (by simpa using h40)]at hR
  have h4: ¬(40:Int)<(l.length:Int):=by omega
  have HR:=Lib.hid hR
  clear hR
  go_enter Tryz.func9,Tryz.ntmps9
  go_wp2_with fail
  go_loopw [3] (fun i wr=> ∃k:Nat,k<=l.length/\i= .int .i64 k/\Hid (R=firstErr checkRecP (l.drop k))/\Below w.heap.size w wr) (fun i _=>l.length-(intOf i).toNat)
  case atStart=>exact⟨0,Nat.zero_le _,rfl,by rw[List.drop_zero];exact HR.out,Below.refl _ _⟩
  case round=>
   obtain⟨k,hk,rfl,HX,hB⟩:=hrel
   have hbs:=hB.size
   by_cases hlt:k<l.length
   ·obtain⟨b,off,hA,hb,hcc⟩:=(HS.out.keep hB).at hlt
    have hx:=HX.out
    rw[List.drop_eq_getElem_cons hlt]at hx
    have hx:=rec_any_err hx
    have hl3:=HZ.out _ (List.getElem_mem hlt)
    have HX2:=Lib.hid hx
    have HLT:=Lib.hid hlt
    generalize l[k]=x at*
    obtain⟨kd,nm,ot,pl,dy,tl,nu,de⟩:=x
    have i0:wr.cell? ⟨b,off+k*8,none⟩=some (.int .i64 kd):=hcc 0 _ rfl
    have i1:wr.cell? ⟨b,off+k*8+1,none⟩=some (.string nm):=hcc 1 _ rfl
    have i2:wr.cell? ⟨b,off+k*8+2,none⟩=some (.string ot):=hcc 2 _ rfl
    have i3:wr.cell? ⟨b,off+k*8+3,none⟩=some (.string pl):=hcc 3 _ rfl
    have i4:wr.cell? ⟨b,off+k*8+4,none⟩=some (.int .i64 dy):=hcc 4 _ rfl
    have i5:wr.cell? ⟨b,off+k*8+5,none⟩=some (.int .i64 tl):=hcc 5 _ rfl
    have i6:wr.cell? ⟨b,off+k*8+6,none⟩=some (.int .i64 nu):=hcc 6 _ rfl
    have i7:wr.cell? ⟨b,off+k*8+7,none⟩=some (.int .i64 de):=hcc 7 _ rfl
    have hki:(k:Int)<(l.length:Int):=by omega
    have hk0:(0:Int)<=(k:Int):=by omega
    have hkc:(k:Int)<=(c:Int):=by omega
    obtain⟨l1,l2,l3⟩:=hl3
    simp only at l1 l2 l3
    have HB:=Lib.hid hB
    subst hA
    clear hcc hx hlt hB
    cases hk9:inR kd 0 4
    ·have HE:Hid (R=15):=by show _=_;rw[HX2.out];simp[rRecP,hk9]
     go_wp2_with (go_at_call 33;go_must(refine(bwithin_any _ _ _ _).mono ?_);rintro e wq ⟨rfl,rfl⟩;rw[hk9])
     go_ret
     exact Ret.of (int_eq (by rw[HE.out])) (HB.out.trans (Below.mono (B:=wr.heap.size) Bw HB.out.size))
    ·go_upto_region 9 with(go_at_call 33;go_must(refine(bwithin_any _ _ _ _).mono ?_);rintro e wq ⟨rfl,rfl⟩;rw[hk9])
     cases hd1:isDayP dy
     ·have HE:Hid (R=2):=by show _=_;rw[HX2.out];simp[rRecP,hk9,hd1]
      go_wp2_with (go_at_call 23;go_must(refine(r5IsDay_any _ _).mono ?_);rintro e wq ⟨rfl,rfl⟩;rw[hd1])
      go_ret
      exact Ret.of (int_eq (by rw[HE.out])) (HB.out.trans (Below.mono (B:=wr.heap.size) Bw HB.out.size))
     ·cases hd2:isDayP tl
      ·have HE:Hid (R=2):=by show _=_;rw[HX2.out];simp[rRecP,hk9,hd1,hd2]
       go_wp2_with (go_at_call 23;go_must(refine(r5IsDay_any _ _).mono ?_);rintro e wq ⟨rfl,rfl⟩;(first|rw[hd1]|rw[hd2]))
       go_ret
       exact Ret.of (int_eq (by rw[HE.out])) (HB.out.trans (Below.mono (B:=wr.heap.size) Bw HB.out.size))
      ·go_upto_region 11 with(go_at_call 23;go_must(refine(r5IsDay_any _ _).mono ?_);rintro e wq ⟨rfl,rfl⟩;(first|rw[hd1]|rw[hd2]))
       obtain⟨WZ,hWZ⟩: ∃WZ,WZ=wr.alloc (.cells #[.int .i64 kd, .string nm, .string ot, .string pl, .int .i64 dy, .int .i64 tl, .int .i64 nu, .int .i64 de] 65):=⟨_,rfl⟩
       have g0:WZ.heap[wr.heap.size]?=some (.cells #[.int .i64 kd, .string nm, .string ot, .string pl, .int .i64 dy, .int .i64 tl, .int .i64 nu, .int .i64 de] 65):=by rw[hWZ];exact J_new _ _ _ rfl
       have hBZ:Below wr.heap.size wr WZ:=by rw[hWZ];repeat(first|exact B_refl|exact Below.refl _ _|assumption|with_reducible refine B_alloc ?_ _|with_reducible refine B_ext ?_ _|with_reducible refine B_drew ?_|with_reducible refine B_drewN ?_ _|with_reducible refine B_set ?_ (by simp;omega) _)
       rw[<-hWZ]
       have HBZ:=Lib.hid hBZ
       have d0:WZ.cell? ⟨wr.heap.size,0,none⟩=some (.int .i64 kd):=by simp only[World.cell?,g0];rfl
       have d1:WZ.cell? ⟨wr.heap.size,1,none⟩=some (.string nm):=by simp only[World.cell?,g0];rfl
       have d2:WZ.cell? ⟨wr.heap.size,2,none⟩=some (.string ot):=by simp only[World.cell?,g0];rfl
       have d3:WZ.cell? ⟨wr.heap.size,3,none⟩=some (.string pl):=by simp only[World.cell?,g0];rfl
       have d4:WZ.cell? ⟨wr.heap.size,4,none⟩=some (.int .i64 dy):=by simp only[World.cell?,g0];rfl
       have d5:WZ.cell? ⟨wr.heap.size,5,none⟩=some (.int .i64 tl):=by simp only[World.cell?,g0];rfl
       have d6:WZ.cell? ⟨wr.heap.size,6,none⟩=some (.int .i64 nu):=by simp only[World.cell?,g0];rfl
       have d7:WZ.cell? ⟨wr.heap.size,7,none⟩=some (.int .i64 de):=by simp only[World.cell?,g0];rfl
       have hwz:wr.heap.size<WZ.heap.size:=blk_lt g0
       clear hWZ hBZ i0 i1 i2 i3 i4 i5 i6 i7 g0
       go_cut [62]from 63 to 76 (fun v wc=>v= .bool (!nameOr nm||!nameOr ot||!nameOr pl)/\WZ=wc)
       case first=>
        cases z1:noB nm
        ·have y1:nm.toList.isEmpty=false:=z1
         have w1: ¬nm.toList=[]:=by simpa using y1
         cases hp1:isNameP nm
         ·have hq1:isNameR nm=false:=by rw[<-isName5_same,hp1]
          go_wp2_with (first
                        |(go_at_call 33;go_must(refine(bwithin_any _ _ _ _).mono ?_);rintro e wq ⟨rfl,rfl⟩)
                        |(go_at_call 23;go_must(refine(r5IsDay_any _ _).mono ?_);rintro e wq ⟨rfl,rfl⟩)
                        |(go_at_call 34;go_must(refine(bIsName_any _ _ (by assumption)).mono ?_);rintro e wq ⟨rfl,rfl⟩;(first|rw[hq1]|rw[hq2]|rw[hq3])))
          all_goals go_meet
          all_goals exact⟨bool_eq (by simp[nameOr, *]),rfl⟩
         ·have hq1:isNameR nm=true:=by rw[<-isName5_same,hp1]
          cases z2:noB ot
          ·have y2:ot.toList.isEmpty=false:=z2
           have w2: ¬ot.toList=[]:=by simpa using y2
           cases hp2:isNameP ot
           ·have hq2:isNameR ot=false:=by rw[<-isName5_same,hp2]
            go_wp2_with (first
                          |(go_at_call 33;go_must(refine(bwithin_any _ _ _ _).mono ?_);rintro e wq ⟨rfl,rfl⟩)
                          |(go_at_call 23;go_must(refine(r5IsDay_any _ _).mono ?_);rintro e wq ⟨rfl,rfl⟩)
                          |(go_at_call 34;go_must(refine(bIsName_any _ _ (by assumption)).mono ?_);rintro e wq ⟨rfl,rfl⟩;(first|rw[hq1]|rw[hq2]|rw[hq3])))
            all_goals go_meet
            all_goals exact⟨bool_eq (by simp[nameOr, *]),rfl⟩
           ·have hq2:isNameR ot=true:=by rw[<-isName5_same,hp2]
            cases z3:noB pl
            ·have y3:pl.toList.isEmpty=false:=z3
             have w3: ¬pl.toList=[]:=by simpa using y3
             cases hp3:isNameP pl
             ·have hq3:isNameR pl=false:=by rw[<-isName5_same,hp3]
              go_wp2_with (first
                            |(go_at_call 33;go_must(refine(bwithin_any _ _ _ _).mono ?_);rintro e wq ⟨rfl,rfl⟩)
                            |(go_at_call 23;go_must(refine(r5IsDay_any _ _).mono ?_);rintro e wq ⟨rfl,rfl⟩)
                            |(go_at_call 34;go_must(refine(bIsName_any _ _ (by assumption)).mono ?_);rintro e wq ⟨rfl,rfl⟩;(first|rw[hq1]|rw[hq2]|rw[hq3])))
              all_goals go_meet
              all_goals exact⟨bool_eq (by simp[nameOr, *]),rfl⟩
             ·have hq3:isNameR pl=true:=by rw[<-isName5_same,hp3]
              go_wp2_with (first
                            |(go_at_call 33;go_must(refine(bwithin_any _ _ _ _).mono ?_);rintro e wq ⟨rfl,rfl⟩)
                            |(go_at_call 23;go_must(refine(r5IsDay_any _ _).mono ?_);rintro e wq ⟨rfl,rfl⟩)
                            |(go_at_call 34;go_must(refine(bIsName_any _ _ (by assumption)).mono ?_);rintro e wq ⟨rfl,rfl⟩;(first|rw[hq1]|rw[hq2]|rw[hq3])))
              all_goals go_meet
              all_goals exact⟨bool_eq (by simp[nameOr, *]),rfl⟩
            ·have y3:pl.toList.isEmpty=true:=z3
             have w3:pl.toList=[]:=by simpa using y3
             go_wp2_with (first
                           |(go_at_call 33;go_must(refine(bwithin_any _ _ _ _).mono ?_);rintro e wq ⟨rfl,rfl⟩)
                           |(go_at_call 23;go_must(refine(r5IsDay_any _ _).mono ?_);rintro e wq ⟨rfl,rfl⟩)
                           |(go_at_call 34;go_must(refine(bIsName_any _ _ (by assumption)).mono ?_);rintro e wq ⟨rfl,rfl⟩;(first|rw[hq1]|rw[hq2]|rw[hq3])))
             all_goals go_meet
             all_goals exact⟨bool_eq (by simp[nameOr, *]),rfl⟩
          ·have y2:ot.toList.isEmpty=true:=z2
           have w2:ot.toList=[]:=by simpa using y2
           cases z3:noB pl
           ·have y3:pl.toList.isEmpty=false:=z3
            have w3: ¬pl.toList=[]:=by simpa using y3
            cases hp3:isNameP pl
            ·have hq3:isNameR pl=false:=by rw[<-isName5_same,hp3]
             go_wp2_with (first
                           |(go_at_call 33;go_must(refine(bwithin_any _ _ _ _).mono ?_);rintro e wq ⟨rfl,rfl⟩)
                           |(go_at_call 23;go_must(refine(r5IsDay_any _ _).mono ?_);rintro e wq ⟨rfl,rfl⟩)
                           |(go_at_call 34;go_must(refine(bIsName_any _ _ (by assumption)).mono ?_);rintro e wq ⟨rfl,rfl⟩;(first|rw[hq1]|rw[hq2]|rw[hq3])))
             all_goals go_meet
             all_goals exact⟨bool_eq (by simp[nameOr, *]),rfl⟩
            ·have hq3:isNameR pl=true:=by rw[<-isName5_same,hp3]
             go_wp2_with (first
                           |(go_at_call 33;go_must(refine(bwithin_any _ _ _ _).mono ?_);rintro e wq ⟨rfl,rfl⟩)
                           |(go_at_call 23;go_must(refine(r5IsDay_any _ _).mono ?_);rintro e wq ⟨rfl,rfl⟩)
                           |(go_at_call 34;go_must(refine(bIsName_any _ _ (by assumption)).mono ?_);rintro e wq ⟨rfl,rfl⟩;(first|rw[hq1]|rw[hq2]|rw[hq3])))
             all_goals go_meet
             all_goals exact⟨bool_eq (by simp[nameOr, *]),rfl⟩
           ·have y3:pl.toList.isEmpty=true:=z3
            have w3:pl.toList=[]:=by simpa using y3
            go_wp2_with (first
                          |(go_at_call 33;go_must(refine(bwithin_any _ _ _ _).mono ?_);rintro e wq ⟨rfl,rfl⟩)
                          |(go_at_call 23;go_must(refine(r5IsDay_any _ _).mono ?_);rintro e wq ⟨rfl,rfl⟩)
                          |(go_at_call 34;go_must(refine(bIsName_any _ _ (by assumption)).mono ?_);rintro e wq ⟨rfl,rfl⟩;(first|rw[hq1]|rw[hq2]|rw[hq3])))
            all_goals go_meet
            all_goals exact⟨bool_eq (by simp[nameOr, *]),rfl⟩
        ·have y1:nm.toList.isEmpty=true:=z1
         have w1:nm.toList=[]:=by simpa using y1
         cases z2:noB ot
         ·have y2:ot.toList.isEmpty=false:=z2
          have w2: ¬ot.toList=[]:=by simpa using y2
          cases hp2:isNameP ot
          ·have hq2:isNameR ot=false:=by rw[<-isName5_same,hp2]
           go_wp2_with (first
                         |(go_at_call 33;go_must(refine(bwithin_any _ _ _ _).mono ?_);rintro e wq ⟨rfl,rfl⟩)
                         |(go_at_call 23;go_must(refine(r5IsDay_any _ _).mono ?_);rintro e wq ⟨rfl,rfl⟩)
                         |(go_at_call 34;go_must(refine(bIsName_any _ _ (by assumption)).mono ?_);rintro e wq ⟨rfl,rfl⟩;(first|rw[hq1]|rw[hq2]|rw[hq3])))
           all_goals go_meet
           all_goals exact⟨bool_eq (by simp[nameOr, *]),rfl⟩
          ·have hq2:isNameR ot=true:=by rw[<-isName5_same,hp2]
           cases z3:noB pl
           ·have y3:pl.toList.isEmpty=false:=z3
            have w3: ¬pl.toList=[]:=by simpa using y3
            cases hp3:isNameP pl
            ·have hq3:isNameR pl=false:=by rw[<-isName5_same,hp3]
             go_wp2_with (first
                           |(go_at_call 33;go_must(refine(bwithin_any _ _ _ _).mono ?_);rintro e wq ⟨rfl,rfl⟩)
                           |(go_at_call 23;go_must(refine(r5IsDay_any _ _).mono ?_);rintro e wq ⟨rfl,rfl⟩)
                           |(go_at_call 34;go_must(refine(bIsName_any _ _ (by assumption)).mono ?_);rintro e wq ⟨rfl,rfl⟩;(first|rw[hq1]|rw[hq2]|rw[hq3])))
             all_goals go_meet
             all_goals exact⟨bool_eq (by simp[nameOr, *]),rfl⟩
            ·have hq3:isNameR pl=true:=by rw[<-isName5_same,hp3]
             go_wp2_with (first
                           |(go_at_call 33;go_must(refine(bwithin_any _ _ _ _).mono ?_);rintro e wq ⟨rfl,rfl⟩)
                           |(go_at_call 23;go_must(refine(r5IsDay_any _ _).mono ?_);rintro e wq ⟨rfl,rfl⟩)
                           |(go_at_call 34;go_must(refine(bIsName_any _ _ (by assumption)).mono ?_);rintro e wq ⟨rfl,rfl⟩;(first|rw[hq1]|rw[hq2]|rw[hq3])))
             all_goals go_meet
             all_goals exact⟨bool_eq (by simp[nameOr, *]),rfl⟩
           ·have y3:pl.toList.isEmpty=true:=z3
            have w3:pl.toList=[]:=by simpa using y3
            go_wp2_with (first
                          |(go_at_call 33;go_must(refine(bwithin_any _ _ _ _).mono ?_);rintro e wq ⟨rfl,rfl⟩)
                          |(go_at_call 23;go_must(refine(r5IsDay_any _ _).mono ?_);rintro e wq ⟨rfl,rfl⟩)
                          |(go_at_call 34;go_must(refine(bIsName_any _ _ (by assumption)).mono ?_);rintro e wq ⟨rfl,rfl⟩;(first|rw[hq1]|rw[hq2]|rw[hq3])))
            all_goals go_meet
            all_goals exact⟨bool_eq (by simp[nameOr, *]),rfl⟩
         ·have y2:ot.toList.isEmpty=true:=z2
          have w2:ot.toList=[]:=by simpa using y2
          cases z3:noB pl
          ·have y3:pl.toList.isEmpty=false:=z3
           have w3: ¬pl.toList=[]:=by simpa using y3
           cases hp3:isNameP pl
           ·have hq3:isNameR pl=false:=by rw[<-isName5_same,hp3]
            go_wp2_with (first
                          |(go_at_call 33;go_must(refine(bwithin_any _ _ _ _).mono ?_);rintro e wq ⟨rfl,rfl⟩)
                          |(go_at_call 23;go_must(refine(r5IsDay_any _ _).mono ?_);rintro e wq ⟨rfl,rfl⟩)
                          |(go_at_call 34;go_must(refine(bIsName_any _ _ (by assumption)).mono ?_);rintro e wq ⟨rfl,rfl⟩;(first|rw[hq1]|rw[hq2]|rw[hq3])))
            all_goals go_meet
            all_goals exact⟨bool_eq (by simp[nameOr, *]),rfl⟩
           ·have hq3:isNameR pl=true:=by rw[<-isName5_same,hp3]
            go_wp2_with (first
                          |(go_at_call 33;go_must(refine(bwithin_any _ _ _ _).mono ?_);rintro e wq ⟨rfl,rfl⟩)
                          |(go_at_call 23;go_must(refine(r5IsDay_any _ _).mono ?_);rintro e wq ⟨rfl,rfl⟩)
                          |(go_at_call 34;go_must(refine(bIsName_any _ _ (by assumption)).mono ?_);rintro e wq ⟨rfl,rfl⟩;(first|rw[hq1]|rw[hq2]|rw[hq3])))
            all_goals go_meet
            all_goals exact⟨bool_eq (by simp[nameOr, *]),rfl⟩
          ·have y3:pl.toList.isEmpty=true:=z3
           have w3:pl.toList=[]:=by simpa using y3
           go_wp2_with (first
                         |(go_at_call 33;go_must(refine(bwithin_any _ _ _ _).mono ?_);rintro e wq ⟨rfl,rfl⟩)
                         |(go_at_call 23;go_must(refine(r5IsDay_any _ _).mono ?_);rintro e wq ⟨rfl,rfl⟩)
                         |(go_at_call 34;go_must(refine(bIsName_any _ _ (by assumption)).mono ?_);rintro e wq ⟨rfl,rfl⟩;(first|rw[hq1]|rw[hq2]|rw[hq3])))
           all_goals go_meet
           all_goals exact⟨bool_eq (by simp[nameOr, *]),rfl⟩
       case rest=>
        obtain⟨rfl,rfl⟩:=hcut
        cases hn9:(!nameOr nm||!nameOr ot||!nameOr pl)
        ·have hk4:0<=kd/\kd<=4:=by
          unfold inR at hk9
          simpa using hk9
         have HRT:=Lib.hid (fun W=>rRight_any ⟨kd,nm,ot,pl,dy,tl,nu,de⟩ W hk4)
         unfold Rec.v at HRT
         cases hrt:rightRP ⟨kd,nm,ot,pl,dy,tl,nu,de⟩
         ·have HE:Hid (R=3):=by show _=_;rw[HX2.out];simp[rRecP,hk9,hd1,hd2,hn9,hrt]
          rw[hrt]at HRT
          go_wp2_with (go_at_call 35;go_must(refine(HRT.out _).mono ?_);rintro e wq ⟨rfl,z,rfl⟩)
          go_ret
          exact Ret.of (int_eq (by rw[HE.out])) (HB.out.trans (Below.mono (B:=wr.heap.size) (B_ext HBZ.out z) HB.out.size))
         ·rw[hrt]at HRT
          by_cases h44:kd=4
          ·subst h44
           by_cases hto:tl<=dy
           ·have HE:Hid (R=9):=by show _=_;rw[HX2.out];simp[rRecP,hk9,hd1,hd2,hn9,hrt,hto]
            go_wp2_with (go_at_call 35;go_must(refine(HRT.out _).mono ?_);rintro e wq ⟨rfl,z,rfl⟩)
            go_ret
            exact Ret.of (int_eq (by rw[HE.out])) (HB.out.trans (Below.mono (B:=wr.heap.size) (B_ext HBZ.out z) HB.out.size))
           ·have HE:Hid (R=firstErr checkRecP (l.drop (k+1))):=by show _=_;rw[HX2.out];simp[rRecP,hk9,hd1,hd2,hn9,hrt,hto]
            go_wp2_with (go_at_call 35;go_must(refine(HRT.out _).mono ?_);rintro e wq ⟨rfl,z,rfl⟩)
            go_round
            case rel=>exact⟨k+1,HLT.out,by go_num,HE.out,HB.out.trans (Below.mono (B:=wr.heap.size) (B_ext HBZ.out z) HB.out.size)⟩
            case measure=>have:=HLT.out;simp only[intOf];omega
          ·have h45:(kd==4)=false:=by simpa using h44
           have HE:Hid (R=firstErr checkRecP (l.drop (k+1))):=by show _=_;rw[HX2.out];simp[rRecP,hk9,hd1,hd2,hn9,hrt,h45]
           go_wp2_with (go_at_call 35;go_must(refine(HRT.out _).mono ?_);rintro e wq ⟨rfl,z,rfl⟩)
           go_round
           case rel=>exact⟨k+1,HLT.out,by go_num,HE.out,HB.out.trans (Below.mono (B:=wr.heap.size) (B_ext HBZ.out z) HB.out.size)⟩
           case measure=>have:=HLT.out;simp only[intOf];omega
        ·have HE:Hid (R=4):=by show _=_;rw[HX2.out];simp[rRecP,hk9,hd1,hd2,hn9]
         go_wp2_with fail
         go_ret
         exact Ret.of (int_eq (by rw[HE.out])) (HB.out.trans (Below.mono (B:=wr.heap.size) HBZ.out HB.out.size))
   ·have hki: ¬(k:Int)<(l.length:Int):=by omega
    have hx:=HX.out
    rw[List.drop_of_length_le (by omega),firstErr]at hx
    have HE:=Lib.hid hx
    have HB:=Lib.hid hB
    clear hx hB
    go_wp2_with fail
    go_ret
    exact Ret.of (int_eq (by rw[HE.out])) (HB.out.trans (Below.mono (B:=wr.heap.size) Bw HB.out.size))
end Go.Proofs.YtkhkhnellekofaaGreatDoor
