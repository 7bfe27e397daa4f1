/- Walk of chapter 5's circle. -/
import Derived.Test.YtmaidggpbihlgaaGreatDoorO9
import Derived.Test.YtmaidggpbihlgaaGreatDoorE3
import Derived.Test.YtmaidggpbihlgaaGreatDoorE5
import Derived.Test.YtmaidggpbihlgaaGreatDoorE1
import Derived.Test.YtmaidggpbihlgaaGreatDoorJH
set_option linter.unusedSimpArgs false
set_option linter.unusedVariables false
namespace Go.Proofs.YtmaidggpbihlgaaGreatDoor
open Go.RowKit Go.Shelf
attribute [local go_sem] World.cell?_alloc_mark ext_size ext_cell ext_frozen lt_add_r lt_add_r2 lt_add_r3 lt_add_r4 lt_add_r5 lt_add_r6 lt_add_r7 lt_add_r8
attribute [local go_sem] ext_setCell alloc_setCell_lt
def ParAt (W:World) (base b:Nat) (l:List Rec):Prop:=
 ∃m,MapS W b ekS (fun v:Value=>v) m/\(∀n,RowIs W base m n (parR l n))/\(rowBlocks m).Nodup/\(m.map (·.1)).Nodup
theorem par_keep {W W':World} {base b n:Nat} {l:List Rec} (h:ParAt W base b l) (hB:Below n W W') (hn:W.heap.size<=n:=by first|exact Nat.le_refl _|omega):ParAt W' base b l:=by
 obtain⟨m,h1,h2,h3,h4⟩:=h
 exact⟨m,h1.below hB hn,fun x=>(h2 x).keep hB hn,h3,h4⟩
theorem par_new (w:World) (base:Nat):ParAt (w.alloc (.map #[] 0)) base w.heap.size []:=
 ⟨[],MapS.new w,fun n=> .inl ⟨rfl,rfl⟩,by simp[rowBlocks],by simp⟩
theorem par_put {base b:Nat} {W w9:World} {m:List (ByteArray×Value)} {l:List Rec} {x:Rec} {va v1:Value} (hk:x.kind=2)
 (k1:MapS W b ekS (fun v:Value=>v) m) (k3: ∀n,RowIs W base m n (parR l n)) (k5:(rowBlocks m).Nodup) (k6:(m.map (·.1)).Nodup)
 (ha:OwnS W base 9 1 sC va (parR l x.name)) (ha': ∀g,blkOf va=some g->mget eqS x.name m=some va)
 (o1:OwnS w9 base 9 1 sC v1 (parR l x.name++[x.other])) (b1: ∀g,blkOf v1=some g->blkOf va=some g\/W.heap.size<=g)
 (m1:MapS w9 b ekS (fun v:Value=>v) (mput eqS x.name v1 m)) (hF: ∀k,k<W.heap.size->k≠b->blkOf va≠some k->w9.heap[k]?=W.heap[k]?):ParAt w9 base b (l++[x]):=by
 obtain⟨ec,cc,hc⟩:=mapS_block k1
 refine⟨_,m1,fun n=> ?_,?_,(mput_keys _ _ _ k6).1⟩
 ·unfold RowIs
  rw[mget_mput]
  cases hn:sameB n x.name
  ·rw[parR_other hn]
   simp only[Bool.false_eq_true,if_false]
   rcases k3 n with h|⟨v,h1,h2⟩
   ·exact .inl h
   ·refine .inr ⟨v,h1,h2.same fun g cur hg hh=>hF g (blk_lt hh) (fun e=>by subst e;rw[hc]at hh;simp at hh) (fun e=> ?_)⟩
    exact rows_apart hn k5 h1 (ha' g e) hg e
  ·have e:=same_iff.1 hn
   subst e
   rw[parR_put hk]
   exact .inr ⟨v1,rfl,o1⟩
 ·refine(rows_put (k:=x.name) (v:=v1) k5 (fun g hg=> ?_)).1
  rcases b1 g hg with h|h
  ·exact .inl ⟨va,ha' g h,h⟩
  ·refine .inr fun hm=> ?_
   obtain⟨e,he,hge⟩:=mem_rows.1 hm
   have h1:=mem_mget k6 (show(e.1,e.2)∈m from he)
   rcases k3 e.1 with⟨h2,_⟩|⟨v,h2,h3⟩
   ·rw[h2]at h1;cases h1
   ·rw[h2]at h1
    simp only[Option.some.injEq]at h1
    rw[h1]at h3
    have:=(h3.ge g hge).2
    omega
open Classical in
set_option maxRecDepth 100000 in
set_option maxHeartbeats 2000000 in
theorem circle_any (l:List Rec) (A:Option Addr) (c:Nat) (w:World) (hc:l.length<=c) (hl:l.length<=1000) (hS:Sl w 8 Rec.cells A l):
 Calls Tryz.prog 99 #[.slice A l.length c] w (Ret w (.bool (decide (Circle l)))):=by
 have hmm:= @run_makeMap Tryz.prog
 have HS:=Lib.hid hS
 clear hS
 obtain⟨R,hR⟩: ∃R,R=decide (Circle l):=⟨_,rfl⟩
 rw[<-hR]
 have HR:=Lib.hid hR
 clear hR
 go_enter Tryz.func99,Tryz.ntmps99
 go_upto_region 3 with fail
 clear hmm
 go_loopw [13] (fun i wr=> ∃k:Nat,k<=l.length/\i= .int .i64 k/\ParAt wr w.heap.size w.heap.size (l.take k)/\Below w.heap.size w wr) (fun i _=>l.length-(intOf i).toNat)
 case atStart=>exact⟨0,Nat.zero_le _,rfl,by rw[List.take_zero];exact par_new w _,Bw⟩
 case round=>
  obtain⟨k,hk,rfl,hpar,hB⟩:=hrel
  by_cases hlt:k<l.length
  ·obtain⟨b,off,hA,hb,hcc⟩:=(HS.out.keep hB).at hlt
   have hsn:=take_snoc5 hlt
   have hpl: ∀n,(parR (l.take k) n).length<=1000:=fun n=>by
    have:=parR_len (l.take k) n
    rw[List.length_take]at this
    omega
   have HLT:=Lib.hid hlt
   have HSN:=Lib.hid hsn
   generalize l[k]=x at*
   generalize l.take k=pre at*
   clear hsn
   obtain⟨kd,nm,ot,pl,dy,tl,nu,de⟩:=x
   have i0:wr.cell? ⟨b,off+k*8,none⟩=some (.int .i64 kd):=hcc 0 _ rfl
   have i1:wr.cell? ⟨b,off+k*8+1,none⟩=some (.string nm):=hcc 1 _ rfl
   have i2:wr.cell? ⟨b,off+k*8+2,none⟩=some (.string ot):=hcc 2 _ rfl
   have i3:wr.cell? ⟨b,off+k*8+3,none⟩=some (.string pl):=hcc 3 _ rfl
   have i4:wr.cell? ⟨b,off+k*8+4,none⟩=some (.int .i64 dy):=hcc 4 _ rfl
   have i5:wr.cell? ⟨b,off+k*8+5,none⟩=some (.int .i64 tl):=hcc 5 _ rfl
   have i6:wr.cell? ⟨b,off+k*8+6,none⟩=some (.int .i64 nu):=hcc 6 _ rfl
   have i7:wr.cell? ⟨b,off+k*8+7,none⟩=some (.int .i64 de):=hcc 7 _ rfl
   have hki:(k:Int)<(l.length:Int):=by omega
   have hk0:(0:Int)<=(k:Int):=by omega
   have hkc:(k:Int)<=(c:Int):=by omega
   have hbs:=hB.size
   have HB:=Lib.hid hB
   have HPA:=Lib.hid hpar
   subst hA
   clear hcc hpar hB
   by_cases hkd:kd=2
   ·subst hkd
    obtain⟨m,r1,r3,r5,r6⟩:=HPA.out
    obtain⟨KA,kc,hg1,hO1,hG1⟩:=row_own (r3 nm)
    obtain⟨WZ,hWZ⟩: ∃WZ,WZ=wr.alloc (.cells #[.int .i64 2, .string nm, .string ot, .string pl, .int .i64 dy, .int .i64 tl, .int .i64 nu, .int .i64 de] 67):=⟨_,rfl⟩
    have hBZ:Below wr.heap.size wr WZ:=by rw[hWZ];repeat(first|exact B_refl|exact Below.refl _ _|assumption|with_reducible refine B_alloc ?_ _|with_reducible refine B_ext ?_ _|with_reducible refine B_drew ?_|with_reducible refine B_drewN ?_ _|with_reducible refine B_set ?_ (by simp;omega) _)
    have hzx:WZ.heap[wr.heap.size]?=some (.cells #[.int .i64 2, .string nm, .string ot, .string pl, .int .i64 dy, .int .i64 tl, .int .i64 nu, .int .i64 de] 67):=by rw[hWZ];exact J_new _ _ _ rfl
    have HLA:=Lib.hid (fun(W:World) (hM:MapS W w.heap.size ekS (fun v:Value=>v) m)=>show(Instr.lookup 88 (.map (some w.heap.size)) (.string nm) false).run Tryz.prog W= .ok (.slice KA (parR pre nm).length kc) W from by
     have:=run_lookup mapSS hM.at nm
     rw[<-hg1]
     exact this)
    have hkl:=hpl nm
    have HR3:=Lib.hid r3
    have HR5:=Lib.hid r5
    have HR6:=Lib.hid r6
    have HG1:=Lib.hid hG1
    have HO1:=Lib.hid (hO1.keep hBZ)
    have HOW:=Lib.hid hO1
    have HR1:=Lib.hid (r1.below hBZ)
    have HRW:=Lib.hid r1
    have HBZ:=Lib.hid hBZ
    have hbz:=hBZ.size
    generalize hks:parR pre nm=ks at*
    have HKS:=Lib.hid hks
    have HSF:=Lib.hid (fun(W:World) (h:Fr2 WZ W (.slice KA ks.length kc) (.slice KA ks.length kc))=>show(false=true\/(W.cell? ⟨wr.heap.size,1,none⟩=some (.string nm)/\W.cell? ⟨wr.heap.size,2,none⟩=some (.string ot)/\(Instr.lookup 88 (.map (some w.heap.size)) (.string nm) false).run Tryz.prog W= .ok (.slice KA ks.length kc) W)) from by
     have hC2:=h.cells HO1.out HO1.out hzx (fun cur e=>by simp at e)
     exact .inr ⟨by simp only[World.cell?,hC2];rfl,by simp only[World.cell?,hC2];rfl,HLA.out W (h.mapS HO1.out HO1.out HR1.out)⟩)
    have HFR:=Lib.hid (Fr2.of_below (va:= .slice KA ks.length kc) (vb:= .slice KA ks.length kc) (Below.refl WZ.heap.size WZ))
    clear r1 r3 r5 r6 hO1 hG1 hg1 hBZ hks hpl hzx
    go_upto_region 6 with fail
    rw[<-hWZ]
    clear hWZ i0 i1 i2 i3 i4 i5 i6 i7
    refine wp_region_mark 11 (fun bb w'=>bb=true\/(w'.cell? ⟨wr.heap.size,1,none⟩=some (.string nm)/\w'.cell? ⟨wr.heap.size,2,none⟩=some (.string ot)/\(Instr.lookup 88 (.map (some w.heap.size)) (.string nm) false).run Tryz.prog w'= .ok (.slice KA ks.length kc) w')) (by kernel_rfl) ?hS ?hrest
    case hS=>exact HSF.out _ (HFR.out.below Bw)
    case hrest=>
     intro hHeld
     refine TkM 0 ?_
     refine TkM 1 ?_
     refine TkM 2 ?_
     refine TkM 3 ?_
     refine TkM 4 ?_
     refine TkM 5 ?_
     refine TkM 6 ?_
     refine TkM 7 ?_
     refine TkM 8 ?_
     refine wpAnyM_ready (rs:=[9]) (by kernel_rfl) (by simp) (AllReadyM.cons (List.getElem?_toArray.trans rfl) false (by kernel_rfl) (fun K hK=> ?_) AllReadyM.nil)
     go_simp
     refine hK.out _ _ ?_ (fun hHeld=> ?_)
     focus((try dsimp only);exact HSF.out _ (HFR.out.below Bw))
     clear hK K
     try simp only[Act.put,List.setIfInBounds_toArray,List.set_cons_zero,List.set_cons_succ]
     refine wpAnyM_ready (rs:=[10]) (by kernel_rfl) (by simp) (AllReadyM.cons (List.getElem?_toArray.trans rfl) false (by kernel_rfl) (fun K hK=> ?_) AllReadyM.nil)
     refine step_append_S (v:= .slice KA ks.length kc) (n:=ks.length) (m:=1) rfl _ _ rfl elStr5 sC_len sC_one rfl (xs:=ks) (ys:=[ot]) (HO1.out.keep (n:=WZ.heap.size) Bw) rfl rfl rfl (sl_one (J_new _ _ _ (by simp))) (by simp[maxLen];omega) (by omega) (by(try simp);omega) ?_
     intro v3 w3 h1 h2 h3
     have FR3:Fr2 WZ w3 (.slice KA ks.length kc) (.slice KA ks.length kc):=(HFR.out.below Bw).row h2 (fun j hj=> .inl hj)
     have s3:=h2.size
     simp only[World.size_alloc,World.size_drew]at s3 h3
     refine hK.out _ _ ?_ (fun hHeld=> ?_)
     focus((try dsimp only);exact HSF.out _ FR3)
     clear hK K
     try simp only[Act.put,List.setIfInBounds_toArray,List.set_cons_zero,List.set_cons_succ]
     refine wpAnyM_ready (rs:=[11]) (by kernel_rfl) (by simp) (AllReadyM.cons (List.getElem?_toArray.trans rfl) true (by kernel_rfl) (fun K hK=> ?_) AllReadyM.nil)
     obtain⟨w4,hr4,hm4,hg4,hz4⟩:=run_updateS mapSS (FR3.mapS HO1.out HO1.out HR1.out) nm v3
     refine step_update rfl _ _ _ rfl _ _ _ rfl rfl rfl w4 hr4 ?_
     refine hK.out _ _ ?_ (fun hHeld=> ?_)
     focus((try dsimp only);exact .inl rfl)
     clear hK K
     try simp only[Act.put,List.setIfInBounds_toArray,List.set_cons_zero,List.set_cons_succ]
     refine wpAnyM_done (by kernel_rfl) ?_ _
     obtain⟨es3,x3,hx3⟩:=mapS_block (FR3.mapS HO1.out HO1.out HR1.out)
     have o4:OwnS w4 w.heap.size 9 1 sC v3 (ks++[ot]):=h1.same fun g cur _ hg=>hg4.block g (blk_lt hg) (fun e=>by simp at e;subst e;rw[hx3]at hg;simp at hg)
     have hF4: ∀j,j<wr.heap.size->j≠w.heap.size->blkOf (.slice KA ks.length kc)≠some j->w4.heap[j]?=wr.heap[j]?:=fun j hj e1 e2=>
      ((hg4.block j (by omega) (by simpa using e1)).trans (FR3.block j (by omega) e2 e2)).trans (HBZ.out.block j hj)
     have hp4:ParAt w4 w.heap.size w.heap.size (pre++[⟨2,nm,ot,pl,dy,tl,nu,de⟩]):=par_put (va:= .slice KA ks.length kc) rfl HRW.out HR3.out HR5.out HR6.out (by rw[HKS.out];exact HOW.out) HG1.out (by rw[HKS.out];exact o4) (fun g e=>by
      rcases h3 g e with h|h
      ·exact .inl h
      ·right;omega) hm4 hF4
     have hBB:Below w.heap.size w w4:=⟨hg4.os.trans (FR3.os.trans (HBZ.out.os.trans HB.out.os)),hg4.tape.trans (FR3.tape.trans (HBZ.out.tape.trans HB.out.tape)),hg4.output.trans (FR3.output.trans (HBZ.out.output.trans HB.out.output)),by have:=FR3.size;omega,fun j hj=>(hF4 j (by omega) (by omega) (fun e=>by have:=(HOW.out.ge j e).1;omega)).trans (HB.out.block j hj)⟩
     have HP4:=Lib.hid hp4
     have HB4:=Lib.hid hBB
     clear hp4 hBB hF4 o4 hx3 hm4 hg4 hr4 FR3 h1 h2 h3
     go_wp2_with fail
     go_round
     case rel=>exact⟨k+1,HLT.out,by go_num,by rw[HSN.out];exact HP4.out,HB4.out⟩
     case measure=>have:=HLT.out;simp only[intOf];omega
   ·have hpe:=parR_skip (l:=pre) (x:=⟨kd,nm,ot,pl,dy,tl,nu,de⟩) hkd
    have HPE:=Lib.hid hpe
    clear hpe
    go_wp2_with fail
    go_round
    case rel=>
     refine⟨k+1,HLT.out,by go_num,?_,HB.out.trans (Below.mono (B:=wr.heap.size) Bw hbs)⟩
     rw[HSN.out]
     unfold ParAt
     rw[HPE.out]
     exact par_keep HPA.out (n:=wr.heap.size) Bw
    case measure=>have:=HLT.out;simp only[intOf];omega
  ·have hki: ¬(k:Int)<(l.length:Int):=by omega
   rw[List.take_of_length_le (by omega)]at hpar
   obtain⟨m,r1,r3,r5,r6⟩:=hpar
   have hmm:= @run_makeMap Tryz.prog
   obtain⟨W1,rfl⟩: ∃x,x=wr:=⟨_,rfl⟩
   have hLK: ∀n,∃KA kc,(∀W',Below W1.heap.size W1 W'->(Instr.lookup 88 (.map (some w.heap.size)) (.string n) false).run Tryz.prog W'= .ok (.slice KA (parR l n).length kc) W')/\Sl W1 1 sC KA (parR l n):=fun n=>by
    obtain⟨KA,kc,hg1,hO1,hG1⟩:=row_own (r3 n)
    obtain⟨A',c',e,hS,hc'⟩:=hO1.sl sC_len
    simp only[Value.slice.injEq]at e
    obtain⟨rfl,_,rfl⟩:=e
    refine⟨KA,kc,fun W' hB'=> ?_,hS⟩
    have:=run_lookup mapSS (r1.below hB').at n
    rw[<-hg1]
    exact this
   have hIs:w.heap.size<W1.heap.size:=r1.at.lt
   have hpl: ∀n,(parR l n).length<=1000:=fun n=>Nat.le_trans (parR_len l n) hl
   have hlf:=leftR_le l []
   obtain⟨hrg,hRA⟩:=run_rangeS (P:=Tryz.prog) r1 (t:=88) Tryz.underlying88
   generalize r1.choose_spec.choose=cc at*
   generalize r1.choose=ce at*
   have HR3:=Lib.hid r3
   have HLK:=Lib.hid hLK
   have HRA:=Lib.hid hRA
   have HB:=Lib.hid hB
   have HPL:=Lib.hid hpl
   have HMM:=Lib.hid hmm
   clear r1 r3 r5 r6 hLK hRA hB hpl hmm
   go_upto_region 9 with fail
   clear hrg
   go_loopg [6] (m.length+1) (fun gg v wr=> ∃left,RangeAt wr w.heap.size W1.heap.size ekS (fun v:Value=>v) m left/\Below W1.heap.size W1 wr/\W1.heap.size<wr.heap.size/\Hid (∀p∈m,p∈left\/Free5 l p.1)/\left.length<gg)
   case atStart=>exact⟨m,HRA.out,Bw,by simp,fun p hp=> .inl hp,by omega⟩
   case round=>
    obtain⟨left,hra,hB1,hIs1,HF,hgg⟩:=hrel
    rcases run_nextS (P:=Tryz.prog) hra 0 with⟨h0,hrun⟩|⟨i,p,w',hi,hrun,hra',hgr',hsz,hent⟩
    ·have hno: ¬Circle l:=no_circle fun n hn=>by
      rcases HR3.out n with⟨_,h⟩|⟨v,h1,_⟩
      ·exact absurd h hn
      ·rcases HF.out _ (mget_mem h1)with h|h
       ·rw[h0]at h;cases h
       ·exact h
     have HRF:Hid (R=false):=by show _=_;rw[HR.out];exact decide_eq_false hno
     have HBE:=Lib.hid (HB.out.trans (hB1.mono HB.out.size))
     clear hra h0 hno
     go_wp2_with fail
     go_ret
     exact Ret.of (bool_eq HRF.out.symm) (HBE.out.trans (Below.mono Bw HBE.out.size))
    ·obtain⟨pn,pv⟩:=p
     have hrun':(Instr.next (.pointer (some ⟨W1.heap.size,0,none⟩)) false 0).run Tryz.prog wr= .ok (.tuple #[.bool true, .string pn,pv]) w':=hrun
     have hent':(Instr.entry (.pointer (some ⟨W1.heap.size,0,none⟩))).run Tryz.prog w'= .ok (.tuple #[.string pn,pv]) w':=hent
     have hB2:Below W1.heap.size W1 w':=grown_below hB1 hgr' (Nat.le_refl _)
     have hel:(left.eraseIdx i).length+1=left.length:=by
      have:=(List.getElem?_eq_some_iff.1 hi).1
      rw[List.length_eraseIdx_of_lt this]
      omega
     have hIs2:W1.heap.size<w'.heap.size:=by omega
     clear hsz
     have HF2:Hid (∀p∈m,p∈left.eraseIdx i\/p.1=pn\/Free5 l p.1):=fun p hp=>by
      rcases HF.out p hp with h|h
      ·rcases mem_erase5 hi h with e|h
       ·exact .inr (.inl (by rw[e]))
       ·exact .inl h
      ·exact .inr (.inr h)
     obtain⟨KA,kc,hlk,hKS⟩:=HLK.out pn
     have hlk2: ∀o,(Instr.lookup 88 (.map (some w.heap.size)) (.string pn) false).run Tryz.prog (w'.alloc o)= .ok (.slice KA (parR l pn).length kc) (w'.alloc o):=fun o=>hlk _ (B_alloc hB2 o)
     have hplp:=HPL.out pn
     have HKS:=Lib.hid hKS
     have HB2:=Lib.hid hB2
     have HRA2:=Lib.hid hra'
     have hmm:=HMM.out
     have HST:Hid (Searched (Edge l) pn (parR l pn) []):=search_start l pn
     generalize hks:parR l pn=ks at*
     clear hra hra' hrun hent hgr' hi hlk hKS hB1 hB2 HF hks
     go_upto_region 13 with(go_at_call 134
                            go_must(refine(cloneStr_any ks KA ks.length kc _ rfl (by omega) (HKS.out.keep (n:=W1.heap.size) (B_alloc HB2.out _))).mono ?_)
                            rintro e wq ⟨v,rfl,hq,hBq⟩)
     clear hmm hlk2
     have hsq:=hBq.size
     simp only[World.size_alloc]at hsq
     have hsm:MapS wq w'.heap.size ekS evB (outM []):=(MapS.new w').below hBq
     have hq1:OwnS wq W1.heap.size 9 1 sC v ks:=hq.base_le (by simp;omega)
     have hra3:=(HRA2.out.below (n:=w'.heap.size) (B_alloc (Below.refl _ _) _)).below hBq
     have hB3:Below W1.heap.size W1 wq:=(B_alloc HB2.out _).trans (hBq.mono (by simp;omega))
     have HQ1:=Lib.hid hq1
     have HSM:=Lib.hid hsm
     have HRA3:=Lib.hid hra3
     have HB3:=Lib.hid hB3
     clear hq hBq hsm hq1 hra3 hB3
     go_loopg [8] (ks.length+leftR l []) (fun gi v wi=> ∃q seen,OwnS wi W1.heap.size 9 1 sC v q/\MapS wi w'.heap.size ekS evB (outM seen)/\RangeAt wi w.heap.size W1.heap.size ekS (fun v:Value=>v) m (left.eraseIdx i)/\Below W1.heap.size W1 wi/\w'.heap.size<wi.heap.size/\Hid (Searched (Edge l) pn q seen)/\pn∉seen/\q.length+leftR l seen<=2000/\q.length+leftR l seen<=gi)
     case atStart=>exact⟨ks,[],HQ1.out,HSM.out,HRA3.out,HB3.out,by omega,HST,by simp,by omega,Nat.le_refl _⟩
     case round=>
      obtain⟨q,seen,hown,hm,hra4,hB4,hsz4,HSE,hns,hq2,hgi⟩:=hrel
      obtain⟨wi,rfl⟩: ∃x,x=wr:=⟨_,rfl⟩
      have hlf2:=leftR_le l seen
      cases q with
      |nil=>
       obtain⟨QA,qc,rfl,_,_⟩:=hown.sl sC_len
       have hfree:Free5 l pn:=free_of HSE.out hns
       have HFR:=Lib.hid hfree
       have HRA4:=Lib.hid hra4
       have HB4:=Lib.hid hB4
       clear hown hm hra4 hB4 hfree hns
       go_wp2_with fail
       go_roundg ((left.eraseIdx i).length+1)
       case measure=>omega
       case rel=>
        exact⟨left.eraseIdx i,HRA4.out,HB4.out,by omega,fun p hp=>by
         rcases HF2.out p hp with h|h|h
         ·exact .inl h
         ·exact .inr (by rw[h];exact HFR.out)
         ·exact .inr h,by omega⟩
      |cons x q=>
       rcases hown with⟨rfl,h0⟩|⟨g,o,cap,cur,rfl,hbg,hg,hcl,hcm,hcs,hx⟩
       ·cases h0
       have hown:OwnS wi W1.heap.size 9 1 sC (.slice (some ⟨g,o,none⟩) (x::q).length cap) (x::q):= .inr ⟨g,o,cap,cur,rfl,hbg,hg,hcl,hcm,hcs,hx⟩
       obtain⟨_,h1c,htl,hhd⟩:=hown.tail sC_len
       have hcx:wi.cell? ⟨g,o,none⟩=some (.string x):=hhd 0 _ rfl
       have hxl1:(0:Int)<((x::q).length:Int):=by simp only[List.length_cons];omega
       have hxl2:(1:Int)<=((x::q).length:Int):=by omega
       have hxl3:(1:Int)<=(q.length:Int)+1:=by omega
       have hc1:(1:Int)<=(cap:Int):=by omega
       have hql:q.length+1+leftR l seen<=gk:=by simpa using hgi
       have hq3:q.length+1+leftR l seen<=2000:=by simpa using hq2
       have HT:=Lib.hid htl
       have HM:=Lib.hid hm
       have HRA4:=Lib.hid hra4
       have HB4:=Lib.hid hB4
       have HNS:=Lib.hid hns
       have hcl0:=hcl
       have hcs0:=hcs
       have HG:=Lib.hid hg
       clear hown hm hra4 hB4 hns hhd htl hg hx hcs hcm hcl hgi hq2
       have hT1:Hid (cap=1->OwnS wi W1.heap.size 9 1 sC (.slice (some ⟨g,o,none⟩) q.length 0) q):=fun e=>by
        have hx0:q=[]:=List.eq_nil_of_length_eq_zero (by simp at hcl0;omega)
        subst hx0
        exact .inr ⟨g,o,0,cur,rfl,hbg,HG.out,Nat.le_refl _,Nat.zero_le _,by omega,fun j u hj=>by simp at hj⟩
       clear hcl0 hcs0
       go_upto_region 15 with fail
       go_cut [8]from 43 to 65 (fun v wc=>OwnS wi W1.heap.size 9 1 sC v q/\wi=wc)
       case first=>
        by_cases hcap:cap=1
        ·go_wp2_with fail
         all_goals go_meet
         all_goals exact⟨hT1.out hcap,rfl⟩
        ·go_wp2_with fail
         all_goals go_meet
         all_goals exact⟨HT.out,rfl⟩
       case rest=>
        obtain⟨hown,rfl⟩:=hcut
        clear HT hT1 hcx HG
        have hown':=hown
        obtain⟨QA,qc,rfl,_,hQc⟩:=hown'.sl sC_len
        clear hown'
        have HO:=Lib.hid hown
        clear hown
        cases hxe:(x.toList==pn.toList)
        ·have hne:x≠pn:=fun e=>by rw[e]at hxe;simp at hxe
         have HNE:=Lib.hid hne
         have hlo:(Instr.lookup 87 (.map (some w'.heap.size)) (.string x) false).run Tryz.prog wi= .ok (.bool (seen.any (sameB x))) wi:=by
          have:=run_lookup mapSB HM.out.at x
          rw[out_get]at this
          exact this
         clear hne
         cases hin:seen.any (sameB x)
         ·have hni:x∉seen:=fun h=>by rw[any_same.2 h]at hin;cases hin
          have hlr:=leftR_new hin l
          obtain⟨XA,xc,hlx,hXS⟩:=HLK.out x
          have hxp:=HPL.out x
          have HIN:=Lib.hid hin
          have HNI:=Lib.hid hni
          have HLX:=Lib.hid hlx
          have HXS:=Lib.hid hXS
          have HSN:Hid (Searched (Edge l) pn (q++parR l x) (seen++[x])):=search_new HSE.out
          rw[hin]at hlo
          generalize hys:parR l x=ys at*
          obtain⟨es,c00,hmb,hm9⟩:=HM.out
          have HMB:=Lib.hid hmb
          clear hin hni hlx hXS hmb hm9 hys
          go_wp2_with (first
           |(at_mapUpdate
             obtain⟨w1,hrun,hm1,hg1,hs1⟩:=run_updateS mapSB HM.out x true
             have hB5:Below W1.heap.size W1 w1:=grown_below HB4.out hg1 (by omega)
             have hlx1:=HLX.out w1 hB5
             have HM1:=Lib.hid hm1
             have HG1:=Lib.hid hg1
             have HB5:=Lib.hid hB5
             clear hm1 hB5
             go_loud(refine wpList_update_run rfl _ _ _ rfl _ _ _ rfl rfl rfl w1 hrun ?_))
           |(at_builtin
             go_loud(refine wpList_append_S (v:= .slice QA q.length qc) (n:=q.length) (m:=ys.length) rfl _ _ rfl elStr5 sC_len sC_one rfl (HO.out.keptM HG1.out HMB.out) rfl rfl rfl (HXS.out.keep HB5.out) (by simp[maxLen];omega) (by omega) (by omega) ?_)
             intro v3 w3 h1 h2 h3
             have H1:=Lib.hid h1
             have H2:=Lib.hid h2
             clear h1 h2 h3))
          go_roundg (q.length+ys.length+leftR l (seen++[x]))
          case measure=>omega
          case rel=>
           refine⟨q++ys,seen++[x],H1.out,?_,?_,?_,?_,HSN.out,?_,by(simp;omega),by simp⟩
           ·have hm2:=HM1.out
            rw[out_put HNI.out]at hm2
            exact hm2.grown H2.out (fun e=>by
             obtain⟨es1,c01,hmb1,_⟩:=hm2
             obtain⟨cur1,hc1⟩:=own_str (HO.out.keptM HG1.out HMB.out) e.symm
             rw[hmb1]at hc1
             simp at hc1)
           ·have hR1:=HRA4.out.grown HG1.out (fun e=>by simp at e;omega) (fun e=>by simp at e;omega)
            refine hR1.grown H2.out (fun e=> ?_) (fun e=> ?_)
            ·obtain⟨cur1,hc1⟩:=own_str (HO.out.keptM HG1.out HMB.out) e.symm
             exact(range_cells hR1 hc1).1 rfl
            ·obtain⟨cur1,hc1⟩:=own_str (HO.out.keptM HG1.out HMB.out) e.symm
             exact(range_cells hR1 hc1).2 rfl
           ·exact HB5.out.grown H2.out HB5.out.size (fun k e=>(HO.out.ge k e).1)
           ·have:=H2.out.size;omega
           ·simp only[List.mem_append,List.mem_singleton,not_or]
            exact⟨HNS.out,fun e=>HNE.out e.symm⟩
         ·have hni:x∈seen:=any_same.1 hin
          have HSN:Hid (Searched (Edge l) pn q seen):=search_old HSE.out hni
          rw[hin]at hlo
          clear hin hni
          go_wp2_with fail
          go_roundg (q.length+leftR l seen)
          case measure=>omega
          case rel=>exact⟨q,seen,HO.out,HM.out,HRA4.out,HB4.out,hsz4,HSN.out,HNS.out,by omega,Nat.le_refl _⟩
        ·have hxe2:x=pn:=same_iff.1 hxe
         have hci:Circle l:=circle_found (n:=pn) (q:=q) (seen:=seen) (by have h:=HSE.out;rw[hxe2]at h;exact h)
         have HRF:Hid (R=true):=by show _=_;rw[HR.out];exact decide_eq_true hci
         have HBE:=Lib.hid (HB.out.trans (HB4.out.mono HB.out.size))
         clear hci hxe2
         go_wp2_with fail
         go_ret
         exact Ret.of (bool_eq HRF.out.symm) (HBE.out.trans (Below.mono Bw HBE.out.size))
end Go.Proofs.YtmaidggpbihlgaaGreatDoor
