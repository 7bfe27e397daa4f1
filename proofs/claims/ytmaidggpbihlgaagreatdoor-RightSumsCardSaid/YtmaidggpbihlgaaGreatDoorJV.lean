/- Walk of chapter 5's sort of parts by names. -/
import Derived.Test.YtmaidggpbihlgaaGreatDoorJQ
import Derived.Test.YtmaidggpbihlgaaGreatDoorE2
import Derived.Deep.RegionHeld3
import Derived.Test.YtmaidggpbihlgaaGreatDoorN9
import Derived.Shelf.SlSortCmp.KitK
import Derived.Sort.Grow
set_option linter.unusedSimpArgs false
set_option linter.unusedVariables false
namespace Go.Proofs.YtmaidggpbihlgaaGreatDoor
open Go.RowKit Go.Shelf
attribute [local go_sem] World.cell?_alloc_mark ext_size ext_cell ext_frozen lt_add_r lt_add_r2 lt_add_r3 lt_add_r4 lt_add_r5 lt_add_r6 lt_add_r7 lt_add_r8
attribute [local go_sem] ext_setCell alloc_setCell_lt
theorem ItemsN.same {W W':World} {Q:Nat->Prop} (hb: ∀(k:Nat) (cur:Array Value) (fr:Nat×Nat),W.heap[k]?=some (.cells cur 167 fr)->W'.heap[k]?=W.heap[k]?): ∀ {f:Nat} {es:List Ln} {l:List Tree},ItemsN W Q f es l->ItemsN W' Q f es l
 |0,_,_,h=>h
 |f+1,es,l,h=>⟨h.1,fun k e t h1 h2=>by
  rcases h.2 k e t h1 h2 with h3|⟨l',A,c,es',h3,h4,h5,h6,hQ,h7,h8⟩
  ·exact .inl h3
  ·exact .inr ⟨l',_,c,es',h3,h4,h5,h6,hQ,h7.same (fun b cur fr hx _=>hb b cur fr hx),ItemsN.same hb h8⟩⟩
theorem two_line {w w':World} {C m:Nat} {fl:Bool} {out:Parts} (h:Two2 w w' C m) (hM:MarkAt w C fl) (hS:HasAt w m out): ∀(k:Nat) (cur:Array Value) (fr:Nat×Nat),w.heap[k]?=some (.cells cur 167 fr)->w'.heap[k]?=w.heap[k]?:=fun k cur fr hk=>by
 refine h.others k (Array.getElem?_eq_some_iff.1 hk).1 (fun e=> ?_) (fun e=> ?_)
 ·subst e
  unfold MarkAt at hM
  rw[hM]at hk
  simp at hk
 ·subst e
  obtain⟨mm,⟨es,c,h1,_⟩,_⟩:=hS
  rw[h1]at hk
  simp at hk
theorem Two2.set {w W:World} {C m:Nat} (h:Two2 w W C m) {P o:Nat} (hC:C<w.heap.size) (hP:w.heap.size<=P) (v:Value):Two2 w (W.setCell ⟨P,o,none⟩ v) C m:=
 ⟨fun n h1 h2 h3=>B_set (h.below n h1 h2 h3) (by show n<=P;omega) v,fun k hk h1 h2=>by
   rw[<-h.others k hk h1 h2]
   have hb: ¬P=k:=by omega
   simp[World.setCell,Array.getElem?_modify,hb],by simp only[World.setCell,Array.size_modify];exact h.size⟩
theorem Two2.alloc {w W:World} {C m:Nat} (h:Two2 w W C m) (o:Obj):Two2 w (W.alloc o) C m:=h.trans (Two2.of_below (B_alloc (Below.refl _ _) o))
theorem Two2.refl2 (w:World) (C m:Nat):Two2 w w C m:=Two2.of_below (Below.refl _ _)
theorem Two2.drew {w W:World} {C m:Nat} (h:Two2 w W C m):Two2 w W.drew C m:=h.trans (Two2.of_below (B_drew (Below.refl _ _)))
theorem Two2.ext {w W:World} {C m:Nat} (h:Two2 w W C m) (z:Ez):Two2 w (W.ext z) C m:=h.trans (Two2.of_below (below_ext W z))
set_option maxRecDepth 100000 in
set_option maxHeartbeats 8000000 in
theorem divide_any (b h C m:Nat) (law:Law) (who:ByteArray) (hhC:h≠C) (hhm:h≠m) (hCm:C≠m): ∀(f:Nat) (es:List Ln) (l:List Tree) (Q:Nat->Prop) (A:Option Addr) (n c:Nat) (q t:Rat) (out:Parts) (fl:Bool) (w:World),
 ItemsN w Q f es l->WideN f l->Ro w 167 lnC A es->l≠[]->n=l.length->HeirAt w h b law who C m->MarkAt w C fl->HasAt w m out->0<=q->q<=1->small5 q->Bd out t->t+q<=1->
 Calls Tryz.prog 73 #[.pointer (some ⟨h,0,none⟩), .slice A n c, .agg #[.int .i64 q.num, .int .i64 q.den]] w (GivesPost w C m (divideF l q (out,fl)))
 |0,es,l,Q,A,n,c,q,t,out,fl,w,hI,_,_,hne,_,_,_,_,_,_,_,_,_=>absurd hI.2 hne
 |f+1,es,l,Q,A,n,c,q,t,out,fl,w,hI,hwd,hR,hne,hn,hH,hM,hS,hq0,hq1,hqs,hbd,htq=>by
  have IH:=Lib.hid (divide_any b h C m law who hhC hhm hCm f)
  have hlen:=hI.len
  have hpos:0<l.length:=List.length_pos_iff.2 hne
  obtain⟨hwl,hwi⟩:=hwd
  have hh:=blk_lt hH
  have hCl:=blk_lt hM
  have hml:=hS.lt
  obtain⟨hp0,hp1,hps,hpn⟩:=part_ok hq0 hq1 hpos
  have hos:=one_small hpos hwl
  obtain⟨ho1,ho2,_,_⟩:=one_over hpos
  rw[divideF]
  rw[<-hn]at hp0 hp1 hps hpn hos ho1 ho2⊢
  generalize hpart:seenQ (q*(1/(n:Rat)))=part at*
  have hmu:=fun(W:World) (hC':MarkAt W C fl)=>mulM_any C fl W hC' q (1/(n:Rat)) hqs hos
  unfold MarkPost fracV at hmu
  simp only[hpart,ho1,ho2]at hmu
  have HMU:=Lib.hid hmu
  clear hmu ho1 ho2 hos
  have HP:=Lib.hid hpart
  have HI:=Lib.hid hI
  have HWI:=Lib.hid hwi
  have HR:=Lib.hid hR
  have HH:=Lib.hid hH
  have HM:=Lib.hid hM
  have HS:=Lib.hid hS
  have HB:=Lib.hid hbd
  have HTQ:=Lib.hid htq
  have HPN:=Lib.hid hpn
  unfold HeirAt at hH
  have e6:w.cell? ⟨h,6,none⟩=some (.pointer (some ⟨C,0,none⟩)):=by simp only[World.cell?,hH];rfl
  clear hI hwi hR hH hM hS hbd htq hpn hpart
  generalize bigQ (q*(1/(n:Rat)))=bg at*
  have hl1:n<=1000:=by omega
  have HN:=Lib.hid hn
  have HEL:=Lib.hid hlen
  clear hn hlen
  go_enter Tryz.func73,Tryz.ntmps73
  go_upto_region 1 with fail
  go_cut [6]from 7 (fun v wc=> ∃P,v= .pointer (some ⟨P,0,none⟩)/\w.heap.size<P/\wc.heap[P]?=some (fracB part)/\MarkAt wc C (fl||bg)/\HasAt wc m out/\Two2 w wc C m)
  case first=>
   refine wp_region_held_drew (S:=(fun w'=>w'.cell? ⟨h,6,none⟩=some (.pointer (some ⟨C,0,none⟩))/\w'.cell? ⟨w.heap.size,0,none⟩=some (.int .i64 q.num)/\w'.cell? ⟨w.heap.size,1,none⟩=some (.int .i64 q.den))) (by kernel_rfl) ?hS ?hrest
   case hS=>((try dsimp only);refine⟨?_,?_,?_⟩<;>(simp[go_sem,e6,hh];done))
   case hrest=>
    intro hHeld
    refine TkH 0 ?_
    refine TkH 1 ?_
    refine TkH 2 ?_
    refine TkH 3 ?_
    refine TkH 4 ?_
    refine TkH 5 ?_
    refine TkH 6 ?_
    refine TkH 7 ?_
    refine wpAnyH_ready (rs:=[8,9]) (by kernel_rfl) (by simp) (AllReadyH.cons (List.getElem?_toArray.trans rfl) (fun K hK=> ?_) (AllReadyH.cons (List.getElem?_toArray.trans rfl) (fun K hK=> ?_) AllReadyH.nil))
    ·go_simp
     refine(HMU.out _ ?q1).mono ?_
     case q1=>(repeat(first|exact HM.out|refine MarkAt.drew ?_|refine MarkAt.alloc ?_ _))
     rintro e w5 ⟨rfl,n1,n2⟩
     have hn2:=n2.size
     have x0:w5.cell? ⟨h,6,none⟩=some (.pointer (some ⟨C,0,none⟩)):=(G_cell n2 (by simp;omega) hhC).trans (by simp[go_sem,e6,hh])
     have x1:w5.cell? ⟨w.heap.size,0,none⟩=some (.int .i64 q.num):=(G_cell n2 (by simp;try omega) (by omega)).trans (by simp[go_sem])
     have x2:w5.cell? ⟨w.heap.size,1,none⟩=some (.int .i64 q.den):=(G_cell n2 (by simp;try omega) (by omega)).trans (by simp[go_sem])
     have x3:w.heap.size<w5.heap.size:=by simp at hn2;omega
     have x4:h<w5.heap.size:=by simp at hn2;omega
     have N1:=Lib.hid n1
     have N2:=Lib.hid n2
     clear n1 n2
     refine hK.out _ _ ?_ (fun hHeld=> ?_)
     focus((try dsimp only);refine⟨?_,?_,?_⟩<;>first|assumption|(simp[go_sem,e6,hh];done)|(simp[go_sem,x0,x1,x2,x3,x4];done)|(trace_state;fail "nextR"))
     clear hK K
     try simp only[Act.put,List.setIfInBounds_toArray,List.set_cons_zero,List.set_cons_succ]
     refine wpAnyH_ready (rs:=[9]) (by kernel_rfl) (by simp) (AllReadyH.cons (List.getElem?_toArray.trans rfl) (fun K hK=> ?_) AllReadyH.nil)
     go_simp
     refine hK.out _ _ ?_ (fun hHeld=> ?_)
     focus((try dsimp only);refine⟨?_,?_,?_⟩<;>first|assumption|(simp[go_sem,e6,hh];done)|(simp[go_sem,x0,x1,x2,x3,x4];done)|(trace_state;fail "nextR"))
     clear hK K
     try simp only[Act.put,List.setIfInBounds_toArray,List.set_cons_zero,List.set_cons_succ]
     refine wpAnyH_ready (rs:=[10]) (by kernel_rfl) (by simp) (AllReadyH.cons (List.getElem?_toArray.trans rfl) (fun K hK=> ?_) AllReadyH.nil)
     go_simp
     refine hK.out _ _ ?_ (fun hHeld=> ?_)
     focus((try dsimp only);refine⟨?_,?_,?_⟩<;>first|assumption|(simp[go_sem,e6,hh];done)|(simp[go_sem,x0,x1,x2,x3,x4];done)|(trace_state;fail "nextR"))
     clear hK K
     try simp only[Act.put,List.setIfInBounds_toArray,List.set_cons_zero,List.set_cons_succ]
     refine wpAnyH_done (by kernel_rfl) ?_ _
     go_wp2_with fail
     go_meet
     have r2:Two2 w w5 C m:=Two2.trans (by repeat(first|exact Two2.refl2 _ _ _|assumption|with_reducible refine Two2.alloc ?_ _|with_reducible refine Two2.drew ?_|with_reducible refine Two2.ext ?_ _)) (Two2.grownC N2.out)
     have s5:HasAt w5 m out:=HasAt.block (HS.out.keep (n:=w.heap.size) Bw) (N2.out.block m (by simp;omega) (by simp;omega))
     exact⟨_,rfl,by omega,J_new _ _ _ rfl,N1.out.alloc _,s5.keep (n:=w5.heap.size) (B_alloc (Below.refl _ _) _),r2.alloc _⟩
    ·go_simp
     refine hK.out _ _ ?_ (fun hHeld=> ?_)
     focus((try dsimp only);refine⟨?_,?_,?_⟩<;>first|assumption|(simp[go_sem,e6,hh];done)|(simp[go_sem,x0,x1,x2,x3,x4];done)|(trace_state;fail "nextR"))
     clear hK K
     try simp only[Act.put,List.setIfInBounds_toArray,List.set_cons_zero,List.set_cons_succ]
     refine wpAnyH_ready (rs:=[8]) (by kernel_rfl) (by simp) (AllReadyH.cons (List.getElem?_toArray.trans rfl) (fun K hK=> ?_) AllReadyH.nil)
     go_simp
     refine(HMU.out _ ?q1).mono ?_
     case q1=>(repeat(first|exact HM.out|refine MarkAt.drew ?_|refine MarkAt.alloc ?_ _))
     rintro e w5 ⟨rfl,n1,n2⟩
     have hn2:=n2.size
     have x0:w5.cell? ⟨h,6,none⟩=some (.pointer (some ⟨C,0,none⟩)):=(G_cell n2 (by simp;omega) hhC).trans (by simp[go_sem,e6,hh])
     have x1:w5.cell? ⟨w.heap.size,0,none⟩=some (.int .i64 q.num):=(G_cell n2 (by simp;try omega) (by omega)).trans (by simp[go_sem])
     have x2:w5.cell? ⟨w.heap.size,1,none⟩=some (.int .i64 q.den):=(G_cell n2 (by simp;try omega) (by omega)).trans (by simp[go_sem])
     have x3:w.heap.size<w5.heap.size:=by simp at hn2;omega
     have x4:h<w5.heap.size:=by simp at hn2;omega
     have N1:=Lib.hid n1
     have N2:=Lib.hid n2
     clear n1 n2
     have yP:w5.heap[w.heap.size+1]?=some (.cells #[.int .i64 0, .int .i64 0] 45):=(N2.out.block _ (by simp) (by simp;omega)).trans (J_new _ _ _ (by simp))
     have y0:w5.cell? ⟨w.heap.size+1,0,none⟩=some (.int .i64 0):=by simp only[World.cell?,yP];rfl
     have y1:w5.cell? ⟨w.heap.size+1,1,none⟩=some (.int .i64 0):=by simp only[World.cell?,yP];rfl
     have f0:w5.frozen? ⟨w.heap.size+1,0,none⟩=false:=by simp only[World.frozen?,yP];rfl
     have f1:w5.frozen? ⟨w.heap.size+1,1,none⟩=false:=by simp only[World.frozen?,yP];rfl
     have hhn:h≠w.heap.size+1:=by omega
     have hPl:=blk_lt yP
     refine hK.out _ _ ?_ (fun hHeld=> ?_)
     focus((try dsimp only);refine⟨?_,?_,?_⟩<;>first|assumption|(simp[go_sem,e6,hh];done)|(simp[go_sem,x0,x1,x2,x3,x4];done)|(trace_state;fail "nextR"))
     clear hK K
     try simp only[Act.put,List.setIfInBounds_toArray,List.set_cons_zero,List.set_cons_succ]
     refine wpAnyH_ready (rs:=[10]) (by kernel_rfl) (by simp) (AllReadyH.cons (List.getElem?_toArray.trans rfl) (fun K hK=> ?_) AllReadyH.nil)
     go_simp
     refine hK.out _ _ ?_ (fun hHeld=> ?_)
     focus((try dsimp only);refine⟨?_,?_,?_⟩<;>first|assumption|(simp[go_sem,e6,hh];done)|(simp[go_sem,x0,x1,x2,x3,x4];done)|(trace_state;fail "nextR"))
     clear hK K
     try simp only[Act.put,List.setIfInBounds_toArray,List.set_cons_zero,List.set_cons_succ]
     refine wpAnyH_done (by kernel_rfl) ?_ _
     go_wp2_with fail
     go_meet
     have r2:Two2 w w5 C m:=Two2.trans (by repeat(first|exact Two2.refl2 _ _ _|assumption|with_reducible refine Two2.alloc ?_ _|with_reducible refine Two2.drew ?_|with_reducible refine Two2.ext ?_ _)) (Two2.grownC N2.out)
     have s5:HasAt w5 m out:=HasAt.block (HS.out.keep (n:=w.heap.size) Bw) (N2.out.block m (by simp;omega) (by simp;omega))
     have s6:HasAt ((w5.setCell ⟨w.heap.size+1,0,none⟩ (.int .i64 part.num)).setCell ⟨w.heap.size+1,1,none⟩ (.int .i64 part.den)) m out:=s5.block (by
      have hb: ¬w.heap.size+1=m:=by omega
      simp[World.setCell,Array.getElem?_modify,hb])
     exact⟨_,rfl,by omega,J_set2 yP,J_ne (by omega) (J_ne (by omega) N1.out),s6,(r2.set hCl (by omega) _).set hCl (by omega) _⟩
  case rest=>
   obtain⟨P,rfl,hP,hPb,hm0,hs0,h20⟩:=hcut
   obtain⟨W0,rfl⟩: ∃x,x=wc:=⟨_,rfl⟩
   have HS0:=Lib.hid hs0
   have HM0:=Lib.hid hm0
   have H20:=Lib.hid h20
   have HPB:=Lib.hid hPb
   have hPl:=blk_lt hPb
   clear hm0 h20 hPb hs0
   go_wp2_with fail
   go_loopw [20] (fun i wr=> ∃(k:Nat) (o2:Parts) (f2:Bool),k<=n/\i= .int .i64 k/\Hid ((o2,f2)=linesF part (l.take k) (out,fl||bg))/\HasAt wr m o2/\MarkAt wr C f2/\Two2 w wr C m/\wr.heap[P]?=some (fracB part)) (fun i _=>n-(intOf i).toNat)
   case atStart=>exact⟨0,out,fl||bg,Nat.zero_le _,rfl,by show _=_;rw[List.take_zero,linesF],HS0.out,HM0.out,H20.out,HPB.out⟩
   case round=>
    obtain⟨k,o2,f2,hk,rfl,HX,hs,hm,h2,hPr⟩:=hrel
    have HSr:=Lib.hid hs
    have HMr:=Lib.hid hm
    have H2r:=Lib.hid h2
    have HPr:=Lib.hid hPr
    have hsz:=h2.size
    have p0:wr.cell? ⟨P,0,none⟩=some (.int .i64 part.num):=by simp only[World.cell?,hPr,fracB];rfl
    have p1:wr.cell? ⟨P,1,none⟩=some (.int .i64 part.den):=by simp only[World.cell?,hPr,fracB];rfl
    have hPlr:=blk_lt hPr
    have hPn:P≠wr.heap.size:=by omega
    by_cases hlt:k<n
    ·have hRr:=HR.out.same (fun b cur fr hx _=>two_line h2 HM.out HS.out b cur fr hx)
     have hIr:=HI.out.same (two_line h2 HM.out HS.out)
     have hle:k<es.length:=by have:=HEL.out;have:=HN.out;omega
     have hll:k<l.length:=by have:=HN.out;omega
     obtain⟨b',off,rfl,hb',hc⟩:=(Ro.sl ln_len hRr).at hle
     have hit:=hIr.2 k es[k] l[k] (List.getElem?_eq_getElem hle) (List.getElem?_eq_getElem hll)
     have hsn:=linesF_snoc part l (out,fl||bg) hll
     have hmem:l[k]∈l:=List.getElem_mem hll
     have hbk:=lines_bd hp0 (l:=l.take k) (fl:=fl||bg) HB.out
     rw[List.length_take,Nat.min_eq_left (by omega)]at hbk
     have hbs:t+part*(k:Rat)+part<=1:=by
      have h1:=take_le hp0 (Nat.succ_le_of_lt hlt)
      rw[cast_succ]at h1
      have h2:=HPN.out
      have h3:=HTQ.out
      grind
     rw[<-HX.out]at hsn hbk
     have HSN:=Lib.hid hsn
     have HBK:=Lib.hid hbk
     have HBS:=Lib.hid hbs
     have HHr:Hid (HeirAt wr h b law who C m):=(h2.others h hh hhC hhm).trans HH.out
     have hki:(k:Int)<(n:Int):=by omega
     have hk0:(0:Int)<=(k:Int):=by omega
     clear hs hm h2 hPr hRr hIr hsn hbk hbs
     rcases hit with⟨nm,hx,hy⟩|⟨l',A',c',es',hx,hy,hz,hne',_,hro',hin'⟩
     ·have i0:wr.cell? ⟨b',off+k*2,none⟩=some (.string nm):=hc 0 _ (by rw[hy];rfl)
      have i1:wr.cell? ⟨b',off+k*2+1,none⟩=some (.slice none 0 0):=hc 1 _ (by rw[hy];rfl)
      have hsn:=HSN.out
      rw[hx,treeF]at hsn
      have HSN:=Lib.hid hsn
      clear hc hx hy hsn hmem
      go_wp2_with (go_at_call 68;refine(gives_any b h C m law who nm part o2 f2 _ (HHr.out.keep (n:=wr.heap.size) Bw) (HMr.out.keep (n:=wr.heap.size) Bw (by omega)) (HSr.out.keep (n:=wr.heap.size) Bw) hhC hhm hCm HBK.out.good (HBK.out.share (by have:=HBS.out;grind) nm) hps).mono ?_;rintro e wq ⟨rfl,g1,g2,g3⟩)
      have g4:wq.heap[P]?=some (fracB part):=(g3.others P (by simp;omega) (by omega) (by omega)).trans (J_alloc HPr.out)
      have g5:Two2 w wq C m:=H2r.out.trans (Two2.trans (by repeat(first|exact Two2.refl2 _ _ _|assumption|with_reducible refine Two2.alloc ?_ _|with_reducible refine Two2.drew ?_|with_reducible refine Two2.ext ?_ _)) g3)
      have G1:=Lib.hid g1
      have G2:=Lib.hid g2
      have G4:=Lib.hid g4
      have G5:=Lib.hid g5
      clear g1 g2 g3 g4 g5
      go_wp2_with fail
      go_round
      case rel=>exact⟨k+1,_,_,by omega,by go_num,HSN.out.symm,G1.out,G2.out,G5.out,G4.out⟩
      case measure=>simp[intOf];omega
     ·have hxy:es[k]=(⟨#[]⟩,some A',l'.length,c'):=hy
      have i0:wr.cell? ⟨b',off+k*2,none⟩=some (.string ⟨#[]⟩):=hc 0 _ (by rw[hxy];rfl)
      have i1:wr.cell? ⟨b',off+k*2+1,none⟩=some (.slice (some A') l'.length c'):=hc 1 _ (by rw[hxy];rfl)
      have hsn:=HSN.out
      rw[hx,treeF_node]at hsn
      have HSN:=Lib.hid hsn
      have hwd':=HWI.out l' (by rw[<-hx];exact hmem)
      have HIC:=Lib.hid (fun W h1 h2 h3 h4 h5=>IH.out es' l' Q (some A') l'.length c' part _ o2 f2 W h1 hwd' h2 hne' rfl h3 h4 h5 hp0 hp1 hps HBK.out HBS.out)
      have HIN:=Lib.hid hin'
      have HRO:=Lib.hid hro'
      clear hc hx hy hxy hsn hmem hin' hro' hwd'
      go_wp2_with (go_at_call 73;refine(HIC.out _ (HIN.out.keep (n:=wr.heap.size) Bw) (HRO.out.keep (n:=wr.heap.size) Bw) (HHr.out.keep (n:=wr.heap.size) Bw) (HMr.out.keep (n:=wr.heap.size) Bw (by omega)) (HSr.out.keep (n:=wr.heap.size) Bw)).mono ?_;rintro e wq ⟨rfl,g1,g2,g3⟩)
      have g4:wq.heap[P]?=some (fracB part):=(g3.others P (by simp;omega) (by omega) (by omega)).trans (J_alloc HPr.out)
      have g5:Two2 w wq C m:=H2r.out.trans (Two2.trans (by repeat(first|exact Two2.refl2 _ _ _|assumption|with_reducible refine Two2.alloc ?_ _|with_reducible refine Two2.drew ?_|with_reducible refine Two2.ext ?_ _)) g3)
      have G1:=Lib.hid g1
      have G2:=Lib.hid g2
      have G4:=Lib.hid g4
      have G5:=Lib.hid g5
      clear g1 g2 g3 g4 g5
      go_wp2_with fail
      go_round
      case rel=>exact⟨k+1,_,_,by omega,by go_num,HSN.out.symm,G1.out,G2.out,G5.out,G4.out⟩
      case measure=>simp[intOf];omega
    ·have hki: ¬(k:Int)<(n:Int):=by omega
     rw[List.take_of_length_le (by have:=HN.out;omega)]at HX
     go_wp2_with fail
     go_end0
     rw[<-HX.out]
     exact⟨rfl,HSr.out,HMr.out,H2r.out⟩
end Go.Proofs.YtmaidggpbihlgaaGreatDoor
namespace Go.Proofs.YtmaidggpbihlgaaGreatDoor
open Go.RowKit Go.Shelf Go.Sort
attribute [local go_sem] World.cell?_alloc_mark ext_size ext_cell ext_frozen lt_add_r lt_add_r2 lt_add_r3 lt_add_r4 lt_add_r5 lt_add_r6 lt_add_r7 lt_add_r8
abbrev PQ:=ByteArray×Rat
instance:Inhabited PQ:=⟨(⟨#[]⟩,0)⟩
def partCmp (x y:PQ):Int:=cmpN x.1 y.1
theorem ltOf_part (x y:PQ):ltOf partCmp x y=lessN x.1 y.1:=cmpN_neg _ _
theorem part_swo:Sort.SWO (ltOf partCmp) where
 irrefl x:=by rw[ltOf_part];exact lessN_irr _
 trans x y z h1 h2:=by rw[ltOf_part]at*;exact lessN_trans h1 h2
 ntrans x y z h1 h2:=by
  rw[ltOf_part]at*
  cases h:lessN x.1 z.1
  ·rfl
  ·exfalso
   rcases lessN_tri y.1 z.1 with h3|h3|h3
   ·rw[h2]at h3;cases h3
   ·rw[h3,h]at h1;cases h1
   ·rw[lessN_trans h h3]at h1;cases h1
theorem perm_upP {d d':Array PQ} (hp:Sort.PermIn 0 d.size d d') (hs:Sort.SortedIn (ltOf partCmp) 0 d.size d'):d'.toList.Perm d.toList/\UpP d'.toList:=by
 obtain⟨hsz,_,hperm⟩:=hp
 have e1:d'.extract 0 d.size=d':=by rw[<-hsz];exact Array.extract_size
 rw[e1,Array.extract_size]at hperm
 refine⟨hperm,List.pairwise_iff_getElem.2 fun i j hi hj hij=> ?_⟩
 have hi':i<d'.size:=by simpa using hi
 have hj':j<d'.size:=by simpa using hj
 have:=hs i j (Nat.zero_le _) hij (by omega)
 rw[ltOf_part,getElem!_pos d' j hj',getElem!_pos d' i hi']at this
 simpa using this
theorem flatP_get (d:Array PQ) {k j:Nat} {x:PQ} {u:Value} (hk:d.toList[k]?=some x) (hj:(partCells x)[j]?=some u):k*3+j<(Sort.flatK partCells 3 d).size/\(Sort.flatK partCells 3 d)[k*3+j]! =u:=by
 have hj3:j<3:=by have:=(List.getElem?_eq_some_iff.1 hj).1;rw[part_len]at this;exact this
 have hkd:k<d.size:=by have:=(List.getElem?_eq_some_iff.1 hk).1;simpa using this
 have hlt:k*3+j<d.size*3:=by omega
 refine⟨by rw[Sort.size_flatK];exact hlt,?_⟩
 rw[Sort.get_flatK _ _ _ _ hlt,show(k*3+j)/3=k by omega,show(k*3+j)%3=j by omega]
 have:d[k]! =x:=by
  rw[getElem!_pos d k hkd]
  have:=(List.getElem?_eq_some_iff.1 hk).2
  simpa using this
 rw[this,List.getElem!_eq_getElem?_getD,hj]
 rfl
theorem ownS_holds {w:World} {base g o cap:Nat} {cur:Array Value} {xs:Parts} (hg:w.heap[g]?=some (.cells cur 49 (0,0))) (hx: ∀j u,(xs.flatMap partCells)[j]?=some u->cur[o+j]?=some u):Sort.HoldsK partCells 3 w g o xs.toArray:=fun j hj=>by
 rw[Sort.size_flatK]at hj
 have hj':j<xs.length*3:=by simpa using hj
 have hlt:j/3<xs.length:=by omega
 have hx1:xs[j/3]?=some xs[j/3]:=List.getElem?_eq_getElem hlt
 have hu:(partCells xs[j/3])[j%3]?=some ((partCells xs[j/3])[j%3]'(by rw[part_len];omega)):=List.getElem?_eq_getElem _
 obtain⟨_,h2⟩:=flatP_get xs.toArray (k:=j/3) (x:=xs[j/3]) (show xs.toArray.toList[j/3]?=_ from hx1) hu
 have hc:=hx (j/3*3+j%3) _ (flat_at partCells 3 part_len xs _ _ hx1 _ _ hu)
 have e:j/3*3+j%3=j:=by omega
 rw[e]at h2 hc
 refine⟨?_,?_⟩
 ·rw[h2]
  simp only[World.cell?,hg]
  exact hc
 ·simp[World.frozen?,hg]
theorem sort_heap {w:World} {g o n cap:Nat} {cur:Array Value} {d:Array PQ} {os:Array Obj} (hg:w.heap[g]?=some (.cells cur 49 (0,0))) (hcap:o+cap*3<=cur.size): ∃cur',(sortWorldK partCells 3 w g o n d os).heap[g]?=some (.cells cur' 49 (0,0))/\o+cap*3<=cur'.size:=by
 have hl:=blk_lt hg
 refine⟨putCells id o (flatK partCells 3 d) cur,?_,by unfold putCells;rw[Array.size_mapIdx];exact hcap⟩
 show((Sort.mapBlock _ _ _).heap++os)[g]?=_
 rw[Array.getElem?_append_left (by simp[Sort.mapBlock,Sort.ahead];omega)]
 simp only[Sort.mapBlock,Sort.ahead]
 rw[Array.getElem?_modify,if_pos rfl,hg]
 rfl
theorem below_sortP {w W:World} {g o n:Nat} {dk:Array PQ} {os:Array Obj} (hg:w.heap.size<=g) (hB:Below w.heap.size w W):Below w.heap.size w (sortWorldK partCells 3 W g o n dk os):=by
 refine hB.trans ⟨rfl,rfl,rfl,?_,fun k hk=> ?_⟩
 ·show _<=((Sort.mapBlock _ _ _).heap++os).size
  simp[Sort.mapBlock,Sort.ahead]
 ·have hs:=hB.size
  show((Sort.mapBlock _ _ _).heap++os)[k]?=_
  rw[Array.getElem?_append_left (by simp[Sort.mapBlock,Sort.ahead];omega)]
  simp only[Sort.mapBlock,Sort.ahead]
  rw[Array.getElem?_modify,if_neg (by omega)]
set_option maxRecDepth 100000 in
set_option maxHeartbeats 2000000 in
theorem estCmp_any (x y:PQ) (W:World):Calls Tryz.prog 75 #[.agg (partCells x).toArray, .agg (partCells y).toArray] W fun e w'=>e= .returned (.int .i64 (partCmp x y))/\ ∃q os',w'=grow (W.drewN q) os':=by
 obtain⟨a0,a1⟩:=x
 obtain⟨b0,b1⟩:=y
 have hc:=fun W'=>scmp5_any a0 b0 W'
 have hl:partCmp (a0,a1) (b0,b1)=cmpN a0 b0:=rfl
 rw[hl]
 generalize cmpN a0 b0=r at hc⊢
 simp only[partCells]
 go_enter Tryz.func75,Tryz.ntmps75
 go_wp2_with (go_at_call 76;refine(hc _).mono ?_;rintro e wq ⟨rfl,rfl⟩)
 go_ret
 exact⟨rfl,0,_,by rw[alloc_eq_grow,alloc_eq_grow,grow_grow];rfl⟩
set_option maxRecDepth 100000 in
set_option maxHeartbeats 2000000 in
theorem sortP0 (g off cap:Nat) (d:Array PQ) (w:World) (hH:Sort.HoldsK partCells 3 w g off d) (hg:g<w.heap.size) (hsz:d.size<=1000000000):
 Calls Tryz.prog 74 #[.slice (some ⟨g,off,none⟩) d.size cap, .func (.func 75) #[] #[]] w fun e w'=>
  e= .returned (.tuple #[])/\ ∃d' n os,Sort.PermIn 0 d.size d d'/\Sort.SortedIn (ltOf partCmp) 0 d.size d'/\w'=sortWorldK partCells 3 w g off n d' os:=by
 have eg: ∀args w,(callFunc 75 args).run Tryz.prog w= .ok (.enter 75 args) w:=enters_of Tryz.func75 (by kernel_rfl) rfl
 have hcon:=AnyQ.slices_SortFunc sortPart 3 Tryz.isAgg49 Tryz.sizeOf49 partCells part_len part_one partCmp part_swo 75 #[] g off cap d w eg (fun _ _ _ _ x y=>by simpa using estCmp_any x y _) hH hg (by omega)
 change Calls Tryz.prog 74 _ _ _ at hcon
 exact hcon
set_option maxRecDepth 100000 in
set_option maxHeartbeats 2000000 in
theorem sortP_none (fv:Value) (w:World):Calls Tryz.prog 74 #[.slice none 0 0,fv] w fun e w'=>e= .returned (.tuple #[])/\w'=w:=by
 have hcon:=AnyF.slices_SortFunc_none sortPart none 0 fv w
 change Calls Tryz.prog 74 _ _ _ at hcon
 exact hcon
theorem sortP_any (v:Value) (ls:Parts) (base:Nat) (w:World) (hown:OwnS w base 49 3 partCells v ls) (hl:ls.length<=1000000000):
 Calls Tryz.prog 74 #[v, .func (.func 75) #[] #[]] w fun e w'=>e= .returned (.tuple #[])/\ ∃L,L.Perm ls/\UpP L/\OwnS w' base 49 3 partCells v L/\(∀w0:World,Below w0.heap.size w0 w->w0.heap.size<=base->Below w0.heap.size w0 w')/\w.grownBy w' (blkOf v):=by
 rcases hown with⟨rfl,rfl⟩|⟨g,o,cap,cur,rfl,hb,hg,hc,hm,hs,hx⟩
 ·refine(sortP_none _ _).mono ?_
  rintro e wq ⟨rfl,rfl⟩
  exact⟨rfl,[],List.Perm.refl _,List.Pairwise.nil,OwnS.nil,fun w0 h _=>h,grown_refl _ _⟩
 ·have hgl:=blk_lt hg
  have hH:=ownS_holds (base:=base) (cap:=cap) hg hx
  have h:=sortP0 g o cap ls.toArray w hH hgl (by simpa using hl)
  have e:ls.toArray.size=ls.length:=by simp
  rw[e]at h
  refine h.mono ?_
  rintro e wq ⟨rfl,d',n,os,hp,hso,rfl⟩
  obtain⟨h1,h2⟩:=perm_upP (by rw[e];exact hp) (by rw[e];exact hso)
  have h1':d'.toList.Perm ls:=h1
  have hlen:d'.toList.length=ls.length:=h1'.length_eq
  obtain⟨cur',hg',hs'⟩:=sort_heap (n:=n) (d:=d') (os:=os) hg hs
  have hH':=holdsK_sortWorldK partCells 3 w g o n ls.toArray d' os hgl hH (by simpa using hlen)
  refine⟨rfl,d'.toList,h1',h2, .inr ⟨g,o,cap,cur',by rw[hlen],hb,hg',by omega,hm,hs',?_⟩,fun w0 h hb0=>below_sortP (by omega) h,?_⟩
  ·intro j u hu
   have hjl:j<d'.toList.length*3:=by
    have:=(List.getElem?_eq_some_iff.1 hu).1
    rw[flat_len partCells 3 part_len]at this
    exact this
   have hk:d'.toList[j/3]?=some (d'.toList[j/3]'(by omega)):=List.getElem?_eq_getElem _
   have hj3:j%3<3:=Nat.mod_lt _ (by decide)
   have hv:(partCells (d'.toList[j/3]'(by omega)))[j%3]?=some ((partCells (d'.toList[j/3]'(by omega)))[j%3]'(by rw[part_len];exact hj3)):=List.getElem?_eq_getElem _
   obtain⟨q1,q2⟩:=flatP_get d' hk hv
   have q3:=flat_at partCells 3 part_len d'.toList _ _ hk _ _ hv
   have e3:j/3*3+j%3=j:=by omega
   rw[e3]at q1 q2 q3
   have q4:=(hH' j q1).1
   rw[q2]at q4
   rw[q3]at hu
   simp only[World.cell?,hg']at q4
   rw[<-hu]
   exact q4
  ·refine⟨rfl,rfl,rfl,?_,fun k hk hne=> ?_⟩
   ·show _<=((Sort.mapBlock _ _ _).heap++os).size
    simp[Sort.mapBlock,Sort.ahead]
   ·have hkg: ¬g=k:=fun e=>hne (by simp[blkOf,e])
    show((Sort.mapBlock _ _ _).heap++os)[k]?=_
    rw[Array.getElem?_append_left (by simp[Sort.mapBlock,Sort.ahead];omega)]
    simp only[Sort.mapBlock,Sort.ahead]
    rw[Array.getElem?_modify,if_neg hkg]
end Go.Proofs.YtmaidggpbihlgaaGreatDoor
