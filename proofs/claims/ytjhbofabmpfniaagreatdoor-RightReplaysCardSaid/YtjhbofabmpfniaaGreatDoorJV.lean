/- Walk of chapter 5's sort of parts by names. -/
import Derived.Test.YtjhbofabmpfniaaGreatDoorJQ
import Derived.Test.YtjhbofabmpfniaaGreatDoorO7
set_option linter.unusedSimpArgs false
set_option linter.unusedVariables false
set_option maxRecDepth 100000
set_option maxHeartbeats 4000000
namespace Go.Proofs.YtjhbofabmpfniaaGreatDoor
open Go.RowKit Go.Shelf
attribute [local go_sem] World.cell?_alloc_mark zae za3 zam za6 zas zat zau zav zaw zax zay
attribute [local go_sem] zaj zac
theorem ItemsN.same {W W':World} {Q:Nat->Prop} (hb: ∀(k:Nat) (cur:Array Value) (fr:Nat×Nat),W.heap[k]?=some (.cells cur 243 fr)->W'.heap[k]?=W.heap[k]?): ∀ {f:Nat} {es:List Ln} {l:List Tree},ItemsN W Q f es l->ItemsN W' Q f es l
 |0,_,_,h=>h
 |f+1,es,l,h=>⟨h.1,fun k e t h1 h2=>by
  rcases h.2 k e t h1 h2 with h3|⟨l',A,c,es',h3,h4,h5,h6,hQ,h7,h8⟩
  ·exact .inl h3
  ·exact .inr ⟨l',_,c,es',h3,h4,h5,h6,hQ,h7.same (fun b cur fr hx _=>hb b cur fr hx),ItemsN.same hb h8⟩⟩
theorem zkC {w w':World} {C m:Nat} {fl:Bool} {out:Parts} (h:Two2 w w' C m) (hM:MarkAt w C fl) (hS:HasAt w m out): ∀(k:Nat) (cur:Array Value) (fr:Nat×Nat),w.heap[k]?=some (.cells cur 243 fr)->w'.heap[k]?=w.heap[k]?:=fun k cur fr hk=>by
 refine h.others k (Array.getElem?_eq_some_iff.1 hk).1 (fun e=> ?_) (fun e=> ?_)
 ·subst e;unfold MarkAt at hM;rw[hM]at hk;simp at hk
 ·subst e;obtain⟨mm,⟨es,c,h1,_⟩,_⟩:=hS;rw[h1]at hk;simp at hk
theorem Two2.set {w W:World} {C m:Nat} (h:Two2 w W C m) {P o:Nat} (hC:C<w.heap.size) (hP:w.heap.size<=P) (v:Value):Two2 w (W.setCell ⟨P,o,none⟩ v) C m:=
 ⟨fun n h1 h2 h3=>zaM (h.below n h1 h2 h3) (by show n<=P;omega) v,fun k hk h1 h2=>by
   rw[<-h.others k hk h1 h2];have hb: ¬P=k:=Mcn
   simp[World.setCell,Array.getElem?_modify,hb],by simp only[World.setCell,Array.size_modify];exact h.size⟩
theorem Two2.alloc {w W:World} {C m:Nat} (h:Two2 w W C m) (o:Obj):Two2 w (W.alloc o) C m:=h.trans (Two2.of_below (zad (Below.refl _ _) o))
theorem Two2.refl2 (w:World) (C m:Nat):Two2 w w C m:=Two2.of_below (Below.refl _ _)
theorem Two2.drew {w W:World} {C m:Nat} (h:Two2 w W C m):Two2 w W.drew C m:=h.trans (Two2.of_below (zaH (Below.refl _ _)))
theorem Two2.ext {w W:World} {C m:Nat} (h:Two2 w W C m) (z:Ez):Two2 w (W.ext z) C m:=h.trans (Two2.of_below (zaq W z))
theorem zhj (b h C m:Nat) (law:Law) (who:ByteArray) (nB:h≠C) (pG:h≠m) (tq:C≠m): ∀(f:Nat) (es:List Ln) (l:List Tree) (Q:Nat->Prop) (A:Option Addr) (n c:Nat) (q t:Rat) (out:Parts) (fl:Bool) (w:World),
 ItemsN w Q f es l->WideN f l->Ro w 243 lnC A es->l≠[]->n=l.length->HeirAt w h b law who C m->MarkAt w C fl->HasAt w m out->0<=q->q<=1->zaI q->Bd out t->t+q<=1->
 Calls Tryz.prog 151 #[.pointer (some ⟨h,0,none⟩), .slice A n c, .agg #[.int .i64 q.num, .int .i64 q.den]] w (zl4 w C m (zcx l q (out,fl)))
 |0,es,l,Q,A,n,c,q,t,out,fl,w,hI,_,_,ai,_,_,_,_,_,_,_,_,_=>absurd hI.2 ai
 |f+1,es,l,Q,A,n,c,q,t,out,fl,w,hI,DO,hR,ai,hn,hH,hM,hS,gK,cZ,hqs,dg,Ao=>by
  have IH:=zHi (zhj b h C m law who nB pG tq f);have ag:=hI.len;have cS:0<l.length:=List.length_pos_iff.2 ai;obtain⟨bS,GE⟩:=DO;have hh:=zab hH;have vt:=zab hM;have fh:=hS.lt;obtain⟨iX,jZ,eA,Dv⟩:=part_ok gK cZ cS;have pR:=zl6 cS bS;obtain⟨kZ,tT,_,_⟩:=zhP cS;rw[zcx];rw[<-hn]at iX jZ eA Dv pR kZ tT⊢;generalize hpart:zbg (q*(1/(n:Rat)))=part at*;have Ai:=fun(W:World) (cC:MarkAt W C fl)=>zhM C fl W cC q (1/(n:Rat)) hqs pR
  unfold zeG zaB at Ai;simp only[hpart,kZ,tT]at Ai;have jd:=zHi Ai;clear Ai kZ tT pR;have HP:=zHi hpart;have HI:=zHi hI;have qP:=zHi GE;have HR:=zHi hR;have HH:=zHi hH;have HM:=zHi hM;have HS:=zHi hS;have HB:=zHi dg;have IA:=zHi Ao;have Im:=zHi Dv;unfold HeirAt at hH;obtain⟨-,-,-,-,-,-,e6⟩:=cF7 hH;clear hI GE hR hH hM hS dg Ao Dv hpart;generalize bigQ (q*(1/(n:Rat)))=bg at*;have pI:n<=1000:=Mcn;have HN:=zHi hn;have eO:=zHi ag;clear hn ag;go_enter Tryz.func151,Tryz.ntmps151
  go_upto_region 1 with fail
  go_cut [6]from 7 (fun v wc=> ∃P,v= .pointer (some ⟨P,0,none⟩)/\w.heap.size<P/\wc.heap[P]?=some (zbr part)/\MarkAt wc C (fl||bg)/\HasAt wc m out/\Two2 w wc C m)
  case first=>
   refine wp_region_held_drew (S:=(fun w'=>w'.cell? ⟨h,6,none⟩=some (.pointer (some ⟨C,0,none⟩))/\w'.cell? ⟨w.heap.size,0,none⟩=some (.int .i64 q.num)/\w'.cell? ⟨w.heap.size,1,none⟩=some (.int .i64 q.den))) Mco ?hS ?hrest
   case hS=>((try dsimp only);refine⟨?_,?_,?_⟩<;>(simp[go_sem,e6,hh];done))
   case hrest=>
    intro hHeld;refine TkH 0 ?_;refine TkH 1 ?_;refine TkH 2 ?_;refine TkH 3 ?_;refine TkH 4 ?_;refine TkH 5 ?_;refine TkH 6 ?_;refine TkH 7 ?_;refine wpAnyH_ready (rs:=[8,9]) Mco Mcq (AllReadyH.cons (List.getElem?_toArray.trans rfl) (fun K hK=> ?_) (AllReadyH.cons (List.getElem?_toArray.trans rfl) (fun K hK=> ?_) AllReadyH.nil))
    ·go_simp
     refine(jd.o _ ?q1).mono ?_
     case q1=>(repeat(first|exact HM.o|refine MarkAt.drew ?_|refine MarkAt.alloc ?_ _))
     rintro e w5 ⟨rfl,n1,n2⟩;have dZ:=n2.size;have x0:w5.cell? ⟨h,6,none⟩=some (.pointer (some ⟨C,0,none⟩)):=(zbb n2 Mcr nB).trans Mew;have x1:w5.cell? ⟨w.heap.size,0,none⟩=some (.int .i64 q.num):=(zbb n2 (by simp;try omega) Mcn).trans McQ;have x2:w5.cell? ⟨w.heap.size,1,none⟩=some (.int .i64 q.den):=(zbb n2 (by simp;try omega) Mcn).trans McQ;have x3:w.heap.size<w5.heap.size:=MdW;have x4:h<w5.heap.size:=MdW;have N1:=zHi n1;have N2:=zHi n2;clear n1 n2;refine hK.out _ _ ?_ (fun hHeld=> ?_);focus((try dsimp only);refine⟨?_,?_,?_⟩<;>first|assumption|(simp[go_sem,e6,hh];done)|(simp[go_sem,x0,x1,x2,x3,x4];done)|(trace_state;fail "nextR"))
     clear hK K;try simp only[Act.put,List.setIfInBounds_toArray,List.set_cons_zero,List.set_cons_succ]
     refine OnH 9 fun K hK=> ?_
     go_simp
     refine hK.out _ _ ?_ (fun hHeld=> ?_);focus((try dsimp only);refine⟨?_,?_,?_⟩<;>first|assumption|(simp[go_sem,e6,hh];done)|(simp[go_sem,x0,x1,x2,x3,x4];done)|(trace_state;fail "nextR"))
     clear hK K;try simp only[Act.put,List.setIfInBounds_toArray,List.set_cons_zero,List.set_cons_succ]
     refine OnH 10 fun K hK=> ?_
     go_simp
     refine hK.out _ _ ?_ (fun hHeld=> ?_);focus((try dsimp only);refine⟨?_,?_,?_⟩<;>first|assumption|(simp[go_sem,e6,hh];done)|(simp[go_sem,x0,x1,x2,x3,x4];done)|(trace_state;fail "nextR"))
     clear hK K;try simp only[Act.put,List.setIfInBounds_toArray,List.set_cons_zero,List.set_cons_succ]
     refine wpAnyH_done Mco ?_ _;go_wp2_with fail
     go_meet
     have r2:Two2 w w5 C m:=Two2.trans McC (Two2.grownC N2.o);have s5:HasAt w5 m out:=HasAt.block (HS.o.keep (n:=w.heap.size) Bw) (N2.o.block m Mcr Mcr);exact⟨_,rfl,by omega,zar _ _ _ rfl,N1.o.alloc _,s5.keep (n:=w5.heap.size) (zad (Below.refl _ _) _),r2.alloc _⟩
    ·go_simp
     refine hK.out _ _ ?_ (fun hHeld=> ?_);focus((try dsimp only);refine⟨?_,?_,?_⟩<;>first|assumption|(simp[go_sem,e6,hh];done)|(simp[go_sem,x0,x1,x2,x3,x4];done)|(trace_state;fail "nextR"))
     clear hK K;try simp only[Act.put,List.setIfInBounds_toArray,List.set_cons_zero,List.set_cons_succ]
     refine OnH 8 fun K hK=> ?_
     go_simp
     refine(jd.o _ ?q1).mono ?_
     case q1=>(repeat(first|exact HM.o|refine MarkAt.drew ?_|refine MarkAt.alloc ?_ _))
     rintro e w5 ⟨rfl,n1,n2⟩;have dZ:=n2.size;have x0:w5.cell? ⟨h,6,none⟩=some (.pointer (some ⟨C,0,none⟩)):=(zbb n2 Mcr nB).trans Mew;have x1:w5.cell? ⟨w.heap.size,0,none⟩=some (.int .i64 q.num):=(zbb n2 (by simp;try omega) Mcn).trans McQ;have x2:w5.cell? ⟨w.heap.size,1,none⟩=some (.int .i64 q.den):=(zbb n2 (by simp;try omega) Mcn).trans McQ;have x3:w.heap.size<w5.heap.size:=MdW;have x4:h<w5.heap.size:=MdW;have N1:=zHi n1;have N2:=zHi n2;clear n1 n2;have yP:w5.heap[w.heap.size+1]?=some (.cells #[.int .i64 0, .int .i64 0] 71):=(N2.o.block _ Mcq Mcr).trans (zar _ _ _ Mcq);obtain⟨y0,y1⟩:=cF2 yP;have f0:w5.frozen? ⟨w.heap.size+1,0,none⟩=false:=by simp only[World.frozen?,yP];rfl
     have f1:w5.frozen? ⟨w.heap.size+1,1,none⟩=false:=by simp only[World.frozen?,yP];rfl
     have Aa:h≠w.heap.size+1:=Mcn;have Jn:=zab yP;refine hK.out _ _ ?_ (fun hHeld=> ?_);focus((try dsimp only);refine⟨?_,?_,?_⟩<;>first|assumption|(simp[go_sem,e6,hh];done)|(simp[go_sem,x0,x1,x2,x3,x4];done)|(trace_state;fail "nextR"))
     clear hK K;try simp only[Act.put,List.setIfInBounds_toArray,List.set_cons_zero,List.set_cons_succ]
     refine OnH 10 fun K hK=> ?_
     go_simp
     refine hK.out _ _ ?_ (fun hHeld=> ?_);focus((try dsimp only);refine⟨?_,?_,?_⟩<;>first|assumption|(simp[go_sem,e6,hh];done)|(simp[go_sem,x0,x1,x2,x3,x4];done)|(trace_state;fail "nextR"))
     clear hK K;try simp only[Act.put,List.setIfInBounds_toArray,List.set_cons_zero,List.set_cons_succ]
     refine wpAnyH_done Mco ?_ _;go_wp2_with fail
     go_meet
     have r2:Two2 w w5 C m:=Two2.trans McC (Two2.grownC N2.o);have s5:HasAt w5 m out:=HasAt.block (HS.o.keep (n:=w.heap.size) Bw) (N2.o.block m Mcr Mcr)
     have s6:HasAt ((w5.setCell ⟨w.heap.size+1,0,none⟩ (.int .i64 part.num)).setCell ⟨w.heap.size+1,1,none⟩ (.int .i64 part.den)) m out:=s5.block (by
      have hb: ¬w.heap.size+1=m:=Mcn
      simp[World.setCell,Array.getElem?_modify,hb])
     exact⟨_,rfl,by omega,zer yP,J_ne Mcn (J_ne Mcn N1.o),s6,(r2.set vt Mcn _).set vt Mcn _⟩
  case rest=>
   obtain⟨P,rfl,hP,tB,nD,aw,EN⟩:=hcut;obtain⟨W0,rfl⟩: ∃x,x=wc:=⟨_,rfl⟩
   have g7:=zHi aw;have Ib:=zHi nD;have GR:=zHi EN;have Ik:=zHi tB;have Jn:=zab tB;clear nD EN tB aw;go_wp2_with fail
   go_loopw [20] (fun i wr=> ∃(k:Nat) (o2:Parts) (f2:Bool),k<=n/\i= .int .i64 k/\Hid ((o2,f2)=zbN part (l.take k) (out,fl||bg))/\HasAt wr m o2/\MarkAt wr C f2/\Two2 w wr C m/\wr.heap[P]?=some (zbr part)) (fun i _=>n-(intOf i).toNat)
   case atStart=>exact⟨0,out,fl||bg,Nat.zero_le _,rfl,by show _=_;rw[List.take_zero,zbN],g7.o,Ib.o,GR.o,Ik.o⟩
   case round=>
    obtain⟨k,o2,f2,hk,rfl,HX,hs,hm,h2,vQ⟩:=hrel;have BF:=zHi hs;have Bf:=zHi hm;have DW:=zHi h2;have Ip:=zHi vQ;have hsz:=h2.size;have p0:wr.cell? ⟨P,0,none⟩=some (.int .i64 part.num):=by simp only[World.cell?,vQ,zbr];rfl
    have p1:wr.cell? ⟨P,1,none⟩=some (.int .i64 part.den):=by simp only[World.cell?,vQ,zbr];rfl
    have Jo:=zab vQ;have hPn:P≠wr.heap.size:=Mcn;by_cases aa:k<n
    ·have Fm:=HR.o.same (fun b cur fr hx _=>zkC h2 HM.o HS.o b cur fr hx);have F6:=HI.o.same (zkC h2 HM.o HS.o);have bN:k<es.length:=by have:=eO.o;have:=HN.o;omega
     have fg:k<l.length:=by have:=HN.o;omega
     obtain⟨b',off,rfl,cJ,hc⟩:=(Ro.sl zjK Fm).at bN;have Kk:=F6.2 k es[k] l[k] (List.getElem?_eq_getElem bN) (List.getElem?_eq_getElem fg);have bU:=zmN part l (out,fl||bg) fg;have bH:l[k]∈l:=List.getElem_mem fg;have rQ:=zhO iX (l:=l.take k) (fl:=fl||bg) HB.o;rw[List.length_take,Nat.min_eq_left Mcn]at rQ;have aE:t+part*(k:Rat)+part<=1:=by
      have h1:=take_le iX (Nat.succ_le_of_lt aa);rw[zg5]at h1;have h2:=Im.o;have h3:=IA.o;grind
     rw[<-HX.o]at bU rQ;have ej:=zHi bU;have AA:=zHi rQ;have E3:=zHi aE;have Ec:Hid (HeirAt wr h b law who C m):=(h2.others h hh nB pG).trans HH.o;have ar:(k:Int)<(n:Int):=Mcn;have aT:(0:Int)<=(k:Int):=Mcn;clear hs hm h2 vQ Fm F6 bU rQ aE;rcases Kk with⟨nm,hx,hy⟩|⟨l',A',c',es',hx,hy,hz,Dr,_,xV,x9⟩
     ·have i0:wr.cell? ⟨b',off+k*2,none⟩=some (.string nm):=hc 0 _ (by rw[hy];rfl);have i1:wr.cell? ⟨b',off+k*2+1,none⟩=some (.slice none 0 0):=hc 1 _ (by rw[hy];rfl);have bU:=ej.o;rw[hx,zdS]at bU;have ej:=zHi bU;clear hc hx hy bU bH;go_wp2_with (go_at_call 147;refine(zg4 b h C m law who nm part o2 f2 _ (Ec.o.keep (n:=wr.heap.size) Bw) (Bf.o.keep (n:=wr.heap.size) Bw Mcn) (BF.o.keep (n:=wr.heap.size) Bw) nB pG tq AA.o.good (AA.o.share (by have:=E3.o;grind) nm) eA).mono ?_;rintro e wq ⟨rfl,g1,g2,g3⟩)
      exact ML
     ·have uc:es[k]=(⟨#[]⟩,some A',l'.length,c'):=hy;have i0:wr.cell? ⟨b',off+k*2,none⟩=some (.string ⟨#[]⟩):=hc 0 _ (by rw[uc];rfl);have i1:wr.cell? ⟨b',off+k*2+1,none⟩=some (.slice (some A') l'.length c'):=hc 1 _ (by rw[uc];rfl);have bU:=ej.o;rw[hx,zor]at bU;have ej:=zHi bU;have yw:=qP.o l' (by rw[<-hx];exact bH);have I1:=zHi (fun W h1 h2 h3 h4 h5=>IH.o es' l' Q (some A') l'.length c' part _ o2 f2 W h1 yw h2 Dr rfl h3 h4 h5 iX jZ eA AA.o E3.o);have bF:=zHi x9;have nW:=zHi xV;clear hc hx hy uc bU bH x9 xV yw;go_wp2_with (go_at_call 151;refine(I1.o _ (bF.o.keep (n:=wr.heap.size) Bw) (nW.o.keep (n:=wr.heap.size) Bw) (Ec.o.keep (n:=wr.heap.size) Bw) (Bf.o.keep (n:=wr.heap.size) Bw Mcn) (BF.o.keep (n:=wr.heap.size) Bw)).mono ?_;rintro e wq ⟨rfl,g1,g2,g3⟩)
      exact ML
    ·have ar: ¬(k:Int)<(n:Int):=Mcn;rw[List.take_of_length_le (by have:=HN.o;omega)]at HX;go_wp2_with fail
     go_end0
     rw[<-HX.o];exact⟨rfl,BF.o,Bf.o,DW.o⟩
end Go.Proofs.YtjhbofabmpfniaaGreatDoor
namespace Go.Proofs.YtjhbofabmpfniaaGreatDoor
open Go.RowKit Go.Shelf Go.Sort
attribute [local go_sem] World.cell?_alloc_mark zae za3 zam za6 zas zat zau zav zaw zax zay
abbrev PQ:=ByteArray×Rat
instance:Inhabited PQ:=⟨(⟨#[]⟩,0)⟩
def zgc (x y:PQ):Int:=cmpN x.1 y.1
theorem zgC (x y:PQ):ltOf zgc x y=zbn x.1 y.1:=znF _ _
theorem part_swo:Sort.SWO (ltOf zgc) where
 irrefl x:=by rw[zgC];exact zfd _
 trans x y z h1 h2:=by rw[zgC]at*;exact zb4 h1 h2
 ntrans x y z h1 h2:=by
  rw[zgC]at*;cases h:zbn x.1 z.1
  ·rfl
  ·exfalso
   rcases zdu y.1 z.1 with h3|h3|h3
   ·rw[h2]at h3;cases h3
   ·rw[h3,h]at h1;cases h1
   ·rw[zb4 h h3]at h1;cases h1
theorem perm_upP {d d':Array PQ} (hp:Sort.PermIn 0 d.size d d') (hs:Sort.SortedIn (ltOf zgc) 0 d.size d'):d'.toList.Perm d.toList/\UpP d'.toList:=by
 obtain⟨hsz,_,pS⟩:=hp;have e1:d'.extract 0 d.size=d':=by rw[<-hsz];exact Array.extract_size
 rw[e1,Array.extract_size]at pS;refine⟨pS,List.pairwise_iff_getElem.2 fun i j hi hj cP=> ?_⟩;have Ki:i<d'.size:=by simpa using hi
 have sg:j<d'.size:=Mev;have:=hs i j (Nat.zero_le _) cP Mcn;rw[zgC,getElem!_pos d' j sg,getElem!_pos d' i Ki]at this;simpa using this
theorem zlO (d:Array PQ) {k j:Nat} {x:PQ} {u:Value} (hk:d.toList[k]?=some x) (hj:(zaa x)[j]?=some u):k*3+j<(Sort.flatK zaa 3 d).size/\(Sort.flatK zaa 3 d)[k*3+j]! =u:=by
 have Di:j<3:=by have:=(List.getElem?_eq_some_iff.1 hj).1;rw[zao]at this;exact this
 have bQ:k<d.size:=by have:=(List.getElem?_eq_some_iff.1 hk).1;simpa using this
 have aa:k*3+j<d.size*3:=Mcn;refine⟨by rw[Sort.size_flatK];exact aa,?_⟩;rw[Sort.get_flatK _ _ _ _ aa,show(k*3+j)/3=k by omega,show(k*3+j)%3=j by omega];have:d[k]! =x:=by
  rw[getElem!_pos d k bQ];have:=(List.getElem?_eq_some_iff.1 hk).2;simpa using this
 rw[this,List.getElem!_eq_getElem?_getD,hj];rfl
theorem zoJ {w:World} {base g o cap:Nat} {cur:Array Value} {xs:Parts} (hg:w.heap[g]?=some (.cells cur 75 (0,0))) (hx: ∀j u,(xs.flatMap zaa)[j]?=some u->cur[o+j]?=some u):Sort.HoldsK zaa 3 w g o xs.toArray:=fun j hj=>by
 rw[Sort.size_flatK]at hj;have sg:j<xs.length*3:=Mev;have aa:j/3<xs.length:=Mcn;have ke:xs[j/3]?=some xs[j/3]:=List.getElem?_eq_getElem aa;have hu:(zaa xs[j/3])[j%3]?=some ((zaa xs[j/3])[j%3]' Meb):=List.getElem?_eq_getElem _;obtain⟨_,h2⟩:=zlO xs.toArray (k:=j/3) (x:=xs[j/3]) (show xs.toArray.toList[j/3]?=_ from ke) hu;have hc:=hx (j/3*3+j%3) _ (zeY zaa 3 zao xs _ _ ke _ _ hu);have e:j/3*3+j%3=j:=Mcn;rw[e]at h2 hc;refine⟨?_,?_⟩
 ·rw[h2];simp only[World.cell?,hg];exact hc
 ·simp[World.frozen?,hg]
theorem sort_heap {w:World} {g o n cap:Nat} {cur:Array Value} {d:Array PQ} {os:Array Obj} (hg:w.heap[g]?=some (.cells cur 75 (0,0))) (au:o+cap*3<=cur.size): ∃cur',(sortWorldK zaa 3 w g o n d os).heap[g]?=some (.cells cur' 75 (0,0))/\o+cap*3<=cur'.size:=by
 have hl:=zab hg;refine⟨putCells id o (flatK zaa 3 d) cur,?_,by unfold putCells;rw[Array.size_mapIdx];exact au⟩;show((Sort.mapBlock _ _ _).heap++os)[g]?=_;rw[Array.getElem?_append_left MdX];simp only[Sort.mapBlock,Sort.ahead];rw[Array.getElem?_modify,if_pos rfl,hg];rfl
theorem zna {w W:World} {g o n:Nat} {dk:Array PQ} {os:Array Obj} (hg:w.heap.size<=g) (hB:Below w.heap.size w W):Below w.heap.size w (sortWorldK zaa 3 W g o n dk os):=by
 refine hB.trans ⟨rfl,rfl,rfl,?_,fun k hk=> ?_⟩
 ·exact MbP
 ·have hs:=hB.size;show((Sort.mapBlock _ _ _).heap++os)[k]?=_;rw[Array.getElem?_append_left MdX];simp only[Sort.mapBlock,Sort.ahead];rw[Array.getElem?_modify,if_neg Mcn]
theorem zoK (x y:PQ) (W:World):Calls Tryz.prog 153 #[.agg (zaa x).toArray, .agg (zaa y).toArray] W fun e w'=>e= .returned (.int .i64 (zgc x y))/\ ∃q os',w'=Go.Sort.grow (W.drewN q) os':=by
 obtain⟨a0,a1⟩:=x;obtain⟨b0,b1⟩:=y;have hc:=fun W'=>zlq a0 b0 W'
 have hl:zgc (a0,a1) (b0,b1)=cmpN a0 b0:=rfl;rw[hl];generalize cmpN a0 b0=r at hc⊢;simp only[zaa];go_enter Tryz.func153,Tryz.ntmps153
 go_wp2_with (go_at_call 154;refine(hc _).mono ?_;rintro e wq ⟨rfl,rfl⟩)
 go_ret
 exact⟨rfl,0,_,by rw[alloc_eq_grow,alloc_eq_grow,grow_grow];rfl⟩
theorem sortP0 (g off cap:Nat) (d:Array PQ) (w:World) (hH:Sort.HoldsK zaa 3 w g off d) (hg:g<w.heap.size) (hsz:d.size<=1000000000):
 Calls Tryz.prog 152 #[.slice (some ⟨g,off,none⟩) d.size cap, .func (.func 153) #[] #[]] w fun e w'=>
  e= .returned (.tuple #[])/\ ∃d' n os,Sort.PermIn 0 d.size d d'/\Sort.SortedIn (ltOf zgc) 0 d.size d'/\w'=sortWorldK zaa 3 w g off n d' os:=by
 have eg: ∀args w,(callFunc 153 args).run Tryz.prog w= .ok (.enter 153 args) w:=enters_of Tryz.func153 Mco rfl;have bC:=AnyQ.slices_SortFunc znB 3 Tryz.isAgg75 Tryz.sizeOf75 zaa zao zce zgc part_swo 153 #[] g off cap d w eg (fun _ _ _ _ x y=>by simpa using zoK x y _) hH hg Mcn;change Calls Tryz.prog 152 _ _ _ at bC;exact bC
theorem zoL (fv:Value) (w:World):Calls Tryz.prog 152 #[.slice none 0 0,fv] w fun e w'=>e= .returned (.tuple #[])/\w'=w:=by
 have bC:=AnyF.slices_SortFunc_none znB none 0 fv w;change Calls Tryz.prog 152 _ _ _ at bC;exact bC
theorem sortP_any (v:Value) (ls:Parts) (base:Nat) (w:World) (ae:OwnS w base 75 3 zaa v ls) (hl:ls.length<=1000000000):
 Calls Tryz.prog 152 #[v, .func (.func 153) #[] #[]] w fun e w'=>e= .returned (.tuple #[])/\ ∃L,L.Perm ls/\UpP L/\OwnS w' base 75 3 zaa v L/\(∀w0:World,Below w0.heap.size w0 w->w0.heap.size<=base->Below w0.heap.size w0 w')/\w.grownBy w' (zaA v):=by
 rcases ae with⟨rfl,rfl⟩|⟨g,o,cap,cur,rfl,hb,hg,hc,hm,hs,hx⟩
 ·refine(zoL _ _).mono ?_;rintro e wq ⟨rfl,rfl⟩;exact⟨rfl,[],List.Perm.refl _,List.Pairwise.nil,OwnS.nil,fun w0 h _=>h,zdE _ _⟩
 ·have cz:=zab hg;have hH:=zoJ (base:=base) (cap:=cap) hg hx;have h:=sortP0 g o cap ls.toArray w hH cz (by simpa using hl);have e:ls.toArray.size=ls.length:=Mcq;rw[e]at h;refine h.mono ?_;rintro e wq ⟨rfl,d',n,os,hp,tX,rfl⟩;obtain⟨h1,h2⟩:=perm_upP (by rw[e];exact hp) (by rw[e];exact tX);have pi:d'.toList.Perm ls:=h1;have ag:d'.toList.length=ls.length:=pi.length_eq;obtain⟨cur',eu,eM⟩:=sort_heap (n:=n) (d:=d') (os:=os) hg hs;have vB:=holdsK_sortWorldK zaa 3 w g o n ls.toArray d' os cz hH (by simpa using ag);refine⟨rfl,d'.toList,pi,h2, .inr ⟨g,o,cap,cur',by rw[ag],hb,eu,by omega,hm,eM,?_⟩,fun w0 h aY=>zna Mcn h,?_⟩
  ·intro j u hu;have cX:j<d'.toList.length*3:=by
    have:=(List.getElem?_eq_some_iff.1 hu).1;rw[zgj zaa 3 zao]at this;exact this
   have hk:d'.toList[j/3]?=some (d'.toList[j/3]' Mcn):=List.getElem?_eq_getElem _;have Di:j%3<3:=Nat.mod_lt _ Mcp;have hv:(zaa (d'.toList[j/3]' Mcn))[j%3]?=some ((zaa (d'.toList[j/3]' Mcn))[j%3]'(by rw[zao];exact Di)):=List.getElem?_eq_getElem _;obtain⟨q1,q2⟩:=zlO d' hk hv;have q3:=zeY zaa 3 zao d'.toList _ _ hk _ _ hv;have e3:j/3*3+j%3=j:=Mcn;rw[e3]at q1 q2 q3;have q4:=(vB j q1).1;rw[q2]at q4;rw[q3]at hu;simp only[World.cell?,eu]at q4;rw[<-hu];exact q4
  ·refine⟨rfl,rfl,rfl,?_,fun k hk ai=> ?_⟩
   ·exact MbP
   ·have Kt: ¬g=k:=fun e=>ai (by simp[zaA,e])
    show((Sort.mapBlock _ _ _).heap++os)[k]?=_;rw[Array.getElem?_append_left MdX];simp only[Sort.mapBlock,Sort.ahead];rw[Array.getElem?_modify,if_neg Kt]
end Go.Proofs.YtjhbofabmpfniaaGreatDoor
