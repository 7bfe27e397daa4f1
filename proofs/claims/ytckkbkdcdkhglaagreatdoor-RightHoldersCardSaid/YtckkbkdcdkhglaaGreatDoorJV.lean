/- Walk of chapter 5's sort of parts by names. -/
import Derived.Test.YtckkbkdcdkhglaaGreatDoorJQ
set_option linter.unusedSimpArgs false
set_option linter.unusedVariables false
set_option maxRecDepth 100000
set_option maxHeartbeats 4000000
namespace Go.Proofs.YtckkbkdcdkhglaaGreatDoor
open Go.RowKit Go.Shelf
attribute [local go_sem] World.cell?_alloc_mark zag za5 zaq za8 zaw zax zay zaz za0 za1 za2
attribute [local go_sem] zap zad
theorem ItemsN.same {W W':World} {Q:Nat->Prop} (hb: ∀(k:Nat) (cur:Array Value) (fr:Nat×Nat),W.heap[k]?=some (.cells cur 160 fr)->W'.heap[k]?=W.heap[k]?): ∀ {f:Nat} {es:List Ln} {l:List Tree},ItemsN W Q f es l->ItemsN W' Q f es l
 |0,_,_,h=>h
 |f+1,es,l,h=>⟨h.1,fun k e t h1 h2=>by
  rcases h.2 k e t h1 h2 with h3|⟨l',A,c,es',h3,h4,h5,h6,hQ,h7,h8⟩
  ·exact .inl h3
  ·exact .inr ⟨l',_,c,es',h3,h4,h5,h6,hQ,h7.same (fun b cur fr hx _=>hb b cur fr hx),ItemsN.same hb h8⟩⟩
theorem zkB {w w':World} {C m:Nat} {fl:Bool} {out:Parts} (h:Two2 w w' C m) (hM:MarkAt w C fl) (hS:HasAt w m out): ∀(k:Nat) (cur:Array Value) (fr:Nat×Nat),w.heap[k]?=some (.cells cur 160 fr)->w'.heap[k]?=w.heap[k]?:=fun k cur fr hk=>by
 refine h.others k (Array.getElem?_eq_some_iff.1 hk).1 (fun e=> ?_) (fun e=> ?_)
 ·subst e;unfold MarkAt at hM;rw[hM]at hk;simp at hk
 ·subst e;obtain⟨mm,⟨es,c,h1,_⟩,_⟩:=hS;rw[h1]at hk;simp at hk
theorem Two2.set {w W:World} {C m:Nat} (h:Two2 w W C m) {P o:Nat} (hC:C<w.heap.size) (hP:w.heap.size<=P) (v:Value):Two2 w (W.setCell ⟨P,o,none⟩ v) C m:=
 ⟨fun n h1 h2 h3=>zaO (h.below n h1 h2 h3) (by show n<=P;omega) v,fun k hk h1 h2=>by
   rw[<-h.others k hk h1 h2];have hb: ¬P=k:=Mcl
   simp[World.setCell,Array.getElem?_modify,hb],by simp only[World.setCell,Array.size_modify];exact h.size⟩
theorem Two2.alloc {w W:World} {C m:Nat} (h:Two2 w W C m) (o:Obj):Two2 w (W.alloc o) C m:=h.trans (Two2.of_below (zac (Below.refl _ _) o))
theorem Two2.refl2 (w:World) (C m:Nat):Two2 w w C m:=Two2.of_below (Below.refl _ _)
theorem Two2.drew {w W:World} {C m:Nat} (h:Two2 w W C m):Two2 w W.drew C m:=h.trans (Two2.of_below (zaM (Below.refl _ _)))
theorem Two2.ext {w W:World} {C m:Nat} (h:Two2 w W C m) (z:Ez):Two2 w (W.ext z) C m:=h.trans (Two2.of_below (zam W z))
theorem zhg (b h C m:Nat) (law:Law) (who:ByteArray) (nG:h≠C) (pE:h≠m) (tq:C≠m): ∀(f:Nat) (es:List Ln) (l:List Tree) (Q:Nat->Prop) (A:Option Addr) (n c:Nat) (q t:Rat) (out:Parts) (fl:Bool) (w:World),
 ItemsN w Q f es l->WideN f l->Ro w 160 lnC A es->l≠[]->n=l.length->HeirAt w h b law who C m->MarkAt w C fl->HasAt w m out->0<=q->q<=1->zaK q->Bd out t->t+q<=1->
 Calls Tryz.prog 74 #[.pointer (some ⟨h,0,none⟩), .slice A n c, .agg #[.int .i64 q.num, .int .i64 q.den]] w (zl7 w C m (zcz l q (out,fl)))
 |0,es,l,Q,A,n,c,q,t,out,fl,w,hI,_,_,ai,_,_,_,_,_,_,_,_,_=>absurd hI.2 ai
 |f+1,es,l,Q,A,n,c,q,t,out,fl,w,hI,Dx,hR,ai,hn,hH,hM,hS,gN,df,hqs,dp,htq=>by
  have IH:=zHi (zhg b h C m law who nG pE tq f);have ag:=hI.len;have cU:0<l.length:=List.length_pos_iff.2 ai;obtain⟨cx,Gr⟩:=Dx;have hh:=zab hH;have vD:=zab hM;have ft:=hS.lt;obtain⟨iX,ib,eD,Dd⟩:=part_ok gN df cU;have pP:=zl4 cU cx;obtain⟨kY,tX,_,_⟩:=zhO cU;rw[zcz];rw[<-hn]at iX ib eD Dd pP kY tX⊢;generalize hpart:zbi (q*(1/(n:Rat)))=part at*;have Aa:=fun(W:World) (cF:MarkAt W C fl)=>zhJ C fl W cF q (1/(n:Rat)) hqs pP
  unfold ze9 za9 at Aa;simp only[hpart,kY,tX]at Aa;have jb:=zHi Aa;clear Aa kY tX pP;have HP:=zHi hpart;have HI:=zHi hI;have qL:=zHi Gr;have HR:=zHi hR;have HH:=zHi hH;have HM:=zHi hM;have HS:=zHi hS;have HB:=zHi dp;have In:=zHi htq;have Ib:=zHi Dd;unfold HeirAt at hH;obtain⟨-,-,-,-,-,-,e6⟩:=cF7 hH;clear hI Gr hR hH hM hS dp htq Dd hpart;generalize bigQ (q*(1/(n:Rat)))=bg at*;have pG:n<=1000:=Mcl;have HN:=zHi hn;have eT:=zHi ag;clear hn ag;go_enter Tryz.func74,Tryz.ntmps74
  go_upto_region 1 with fail
  go_cut [6]from 7 (fun v wc=> ∃P,v= .pointer (some ⟨P,0,none⟩)/\w.heap.size<P/\wc.heap[P]?=some (zbt part)/\MarkAt wc C (fl||bg)/\HasAt wc m out/\Two2 w wc C m)
  case first=>
   refine wp_region_held_drew (S:=(fun w'=>w'.cell? ⟨h,6,none⟩=some (.pointer (some ⟨C,0,none⟩))/\w'.cell? ⟨w.heap.size,0,none⟩=some (.int .i64 q.num)/\w'.cell? ⟨w.heap.size,1,none⟩=some (.int .i64 q.den))) Mcm ?hS ?hrest
   case hS=>((try dsimp only);refine⟨?_,?_,?_⟩<;>(simp[go_sem,e6,hh];done))
   case hrest=>
    intro hHeld;refine TkH 0 ?_;refine TkH 1 ?_;refine TkH 2 ?_;refine TkH 3 ?_;refine TkH 4 ?_;refine TkH 5 ?_;refine TkH 6 ?_;refine TkH 7 ?_;refine wpAnyH_ready (rs:=[8,9]) Mcm Mco (AllReadyH.cons (List.getElem?_toArray.trans rfl) (fun K hK=> ?_) (AllReadyH.cons (List.getElem?_toArray.trans rfl) (fun K hK=> ?_) AllReadyH.nil))
    ·go_simp
     refine(jb.o _ ?q1).mono ?_
     case q1=>(repeat(first|exact HM.o|refine MarkAt.drew ?_|refine MarkAt.alloc ?_ _))
     rintro e w5 ⟨rfl,n1,n2⟩;have ed:=n2.size;have x0:w5.cell? ⟨h,6,none⟩=some (.pointer (some ⟨C,0,none⟩)):=(zbd n2 Mcq nG).trans Mep;have x1:w5.cell? ⟨w.heap.size,0,none⟩=some (.int .i64 q.num):=(zbd n2 (by simp;try omega) Mcl).trans McN;have x2:w5.cell? ⟨w.heap.size,1,none⟩=some (.int .i64 q.den):=(zbd n2 (by simp;try omega) Mcl).trans McN;have x3:w.heap.size<w5.heap.size:=MdP;have x4:h<w5.heap.size:=MdP;have N1:=zHi n1;have N2:=zHi n2;clear n1 n2;refine hK.out _ _ ?_ (fun hHeld=> ?_);focus((try dsimp only);refine⟨?_,?_,?_⟩<;>first|assumption|(simp[go_sem,e6,hh];done)|(simp[go_sem,x0,x1,x2,x3,x4];done)|(trace_state;fail "nextR"))
     clear hK K;try simp only[Act.put,List.setIfInBounds_toArray,List.set_cons_zero,List.set_cons_succ]
     refine OnH 9 fun K hK=> ?_
     go_simp
     refine hK.out _ _ ?_ (fun hHeld=> ?_);focus((try dsimp only);refine⟨?_,?_,?_⟩<;>first|assumption|(simp[go_sem,e6,hh];done)|(simp[go_sem,x0,x1,x2,x3,x4];done)|(trace_state;fail "nextR"))
     clear hK K;try simp only[Act.put,List.setIfInBounds_toArray,List.set_cons_zero,List.set_cons_succ]
     refine OnH 10 fun K hK=> ?_
     go_simp
     refine hK.out _ _ ?_ (fun hHeld=> ?_);focus((try dsimp only);refine⟨?_,?_,?_⟩<;>first|assumption|(simp[go_sem,e6,hh];done)|(simp[go_sem,x0,x1,x2,x3,x4];done)|(trace_state;fail "nextR"))
     clear hK K;try simp only[Act.put,List.setIfInBounds_toArray,List.set_cons_zero,List.set_cons_succ]
     refine wpAnyH_done Mcm ?_ _;go_wp2_with fail
     go_meet
     have r2:Two2 w w5 C m:=Two2.trans McA (Two2.grownC N2.o);have s5:HasAt w5 m out:=HasAt.block (HS.o.keep (n:=w.heap.size) Bw) (N2.o.block m Mcq Mcq);exact⟨_,rfl,by omega,zar _ _ _ rfl,N1.o.alloc _,s5.keep (n:=w5.heap.size) (zac (Below.refl _ _) _),r2.alloc _⟩
    ·go_simp
     refine hK.out _ _ ?_ (fun hHeld=> ?_);focus((try dsimp only);refine⟨?_,?_,?_⟩<;>first|assumption|(simp[go_sem,e6,hh];done)|(simp[go_sem,x0,x1,x2,x3,x4];done)|(trace_state;fail "nextR"))
     clear hK K;try simp only[Act.put,List.setIfInBounds_toArray,List.set_cons_zero,List.set_cons_succ]
     refine OnH 8 fun K hK=> ?_
     go_simp
     refine(jb.o _ ?q1).mono ?_
     case q1=>(repeat(first|exact HM.o|refine MarkAt.drew ?_|refine MarkAt.alloc ?_ _))
     rintro e w5 ⟨rfl,n1,n2⟩;have ed:=n2.size;have x0:w5.cell? ⟨h,6,none⟩=some (.pointer (some ⟨C,0,none⟩)):=(zbd n2 Mcq nG).trans Mep;have x1:w5.cell? ⟨w.heap.size,0,none⟩=some (.int .i64 q.num):=(zbd n2 (by simp;try omega) Mcl).trans McN;have x2:w5.cell? ⟨w.heap.size,1,none⟩=some (.int .i64 q.den):=(zbd n2 (by simp;try omega) Mcl).trans McN;have x3:w.heap.size<w5.heap.size:=MdP;have x4:h<w5.heap.size:=MdP;have N1:=zHi n1;have N2:=zHi n2;clear n1 n2;have yP:w5.heap[w.heap.size+1]?=some (.cells #[.int .i64 0, .int .i64 0] 58):=(N2.o.block _ Mco Mcq).trans (zar _ _ _ Mco);obtain⟨y0,y1⟩:=cF2 yP;have f0:w5.frozen? ⟨w.heap.size+1,0,none⟩=false:=by simp only[World.frozen?,yP];rfl
     have f1:w5.frozen? ⟨w.heap.size+1,1,none⟩=false:=by simp only[World.frozen?,yP];rfl
     have zV:h≠w.heap.size+1:=Mcl;have J7:=zab yP;refine hK.out _ _ ?_ (fun hHeld=> ?_);focus((try dsimp only);refine⟨?_,?_,?_⟩<;>first|assumption|(simp[go_sem,e6,hh];done)|(simp[go_sem,x0,x1,x2,x3,x4];done)|(trace_state;fail "nextR"))
     clear hK K;try simp only[Act.put,List.setIfInBounds_toArray,List.set_cons_zero,List.set_cons_succ]
     refine OnH 10 fun K hK=> ?_
     go_simp
     refine hK.out _ _ ?_ (fun hHeld=> ?_);focus((try dsimp only);refine⟨?_,?_,?_⟩<;>first|assumption|(simp[go_sem,e6,hh];done)|(simp[go_sem,x0,x1,x2,x3,x4];done)|(trace_state;fail "nextR"))
     clear hK K;try simp only[Act.put,List.setIfInBounds_toArray,List.set_cons_zero,List.set_cons_succ]
     refine wpAnyH_done Mcm ?_ _;go_wp2_with fail
     go_meet
     have r2:Two2 w w5 C m:=Two2.trans McA (Two2.grownC N2.o);have s5:HasAt w5 m out:=HasAt.block (HS.o.keep (n:=w.heap.size) Bw) (N2.o.block m Mcq Mcq)
     have s6:HasAt ((w5.setCell ⟨w.heap.size+1,0,none⟩ (.int .i64 part.num)).setCell ⟨w.heap.size+1,1,none⟩ (.int .i64 part.den)) m out:=s5.block (by
      have hb: ¬w.heap.size+1=m:=Mcl
      simp[World.setCell,Array.getElem?_modify,hb])
     exact⟨_,rfl,by omega,zen yP,J_ne Mcl (J_ne Mcl N1.o),s6,(r2.set vD Mcl _).set vD Mcl _⟩
  case rest=>
   obtain⟨P,rfl,hP,tC,nI,aw,Er⟩:=hcut;obtain⟨W0,rfl⟩: ∃x,x=wc:=⟨_,rfl⟩
   have gw:=zHi aw;have Hx:=zHi nI;have Gy:=zHi Er;have I9:=zHi tC;have J7:=zab tC;clear nI Er tC aw;go_wp2_with fail
   go_loopw [20] (fun i wr=> ∃(k:Nat) (o2:Parts) (f2:Bool),k<=n/\i= .int .i64 k/\Hid ((o2,f2)=zbO part (l.take k) (out,fl||bg))/\HasAt wr m o2/\MarkAt wr C f2/\Two2 w wr C m/\wr.heap[P]?=some (zbt part)) (fun i _=>n-(intOf i).toNat)
   case atStart=>exact⟨0,out,fl||bg,Nat.zero_le _,rfl,by show _=_;rw[List.take_zero,zbO],gw.o,Hx.o,Gy.o,I9.o⟩
   case round=>
    obtain⟨k,o2,f2,hk,rfl,HX,hs,hm,h2,vV⟩:=hrel;have Bo:=zHi hs;have AU:=zHi hm;have DG:=zHi h2;have Ie:=zHi vV;have hsz:=h2.size;have p0:wr.cell? ⟨P,0,none⟩=some (.int .i64 part.num):=by simp only[World.cell?,vV,zbt];rfl
    have p1:wr.cell? ⟨P,1,none⟩=some (.int .i64 part.den):=by simp only[World.cell?,vV,zbt];rfl
    have J8:=zab vV;have hPn:P≠wr.heap.size:=Mcl;by_cases aa:k<n
    ·have F8:=HR.o.same (fun b cur fr hx _=>zkB h2 HM.o HS.o b cur fr hx);have ES:=HI.o.same (zkB h2 HM.o HS.o);have bQ:k<es.length:=by have:=eT.o;have:=HN.o;omega
     have fq:k<l.length:=by have:=HN.o;omega
     obtain⟨b',off,rfl,cK,hc⟩:=(Ro.sl zjP F8).at bQ;have JW:=ES.2 k es[k] l[k] (List.getElem?_eq_getElem bQ) (List.getElem?_eq_getElem fq);have bW:=zmJ part l (out,fl||bg) fq;have bI:l[k]∈l:=List.getElem_mem fq;have rL:=zhN iX (l:=l.take k) (fl:=fl||bg) HB.o;rw[List.length_take,Nat.min_eq_left Mcl]at rL;have aK:t+part*(k:Rat)+part<=1:=by
      have h1:=take_le iX (Nat.succ_le_of_lt aa);rw[zgz]at h1;have h2:=Ib.o;have h3:=In.o;grind
     rw[<-HX.o]at bW rL;have eu:=zHi bW;have Ao:=zHi rL;have DM:=zHi aK;have DU:Hid (HeirAt wr h b law who C m):=(h2.others h hh nG pE).trans HH.o;have ar:(k:Int)<(n:Int):=Mcl;have aT:(0:Int)<=(k:Int):=Mcl;clear hs hm h2 vV F8 ES bW rL aK;rcases JW with⟨nm,hx,hy⟩|⟨l',A',c',es',hx,hy,hz,D8,_,xX,xd⟩
     ·have i0:wr.cell? ⟨b',off+k*2,none⟩=some (.string nm):=hc 0 _ (by rw[hy];rfl);have i1:wr.cell? ⟨b',off+k*2+1,none⟩=some (.slice none 0 0):=hc 1 _ (by rw[hy];rfl);have bW:=eu.o;rw[hx,zdP]at bW;have eu:=zHi bW;clear hc hx hy bW bI;go_wp2_with (go_at_call 69;refine(zg3 b h C m law who nm part o2 f2 _ (DU.o.keep (n:=wr.heap.size) Bw) (AU.o.keep (n:=wr.heap.size) Bw Mcl) (Bo.o.keep (n:=wr.heap.size) Bw) nG pE tq Ao.o.good (Ao.o.share (by have:=DM.o;grind) nm) eD).mono ?_;rintro e wq ⟨rfl,g1,g2,g3⟩)
      exact MJ
     ·have uh:es[k]=(⟨#[]⟩,some A',l'.length,c'):=hy;have i0:wr.cell? ⟨b',off+k*2,none⟩=some (.string ⟨#[]⟩):=hc 0 _ (by rw[uh];rfl);have i1:wr.cell? ⟨b',off+k*2+1,none⟩=some (.slice (some A') l'.length c'):=hc 1 _ (by rw[uh];rfl);have bW:=eu.o;rw[hx,zo4]at bW;have eu:=zHi bW;have yv:=qL.o l' (by rw[<-hx];exact bI);have Hm:=zHi (fun W h1 h2 h3 h4 h5=>IH.o es' l' Q (some A') l'.length c' part _ o2 f2 W h1 yv h2 D8 rfl h3 h4 h5 iX ib eD Ao.o DM.o);have bE:=zHi xd;have qz:=zHi xX;clear hc hx hy uh bW bI xd xX yv;go_wp2_with (go_at_call 74;refine(Hm.o _ (bE.o.keep (n:=wr.heap.size) Bw) (qz.o.keep (n:=wr.heap.size) Bw) (DU.o.keep (n:=wr.heap.size) Bw) (AU.o.keep (n:=wr.heap.size) Bw Mcl) (Bo.o.keep (n:=wr.heap.size) Bw)).mono ?_;rintro e wq ⟨rfl,g1,g2,g3⟩)
      exact MJ
    ·have ar: ¬(k:Int)<(n:Int):=Mcl;rw[List.take_of_length_le (by have:=HN.o;omega)]at HX;go_wp2_with fail
     go_end0
     rw[<-HX.o];exact⟨rfl,Bo.o,AU.o,DG.o⟩
end Go.Proofs.YtckkbkdcdkhglaaGreatDoor
namespace Go.Proofs.YtckkbkdcdkhglaaGreatDoor
open Go.RowKit Go.Shelf Go.Sort
attribute [local go_sem] World.cell?_alloc_mark zag za5 zaq za8 zaw zax zay zaz za0 za1 za2
abbrev PQ:=ByteArray×Rat
instance:Inhabited PQ:=⟨(⟨#[]⟩,0)⟩
def zfS (x y:PQ):Int:=cmpN x.1 y.1
theorem zg5 (x y:PQ):ltOf zfS x y=zbo x.1 y.1:=zn7 _ _
theorem part_swo:Sort.SWO (ltOf zfS) where
 irrefl x:=by rw[zg5];exact zeU _
 trans x y z h1 h2:=by rw[zg5]at*;exact zb1 h1 h2
 ntrans x y z h1 h2:=by
  rw[zg5]at*;cases h:zbo x.1 z.1
  ·rfl
  ·exfalso
   rcases zds y.1 z.1 with h3|h3|h3
   ·rw[h2]at h3;cases h3
   ·rw[h3,h]at h1;cases h1
   ·rw[zb1 h h3]at h1;cases h1
theorem perm_upP {d d':Array PQ} (hp:Sort.PermIn 0 d.size d d') (hs:Sort.SortedIn (ltOf zfS) 0 d.size d'):d'.toList.Perm d.toList/\UpP d'.toList:=by
 obtain⟨hsz,_,pQ⟩:=hp;have e1:d'.extract 0 d.size=d':=by rw[<-hsz];exact Array.extract_size
 rw[e1,Array.extract_size]at pQ;refine⟨pQ,List.pairwise_iff_getElem.2 fun i j hi hj cS=> ?_⟩;have JU:i<d'.size:=by simpa using hi
 have s8:j<d'.size:=Men;have:=hs i j (Nat.zero_le _) cS Mcl;rw[zg5,getElem!_pos d' j s8,getElem!_pos d' i JU]at this;simpa using this
theorem zlC (d:Array PQ) {k j:Nat} {x:PQ} {u:Value} (hk:d.toList[k]?=some x) (hj:(zaa x)[j]?=some u):k*3+j<(Sort.flatK zaa 3 d).size/\(Sort.flatK zaa 3 d)[k*3+j]! =u:=by
 have CS:j<3:=by have:=(List.getElem?_eq_some_iff.1 hj).1;rw[zan]at this;exact this
 have cf:k<d.size:=by have:=(List.getElem?_eq_some_iff.1 hk).1;simpa using this
 have aa:k*3+j<d.size*3:=Mcl;refine⟨by rw[Sort.size_flatK];exact aa,?_⟩;rw[Sort.get_flatK _ _ _ _ aa,show(k*3+j)/3=k by omega,show(k*3+j)%3=j by omega];have:d[k]! =x:=by
  rw[getElem!_pos d k cf];have:=(List.getElem?_eq_some_iff.1 hk).2;simpa using this
 rw[this,List.getElem!_eq_getElem?_getD,hj];rfl
theorem zoB {w:World} {base g o cap:Nat} {cur:Array Value} {xs:Parts} (hg:w.heap[g]?=some (.cells cur 63 (0,0))) (hx: ∀j u,(xs.flatMap zaa)[j]?=some u->cur[o+j]?=some u):Sort.HoldsK zaa 3 w g o xs.toArray:=fun j hj=>by
 rw[Sort.size_flatK]at hj;have s8:j<xs.length*3:=Men;have aa:j/3<xs.length:=Mcl;have jQ:xs[j/3]?=some xs[j/3]:=List.getElem?_eq_getElem aa;have hu:(zaa xs[j/3])[j%3]?=some ((zaa xs[j/3])[j%3]' Md4):=List.getElem?_eq_getElem _;obtain⟨_,h2⟩:=zlC xs.toArray (k:=j/3) (x:=xs[j/3]) (show xs.toArray.toList[j/3]?=_ from jQ) hu;have hc:=hx (j/3*3+j%3) _ (zeR zaa 3 zan xs _ _ jQ _ _ hu);have e:j/3*3+j%3=j:=Mcl;rw[e]at h2 hc;refine⟨?_,?_⟩
 ·rw[h2];simp only[World.cell?,hg];exact hc
 ·simp[World.frozen?,hg]
theorem sort_heap {w:World} {g o n cap:Nat} {cur:Array Value} {d:Array PQ} {os:Array Obj} (hg:w.heap[g]?=some (.cells cur 63 (0,0))) (ay:o+cap*3<=cur.size): ∃cur',(sortWorldK zaa 3 w g o n d os).heap[g]?=some (.cells cur' 63 (0,0))/\o+cap*3<=cur'.size:=by
 have hl:=zab hg;refine⟨putCells id o (flatK zaa 3 d) cur,?_,by unfold putCells;rw[Array.size_mapIdx];exact ay⟩;show((Sort.mapBlock _ _ _).heap++os)[g]?=_;rw[Array.getElem?_append_left MdQ];simp only[Sort.mapBlock,Sort.ahead];rw[Array.getElem?_modify,if_pos rfl,hg];rfl
theorem zmR {w W:World} {g o n:Nat} {dk:Array PQ} {os:Array Obj} (hg:w.heap.size<=g) (hB:Below w.heap.size w W):Below w.heap.size w (sortWorldK zaa 3 W g o n dk os):=by
 refine hB.trans ⟨rfl,rfl,rfl,?_,fun k hk=> ?_⟩
 ·exact MbM
 ·have hs:=hB.size;show((Sort.mapBlock _ _ _).heap++os)[k]?=_;rw[Array.getElem?_append_left MdQ];simp only[Sort.mapBlock,Sort.ahead];rw[Array.getElem?_modify,if_neg Mcl]
theorem zoC (x y:PQ) (W:World):Calls Tryz.prog 76 #[.agg (zaa x).toArray, .agg (zaa y).toArray] W fun e w'=>e= .returned (.int .i64 (zfS x y))/\ ∃q os',w'=Go.Sort.grow (W.drewN q) os':=by
 obtain⟨a0,a1⟩:=x;obtain⟨b0,b1⟩:=y;have hc:=fun W'=>zlm a0 b0 W'
 have hl:zfS (a0,a1) (b0,b1)=cmpN a0 b0:=rfl;rw[hl];generalize cmpN a0 b0=r at hc⊢;simp only[zaa];go_enter Tryz.func76,Tryz.ntmps76
 go_wp2_with (go_at_call 77;refine(hc _).mono ?_;rintro e wq ⟨rfl,rfl⟩)
 go_ret
 exact⟨rfl,0,_,by rw[alloc_eq_grow,alloc_eq_grow,grow_grow];rfl⟩
theorem sortP0 (g off cap:Nat) (d:Array PQ) (w:World) (hH:Sort.HoldsK zaa 3 w g off d) (hg:g<w.heap.size) (hsz:d.size<=1000000000):
 Calls Tryz.prog 75 #[.slice (some ⟨g,off,none⟩) d.size cap, .func (.func 76) #[] #[]] w fun e w'=>
  e= .returned (.tuple #[])/\ ∃d' n os,Sort.PermIn 0 d.size d d'/\Sort.SortedIn (ltOf zfS) 0 d.size d'/\w'=sortWorldK zaa 3 w g off n d' os:=by
 have eg: ∀args w,(callFunc 76 args).run Tryz.prog w= .ok (.enter 76 args) w:=enters_of Tryz.func76 Mcm rfl;have bC:=AnyQ.slices_SortFunc zn3 3 Tryz.isAgg63 Tryz.sizeOf63 zaa zan zce zfS part_swo 76 #[] g off cap d w eg (fun _ _ _ _ x y=>by simpa using zoC x y _) hH hg Mcl;change Calls Tryz.prog 75 _ _ _ at bC;exact bC
theorem zoD (fv:Value) (w:World):Calls Tryz.prog 75 #[.slice none 0 0,fv] w fun e w'=>e= .returned (.tuple #[])/\w'=w:=by
 have bC:=AnyF.slices_SortFunc_none zn3 none 0 fv w;change Calls Tryz.prog 75 _ _ _ at bC;exact bC
theorem sortP_any (v:Value) (ls:Parts) (base:Nat) (w:World) (ae:OwnS w base 63 3 zaa v ls) (hl:ls.length<=1000000000):
 Calls Tryz.prog 75 #[v, .func (.func 76) #[] #[]] w fun e w'=>e= .returned (.tuple #[])/\ ∃L,L.Perm ls/\UpP L/\OwnS w' base 63 3 zaa v L/\(∀w0:World,Below w0.heap.size w0 w->w0.heap.size<=base->Below w0.heap.size w0 w')/\w.grownBy w' (za7 v):=by
 rcases ae with⟨rfl,rfl⟩|⟨g,o,cap,cur,rfl,hb,hg,hc,hm,hs,hx⟩
 ·refine(zoD _ _).mono ?_;rintro e wq ⟨rfl,rfl⟩;exact⟨rfl,[],List.Perm.refl _,List.Pairwise.nil,OwnS.nil,fun w0 h _=>h,zdD _ _⟩
 ·have cB:=zab hg;have hH:=zoB (base:=base) (cap:=cap) hg hx;have h:=sortP0 g o cap ls.toArray w hH cB (by simpa using hl);have e:ls.toArray.size=ls.length:=Mco;rw[e]at h;refine h.mono ?_;rintro e wq ⟨rfl,d',n,os,hp,u7,rfl⟩;obtain⟨h1,h2⟩:=perm_upP (by rw[e];exact hp) (by rw[e];exact u7);have pg:d'.toList.Perm ls:=h1;have ag:d'.toList.length=ls.length:=pg.length_eq;obtain⟨cur',eA,eQ⟩:=sort_heap (n:=n) (d:=d') (os:=os) hg hs;have vH:=holdsK_sortWorldK zaa 3 w g o n ls.toArray d' os cB hH (by simpa using ag);refine⟨rfl,d'.toList,pg,h2, .inr ⟨g,o,cap,cur',by rw[ag],hb,eA,by omega,hm,eQ,?_⟩,fun w0 h ba=>zmR Mcl h,?_⟩
  ·intro j u hu;have d9:j<d'.toList.length*3:=by
    have:=(List.getElem?_eq_some_iff.1 hu).1;rw[zgb zaa 3 zan]at this;exact this
   have hk:d'.toList[j/3]?=some (d'.toList[j/3]' Mcl):=List.getElem?_eq_getElem _;have CS:j%3<3:=Nat.mod_lt _ Mcn;have hv:(zaa (d'.toList[j/3]' Mcl))[j%3]?=some ((zaa (d'.toList[j/3]' Mcl))[j%3]'(by rw[zan];exact CS)):=List.getElem?_eq_getElem _;obtain⟨q1,q2⟩:=zlC d' hk hv;have q3:=zeR zaa 3 zan d'.toList _ _ hk _ _ hv;have e3:j/3*3+j%3=j:=Mcl;rw[e3]at q1 q2 q3;have q4:=(vH j q1).1;rw[q2]at q4;rw[q3]at hu;simp only[World.cell?,eA]at q4;rw[<-hu];exact q4
  ·refine⟨rfl,rfl,rfl,?_,fun k hk ai=> ?_⟩
   ·exact MbM
   ·have Ka: ¬g=k:=fun e=>ai (by simp[za7,e])
    show((Sort.mapBlock _ _ _).heap++os)[k]?=_;rw[Array.getElem?_append_left MdQ];simp only[Sort.mapBlock,Sort.ahead];rw[Array.getElem?_modify,if_neg Ka]
end Go.Proofs.YtckkbkdcdkhglaaGreatDoor
