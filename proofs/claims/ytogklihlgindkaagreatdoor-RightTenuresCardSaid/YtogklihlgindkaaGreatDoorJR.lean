import Derived.Test.YtogklihlgindkaaGreatDoorJQ
import Derived.Test.YtogklihlgindkaaGreatDoorRD
set_option linter.all false
set_option maxRecDepth 100000
set_option maxHeartbeats 4000000
namespace Go.Proofs.YtogklihlgindkaaGreatDoor
open Go.RowKit Go.Shelf
attribute [local go_sem] World.cell?_alloc_mark zaf za3 zam za6 zat zau zav zaw zax zay zaz
attribute [local go_sem] zao zac
def ItemsN.same{W W':World}{Q:Nat->Prop}(hb:∀(k:Nat) (cur:Array Value) (fr:Nat×Nat),W.heap[k]?=some (.cells cur 225 fr)->W'.heap[k]?=W.heap[k]?):∀ {f:Nat} {es:List Ln} {l:List Tree},ItemsN W Q f es l->ItemsN W' Q f es l
 |0,_,_,h=>h
 |f+1,es,l,h=>⟨h.1,λk e t h1 h2=>by
  rcases h.2 k e t h1 h2 with h3|⟨l',A,c,es',h3,h4,h5,h6,hQ,h7,h8⟩
  ·exact .inl h3
  ·exact .inr ⟨l',_,c,es',h3,h4,h5,h6,hQ,h7.same (λb cur fr hx _=>hb b cur fr hx),ItemsN.same hb h8⟩⟩
variable{w:World}{C m:Nat}
def zkI{w':World}{fl:Bool}{out:Parts}(h:Two2 w w' C m)(hM:MarkAt w C fl)(hS:HasAt w m out):∀(k:Nat) (cur:Array Value) (fr:Nat×Nat),w.heap[k]?=some (.cells cur 225 fr)->w'.heap[k]?=w.heap[k]?:=λk cur fr hk=>by
 refine h.others k (Array.getElem?_eq_some_iff.1 hk).1 (λe=>?_) (λe=>?_)
 ·subst e;unfold MarkAt at hM;rw[hM]at hk;simp at hk
 ·subst e;obtain⟨mm,⟨es,c,h1,_⟩,_⟩:=hS;rw[h1]at hk;simp at hk
variable{W:World}
def Two2.set(h:Two2 w W C m){P o:Nat}(hC:C<w.heap.size)(hP:w.heap.size<=P)(v:Value):Two2 w (W.setCell ⟨P,o,none⟩ v) C m:=
 ⟨λn h1 h2 h3=>zaS (h.below n h1 h2 h3) (by show n<=P;omega) v,λk hk h1 h2=>by
   rw[<-h.others k hk h1 h2];have hb:¬P=k:=McS
   simp[World.setCell,Array.getElem?_modify,hb],by simp only[World.setCell,Array.size_modify];exact h.size⟩
def Two2.alloc(h:Two2 w W C m)(o:Obj):Two2 w (W.alloc o) C m:=h.trans (Two2.of_below (zad Qb o))
def Two2.refl2(w:World)(C m:Nat):Two2 w w C m:=Two2.of_below Qb
def Two2.drew(h:Two2 w W C m):Two2 w W.drew C m:=h.trans (Two2.of_below (zaF Qb))
def Two2.ext(h:Two2 w W C m)(z:Ez):Two2 w (W.ext z) C m:=h.trans (Two2.of_below (zan W z))
def zhm(b h C m:Nat)(law:Law)(who:ByteArray)(oe:h≠C)(ql:h≠m)(uh:C≠m):∀(f:Nat) (es:List Ln) (l:List Tree) (Q:Nat->Prop) (A:Option Addr) (n c:Nat) (q t:Rat) (out:Parts) (fl:Bool) (w:World),
 ItemsN w Q f es l->WideN f l->Ro w 225 lnC A es->l≠[]->n=l.length->HeirAt w h b law who C m->MarkAt w C fl->HasAt w m out->0<=q->q<=1->zaJ q->Bd out t->t+q<=1->
 Calls Tryz.prog 149 #[.pointer (some ⟨h,0,none⟩),.slice A n c,.agg #[.int .i64 q.num,.int .i64 q.den]] w (zlH w C m (zcy l q (out,fl)))
 |0,es,l,Q,A,n,c,q,t,out,fl,w,hI,_,_,ai,_,_,_,_,_,_,_,_,_=>absurd hI.2 ai
 |f+1,es,l,Q,A,n,c,q,t,out,fl,w,hI,EW,hR,ai,hn,hH,hM,hS,fO,cJ,hqs,dA,htq=>by
  have IH:=zHi (zhm b h C m law who oe ql uh f);have ag:=hI.len;have d9:0<l.length:=List.length_pos_iff.2 ai;obtain⟨cK,Iq⟩:=EW;have hh:=zab hH;have wv:=zab hM;have gn:=hS.lt;obtain⟨jl,ei,eG,Ex⟩:=part_ok fO cJ d9;have qv:=zlJ d9 cK;obtain⟨lR,uG,_,_⟩:=zhW d9;rw[zcy];rw[<-hn]at jl ei eG Ex qv lR uG⊢;generalize hpart:zbi (q*(1/(n:Rat)))=part at*;have B7:=λ(W:World) (cH:MarkAt W C fl)=>zhR C fl W cH q (1/(n:Rat)) hqs qv
  unfold zeE zaA at B7;simp only[hpart,lR,uG]at B7;have jt:=zHi B7;clear B7 lR uG qv;obtain⟨HP,HI,rJ,HR,HH,HM,HS,HB⟩:=yH8 hpart hI Iq hR hH hM hS dA;obtain⟨JD,Jq⟩:=yH2 htq Ex;unfold HeirAt at hH;obtain⟨-,-,-,-,-,-,e6⟩:=cF7 hH;clear hI Iq hR hH hM hS dA htq Ex hpart;generalize bigQ (q*(1/(n:Rat)))=bg at*;have qo:n<=1000:=McS;obtain⟨HN,eX⟩:=yH2 hn ag;clear hn ag;go_enter Tryz.func149,Tryz.ntmps149
  go_upto_region 1 with fail
  go_cut [6]from 7 (λv wc=>∃P,v=.pointer (some ⟨P,0,none⟩)/\w.heap.size<P/\wc.heap[P]?=some (zbs part)/\MarkAt wc C (fl||bg)/\HasAt wc m out/\Two2 w wc C m)
  case first=>
   refine wp_region_held_drew (S:=(λw'=>w'.cell? ⟨h,6,none⟩=some (.pointer (some ⟨C,0,none⟩))/\w'.cell? ⟨w.heap.size,0,none⟩=some (.int .i64 q.num)/\w'.cell? ⟨w.heap.size,1,none⟩=some (.int .i64 q.den))) McT ?hS ?hrest
   case hS=>((try dsimp only);refine⟨?_,?_,?_⟩<;>(simp[go_sem,e6,hh];done))
   case hrest=>
    intro hHeld;refine TkH 0 ?_;refine TkH 1 ?_;refine TkH 2 ?_;refine TkH 3 ?_;refine TkH 4 ?_;refine TkH 5 ?_;refine TkH 6 ?_;refine TkH 7 ?_;refine wpAnyH_ready (rs:=[8,9]) McT McV (AllReadyH.cons (List.getElem?_toArray.trans rfl) (λK hK=>?_) (AllReadyH.cons (List.getElem?_toArray.trans rfl) (λK hK=>?_) AllReadyH.nil))
    ·go_simp
     refine(jt.o _ ?q1).mono ?_
     case q1=>(repeat(first|exact HM.o|refine MarkAt.drew ?_|refine MarkAt.alloc ?_ _))
     rintro e w5 ⟨rfl,n1,n2⟩;have eh:=n2.size;have x0:w5.cell? ⟨h,6,none⟩=some (.pointer (some ⟨C,0,none⟩)):=(zbd n2 McX oe).trans MeX;have x1:w5.cell? ⟨w.heap.size,0,none⟩=some (.int .i64 q.num):=(zbd n2 (by simp;try omega) McS).trans Mdo;have x2:w5.cell? ⟨w.heap.size,1,none⟩=some (.int .i64 q.den):=(zbd n2 (by simp;try omega) McS).trans Mdo;have x3:w.heap.size<w5.heap.size:=Mel;have x4:h<w5.heap.size:=Mel;obtain⟨N1,N2⟩:=yH2 n1 n2;clear n1 n2;refine hK.out _ _ ?_ (λhHeld=>?_);focus((try dsimp only);refine⟨?_,?_,?_⟩<;>first|assumption|(simp[go_sem,e6,hh];done)|(simp[go_sem,x0,x1,x2,x3,x4];done)|(trace_state;fail "nextR"))
     clear hK K;try simp only[Act.put,List.setIfInBounds_toArray,List.set_cons_zero,List.set_cons_succ]
     refine OnH 9 λK hK=>?_
     go_simp
     refine hK.out _ _ ?_ (λhHeld=>?_);focus((try dsimp only);refine⟨?_,?_,?_⟩<;>first|assumption|(simp[go_sem,e6,hh];done)|(simp[go_sem,x0,x1,x2,x3,x4];done)|(trace_state;fail "nextR"))
     clear hK K;try simp only[Act.put,List.setIfInBounds_toArray,List.set_cons_zero,List.set_cons_succ]
     refine OnH 10 λK hK=>?_
     go_simp
     refine hK.out _ _ ?_ (λhHeld=>?_);focus((try dsimp only);refine⟨?_,?_,?_⟩<;>first|assumption|(simp[go_sem,e6,hh];done)|(simp[go_sem,x0,x1,x2,x3,x4];done)|(trace_state;fail "nextR"))
     clear hK K;try simp only[Act.put,List.setIfInBounds_toArray,List.set_cons_zero,List.set_cons_succ]
     refine wpAnyH_done McT ?_ _;go_wp2_with fail
     go_meet
     have r2:Two2 w w5 C m:=Two2.trans Mc7 (Two2.grownC N2.o);have s5:HasAt w5 m out:=HasAt.block (HS.o.keep (n:=w.heap.size) Bw) (N2.o.block m McX McX);exact⟨_,rfl,by omega,zas _ _ _ rfl,N1.o.alloc _,s5.keep (n:=w5.heap.size) (zad Qb _),r2.alloc _⟩
    ·go_simp
     refine hK.out _ _ ?_ (λhHeld=>?_);focus((try dsimp only);refine⟨?_,?_,?_⟩<;>first|assumption|(simp[go_sem,e6,hh];done)|(simp[go_sem,x0,x1,x2,x3,x4];done)|(trace_state;fail "nextR"))
     clear hK K;try simp only[Act.put,List.setIfInBounds_toArray,List.set_cons_zero,List.set_cons_succ]
     refine OnH 8 λK hK=>?_
     go_simp
     refine(jt.o _ ?q1).mono ?_
     case q1=>(repeat(first|exact HM.o|refine MarkAt.drew ?_|refine MarkAt.alloc ?_ _))
     rintro e w5 ⟨rfl,n1,n2⟩;have eh:=n2.size;have x0:w5.cell? ⟨h,6,none⟩=some (.pointer (some ⟨C,0,none⟩)):=(zbd n2 McX oe).trans MeX;have x1:w5.cell? ⟨w.heap.size,0,none⟩=some (.int .i64 q.num):=(zbd n2 (by simp;try omega) McS).trans Mdo;have x2:w5.cell? ⟨w.heap.size,1,none⟩=some (.int .i64 q.den):=(zbd n2 (by simp;try omega) McS).trans Mdo;have x3:w.heap.size<w5.heap.size:=Mel;have x4:h<w5.heap.size:=Mel;obtain⟨N1,N2⟩:=yH2 n1 n2;clear n1 n2;have yP:w5.heap[w.heap.size+1]?=some (.cells #[.int .i64 0,.int .i64 0] 50):=(N2.o.block _ McV McX).trans (zas _ _ _ McV);obtain⟨y0,y1⟩:=cF2 yP;have f0:w5.frozen? ⟨w.heap.size+1,0,none⟩=false:=by simp only[World.frozen?,yP];rfl
     have f1:w5.frozen? ⟨w.heap.size+1,1,none⟩=false:=by simp only[World.frozen?,yP];rfl
     have AU:h≠w.heap.size+1:=McS;have Ks:=zab yP;refine hK.out _ _ ?_ (λhHeld=>?_);focus((try dsimp only);refine⟨?_,?_,?_⟩<;>first|assumption|(simp[go_sem,e6,hh];done)|(simp[go_sem,x0,x1,x2,x3,x4];done)|(trace_state;fail "nextR"))
     clear hK K;try simp only[Act.put,List.setIfInBounds_toArray,List.set_cons_zero,List.set_cons_succ]
     refine OnH 10 λK hK=>?_
     go_simp
     refine hK.out _ _ ?_ (λhHeld=>?_);focus((try dsimp only);refine⟨?_,?_,?_⟩<;>first|assumption|(simp[go_sem,e6,hh];done)|(simp[go_sem,x0,x1,x2,x3,x4];done)|(trace_state;fail "nextR"))
     clear hK K;try simp only[Act.put,List.setIfInBounds_toArray,List.set_cons_zero,List.set_cons_succ]
     refine wpAnyH_done McT ?_ _;go_wp2_with fail
     go_meet
     have r2:Two2 w w5 C m:=Two2.trans Mc7 (Two2.grownC N2.o);have s5:HasAt w5 m out:=HasAt.block (HS.o.keep (n:=w.heap.size) Bw) (N2.o.block m McX McX)
     have s6:HasAt ((w5.setCell ⟨w.heap.size+1,0,none⟩ (.int .i64 part.num)).setCell ⟨w.heap.size+1,1,none⟩ (.int .i64 part.den)) m out:=s5.block (by
      have hb:¬w.heap.size+1=m:=McS
      simp[World.setCell,Array.getElem?_modify,hb])
     exact⟨_,rfl,by omega,zer yP,J_ne McS (J_ne McS N1.o),s6,(r2.set wv McS _).set wv McS _⟩
  case rest=>
   obtain⟨P,rfl,hP,uq,nv,ay,FN⟩:=hcut;obtain⟨W0,rfl⟩:∃x,x=wc:=⟨_,rfl⟩
   obtain⟨gK,Jc,Ix,Jo⟩:=yH4 ay nv FN uq;have Ks:=zab uq;clear nv FN uq ay;go_wp2_with fail
   go_loopw [20] (λi wr=>∃(k:Nat) (o2:Parts) (f2:Bool),k<=n/\i=.int .i64 k/\Hid ((o2,f2)=zbM part (l.take k) (out,fl||bg))/\HasAt wr m o2/\MarkAt wr C f2/\Two2 w wr C m/\wr.heap[P]?=some (zbs part)) (λi _=>n-(intOf i).toNat)
   case atStart=>exact⟨0,out,fl||bg,Nat.zero_le _,rfl,by show _=_;rw[List.take_zero,zbM],gK.o,Jc.o,Ix.o,Jo.o⟩
   case round=>
    obtain⟨k,o2,f2,hk,rfl,HX,hs,hm,h2,wP⟩:=hrel;obtain⟨Cp,C1,F3,Jt⟩:=yH4 hs hm h2 wP;have hsz:=h2.size;have p0:wr.cell? ⟨P,0,none⟩=some (.int .i64 part.num):=by simp only[World.cell?,wP,zbs];rfl
    have p1:wr.cell? ⟨P,1,none⟩=some (.int .i64 part.den):=by simp only[World.cell?,wP,zbs];rfl
    have Kt:=zab wP;have hPn:P≠wr.heap.size:=McS;by_cases ae:k<n
    ·have Gy:=HR.o.same (λb cur fr hx _=>zkI h2 HM.o HS.o b cur fr hx);have Gi:=HI.o.same (zkI h2 HM.o HS.o);have bG:k<es.length:=by have:=eX.o;have:=HN.o;omega
     have g9:k<l.length:=MeE;obtain⟨b',off,rfl,cA,hc⟩:=(Ro.sl zjV Gy).at bG;have Lg:=Gi.2 k es[k] l[k] (List.getElem?_eq_getElem bG) (List.getElem?_eq_getElem g9);have bC:=znj part l (out,fl||bg) g9;have bm:l[k]∈l:=List.getElem_mem g9;have jb:=zhV jl (l:=l.take k) (fl:=fl||bg) HB.o;rw[List.length_take,Nat.min_eq_left McS]at jb;have aM:t+part*(k:Rat)+part<=1:=by
      have h1:=take_le jl (Nat.succ_le_of_lt ae);rw[zg2]at h1;have h2:=Jq.o;have h3:=JD.o;grind
     rw[<-HX.o]at bC jb;obtain⟨cM,Bt,F7⟩:=yH3 bC jb aM;have Fg:Hid (HeirAt wr h b law who C m):=(h2.others h hh oe ql).trans HH.o;have au:(k:Int)<(n:Int):=McS;have aR:(0:Int)<=(k:Int):=McS;clear hs hm h2 wP Gy Gi bC jb aM;rcases Lg with⟨nm,hx,hy⟩|⟨l',A',c',es',hx,hy,hz,Er,_,yX,xQ⟩
     ·have i0:wr.cell? ⟨b',off+k*2,none⟩=some (.string nm):=hc 0 _ (by rw[hy];rfl);have i1:wr.cell? ⟨b',off+k*2+1,none⟩=some (.slice none 0 0):=hc 1 _ (by rw[hy];rfl);have bC:=cM.o;rw[hx,zdS]at bC;have cM:=zHi bC;clear hc hx hy bC bm;go_wp2_with (go_at_call 147;refine(zg1 b h C m law who nm part o2 f2 _ (Fg.o.keep (n:=wr.heap.size) Bw) (C1.o.keep (n:=wr.heap.size) Bw McS) (Cp.o.keep (n:=wr.heap.size) Bw) oe ql uh Bt.o.good (Bt.o.share (by have:=F7.o;grind) nm) eG).mono ?_;rintro e wq ⟨rfl,g1,g2,g3⟩)
      exact MP
     ·have fE:es[k]=(⟨#[]⟩,some A',l'.length,c'):=hy;have i0:wr.cell? ⟨b',off+k*2,none⟩=some (.string ⟨#[]⟩):=hc 0 _ (by rw[fE];rfl);have i1:wr.cell? ⟨b',off+k*2+1,none⟩=some (.slice (some A') l'.length c'):=hc 1 _ (by rw[fE];rfl);have bC:=cM.o;rw[hx,zpc]at bC;have cM:=zHi bC;have zD:=rJ.o l' (by rw[<-hx];exact bm);obtain⟨J0,bI,kf⟩:=yH3 (λW h1 h2 h3 h4 h5=>IH.o es' l' Q (some A') l'.length c' part _ o2 f2 W h1 zD h2 Er rfl h3 h4 h5 jl ei eG Bt.o F7.o) xQ yX;clear hc hx hy fE bC bm xQ yX zD;go_wp2_with (go_at_call 149;refine(J0.o _ (bI.o.keep (n:=wr.heap.size) Bw) (kf.o.keep (n:=wr.heap.size) Bw) (Fg.o.keep (n:=wr.heap.size) Bw) (C1.o.keep (n:=wr.heap.size) Bw McS) (Cp.o.keep (n:=wr.heap.size) Bw)).mono ?_;rintro e wq ⟨rfl,g1,g2,g3⟩)
      exact MP
    ·have au:¬(k:Int)<(n:Int):=McS;rw[List.take_of_length_le MeE]at HX;go_wp2_with fail
     go_end0
     rw[<-HX.o];exact⟨rfl,Cp.o,C1.o,F3.o⟩
