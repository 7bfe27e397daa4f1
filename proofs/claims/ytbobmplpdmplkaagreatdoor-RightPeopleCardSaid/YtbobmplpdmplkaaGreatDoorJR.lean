import Derived.Test.YtbobmplpdmplkaaGreatDoorJQ
import Derived.Test.YtbobmplpdmplkaaGreatDoorO6
set_option linter.all false
set_option maxRecDepth 100000
set_option maxHeartbeats 4000000
namespace Go.Proofs.YtbobmplpdmplkaaGreatDoor
open Go.RowKit Go.Shelf
attribute [local go_sem] World.cell?_alloc_mark zaf za4 zam za7 zaw zax zay zaz za0 za1 za2
attribute [local go_sem] zan zac
theorem ItemsN.same{W W':World}{Q:Nat->Prop}(hb:∀(k:Nat) (cur:Array Value) (fr:Nat×Nat),W.heap[k]?=some (.cells cur 234 fr)->W'.heap[k]?=W.heap[k]?):∀ {f:Nat} {es:List Ln} {l:List Tree},ItemsN W Q f es l->ItemsN W' Q f es l
 |0,_,_,h=>h
 |f+1,es,l,h=>⟨h.1,fun k e t h1 h2=>by
  rcases h.2 k e t h1 h2 with h3|⟨l',A,c,es',h3,h4,h5,h6,hQ,h7,h8⟩
  ·exact .inl h3
  ·exact .inr ⟨l',_,c,es',h3,h4,h5,h6,hQ,h7.same (fun b cur fr hx _=>hb b cur fr hx),ItemsN.same hb h8⟩⟩
theorem zk4{w w':World}{C m:Nat}{fl:Bool}{out:Parts}(h:Two2 w w' C m)(hM:MarkAt w C fl)(hS:HasAt w m out):∀(k:Nat) (cur:Array Value) (fr:Nat×Nat),w.heap[k]?=some (.cells cur 234 fr)->w'.heap[k]?=w.heap[k]?:=fun k cur fr hk=>by
 refine h.others k (Array.getElem?_eq_some_iff.1 hk).1 (fun e=>?_) (fun e=>?_)
 ·subst e;unfold MarkAt at hM;rw[hM]at hk;simp at hk
 ·subst e;obtain⟨mm,⟨es,c,h1,_⟩,_⟩:=hS;rw[h1]at hk;simp at hk
theorem Two2.set{w W:World}{C m:Nat}(h:Two2 w W C m){P o:Nat}(hC:C<w.heap.size)(hP:w.heap.size<=P)(v:Value):Two2 w (W.setCell ⟨P,o,none⟩ v) C m:=
 ⟨fun n h1 h2 h3=>zaP (h.below n h1 h2 h3) (by show n<=P;omega) v,fun k hk h1 h2=>by
   rw[<-h.others k hk h1 h2];have hb:¬P=k:=Mcy
   simp[World.setCell,Array.getElem?_modify,hb],by simp only[World.setCell,Array.size_modify];exact h.size⟩
theorem Two2.alloc{w W:World}{C m:Nat}(h:Two2 w W C m)(o:Obj):Two2 w (W.alloc o) C m:=h.trans (Two2.of_below (zad (Below.refl _ _) o))
theorem Two2.refl2(w:World)(C m:Nat):Two2 w w C m:=Two2.of_below (Below.refl _ _)
theorem Two2.drew{w W:World}{C m:Nat}(h:Two2 w W C m):Two2 w W.drew C m:=h.trans (Two2.of_below (zaK (Below.refl _ _)))
theorem Two2.ext{w W:World}{C m:Nat}(h:Two2 w W C m)(z:Ez):Two2 w (W.ext z) C m:=h.trans (Two2.of_below (zaq W z))
theorem zhb(b h C m:Nat)(law:Law)(who:ByteArray)(nH:h≠C)(pM:h≠m)(tB:C≠m):∀(f:Nat) (es:List Ln) (l:List Tree) (Q:Nat->Prop) (A:Option Addr) (n c:Nat) (q t:Rat) (out:Parts) (fl:Bool) (w:World),
 ItemsN w Q f es l->WideN f l->Ro w 234 lnC A es->l≠[]->n=l.length->HeirAt w h b law who C m->MarkAt w C fl->HasAt w m out->0<=q->q<=1->zaI q->Bd out t->t+q<=1->
 Calls Tryz.prog 183 #[.pointer (some ⟨h,0,none⟩),.slice A n c,.agg #[.int .i64 q.num,.int .i64 q.den]] w (zlu w C m (zcw l q (out,fl)))
 |0,es,l,Q,A,n,c,q,t,out,fl,w,hI,_,_,ai,_,_,_,_,_,_,_,_,_=>absurd hI.2 ai
 |f+1,es,l,Q,A,n,c,q,t,out,fl,w,hI,DC,hR,ai,hn,hH,hM,hS,gC,cL,hqs,dl,htq=>by
  have IH:=zHi (zhb b h C m law who nH pM tB f);have ag:=hI.len;have cY:0<l.length:=List.length_pos_iff.2 ai;obtain⟨cG,GJ⟩:=DC;have hh:=zab hH;have vF:=zab hM;have ft:=hS.lt;obtain⟨iL,iM,ei,De⟩:=part_ok gC cL cY;have pT:=zlw cY cG;obtain⟨l9,u4,_,_⟩:=zhH cY;rw[zcw];rw[<-hn]at iL iM ei De pT l9 u4⊢;generalize hpart:zbg (q*(1/(n:Rat)))=part at*;have Ab:=fun(W:World) (cD:MarkAt W C fl)=>zhE C fl W cD q (1/(n:Rat)) hqs pT
  unfold zeA zaA at Ab;simp only[hpart,l9,u4]at Ab;have iW:=zHi Ab;clear Ab l9 u4 pT;obtain⟨HP,HI,qQ,HR,HH,HM,HS,HB⟩:=yH8 hpart hI GJ hR hH hM hS dl;obtain⟨IG,Iu⟩:=yH2 htq De;unfold HeirAt at hH;obtain⟨-,-,-,-,-,-,e6⟩:=cF7 hH;clear hI GJ hR hH hM hS dl htq De hpart;generalize bigQ (q*(1/(n:Rat)))=bg at*;have pO:n<=1000:=Mcy;obtain⟨HN,eG⟩:=yH2 hn ag;clear hn ag;go_enter Tryz.func183,Tryz.ntmps183
  go_upto_region 1 with fail
  go_cut [6]from 7 (fun v wc=>∃P,v=.pointer (some ⟨P,0,none⟩)/\w.heap.size<P/\wc.heap[P]?=some (zbu part)/\MarkAt wc C (fl||bg)/\HasAt wc m out/\Two2 w wc C m)
  case first=>
   refine wp_region_held_drew (S:=(fun w'=>w'.cell? ⟨h,6,none⟩=some (.pointer (some ⟨C,0,none⟩))/\w'.cell? ⟨w.heap.size,0,none⟩=some (.int .i64 q.num)/\w'.cell? ⟨w.heap.size,1,none⟩=some (.int .i64 q.den))) Mcz ?hS ?hrest
   case hS=>((try dsimp only);refine⟨?_,?_,?_⟩<;>(simp[go_sem,e6,hh];done))
   case hrest=>
    intro hHeld;refine TkH 0 ?_;refine TkH 1 ?_;refine TkH 2 ?_;refine TkH 3 ?_;refine TkH 4 ?_;refine TkH 5 ?_;refine TkH 6 ?_;refine TkH 7 ?_;refine wpAnyH_ready (rs:=[8,9]) Mcz McB (AllReadyH.cons (List.getElem?_toArray.trans rfl) (fun K hK=>?_) (AllReadyH.cons (List.getElem?_toArray.trans rfl) (fun K hK=>?_) AllReadyH.nil))
    ·go_simp
     refine(iW.o _ ?q1).mono ?_
     case q1=>(repeat(first|exact HM.o|refine MarkAt.drew ?_|refine MarkAt.alloc ?_ _))
     rintro e w5 ⟨rfl,n1,n2⟩;have dW:=n2.size;have x0:w5.cell? ⟨h,6,none⟩=some (.pointer (some ⟨C,0,none⟩)):=(zbb n2 McD nH).trans MeA;have x1:w5.cell? ⟨w.heap.size,0,none⟩=some (.int .i64 q.num):=(zbb n2 (by simp;try omega) Mcy).trans Mc3;have x2:w5.cell? ⟨w.heap.size,1,none⟩=some (.int .i64 q.den):=(zbb n2 (by simp;try omega) Mcy).trans Mc3;have x3:w.heap.size<w5.heap.size:=Md1;have x4:h<w5.heap.size:=Md1;obtain⟨N1,N2⟩:=yH2 n1 n2;clear n1 n2;refine hK.out _ _ ?_ (fun hHeld=>?_);focus((try dsimp only);refine⟨?_,?_,?_⟩<;>first|assumption|(simp[go_sem,e6,hh];done)|(simp[go_sem,x0,x1,x2,x3,x4];done)|(trace_state;fail "nextR"))
     clear hK K;try simp only[Act.put,List.setIfInBounds_toArray,List.set_cons_zero,List.set_cons_succ]
     refine OnH 9 fun K hK=>?_
     go_simp
     refine hK.out _ _ ?_ (fun hHeld=>?_);focus((try dsimp only);refine⟨?_,?_,?_⟩<;>first|assumption|(simp[go_sem,e6,hh];done)|(simp[go_sem,x0,x1,x2,x3,x4];done)|(trace_state;fail "nextR"))
     clear hK K;try simp only[Act.put,List.setIfInBounds_toArray,List.set_cons_zero,List.set_cons_succ]
     refine OnH 10 fun K hK=>?_
     go_simp
     refine hK.out _ _ ?_ (fun hHeld=>?_);focus((try dsimp only);refine⟨?_,?_,?_⟩<;>first|assumption|(simp[go_sem,e6,hh];done)|(simp[go_sem,x0,x1,x2,x3,x4];done)|(trace_state;fail "nextR"))
     clear hK K;try simp only[Act.put,List.setIfInBounds_toArray,List.set_cons_zero,List.set_cons_succ]
     refine wpAnyH_done Mcz ?_ _;go_wp2_with fail
     go_meet
     have r2:Two2 w w5 C m:=Two2.trans McN (Two2.grownC N2.o);have s5:HasAt w5 m out:=HasAt.block (HS.o.keep (n:=w.heap.size) Bw) (N2.o.block m McD McD);exact⟨_,rfl,by omega,zar _ _ _ rfl,N1.o.alloc _,s5.keep (n:=w5.heap.size) (zad (Below.refl _ _) _),r2.alloc _⟩
    ·go_simp
     refine hK.out _ _ ?_ (fun hHeld=>?_);focus((try dsimp only);refine⟨?_,?_,?_⟩<;>first|assumption|(simp[go_sem,e6,hh];done)|(simp[go_sem,x0,x1,x2,x3,x4];done)|(trace_state;fail "nextR"))
     clear hK K;try simp only[Act.put,List.setIfInBounds_toArray,List.set_cons_zero,List.set_cons_succ]
     refine OnH 8 fun K hK=>?_
     go_simp
     refine(iW.o _ ?q1).mono ?_
     case q1=>(repeat(first|exact HM.o|refine MarkAt.drew ?_|refine MarkAt.alloc ?_ _))
     rintro e w5 ⟨rfl,n1,n2⟩;have dW:=n2.size;have x0:w5.cell? ⟨h,6,none⟩=some (.pointer (some ⟨C,0,none⟩)):=(zbb n2 McD nH).trans MeA;have x1:w5.cell? ⟨w.heap.size,0,none⟩=some (.int .i64 q.num):=(zbb n2 (by simp;try omega) Mcy).trans Mc3;have x2:w5.cell? ⟨w.heap.size,1,none⟩=some (.int .i64 q.den):=(zbb n2 (by simp;try omega) Mcy).trans Mc3;have x3:w.heap.size<w5.heap.size:=Md1;have x4:h<w5.heap.size:=Md1;obtain⟨N1,N2⟩:=yH2 n1 n2;clear n1 n2;have yP:w5.heap[w.heap.size+1]?=some (.cells #[.int .i64 0,.int .i64 0] 31):=(N2.o.block _ McB McD).trans (zar _ _ _ McB);obtain⟨y0,y1⟩:=cF2 yP;have f0:w5.frozen? ⟨w.heap.size+1,0,none⟩=false:=by simp only[World.frozen?,yP];rfl
     have f1:w5.frozen? ⟨w.heap.size+1,1,none⟩=false:=by simp only[World.frozen?,yP];rfl
     have zW:h≠w.heap.size+1:=Mcy;have Ju:=zab yP;refine hK.out _ _ ?_ (fun hHeld=>?_);focus((try dsimp only);refine⟨?_,?_,?_⟩<;>first|assumption|(simp[go_sem,e6,hh];done)|(simp[go_sem,x0,x1,x2,x3,x4];done)|(trace_state;fail "nextR"))
     clear hK K;try simp only[Act.put,List.setIfInBounds_toArray,List.set_cons_zero,List.set_cons_succ]
     refine OnH 10 fun K hK=>?_
     go_simp
     refine hK.out _ _ ?_ (fun hHeld=>?_);focus((try dsimp only);refine⟨?_,?_,?_⟩<;>first|assumption|(simp[go_sem,e6,hh];done)|(simp[go_sem,x0,x1,x2,x3,x4];done)|(trace_state;fail "nextR"))
     clear hK K;try simp only[Act.put,List.setIfInBounds_toArray,List.set_cons_zero,List.set_cons_succ]
     refine wpAnyH_done Mcz ?_ _;go_wp2_with fail
     go_meet
     have r2:Two2 w w5 C m:=Two2.trans McN (Two2.grownC N2.o);have s5:HasAt w5 m out:=HasAt.block (HS.o.keep (n:=w.heap.size) Bw) (N2.o.block m McD McD)
     have s6:HasAt ((w5.setCell ⟨w.heap.size+1,0,none⟩ (.int .i64 part.num)).setCell ⟨w.heap.size+1,1,none⟩ (.int .i64 part.den)) m out:=s5.block (by
      have hb:¬w.heap.size+1=m:=Mcy
      simp[World.setCell,Array.getElem?_modify,hb])
     exact⟨_,rfl,by omega,zek yP,J_ne Mcy (J_ne Mcy N1.o),s6,(r2.set vF Mcy _).set vF Mcy _⟩
  case rest=>
   obtain⟨P,rfl,hP,tI,nK,aw,EG⟩:=hcut;obtain⟨W0,rfl⟩:∃x,x=wc:=⟨_,rfl⟩
   obtain⟨fY,Id,H8,Is⟩:=yH4 aw nK EG tI;have Ju:=zab tI;clear nK EG tI aw;go_wp2_with fail
   go_loopw [20] (fun i wr=>∃(k:Nat) (o2:Parts) (f2:Bool),k<=n/\i=.int .i64 k/\Hid ((o2,f2)=zbL part (l.take k) (out,fl||bg))/\HasAt wr m o2/\MarkAt wr C f2/\Two2 w wr C m/\wr.heap[P]?=some (zbu part)) (fun i _=>n-(intOf i).toNat)
   case atStart=>exact⟨0,out,fl||bg,Nat.zero_le _,rfl,by show _=_;rw[List.take_zero,zbL],fY.o,Id.o,H8.o,Is.o⟩
   case round=>
    obtain⟨k,o2,f2,hk,rfl,HX,hs,hm,h2,vY⟩:=hrel;obtain⟨Bq,AV,DK,Ix⟩:=yH4 hs hm h2 vY;have hsz:=h2.size;have p0:wr.cell? ⟨P,0,none⟩=some (.int .i64 part.num):=by simp only[World.cell?,vY,zbu];rfl
    have p1:wr.cell? ⟨P,1,none⟩=some (.int .i64 part.den):=by simp only[World.cell?,vY,zbu];rfl
    have Jv:=zab vY;have hPn:P≠wr.heap.size:=Mcy;by_cases ae:k<n
    ·have Fi:=HR.o.same (fun b cur fr hx _=>zk4 h2 HM.o HS.o b cur fr hx);have F3:=HI.o.same (zk4 h2 HM.o HS.o);have bI:k<es.length:=by have:=eG.o;have:=HN.o;omega
     have fF:k<l.length:=by have:=HN.o;omega
     obtain⟨b',off,rfl,cJ,hc⟩:=(Ro.sl zjC Fi).at bI;have Km:=F3.2 k es[k] l[k] (List.getElem?_eq_getElem bI) (List.getElem?_eq_getElem fF);have bL:=zmD part l (out,fl||bg) fF;have bD:l[k]∈l:=List.getElem_mem fF;have rR:=zhG iL (l:=l.take k) (fl:=fl||bg) HB.o;rw[List.length_take,Nat.min_eq_left Mcy]at rR;have aG:t+part*(k:Rat)+part<=1:=by
      have h1:=take_le iL (Nat.succ_le_of_lt ae);rw[zgu]at h1;have h2:=Iu.o;have h3:=IG.o;grind
     rw[<-HX.o]at bL rR;obtain⟨cN,Ap,DO⟩:=yH3 bL rR aG;have DY:Hid (HeirAt wr h b law who C m):=(h2.others h hh nH pM).trans HH.o;have ar:(k:Int)<(n:Int):=Mcy;have aQ:(0:Int)<=(k:Int):=Mcy;clear hs hm h2 vY Fi F3 bL rR aG;rcases Km with⟨nm,hx,hy⟩|⟨l',A',c',es',hx,hy,hz,Da,_,xZ,xd⟩
     ·have i0:wr.cell? ⟨b',off+k*2,none⟩=some (.string nm):=hc 0 _ (by rw[hy];rfl);have i1:wr.cell? ⟨b',off+k*2+1,none⟩=some (.slice none 0 0):=hc 1 _ (by rw[hy];rfl);have bL:=cN.o;rw[hx,zdM]at bL;have cN:=zHi bL;clear hc hx hy bL bD;go_wp2_with (go_at_call 181;refine(zgt b h C m law who nm part o2 f2 _ (DY.o.keep (n:=wr.heap.size) Bw) (AV.o.keep (n:=wr.heap.size) Bw Mcy) (Bq.o.keep (n:=wr.heap.size) Bw) nH pM tB Ap.o.good (Ap.o.share (by have:=DO.o;grind) nm) ei).mono ?_;rintro e wq ⟨rfl,g1,g2,g3⟩)
      exact MJ
     ·have uk:es[k]=(⟨#[]⟩,some A',l'.length,c'):=hy;have i0:wr.cell? ⟨b',off+k*2,none⟩=some (.string ⟨#[]⟩):=hc 0 _ (by rw[uk];rfl);have i1:wr.cell? ⟨b',off+k*2+1,none⟩=some (.slice (some A') l'.length c'):=hc 1 _ (by rw[uk];rfl);have bL:=cN.o;rw[hx,zox]at bL;have cN:=zHi bL;have yx:=qQ.o l' (by rw[<-hx];exact bD);obtain⟨I3,bW,qF⟩:=yH3 (fun W h1 h2 h3 h4 h5=>IH.o es' l' Q (some A') l'.length c' part _ o2 f2 W h1 yx h2 Da rfl h3 h4 h5 iL iM ei Ap.o DO.o) xd xZ;clear hc hx hy uk bL bD xd xZ yx;go_wp2_with (go_at_call 183;refine(I3.o _ (bW.o.keep (n:=wr.heap.size) Bw) (qF.o.keep (n:=wr.heap.size) Bw) (DY.o.keep (n:=wr.heap.size) Bw) (AV.o.keep (n:=wr.heap.size) Bw Mcy) (Bq.o.keep (n:=wr.heap.size) Bw)).mono ?_;rintro e wq ⟨rfl,g1,g2,g3⟩)
      exact MJ
    ·have ar:¬(k:Int)<(n:Int):=Mcy;rw[List.take_of_length_le (by have:=HN.o;omega)]at HX;go_wp2_with fail
     go_end0
     rw[<-HX.o];exact⟨rfl,Bq.o,AV.o,DK.o⟩
