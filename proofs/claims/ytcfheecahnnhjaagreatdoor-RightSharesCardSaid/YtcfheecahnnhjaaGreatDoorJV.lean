import Derived.Test.YtcfheecahnnhjaaGreatDoorJQ
import Derived.Test.YtcfheecahnnhjaaGreatDoorO7
set_option linter.all false
set_option maxRecDepth 100000
set_option maxHeartbeats 4000000
namespace Go.Proofs.YtcfheecahnnhjaaGreatDoor
open Go.RowKit Go.Shelf
attribute [local go_sem] World.cell?_alloc_mark zag za4 zar zaB zaw zax zay zaz za0 za1 za2
section
attribute [local go_sem] zas zad
theorem ItemsN.same{W W':World}{Q:Nat->Prop}(hb:∀(k:Nat) (cur:Array Value) (fr:Nat×Nat),W.heap[k]?=some (.cells cur 229 fr)->W'.heap[k]?=W.heap[k]?):∀ {f:Nat} {es:List Ln} {l:List Tree},ItemsN W Q f es l->ItemsN W' Q f es l
 |0,_,_,h=>h
 |f+1,es,l,h=>⟨h.1,fun k e t h1 h2=>by
  rcases h.2 k e t h1 h2 with h3|⟨l',A,c,es',h3,h4,h5,h6,hQ,h7,h8⟩
  ·exact .inl h3
  ·exact .inr ⟨l',_,c,es',h3,h4,h5,h6,hQ,h7.same (fun b cur fr hx _=>hb b cur fr hx),ItemsN.same hb h8⟩⟩
theorem zkC{w w':World}{C m:Nat}{fl:Bool}{out:Parts}(h:Two2 w w' C m)(hM:MarkAt w C fl)(hS:HasAt w m out):∀(k:Nat) (cur:Array Value) (fr:Nat×Nat),w.heap[k]?=some (.cells cur 229 fr)->w'.heap[k]?=w.heap[k]?:=fun k cur fr hk=>by
 refine h.others k (Array.getElem?_eq_some_iff.1 hk).1 (fun e=>?_) (fun e=>?_)
 ·subst e;unfold MarkAt at hM;rw[hM]at hk;simp at hk
 ·subst e;obtain⟨mm,⟨es,c,h1,_⟩,_⟩:=hS;rw[h1]at hk;simp at hk
theorem Two2.set{w W:World}{C m:Nat}(h:Two2 w W C m){P o:Nat}(hC:C<w.heap.size)(hP:w.heap.size<=P)(v:Value):Two2 w (W.setCell ⟨P,o,none⟩ v) C m:=
 ⟨fun n h1 h2 h3=>zaM (h.below n h1 h2 h3) (by show n<=P;omega) v,fun k hk h1 h2=>by
   rw[<-h.others k hk h1 h2];have hb:¬P=k:=Mcu
   simp[World.setCell,Array.getElem?_modify,hb],by simp only[World.setCell,Array.size_modify];exact h.size⟩
theorem Two2.alloc{w W:World}{C m:Nat}(h:Two2 w W C m)(o:Obj):Two2 w (W.alloc o) C m:=h.trans (Two2.of_below (zac (Below.refl _ _) o))
theorem Two2.refl2(w:World)(C m:Nat):Two2 w w C m:=Two2.of_below (Below.refl _ _)
theorem Two2.drew{w W:World}{C m:Nat}(h:Two2 w W C m):Two2 w W.drew C m:=h.trans (Two2.of_below (zaE (Below.refl _ _)))
theorem Two2.ext{w W:World}{C m:Nat}(h:Two2 w W C m)(z:Ez):Two2 w (W.ext z) C m:=h.trans (Two2.of_below (zao W z))
theorem zhh(b h C m:Nat)(law:Law)(who:ByteArray)(nL:h≠C)(pR:h≠m)(tV:C≠m):∀(f:Nat) (es:List Ln) (l:List Tree) (Q:Nat->Prop) (A:Option Addr) (n c:Nat) (q t:Rat) (out:Parts) (fl:Bool) (w:World),
 ItemsN w Q f es l->WideN f l->Ro w 229 lnC A es->l≠[]->n=l.length->HeirAt w h b law who C m->MarkAt w C fl->HasAt w m out->0<=q->q<=1->zaJ q->Bd out t->t+q<=1->
 Calls Tryz.prog 177 #[.pointer (some ⟨h,0,none⟩),.slice A n c,.agg #[.int .i64 q.num,.int .i64 q.den]] w (zl8 w C m (zc0 l q (out,fl)))
 |0,es,l,Q,A,n,c,q,t,out,fl,w,hI,_,_,ai,_,_,_,_,_,_,_,_,_=>absurd hI.2 ai
 |f+1,es,l,Q,A,n,c,q,t,out,fl,w,hI,E8,hR,ai,hn,hH,hM,hS,dL,cM,hqs,dt,htq=>by
  have IH:=zHi (zhh b h C m law who nL pR tV f);have ag:=hI.len;have d8:0<l.length:=List.length_pos_iff.2 ai;obtain⟨cG,Hf⟩:=E8;have hh:=zab hH;have wh:=zab hM;have fJ:=hS.lt;obtain⟨iQ,iB,cS,DL⟩:=part_ok dL cM d8;have q9:=zlB d8 cG;obtain⟨li,uu,_,_⟩:=zhO d8;rw[zc0];rw[<-hn]at iQ iB cS DL q9 li uu⊢;generalize hpart:zbj (q*(1/(n:Rat)))=part at*;have AG:=fun(W:World) (cF:MarkAt W C fl)=>zhL C fl W cF q (1/(n:Rat)) hqs q9
  unfold zeH zaA at AG;simp only[hpart,li,uu]at AG;have iV:=zHi AG;clear AG li uu q9;obtain⟨HP,HI,rh,HR,HH,HM,HS,HB⟩:=yH8 hpart hI Hf hR hH hM hS dt;obtain⟨J1,IP⟩:=yH2 htq DL;unfold HeirAt at hH;obtain⟨-,-,-,-,-,-,e6⟩:=cF7 hH;clear hI Hf hR hH hM hS dt htq DL hpart;generalize bigQ (q*(1/(n:Rat)))=bg at*;have pV:n<=1000:=Mcu;obtain⟨HN,eL⟩:=yH2 hn ag;clear hn ag;go_enter Tryz.func177,Tryz.ntmps177
  go_upto_region 1 with fail
  go_cut [6]from 7 (fun v wc=>∃P,v=.pointer (some ⟨P,0,none⟩)/\w.heap.size<P/\wc.heap[P]?=some (zbv part)/\MarkAt wc C (fl||bg)/\HasAt wc m out/\Two2 w wc C m)
  case first=>
   refine wp_region_held_drew (S:=(fun w'=>w'.cell? ⟨h,6,none⟩=some (.pointer (some ⟨C,0,none⟩))/\w'.cell? ⟨w.heap.size,0,none⟩=some (.int .i64 q.num)/\w'.cell? ⟨w.heap.size,1,none⟩=some (.int .i64 q.den))) Mcv ?hS ?hrest
   case hS=>((try dsimp only);refine⟨?_,?_,?_⟩<;>(simp[go_sem,e6,hh];done))
   case hrest=>
    intro hHeld;refine TkH 0 ?_;refine TkH 1 ?_;refine TkH 2 ?_;refine TkH 3 ?_;refine TkH 4 ?_;refine TkH 5 ?_;refine TkH 6 ?_;refine TkH 7 ?_;refine wpAnyH_ready (rs:=[8,9]) Mcv Mcx (AllReadyH.cons (List.getElem?_toArray.trans rfl) (fun K hK=>?_) (AllReadyH.cons (List.getElem?_toArray.trans rfl) (fun K hK=>?_) AllReadyH.nil))
    ·go_simp
     refine(iV.o _ ?q1).mono ?_
     case q1=>(repeat(first|exact HM.o|refine MarkAt.drew ?_|refine MarkAt.alloc ?_ _))
     rintro e w5 ⟨rfl,n1,n2⟩;have dY:=n2.size;have x0:w5.cell? ⟨h,6,none⟩=some (.pointer (some ⟨C,0,none⟩)):=(zbd n2 Mcz nL).trans Mew;have x1:w5.cell? ⟨w.heap.size,0,none⟩=some (.int .i64 q.num):=(zbd n2 (by simp;try omega) Mcu).trans Mc0;have x2:w5.cell? ⟨w.heap.size,1,none⟩=some (.int .i64 q.den):=(zbd n2 (by simp;try omega) Mcu).trans Mc0;have x3:w.heap.size<w5.heap.size:=MdV;have x4:h<w5.heap.size:=MdV;obtain⟨N1,N2⟩:=yH2 n1 n2;clear n1 n2;refine hK.out _ _ ?_ (fun hHeld=>?_);focus((try dsimp only);refine⟨?_,?_,?_⟩<;>first|assumption|(simp[go_sem,e6,hh];done)|(simp[go_sem,x0,x1,x2,x3,x4];done)|(trace_state;fail "nextR"))
     clear hK K;try simp only[Act.put,List.setIfInBounds_toArray,List.set_cons_zero,List.set_cons_succ]
     refine OnH 9 fun K hK=>?_
     go_simp
     refine hK.out _ _ ?_ (fun hHeld=>?_);focus((try dsimp only);refine⟨?_,?_,?_⟩<;>first|assumption|(simp[go_sem,e6,hh];done)|(simp[go_sem,x0,x1,x2,x3,x4];done)|(trace_state;fail "nextR"))
     clear hK K;try simp only[Act.put,List.setIfInBounds_toArray,List.set_cons_zero,List.set_cons_succ]
     refine OnH 10 fun K hK=>?_
     go_simp
     refine hK.out _ _ ?_ (fun hHeld=>?_);focus((try dsimp only);refine⟨?_,?_,?_⟩<;>first|assumption|(simp[go_sem,e6,hh];done)|(simp[go_sem,x0,x1,x2,x3,x4];done)|(trace_state;fail "nextR"))
     clear hK K;try simp only[Act.put,List.setIfInBounds_toArray,List.set_cons_zero,List.set_cons_succ]
     refine wpAnyH_done Mcv ?_ _;go_wp2_with fail
     go_meet
     have r2:Two2 w w5 C m:=Two2.trans McK (Two2.grownC N2.o);have s5:HasAt w5 m out:=HasAt.block (HS.o.keep (n:=w.heap.size) Bw) (N2.o.block m Mcz Mcz);exact⟨_,rfl,by omega,zaq _ _ _ rfl,N1.o.alloc _,s5.keep (n:=w5.heap.size) (zac (Below.refl _ _) _),r2.alloc _⟩
    ·go_simp
     refine hK.out _ _ ?_ (fun hHeld=>?_);focus((try dsimp only);refine⟨?_,?_,?_⟩<;>first|assumption|(simp[go_sem,e6,hh];done)|(simp[go_sem,x0,x1,x2,x3,x4];done)|(trace_state;fail "nextR"))
     clear hK K;try simp only[Act.put,List.setIfInBounds_toArray,List.set_cons_zero,List.set_cons_succ]
     refine OnH 8 fun K hK=>?_
     go_simp
     refine(iV.o _ ?q1).mono ?_
     case q1=>(repeat(first|exact HM.o|refine MarkAt.drew ?_|refine MarkAt.alloc ?_ _))
     rintro e w5 ⟨rfl,n1,n2⟩;have dY:=n2.size;have x0:w5.cell? ⟨h,6,none⟩=some (.pointer (some ⟨C,0,none⟩)):=(zbd n2 Mcz nL).trans Mew;have x1:w5.cell? ⟨w.heap.size,0,none⟩=some (.int .i64 q.num):=(zbd n2 (by simp;try omega) Mcu).trans Mc0;have x2:w5.cell? ⟨w.heap.size,1,none⟩=some (.int .i64 q.den):=(zbd n2 (by simp;try omega) Mcu).trans Mc0;have x3:w.heap.size<w5.heap.size:=MdV;have x4:h<w5.heap.size:=MdV;obtain⟨N1,N2⟩:=yH2 n1 n2;clear n1 n2;have yP:w5.heap[w.heap.size+1]?=some (.cells #[.int .i64 0,.int .i64 0] 31):=(N2.o.block _ Mcx Mcz).trans (zaq _ _ _ Mcx);obtain⟨y0,y1⟩:=cF2 yP;have f0:w5.frozen? ⟨w.heap.size+1,0,none⟩=false:=by simp only[World.frozen?,yP];rfl
     have f1:w5.frozen? ⟨w.heap.size+1,1,none⟩=false:=by simp only[World.frozen?,yP];rfl
     have pS:h≠w.heap.size+1:=Mcu;have JQ:=zab yP;refine hK.out _ _ ?_ (fun hHeld=>?_);focus((try dsimp only);refine⟨?_,?_,?_⟩<;>first|assumption|(simp[go_sem,e6,hh];done)|(simp[go_sem,x0,x1,x2,x3,x4];done)|(trace_state;fail "nextR"))
     clear hK K;try simp only[Act.put,List.setIfInBounds_toArray,List.set_cons_zero,List.set_cons_succ]
     refine OnH 10 fun K hK=>?_
     go_simp
     refine hK.out _ _ ?_ (fun hHeld=>?_);focus((try dsimp only);refine⟨?_,?_,?_⟩<;>first|assumption|(simp[go_sem,e6,hh];done)|(simp[go_sem,x0,x1,x2,x3,x4];done)|(trace_state;fail "nextR"))
     clear hK K;try simp only[Act.put,List.setIfInBounds_toArray,List.set_cons_zero,List.set_cons_succ]
     refine wpAnyH_done Mcv ?_ _;go_wp2_with fail
     go_meet
     have r2:Two2 w w5 C m:=Two2.trans McK (Two2.grownC N2.o);have s5:HasAt w5 m out:=HasAt.block (HS.o.keep (n:=w.heap.size) Bw) (N2.o.block m Mcz Mcz)
     have s6:HasAt ((w5.setCell ⟨w.heap.size+1,0,none⟩ (.int .i64 part.num)).setCell ⟨w.heap.size+1,1,none⟩ (.int .i64 part.den)) m out:=s5.block (by
      have hb:¬w.heap.size+1=m:=Mcu
      simp[World.setCell,Array.getElem?_modify,hb])
     exact⟨_,rfl,by omega,zdy yP,J_ne Mcu (J_ne Mcu N1.o),s6,(r2.set wh Mcu _).set wh Mcu _⟩
  case rest=>
   obtain⟨P,rfl,hP,ua,nN,au,F6⟩:=hcut;obtain⟨W0,rfl⟩:∃x,x=wc:=⟨_,rfl⟩
   obtain⟨fh,Iy,Hp,IN⟩:=yH4 au nN F6 ua;have JQ:=zab ua;clear nN F6 ua au;go_wp2_with fail
   go_loopw [20] (fun i wr=>∃(k:Nat) (o2:Parts) (f2:Bool),k<=n/\i=.int .i64 k/\Hid ((o2,f2)=zbQ part (l.take k) (out,fl||bg))/\HasAt wr m o2/\MarkAt wr C f2/\Two2 w wr C m/\wr.heap[P]?=some (zbv part)) (fun i _=>n-(intOf i).toNat)
   case atStart=>exact⟨0,out,fl||bg,Nat.zero_le _,rfl,by show _=_;rw[List.take_zero,zbQ],fh.o,Iy.o,Hp.o,IN.o⟩
   case round=>
    obtain⟨k,o2,f2,hk,rfl,HX,hs,hm,h2,wK⟩:=hrel;obtain⟨BT,Bu,Eg,IS⟩:=yH4 hs hm h2 wK;have hsz:=h2.size;have p0:wr.cell? ⟨P,0,none⟩=some (.int .i64 part.num):=by simp only[World.cell?,wK,zbv];rfl
    have p1:wr.cell? ⟨P,1,none⟩=some (.int .i64 part.den):=by simp only[World.cell?,wK,zbv];rfl
    have JR:=zab wK;have hPn:P≠wr.heap.size:=Mcu;by_cases ae:k<n
    ·have FG:=HR.o.same (fun b cur fr hx _=>zkC h2 HM.o HS.o b cur fr hx);have Fq:=HI.o.same (zkC h2 HM.o HS.o);have bP:k<es.length:=by have:=eL.o;have:=HN.o;omega
     have fH:k<l.length:=by have:=HN.o;omega
     obtain⟨b',off,rfl,cK,hc⟩:=(Ro.sl zjJ FG).at bP;have KI:=Fq.2 k es[k] l[k] (List.getElem?_eq_getElem bP) (List.getElem?_eq_getElem fH);have bw:=zmQ part l (out,fl||bg) fH;have bH:l[k]∈l:=List.getElem_mem fH;have sb:=zhN iQ (l:=l.take k) (fl:=fl||bg) HB.o;rw[List.length_take,Nat.min_eq_left Mcu]at sb;have aI:t+part*(k:Rat)+part<=1:=by
      have h1:=take_le iQ (Nat.succ_le_of_lt ae);rw[zg2]at h1;have h2:=IP.o;have h3:=J1.o;grind
     rw[<-HX.o]at bw sb;obtain⟨bT,AV,Ek⟩:=yH3 bw sb aI;have Et:Hid (HeirAt wr h b law who C m):=(h2.others h hh nL pR).trans HH.o;have ar:(k:Int)<(n:Int):=Mcu;have aT:(0:Int)<=(k:Int):=Mcu;clear hs hm h2 wK FG Fq bw sb aI;rcases KI with⟨nm,hx,hy⟩|⟨l',A',c',es',hx,hy,hz,DH,_,yM,xI⟩
     ·have i0:wr.cell? ⟨b',off+k*2,none⟩=some (.string nm):=hc 0 _ (by rw[hy];rfl);have i1:wr.cell? ⟨b',off+k*2+1,none⟩=some (.slice none 0 0):=hc 1 _ (by rw[hy];rfl);have bw:=bT.o;rw[hx,zdW]at bw;have bT:=zHi bw;clear hc hx hy bw bH;go_wp2_with (go_at_call 175;refine(zg1 b h C m law who nm part o2 f2 _ (Et.o.keep (n:=wr.heap.size) Bw) (Bu.o.keep (n:=wr.heap.size) Bw Mcu) (BT.o.keep (n:=wr.heap.size) Bw) nL pR tV AV.o.good (AV.o.share (by have:=Ek.o;grind) nm) cS).mono ?_;rintro e wq ⟨rfl,g1,g2,g3⟩)
      exact MK
     ·have uG:es[k]=(⟨#[]⟩,some A',l'.length,c'):=hy;have i0:wr.cell? ⟨b',off+k*2,none⟩=some (.string ⟨#[]⟩):=hc 0 _ (by rw[uG];rfl);have i1:wr.cell? ⟨b',off+k*2+1,none⟩=some (.slice (some A') l'.length c'):=hc 1 _ (by rw[uG];rfl);have bw:=bT.o;rw[hx,zo8]at bw;have bT:=zHi bw;have zn:=rh.o l' (by rw[<-hx];exact bH);obtain⟨Im,bK,qQ⟩:=yH3 (fun W h1 h2 h3 h4 h5=>IH.o es' l' Q (some A') l'.length c' part _ o2 f2 W h1 zn h2 DH rfl h3 h4 h5 iQ iB cS AV.o Ek.o) xI yM;clear hc hx hy uG bw bH xI yM zn;go_wp2_with (go_at_call 177;refine(Im.o _ (bK.o.keep (n:=wr.heap.size) Bw) (qQ.o.keep (n:=wr.heap.size) Bw) (Et.o.keep (n:=wr.heap.size) Bw) (Bu.o.keep (n:=wr.heap.size) Bw Mcu) (BT.o.keep (n:=wr.heap.size) Bw)).mono ?_;rintro e wq ⟨rfl,g1,g2,g3⟩)
      exact MK
    ·have ar:¬(k:Int)<(n:Int):=Mcu;rw[List.take_of_length_le (by have:=HN.o;omega)]at HX;go_wp2_with fail
     go_end0
     rw[<-HX.o];exact⟨rfl,BT.o,Bu.o,Eg.o⟩
end
open Go.Sort
abbrev PQ:=ByteArray×Rat
instance:Inhabited PQ:=⟨(⟨#[]⟩,0)⟩
def zfW(x y:PQ):Int:=cmpN x.1 y.1
theorem zg6(x y:PQ):ltOf zfW x y=zbb x.1 y.1:=znD _ _
theorem part_swo:Sort.SWO (ltOf zfW) where
 irrefl x:=by rw[zg6];exact zfc _
 trans x y z h1 h2:=by rw[zg6]at*;exact zb6 h1 h2
 ntrans x y z h1 h2:=by
  rw[zg6]at*;cases h:zbb x.1 z.1
  ·rfl
  ·exfalso
   rcases zdg y.1 z.1 with h3|h3|h3
   ·rw[h2]at h3;cases h3
   ·rw[h3,h]at h1;cases h1
   ·rw[zb6 h h3]at h1;cases h1
theorem perm_upP{d d':Array PQ}(hp:Sort.PermIn 0 d.size d d')(hs:Sort.SortedIn (ltOf zfW) 0 d.size d'):d'.toList.Perm d.toList/\UpP d'.toList:=by
 obtain⟨hsz,_,qa⟩:=hp;have e1:d'.extract 0 d.size=d':=by rw[<-hsz];exact Array.extract_size
 rw[e1,Array.extract_size]at qa;refine⟨qa,List.pairwise_iff_getElem.2 fun i j hi hj cP=>?_⟩;have KG:i<d'.size:=by simpa using hi
 have sD:j<d'.size:=Med;have:=hs i j (Nat.zero_le _) cP Mcu;rw[zg6,getElem!_pos d' j sD,getElem!_pos d' i KG]at this;simpa using this
theorem zlS(d:Array PQ){k j:Nat}{x:PQ}{u:Value}(hk:d.toList[k]?=some x)(hj:(zaa x)[j]?=some u):k*3+j<(Sort.flatK zaa 3 d).size/\(Sort.flatK zaa 3 d)[k*3+j]! =u:=by
 have Dv:j<3:=by have:=(List.getElem?_eq_some_iff.1 hj).1;rw[zam]at this;exact this
 have bV:k<d.size:=by have:=(List.getElem?_eq_some_iff.1 hk).1;simpa using this
 have ae:k*3+j<d.size*3:=Mcu;refine⟨by rw[Sort.size_flatK];exact ae,?_⟩;rw[Sort.get_flatK _ _ _ _ ae,show(k*3+j)/3=k by omega,show(k*3+j)%3=j by omega];have:d[k]! =x:=by
  rw[getElem!_pos d k bV];have:=(List.getElem?_eq_some_iff.1 hk).2;simpa using this
 rw[this,List.getElem!_eq_getElem?_getD,hj];rfl
theorem zoQ{w:World}{base g o cap:Nat}{cur:Array Value}{xs:Parts}(hg:w.heap[g]?=some (.cells cur 64 (0,0)))(hx:∀j u,(xs.flatMap zaa)[j]?=some u->cur[o+j]?=some u):Sort.HoldsK zaa 3 w g o xs.toArray:=fun j hj=>by
 rw[Sort.size_flatK]at hj;have sD:j<xs.length*3:=Med;have ae:j/3<xs.length:=Mcu;have jM:xs[j/3]?=some xs[j/3]:=List.getElem?_eq_getElem ae;have hu:(zaa xs[j/3])[j%3]?=some ((zaa xs[j/3])[j%3]' Meb):=List.getElem?_eq_getElem _;obtain⟨_,h2⟩:=zlS xs.toArray (k:=j/3) (x:=xs[j/3]) (show xs.toArray.toList[j/3]?=_ from jM) hu;have hc:=hx (j/3*3+j%3) _ (zeX zaa 3 zam xs _ _ jM _ _ hu);have e:j/3*3+j%3=j:=Mcu;rw[e]at h2 hc;refine⟨?_,?_⟩
 ·rw[h2];simp only[World.cell?,hg];exact hc
 ·simp[World.frozen?,hg]
theorem sort_heap{w:World}{g o n cap:Nat}{cur:Array Value}{d:Array PQ}{os:Array Obj}(hg:w.heap[g]?=some (.cells cur 64 (0,0)))(ax:o+cap*3<=cur.size):∃cur',(sortWorldK zaa 3 w g o n d os).heap[g]?=some (.cells cur' 64 (0,0))/\o+cap*3<=cur'.size:=by
 have hl:=zab hg;refine⟨putCells id o (flatK zaa 3 d) cur,?_,by unfold putCells;rw[Array.size_mapIdx];exact ax⟩;exact MaB
theorem zmV{w W:World}{g o n:Nat}{dk:Array PQ}{os:Array Obj}(hg:w.heap.size<=g)(hB:Below w.heap.size w W):Below w.heap.size w (sortWorldK zaa 3 W g o n dk os):=by
 refine hB.trans ⟨rfl,rfl,rfl,?_,fun k hk=>?_⟩
 ·exact Ma9
 ·have hs:=hB.size;show((Sort.mapBlock _ _ _).heap++os)[k]?=_;rw[Array.getElem?_append_left MdW];simp only[Sort.mapBlock,Sort.ahead];rw[Array.getElem?_modify,if_neg Mcu]
theorem zoR(x y:PQ)(W:World):Calls Tryz.prog 179 #[.agg (zaa x).toArray,.agg (zaa y).toArray] W fun e w'=>e=.returned (.int .i64 (zfW x y))/\∃q os',w'=Go.Sort.grow (W.drewN q) os':=by
 obtain⟨a0,a1⟩:=x;obtain⟨b0,b1⟩:=y;have hc:=fun W'=>zlk a0 b0 W'
 have hl:zfW (a0,a1) (b0,b1)=cmpN a0 b0:=rfl;rw[hl];generalize cmpN a0 b0=r at hc⊢;simp only[zaa];go_enter Tryz.func179,Tryz.ntmps179
 go_wp2_with (go_at_call 83;refine(hc _).mono ?_;rintro e wq ⟨rfl,rfl⟩)
 go_ret
 exact⟨rfl,0,_,by rw[alloc_eq_grow,alloc_eq_grow,grow_grow];rfl⟩
theorem sortP0(g off cap:Nat)(d:Array PQ)(w:World)(hH:Sort.HoldsK zaa 3 w g off d)(hg:g<w.heap.size)(hsz:d.size<=1000000000):
 Calls Tryz.prog 178 #[.slice (some ⟨g,off,none⟩) d.size cap,.func (.func 179) #[] #[]] w fun e w'=>
  e=.returned (.tuple #[])/\∃d' n os,Sort.PermIn 0 d.size d d'/\Sort.SortedIn (ltOf zfW) 0 d.size d'/\w'=sortWorldK zaa 3 w g off n d' os:=by
 have eg:∀args w,(callFunc 179 args).run Tryz.prog w=.ok (.enter 179 args) w:=enters_of Tryz.func179 Mcv rfl;have b9:=AnyQ.slices_SortFunc znF 3 Tryz.isAgg64 Tryz.sizeOf64 zaa zam zcg zfW part_swo 179 #[] g off cap d w eg (fun _ _ _ _ x y=>by simpa using zoR x y _) hH hg Mcu;change Calls Tryz.prog 178 _ _ _ at b9;exact b9
theorem zoS(fv:Value)(w:World):Calls Tryz.prog 178 #[.slice none 0 0,fv] w fun e w'=>e=.returned (.tuple #[])/\w'=w:=by
 have b9:=AnyF.slices_SortFunc_none znF none 0 fv w;change Calls Tryz.prog 178 _ _ _ at b9;exact b9
theorem sortP_any(v:Value)(ls:Parts)(base:Nat)(w:World)(aa:OwnS w base 64 3 zaa v ls)(hl:ls.length<=1000000000):
 Calls Tryz.prog 178 #[v,.func (.func 179) #[] #[]] w fun e w'=>e=.returned (.tuple #[])/\∃L,L.Perm ls/\UpP L/\OwnS w' base 64 3 zaa v L/\(∀w0:World,Below w0.heap.size w0 w->w0.heap.size<=base->Below w0.heap.size w0 w')/\w.grownBy w' (za5 v):=by
 rcases aa with⟨rfl,rfl⟩|⟨g,o,cap,cur,rfl,hb,hg,hc,hm,hs,hx⟩
 ·refine(zoS _ _).mono ?_;rintro e wq ⟨rfl,rfl⟩;exact⟨rfl,[],List.Perm.refl _,List.Pairwise.nil,OwnS.nil,fun w0 h _=>h,zdp _ _⟩
 ·have cq:=zab hg;have hH:=zoQ (base:=base) (cap:=cap) hg hx;have h:=sortP0 g o cap ls.toArray w hH cq (by simpa using hl);have e:ls.toArray.size=ls.length:=Mcx;rw[e]at h;refine h.mono ?_;rintro e wq ⟨rfl,d',n,os,hp,qg,rfl⟩;obtain⟨h1,h2⟩:=perm_upP (by rw[e];exact hp) (by rw[e];exact qg);have pD:d'.toList.Perm ls:=h1;have ag:d'.toList.length=ls.length:=pD.length_eq;obtain⟨cur',fD,eI⟩:=sort_heap (n:=n) (d:=d') (os:=os) hg hs;have wt:=holdsK_sortWorldK zaa 3 w g o n ls.toArray d' os cq hH (by simpa using ag);refine⟨rfl,d'.toList,pD,h2,.inr ⟨g,o,cap,cur',by rw[ag],hb,fD,by omega,hm,eI,?_⟩,fun w0 h ba=>zmV Mcu h,?_⟩
  ·intro j u hu;have cQ:j<d'.toList.length*3:=by
    have:=(List.getElem?_eq_some_iff.1 hu).1;rw[zgc zaa 3 zam]at this;exact this
   have hk:d'.toList[j/3]?=some (d'.toList[j/3]' Mcu):=List.getElem?_eq_getElem _;have Dv:j%3<3:=Nat.mod_lt _ Mcw;have hv:(zaa (d'.toList[j/3]' Mcu))[j%3]?=some ((zaa (d'.toList[j/3]' Mcu))[j%3]'(by rw[zam];exact Dv)):=List.getElem?_eq_getElem _;obtain⟨q1,q2⟩:=zlS d' hk hv;have q3:=zeX zaa 3 zam d'.toList _ _ hk _ _ hv;have e3:j/3*3+j%3=j:=Mcu;rw[e3]at q1 q2 q3;have q4:=(wt j q1).1;rw[q2]at q4;rw[q3]at hu;simp only[World.cell?,fD]at q4;rw[<-hu];exact q4
  ·refine⟨rfl,rfl,rfl,?_,fun k hk ai=>?_⟩
   ·exact Ma9
   ·have Gp:¬g=k:=fun e=>ai (by simp[za5,e])
    exact MaC
