import Derived.Test.YthhgkjfgpkbliaaGreatDoorJQ
import Derived.Test.YthhgkjfgpkbliaaGreatDoorE2
set_option linter.all false
set_option maxRecDepth 100000
set_option maxHeartbeats 4000000
namespace Go.Proofs.YthhgkjfgpkbliaaGreatDoor
open Go.RowKit Go.Shelf
attribute [local go_sem] World.cell?_alloc_mark zae zav zai zaw zam zan zao zap zaq zar zas
section
attribute [local go_sem] zah zac
theorem ItemsN.same{W W':World}{Q:Nat->Prop}(hb:∀(k:Nat) (cur:Array Value) (fr:Nat×Nat),W.heap[k]?=some (.cells cur 260 fr)->W'.heap[k]?=W.heap[k]?):∀ {f:Nat} {es:List Ln} {l:List Tree},ItemsN W Q f es l->ItemsN W' Q f es l
 |0,_,_,h=>h
 |f+1,es,l,h=>⟨h.1,fun k e t h1 h2=>by
  rcases h.2 k e t h1 h2 with h3|⟨l',A,c,es',h3,h4,h5,h6,hQ,h7,h8⟩
  ·exact .inl h3
  ·exact .inr ⟨l',_,c,es',h3,h4,h5,h6,hQ,h7.same (fun b cur fr hx _=>hb b cur fr hx),ItemsN.same hb h8⟩⟩
theorem ziQ{w w':World}{C m:Nat}{fl:Bool}{out:Parts}(h:Two2 w w' C m)(hM:MarkAt w C fl)(hS:HasAt w m out):∀(k:Nat) (cur:Array Value) (fr:Nat×Nat),w.heap[k]?=some (.cells cur 260 fr)->w'.heap[k]?=w.heap[k]?:=fun k cur fr hk=>by
 refine h.others k (Array.getElem?_eq_some_iff.1 hk).1 (fun e=>?_) (fun e=>?_)
 ·subst e;unfold MarkAt at hM;rw[hM]at hk;simp at hk
 ·subst e;obtain⟨mm,⟨es,c,h1,_⟩,_⟩:=hS;rw[h1]at hk;simp at hk
theorem Two2.set{w W:World}{C m:Nat}(h:Two2 w W C m){P o:Nat}(hC:C<w.heap.size)(hP:w.heap.size<=P)(v:Value):Two2 w (W.setCell ⟨P,o,none⟩ v) C m:=
 ⟨fun n h1 h2 h3=>zaU (h.below n h1 h2 h3) (by show n<=P;omega) v,fun k hk h1 h2=>by
   rw[<-h.others k hk h1 h2];have hb:¬P=k:=MbC
   simp[World.setCell,Array.getElem?_modify,hb],by simp only[World.setCell,Array.size_modify];exact h.size⟩
theorem Two2.alloc{w W:World}{C m:Nat}(h:Two2 w W C m)(o:Obj):Two2 w (W.alloc o) C m:=h.trans (Two2.of_below (zau (Below.refl _ _) o))
theorem Two2.refl2(w:World)(C m:Nat):Two2 w w C m:=Two2.of_below (Below.refl _ _)
theorem Two2.drew{w W:World}{C m:Nat}(h:Two2 w W C m):Two2 w W.drew C m:=h.trans (Two2.of_below (zaI (Below.refl _ _)))
theorem Two2.ext{w W:World}{C m:Nat}(h:Two2 w W C m)(z:Ez):Two2 w (W.ext z) C m:=h.trans (Two2.of_below (za5 W z))
theorem zfP(b h C m:Nat)(law:Law)(who:ByteArray)(j9:h≠C)(kC:h≠m)(nD:C≠m):∀(f:Nat) (es:List Ln) (l:List Tree) (Q:Nat->Prop) (A:Option Addr) (n c:Nat) (q t:Rat) (out:Parts) (fl:Bool) (w:World),
 ItemsN w Q f es l->WideN f l->Ro w 260 lnC A es->l≠[]->n=l.length->HeirAt w h b law who C m->MarkAt w C fl->HasAt w m out->0<=q->q<=1->zaD q->Bd out t->t+q<=1->
 Calls Tryz.prog 206 #[.pointer (some ⟨h,0,none⟩),.slice A n c,.agg #[.int .i64 q.num,.int .i64 q.den]] w (zj7 w C m (zce l q (out,fl)))
 |0,es,l,Q,A,n,c,q,t,out,fl,w,hI,_,_,ag,_,_,_,_,_,_,_,_,_=>absurd hI.2 ag
 |f+1,es,l,Q,A,n,c,q,t,out,fl,w,hI,wo,hR,ag,hn,hH,hM,hS,mO,dJ,hqs,dl,tt=>by
  have IH:=zHi (zfP b h C m law who j9 kC nD f);have af:=hI.len;have bz:0<l.length:=List.length_pos_iff.2 ag;obtain⟨cP,zj⟩:=wo;have hh:=zad hH;have pm:=zad hM;have fE:=hS.lt;obtain⟨eD,ja,dq,vU⟩:=part_ok mO dJ bz;have vT:=one_small bz cP;obtain⟨gQ,nV,_,_⟩:=zlD bz;rw[zce];rw[<-hn]at eD ja dq vU vT gQ nV⊢;generalize hpart:zaQ (q*(1/(n:Rat)))=part at*;have tf:=fun(W:World) (bm:MarkAt W C fl)=>zg2 C fl W bm q (1/(n:Rat)) hqs vT
  unfold zdN za9 at tf;simp only[hpart,gQ,nV]at tf;have x9:=zHi tf;clear tf gQ nV vT;obtain⟨HP,HI,AN,HR,HH,HM,HS,HB⟩:=yH8 hpart hI zj hR hH hM hS dl;obtain⟨AG,Ao⟩:=yH2 tt vU;unfold HeirAt at hH;obtain⟨-,-,-,-,-,-,e6⟩:=cF7 hH;clear hI zj hR hH hM hS dl tt vU hpart;generalize bigQ (q*(1/(n:Rat)))=bg at*;have qD:n<=1000:=MbC;obtain⟨HN,dL⟩:=yH2 hn af;clear hn af;go_enter Tryz.func206,Tryz.ntmps206
  go_upto_region 1 with fail
  go_cut [6]from 7 (fun v wc=>∃P,v=.pointer (some ⟨P,0,none⟩)/\w.heap.size<P/\wc.heap[P]?=some (zba part)/\MarkAt wc C (fl||bg)/\HasAt wc m out/\Two2 w wc C m)
  case first=>
   refine wp_region_held_drew (S:=(fun w'=>w'.cell? ⟨h,6,none⟩=some (.pointer (some ⟨C,0,none⟩))/\w'.cell? ⟨w.heap.size,0,none⟩=some (.int .i64 q.num)/\w'.cell? ⟨w.heap.size,1,none⟩=some (.int .i64 q.den))) MbE ?hS ?hrest
   case hS=>((try dsimp only);refine⟨?_,?_,?_⟩<;>(simp[go_sem,e6,hh];done))
   case hrest=>
    intro hHeld;refine TkH 0 ?_;refine TkH 1 ?_;refine TkH 2 ?_;refine TkH 3 ?_;refine TkH 4 ?_;refine TkH 5 ?_;refine TkH 6 ?_;refine TkH 7 ?_;refine wpAnyH_ready (rs:=[8,9]) MbE MbF (AllReadyH.cons (List.getElem?_toArray.trans rfl) (fun K hK=>?_) (AllReadyH.cons (List.getElem?_toArray.trans rfl) (fun K hK=>?_) AllReadyH.nil))
    ·go_simp
     refine(x9.o _ ?q1).mono ?_
     case q1=>(repeat(first|exact HM.o|refine MarkAt.drew ?_|refine MarkAt.alloc ?_ _))
     rintro e w5 ⟨rfl,n1,n2⟩;have eA:=n2.size;have x0:w5.cell? ⟨h,6,none⟩=some (.pointer (some ⟨C,0,none⟩)):=(zaN n2 MbH j9).trans McS;have x1:w5.cell? ⟨w.heap.size,0,none⟩=some (.int .i64 q.num):=(zaN n2 (by simp;try omega) MbC).trans MbQ;have x2:w5.cell? ⟨w.heap.size,1,none⟩=some (.int .i64 q.den):=(zaN n2 (by simp;try omega) MbC).trans MbQ;have x3:w.heap.size<w5.heap.size:=Mct;have x4:h<w5.heap.size:=Mct;obtain⟨N1,N2⟩:=yH2 n1 n2;clear n1 n2;refine hK.out _ _ ?_ (fun hHeld=>?_);focus((try dsimp only);refine⟨?_,?_,?_⟩<;>first|assumption|(simp[go_sem,e6,hh];done)|(simp[go_sem,x0,x1,x2,x3,x4];done)|(trace_state;fail "nextR"))
     clear hK K;try simp only[Act.put,List.setIfInBounds_toArray,List.set_cons_zero,List.set_cons_succ]
     refine OnH 9 fun K hK=>?_
     go_simp
     refine hK.out _ _ ?_ (fun hHeld=>?_);focus((try dsimp only);refine⟨?_,?_,?_⟩<;>first|assumption|(simp[go_sem,e6,hh];done)|(simp[go_sem,x0,x1,x2,x3,x4];done)|(trace_state;fail "nextR"))
     clear hK K;try simp only[Act.put,List.setIfInBounds_toArray,List.set_cons_zero,List.set_cons_succ]
     refine OnH 10 fun K hK=>?_
     go_simp
     refine hK.out _ _ ?_ (fun hHeld=>?_);focus((try dsimp only);refine⟨?_,?_,?_⟩<;>first|assumption|(simp[go_sem,e6,hh];done)|(simp[go_sem,x0,x1,x2,x3,x4];done)|(trace_state;fail "nextR"))
     clear hK K;try simp only[Act.put,List.setIfInBounds_toArray,List.set_cons_zero,List.set_cons_succ]
     refine wpAnyH_done MbE ?_ _;go_wp2_with fail
     go_meet
     have r2:Two2 w w5 C m:=Two2.trans MbL (Two2.grownC N2.o);have s5:HasAt w5 m out:=HasAt.block (HS.o.keep (n:=w.heap.size) Bw) (N2.o.block m MbH MbH);exact⟨_,rfl,by omega,za3 _ _ _ rfl,N1.o.alloc _,s5.keep (n:=w5.heap.size) (zau (Below.refl _ _) _),r2.alloc _⟩
    ·go_simp
     refine hK.out _ _ ?_ (fun hHeld=>?_);focus((try dsimp only);refine⟨?_,?_,?_⟩<;>first|assumption|(simp[go_sem,e6,hh];done)|(simp[go_sem,x0,x1,x2,x3,x4];done)|(trace_state;fail "nextR"))
     clear hK K;try simp only[Act.put,List.setIfInBounds_toArray,List.set_cons_zero,List.set_cons_succ]
     refine OnH 8 fun K hK=>?_
     go_simp
     refine(x9.o _ ?q1).mono ?_
     case q1=>(repeat(first|exact HM.o|refine MarkAt.drew ?_|refine MarkAt.alloc ?_ _))
     rintro e w5 ⟨rfl,n1,n2⟩;have eA:=n2.size;have x0:w5.cell? ⟨h,6,none⟩=some (.pointer (some ⟨C,0,none⟩)):=(zaN n2 MbH j9).trans McS;have x1:w5.cell? ⟨w.heap.size,0,none⟩=some (.int .i64 q.num):=(zaN n2 (by simp;try omega) MbC).trans MbQ;have x2:w5.cell? ⟨w.heap.size,1,none⟩=some (.int .i64 q.den):=(zaN n2 (by simp;try omega) MbC).trans MbQ;have x3:w.heap.size<w5.heap.size:=Mct;have x4:h<w5.heap.size:=Mct;obtain⟨N1,N2⟩:=yH2 n1 n2;clear n1 n2;have yP:w5.heap[w.heap.size+1]?=some (.cells #[.int .i64 0,.int .i64 0] 54):=(N2.o.block _ MbF MbH).trans (za3 _ _ _ MbF);obtain⟨y0,y1⟩:=cF2 yP;have f0:w5.frozen? ⟨w.heap.size+1,0,none⟩=false:=by simp only[World.frozen?,yP];rfl
     have f1:w5.frozen? ⟨w.heap.size+1,1,none⟩=false:=by simp only[World.frozen?,yP];rfl
     have sP:h≠w.heap.size+1:=MbC;have BA:=zad yP;refine hK.out _ _ ?_ (fun hHeld=>?_);focus((try dsimp only);refine⟨?_,?_,?_⟩<;>first|assumption|(simp[go_sem,e6,hh];done)|(simp[go_sem,x0,x1,x2,x3,x4];done)|(trace_state;fail "nextR"))
     clear hK K;try simp only[Act.put,List.setIfInBounds_toArray,List.set_cons_zero,List.set_cons_succ]
     refine OnH 10 fun K hK=>?_
     go_simp
     refine hK.out _ _ ?_ (fun hHeld=>?_);focus((try dsimp only);refine⟨?_,?_,?_⟩<;>first|assumption|(simp[go_sem,e6,hh];done)|(simp[go_sem,x0,x1,x2,x3,x4];done)|(trace_state;fail "nextR"))
     clear hK K;try simp only[Act.put,List.setIfInBounds_toArray,List.set_cons_zero,List.set_cons_succ]
     refine wpAnyH_done MbE ?_ _;go_wp2_with fail
     go_meet
     have r2:Two2 w w5 C m:=Two2.trans MbL (Two2.grownC N2.o);have s5:HasAt w5 m out:=HasAt.block (HS.o.keep (n:=w.heap.size) Bw) (N2.o.block m MbH MbH)
     have s6:HasAt ((w5.setCell ⟨w.heap.size+1,0,none⟩ (.int .i64 part.num)).setCell ⟨w.heap.size+1,1,none⟩ (.int .i64 part.den)) m out:=s5.block (by
      have hb:¬w.heap.size+1=m:=MbC
      simp[World.setCell,Array.getElem?_modify,hb])
     exact⟨_,rfl,by omega,zga yP,J_ne MbC (J_ne MbC N1.o),s6,(r2.set pm MbC _).set pm MbC _⟩
  case rest=>
   obtain⟨P,rfl,hP,nH,nR,eF,xw⟩:=hcut;obtain⟨W0,rfl⟩:∃x,x=wc:=⟨_,rfl⟩
   obtain⟨Ax,Ac,zu,Am⟩:=yH4 eF nR xw nH;have BA:=zad nH;clear nR xw nH eF;go_wp2_with fail
   go_loopw [20] (fun i wr=>∃(k:Nat) (o2:Parts) (f2:Bool),k<=n/\i=.int .i64 k/\Hid ((o2,f2)=zbz part (l.take k) (out,fl||bg))/\HasAt wr m o2/\MarkAt wr C f2/\Two2 w wr C m/\wr.heap[P]?=some (zba part)) (fun i _=>n-(intOf i).toNat)
   case atStart=>exact⟨0,out,fl||bg,Nat.zero_le _,rfl,by show _=_;rw[List.take_zero,zbz],Ax.o,Ac.o,zu.o,Am.o⟩
   case round=>
    obtain⟨k,o2,f2,hk,rfl,HX,hs,hm,h2,pM⟩:=hrel;obtain⟨un,u4,wD,Ar⟩:=yH4 hs hm h2 pM;have hsz:=h2.size;have p0:wr.cell? ⟨P,0,none⟩=some (.int .i64 part.num):=by simp only[World.cell?,pM,zba];rfl
    have p1:wr.cell? ⟨P,1,none⟩=some (.int .i64 part.den):=by simp only[World.cell?,pM,zba];rfl
    have BB:=zad pM;have hPn:P≠wr.heap.size:=MbC;by_cases aa:k<n
    ·have xV:=HR.o.same (fun b cur fr hx _=>ziQ h2 HM.o HS.o b cur fr hx);have xI:=HI.o.same (ziQ h2 HM.o HS.o);have bF:k<es.length:=by have:=dL.o;have:=HN.o;omega
     have gO:k<l.length:=by have:=HN.o;omega
     obtain⟨b',off,rfl,bE,hc⟩:=(Ro.sl zil xV).at bF;have Cl:=xI.2 k es[k] l[k] (List.getElem?_eq_getElem bF) (List.getElem?_eq_getElem gO);have bA:=zkK part l (out,fl||bg) gO;have b8:l[k]∈l:=List.getElem_mem gO;have mn:=zg4 eD (l:=l.take k) (fl:=fl||bg) HB.o;rw[List.length_take,Nat.min_eq_left MbC]at mn;have aS:t+part*(k:Rat)+part<=1:=by
      have h1:=take_le eD (Nat.succ_le_of_lt aa);rw[zht]at h1;have h2:=Ao.o;have h3:=AG.o;grind
     rw[<-HX.o]at bA mn;obtain⟨ef,tE,wE⟩:=yH3 bA mn aS;have wS:Hid (HeirAt wr h b law who C m):=(h2.others h hh j9 kC).trans HH.o;have ao:(k:Int)<(n:Int):=MbC;have bf:(0:Int)<=(k:Int):=MbC;clear hs hm h2 pM xV xI bA mn aS;rcases Cl with⟨nm,hx,hy⟩|⟨l',A',c',es',hx,hy,hz,vQ,_,rk,qw⟩
     ·have i0:wr.cell? ⟨b',off+k*2,none⟩=some (.string nm):=hc 0 _ (by rw[hy];rfl);have i1:wr.cell? ⟨b',off+k*2+1,none⟩=some (.slice none 0 0):=hc 1 _ (by rw[hy];rfl);have bA:=ef.o;rw[hx,zdj]at bA;have ef:=zHi bA;clear hc hx hy bA b8;go_wp2_with (go_at_call 204;refine(zfv b h C m law who nm part o2 f2 _ (wS.o.keep (n:=wr.heap.size) Bw) (u4.o.keep (n:=wr.heap.size) Bw MbC) (un.o.keep (n:=wr.heap.size) Bw) j9 kC nD tE.o.good (tE.o.share (by have:=wE.o;grind) nm) dq).mono ?_;rintro e wq ⟨rfl,g1,g2,g3⟩)
      exact Mt
     ·have o9:es[k]=(⟨#[]⟩,some A',l'.length,c'):=hy;have i0:wr.cell? ⟨b',off+k*2,none⟩=some (.string ⟨#[]⟩):=hc 0 _ (by rw[o9];rfl);have i1:wr.cell? ⟨b',off+k*2+1,none⟩=some (.slice (some A') l'.length c'):=hc 1 _ (by rw[o9];rfl);have bA:=ef.o;rw[hx,zmv]at bA;have ef:=zHi bA;have rK:=AN.o l' (by rw[<-hx];exact b8);obtain⟨zS,ba,jq⟩:=yH3 (fun W h1 h2 h3 h4 h5=>IH.o es' l' Q (some A') l'.length c' part _ o2 f2 W h1 rK h2 vQ rfl h3 h4 h5 eD ja dq tE.o wE.o) qw rk;clear hc hx hy o9 bA b8 qw rk rK;go_wp2_with (go_at_call 206;refine(zS.o _ (ba.o.keep (n:=wr.heap.size) Bw) (jq.o.keep (n:=wr.heap.size) Bw) (wS.o.keep (n:=wr.heap.size) Bw) (u4.o.keep (n:=wr.heap.size) Bw MbC) (un.o.keep (n:=wr.heap.size) Bw)).mono ?_;rintro e wq ⟨rfl,g1,g2,g3⟩)
      exact Mt
    ·have ao:¬(k:Int)<(n:Int):=MbC;rw[List.take_of_length_le (by have:=HN.o;omega)]at HX;go_wp2_with fail
     go_end0
     rw[<-HX.o];exact⟨rfl,un.o,u4.o,wD.o⟩
end
open Go.Sort
abbrev PQ:=ByteArray×Rat
instance:Inhabited PQ:=⟨(⟨#[]⟩,0)⟩
def zeP(x y:PQ):Int:=cmpN x.1 y.1
theorem zf2(x y:PQ):ltOf zeP x y=zbm x.1 y.1:=zly _ _
theorem part_swo:Sort.SWO (ltOf zeP) where
 irrefl x:=by rw[zf2];exact zeb _
 trans x y z h1 h2:=by rw[zf2]at*;exact zbx h1 h2
 ntrans x y z h1 h2:=by
  rw[zf2]at*;cases h:zbm x.1 z.1
  ·rfl
  ·exfalso
   rcases zde y.1 z.1 with h3|h3|h3
   ·rw[h2]at h3;cases h3
   ·rw[h3,h]at h1;cases h1
   ·rw[zbx h h3]at h1;cases h1
theorem perm_upP{d d':Array PQ}(hp:Sort.PermIn 0 d.size d d')(hs:Sort.SortedIn (ltOf zeP) 0 d.size d'):d'.toList.Perm d.toList/\UpP d'.toList:=by
 obtain⟨hsz,_,kM⟩:=hp;have e1:d'.extract 0 d.size=d':=by rw[<-hsz];exact Array.extract_size
 rw[e1,Array.extract_size]at kM;refine⟨kM,List.pairwise_iff_getElem.2 fun i j hi hj cL=>?_⟩;have yy:i<d'.size:=by simpa using hi
 have qy:j<d'.size:=McR;have:=hs i j (Nat.zero_le _) cL MbC;rw[zf2,getElem!_pos d' j qy,getElem!_pos d' i yy]at this;simpa using this
theorem zjL(d:Array PQ){k j:Nat}{x:PQ}{u:Value}(hk:d.toList[k]?=some x)(hj:(zaa x)[j]?=some u):k*3+j<(Sort.flatK zaa 3 d).size/\(Sort.flatK zaa 3 d)[k*3+j]! =u:=by
 have vH:j<3:=by have:=(List.getElem?_eq_some_iff.1 hj).1;rw[za0]at this;exact this
 have bQ:k<d.size:=by have:=(List.getElem?_eq_some_iff.1 hk).1;simpa using this
 have aa:k*3+j<d.size*3:=MbC;refine⟨by rw[Sort.size_flatK];exact aa,?_⟩;rw[Sort.get_flatK _ _ _ _ aa,show(k*3+j)/3=k by omega,show(k*3+j)%3=j by omega];have:d[k]! =x:=by
  rw[getElem!_pos d k bQ];have:=(List.getElem?_eq_some_iff.1 hk).2;simpa using this
 rw[this,List.getElem!_eq_getElem?_getD,hj];rfl
theorem zm6{w:World}{base g o cap:Nat}{cur:Array Value}{xs:Parts}(hg:w.heap[g]?=some (.cells cur 59 (0,0)))(hx:∀j u,(xs.flatMap zaa)[j]?=some u->cur[o+j]?=some u):Sort.HoldsK zaa 3 w g o xs.toArray:=fun j hj=>by
 rw[Sort.size_flatK]at hj;have qy:j<xs.length*3:=McR;have aa:j/3<xs.length:=MbC;have je:xs[j/3]?=some xs[j/3]:=List.getElem?_eq_getElem aa;have hu:(zaa xs[j/3])[j%3]?=some ((zaa xs[j/3])[j%3]' McF):=List.getElem?_eq_getElem _;obtain⟨_,h2⟩:=zjL xs.toArray (k:=j/3) (x:=xs[j/3]) (show xs.toArray.toList[j/3]?=_ from je) hu;have hc:=hx (j/3*3+j%3) _ (zeF zaa 3 za0 xs _ _ je _ _ hu);have e:j/3*3+j%3=j:=MbC;rw[e]at h2 hc;refine⟨?_,?_⟩
 ·rw[h2];simp only[World.cell?,hg];exact hc
 ·simp[World.frozen?,hg]
theorem sort_heap{w:World}{g o n cap:Nat}{cur:Array Value}{d:Array PQ}{os:Array Obj}(hg:w.heap[g]?=some (.cells cur 59 (0,0)))(aj:o+cap*3<=cur.size):∃cur',(sortWorldK zaa 3 w g o n d os).heap[g]?=some (.cells cur' 59 (0,0))/\o+cap*3<=cur'.size:=by
 have hl:=zad hg;refine⟨putCells id o (flatK zaa 3 d) cur,?_,by unfold putCells;rw[Array.size_mapIdx];exact aj⟩;show((Sort.mapBlock _ _ _).heap++os)[g]?=_;rw[Array.getElem?_append_left Mcu];simp only[Sort.mapBlock,Sort.ahead];rw[Array.getElem?_modify,if_pos rfl,hg];rfl
theorem zkS{w W:World}{g o n:Nat}{dk:Array PQ}{os:Array Obj}(hg:w.heap.size<=g)(hB:Below w.heap.size w W):Below w.heap.size w (sortWorldK zaa 3 W g o n dk os):=by
 refine hB.trans ⟨rfl,rfl,rfl,?_,fun k hk=>?_⟩
 ·exact Mbc
 ·have hs:=hB.size;show((Sort.mapBlock _ _ _).heap++os)[k]?=_;rw[Array.getElem?_append_left Mcu];simp only[Sort.mapBlock,Sort.ahead];rw[Array.getElem?_modify,if_neg MbC]
theorem zm7(x y:PQ)(W:World):Calls Tryz.prog 208 #[.agg (zaa x).toArray,.agg (zaa y).toArray] W fun e w'=>e=.returned (.int .i64 (zeP x y))/\∃q os',w'=Go.Sort.grow (W.drewN q) os':=by
 obtain⟨a0,a1⟩:=x;obtain⟨b0,b1⟩:=y;have hc:=fun W'=>zjr a0 b0 W'
 have hl:zeP (a0,a1) (b0,b1)=cmpN a0 b0:=rfl;rw[hl];generalize cmpN a0 b0=r at hc⊢;simp only[zaa];go_enter Tryz.func208,Tryz.ntmps208
 go_wp2_with (go_at_call 209;refine(hc _).mono ?_;rintro e wq ⟨rfl,rfl⟩)
 go_ret
 exact⟨rfl,0,_,by rw[alloc_eq_grow,alloc_eq_grow,grow_grow];rfl⟩
theorem sortP0(g off cap:Nat)(d:Array PQ)(w:World)(hH:Sort.HoldsK zaa 3 w g off d)(hg:g<w.heap.size)(hsz:d.size<=1000000000):
 Calls Tryz.prog 207 #[.slice (some ⟨g,off,none⟩) d.size cap,.func (.func 208) #[] #[]] w fun e w'=>
  e=.returned (.tuple #[])/\∃d' n os,Sort.PermIn 0 d.size d d'/\Sort.SortedIn (ltOf zeP) 0 d.size d'/\w'=sortWorldK zaa 3 w g off n d' os:=by
 have eg:∀args w,(callFunc 208 args).run Tryz.prog w=.ok (.enter 208 args) w:=enters_of Tryz.func208 MbE rfl;have aH:=AnyQ.slices_SortFunc zlx 3 Tryz.isAgg59 Tryz.sizeOf59 zaa za0 zdn zeP part_swo 208 #[] g off cap d w eg (fun _ _ _ _ x y=>by simpa using zm7 x y _) hH hg MbC;change Calls Tryz.prog 207 _ _ _ at aH;exact aH
theorem zm8(fv:Value)(w:World):Calls Tryz.prog 207 #[.slice none 0 0,fv] w fun e w'=>e=.returned (.tuple #[])/\w'=w:=by
 have aH:=AnyF.slices_SortFunc_none zlx none 0 fv w;change Calls Tryz.prog 207 _ _ _ at aH;exact aH
theorem sortP_any(v:Value)(ls:Parts)(base:Nat)(w:World)(ae:OwnS w base 59 3 zaa v ls)(hl:ls.length<=1000000000):
 Calls Tryz.prog 207 #[v,.func (.func 208) #[] #[]] w fun e w'=>e=.returned (.tuple #[])/\∃L,L.Perm ls/\UpP L/\OwnS w' base 59 3 zaa v L/\(∀w0:World,Below w0.heap.size w0 w->w0.heap.size<=base->Below w0.heap.size w0 w')/\w.grownBy w' (za1 v):=by
 rcases ae with⟨rfl,rfl⟩|⟨g,o,cap,cur,rfl,hb,hg,hc,hm,hs,hx⟩
 ·refine(zm8 _ _).mono ?_;rintro e wq ⟨rfl,rfl⟩;exact⟨rfl,[],List.Perm.refl _,List.Pairwise.nil,OwnS.nil,fun w0 h _=>h,zcW _ _⟩
 ·have cm:=zad hg;have hH:=zm6 (base:=base) (cap:=cap) hg hx;have h:=sortP0 g o cap ls.toArray w hH cm (by simpa using hl);have e:ls.toArray.size=ls.length:=MbF;rw[e]at h;refine h.mono ?_;rintro e wq ⟨rfl,d',n,os,hp,D0,rfl⟩;obtain⟨h1,h2⟩:=perm_upP (by rw[e];exact hp) (by rw[e];exact D0);have kj:d'.toList.Perm ls:=h1;have af:d'.toList.length=ls.length:=kj.length_eq;obtain⟨cur',cx,mR⟩:=sort_heap (n:=n) (d:=d') (os:=os) hg hs;have Be:=holdsK_sortWorldK zaa 3 w g o n ls.toArray d' os cm hH (by simpa using af);refine⟨rfl,d'.toList,kj,h2,.inr ⟨g,o,cap,cur',by rw[af],hb,cx,by omega,hm,mR,?_⟩,fun w0 h ax=>zkS MbC h,?_⟩
  ·intro j u hu;have dQ:j<d'.toList.length*3:=by
    have:=(List.getElem?_eq_some_iff.1 hu).1;rw[zeX zaa 3 za0]at this;exact this
   have hk:d'.toList[j/3]?=some (d'.toList[j/3]' MbC):=List.getElem?_eq_getElem _;have vH:j%3<3:=Nat.mod_lt _ MbD;have hv:(zaa (d'.toList[j/3]' MbC))[j%3]?=some ((zaa (d'.toList[j/3]' MbC))[j%3]'(by rw[za0];exact vH)):=List.getElem?_eq_getElem _;obtain⟨q1,q2⟩:=zjL d' hk hv;have q3:=zeF zaa 3 za0 d'.toList _ _ hk _ _ hv;have e3:j/3*3+j%3=j:=MbC;rw[e3]at q1 q2 q3;have q4:=(Be j q1).1;rw[q2]at q4;rw[q3]at hu;simp only[World.cell?,cx]at q4;rw[<-hu];exact q4
  ·refine⟨rfl,rfl,rfl,?_,fun k hk ag=>?_⟩
   ·exact Mbc
   ·have Ct:¬g=k:=fun e=>ag (by simp[za1,e])
    show((Sort.mapBlock _ _ _).heap++os)[k]?=_;rw[Array.getElem?_append_left Mcu];simp only[Sort.mapBlock,Sort.ahead];rw[Array.getElem?_modify,if_neg Ct]
