import Derived.Test.YtegdimedhfafjaaGreatDoorJQ
import Derived.Test.YtegdimedhfafjaaGreatDoorO7
set_option linter.all false
set_option maxRecDepth 100000
set_option maxHeartbeats 4000000
namespace Go.Proofs.YtegdimedhfafjaaGreatDoor
open Go.RowKit Go.Shelf
attribute [local go_sem] World.cell?_alloc_mark zaf za5 zao za8 zav zaw zax zay zaz za0 za1
section
attribute [local go_sem] zaq zad
theorem ItemsN.same{W W':World}{Q:Nat->Prop}(hb:∀(k:Nat) (cur:Array Value) (fr:Nat×Nat),W.heap[k]?=some (.cells cur 204 fr)->W'.heap[k]?=W.heap[k]?):∀ {f:Nat} {es:List Ln} {l:List Tree},ItemsN W Q f es l->ItemsN W' Q f es l
 |0,_,_,h=>h
 |f+1,es,l,h=>⟨h.1,fun k e t h1 h2=>by
  rcases h.2 k e t h1 h2 with h3|⟨l',A,c,es',h3,h4,h5,h6,hQ,h7,h8⟩
  ·exact .inl h3
  ·exact .inr ⟨l',_,c,es',h3,h4,h5,h6,hQ,h7.same (fun b cur fr hx _=>hb b cur fr hx),ItemsN.same hb h8⟩⟩
theorem zk6{w w':World}{C m:Nat}{fl:Bool}{out:Parts}(h:Two2 w w' C m)(hM:MarkAt w C fl)(hS:HasAt w m out):∀(k:Nat) (cur:Array Value) (fr:Nat×Nat),w.heap[k]?=some (.cells cur 204 fr)->w'.heap[k]?=w.heap[k]?:=fun k cur fr hk=>by
 refine h.others k (Array.getElem?_eq_some_iff.1 hk).1 (fun e=>?_) (fun e=>?_)
 ·subst e;unfold MarkAt at hM;rw[hM]at hk;simp at hk
 ·subst e;obtain⟨mm,⟨es,c,h1,_⟩,_⟩:=hS;rw[h1]at hk;simp at hk
theorem Two2.set{w W:World}{C m:Nat}(h:Two2 w W C m){P o:Nat}(hC:C<w.heap.size)(hP:w.heap.size<=P)(v:Value):Two2 w (W.setCell ⟨P,o,none⟩ v) C m:=
 ⟨fun n h1 h2 h3=>zaL (h.below n h1 h2 h3) (by show n<=P;omega) v,fun k hk h1 h2=>by
   rw[<-h.others k hk h1 h2];have hb:¬P=k:=Mcm
   simp[World.setCell,Array.getElem?_modify,hb],by simp only[World.setCell,Array.size_modify];exact h.size⟩
theorem Two2.alloc{w W:World}{C m:Nat}(h:Two2 w W C m)(o:Obj):Two2 w (W.alloc o) C m:=h.trans (Two2.of_below (zac (Below.refl _ _) o))
theorem Two2.refl2(w:World)(C m:Nat):Two2 w w C m:=Two2.of_below (Below.refl _ _)
theorem Two2.drew{w W:World}{C m:Nat}(h:Two2 w W C m):Two2 w W.drew C m:=h.trans (Two2.of_below (zaH (Below.refl _ _)))
theorem Two2.ext{w W:World}{C m:Nat}(h:Two2 w W C m)(z:Ez):Two2 w (W.ext z) C m:=h.trans (Two2.of_below (zap W z))
theorem zhi(b h C m:Nat)(law:Law)(who:ByteArray)(nH:h≠C)(pT:h≠m)(tN:C≠m):∀(f:Nat) (es:List Ln) (l:List Tree) (Q:Nat->Prop) (A:Option Addr) (n c:Nat) (q t:Rat) (out:Parts) (fl:Bool) (w:World),
 ItemsN w Q f es l->WideN f l->Ro w 204 lnC A es->l≠[]->n=l.length->HeirAt w h b law who C m->MarkAt w C fl->HasAt w m out->0<=q->q<=1->zaJ q->Bd out t->t+q<=1->
 Calls Tryz.prog 130 #[.pointer (some ⟨h,0,none⟩),.slice A n c,.agg #[.int .i64 q.num,.int .i64 q.den]] w (zl1 w C m (zcv l q (out,fl)))
 |0,es,l,Q,A,n,c,q,t,out,fl,w,hI,_,_,ai,_,_,_,_,_,_,_,_,_=>absurd hI.2 ai
 |f+1,es,l,Q,A,n,c,q,t,out,fl,w,hI,Eb,hR,ai,hn,hH,hM,hS,gR,cY,hqs,da,AD=>by
  have IH:=zHi (zhi b h C m law who nH pT tN f);have ag:=hI.len;have cS:0<l.length:=List.length_pos_iff.2 ai;obtain⟨bW,Hm⟩:=Eb;have hh:=zab hH;have vO:=zab hM;have fI:=hS.lt;obtain⟨j8,jU,ej,DP⟩:=part_ok gR cY cS;have qb:=zl3 cS bW;obtain⟨kY,uj,_,_⟩:=zhN cS;rw[zcv];rw[<-hn]at j8 jU ej DP qb kY uj⊢;generalize hpart:zbh (q*(1/(n:Rat)))=part at*;have Ay:=fun(W:World) (cB:MarkAt W C fl)=>zhJ C fl W cB q (1/(n:Rat)) hqs qb
  unfold zeD zaC at Ay;simp only[hpart,kY,uj]at Ay;have je:=zHi Ay;clear Ay kY uj qb;obtain⟨HP,HI,ri,HR,HH,HM,HS,HB⟩:=yH8 hpart hI Hm hR hH hM hS da;obtain⟨J1,IK⟩:=yH2 AD DP;unfold HeirAt at hH;obtain⟨-,-,-,-,-,-,e6⟩:=cF7 hH;clear hI Hm hR hH hM hS da AD DP hpart;generalize bigQ (q*(1/(n:Rat)))=bg at*;have pV:n<=1000:=Mcm;obtain⟨HN,eI⟩:=yH2 hn ag;clear hn ag;go_enter Tryz.func130,Tryz.ntmps130
  go_upto_region 1 with fail
  go_cut [6]from 7 (fun v wc=>∃P,v=.pointer (some ⟨P,0,none⟩)/\w.heap.size<P/\wc.heap[P]?=some (zbu part)/\MarkAt wc C (fl||bg)/\HasAt wc m out/\Two2 w wc C m)
  case first=>
   refine wp_region_held_drew (S:=(fun w'=>w'.cell? ⟨h,6,none⟩=some (.pointer (some ⟨C,0,none⟩))/\w'.cell? ⟨w.heap.size,0,none⟩=some (.int .i64 q.num)/\w'.cell? ⟨w.heap.size,1,none⟩=some (.int .i64 q.den))) Mcn ?hS ?hrest
   case hS=>((try dsimp only);refine⟨?_,?_,?_⟩<;>(simp[go_sem,e6,hh];done))
   case hrest=>
    intro hHeld;refine TkH 0 ?_;refine TkH 1 ?_;refine TkH 2 ?_;refine TkH 3 ?_;refine TkH 4 ?_;refine TkH 5 ?_;refine TkH 6 ?_;refine TkH 7 ?_;refine wpAnyH_ready (rs:=[8,9]) Mcn Mcp (AllReadyH.cons (List.getElem?_toArray.trans rfl) (fun K hK=>?_) (AllReadyH.cons (List.getElem?_toArray.trans rfl) (fun K hK=>?_) AllReadyH.nil))
    ·go_simp
     refine(je.o _ ?q1).mono ?_
     case q1=>(repeat(first|exact HM.o|refine MarkAt.drew ?_|refine MarkAt.alloc ?_ _))
     rintro e w5 ⟨rfl,n1,n2⟩;have dW:=n2.size;have x0:w5.cell? ⟨h,6,none⟩=some (.pointer (some ⟨C,0,none⟩)):=(zbc n2 Mcr nH).trans Mex;have x1:w5.cell? ⟨w.heap.size,0,none⟩=some (.int .i64 q.num):=(zbc n2 (by simp;try omega) Mcm).trans McR;have x2:w5.cell? ⟨w.heap.size,1,none⟩=some (.int .i64 q.den):=(zbc n2 (by simp;try omega) Mcm).trans McR;have x3:w.heap.size<w5.heap.size:=MdX;have x4:h<w5.heap.size:=MdX;obtain⟨N1,N2⟩:=yH2 n1 n2;clear n1 n2;refine hK.out _ _ ?_ (fun hHeld=>?_);focus((try dsimp only);refine⟨?_,?_,?_⟩<;>first|assumption|(simp[go_sem,e6,hh];done)|(simp[go_sem,x0,x1,x2,x3,x4];done)|(trace_state;fail "nextR"))
     clear hK K;try simp only[Act.put,List.setIfInBounds_toArray,List.set_cons_zero,List.set_cons_succ]
     refine OnH 9 fun K hK=>?_
     go_simp
     refine hK.out _ _ ?_ (fun hHeld=>?_);focus((try dsimp only);refine⟨?_,?_,?_⟩<;>first|assumption|(simp[go_sem,e6,hh];done)|(simp[go_sem,x0,x1,x2,x3,x4];done)|(trace_state;fail "nextR"))
     clear hK K;try simp only[Act.put,List.setIfInBounds_toArray,List.set_cons_zero,List.set_cons_succ]
     refine OnH 10 fun K hK=>?_
     go_simp
     refine hK.out _ _ ?_ (fun hHeld=>?_);focus((try dsimp only);refine⟨?_,?_,?_⟩<;>first|assumption|(simp[go_sem,e6,hh];done)|(simp[go_sem,x0,x1,x2,x3,x4];done)|(trace_state;fail "nextR"))
     clear hK K;try simp only[Act.put,List.setIfInBounds_toArray,List.set_cons_zero,List.set_cons_succ]
     refine wpAnyH_done Mcn ?_ _;go_wp2_with fail
     go_meet
     have r2:Two2 w w5 C m:=Two2.trans McB (Two2.grownC N2.o);have s5:HasAt w5 m out:=HasAt.block (HS.o.keep (n:=w.heap.size) Bw) (N2.o.block m Mcr Mcr);exact⟨_,rfl,by omega,zas _ _ _ rfl,N1.o.alloc _,s5.keep (n:=w5.heap.size) (zac (Below.refl _ _) _),r2.alloc _⟩
    ·go_simp
     refine hK.out _ _ ?_ (fun hHeld=>?_);focus((try dsimp only);refine⟨?_,?_,?_⟩<;>first|assumption|(simp[go_sem,e6,hh];done)|(simp[go_sem,x0,x1,x2,x3,x4];done)|(trace_state;fail "nextR"))
     clear hK K;try simp only[Act.put,List.setIfInBounds_toArray,List.set_cons_zero,List.set_cons_succ]
     refine OnH 8 fun K hK=>?_
     go_simp
     refine(je.o _ ?q1).mono ?_
     case q1=>(repeat(first|exact HM.o|refine MarkAt.drew ?_|refine MarkAt.alloc ?_ _))
     rintro e w5 ⟨rfl,n1,n2⟩;have dW:=n2.size;have x0:w5.cell? ⟨h,6,none⟩=some (.pointer (some ⟨C,0,none⟩)):=(zbc n2 Mcr nH).trans Mex;have x1:w5.cell? ⟨w.heap.size,0,none⟩=some (.int .i64 q.num):=(zbc n2 (by simp;try omega) Mcm).trans McR;have x2:w5.cell? ⟨w.heap.size,1,none⟩=some (.int .i64 q.den):=(zbc n2 (by simp;try omega) Mcm).trans McR;have x3:w.heap.size<w5.heap.size:=MdX;have x4:h<w5.heap.size:=MdX;obtain⟨N1,N2⟩:=yH2 n1 n2;clear n1 n2;have yP:w5.heap[w.heap.size+1]?=some (.cells #[.int .i64 0,.int .i64 0] 56):=(N2.o.block _ Mcp Mcr).trans (zas _ _ _ Mcp);obtain⟨y0,y1⟩:=cF2 yP;have f0:w5.frozen? ⟨w.heap.size+1,0,none⟩=false:=by simp only[World.frozen?,yP];rfl
     have f1:w5.frozen? ⟨w.heap.size+1,1,none⟩=false:=by simp only[World.frozen?,yP];rfl
     have Aq:h≠w.heap.size+1:=Mcm;have JS:=zab yP;refine hK.out _ _ ?_ (fun hHeld=>?_);focus((try dsimp only);refine⟨?_,?_,?_⟩<;>first|assumption|(simp[go_sem,e6,hh];done)|(simp[go_sem,x0,x1,x2,x3,x4];done)|(trace_state;fail "nextR"))
     clear hK K;try simp only[Act.put,List.setIfInBounds_toArray,List.set_cons_zero,List.set_cons_succ]
     refine OnH 10 fun K hK=>?_
     go_simp
     refine hK.out _ _ ?_ (fun hHeld=>?_);focus((try dsimp only);refine⟨?_,?_,?_⟩<;>first|assumption|(simp[go_sem,e6,hh];done)|(simp[go_sem,x0,x1,x2,x3,x4];done)|(trace_state;fail "nextR"))
     clear hK K;try simp only[Act.put,List.setIfInBounds_toArray,List.set_cons_zero,List.set_cons_succ]
     refine wpAnyH_done Mcn ?_ _;go_wp2_with fail
     go_meet
     have r2:Two2 w w5 C m:=Two2.trans McB (Two2.grownC N2.o);have s5:HasAt w5 m out:=HasAt.block (HS.o.keep (n:=w.heap.size) Bw) (N2.o.block m Mcr Mcr)
     have s6:HasAt ((w5.setCell ⟨w.heap.size+1,0,none⟩ (.int .i64 part.num)).setCell ⟨w.heap.size+1,1,none⟩ (.int .i64 part.den)) m out:=s5.block (by
      have hb:¬w.heap.size+1=m:=Mcm
      simp[World.setCell,Array.getElem?_modify,hb])
     exact⟨_,rfl,by omega,zeo yP,J_ne Mcm (J_ne Mcm N1.o),s6,(r2.set vO Mcm _).set vO Mcm _⟩
  case rest=>
   obtain⟨P,rfl,hP,tS,nJ,ay,F7⟩:=hcut;obtain⟨W0,rfl⟩:∃x,x=wc:=⟨_,rfl⟩
   obtain⟨fY,Iy,Hu,II⟩:=yH4 ay nJ F7 tS;have JS:=zab tS;clear nJ F7 tS ay;go_wp2_with fail
   go_loopw [20] (fun i wr=>∃(k:Nat) (o2:Parts) (f2:Bool),k<=n/\i=.int .i64 k/\Hid ((o2,f2)=zbO part (l.take k) (out,fl||bg))/\HasAt wr m o2/\MarkAt wr C f2/\Two2 w wr C m/\wr.heap[P]?=some (zbu part)) (fun i _=>n-(intOf i).toNat)
   case atStart=>exact⟨0,out,fl||bg,Nat.zero_le _,rfl,by show _=_;rw[List.take_zero,zbO],fY.o,Iy.o,Hu.o,II.o⟩
   case round=>
    obtain⟨k,o2,f2,hk,rfl,HX,hs,hm,h2,wu⟩:=hrel;obtain⟨BV,By,Ei,IN⟩:=yH4 hs hm h2 wu;have hsz:=h2.size;have p0:wr.cell? ⟨P,0,none⟩=some (.int .i64 part.num):=by simp only[World.cell?,wu,zbu];rfl
    have p1:wr.cell? ⟨P,1,none⟩=some (.int .i64 part.den):=by simp only[World.cell?,wu,zbu];rfl
    have JT:=zab wu;have hPn:P≠wr.heap.size:=Mcm;by_cases aa:k<n
    ·have FH:=HR.o.same (fun b cur fr hx _=>zk6 h2 HM.o HS.o b cur fr hx);have Fp:=HI.o.same (zk6 h2 HM.o HS.o);have bG:k<es.length:=by have:=eI.o;have:=HN.o;omega
     have fG:k<l.length:=by have:=HN.o;omega
     obtain⟨b',off,rfl,cC,hc⟩:=(Ro.sl zjG FH).at bG;have KS:=Fp.2 k es[k] l[k] (List.getElem?_eq_getElem bG) (List.getElem?_eq_getElem fG);have bR:=zmO part l (out,fl||bg) fG;have bJ:l[k]∈l:=List.getElem_mem fG;have se:=zhM j8 (l:=l.take k) (fl:=fl||bg) HB.o;rw[List.length_take,Nat.min_eq_left Mcm]at se;have aE:t+part*(k:Rat)+part<=1:=by
      have h1:=take_le j8 (Nat.succ_le_of_lt aa);rw[zg5]at h1;have h2:=IK.o;have h3:=J1.o;grind
     rw[<-HX.o]at bR se;obtain⟨ed,AP,Em⟩:=yH3 bR se aE;have Ew:Hid (HeirAt wr h b law who C m):=(h2.others h hh nH pT).trans HH.o;have au:(k:Int)<(n:Int):=Mcm;have aP:(0:Int)<=(k:Int):=Mcm;clear hs hm h2 wu FH Fp bR se aE;rcases KS with⟨nm,hx,hy⟩|⟨l',A',c',es',hx,hy,hz,DK,_,yt,xu⟩
     ·have i0:wr.cell? ⟨b',off+k*2,none⟩=some (.string nm):=hc 0 _ (by rw[hy];rfl);have i1:wr.cell? ⟨b',off+k*2+1,none⟩=some (.slice none 0 0):=hc 1 _ (by rw[hy];rfl);have bR:=ed.o;rw[hx,zdR]at bR;have ed:=zHi bR;clear hc hx hy bR bJ;go_wp2_with (go_at_call 128;refine(zg4 b h C m law who nm part o2 f2 _ (Ew.o.keep (n:=wr.heap.size) Bw) (By.o.keep (n:=wr.heap.size) Bw Mcm) (BV.o.keep (n:=wr.heap.size) Bw) nH pT tN AP.o.good (AP.o.share (by have:=Em.o;grind) nm) ej).mono ?_;rintro e wq ⟨rfl,g1,g2,g3⟩)
      exact MN
     ·have uw:es[k]=(⟨#[]⟩,some A',l'.length,c'):=hy;have i0:wr.cell? ⟨b',off+k*2,none⟩=some (.string ⟨#[]⟩):=hc 0 _ (by rw[uw];rfl);have i1:wr.cell? ⟨b',off+k*2+1,none⟩=some (.slice (some A') l'.length c'):=hc 1 _ (by rw[uw];rfl);have bR:=ed.o;rw[hx,zo9]at bR;have ed:=zHi bR;have yM:=ri.o l' (by rw[<-hx];exact bJ);obtain⟨In,bX,oa⟩:=yH3 (fun W h1 h2 h3 h4 h5=>IH.o es' l' Q (some A') l'.length c' part _ o2 f2 W h1 yM h2 DK rfl h3 h4 h5 j8 jU ej AP.o Em.o) xu yt;clear hc hx hy uw bR bJ xu yt yM;go_wp2_with (go_at_call 130;refine(In.o _ (bX.o.keep (n:=wr.heap.size) Bw) (oa.o.keep (n:=wr.heap.size) Bw) (Ew.o.keep (n:=wr.heap.size) Bw) (By.o.keep (n:=wr.heap.size) Bw Mcm) (BV.o.keep (n:=wr.heap.size) Bw)).mono ?_;rintro e wq ⟨rfl,g1,g2,g3⟩)
      exact MN
    ·have au:¬(k:Int)<(n:Int):=Mcm;rw[List.take_of_length_le (by have:=HN.o;omega)]at HX;go_wp2_with fail
     go_end0
     rw[<-HX.o];exact⟨rfl,BV.o,By.o,Ei.o⟩
end
open Go.Sort
abbrev PQ:=ByteArray×Rat
instance:Inhabited PQ:=⟨(⟨#[]⟩,0)⟩
def zfY(x y:PQ):Int:=cmpN x.1 y.1
theorem zg8(x y:PQ):ltOf zfY x y=zbq x.1 y.1:=znE _ _
theorem part_swo:Sort.SWO (ltOf zfY) where
 irrefl x:=by rw[zg8];exact zeZ _
 trans x y z h1 h2:=by rw[zg8]at*;exact zb6 h1 h2
 ntrans x y z h1 h2:=by
  rw[zg8]at*;cases h:zbq x.1 z.1
  ·rfl
  ·exfalso
   rcases zdq y.1 z.1 with h3|h3|h3
   ·rw[h2]at h3;cases h3
   ·rw[h3,h]at h1;cases h1
   ·rw[zb6 h h3]at h1;cases h1
theorem perm_upP{d d':Array PQ}(hp:Sort.PermIn 0 d.size d d')(hs:Sort.SortedIn (ltOf zfY) 0 d.size d'):d'.toList.Perm d.toList/\UpP d'.toList:=by
 obtain⟨hsz,_,qd⟩:=hp;have e1:d'.extract 0 d.size=d':=by rw[<-hsz];exact Array.extract_size
 rw[e1,Array.extract_size]at qd;refine⟨qd,List.pairwise_iff_getElem.2 fun i j hi hj cQ=>?_⟩;have KQ:i<d'.size:=by simpa using hi
 have sA:j<d'.size:=Meu;have:=hs i j (Nat.zero_le _) cQ Mcm;rw[zg8,getElem!_pos d' j sA,getElem!_pos d' i KQ]at this;simpa using this
theorem zlF(d:Array PQ){k j:Nat}{x:PQ}{u:Value}(hk:d.toList[k]?=some x)(hj:(zaa x)[j]?=some u):k*3+j<(Sort.flatK zaa 3 d).size/\(Sort.flatK zaa 3 d)[k*3+j]! =u:=by
 have DC:j<3:=by have:=(List.getElem?_eq_some_iff.1 hj).1;rw[zan]at this;exact this
 have bQ:k<d.size:=by have:=(List.getElem?_eq_some_iff.1 hk).1;simpa using this
 have aa:k*3+j<d.size*3:=Mcm;refine⟨by rw[Sort.size_flatK];exact aa,?_⟩;rw[Sort.get_flatK _ _ _ _ aa,show(k*3+j)/3=k by omega,show(k*3+j)%3=j by omega];have:d[k]! =x:=by
  rw[getElem!_pos d k bQ];have:=(List.getElem?_eq_some_iff.1 hk).2;simpa using this
 rw[this,List.getElem!_eq_getElem?_getD,hj];rfl
theorem zoI{w:World}{base g o cap:Nat}{cur:Array Value}{xs:Parts}(hg:w.heap[g]?=some (.cells cur 62 (0,0)))(hx:∀j u,(xs.flatMap zaa)[j]?=some u->cur[o+j]?=some u):Sort.HoldsK zaa 3 w g o xs.toArray:=fun j hj=>by
 rw[Sort.size_flatK]at hj;have sA:j<xs.length*3:=Meu;have aa:j/3<xs.length:=Mcm;have jW:xs[j/3]?=some xs[j/3]:=List.getElem?_eq_getElem aa;have hu:(zaa xs[j/3])[j%3]?=some ((zaa xs[j/3])[j%3]' Meb):=List.getElem?_eq_getElem _;obtain⟨_,h2⟩:=zlF xs.toArray (k:=j/3) (x:=xs[j/3]) (show xs.toArray.toList[j/3]?=_ from jW) hu;have hc:=hx (j/3*3+j%3) _ (zeV zaa 3 zan xs _ _ jW _ _ hu);have e:j/3*3+j%3=j:=Mcm;rw[e]at h2 hc;refine⟨?_,?_⟩
 ·rw[h2];simp only[World.cell?,hg];exact hc
 ·simp[World.frozen?,hg]
theorem sort_heap{w:World}{g o n cap:Nat}{cur:Array Value}{d:Array PQ}{os:Array Obj}(hg:w.heap[g]?=some (.cells cur 62 (0,0)))(ar:o+cap*3<=cur.size):∃cur',(sortWorldK zaa 3 w g o n d os).heap[g]?=some (.cells cur' 62 (0,0))/\o+cap*3<=cur'.size:=by
 have hl:=zab hg;refine⟨putCells id o (flatK zaa 3 d) cur,?_,by unfold putCells;rw[Array.size_mapIdx];exact ar⟩;show((Sort.mapBlock _ _ _).heap++os)[g]?=_;rw[Array.getElem?_append_left MdY];simp only[Sort.mapBlock,Sort.ahead];rw[Array.getElem?_modify,if_pos rfl,hg];rfl
theorem zmT{w W:World}{g o n:Nat}{dk:Array PQ}{os:Array Obj}(hg:w.heap.size<=g)(hB:Below w.heap.size w W):Below w.heap.size w (sortWorldK zaa 3 W g o n dk os):=by
 refine hB.trans ⟨rfl,rfl,rfl,?_,fun k hk=>?_⟩
 ·exact MbP
 ·have hs:=hB.size;show((Sort.mapBlock _ _ _).heap++os)[k]?=_;rw[Array.getElem?_append_left MdY];simp only[Sort.mapBlock,Sort.ahead];rw[Array.getElem?_modify,if_neg Mcm]
theorem zoJ(x y:PQ)(W:World):Calls Tryz.prog 132 #[.agg (zaa x).toArray,.agg (zaa y).toArray] W fun e w'=>e=.returned (.int .i64 (zfY x y))/\∃q os',w'=Go.Sort.grow (W.drewN q) os':=by
 obtain⟨a0,a1⟩:=x;obtain⟨b0,b1⟩:=y;have hc:=fun W'=>zli a0 b0 W'
 have hl:zfY (a0,a1) (b0,b1)=cmpN a0 b0:=rfl;rw[hl];generalize cmpN a0 b0=r at hc⊢;simp only[zaa];go_enter Tryz.func132,Tryz.ntmps132
 go_wp2_with (go_at_call 133;refine(hc _).mono ?_;rintro e wq ⟨rfl,rfl⟩)
 go_ret
 exact⟨rfl,0,_,by rw[alloc_eq_grow,alloc_eq_grow,grow_grow];rfl⟩
theorem sortP0(g off cap:Nat)(d:Array PQ)(w:World)(hH:Sort.HoldsK zaa 3 w g off d)(hg:g<w.heap.size)(hsz:d.size<=1000000000):
 Calls Tryz.prog 131 #[.slice (some ⟨g,off,none⟩) d.size cap,.func (.func 132) #[] #[]] w fun e w'=>
  e=.returned (.tuple #[])/\∃d' n os,Sort.PermIn 0 d.size d d'/\Sort.SortedIn (ltOf zfY) 0 d.size d'/\w'=sortWorldK zaa 3 w g off n d' os:=by
 have eg:∀args w,(callFunc 132 args).run Tryz.prog w=.ok (.enter 132 args) w:=enters_of Tryz.func132 Mcn rfl;have bz:=AnyQ.slices_SortFunc znU 3 Tryz.isAgg62 Tryz.sizeOf62 zaa zan zcd zfY part_swo 132 #[] g off cap d w eg (fun _ _ _ _ x y=>by simpa using zoJ x y _) hH hg Mcm;change Calls Tryz.prog 131 _ _ _ at bz;exact bz
theorem zoK(fv:Value)(w:World):Calls Tryz.prog 131 #[.slice none 0 0,fv] w fun e w'=>e=.returned (.tuple #[])/\w'=w:=by
 have bz:=AnyF.slices_SortFunc_none znU none 0 fv w;change Calls Tryz.prog 131 _ _ _ at bz;exact bz
theorem sortP_any(v:Value)(ls:Parts)(base:Nat)(w:World)(ae:OwnS w base 62 3 zaa v ls)(hl:ls.length<=1000000000):
 Calls Tryz.prog 131 #[v,.func (.func 132) #[] #[]] w fun e w'=>e=.returned (.tuple #[])/\∃L,L.Perm ls/\UpP L/\OwnS w' base 62 3 zaa v L/\(∀w0:World,Below w0.heap.size w0 w->w0.heap.size<=base->Below w0.heap.size w0 w')/\w.grownBy w' (za7 v):=by
 rcases ae with⟨rfl,rfl⟩|⟨g,o,cap,cur,rfl,hb,hg,hc,hm,hs,hx⟩
 ·refine(zoK _ _).mono ?_;rintro e wq ⟨rfl,rfl⟩;exact⟨rfl,[],List.Perm.refl _,List.Pairwise.nil,OwnS.nil,fun w0 h _=>h,zdC _ _⟩
 ·have cx:=zab hg;have hH:=zoI (base:=base) (cap:=cap) hg hx;have h:=sortP0 g o cap ls.toArray w hH cx (by simpa using hl);have e:ls.toArray.size=ls.length:=Mcp;rw[e]at h;refine h.mono ?_;rintro e wq ⟨rfl,d',n,os,hp,un,rfl⟩;obtain⟨h1,h2⟩:=perm_upP (by rw[e];exact hp) (by rw[e];exact un);have pH:d'.toList.Perm ls:=h1;have ag:d'.toList.length=ls.length:=pH.length_eq;obtain⟨cur',fC,eG⟩:=sort_heap (n:=n) (d:=d') (os:=os) hg hs;have vU:=holdsK_sortWorldK zaa 3 w g o n ls.toArray d' os cx hH (by simpa using ag);refine⟨rfl,d'.toList,pH,h2,.inr ⟨g,o,cap,cur',by rw[ag],hb,fC,by omega,hm,eG,?_⟩,fun w0 h b8=>zmT Mcm h,?_⟩
  ·intro j u hu;have cW:j<d'.toList.length*3:=by
    have:=(List.getElem?_eq_some_iff.1 hu).1;rw[zgh zaa 3 zan]at this;exact this
   have hk:d'.toList[j/3]?=some (d'.toList[j/3]' Mcm):=List.getElem?_eq_getElem _;have DC:j%3<3:=Nat.mod_lt _ Mco;have hv:(zaa (d'.toList[j/3]' Mcm))[j%3]?=some ((zaa (d'.toList[j/3]' Mcm))[j%3]'(by rw[zan];exact DC)):=List.getElem?_eq_getElem _;obtain⟨q1,q2⟩:=zlF d' hk hv;have q3:=zeV zaa 3 zan d'.toList _ _ hk _ _ hv;have e3:j/3*3+j%3=j:=Mcm;rw[e3]at q1 q2 q3;have q4:=(vU j q1).1;rw[q2]at q4;rw[q3]at hu;simp only[World.cell?,fC]at q4;rw[<-hu];exact q4
  ·refine⟨rfl,rfl,rfl,?_,fun k hk ai=>?_⟩
   ·exact MbP
   ·have L1:¬g=k:=fun e=>ai (by simp[za7,e])
    show((Sort.mapBlock _ _ _).heap++os)[k]?=_;rw[Array.getElem?_append_left MdY];simp only[Sort.mapBlock,Sort.ahead];rw[Array.getElem?_modify,if_neg L1]
