/- Walk of chapter 5's sort of parts by names. -/
import Derived.Test.YtmfbdfejhdkiaaaGreatDoorJQ
import Derived.Test.YtmfbdfejhdkiaaaGreatDoorO9
set_option linter.all false
set_option maxRecDepth 100000
set_option maxHeartbeats 4000000
namespace Go.Proofs.YtmfbdfejhdkiaaaGreatDoor
open Go.RowKit Go.Shelf
attribute [local go_sem] World.cell?_alloc_mark zae za4 zao za8 zav zaw zax zay zaz za0 za1
section
attribute [local go_sem] zap zac
theorem ItemsN.same{W W':World}{Q:Nat->Prop}(hb:∀(k:Nat) (cur:Array Value) (fr:Nat×Nat),W.heap[k]?=some (.cells cur 201 fr)->W'.heap[k]?=W.heap[k]?):∀ {f:Nat} {es:List Ln} {l:List Tree},ItemsN W Q f es l->ItemsN W' Q f es l
 |0,_,_,h=>h
 |f+1,es,l,h=>⟨h.1,fun k e t h1 h2=>by
  rcases h.2 k e t h1 h2 with h3|⟨l',A,c,es',h3,h4,h5,h6,hQ,h7,h8⟩
  ·exact .inl h3
  ·exact .inr ⟨l',_,c,es',h3,h4,h5,h6,hQ,h7.same (fun b cur fr hx _=>hb b cur fr hx),ItemsN.same hb h8⟩⟩
theorem zk7{w w':World}{C m:Nat}{fl:Bool}{out:Parts}(h:Two2 w w' C m)(hM:MarkAt w C fl)(hS:HasAt w m out):∀(k:Nat) (cur:Array Value) (fr:Nat×Nat),w.heap[k]?=some (.cells cur 201 fr)->w'.heap[k]?=w.heap[k]?:=fun k cur fr hk=>by
 refine h.others k (Array.getElem?_eq_some_iff.1 hk).1 (fun e=>?_) (fun e=>?_)
 ·subst e;unfold MarkAt at hM;rw[hM]at hk;simp at hk
 ·subst e;obtain⟨mm,⟨es,c,h1,_⟩,_⟩:=hS;rw[h1]at hk;simp at hk
theorem Two2.set{w W:World}{C m:Nat}(h:Two2 w W C m){P o:Nat}(hC:C<w.heap.size)(hP:w.heap.size<=P)(v:Value):Two2 w (W.setCell ⟨P,o,none⟩ v) C m:=
 ⟨fun n h1 h2 h3=>zaN (h.below n h1 h2 h3) (by show n<=P;omega) v,fun k hk h1 h2=>by
   rw[<-h.others k hk h1 h2];have hb:¬P=k:=Mcq
   simp[World.setCell,Array.getElem?_modify,hb],by simp only[World.setCell,Array.size_modify];exact h.size⟩
theorem Two2.alloc{w W:World}{C m:Nat}(h:Two2 w W C m)(o:Obj):Two2 w (W.alloc o) C m:=h.trans (Two2.of_below (zad Qb o))
theorem Two2.refl2(w:World)(C m:Nat):Two2 w w C m:=Two2.of_below Qb
theorem Two2.drew{w W:World}{C m:Nat}(h:Two2 w W C m):Two2 w W.drew C m:=h.trans (Two2.of_below (zaF Qb))
theorem Two2.ext{w W:World}{C m:Nat}(h:Two2 w W C m)(z:Ez):Two2 w (W.ext z) C m:=h.trans (Two2.of_below (zaq W z))
theorem zhr(b h C m:Nat)(law:Law)(who:ByteArray)(nR:h≠C)(qh:h≠m)(uf:C≠m):∀(f:Nat) (es:List Ln) (l:List Tree) (Q:Nat->Prop) (A:Option Addr) (n c:Nat) (q t:Rat) (out:Parts) (fl:Bool) (w:World),
 ItemsN w Q f es l->WideN f l->Ro w 201 lnC A es->l≠[]->n=l.length->HeirAt w h b law who C m->MarkAt w C fl->HasAt w m out->0<=q->q<=1->zaL q->Bd out t->t+q<=1->
 Calls Tryz.prog 142 #[.pointer (some ⟨h,0,none⟩),.slice A n c,.agg #[.int .i64 q.num,.int .i64 q.den]] w (zlv w C m (zcz l q (out,fl)))
 |0,es,l,Q,A,n,c,q,t,out,fl,w,hI,_,_,ag,_,_,_,_,_,_,_,_,_=>absurd hI.2 ag
 |f+1,es,l,Q,A,n,c,q,t,out,fl,w,hI,zd,hR,ag,hn,hH,hM,hS,eJ,cN,AU,dp,Ba=>by
  have IH:=zHi (zhr b h C m law who nR qh uf f);have ae:=hI.len;have cS:0<l.length:=List.length_pos_iff.2 ag;obtain⟨bY,Ip⟩:=zd;have hh:=zab hH;have wn:=zab hM;have kF:=hS.lt;obtain⟨kH,gT,cT,pB⟩:=part_ok eJ cN cS;have qu:=zlz cS bY;obtain⟨lm,yv,_,_⟩:=zhR cS;rw[zcz];rw[<-hn]at kH gT cT pB qu lm yv⊢;generalize hpart:zbi (q*(1/(n:Rat)))=part at*;have AP:=fun(W:World) (cB:MarkAt W C fl)=>zhO C fl W cB q (1/(n:Rat)) AU qu
  unfold zeC zaD at AP;simp only[hpart,lm,yv]at AP;have je:=zHi AP;clear AP lm yv qu;obtain⟨HP,HI,rL,HR,HH,HM,HS,HB⟩:=yH8 hpart hI Ip hR hH hM hS dp;obtain⟨JE,Jp⟩:=yH2 Ba pB;unfold HeirAt at hH;obtain⟨-,-,-,-,-,-,e6⟩:=cF7 hH;clear hI Ip hR hH hM hS dp Ba pB hpart;generalize bigQ (q*(1/(n:Rat)))=bg at*;have qk:n<=1000:=Mcq;obtain⟨HN,gw⟩:=yH2 hn ae;clear hn ae;go_enter Tryz.func142,Tryz.ntmps142
  go_upto_region 1 with fail
  go_cut [6]from 7 (fun v wc=>∃P,v=.pointer (some ⟨P,0,none⟩)/\w.heap.size<P/\wc.heap[P]?=some (zbw part)/\MarkAt wc C (fl||bg)/\HasAt wc m out/\Two2 w wc C m)
  case first=>
   refine wp_region_held_drew (S:=(fun w'=>w'.cell? ⟨h,6,none⟩=some (.pointer (some ⟨C,0,none⟩))/\w'.cell? ⟨w.heap.size,0,none⟩=some (.int .i64 q.num)/\w'.cell? ⟨w.heap.size,1,none⟩=some (.int .i64 q.den))) Mcs ?hS ?hrest
   case hS=>((try dsimp only);refine⟨?_,?_,?_⟩<;>(simp[go_sem,e6,hh];done))
   case hrest=>
    intro hHeld;refine TkH 0 ?_;refine TkH 1 ?_;refine TkH 2 ?_;refine TkH 3 ?_;refine TkH 4 ?_;refine TkH 5 ?_;refine TkH 6 ?_;refine TkH 7 ?_;refine wpAnyH_ready (rs:=[8,9]) Mcs Mcv (AllReadyH.cons (List.getElem?_toArray.trans rfl) (fun K hK=>?_) (AllReadyH.cons (List.getElem?_toArray.trans rfl) (fun K hK=>?_) AllReadyH.nil))
    ·go_simp
     refine(je.o _ ?q1).mono ?_
     case q1=>(repeat(first|exact HM.o|refine MarkAt.drew ?_|refine MarkAt.alloc ?_ _))
     rintro e w5 ⟨rfl,n1,n2⟩;have dY:=n2.size;have x0:w5.cell? ⟨h,6,none⟩=some (.pointer (some ⟨C,0,none⟩)):=(zbd n2 Mcw nR).trans Mey;have x1:w5.cell? ⟨w.heap.size,0,none⟩=some (.int .i64 q.num):=(zbd n2 (by simp;try omega) Mcq).trans Mc0;have x2:w5.cell? ⟨w.heap.size,1,none⟩=some (.int .i64 q.den):=(zbd n2 (by simp;try omega) Mcq).trans Mc0;have x3:w.heap.size<w5.heap.size:=MdW;have x4:h<w5.heap.size:=MdW;obtain⟨N1,N2⟩:=yH2 n1 n2;clear n1 n2;refine hK.out _ _ ?_ (fun hHeld=>?_);focus((try dsimp only);refine⟨?_,?_,?_⟩<;>first|assumption|(simp[go_sem,e6,hh];done)|(simp[go_sem,x0,x1,x2,x3,x4];done)|(trace_state;fail "nextR"))
     clear hK K;try simp only[Act.put,List.setIfInBounds_toArray,List.set_cons_zero,List.set_cons_succ]
     refine OnH 9 fun K hK=>?_
     go_simp
     refine hK.out _ _ ?_ (fun hHeld=>?_);focus((try dsimp only);refine⟨?_,?_,?_⟩<;>first|assumption|(simp[go_sem,e6,hh];done)|(simp[go_sem,x0,x1,x2,x3,x4];done)|(trace_state;fail "nextR"))
     clear hK K;try simp only[Act.put,List.setIfInBounds_toArray,List.set_cons_zero,List.set_cons_succ]
     refine OnH 10 fun K hK=>?_
     go_simp
     refine hK.out _ _ ?_ (fun hHeld=>?_);focus((try dsimp only);refine⟨?_,?_,?_⟩<;>first|assumption|(simp[go_sem,e6,hh];done)|(simp[go_sem,x0,x1,x2,x3,x4];done)|(trace_state;fail "nextR"))
     clear hK K;try simp only[Act.put,List.setIfInBounds_toArray,List.set_cons_zero,List.set_cons_succ]
     refine wpAnyH_done Mcs ?_ _;go_wp2_with fail
     go_meet
     have r2:Two2 w w5 C m:=Two2.trans McG (Two2.grownC N2.o);have s5:HasAt w5 m out:=HasAt.block (HS.o.keep (n:=w.heap.size) Bw) (N2.o.block m Mcw Mcw);exact⟨_,rfl,by omega,zat _ _ _ rfl,N1.o.alloc _,s5.keep (n:=w5.heap.size) (zad Qb _),r2.alloc _⟩
    ·go_simp
     refine hK.out _ _ ?_ (fun hHeld=>?_);focus((try dsimp only);refine⟨?_,?_,?_⟩<;>first|assumption|(simp[go_sem,e6,hh];done)|(simp[go_sem,x0,x1,x2,x3,x4];done)|(trace_state;fail "nextR"))
     clear hK K;try simp only[Act.put,List.setIfInBounds_toArray,List.set_cons_zero,List.set_cons_succ]
     refine OnH 8 fun K hK=>?_
     go_simp
     refine(je.o _ ?q1).mono ?_
     case q1=>(repeat(first|exact HM.o|refine MarkAt.drew ?_|refine MarkAt.alloc ?_ _))
     rintro e w5 ⟨rfl,n1,n2⟩;have dY:=n2.size;have x0:w5.cell? ⟨h,6,none⟩=some (.pointer (some ⟨C,0,none⟩)):=(zbd n2 Mcw nR).trans Mey;have x1:w5.cell? ⟨w.heap.size,0,none⟩=some (.int .i64 q.num):=(zbd n2 (by simp;try omega) Mcq).trans Mc0;have x2:w5.cell? ⟨w.heap.size,1,none⟩=some (.int .i64 q.den):=(zbd n2 (by simp;try omega) Mcq).trans Mc0;have x3:w.heap.size<w5.heap.size:=MdW;have x4:h<w5.heap.size:=MdW;obtain⟨N1,N2⟩:=yH2 n1 n2;clear n1 n2;have yP:w5.heap[w.heap.size+1]?=some (.cells #[.int .i64 0,.int .i64 0] 57):=(N2.o.block _ Mcv Mcw).trans (zat _ _ _ Mcv);obtain⟨y0,y1⟩:=cF2 yP;have f0:w5.frozen? ⟨w.heap.size+1,0,none⟩=false:=by simp only[World.frozen?,yP];rfl
     have f1:w5.frozen? ⟨w.heap.size+1,1,none⟩=false:=by simp only[World.frozen?,yP];rfl
     have AE:h≠w.heap.size+1:=Mcq;have Kx:=zab yP;refine hK.out _ _ ?_ (fun hHeld=>?_);focus((try dsimp only);refine⟨?_,?_,?_⟩<;>first|assumption|(simp[go_sem,e6,hh];done)|(simp[go_sem,x0,x1,x2,x3,x4];done)|(trace_state;fail "nextR"))
     clear hK K;try simp only[Act.put,List.setIfInBounds_toArray,List.set_cons_zero,List.set_cons_succ]
     refine OnH 10 fun K hK=>?_
     go_simp
     refine hK.out _ _ ?_ (fun hHeld=>?_);focus((try dsimp only);refine⟨?_,?_,?_⟩<;>first|assumption|(simp[go_sem,e6,hh];done)|(simp[go_sem,x0,x1,x2,x3,x4];done)|(trace_state;fail "nextR"))
     clear hK K;try simp only[Act.put,List.setIfInBounds_toArray,List.set_cons_zero,List.set_cons_succ]
     refine wpAnyH_done Mcs ?_ _;go_wp2_with fail
     go_meet
     have r2:Two2 w w5 C m:=Two2.trans McG (Two2.grownC N2.o);have s5:HasAt w5 m out:=HasAt.block (HS.o.keep (n:=w.heap.size) Bw) (N2.o.block m Mcw Mcw)
     have s6:HasAt ((w5.setCell ⟨w.heap.size+1,0,none⟩ (.int .i64 part.num)).setCell ⟨w.heap.size+1,1,none⟩ (.int .i64 part.den)) m out:=s5.block (by
      have hb:¬w.heap.size+1=m:=Mcq
      simp[World.setCell,Array.getElem?_modify,hb])
     exact⟨_,rfl,by omega,zeO yP,J_ne Mcq (J_ne Mcq N1.o),s6,(r2.set wn Mcq _).set wn Mcq _⟩
  case rest=>
   obtain⟨P,rfl,hP,uj,pj,aw,FN⟩:=hcut;obtain⟨W0,rfl⟩:∃x,x=wc:=⟨_,rfl⟩
   obtain⟨fH,Jc,Iw,zO⟩:=yH4 aw pj FN uj;have Kx:=zab uj;clear pj FN uj aw;go_wp2_with fail
   go_loopw [20] (fun i wr=>∃(k:Nat) (o2:Parts) (f2:Bool),k<=n/\i=.int .i64 k/\Hid ((o2,f2)=zbG part (l.take k) (out,fl||bg))/\HasAt wr m o2/\MarkAt wr C f2/\Two2 w wr C m/\wr.heap[P]?=some (zbw part)) (fun i _=>n-(intOf i).toNat)
   case atStart=>exact⟨0,out,fl||bg,Nat.zero_le _,rfl,by show _=_;rw[List.take_zero,zbG],fH.o,Jc.o,Iw.o,zO.o⟩
   case round=>
    obtain⟨k,o2,f2,hk,rfl,HX,hs,hm,h2,wN⟩:=hrel;obtain⟨Cr,C4,EZ,Js⟩:=yH4 hs hm h2 wN;have hsz:=h2.size;have p0:wr.cell? ⟨P,0,none⟩=some (.int .i64 part.num):=by simp only[World.cell?,wN,zbw];rfl
    have p1:wr.cell? ⟨P,1,none⟩=some (.int .i64 part.den):=by simp only[World.cell?,wN,zbw];rfl
    have Ky:=zab wN;have hPn:P≠wr.heap.size:=Mcq;by_cases aa:k<n
    ·have Gs:=HR.o.same (fun b cur fr hx _=>zk7 h2 HM.o HS.o b cur fr hx);have Gd:=HI.o.same (zk7 h2 HM.o HS.o);have bu:k<es.length:=by have:=gw.o;have:=HN.o;omega
     have fM:k<l.length:=MeA;obtain⟨b',off,rfl,cI,hc⟩:=(Ro.sl zjF Gs).at bu;have Lx:=Gd.2 k es[k] l[k] (List.getElem?_eq_getElem bu) (List.getElem?_eq_getElem fM);have bN:=zmK part l (out,fl||bg) fM;have bh:l[k]∈l:=List.getElem_mem fM;have sF:=zhQ kH (l:=l.take k) (fl:=fl||bg) HB.o;rw[List.length_take,Nat.min_eq_left Mcq]at sF;have aW:t+part*(k:Rat)+part<=1:=by
      have h1:=take_le kH (Nat.succ_le_of_lt aa);rw[zgF]at h1;have h2:=Jp.o;have h3:=JE.o;grind
     rw[<-HX.o]at bN sF;obtain⟨dI,Bo,F5⟩:=yH3 bN sF aW;have Fi:Hid (HeirAt wr h b law who C m):=(h2.others h hh nR qh).trans HH.o;have ar:(k:Int)<(n:Int):=Mcq;have aR:(0:Int)<=(k:Int):=Mcq;clear hs hm h2 wN Gs Gd bN sF aW;rcases Lx with⟨nm,hx,hy⟩|⟨l',A',c',es',hx,hy,hz,Es,_,yK,xF⟩
     ·have i0:wr.cell? ⟨b',off+k*2,none⟩=some (.string nm):=hc 0 _ (by rw[hy];rfl);have i1:wr.cell? ⟨b',off+k*2+1,none⟩=some (.slice none 0 0):=hc 1 _ (by rw[hy];rfl);have bN:=dI.o;rw[hx,zdV]at bN;have dI:=zHi bN;clear hc hx hy bN bh;go_wp2_with (go_at_call 140;refine(zg9 b h C m law who nm part o2 f2 _ (Fi.o.keep (n:=wr.heap.size) Bw) (C4.o.keep (n:=wr.heap.size) Bw Mcq) (Cr.o.keep (n:=wr.heap.size) Bw) nR qh uf Bo.o.good (Bo.o.share (by have:=F5.o;grind) nm) cT).mono ?_;rintro e wq ⟨rfl,g1,g2,g3⟩)
      exact MO
     ·have kO:es[k]=(⟨#[]⟩,some A',l'.length,c'):=hy;have i0:wr.cell? ⟨b',off+k*2,none⟩=some (.string ⟨#[]⟩):=hc 0 _ (by rw[kO];rfl);have i1:wr.cell? ⟨b',off+k*2+1,none⟩=some (.slice (some A') l'.length c'):=hc 1 _ (by rw[kO];rfl);have bN:=dI.o;rw[hx,zov]at bN;have dI:=zHi bN;have ze:=rL.o l' (by rw[<-hx];exact bh);obtain⟨J1,cu,iO⟩:=yH3 (fun W h1 h2 h3 h4 h5=>IH.o es' l' Q (some A') l'.length c' part _ o2 f2 W h1 ze h2 Es rfl h3 h4 h5 kH gT cT Bo.o F5.o) xF yK;clear hc hx hy kO bN bh xF yK ze;go_wp2_with (go_at_call 142;refine(J1.o _ (cu.o.keep (n:=wr.heap.size) Bw) (iO.o.keep (n:=wr.heap.size) Bw) (Fi.o.keep (n:=wr.heap.size) Bw) (C4.o.keep (n:=wr.heap.size) Bw Mcq) (Cr.o.keep (n:=wr.heap.size) Bw)).mono ?_;rintro e wq ⟨rfl,g1,g2,g3⟩)
      exact MO
    ·have ar:¬(k:Int)<(n:Int):=Mcq;rw[List.take_of_length_le MeA]at HX;go_wp2_with fail
     go_end0
     rw[<-HX.o];exact⟨rfl,Cr.o,C4.o,EZ.o⟩
end
open Go.Sort
abbrev PQ:=ByteArray×Rat
instance:Inhabited PQ:=⟨(⟨#[]⟩,0)⟩
def zgh(x y:PQ):Int:=cmpN x.1 y.1
theorem zgJ(x y:PQ):ltOf zgh x y=zbr x.1 y.1:=znC _ _
theorem part_swo:Sort.SWO (ltOf zgh) where
 irrefl x:=by rw[zgJ];exact zfa _
 trans x y z h1 h2:=by rw[zgJ]at*;exact zb3 h1 h2
 ntrans x y z h1 h2:=by
  rw[zgJ]at*;cases h:zbr x.1 z.1
  ·rfl
  ·exfalso
   rcases zdx y.1 z.1 with h3|h3|h3
   ·rw[h2]at h3;cases h3
   ·rw[h3,h]at h1;cases h1
   ·rw[zb3 h h3]at h1;cases h1
theorem perm_upP{d d':Array PQ}(hp:Sort.PermIn 0 d.size d d')(hs:Sort.SortedIn (ltOf zgh) 0 d.size d'):d'.toList.Perm d.toList/\UpP d'.toList:=by
 obtain⟨hsz,_,qv⟩:=hp;have e1:d'.extract 0 d.size=d':=by rw[<-hsz];exact Array.extract_size
 rw[e1,Array.extract_size]at qv;refine⟨qv,List.pairwise_iff_getElem.2 fun i j hi hj eH=>?_⟩;have xB:i<d'.size:=Mek;have sV:j<d'.size:=MdI;have:=hs i j (Nat.zero_le _) eH Mcq;rw[zgJ,getElem!_pos d' j sV,getElem!_pos d' i xB]at this;simpa using this
theorem zlI(d:Array PQ){k j:Nat}{x:PQ}{u:Value}(hk:d.toList[k]?=some x)(hj:(zaa x)[j]?=some u):k*3+j<(Sort.flatK zaa 3 d).size/\(Sort.flatK zaa 3 d)[k*3+j]! =u:=by
 have Ef:j<3:=by have:=(List.getElem?_eq_some_iff.1 hj).1;rw[zai]at this;exact this
 have cC:k<d.size:=by have:=(List.getElem?_eq_some_iff.1 hk).1;simpa using this
 have aa:k*3+j<d.size*3:=Mcq;refine⟨by rw[Sort.size_flatK];exact aa,?_⟩;rw[Sort.get_flatK _ _ _ _ aa,show(k*3+j)/3=k by omega,show(k*3+j)%3=j by omega];have:d[k]! =x:=by
  rw[getElem!_pos d k cC];have:=(List.getElem?_eq_some_iff.1 hk).2;simpa using this
 rw[this,List.getElem!_eq_getElem?_getD,hj];rfl
theorem zoG{w:World}{base g o cap:Nat}{cur:Array Value}{xs:Parts}(hg:w.heap[g]?=some (.cells cur 59 (0,0)))(hx:∀j u,(xs.flatMap zaa)[j]?=some u->cur[o+j]?=some u):Sort.HoldsK zaa 3 w g o xs.toArray:=fun j hj=>by
 rw[Sort.size_flatK]at hj;have sV:j<xs.length*3:=MdI;have aa:j/3<xs.length:=Mcq;have gn:xs[j/3]?=some xs[j/3]:=List.getElem?_eq_getElem aa;have hu:(zaa xs[j/3])[j%3]?=some ((zaa xs[j/3])[j%3]' Med):=List.getElem?_eq_getElem _;obtain⟨_,h2⟩:=zlI xs.toArray (k:=j/3) (x:=xs[j/3]) (show xs.toArray.toList[j/3]?=_ from gn) hu;have hc:=hx (j/3*3+j%3) _ (zeW zaa 3 zai xs _ _ gn _ _ hu);have e:j/3*3+j%3=j:=Mcq;rw[e]at h2 hc;refine⟨?_,?_⟩
 ·rw[h2];simp only[World.cell?,hg];exact hc
 ·simp[World.frozen?,hg]
theorem sort_heap{w:World}{g o n cap:Nat}{cur:Array Value}{d:Array PQ}{os:Array Obj}(hg:w.heap[g]?=some (.cells cur 59 (0,0)))(ao:o+cap*3<=cur.size):∃cur',(sortWorldK zaa 3 w g o n d os).heap[g]?=some (.cells cur' 59 (0,0))/\o+cap*3<=cur'.size:=by
 have hl:=zab hg;refine⟨putCells id o (flatK zaa 3 d) cur,?_,by unfold putCells;rw[Array.size_mapIdx];exact ao⟩;exact MaJ
theorem zmR{w W:World}{g o n:Nat}{dk:Array PQ}{os:Array Obj}(hg:w.heap.size<=g)(hB:Qa w W):Qa w (sortWorldK zaa 3 W g o n dk os):=by
 refine hB.trans ⟨rfl,rfl,rfl,?_,fun k hk=>?_⟩
 ·exact Ma8
 ·have hs:=hB.size;show((Sort.mapBlock _ _ _).heap++os)[k]?=_;rw[Array.getElem?_append_left MdX];simp only[Sort.mapBlock,Sort.ahead];rw[Array.getElem?_modify,if_neg Mcq]
theorem zoH(x y:PQ)(W:World):Calls Tryz.prog 144 #[.agg (zaa x).toArray,.agg (zaa y).toArray] W fun e w'=>e=.returned (.int .i64 (zgh x y))/\∃q os',w'=Go.Sort.grow (W.drewN q) os':=by
 obtain⟨a0,a1⟩:=x;obtain⟨b0,b1⟩:=y;have hc:=fun W'=>zlk a0 b0 W'
 have hl:zgh (a0,a1) (b0,b1)=cmpN a0 b0:=rfl;rw[hl];generalize cmpN a0 b0=r at hc⊢;simp only[zaa];go_enter Tryz.func144,Tryz.ntmps144
 go_wp2_with (go_at_call 145;refine(hc _).mono ?_;rintro e wq ⟨rfl,rfl⟩)
 go_ret
 exact⟨rfl,0,_,by rw[alloc_eq_grow,alloc_eq_grow,grow_grow];rfl⟩
theorem sortP0(g off cap:Nat)(d:Array PQ)(w:World)(hH:Sort.HoldsK zaa 3 w g off d)(hg:g<w.heap.size)(hsz:d.size<=1000000000):
 Calls Tryz.prog 143 #[.slice (some ⟨g,off,none⟩) d.size cap,.func (.func 144) #[] #[]] w fun e w'=>
  e=.returned (.tuple #[])/\∃d' n os,Sort.PermIn 0 d.size d d'/\Sort.SortedIn (ltOf zgh) 0 d.size d'/\w'=sortWorldK zaa 3 w g off n d' os:=by
 have eg:∀args w,(callFunc 144 args).run Tryz.prog w=.ok (.enter 144 args) w:=enters_of Tryz.func144 Mcs rfl;have ba:=AnyQ.slices_SortFunc znR 3 Tryz.isAgg59 Tryz.sizeOf59 zaa zai zcb zgh part_swo 144 #[] g off cap d w eg (fun _ _ _ _ x y=>by simpa using zoH x y _) hH hg Mcq;change Calls Tryz.prog 143 _ _ _ at ba;exact ba
theorem zoI(fv:Value)(w:World):Calls Tryz.prog 143 #[.slice none 0 0,fv] w fun e w'=>e=.returned (.tuple #[])/\w'=w:=by
 have ba:=AnyF.slices_SortFunc_none znR none 0 fv w;change Calls Tryz.prog 143 _ _ _ at ba;exact ba
theorem sortP_any(v:Value)(ls:Parts)(base:Nat)(w:World)(ac:OwnS w base 59 3 zaa v ls)(hl:ls.length<=1000000000):
 Calls Tryz.prog 143 #[v,.func (.func 144) #[] #[]] w fun e w'=>e=.returned (.tuple #[])/\∃L,L.Perm ls/\UpP L/\OwnS w' base 59 3 zaa v L/\(∀w0:World,Qa w0 w->w0.heap.size<=base->Qa w0 w')/\w.grownBy w' (za6 v):=by
 rcases ac with⟨rfl,rfl⟩|⟨g,o,cap,cur,rfl,hb,hg,hc,hm,hs,hx⟩
 ·refine(zoI _ _).mono ?_;rintro e wq ⟨rfl,rfl⟩;exact⟨rfl,[],List.Perm.refl _,List.Pairwise.nil,OwnS.nil,fun w0 h _=>h,zc3 _ _⟩
 ·have cg:=zab hg;have hH:=zoG (base:=base) (cap:=cap) hg hx;have h:=sortP0 g o cap ls.toArray w hH cg Mez;have e:ls.toArray.size=ls.length:=Mcv;rw[e]at h;refine h.mono ?_;rintro e wq ⟨rfl,d',n,os,hp,qC,rfl⟩;obtain⟨h1,h2⟩:=perm_upP (by rw[e];exact hp) (by rw[e];exact qC);have pU:d'.toList.Perm ls:=h1;have ae:d'.toList.length=ls.length:=pU.length_eq;obtain⟨cur',iv,eb⟩:=sort_heap (n:=n) (d:=d') (os:=os) hg hs;have wx:=holdsK_sortWorldK zaa 3 w g o n ls.toArray d' os cg hH (by simpa using ae);refine⟨rfl,d'.toList,pU,h2,.inr ⟨g,o,cap,cur',by rw[ae],hb,iv,by omega,hm,eb,?_⟩,fun w0 h aN=>zmR Mcq h,?_⟩
  ·intro j u hu;have bM:j<d'.toList.length*3:=by
    have:=(List.getElem?_eq_some_iff.1 hu).1;rw[zgr zaa 3 zai]at this;exact this
   have hk:d'.toList[j/3]?=some (d'.toList[j/3]' Mcq):=List.getElem?_eq_getElem _;have Ef:j%3<3:=Nat.mod_lt _ Mcu;have hv:(zaa (d'.toList[j/3]' Mcq))[j%3]?=some ((zaa (d'.toList[j/3]' Mcq))[j%3]'(by rw[zai];exact Ef)):=List.getElem?_eq_getElem _;obtain⟨q1,q2⟩:=zlI d' hk hv;have q3:=zeW zaa 3 zai d'.toList _ _ hk _ _ hv;have e3:j/3*3+j%3=j:=Mcq;rw[e3]at q1 q2 q3;have q4:=(wx j q1).1;rw[q2]at q4;rw[q3]at hu;simp only[World.cell?,iv]at q4;rw[<-hu];exact q4
  ·refine⟨rfl,rfl,rfl,?_,fun k hk ag=>?_⟩
   ·exact Ma8
   ·have Ho:¬g=k:=fun e=>ag (by simp[za6,e])
    exact MaK
