/- Walk of chapter 5's renewal; plain part of surrender. -/
import Derived.Test.YtjhbofabmpfniaaGreatDoorJH
set_option linter.unusedSimpArgs false
set_option linter.unusedVariables false
set_option maxRecDepth 100000
set_option maxHeartbeats 4000000
namespace Go.Proofs.YtjhbofabmpfniaaGreatDoor
open Go.RowKit Go.Shelf
attribute [local go_sem] World.cell?_alloc_mark zae za3 zam za6 zas zat zau zav zaw zax zay
attribute [local go_sem] zaj zac
theorem OwnS.base_le {α:Type} {W:World} {base base':Nat} {e:TypeId} {size:Nat} {f:α->List Value} {v:Value} {xs:List α} (h:OwnS W base e size f v xs) (hb:base'<=base):OwnS W base' e size f v xs:=by
 rcases h with h|⟨g,o,cap,cur,rfl,h1,h2⟩
 ·exact .inl h
 ·exact .inr ⟨g,o,cap,cur,rfl,Nat.le_trans hb h1,h2⟩
theorem zjJ {a b:Rat} (ha:0<=a) (tE:a<=1) (hb:0<=b) (aS:b<=1):a*b<=1:=by
 have:=Rat.mul_nonneg ha (show 0<=1-b by grind);grind
theorem OwnS.sl' {α:Type} {W:World} {base:Nat} {e:TypeId} {size n c:Nat} {f:α->List Value} {A:Option Addr} {xs:List α} (ag: ∀x,(f x).length=size) (h:OwnS W base e size f (.slice A n c) xs):Sl W size f A xs:=by
 obtain⟨A2,c2,e,hs,_⟩:=h.sl ag;cases e;exact hs
theorem OwnS.ro' {α:Type} {W:World} {base:Nat} {e:TypeId} {size n c:Nat} {f:α->List Value} {A:Option Addr} {xs:List α} (h:OwnS W base e size f (.slice A n c) xs):Ro W e f A xs:=by
 obtain⟨A2,c2,e,_,hs⟩:=h.ro;cases e;exact hs
theorem Bd.up {out:Parts} {t u:Rat} (h:Bd out t) (hu:t<=u):Bd out u:=⟨h.good,h.small,Rat.le_trans h.le hu⟩
theorem ziC {g:Grave} {frm:ByteArray} {ts:List RPart} (hG:GoodG g) (h: ∀p∈ts,0<p.rat/\IsN 720720 p.rat/\za9 16 p.num p.den=true) (h1:sumQ (zap ts)<=1):
 0<=zag g.holders frm/\zaI (zag g.holders frm)/\zag g.holders frm<=1/\ ∀k,Bd (zei (zag g.holders frm) (zap (ts.take k)) (setP g.holders frm (zbg (zag g.holders frm*zeH ts)),bigQ (zag g.holders frm*zeH ts))).1 1:=by
 have ho:=zbA hG.good frm;have bN:=zdx hG.good frm;have dR:sumQ g.holders<=1:=by
  rcases hG.one with h|h
  ·rw[h];decide
  ·rw[h];exact Rat.le_refl
 have aj:=fun k=>znT (fun p hp=>(h p hp).1) (l:=ts) k
 have h0:=(aj 0)
 have Fn:0<=sumQ (zap ts):=Rat.le_trans h0.1 h0.2;have hr:0<=zag g.holders frm*zeH ts:=Rat.mul_nonneg ho (by unfold zeH;grind);have hb:Bd (setP g.holders frm (zbg (zag g.holders frm*zeH ts))) (1-zag g.holders frm*sumQ (zap ts)):=by
  refine⟨zhH hG.good (zcv hr),zeu hG.small (zgt _),?_⟩;rw[zm8 hG.good];have:=zhc hr;unfold zeH at*;grind
 refine⟨ho,zcc ho McP (zcJ frm hG.small),by grind,fun k=> ?_⟩
 have:=zm9 ho (l:=zap (ts.take k)) (f:=bigQ (zag g.holders frm*zeH ts)) (fun p hp=>by
  obtain⟨q,hq,rfl⟩:=List.mem_map.1 hp;have:=(h q (List.mem_of_mem_take hq)).1;show 0<=q.rat
  grind) hb
 refine this.up ?_;have h3:=Rat.mul_nonneg ho (show 0<=sumQ (zap ts)-sumQ (zap (ts.take k)) by have:=(aj k).2;grind);grind
theorem gain_snoc (own:Rat) (ts:List RPart) (x:Parts×Bool) {k:Nat} (h:k<ts.length):zei own (zap (ts.take (k+1))) x=zfh own (ts[k].name,ts[k].rat) (zei own (zap (ts.take k)) x):=by
 rw[List.take_succ_eq_append_getElem h];unfold zap;rw[List.map_append,zfi];rfl
theorem rest_none (ts:List RPart):zeH (ts.take 0)=1:=by
 show(1:Rat)-0=1;grind
def zbr (q:Rat):Obj:= .cells #[.int .i64 q.num, .int .i64 q.den] 71
theorem zl2 (base b:Nat) (s:St) (la co last:Int) (d:Deed) (B:Option Addr) (c:Nat) (w:World) (hW:WldAt base w b s la co) (jm:GoodSt s last) (hd:OkD d) (hk:d.kind=1) (ag:s.graves.length<=1000) (cz: ∀g∈s.graves,g.holders.length<=10000) (au:d.to.length<=c) (hS:Sl w 3 RPart.cells B d.to):
 Calls Tryz.prog 139 #[.pointer (some ⟨b,0,none⟩),d.v B c] w (zbF base b (zbo s d) la co w):=by
 have hp:=(hd.parts (.inr (.inl hk))).2;obtain⟨bO,dR,_,_⟩:=zea hp;have bu:=hd.len;clear hp hd hk
 have ru:=fun i g h1 h2 h3=>zl1 (s:=s) (d:=d) (i:=i) (g:=g) h1 h2 h3 (fun p hp=>by
  obtain⟨q,hq,rfl⟩:=List.mem_map.1 hp;have:=(bO q hq).1;show 0<=q.rat
  grind) dR
 have ao:=hW;obtain⟨Bk,dd,cc,pp,wl,rr,mv,tv,ps,aY,hC,hP,hT⟩:=hW;have cW:=zab hC;obtain⟨kd,dy,pl,fr,ts,cl,yr⟩:=d;simp only at*;have bF:=zHi (fun W (hB:Below w.heap.size w W)=>zjI base b s la co pl dy W (hC.keep hB) (hT.keep hB) Mcn);have ug:=zHi (fun W (hB:Below w.heap.size w W)=>ziz base b s ts B _ c W rfl Mcn (ao.peo.keep hB) (hS.keep hB));have HW:=zHi ao;have jg:=zHi bO;have pe:=zHi dR;have HC:=zHi hC;have HP:=zHi hP;have HS:=zHi hS;cases aL:zaO s pl dy with
 |none=>
  rw[aL]at bF;have HG:Hid (zbo s ⟨kd,dy,pl,fr,ts,cl,yr⟩=(s,6)):=by show _=_;simp[zbo,aL]
  clear aL ru ao hC hP hT hS bO dR;unfold Deed.v;simp only;go_enter Tryz.func139,Tryz.ntmps139
  exact Mae
 |some i=>
  obtain⟨T,g,ia,iC,aN,bP,gV,kw⟩:=zey hT aL;have qZ:=jm.graves g (List.mem_of_getElem? aN);have rY:=cz g (List.mem_of_getElem? aN);have iZ:=ru i g aL bP qZ;obtain⟨iU,iB,kZ,dg⟩:=ziC (frm:=fr) qZ bO dR;have il: ∀W,Below w.heap.size w W->Calls Tryz.prog 64 #[.pointer (some ⟨b,0,none⟩), .string pl, .int .i64 dy] W (Ret W (.pointer (some ⟨T,0,none⟩))):=fun W hB=>by
   have:=bF.o W hB;exact MaO
  have kI:=zHi il;obtain⟨H,aV,D,dc,frm,t1,t2,t3,t4,t5,t6,t7⟩:=gV;have cV:=zab t1;have eF:=zHi t1;have qL:=zHi t5;have kR:=zHi t6;have nj:=zHi t7;have gq:=zHi iZ;have da:=zHi dg;have ei:=zHi qZ;have HT:=zHi hT;have qE:=zHi ia;clear il bF t1 t5 t6 t7 iZ dg qZ hT ia iC bP aN kw aL ru jm cz ao hC hP hS bO dR;obtain⟨gpl,gcl,gfin,ghs,gdi⟩:=g;simp only at*;unfold zbt at eF;have k1:w.cell? ⟨T,1,none⟩=some (.int .i64 gcl):=Md1;have k4:w.cell? ⟨T,4,none⟩=some (.slice H ghs.length aV):=Md1;obtain⟨own,ae⟩: ∃own,own=zag ghs fr:=⟨_,rfl⟩
  have gn:=zHi (fun W (hB:Below w.heap.size w W)=>zew ghs H aV T fr W ((hB.cell (p:=⟨T,4,none⟩) cV).trans k4) (Nat.lt_of_lt_of_le cV hB.size) Mcn ei.o.good.asc (Ro.sl zao (qL.o.keep hB)));have Iv:=eF;rw[<-ae]at gn iU iB kZ da;have jH:=gq.o;clear gq;simp only[<-ae,numZ]at jH;have gq:=zHi jH;clear jH;have dJ:=zHi ae;clear ae;unfold zaB at gn;unfold Deed.v;simp only;go_enter Tryz.func139,Tryz.ntmps139
  go_upto_region 11 with(first
   |(go_at_call 64;refine(kI.o _ Bw).mono ?_;rintro e wq ⟨rfl,z,rfl⟩)
   |(go_at_call 95;refine(gn.o _ Bw).mono ?_;rintro e wq ⟨rfl,z2,rfl⟩)
   |(go_at_call 193;refine(ug.o _ Bw).mono ?_;intro e wq hq;rcases Ret.bools hq with⟨zq,rfl,⟨hb,rfl⟩|⟨hb,rfl⟩⟩<;>clear hq))
  all_goals(try(go_ret;exact zbP HW.o Bw (by rw[gq.o];simp[*];done)))
  have HG:Hid (zbo s ⟨kd,dy,pl,fr,ts,cl,yr⟩=if(zcw ghs fr (zap ts)).2 then(s,8)else(s.withGrave i ⟨gpl,gcl,gfin,(zcw ghs fr (zap ts)).1,gdi⟩,0)):=by
   show _=_;rw[gq.o];simp[*];done
  clear gq kI ug gn;go_cut [5,6,7]from 8 (fun v5 v6 v7 wc=>v5= .pointer (some ⟨T,0,none⟩)/\ ∃O R,v6= .pointer (some ⟨O,0,none⟩)/\v7= .pointer (some ⟨R,0,none⟩)/\Below w.heap.size w wc/\w.heap.size<O/\O<R/\R<wc.heap.size/\wc.heap[w.heap.size]?=some (.cells #[.int .i64 kd, .int .i64 dy, .string pl, .string fr, .slice B ts.length c, .int .i64 cl, .int .i64 yr] 52)/\wc.heap[O]?=some (zbr own)/\wc.heap[R]?=some (zbr (zeH (ts.take 0))))
  case first=>
   go_wp2_with fail
   go_meet
   refine⟨rfl,_,_,rfl,rfl,Bw,by omega,?_,?_,?_,?_,?_⟩
   ·exact Ma8
   ·exact Ma8
   ·exact Mbt
   ·exact Mbn
   ·rw[rest_none];exact zar _ _ _ MdG
  case rest=>
   obtain⟨rfl,O,R,rfl,rfl,hB,hO,hR,Ck,g0,g1,g2⟩:=hcut;obtain⟨d0,d1,d2,d3,d4,d5,d6⟩:=cF7 g0;have D4:=zHi d4;clear d0 d1 d2 d5 d6;go_wp2_with fail
   go_loopw [45] (fun i wr=> ∃k:Nat,k<=ts.length/\i= .int .i64 k/\Below w.heap.size w wr/\R<wr.heap.size/\wr.heap[w.heap.size]?=some (.cells #[.int .i64 kd, .int .i64 dy, .string pl, .string fr, .slice B ts.length c, .int .i64 cl, .int .i64 yr] 52)/\wr.heap[O]?=some (zbr own)/\wr.heap[R]?=some (zbr (zeH (ts.take k)))) (fun i _=>ts.length-(intOf i).toNat)
   case atStart=>exact⟨0,Nat.zero_le _,rfl,hB,Ck,g0,g1,g2⟩
   case round=>
    clear hB Ck g0 g1 g2 d3 d4;obtain⟨k,hk,rfl,hB,Ck,g0,g1,g2⟩:=hrel;have dK:=ziB jg.o k;have aj:=znT (fun p hp=>(jg.o p hp).1) (l:=ts) k;have aP:zaI (zeH (ts.take k)):=dK.small (by unfold zeH;have:=pe.o;grind) (by unfold zeH;grind);have uZ:=zHi aP;clear dK aj aP;by_cases aa:k<ts.length
    ·obtain⟨b',off,rfl,cJ,hc⟩:=(HS.o.keep hB).at aa;have gJ:=(jg.o ts[k] (List.getElem_mem aa)).2.2;have l7:=zl0 ts aa;generalize ts[k]=p at*;obtain⟨pn,pu,pd⟩:=p;generalize zeH (ts.take k)=q at*;have h0:wr.cell? ⟨b',off+k*3,none⟩=some (.string pn):=hc 0 _ rfl;have h1:wr.cell? ⟨b',off+k*3+1,none⟩=some (.int .i64 pu):=hc 1 _ rfl;have h2:wr.cell? ⟨b',off+k*3+2,none⟩=some (.int .i64 pd):=hc 2 _ rfl;have kQ:=zHi l7;have BE:=zHi (fun W=>subS_any q pu pd W uZ.o gJ);have r0:wr.cell? ⟨R,0,none⟩=some (.int .i64 q.num):=by simp only[World.cell?,g2,zbr];rfl
     have r1:wr.cell? ⟨R,1,none⟩=some (.int .i64 q.den):=by simp only[World.cell?,g2,zbr];rfl
     have r2:wr.frozen? ⟨R,0,none⟩=false:=by simp only[World.frozen?,g2,zbr];rfl
     have r3:wr.frozen? ⟨R,1,none⟩=false:=by simp only[World.frozen?,g2,zbr];rfl
     have ar:(k:Int)<(ts.length:Int):=Mcn;have aT:(0:Int)<=(k:Int):=Mcn;have fH:(k:Int)<=(c:Int):=Mcn;have Ci:R≠wr.heap.size:=Mcn;have hOR:O≠R:=Mcn;have hwR:w.heap.size≠R:=Mcn;have G0:=zHi g0;have G1:=zHi g1;have G2:=zHi g2;clear hc gJ l7 g0 g1 g2;go_wp2_with (go_at_call 148;refine(BE.o _).mono ?_;rintro e wq ⟨rfl,z,rfl⟩;simp only[zaB])
     go_round
     case rel=>
      have g0:=G0.o;have g1:=G1.o;refine⟨k+1,by omega,by go_num,?_,by simp[zae];omega,by repeat(first|assumption|with_reducible refine zal ?_|with_reducible refine zb2 ?_|with_reducible refine J_ne Mcn ?_),by repeat(first|assumption|with_reducible refine zal ?_|with_reducible refine zb2 ?_|with_reducible refine J_ne Mcn ?_),?_⟩
      ·exact Bw
      ·rw[kQ.o];(repeat(first|with_reducible refine zal ?_|with_reducible refine zb2 ?_))
       exact zer G2.o
     case measure=>simp[intOf];omega
    ·have ar: ¬(k:Int)<(ts.length:Int):=Mcn;rw[List.take_of_length_le Mcn]at g2;obtain⟨W1,rfl⟩: ∃x,x=wr:=⟨_,rfl⟩
     have t1:=(hB.block T cV).trans eF.o;obtain⟨m0,m1,m2,m3,m4,m5⟩:=cF6 t1;have Jz:T<W1.heap.size:=zab t1;have Jt:T≠W1.heap.size:=Mcn;have Cp:T≠W1.heap.size+1:=Mcn;have G0:=zHi g0;have G1:=zHi g1;have G2:=zHi g2;have IB:=zHi t1;have cd:=zHi (fun W (hW:Below W1.heap.size W1 W)=>zeF ghs H ghs.length aV W rfl Mcn (Ro.sl zao ((qL.o.keep hB).keep hW)));clear g0 g1 g2 t1;go_upto_region 19 with fail
     go_cut [11]from 12 (fun v wc2=>v= .pointer (some ⟨W1.heap.size+1,0,none⟩)/\ ∃hv,MarkAt wc2 W1.heap.size false/\zbt wc2 (W1.heap.size+1) gpl gcl frm gfin hv (.slice D gdi.length dc)/\OwnS wc2 (W1.heap.size+1) 75 3 zaa hv ghs/\Below W1.heap.size W1 wc2)
     case first=>
      go_wp2_with (go_at_call 108
                   refine(cd.o _ Bw).mono ?_;rintro e wq ⟨hv,rfl,o1,o2⟩;obtain⟨A1,c1,sH,_,_⟩:=o1.sl zao;subst sH;have x1:wq.heap[W1.heap.size+1]?=some (.cells #[.string gpl, .int .i64 gcl, .int .i64 frm, .int .i64 gfin, .slice H ghs.length aV, .slice D gdi.length dc] 121):=(o2.block _ Mcq).trans (zar _ _ _ Mcq);have x2:MarkAt wq W1.heap.size false:=(o2.block _ Mcr).trans (zal (zar _ _ _ rfl));have x3:=zab x1;have x4:wq.frozen? ⟨W1.heap.size+1,4,none⟩=false:=(by simp only[World.frozen?,x1];rfl)
                   have x5:wq.cell? ⟨W1.heap.size+1,4,none⟩=some (.slice H ghs.length aV):=(by simp only[World.cell?,x1];rfl)
                   have X1:=zHi x1;have X2:=zHi x2;have O1:=zHi o1;have O2:=zHi o2
                   clear x1 x2 o1 o2)
      go_meet
      have bn:Below W1.heap.size W1 wq:=Below.trans (zad (zad (Below.refl _ _) _) _ Mcq) (O2.o.mono Mcr);refine⟨rfl,_,J_ne Mcn X2.o,zg0 (show zbt wq _ gpl gcl frm gfin (.slice H ghs.length aV) (.slice D gdi.length dc) from X1.o) _,?_,zaM bn Mcq _⟩;refine OwnS.base_le (OwnS.grown O1.o (zaz _ _ _ _) (.inr fun e=> ?_)) Mcq;have:=(O1.o.ge _ e).1;simp at this;omega
     case rest=>
      obtain⟨rfl,hv,hm,cv,ez,bB⟩:=hcut;have bp:=bB.size;have bv:=zab cv;have e3:wc.cell? ⟨w.heap.size,3,none⟩=some (.string fr):=(zah bB Mcn).trans Md5;have e4:wc.cell? ⟨w.heap.size,4,none⟩=some (.slice B ts.length c):=(zah bB Mcn).trans Md5;have o0:wc.cell? ⟨O,0,none⟩=some (.int .i64 own.num):=(zah bB Mcn).trans Mdk;have o1:wc.cell? ⟨O,1,none⟩=some (.int .i64 own.den):=(zah bB Mcn).trans Mdk;have bR:ts.take k=ts:=List.take_of_length_le Mcn;rw[bR]at uZ;generalize hq:zeH ts=q at*;have r0:wc.cell? ⟨R,0,none⟩=some (.int .i64 q.num):=(zah bB Mcn).trans (by simp only[World.cell?,G2.o,zbr];rfl);have r1:wc.cell? ⟨R,1,none⟩=some (.int .i64 q.den):=(zah bB Mcn).trans (by simp only[World.cell?,G2.o,zbr];rfl);have HQ:=zHi hq;have HM:=zHi hm;have fq:=zHi cv;have dV:=zHi ez;have aB:=zHi bB;clear hq hm cv ez bR m0 m1 m2 m3 m4 m5 cd;go_wp2_with fail
      go_region_held3 (fun w'=>w'.cell? ⟨w.heap.size,3,none⟩=some (.string fr)/\w'.cell? ⟨O,0,none⟩=some (.int .i64 own.num)/\w'.cell? ⟨O,1,none⟩=some (.int .i64 own.den)/\w'.cell? ⟨R,0,none⟩=some (.int .i64 q.num)/\w'.cell? ⟨R,1,none⟩=some (.int .i64 q.den))
       ((refine⟨?_,?_,?_,?_,?_⟩<;>first|assumption|(simp[go_sem,e3,o0,o1,r0,r1];done)))
       (first
         |(go_at_call 196
           go_loud(refine(zhM W1.heap.size false _ HM.o.drew own q iB uZ.o).mono ?_)
           rintro e wq ⟨rfl,m1,m2⟩;have p3:wq.cell? ⟨w.heap.size,3,none⟩=some (.string fr):=(by rw[zbb m2 Mcr Mcn];simpa[go_sem]using e3)
           have p0:wq.cell? ⟨O,0,none⟩=some (.int .i64 own.num):=(by rw[zbb m2 Mcr Mcn];simpa[go_sem]using o0)
           have p1:wq.cell? ⟨O,1,none⟩=some (.int .i64 own.den):=(by rw[zbb m2 Mcr Mcn];simpa[go_sem]using o1)
           have q0:wq.cell? ⟨R,0,none⟩=some (.int .i64 q.num):=(by rw[zbb m2 Mcr Mcn];simpa[go_sem]using r0)
           have q1:wq.cell? ⟨R,1,none⟩=some (.int .i64 q.den):=(by rw[zbb m2 Mcr Mcn];simpa[go_sem]using r1)
           have M1:=zHi m1;have M2:=zHi m2
           clear m1 m2)
         |(go_at_call 195
           refine(ziy (W1.heap.size+1) (W1.heap.size+1) ghs hv gpl gcl frm gfin (.slice D gdi.length dc) fr (zbg (own*q)) _ ?q1 (Nat.le_refl _) ?q2 ei.o.good.asc Mcn).mono ?_
           case q1=>exact(M2.o.block _ Mcr Mcq).trans fq.o
           case q2=>exact OwnS.grown (W:=wc.drew) dV.o M2.o (.inr fun e=>by have:=(dV.o.ge _ e).1;omega)
           rintro e wz ⟨rfl,v',t1,t2,t3,_⟩;have s3:wz.cell? ⟨w.heap.size,3,none⟩=some (.string fr):=(zah t3 Mcn).trans p3;have s0:wz.cell? ⟨O,0,none⟩=some (.int .i64 own.num):=(zah t3 Mcn).trans p0;have s1:wz.cell? ⟨O,1,none⟩=some (.int .i64 own.den):=(zah t3 Mcn).trans p1;have u0:wz.cell? ⟨R,0,none⟩=some (.int .i64 q.num):=(zah t3 Mcn).trans q0;have u1:wz.cell? ⟨R,1,none⟩=some (.int .i64 q.den):=(zah t3 Mcn).trans q1;have T1:=zHi t1;have T2:=zHi t2;have T3:=zHi t3
           clear t1 t2 t3))
      have M:=zHi (show MarkAt wz W1.heap.size (bigQ (own*q)) by have:=M1.o.keep T3.o Mcn;simpa using this);have s4:wz.cell? ⟨w.heap.size,4,none⟩=some (.slice B ts.length c):=(zah T3.o Mcn).trans ((zbb M2.o Mcr Mcn).trans (by simpa[go_sem]using e4));have E4:=zHi (Below.trans (zaS (zaH aB.o) M2.o (Nat.le_refl _)) (T3.o.mono Mcn));have pK:=zit (n:=fr) (q:=zbg (own*q)) (l:=ghs);have p8:=zHi pK;clear M1 M2 T3 fq dV HM aB e3 e4 o0 o1 r0 r1 p3 p0 p1 q0 q1 s3 s0 s1 u0 u1 pK;go_wp2_with fail
      go_loopw [72] (fun i wr=> ∃(k:Nat) (v:Value) (out:Parts) (fl:Bool),k<=ts.length/\i= .int .i64 k/\Hid ((out,fl)=zei own (zap (ts.take k)) (setP ghs fr (zbg (own*q)),bigQ (own*q)))/\Hid (out.length<=ghs.length+1+k)/\MarkAt wr W1.heap.size fl/\zbt wr (W1.heap.size+1) gpl gcl frm gfin v (.slice D gdi.length dc)/\OwnS wr (W1.heap.size+1) 75 3 zaa v out/\Below W1.heap.size W1 wr/\W1.heap.size+1<wr.heap.size) (fun i _=>ts.length-(intOf i).toNat)
      case atStart=>exact⟨0,v',_,_,Nat.zero_le _,rfl,rfl,p8.o,M.o,T1.o,T2.o,E4.o,zab T1.o⟩
      case round=>
       clear p8 M T1 T2 E4 s4 bp bv;obtain⟨k2,v,out,fl,pH,rfl,HX,eE,hm,cv,ez,gT,aP⟩:=hrel;obtain⟨A1,c1,rfl,ri,tF⟩:=ez.sl zao;have aZ:Below w.heap.size w wr:=hB.trans (gT.mono Mcn);have dg:Bd out 1:=by have:=da.o k2;rw[<-HX.o]at this;exact this
       have HD:=zHi dg;have HM:=zHi hm;have fq:=zHi cv;have dV:=zHi ez;have Ij:=zHi ri;have sO:=zHi gT;have yA:wr.cell? ⟨W1.heap.size+1,4,none⟩=some (.slice A1 out.length c1):=Mda;clear hm cv ez ri dg;by_cases bE:k2<ts.length
       ·obtain⟨b',off,rfl,cJ,hc⟩:=(HS.o.keep aZ).at bE;obtain⟨iX,jZ,gJ⟩:=jg.o ts[k2] (List.getElem_mem bE);have aK:=gain_snoc own ts (setP ghs fr (zbg (own*q)),bigQ (own*q)) bE;rw[<-HX.o]at aK;generalize ts[k2]=p at*;obtain⟨pn,pu,pd⟩:=p;obtain⟨_,_,sr0,sr1⟩:=zbj gJ;have i0:wr.cell? ⟨b',off+k2*3,none⟩=some (.string pn):=hc 0 _ rfl;have i1:wr.cell? ⟨b',off+k2*3+1,none⟩=some (.int .i64 pu):=hc 1 _ rfl;have i2:wr.cell? ⟨b',off+k2*3+2,none⟩=some (.int .i64 pd):=hc 2 _ rfl;have o0:wr.cell? ⟨O,0,none⟩=some (.int .i64 own.num):=(zah sO.o Mcn).trans Mdk;have o1:wr.cell? ⟨O,1,none⟩=some (.int .i64 own.den):=(zah sO.o Mcn).trans Mdk;have wU:zaI (zbg (own*Rat.divInt pu pd)):=zcc (zcv (Rat.mul_nonneg iU sr0)) (Rat.le_trans (zhc (Rat.mul_nonneg iU sr0)) (zjJ iU kZ sr0 sr1)) (zgt _);have dE:=zHi aK;have qx:=zHi wU;have ar:(k2:Int)<(ts.length:Int):=Mcn;have aT:(0:Int)<=(k2:Int):=Mcn;have fH:(k2:Int)<=(c:Int):=Mcn;have Fj:O≠wr.heap.size:=Mcn;have vM:O<wr.heap.size:=Mcn;have tP:out.length<=90000:=by have:=eE.o;omega
        clear hc aK wU iX jZ sr0 sr1
        go_wp2_with (go_at_call 196
                     refine(mulS_any W1.heap.size fl _ (HM.o.alloc _) own pu pd iB gJ).mono ?_;rintro e wq ⟨rfl,m1,m2⟩;have jL:=m2.size;have y0:wq.heap[wr.heap.size]?=some (.cells #[.string pn, .int .i64 pu, .int .i64 pd] 75):=(m2.block _ Mcq Mcr).trans (zar _ _ _ rfl);have y1:wq.cell? ⟨wr.heap.size,0,none⟩=some (.string pn):=(by simp only[World.cell?,y0];rfl)
                     have y3:wr.heap.size<wq.heap.size:=zab y0;have M1:=zHi m1;have M2:=zHi m2;clear m1 m2 y0
                     simp only[zaB])
        have vK:OwnS wq (W1.heap.size+1) 75 3 zaa (.slice A1 out.length c1) out:=OwnS.grown (W:=wr.alloc _) (dV.o.keep (n:=wr.heap.size) (zad (Below.refl _ _) _)) M2.o (.inr fun e=>by have:=(dV.o.ge _ e).1;omega);have lZ:zbt wq (W1.heap.size+1) gpl gcl frm gfin (.slice A1 out.length c1) (.slice D gdi.length dc):=(M2.o.block _ Mcr Mcq).trans (zal fq.o);have nK:wq.cell? ⟨W1.heap.size+1,4,none⟩=some (.slice A1 out.length c1):=by unfold zbt at lZ;simp only[World.cell?,lZ];rfl
        have bw:W1.heap.size+1<wq.heap.size:=zab lZ;have OQ:=zHi vK;have TQ:=zHi lZ;have mR:zaI (zag out pn):=HD.o.share Rat.le_refl pn;generalize eI:zbg (own*Rat.divInt pu pd)=gt at*;generalize nG:zag out pn=sv at*;have uC:=zHi eI;have gn:=zHi nG;have eQ:=zHi mR;have kE:wr.heap.size≠wq.heap.size:=Mcn;have GF:W1.heap.size+1≠wq.heap.size:=Mcn;clear vK lZ mR eI nG i0 i1 i2 o0 o1;go_region_held3 (fun w'=>w'.cell? ⟨wr.heap.size,0,none⟩=some (.string pn)/\w'.cell? ⟨wq.heap.size,0,none⟩=some (.int .i64 gt.num)/\w'.cell? ⟨wq.heap.size,1,none⟩=some (.int .i64 gt.den))
         ((refine⟨?_,?_,?_⟩<;>first|assumption|(simp[go_sem,y1,y3];done)))
         (first
           |(go_at_call 95
             go_loud(refine(zew out A1 c1 (W1.heap.size+1) pn _ ?q1 ?q2 Mcn HD.o.good.asc (Sl.keep (OQ.o.sl' zao) (n:=wq.heap.size) Bw)).mono ?_)
             case q1=>simp[go_sem,nK,bw]
             case q2=>simp;omega
             rintro e w5 ⟨rfl,zs,rfl⟩;rw[gn.o]
             simp only[zaB])
           |(go_at_call 113
             go_loud(refine(zhN W1.heap.size (fl||bigQ (own*Rat.divInt pu pd)) _ ?q3 sv gt eQ.o qx.o).mono ?_)
             case q3=>(repeat(first|exact M1.o|refine MarkAt.ext ?_ _|refine MarkAt.drew ?_|refine MarkAt.alloc ?_ _))
             rintro e w6 ⟨rfl,n1,n2⟩;have p3:w6.cell? ⟨wr.heap.size,0,none⟩=some (.string pn):=Mdx;have p0:w6.cell? ⟨wq.heap.size,0,none⟩=some (.int .i64 gt.num):=McZ;have p1:w6.cell? ⟨wq.heap.size,1,none⟩=some (.int .i64 gt.den):=McZ;have N1:=zHi n1;have N2:=zHi n2;clear n1 n2
             simp only[zaB])
           |(go_at_call 195
             go_loud(refine(ziy (W1.heap.size+1) (W1.heap.size+1) out (.slice A1 out.length c1) gpl gcl frm gfin (.slice D gdi.length dc) pn (zbg (sv+gt)) _ ?q4 (Nat.le_refl _) ?q5 HD.o.good.asc tP).mono ?_)
             case q4=>exact(N2.o.block _ Mcw Mcq).trans Mdp
             case q5=>exact OwnS.grown (OQ.o.keep (n:=wq.heap.size) Bw) N2.o (.inr fun e=>by have:=(OQ.o.ge _ e).1;omega)
             rintro e wz ⟨rfl,v',t1,t2,t3,t4⟩;have s3:wz.cell? ⟨wr.heap.size,0,none⟩=some (.string pn):=(World.cell?_of_block (w:=w6) (t4 wr.heap.size McV Mcn (fun e=>by have:=(dV.o.ge _ e).2;omega))).trans p3;have s0:wz.cell? ⟨wq.heap.size,0,none⟩=some (.int .i64 gt.num):=(World.cell?_of_block (w:=w6) (t4 wq.heap.size McV Mcn (fun e=>by have:=(dV.o.ge _ e).2;omega))).trans p0;have s1:wz.cell? ⟨wq.heap.size,1,none⟩=some (.int .i64 gt.den):=(World.cell?_of_block (w:=w6) (t4 wq.heap.size McV Mcn (fun e=>by have:=(dV.o.ge _ e).2;omega))).trans p1;have T1:=zHi t1;have T2:=zHi t2;have T3:=zHi t3
             clear t1 t2 t3))
        have AL:Hid (zfh own (pn,Rat.divInt pu pd) (out,fl)=(setP out pn (zbg (sv+gt)),fl||bigQ (own*Rat.divInt pu pd)||bigQ (sv+gt))):=by
         show _=_;unfold zfh;simp only[uC.o,gn.o]
        have cB:MarkAt wz W1.heap.size (fl||bigQ (own*Rat.divInt pu pd)||bigQ (sv+gt)):=N1.o.keep T3.o Mcn;have Bg:=zHi cB;have iA:=zit (n:=pn) (q:=zbg (sv+gt)) (l:=out);have fZ:=zHi iA;have fG:Below W1.heap.size W1 wz:=by
         have h1:Below W1.heap.size W1 wq:=zaS (zad sO.o _) M2.o (Nat.le_refl _);have h2:Below W1.heap.size W1 w6:=zaS (W:=((wq.alloc (.cells #[.int .i64 gt.num, .int .i64 gt.den] 71)).drew).ext zs) Bw N2.o (Nat.le_refl _);exact h2.trans (T3.o.mono Mcn)
        have fF:=zHi fG;have d9:=zab T1.o;clear cB iA fG p3 p0 p1 s3 s0 s1 y1;go_wp2_with fail
        go_round
        case rel=>
         have pE:=AL.o.symm.trans dE.o.symm;have pL:(setP out pn (zbg (sv+gt))).length<=ghs.length+1+(k2+1):=by have:=fZ.o;have:=eE.o;omega
         (repeat apply Exists.intro)
         exact⟨⟨k2+1,v',setP out pn (zbg (sv+gt)),_,by omega,by go_num,pE,pL,Bg.o,T1.o,T2.o,fF.o,d9⟩,rfl⟩
        case measure=>simp[intOf];omega
       ·have ar: ¬(k2:Int)<(ts.length:Int):=Mcn;have nJ:(out,fl)=zcw ghs fr (zap ts):=by
         rw[HX.o,List.take_of_length_le Mcn];unfold zcw;rw[<-dJ.o,show(1:Rat)-sumQ (zap ts)=q from HQ.o]
        have jt:=(aZ.block T cV).trans eF.o;have mW:=zHi jt;have aW:=zHi aZ;have gB:wr.cell? ⟨W1.heap.size,0,none⟩=some (.bool fl):=(zbV HM.o).1;have fN:=HG.o;rw[<-nJ]at fN;clear nJ HX da ei aZ;cases fl
        ·have sW:=zHi fN;have cv:=fq.o;unfold zbt at cv;obtain⟨n0,n1,n2,n3,-,n5⟩:=cF6 cv;obtain⟨z0,z1,z2,z3,z4,z5⟩:=cF6 jt;have fz: ∀j,wr.frozen? ⟨T,j,none⟩=false:=fun j=>by simp only[World.frozen?,jt];rfl
         clear fN cv jt;go_wp2_with fail
         go_ret
         have aZ:=aW.o;have eb:Ro wr 75 zaa A1 out:=dV.o.ro';have hN:TombAt ((((((wr.setCell ⟨T,0,none⟩ (.string gpl)).setCell ⟨T,1,none⟩ (.int .i64 gcl)).setCell ⟨T,2,none⟩ (.int .i64 frm)).setCell ⟨T,3,none⟩ (.int .i64 gfin)).setCell ⟨T,4,none⟩ (.slice A1 out.length c1)).setCell ⟨T,5,none⟩ (.slice D gdi.length dc)) base Bk T ⟨gpl,gcl,gfin,out,gdi⟩:=
          ⟨A1,c1,D,dc,frm,ziA mW.o _ _ _ _ _ _,t2,tF,t4,eb.kept (zcd _ _ _ _ _ _ _ _) mW.o Mcp,(kR.o.keep aZ).kept (zcd _ _ _ _ _ _ _ _) mW.o Mcp,nj.o⟩
         have aj:=zi9 aY (HC.o.keep aZ) (HP.o.keep aZ) (HT.o.keep aZ) qE.o mW.o (zcd wr T _ _ _ _ _ _) hN;have bK:Below base w wr:=aZ.mono Mcn;have js:=zaS bK (zcd wr T (.string gpl) (.int .i64 gcl) (.int .i64 frm) (.int .i64 gfin) (.slice A1 out.length c1) (.slice D gdi.length dc)) t2 Mcn;have ba:zbo s ⟨kd,dy,pl,fr,ts,cl,yr⟩=(s.withGrave i ⟨gpl,gcl,gfin,out,gdi⟩,0):=sW.o.trans (if_neg Mcq);exact MaR
        ·exact MaU
theorem tomb_set3 {W:World} {T:Nat} {pl:ByteArray} {cl fr en:Int} {v dv:Value} {cs3:Int} (h:zbt W T pl cl fr en v dv):zbt (W.setCell ⟨T,3,none⟩ (.int .i64 cs3)) T pl cl fr cs3 v dv:=by
 unfold zbt at*;have:=Joins.block_setCell (i:=3) h (.int .i64 cs3);simpa using this
theorem zmL (base b:Nat) (s:St) (la co last:Int) (d:Deed) (B:Option Addr) (c:Nat) (w:World) (hW:WldAt base w b s la co) (hL:LensIn w) (hd:OkD d) (ag:s.graves.length<=1000) (bL: ∀g∈s.graves,g.fin<=200000):
 Calls Tryz.prog 141 #[.pointer (some ⟨b,0,none⟩),d.v B c] w (zbF base b (zcY s d) la co w):=by
 have dX:=hd.years;clear hd;have ao:=hW;obtain⟨Bk,dd,cc,pp,wl,rr,mv,tv,ps,aY,hC,hP,hT⟩:=hW;have cW:=zab hC;obtain⟨kd,dy,pl,fr,ts,cl,yr⟩:=d;simp only at*;have bF:=zHi (fun W (hB:Below w.heap.size w W)=>zjI base b s la co pl dy W (hC.keep hB) (hT.keep hB) Mcn);have HW:=zHi ao;have HC:=zHi hC;have HP:=zHi hP;cases aL:zaO s pl dy with
 |none=>
  rw[aL]at bF;have HG:Hid (zcY s ⟨kd,dy,pl,fr,ts,cl,yr⟩=(s,6)):=by show _=_;simp[zcY,aL]
  clear aL ao hC hP hT hL;unfold Deed.v;simp only;go_enter Tryz.func141,Tryz.ntmps141
  exact Mae
 |some i=>
  obtain⟨T,g,ia,iC,aN,bP,gV,kw⟩:=zey hT aL;have Ka:=bL g (List.mem_of_getElem? aN);have il: ∀W,Below w.heap.size w W->Calls Tryz.prog 64 #[.pointer (some ⟨b,0,none⟩), .string pl, .int .i64 dy] W (Ret W (.pointer (some ⟨T,0,none⟩))):=fun W hB=>by
   have:=bF.o W hB;exact MaO
  have kI:=zHi il;obtain⟨H,aV,D,dc,frm,t1,t2,t3,t4,t5,t6,t7⟩:=gV;have cV:=zab t1;obtain⟨gpl,gcl,gfin,ghs,gdi⟩:=g;simp only at*;have iZ:zcY s ⟨kd,dy,pl,fr,ts,cl,yr⟩=if decide (gfin<0)then(s,15)else if decide (zcg gfin yr<0)then(s,2)else(s.withGrave i ⟨gpl,gcl,zcg gfin yr,ghs,gdi⟩,0):=by
   unfold zcY;simp only[aL,bP]
  have eF:=zHi t1;have qL:=zHi t5;have kR:=zHi t6;have nj:=zHi t7;have gq:=zHi iZ;have HT:=zHi hT;have qE:=zHi ia;unfold zbt at t1;obtain⟨-,-,-,k3⟩:=cF4 t1;have fz: ∀j,w.frozen? ⟨T,j,none⟩=false:=fun j=>by simp only[World.frozen?,t1];rfl
  have am:=zHi (fun W (hB:Below w.heap.size w W) (h0:0<=gfin)=>zjF gfin yr W (hL.keep hB) h0 Ka dX.1 dX.2);clear il bF t1 t5 t6 t7 iZ hT ia iC bP aN kw aL ao hC hP hL bL;unfold Deed.v;simp only;go_enter Tryz.func141,Tryz.ntmps141
  by_cases oG:gfin<0
  ·go_wp2_with (go_at_call 64;refine(kI.o _ Bw).mono ?_;rintro e wq ⟨rfl,z,rfl⟩)
   go_ret
   exact zbP HW.o Bw (by rw[gq.o];simp[oG])
  ·have cS:0<=gfin:=Mcn;go_upto_region 6 with(go_at_call 64;refine(kI.o _ Bw).mono ?_;rintro e wq ⟨rfl,z,rfl⟩)
   generalize hR:zcg gfin yr=R at*
   (refine zan Mco Mco ?_
    repeat(first|go_big_quiet_skip|(go_big_quiet_want;go_big_quiet_op;first|go_big_quiet_on|(apply Exists.intro;refine⟨fun _=> ?_,?_⟩;(go_at_call 194;exact quietx (am.o _ Bw cS));go_big_quiet_on)))
    refine wpQuiet_nil ?_
    rintro _ ⟨zq,rfl⟩)
   by_cases Ci:R<0
   ·go_wp2_with fail
    go_ret
    exact zbP HW.o Bw (by rw[gq.o];simp[oG,Ci])
   ·go_wp2_with fail
    go_ret
    have ba:zcY s ⟨kd,dy,pl,fr,ts,cl,yr⟩=(s.withGrave i ⟨gpl,gcl,R,ghs,gdi⟩,0):=by rw[gq.o];simp[show¬gfin<0 by omega,show¬R<0 by omega]
    rw[ba];obtain⟨Z,hZ⟩: ∃Z,Z=((w.alloc (.cells #[.int .i64 kd, .int .i64 dy, .string pl, .string fr, .slice B ts.length c, .int .i64 cl, .int .i64 yr] 52)).ext z).ext zq:=⟨_,rfl⟩
    have eV:Below w.heap.size w Z:=by rw[hZ];exact Bw
    have vY:=(eV.block T cV).trans eF.o;have hN:TombAt (Z.setCell ⟨T,3,none⟩ (.int .i64 R)) base Bk T ⟨gpl,gcl,R,ghs,gdi⟩:=⟨H,aV,D,dc,frm,tomb_set3 (show zbt Z T gpl gcl frm gfin _ _ from vY),t2,t3,t4,(qL.o.keep eV).kept (zaz Z T 3 _) vY Mcp,(kR.o.keep eV).kept (zaz Z T 3 _) vY Mcp,nj.o⟩
    have aj:=zi9 aY (HC.o.keep eV) (HP.o.keep eV) (HT.o.keep eV) qE.o vY (zaz Z T 3 (.int .i64 R)) hN;have bK:Below base w (Z.setCell ⟨T,3,none⟩ (.int .i64 R)):=zaM (eV.mono Mcn) t2 _;have hE:Z.setCell ⟨T,3,none⟩ (.int .i64 R)=(((w.setCell ⟨T,3,none⟩ (.int .i64 R)).alloc (.cells #[.int .i64 kd, .int .i64 dy, .string pl, .string fr, .slice B ts.length c, .int .i64 cl, .int .i64 yr] 52)).ext z).ext zq:=by
     rw[hZ,zaj _ _ _ _ _ Mcw,zaj _ _ _ _ _ Mcr,zac _ _ _ _ _ cV]
    have bQ:=(KeepD.below eV).trans (KeepD.cells (zaz Z T 3 (.int .i64 R)) vY Mcp);rw[hE]at aj bK bQ;exact⟨rfl,aj,bK,bQ⟩
end Go.Proofs.YtjhbofabmpfniaaGreatDoor
