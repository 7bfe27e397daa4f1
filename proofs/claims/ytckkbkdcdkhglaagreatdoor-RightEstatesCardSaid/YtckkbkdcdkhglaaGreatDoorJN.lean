/- Walk of chapter 5's renewal; plain part of surrender. -/
import Derived.Test.YtckkbkdcdkhglaaGreatDoorJH
set_option linter.unusedSimpArgs false
set_option linter.unusedVariables false
set_option maxRecDepth 100000
set_option maxHeartbeats 4000000
namespace Go.Proofs.YtckkbkdcdkhglaaGreatDoor
open Go.RowKit Go.Shelf
attribute [local go_sem] World.cell?_alloc_mark zag za5 zaq za8 zaw zax zay zaz za0 za1 za2
attribute [local go_sem] zap zad
theorem OwnS.base_le {α:Type} {W:World} {base base':Nat} {e:TypeId} {size:Nat} {f:α->List Value} {v:Value} {xs:List α} (h:OwnS W base e size f v xs) (hb:base'<=base):OwnS W base' e size f v xs:=by
 rcases h with h|⟨g,o,cap,cur,rfl,h1,h2⟩
 ·exact .inl h
 ·exact .inr ⟨g,o,cap,cur,rfl,Nat.le_trans hb h1,h2⟩
theorem zjJ {a b:Rat} (ha:0<=a) (tF:a<=1) (hb:0<=b) (aZ:b<=1):a*b<=1:=by
 have:=Rat.mul_nonneg ha (show 0<=1-b by grind);grind
theorem OwnS.sl' {α:Type} {W:World} {base:Nat} {e:TypeId} {size n c:Nat} {f:α->List Value} {A:Option Addr} {xs:List α} (ag: ∀x,(f x).length=size) (h:OwnS W base e size f (.slice A n c) xs):Sl W size f A xs:=by
 obtain⟨A2,c2,e,hs,_⟩:=h.sl ag;cases e;exact hs
theorem OwnS.ro' {α:Type} {W:World} {base:Nat} {e:TypeId} {size n c:Nat} {f:α->List Value} {A:Option Addr} {xs:List α} (h:OwnS W base e size f (.slice A n c) xs):Ro W e f A xs:=by
 obtain⟨A2,c2,e,_,hs⟩:=h.ro;cases e;exact hs
theorem Bd.up {out:Parts} {t u:Rat} (h:Bd out t) (hu:t<=u):Bd out u:=⟨h.good,h.small,Rat.le_trans h.le hu⟩
theorem zi7 {g:Grave} {frm:ByteArray} {ts:List RPart} (hG:GoodG g) (h: ∀p∈ts,0<p.rat/\IsN 720720 p.rat/\za6 16 p.num p.den=true) (h1:sumQ (zao ts)<=1):
 0<=zaf g.holders frm/\zaK (zaf g.holders frm)/\zaf g.holders frm<=1/\ ∀k,Bd (zef (zaf g.holders frm) (zao (ts.take k)) (setP g.holders frm (zbi (zaf g.holders frm*zeA ts)),bigQ (zaf g.holders frm*zeA ts))).1 1:=by
 have ho:=zb8 hG.good frm;have bQ:=zdw hG.good frm;have dP:sumQ g.holders<=1:=by
  rcases hG.one with h|h
  ·rw[h];decide
  ·rw[h];exact Rat.le_refl
 have am:=fun k=>znM (fun p hp=>(h p hp).1) (l:=ts) k
 have h0:=(am 0)
 have F9:0<=sumQ (zao ts):=Rat.le_trans h0.1 h0.2;have hr:0<=zaf g.holders frm*zeA ts:=Rat.mul_nonneg ho (by unfold zeA;grind);have hb:Bd (setP g.holders frm (zbi (zaf g.holders frm*zeA ts))) (1-zaf g.holders frm*sumQ (zao ts)):=by
  refine⟨zhI hG.good (zcv hr),zet hG.small (zgq _),?_⟩;rw[zmC hG.good];have:=zha hr;unfold zeA at*;grind
 refine⟨ho,zcb ho McO (zcJ frm hG.small),by grind,fun k=> ?_⟩
 have:=zmD ho (l:=zao (ts.take k)) (f:=bigQ (zaf g.holders frm*zeA ts)) (fun p hp=>by
  obtain⟨q,hq,rfl⟩:=List.mem_map.1 hp;have:=(h q (List.mem_of_mem_take hq)).1;show 0<=q.rat
  grind) hb
 refine this.up ?_;have h3:=Rat.mul_nonneg ho (show 0<=sumQ (zao ts)-sumQ (zao (ts.take k)) by have:=(am k).2;grind);grind
theorem gain_snoc (own:Rat) (ts:List RPart) (x:Parts×Bool) {k:Nat} (h:k<ts.length):zef own (zao (ts.take (k+1))) x=zfd own (ts[k].name,ts[k].rat) (zef own (zao (ts.take k)) x):=by
 rw[List.take_succ_eq_append_getElem h];unfold zao;rw[List.map_append,zfe];rfl
theorem rest_none (ts:List RPart):zeA (ts.take 0)=1:=by
 show(1:Rat)-0=1;grind
def zbt (q:Rat):Obj:= .cells #[.int .i64 q.num, .int .i64 q.den] 58
theorem zl0 (base b:Nat) (s:St) (la co last:Int) (d:Deed) (B:Option Addr) (c:Nat) (w:World) (hW:WldAt base w b s la co) (ji:GoodSt s last) (hd:OkD d) (hk:d.kind=1) (ag:s.graves.length<=1000) (cB: ∀g∈s.graves,g.holders.length<=10000) (ay:d.to.length<=c) (hS:Sl w 3 RPart.cells B d.to):
 Calls Tryz.prog 124 #[.pointer (some ⟨b,0,none⟩),d.v B c] w (zbF base b (zbp s d) la co w):=by
 have hp:=(hd.parts (.inr (.inl hk))).2;obtain⟨bn,dP,_,_⟩:=zdX hp;have bz:=hd.len;clear hp hd hk
 have rm:=fun i g h1 h2 h3=>zlz (s:=s) (d:=d) (i:=i) (g:=g) h1 h2 h3 (fun p hp=>by
  obtain⟨q,hq,rfl⟩:=List.mem_map.1 hp;have:=(bn q hq).1;show 0<=q.rat
  grind) dP
 have ao:=hW;obtain⟨Bk,dd,cc,pp,wl,rr,mv,tv,ps,ba,hC,hP,hT⟩:=hW;have dH:=zab hC;obtain⟨kd,dy,pl,fr,ts,cl,yr⟩:=d;simp only at*;have bE:=zHi (fun W (hB:Below w.heap.size w W)=>zjI base b s la co pl dy W (hC.keep hB) (hT.keep hB) Mcl);have ul:=zHi (fun W (hB:Below w.heap.size w W)=>zit base b s ts B _ c W rfl Mcl (ao.peo.keep hB) (hS.keep hB));have HW:=zHi ao;have dW:=zHi bn;have pf:=zHi dP;have HC:=zHi hC;have HP:=zHi hP;have HS:=zHi hS;cases aO:zaJ s pl dy with
 |none=>
  rw[aO]at bE;have HG:Hid (zbp s ⟨kd,dy,pl,fr,ts,cl,yr⟩=(s,6)):=by show _=_;simp[zbp,aO]
  clear aO rm ao hC hP hT hS bn dP;unfold Deed.v;simp only;go_enter Tryz.func124,Tryz.ntmps124
  exact Mag
 |some i=>
  obtain⟨T,g,ic,iG,aA,bT,gW,ko⟩:=zeu hT aO;have qV:=ji.graves g (List.mem_of_getElem? aA);have rV:=cB g (List.mem_of_getElem? aA);have iY:=rm i g aO bT qV;obtain⟨iV,iF,kY,dp⟩:=zi7 (frm:=fr) qV bn dP;have ip: ∀W,Below w.heap.size w W->Calls Tryz.prog 26 #[.pointer (some ⟨b,0,none⟩), .string pl, .int .i64 dy] W (Ret W (.pointer (some ⟨T,0,none⟩))):=fun W hB=>by
   have:=bE.o W hB;exact MaP
  have kI:=zHi ip;obtain⟨H,aU,D,dc,frm,t1,t2,t3,t4,t5,t6,t7⟩:=gW;have d8:=zab t1;have eI:=zHi t1;have qG:=zHi t5;have kP:=zHi t6;have nj:=zHi t7;have fB:=zHi iY;have dh:=zHi dp;have ej:=zHi qV;have HT:=zHi hT;have qx:=zHi ic;clear ip bE t1 t5 t6 t7 iY dp qV hT ic iG bT aA ko aO rm ji cB ao hC hP hS bn dP;obtain⟨gpl,gcl,gfin,ghs,gdi⟩:=g;simp only at*;unfold zbv at eI;have k1:w.cell? ⟨T,1,none⟩=some (.int .i64 gcl):=MdU;have k4:w.cell? ⟨T,4,none⟩=some (.slice H ghs.length aU):=MdU;obtain⟨own,ae⟩: ∃own,own=zaf ghs fr:=⟨_,rfl⟩
  have gz:=zHi (fun W (hB:Below w.heap.size w W)=>zer ghs H aU T fr W ((hB.cell (p:=⟨T,4,none⟩) d8).trans k4) (Nat.lt_of_lt_of_le d8 hB.size) Mcl ej.o.good.asc (Ro.sl zan (qG.o.keep hB)));have Ij:=eI;rw[<-ae]at gz iV iF kY dh;have jA:=fB.o;clear fB;simp only[<-ae,numZ]at jA;have fB:=zHi jA;clear jA;have eH:=zHi ae;clear ae;unfold za9 at gz;unfold Deed.v;simp only;go_enter Tryz.func124,Tryz.ntmps124
  go_upto_region 11 with(first
   |(go_at_call 26;refine(kI.o _ Bw).mono ?_;rintro e wq ⟨rfl,z,rfl⟩)
   |(go_at_call 160;refine(gz.o _ Bw).mono ?_;rintro e wq ⟨rfl,z2,rfl⟩)
   |(go_at_call 157;refine(ul.o _ Bw).mono ?_;intro e wq hq;rcases Ret.bools hq with⟨zq,rfl,⟨hb,rfl⟩|⟨hb,rfl⟩⟩<;>clear hq))
  all_goals(try(go_ret;exact zbN HW.o Bw (by rw[fB.o];simp[*];done)))
  have HG:Hid (zbp s ⟨kd,dy,pl,fr,ts,cl,yr⟩=if(zcw ghs fr (zao ts)).2 then(s,8)else(s.withGrave i ⟨gpl,gcl,gfin,(zcw ghs fr (zao ts)).1,gdi⟩,0)):=by
   show _=_;rw[fB.o];simp[*];done
  clear fB kI ul gz;go_cut [5,6,7]from 8 (fun v5 v6 v7 wc=>v5= .pointer (some ⟨T,0,none⟩)/\ ∃O R,v6= .pointer (some ⟨O,0,none⟩)/\v7= .pointer (some ⟨R,0,none⟩)/\Below w.heap.size w wc/\w.heap.size<O/\O<R/\R<wc.heap.size/\wc.heap[w.heap.size]?=some (.cells #[.int .i64 kd, .int .i64 dy, .string pl, .string fr, .slice B ts.length c, .int .i64 cl, .int .i64 yr] 68)/\wc.heap[O]?=some (zbt own)/\wc.heap[R]?=some (zbt (zeA (ts.take 0))))
  case first=>
   go_wp2_with fail
   go_meet
   refine⟨rfl,_,_,rfl,rfl,Bw,by omega,?_,?_,?_,?_,?_⟩
   ·exact Ma9
   ·exact Ma9
   ·exact Mbs
   ·exact Mbn
   ·rw[rest_none];exact zar _ _ _ MdB
  case rest=>
   obtain⟨rfl,O,R,rfl,rfl,hB,hO,hR,C6,g0,g1,g2⟩:=hcut;obtain⟨d0,d1,d2,d3,d4,d5,d6⟩:=cF7 g0;have D4:=zHi d4;clear d0 d1 d2 d5 d6;go_wp2_with fail
   go_loopw [45] (fun i wr=> ∃k:Nat,k<=ts.length/\i= .int .i64 k/\Below w.heap.size w wr/\R<wr.heap.size/\wr.heap[w.heap.size]?=some (.cells #[.int .i64 kd, .int .i64 dy, .string pl, .string fr, .slice B ts.length c, .int .i64 cl, .int .i64 yr] 68)/\wr.heap[O]?=some (zbt own)/\wr.heap[R]?=some (zbt (zeA (ts.take k)))) (fun i _=>ts.length-(intOf i).toNat)
   case atStart=>exact⟨0,Nat.zero_le _,rfl,hB,C6,g0,g1,g2⟩
   case round=>
    clear hB C6 g0 g1 g2 d3 d4;obtain⟨k,hk,rfl,hB,C6,g0,g1,g2⟩:=hrel;have dL:=zi6 dW.o k;have am:=znM (fun p hp=>(dW.o p hp).1) (l:=ts) k;have aP:zaK (zeA (ts.take k)):=dL.small (by unfold zeA;have:=pf.o;grind) (by unfold zeA;grind);have vj:=zHi aP;clear dL am aP;by_cases aa:k<ts.length
    ·obtain⟨b',off,rfl,cK,hc⟩:=(HS.o.keep hB).at aa;have gK:=(dW.o ts[k] (List.getElem_mem aa)).2.2;have l7:=zly ts aa;generalize ts[k]=p at*;obtain⟨pn,pu,pd⟩:=p;generalize zeA (ts.take k)=q at*;have h0:wr.cell? ⟨b',off+k*3,none⟩=some (.string pn):=hc 0 _ rfl;have h1:wr.cell? ⟨b',off+k*3+1,none⟩=some (.int .i64 pu):=hc 1 _ rfl;have h2:wr.cell? ⟨b',off+k*3+2,none⟩=some (.int .i64 pd):=hc 2 _ rfl;have pe:=zHi l7;have Bm:=zHi (fun W=>subS_any q pu pd W vj.o gK);have r0:wr.cell? ⟨R,0,none⟩=some (.int .i64 q.num):=by simp only[World.cell?,g2,zbt];rfl
     have r1:wr.cell? ⟨R,1,none⟩=some (.int .i64 q.den):=by simp only[World.cell?,g2,zbt];rfl
     have r2:wr.frozen? ⟨R,0,none⟩=false:=by simp only[World.frozen?,g2,zbt];rfl
     have r3:wr.frozen? ⟨R,1,none⟩=false:=by simp only[World.frozen?,g2,zbt];rfl
     have ar:(k:Int)<(ts.length:Int):=Mcl;have aT:(0:Int)<=(k:Int):=Mcl;have fN:(k:Int)<=(c:Int):=Mcl;have C4:R≠wr.heap.size:=Mcl;have hOR:O≠R:=Mcl;have hwR:w.heap.size≠R:=Mcl;have G0:=zHi g0;have G1:=zHi g1;have G2:=zHi g2;clear hc gK l7 g0 g1 g2;go_wp2_with (go_at_call 70;refine(Bm.o _).mono ?_;rintro e wq ⟨rfl,z,rfl⟩;simp only[za9])
     go_round
     case rel=>
      have g0:=G0.o;have g1:=G1.o;refine⟨k+1,by omega,by go_num,?_,by simp[zag];omega,by repeat(first|assumption|with_reducible refine zak ?_|with_reducible refine zb9 ?_|with_reducible refine J_ne Mcl ?_),by repeat(first|assumption|with_reducible refine zak ?_|with_reducible refine zb9 ?_|with_reducible refine J_ne Mcl ?_),?_⟩
      ·exact Bw
      ·rw[pe.o];(repeat(first|with_reducible refine zak ?_|with_reducible refine zb9 ?_))
       exact zen G2.o
     case measure=>simp[intOf];omega
    ·have ar: ¬(k:Int)<(ts.length:Int):=Mcl;rw[List.take_of_length_le Mcl]at g2;obtain⟨W1,rfl⟩: ∃x,x=wr:=⟨_,rfl⟩
     have t1:=(hB.block T d8).trans eI.o;obtain⟨m0,m1,m2,m3,m4,m5⟩:=cF6 t1;have Ji:T<W1.heap.size:=zab t1;have Jd:T≠W1.heap.size:=Mcl;have Cb:T≠W1.heap.size+1:=Mcl;have G0:=zHi g0;have G1:=zHi g1;have G2:=zHi g2;have Io:=zHi t1;have bU:=zHi (fun W (hW:Below W1.heap.size W1 W)=>ze8 ghs H ghs.length aU W rfl Mcl (Ro.sl zan ((qG.o.keep hB).keep hW)));clear g0 g1 g2 t1;go_upto_region 19 with fail
     go_cut [11]from 12 (fun v wc2=>v= .pointer (some ⟨W1.heap.size+1,0,none⟩)/\ ∃hv,MarkAt wc2 W1.heap.size false/\zbv wc2 (W1.heap.size+1) gpl gcl frm gfin hv (.slice D gdi.length dc)/\OwnS wc2 (W1.heap.size+1) 63 3 zaa hv ghs/\Below W1.heap.size W1 wc2)
     case first=>
      go_wp2_with (go_at_call 161
                   refine(bU.o _ Bw).mono ?_;rintro e wq ⟨hv,rfl,o1,o2⟩;obtain⟨A1,c1,sF,_,_⟩:=o1.sl zan;subst sF;have x1:wq.heap[W1.heap.size+1]?=some (.cells #[.string gpl, .int .i64 gcl, .int .i64 frm, .int .i64 gfin, .slice H ghs.length aU, .slice D gdi.length dc] 75):=(o2.block _ Mco).trans (zar _ _ _ Mco);have x2:MarkAt wq W1.heap.size false:=(o2.block _ Mcq).trans (zak (zar _ _ _ rfl));have x3:=zab x1;have x4:wq.frozen? ⟨W1.heap.size+1,4,none⟩=false:=(by simp only[World.frozen?,x1];rfl)
                   have x5:wq.cell? ⟨W1.heap.size+1,4,none⟩=some (.slice H ghs.length aU):=(by simp only[World.cell?,x1];rfl)
                   have X1:=zHi x1;have X2:=zHi x2;have O1:=zHi o1;have O2:=zHi o2
                   clear x1 x2 o1 o2)
      go_meet
      have bF:Below W1.heap.size W1 wq:=Below.trans (zac (zac (Below.refl _ _) _) _ Mco) (O2.o.mono Mcq);refine⟨rfl,_,J_ne Mcl X2.o,zgn (show zbv wq _ gpl gcl frm gfin (.slice H ghs.length aU) (.slice D gdi.length dc) from X1.o) _,?_,zaO bF Mco _⟩;refine OwnS.base_le (OwnS.grown O1.o (zau _ _ _ _) (.inr fun e=> ?_)) Mco;have:=(O1.o.ge _ e).1;simp at this;omega
     case rest=>
      obtain⟨rfl,hv,hm,cw,eC,bL⟩:=hcut;have br:=bL.size;have bK:=zab cw;have e3:wc.cell? ⟨w.heap.size,3,none⟩=some (.string fr):=(zah bL Mcl).trans MdY;have e4:wc.cell? ⟨w.heap.size,4,none⟩=some (.slice B ts.length c):=(zah bL Mcl).trans MdY;have o0:wc.cell? ⟨O,0,none⟩=some (.int .i64 own.num):=(zah bL Mcl).trans Mdj;have o1:wc.cell? ⟨O,1,none⟩=some (.int .i64 own.den):=(zah bL Mcl).trans Mdj;have bV:ts.take k=ts:=List.take_of_length_le Mcl;rw[bV]at vj;generalize hq:zeA ts=q at*;have r0:wc.cell? ⟨R,0,none⟩=some (.int .i64 q.num):=(zah bL Mcl).trans (by simp only[World.cell?,G2.o,zbt];rfl);have r1:wc.cell? ⟨R,1,none⟩=some (.int .i64 q.den):=(zah bL Mcl).trans (by simp only[World.cell?,G2.o,zbt];rfl);have HQ:=zHi hq;have HM:=zHi hm;have fC:=zHi cw;have dV:=zHi eC;have aS:=zHi bL;clear hq hm cw eC bV m0 m1 m2 m3 m4 m5 bU;go_wp2_with fail
      go_region_held3 (fun w'=>w'.cell? ⟨w.heap.size,3,none⟩=some (.string fr)/\w'.cell? ⟨O,0,none⟩=some (.int .i64 own.num)/\w'.cell? ⟨O,1,none⟩=some (.int .i64 own.den)/\w'.cell? ⟨R,0,none⟩=some (.int .i64 q.num)/\w'.cell? ⟨R,1,none⟩=some (.int .i64 q.den))
       ((refine⟨?_,?_,?_,?_,?_⟩<;>first|assumption|(simp[go_sem,e3,o0,o1,r0,r1];done)))
       (first
         |(go_at_call 108
           go_loud(refine(zhJ W1.heap.size false _ HM.o.drew own q iF vj.o).mono ?_)
           rintro e wq ⟨rfl,m1,m2⟩;have p3:wq.cell? ⟨w.heap.size,3,none⟩=some (.string fr):=(by rw[zbd m2 Mcq Mcl];simpa[go_sem]using e3)
           have p0:wq.cell? ⟨O,0,none⟩=some (.int .i64 own.num):=(by rw[zbd m2 Mcq Mcl];simpa[go_sem]using o0)
           have p1:wq.cell? ⟨O,1,none⟩=some (.int .i64 own.den):=(by rw[zbd m2 Mcq Mcl];simpa[go_sem]using o1)
           have q0:wq.cell? ⟨R,0,none⟩=some (.int .i64 q.num):=(by rw[zbd m2 Mcq Mcl];simpa[go_sem]using r0)
           have q1:wq.cell? ⟨R,1,none⟩=some (.int .i64 q.den):=(by rw[zbd m2 Mcq Mcl];simpa[go_sem]using r1)
           have M1:=zHi m1;have M2:=zHi m2
           clear m1 m2)
         |(go_at_call 159
           refine(zis (W1.heap.size+1) (W1.heap.size+1) ghs hv gpl gcl frm gfin (.slice D gdi.length dc) fr (zbi (own*q)) _ ?q1 (Nat.le_refl _) ?q2 ej.o.good.asc Mcl).mono ?_
           case q1=>exact(M2.o.block _ Mcq Mco).trans fC.o
           case q2=>exact OwnS.grown (W:=wc.drew) dV.o M2.o (.inr fun e=>by have:=(dV.o.ge _ e).1;omega)
           rintro e wz ⟨rfl,v',t1,t2,t3,_⟩;have s3:wz.cell? ⟨w.heap.size,3,none⟩=some (.string fr):=(zah t3 Mcl).trans p3;have s0:wz.cell? ⟨O,0,none⟩=some (.int .i64 own.num):=(zah t3 Mcl).trans p0;have s1:wz.cell? ⟨O,1,none⟩=some (.int .i64 own.den):=(zah t3 Mcl).trans p1;have u0:wz.cell? ⟨R,0,none⟩=some (.int .i64 q.num):=(zah t3 Mcl).trans q0;have u1:wz.cell? ⟨R,1,none⟩=some (.int .i64 q.den):=(zah t3 Mcl).trans q1;have T1:=zHi t1;have T2:=zHi t2;have T3:=zHi t3
           clear t1 t2 t3))
      have M:=zHi (show MarkAt wz W1.heap.size (bigQ (own*q)) by have:=M1.o.keep T3.o Mcl;simpa using this);have s4:wz.cell? ⟨w.heap.size,4,none⟩=some (.slice B ts.length c):=(zah T3.o Mcl).trans ((zbd M2.o Mcq Mcl).trans (by simpa[go_sem]using e4));have DN:=zHi (Below.trans (zaS (zaM aS.o) M2.o (Nat.le_refl _)) (T3.o.mono Mcl));have pI:=ziw (n:=fr) (q:=zbi (own*q)) (l:=ghs);have p8:=zHi pI;clear M1 M2 T3 fC dV HM aS e3 e4 o0 o1 r0 r1 p3 p0 p1 q0 q1 s3 s0 s1 u0 u1 pI;go_wp2_with fail
      go_loopw [72] (fun i wr=> ∃(k:Nat) (v:Value) (out:Parts) (fl:Bool),k<=ts.length/\i= .int .i64 k/\Hid ((out,fl)=zef own (zao (ts.take k)) (setP ghs fr (zbi (own*q)),bigQ (own*q)))/\Hid (out.length<=ghs.length+1+k)/\MarkAt wr W1.heap.size fl/\zbv wr (W1.heap.size+1) gpl gcl frm gfin v (.slice D gdi.length dc)/\OwnS wr (W1.heap.size+1) 63 3 zaa v out/\Below W1.heap.size W1 wr/\W1.heap.size+1<wr.heap.size) (fun i _=>ts.length-(intOf i).toNat)
      case atStart=>exact⟨0,v',_,_,Nat.zero_le _,rfl,rfl,p8.o,M.o,T1.o,T2.o,DN.o,zab T1.o⟩
      case round=>
       clear p8 M T1 T2 DN s4 br bK;obtain⟨k2,v,out,fl,pF,rfl,HX,eG,hm,cw,eC,gV,aP⟩:=hrel;obtain⟨A1,c1,rfl,ra,tG⟩:=eC.sl zan;have bj:Below w.heap.size w wr:=hB.trans (gV.mono Mcl);have dp:Bd out 1:=by have:=dh.o k2;rw[<-HX.o]at this;exact this
       have HD:=zHi dp;have HM:=zHi hm;have fC:=zHi cw;have dV:=zHi eC;have I8:=zHi ra;have sL:=zHi gV;have yy:wr.cell? ⟨W1.heap.size+1,4,none⟩=some (.slice A1 out.length c1):=Mc9;clear hm cw eC ra dp;by_cases bD:k2<ts.length
       ·obtain⟨b',off,rfl,cK,hc⟩:=(HS.o.keep bj).at bD;obtain⟨iX,ib,gK⟩:=dW.o ts[k2] (List.getElem_mem bD);have aM:=gain_snoc own ts (setP ghs fr (zbi (own*q)),bigQ (own*q)) bD;rw[<-HX.o]at aM;generalize ts[k2]=p at*;obtain⟨pn,pu,pd⟩:=p;obtain⟨_,_,sr0,sr1⟩:=zbl gK;have i0:wr.cell? ⟨b',off+k2*3,none⟩=some (.string pn):=hc 0 _ rfl;have i1:wr.cell? ⟨b',off+k2*3+1,none⟩=some (.int .i64 pu):=hc 1 _ rfl;have i2:wr.cell? ⟨b',off+k2*3+2,none⟩=some (.int .i64 pd):=hc 2 _ rfl;have o0:wr.cell? ⟨O,0,none⟩=some (.int .i64 own.num):=(zah sL.o Mcl).trans Mdj;have o1:wr.cell? ⟨O,1,none⟩=some (.int .i64 own.den):=(zah sL.o Mcl).trans Mdj;have wY:zaK (zbi (own*Rat.divInt pu pd)):=zcb (zcv (Rat.mul_nonneg iV sr0)) (Rat.le_trans (zha (Rat.mul_nonneg iV sr0)) (zjJ iV kY sr0 sr1)) (zgq _);have dG:=zHi aM;have qp:=zHi wY;have ar:(k2:Int)<(ts.length:Int):=Mcl;have aT:(0:Int)<=(k2:Int):=Mcl;have fN:(k2:Int)<=(c:Int):=Mcl;have F5:O≠wr.heap.size:=Mcl;have vR:O<wr.heap.size:=Mcl;have tS:out.length<=90000:=by have:=eG.o;omega
        clear hc aM wY iX ib sr0 sr1
        go_wp2_with (go_at_call 108
                     refine(mulS_any W1.heap.size fl _ (HM.o.alloc _) own pu pd iF gK).mono ?_;rintro e wq ⟨rfl,m1,m2⟩;have jE:=m2.size;have y0:wq.heap[wr.heap.size]?=some (.cells #[.string pn, .int .i64 pu, .int .i64 pd] 63):=(m2.block _ Mco Mcq).trans (zar _ _ _ rfl);have y1:wq.cell? ⟨wr.heap.size,0,none⟩=some (.string pn):=(by simp only[World.cell?,y0];rfl)
                     have y3:wr.heap.size<wq.heap.size:=zab y0;have M1:=zHi m1;have M2:=zHi m2;clear m1 m2 y0
                     simp only[za9])
        have vP:OwnS wq (W1.heap.size+1) 63 3 zaa (.slice A1 out.length c1) out:=OwnS.grown (W:=wr.alloc _) (dV.o.keep (n:=wr.heap.size) (zac (Below.refl _ _) _)) M2.o (.inr fun e=>by have:=(dV.o.ge _ e).1;omega);have mf:zbv wq (W1.heap.size+1) gpl gcl frm gfin (.slice A1 out.length c1) (.slice D gdi.length dc):=(M2.o.block _ Mcq Mco).trans (zak fC.o);have DD:wq.cell? ⟨W1.heap.size+1,4,none⟩=some (.slice A1 out.length c1):=by unfold zbv at mf;simp only[World.cell?,mf];rfl
        have bw:W1.heap.size+1<wq.heap.size:=zab mf;have OQ:=zHi vP;have TQ:=zHi mf;have mU:zaK (zaf out pn):=HD.o.share Rat.le_refl pn;generalize eM:zbi (own*Rat.divInt pu pd)=gt at*;generalize nK:zaf out pn=sv at*;have uG:=zHi eM;have gz:=zHi nK;have eV:=zHi mU;have l9:wr.heap.size≠wq.heap.size:=Mcl;have Gs:W1.heap.size+1≠wq.heap.size:=Mcl;clear vP mf mU eM nK i0 i1 i2 o0 o1;go_region_held3 (fun w'=>w'.cell? ⟨wr.heap.size,0,none⟩=some (.string pn)/\w'.cell? ⟨wq.heap.size,0,none⟩=some (.int .i64 gt.num)/\w'.cell? ⟨wq.heap.size,1,none⟩=some (.int .i64 gt.den))
         ((refine⟨?_,?_,?_⟩<;>first|assumption|(simp[go_sem,y1,y3];done)))
         (first
           |(go_at_call 160
             go_loud(refine(zer out A1 c1 (W1.heap.size+1) pn _ ?q1 ?q2 Mcl HD.o.good.asc (Sl.keep (OQ.o.sl' zan) (n:=wq.heap.size) Bw)).mono ?_)
             case q1=>simp[go_sem,DD,bw]
             case q2=>simp;omega
             rintro e w5 ⟨rfl,zs,rfl⟩;rw[gz.o]
             simp only[za9])
           |(go_at_call 105
             go_loud(refine(zhK W1.heap.size (fl||bigQ (own*Rat.divInt pu pd)) _ ?q3 sv gt eV.o qp.o).mono ?_)
             case q3=>(repeat(first|exact M1.o|refine MarkAt.ext ?_ _|refine MarkAt.drew ?_|refine MarkAt.alloc ?_ _))
             rintro e w6 ⟨rfl,n1,n2⟩;have p3:w6.cell? ⟨wr.heap.size,0,none⟩=some (.string pn):=Mdt;have p0:w6.cell? ⟨wq.heap.size,0,none⟩=some (.int .i64 gt.num):=McW;have p1:w6.cell? ⟨wq.heap.size,1,none⟩=some (.int .i64 gt.den):=McW;have N1:=zHi n1;have N2:=zHi n2;clear n1 n2
             simp only[za9])
           |(go_at_call 159
             go_loud(refine(zis (W1.heap.size+1) (W1.heap.size+1) out (.slice A1 out.length c1) gpl gcl frm gfin (.slice D gdi.length dc) pn (zbi (sv+gt)) _ ?q4 (Nat.le_refl _) ?q5 HD.o.good.asc tS).mono ?_)
             case q4=>exact(N2.o.block _ Mcu Mco).trans Mdn
             case q5=>exact OwnS.grown (OQ.o.keep (n:=wq.heap.size) Bw) N2.o (.inr fun e=>by have:=(OQ.o.ge _ e).1;omega)
             rintro e wz ⟨rfl,v',t1,t2,t3,t4⟩;have s3:wz.cell? ⟨wr.heap.size,0,none⟩=some (.string pn):=(World.cell?_of_block (w:=w6) (t4 wr.heap.size McS Mcl (fun e=>by have:=(dV.o.ge _ e).2;omega))).trans p3;have s0:wz.cell? ⟨wq.heap.size,0,none⟩=some (.int .i64 gt.num):=(World.cell?_of_block (w:=w6) (t4 wq.heap.size McS Mcl (fun e=>by have:=(dV.o.ge _ e).2;omega))).trans p0;have s1:wz.cell? ⟨wq.heap.size,1,none⟩=some (.int .i64 gt.den):=(World.cell?_of_block (w:=w6) (t4 wq.heap.size McS Mcl (fun e=>by have:=(dV.o.ge _ e).2;omega))).trans p1;have T1:=zHi t1;have T2:=zHi t2;have T3:=zHi t3
             clear t1 t2 t3))
        have Az:Hid (zfd own (pn,Rat.divInt pu pd) (out,fl)=(setP out pn (zbi (sv+gt)),fl||bigQ (own*Rat.divInt pu pd)||bigQ (sv+gt))):=by
         show _=_;unfold zfd;simp only[uG.o,gz.o]
        have cD:MarkAt wz W1.heap.size (fl||bigQ (own*Rat.divInt pu pd)||bigQ (sv+gt)):=N1.o.keep T3.o Mcl;have AV:=zHi cD;have iE:=ziw (n:=pn) (q:=zbi (sv+gt)) (l:=out);have gu:=zHi iE;have eL:Below W1.heap.size W1 wz:=by
         have h1:Below W1.heap.size W1 wq:=zaS (zac sL.o _) M2.o (Nat.le_refl _);have h2:Below W1.heap.size W1 w6:=zaS (W:=((wq.alloc (.cells #[.int .i64 gt.num, .int .i64 gt.den] 58)).drew).ext zs) Bw N2.o (Nat.le_refl _);exact h2.trans (T3.o.mono Mcl)
        have dR:=zHi eL;have fx:=zab T1.o;clear cD iE eL p3 p0 p1 s3 s0 s1 y1;go_wp2_with fail
        go_round
        case rel=>
         have pC:=Az.o.symm.trans dG.o.symm;have pJ:(setP out pn (zbi (sv+gt))).length<=ghs.length+1+(k2+1):=by have:=gu.o;have:=eG.o;omega
         (repeat apply Exists.intro)
         exact⟨⟨k2+1,v',setP out pn (zbi (sv+gt)),_,by omega,by go_num,pC,pJ,AV.o,T1.o,T2.o,dR.o,fx⟩,rfl⟩
        case measure=>simp[intOf];omega
       ·have ar: ¬(k2:Int)<(ts.length:Int):=Mcl;have nN:(out,fl)=zcw ghs fr (zao ts):=by
         rw[HX.o,List.take_of_length_le Mcl];unfold zcw;rw[<-eH.o,show(1:Rat)-sumQ (zao ts)=q from HQ.o]
        have jo:=(bj.block T d8).trans eI.o;have mX:=zHi jo;have aW:=zHi bj;have iP:wr.cell? ⟨W1.heap.size,0,none⟩=some (.bool fl):=(zbT HM.o).1;have gT:=HG.o;rw[<-nN]at gT;clear nN HX dh ej bj;cases fl
        ·have sU:=zHi gT;have cw:=fC.o;unfold zbv at cw;obtain⟨n0,n1,n2,n3,-,n5⟩:=cF6 cw;obtain⟨z0,z1,z2,z3,z4,z5⟩:=cF6 jo;have fz: ∀j,wr.frozen? ⟨T,j,none⟩=false:=fun j=>by simp only[World.frozen?,jo];rfl
         clear gT cw jo;go_wp2_with fail
         go_ret
         have bj:=aW.o;have ee:Ro wr 63 zaa A1 out:=dV.o.ro';have hN:TombAt ((((((wr.setCell ⟨T,0,none⟩ (.string gpl)).setCell ⟨T,1,none⟩ (.int .i64 gcl)).setCell ⟨T,2,none⟩ (.int .i64 frm)).setCell ⟨T,3,none⟩ (.int .i64 gfin)).setCell ⟨T,4,none⟩ (.slice A1 out.length c1)).setCell ⟨T,5,none⟩ (.slice D gdi.length dc)) base Bk T ⟨gpl,gcl,gfin,out,gdi⟩:=
          ⟨A1,c1,D,dc,frm,zi5 mX.o _ _ _ _ _ _,t2,tG,t4,ee.kept (zcc _ _ _ _ _ _ _ _) mX.o Mcn,(kP.o.keep bj).kept (zcc _ _ _ _ _ _ _ _) mX.o Mcn,nj.o⟩
         have am:=zi4 ba (HC.o.keep bj) (HP.o.keep bj) (HT.o.keep bj) qx.o mX.o (zcc wr T _ _ _ _ _ _) hN;have bf:Below base w wr:=bj.mono Mcl;have jn:=zaS bf (zcc wr T (.string gpl) (.int .i64 gcl) (.int .i64 frm) (.int .i64 gfin) (.slice A1 out.length c1) (.slice D gdi.length dc)) t2 Mcl;have b9:zbp s ⟨kd,dy,pl,fr,ts,cl,yr⟩=(s.withGrave i ⟨gpl,gcl,gfin,out,gdi⟩,0):=sU.o.trans (if_neg Mco);exact MaS
        ·exact MaV
theorem tomb_set3 {W:World} {T:Nat} {pl:ByteArray} {cl fr en:Int} {v dv:Value} {cs3:Int} (h:zbv W T pl cl fr en v dv):zbv (W.setCell ⟨T,3,none⟩ (.int .i64 cs3)) T pl cl fr cs3 v dv:=by
 unfold zbv at*;have:=Joins.block_setCell (i:=3) h (.int .i64 cs3);simpa using this
theorem zmH (base b:Nat) (s:St) (la co last:Int) (d:Deed) (B:Option Addr) (c:Nat) (w:World) (hW:WldAt base w b s la co) (hL:LensIn w) (hd:OkD d) (ag:s.graves.length<=1000) (bN: ∀g∈s.graves,g.fin<=200000):
 Calls Tryz.prog 126 #[.pointer (some ⟨b,0,none⟩),d.v B c] w (zbF base b (zcX s d) la co w):=by
 have dY:=hd.years;clear hd;have ao:=hW;obtain⟨Bk,dd,cc,pp,wl,rr,mv,tv,ps,ba,hC,hP,hT⟩:=hW;have dH:=zab hC;obtain⟨kd,dy,pl,fr,ts,cl,yr⟩:=d;simp only at*;have bE:=zHi (fun W (hB:Below w.heap.size w W)=>zjI base b s la co pl dy W (hC.keep hB) (hT.keep hB) Mcl);have HW:=zHi ao;have HC:=zHi hC;have HP:=zHi hP;cases aO:zaJ s pl dy with
 |none=>
  rw[aO]at bE;have HG:Hid (zcX s ⟨kd,dy,pl,fr,ts,cl,yr⟩=(s,6)):=by show _=_;simp[zcX,aO]
  clear aO ao hC hP hT hL;unfold Deed.v;simp only;go_enter Tryz.func126,Tryz.ntmps126
  exact Mag
 |some i=>
  obtain⟨T,g,ic,iG,aA,bT,gW,ko⟩:=zeu hT aO;have JM:=bN g (List.mem_of_getElem? aA);have ip: ∀W,Below w.heap.size w W->Calls Tryz.prog 26 #[.pointer (some ⟨b,0,none⟩), .string pl, .int .i64 dy] W (Ret W (.pointer (some ⟨T,0,none⟩))):=fun W hB=>by
   have:=bE.o W hB;exact MaP
  have kI:=zHi ip;obtain⟨H,aU,D,dc,frm,t1,t2,t3,t4,t5,t6,t7⟩:=gW;have d8:=zab t1;obtain⟨gpl,gcl,gfin,ghs,gdi⟩:=g;simp only at*;have iY:zcX s ⟨kd,dy,pl,fr,ts,cl,yr⟩=if decide (gfin<0)then(s,15)else if decide (zci gfin yr<0)then(s,2)else(s.withGrave i ⟨gpl,gcl,zci gfin yr,ghs,gdi⟩,0):=by
   unfold zcX;simp only[aO,bT]
  have eI:=zHi t1;have qG:=zHi t5;have kP:=zHi t6;have nj:=zHi t7;have fB:=zHi iY;have HT:=zHi hT;have qx:=zHi ic;unfold zbv at t1;obtain⟨-,-,-,k3⟩:=cF4 t1;have fz: ∀j,w.frozen? ⟨T,j,none⟩=false:=fun j=>by simp only[World.frozen?,t1];rfl
  have aq:=zHi (fun W (hB:Below w.heap.size w W) (h0:0<=gfin)=>zjG gfin yr W (hL.keep hB) h0 JM dY.1 dY.2);clear ip bE t1 t5 t6 t7 iY hT ic iG bT aA ko aO ao hC hP hL bN;unfold Deed.v;simp only;go_enter Tryz.func126,Tryz.ntmps126
  by_cases oI:gfin<0
  ·go_wp2_with (go_at_call 26;refine(kI.o _ Bw).mono ?_;rintro e wq ⟨rfl,z,rfl⟩)
   go_ret
   exact zbN HW.o Bw (by rw[fB.o];simp[oI])
  ·have cU:0<=gfin:=Mcl;go_upto_region 6 with(go_at_call 26;refine(kI.o _ Bw).mono ?_;rintro e wq ⟨rfl,z,rfl⟩)
   generalize hR:zci gfin yr=R at*
   (refine zaj Mcm Mcm ?_
    repeat(first|go_big_quiet_skip|(go_big_quiet_want;go_big_quiet_op;first|go_big_quiet_on|(apply Exists.intro;refine⟨fun _=> ?_,?_⟩;(go_at_call 158;exact quietx (aq.o _ Bw cU));go_big_quiet_on)))
    refine wpQuiet_nil ?_
    rintro _ ⟨zq,rfl⟩)
   by_cases C4:R<0
   ·go_wp2_with fail
    go_ret
    exact zbN HW.o Bw (by rw[fB.o];simp[oI,C4])
   ·go_wp2_with fail
    go_ret
    have b9:zcX s ⟨kd,dy,pl,fr,ts,cl,yr⟩=(s.withGrave i ⟨gpl,gcl,R,ghs,gdi⟩,0):=by rw[fB.o];simp[show¬gfin<0 by omega,show¬R<0 by omega]
    rw[b9];obtain⟨Z,hZ⟩: ∃Z,Z=((w.alloc (.cells #[.int .i64 kd, .int .i64 dy, .string pl, .string fr, .slice B ts.length c, .int .i64 cl, .int .i64 yr] 68)).ext z).ext zq:=⟨_,rfl⟩
    have io:Below w.heap.size w Z:=by rw[hZ];exact Bw
    have wf:=(io.block T d8).trans eI.o;have hN:TombAt (Z.setCell ⟨T,3,none⟩ (.int .i64 R)) base Bk T ⟨gpl,gcl,R,ghs,gdi⟩:=⟨H,aU,D,dc,frm,tomb_set3 (show zbv Z T gpl gcl frm gfin _ _ from wf),t2,t3,t4,(qG.o.keep io).kept (zau Z T 3 _) wf Mcn,(kP.o.keep io).kept (zau Z T 3 _) wf Mcn,nj.o⟩
    have am:=zi4 ba (HC.o.keep io) (HP.o.keep io) (HT.o.keep io) qx.o wf (zau Z T 3 (.int .i64 R)) hN;have bf:Below base w (Z.setCell ⟨T,3,none⟩ (.int .i64 R)):=zaO (io.mono Mcl) t2 _;have hE:Z.setCell ⟨T,3,none⟩ (.int .i64 R)=(((w.setCell ⟨T,3,none⟩ (.int .i64 R)).alloc (.cells #[.int .i64 kd, .int .i64 dy, .string pl, .string fr, .slice B ts.length c, .int .i64 cl, .int .i64 yr] 68)).ext z).ext zq:=by
     rw[hZ,zap _ _ _ _ _ Mcu,zap _ _ _ _ _ Mcq,zad _ _ _ _ _ d8]
    have cf:=(KeepD.below io).trans (KeepD.cells (zau Z T 3 (.int .i64 R)) wf Mcn);rw[hE]at am bf cf;exact⟨rfl,am,bf,cf⟩
end Go.Proofs.YtckkbkdcdkhglaaGreatDoor
