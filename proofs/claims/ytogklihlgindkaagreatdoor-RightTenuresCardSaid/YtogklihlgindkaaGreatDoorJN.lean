import Derived.Test.YtogklihlgindkaaGreatDoorJH
set_option linter.all false
set_option maxRecDepth 100000
set_option maxHeartbeats 4000000
namespace Go.Proofs.YtogklihlgindkaaGreatDoor
open Go.RowKit Go.Shelf
attribute [local go_sem] World.cell?_alloc_mark zaf za3 zam za6 zat zau zav zaw zax zay zaz
attribute [local go_sem] zao zac
variable{α:Type}{W:World}{base:Nat}{e:TypeId}{size:Nat}{f:α->List Value}{v:Value}{xs:List α}
def OwnS.base_le{base':Nat}(h:OwnS W base e size f v xs)(hb:base'<=base):OwnS W base' e size f v xs:=by
 rcases h with h|⟨g,o,cap,cur,rfl,h1,h2⟩
 ·exact .inl h
 ·exact .inr ⟨g,o,cap,cur,rfl,Nat.le_trans hb h1,h2⟩
def zjU{a b:Rat}(ha:0<=a)(oW:a<=1)(hb:0<=b)(aW:b<=1):a*b<=1:=by
 have:=Rat.mul_nonneg ha (show 0<=1-b by grind);grind
variable{n c:Nat}{A:Option Addr}
def OwnS.sl'(ag:∀x,(f x).length=size)(h:OwnS W base e size f (.slice A n c) xs):Sl W size f A xs:=by
 obtain⟨A2,c2,e,hs,_⟩:=h.sl ag;cases e;exact hs
def OwnS.ro'(h:OwnS W base e size f (.slice A n c) xs):Ro W e f A xs:=by
 obtain⟨A2,c2,e,_,hs⟩:=h.ro;cases e;exact hs
def Bd.up{out:Parts}{t u:Rat}(h:Bd out t)(hu:t<=u):Bd out u:=⟨h.good,h.small,Rat.le_trans h.le hu⟩
def ziH{g:Grave}{frm:ByteArray}{ts:List RPart}(hG:GoodG g)(h:∀p∈ts,0<p.rat/\IsN 720720 p.rat/\za8 16 p.num p.den=true)(h1:sumQ (zaq ts)<=1):
 0<=zah g.holders frm/\zaJ (zah g.holders frm)/\zah g.holders frm<=1/\∀k,Bd (zei (zah g.holders frm) (zaq (ts.take k)) (setP g.holders frm (zbi (zah g.holders frm*zeF ts)),bigQ (zah g.holders frm*zeF ts))).1 1:=by
 have ho:=zbA hG.good frm;have bG:=zdz hG.good frm;have dS:sumQ g.holders<=1:=by
  rcases hG.one with h|h
  ·rw[h];decide
  ·rw[h];exact Rat.le_refl
 have aq:=λk=>zot (λp hp=>(h p hp).1) (l:=ts) k
 have h0:=(aq 0)
 have Gz:0<=sumQ (zaq ts):=Rat.le_trans h0.1 h0.2;have hr:0<=zah g.holders frm*zeF ts:=Rat.mul_nonneg ho (by unfold zeF;grind);have hb:Bd (setP g.holders frm (zbi (zah g.holders frm*zeF ts))) (1-zah g.holders frm*sumQ (zaq ts)):=by
  refine⟨zhN hG.good (zcw hr),zeu hG.small (zgn _),?_⟩;rw[zmT hG.good];have:=zhe hr;unfold zeF at*;grind
 refine⟨ho,zca ho Mdl (zcN frm hG.small),by grind,λk=>?_⟩
 have:=zmU ho (l:=zaq (ts.take k)) (f:=bigQ (zah g.holders frm*zeF ts)) (λp hp=>by
  obtain⟨q,hq,rfl⟩:=List.mem_map.1 hp;have:=(h q (List.mem_of_mem_take hq)).1;show 0<=q.rat
  grind) hb
 refine this.up ?_;have h3:=Rat.mul_nonneg ho (show 0<=sumQ (zaq ts)-sumQ (zaq (ts.take k)) by have:=(aq k).2;grind);grind
def gain_snoc(own:Rat)(ts:List RPart)(x:Parts×Bool){k:Nat}(h:k<ts.length):zei own (zaq (ts.take (k+1))) x=zfe own (ts[k].name,ts[k].rat) (zei own (zaq (ts.take k)) x):=by
 rw[List.take_succ_eq_append_getElem h];unfold zaq;rw[List.map_append,zff];rfl
def rest_none(ts:List RPart):zeF (ts.take 0)=1:=by
 show(1:Rat)-0=1;grind
def zbs(q:Rat):Obj:=.cells #[.int .i64 q.num,.int .i64 q.den] 50
def zlD(base b:Nat)(s:St)(la co last:Int)(d:Deed)(B:Option Addr)(c:Nat)(w:World)(hW:WldAt base w b s la co)(jC:GoodSt s last)(hd:OkD d)(hk:d.kind=1)(ag:s.graves.length<=1000)(bQ:∀g∈s.graves,g.holders.length<=10000)(aA:d.to.length<=c)(hS:Sl w 3 RPart.cells B d.to):
 Calls Tryz.prog 78 #[.pointer (some ⟨b,0,none⟩),d.v B c] w (zbG base b (zbo s d) la co w):=by
 have hp:=(hd.parts (.inr (.inl hk))).2;obtain⟨bS,dS,_,_⟩:=zea hp;have bA:=hd.len;clear hp hd hk
 have se:=λi g h1 h2 h3=>zlC (s:=s) (d:=d) (i:=i) (g:=g) h1 h2 h3 (λp hp=>by
  obtain⟨q,hq,rfl⟩:=List.mem_map.1 hp;have:=(bS q hq).1;show 0<=q.rat
  grind) dS
 have am:=hW;obtain⟨Bk,dd,cc,pp,wl,rr,mv,tv,ps,ba,hC,hP,hT⟩:=hW;have cI:=zab hC;obtain⟨kd,dy,pl,fr,ts,cl,yr⟩:=d;simp only at*;obtain⟨bI,uU,HW,jv,fG,HC,HP,HS⟩:=yH8 (λW (hB:Qa w W)=>ziB base b s la co pl dy W (hC.keep hB) (hT.keep hB) McS) (λW (hB:Qa w W)=>zi5 base b s ts B _ c W rfl McS (am.peo.keep hB) (hS.keep hB)) am bS dS hC hP hS;cases aP:zaL s pl dy with
 |none=>
  rw[aP]at bI;have HG:Hid (zbo s ⟨kd,dy,pl,fr,ts,cl,yr⟩=(s,6)):=by show _=_;simp[zbo,aP]
  clear aP se am hC hP hT hS bS dS;unfold Deed.v;simp only;go_enter Tryz.func78,Tryz.ntmps78
  exact Maj
 |some i=>
  obtain⟨T,g,gB,iy,aH,bB,gA,kO⟩:=zdI hT aP;have rU:=jC.graves g (List.mem_of_getElem? aH);have ng:=bQ g (List.mem_of_getElem? aH);have gC:=se i g aP bB rU;obtain⟨ji,iT,lR,dA⟩:=ziH (frm:=fr) rU bS dS;have iG:∀W,Qa w W->Calls Tryz.prog 23 #[.pointer (some ⟨b,0,none⟩),.string pl,.int .i64 dy] W (Ret W (.pointer (some ⟨T,0,none⟩))):=λW hB=>by
   exact McK
  have l7:=zHi iG;obtain⟨H,aE,D,dc,frm,t1,t2,t3,t4,t5,t6,t7⟩:=gA;have cz:=zab t1;obtain⟨eN,oN,lA,nS,dW,dp,ez,HT⟩:=yH8 t1 t5 t6 t7 gC dA rU hT;have ru:=zHi gB;clear iG bI t1 t5 t6 t7 gC dA rU hT gB iy bB aH kO aP se jC bQ am hC hP hS bS dS;obtain⟨gpl,gcl,gfin,ghs,gdi⟩:=g;simp only at*;unfold zbt at eN;have k1:w.cell? ⟨T,1,none⟩=some (.int .i64 gcl):=Mep;have k4:w.cell? ⟨T,4,none⟩=some (.slice H ghs.length aE):=Mep;obtain⟨own,aa⟩:=Qd (zah ghs fr)
  have gT:=zHi (λW (hB:Qa w W)=>zev ghs H aE T fr W ((hB.cell (p:=⟨T,4,none⟩) cz).trans k4) (Nat.lt_of_lt_of_le cz hB.size) McS ez.o.good.asc (Ro.sl zak (oN.o.keep hB)));have JA:=eN;rw[<-aa]at gT ji iT lR dp;have jR:=dW.o;clear dW;simp only[<-aa,numZ]at jR;have dW:=zHi jR;clear jR;have cR:=zHi aa;clear aa;unfold zaA at gT;unfold Deed.v;simp only;go_enter Tryz.func78,Tryz.ntmps78
  go_upto_region 11 with(first
   |(go_at_call 23;refine(l7.o _ Bw).mono ?_;rintro e wq ⟨rfl,z,rfl⟩)
   |(go_at_call 110;refine(gT.o _ Bw).mono ?_;rintro e wq ⟨rfl,z2,rfl⟩)
   |(go_at_call 107;refine(uU.o _ Bw).mono ?_;intro e wq hq;rcases Ret.bools hq with⟨zq,rfl,⟨hb,rfl⟩|⟨hb,rfl⟩⟩<;>clear hq))
  all_goals(try(go_ret;exact zbN HW.o Bw (by rw[dW.o];simp[*];done)))
  have HG:Hid (zbo s ⟨kd,dy,pl,fr,ts,cl,yr⟩=if(zcx ghs fr (zaq ts)).2 then(s,8)else(s.withGrave i ⟨gpl,gcl,gfin,(zcx ghs fr (zaq ts)).1,gdi⟩,0)):=by
   show _=_;rw[dW.o];simp[*];done
  clear dW l7 uU gT;go_cut [5,6,7]from 8 (λv5 v6 v7 wc=>v5=.pointer (some ⟨T,0,none⟩)/\∃O R,v6=.pointer (some ⟨O,0,none⟩)/\v7=.pointer (some ⟨R,0,none⟩)/\Qa w wc/\w.heap.size<O/\O<R/\R<wc.heap.size/\wc.heap[w.heap.size]?=some (.cells #[.int .i64 kd,.int .i64 dy,.string pl,.string fr,.slice B ts.length c,.int .i64 cl,.int .i64 yr] 60)/\wc.heap[O]?=some (zbs own)/\wc.heap[R]?=some (zbs (zeF (ts.take 0))))
  case first=>
   go_wp2_with fail
   go_meet
   refine⟨rfl,_,_,rfl,rfl,Bw,by omega,?_,?_,?_,?_,?_⟩
   ·exact Mbr
   ·exact Mbr
   ·exact MbP
   ·exact MbI
   ·rw[rest_none];exact zas _ _ _ Md8
  case rest=>
   obtain⟨rfl,O,R,rfl,rfl,hB,hO,hR,D8,g0,g1,g2⟩:=hcut;obtain⟨d0,d1,d2,d3,d4,d5,d6⟩:=cF7 g0;have D4:=zHi d4;clear d0 d1 d2 d5 d6;go_wp2_with fail
   go_loopw [45] (λi wr=>∃k:Nat,k<=ts.length/\i=.int .i64 k/\Qa w wr/\R<wr.heap.size/\wr.heap[w.heap.size]?=some (.cells #[.int .i64 kd,.int .i64 dy,.string pl,.string fr,.slice B ts.length c,.int .i64 cl,.int .i64 yr] 60)/\wr.heap[O]?=some (zbs own)/\wr.heap[R]?=some (zbs (zeF (ts.take k)))) (λi _=>ts.length-(intOf i).toNat)
   case atStart=>exact⟨0,Nat.zero_le _,rfl,hB,D8,g0,g1,g2⟩
   case round=>
    clear hB D8 g0 g1 g2 d3 d4;obtain⟨k,hk,rfl,hB,D8,g0,g1,g2⟩:=hrel;have cE:=ziG jv.o k;have aq:=zot (λp hp=>(jv.o p hp).1) (l:=ts) k;have aZ:zaJ (zeF (ts.take k)):=cE.small (by unfold zeF;have:=fG.o;grind) (by unfold zeF;grind);have Ch:=zHi aZ;clear cE aq aZ;by_cases ae:k<ts.length
    ·obtain⟨b',off,rfl,cA,hc⟩:=(HS.o.keep hB).at ae;have ie:=(jv.o ts[k] (List.getElem_mem ae)).2.2;have lT:=zlB ts ae;generalize ts[k]=p at*;obtain⟨pn,pu,pd⟩:=p;generalize zeF (ts.take k)=q at*;have h0:wr.cell? ⟨b',off+k*3,none⟩=some (.string pn):=hc 0 _ rfl;have h1:wr.cell? ⟨b',off+k*3+1,none⟩=some (.int .i64 pu):=hc 1 _ rfl;have h2:wr.cell? ⟨b',off+k*3+2,none⟩=some (.int .i64 pd):=hc 2 _ rfl;obtain⟨pW,Cn⟩:=yH2 lT (λW=>subS_any q pu pd W Ch.o ie);have r0:wr.cell? ⟨R,0,none⟩=some (.int .i64 q.num):=by simp only[World.cell?,g2,zbs];rfl
     have r1:wr.cell? ⟨R,1,none⟩=some (.int .i64 q.den):=by simp only[World.cell?,g2,zbs];rfl
     have r2:wr.frozen? ⟨R,0,none⟩=false:=by simp only[World.frozen?,g2,zbs];rfl
     have r3:wr.frozen? ⟨R,1,none⟩=false:=by simp only[World.frozen?,g2,zbs];rfl
     have au:(k:Int)<(ts.length:Int):=McS;have aR:(0:Int)<=(k:Int):=McS;have fZ:(k:Int)<=(c:Int):=McS;have CZ:R≠wr.heap.size:=McS;have hOR:O≠R:=McS;have hwR:w.heap.size≠R:=McS;obtain⟨G0,G1,G2⟩:=yH3 g0 g1 g2;clear hc ie lT g0 g1 g2;go_wp2_with (go_at_call 111;refine(Cn.o _).mono ?_;rintro e wq ⟨rfl,z,rfl⟩;simp only[zaA])
     go_round
     case rel=>
      have g0:=G0.o;have g1:=G1.o;refine⟨k+1,by omega,by go_num,?_,by simp[zaf];omega,by repeat(first|assumption|with_reducible refine zal ?_|with_reducible refine zbF ?_|with_reducible refine J_ne McS ?_),by repeat(first|assumption|with_reducible refine zal ?_|with_reducible refine zbF ?_|with_reducible refine J_ne McS ?_),?_⟩
      ·exact Bw
      ·rw[pW.o];(repeat(first|with_reducible refine zal ?_|with_reducible refine zbF ?_))
       exact zer G2.o
     case measure=>simp[intOf];omega
    ·have au:¬(k:Int)<(ts.length:Int):=McS;rw[List.take_of_length_le McS]at g2;obtain⟨W1,rfl⟩:∃x,x=wr:=⟨_,rfl⟩
     have t1:=(hB.block T cz).trans eN.o;obtain⟨m0,m1,m2,m3,m4,m5⟩:=cF6 t1;have KD:T<W1.heap.size:=zab t1;have Ky:T≠W1.heap.size:=McS;have De:T≠W1.heap.size+1:=McS;obtain⟨G0,G1,G2,JE⟩:=yH4 g0 g1 g2 t1;have cQ:=zHi (λW (hW:Qa W1 W)=>zeD ghs H ghs.length aE W rfl McS (Ro.sl zak ((oN.o.keep hB).keep hW)));clear g0 g1 g2 t1;go_upto_region 19 with fail
     go_cut [11]from 12 (λv wc2=>v=.pointer (some ⟨W1.heap.size+1,0,none⟩)/\∃hv,MarkAt wc2 W1.heap.size false/\zbt wc2 (W1.heap.size+1) gpl gcl frm gfin hv (.slice D gdi.length dc)/\OwnS wc2 (W1.heap.size+1) 55 3 zaa hv ghs/\Qa W1 wc2)
     case first=>
      go_wp2_with (go_at_call 112
                   refine(cQ.o _ Bw).mono ?_;rintro e wq ⟨hv,rfl,o1,o2⟩;obtain⟨A1,c1,tD,_,_⟩:=o1.sl zak;subst tD;have x1:wq.heap[W1.heap.size+1]?=some (.cells #[.string gpl,.int .i64 gcl,.int .i64 frm,.int .i64 gfin,.slice H ghs.length aE,.slice D gdi.length dc] 78):=(o2.block _ McV).trans (zas _ _ _ McV);have x2:MarkAt wq W1.heap.size false:=(o2.block _ McX).trans (zal (zas _ _ _ rfl));have x3:=zab x1;have x4:wq.frozen? ⟨W1.heap.size+1,4,none⟩=false:=(by simp only[World.frozen?,x1];rfl)
                   have x5:wq.cell? ⟨W1.heap.size+1,4,none⟩=some (.slice H ghs.length aE):=(by simp only[World.cell?,x1];rfl)
                   obtain⟨X1,X2,O1,O2⟩:=yH4 x1 x2 o1 o2
                   clear x1 x2 o1 o2)
      go_meet
      have bM:Qa W1 wq:=Below.trans (zad (zad Qb _) _ McV) (O2.o.mono McX);refine⟨rfl,_,J_ne McS X2.o,zgq (show zbt wq _ gpl gcl frm gfin (.slice H ghs.length aE) (.slice D gdi.length dc) from X1.o) _,?_,zaS bM McV _⟩;refine OwnS.base_le (OwnS.grown O1.o (za1 _ _ _ _) (.inr λe=>?_)) McV;have:=(O1.o.ge _ e).1;simp at this;omega
     case rest=>
      obtain⟨rfl,hv,hm,cy,eF,bV⟩:=hcut;have bi:=bV.size;have bx:=zab cy;have e3:wc.cell? ⟨w.heap.size,3,none⟩=some (.string fr):=(zai bV McS).trans Met;have e4:wc.cell? ⟨w.heap.size,4,none⟩=some (.slice B ts.length c):=(zai bV McS).trans Met;have o0:wc.cell? ⟨O,0,none⟩=some (.int .i64 own.num):=(zai bV McS).trans MdN;have o1:wc.cell? ⟨O,1,none⟩=some (.int .i64 own.den):=(zai bV McS).trans MdN;have cf:ts.take k=ts:=List.take_of_length_le McS;rw[cf]at Ch;generalize hq:zeF ts=q at*;have r0:wc.cell? ⟨R,0,none⟩=some (.int .i64 q.num):=(zai bV McS).trans (by simp only[World.cell?,G2.o,zbs];rfl);have r1:wc.cell? ⟨R,1,none⟩=some (.int .i64 q.den):=(zai bV McS).trans (by simp only[World.cell?,G2.o,zbs];rfl);obtain⟨HQ,HM,fH,dV,aN⟩:=yH5 hq hm cy eF bV;clear hq hm cy eF cf m0 m1 m2 m3 m4 m5 cQ;go_wp2_with fail
      go_region_held3 (λw'=>w'.cell? ⟨w.heap.size,3,none⟩=some (.string fr)/\w'.cell? ⟨O,0,none⟩=some (.int .i64 own.num)/\w'.cell? ⟨O,1,none⟩=some (.int .i64 own.den)/\w'.cell? ⟨R,0,none⟩=some (.int .i64 q.num)/\w'.cell? ⟨R,1,none⟩=some (.int .i64 q.den))
       ((refine⟨?_,?_,?_,?_,?_⟩<;>first|assumption|(simp[go_sem,e3,o0,o1,r0,r1];done)))
       (first
         |(go_at_call 113
           go_loud(refine(zhR W1.heap.size false _ HM.o.drew own q iT Ch.o).mono ?_)
           rintro e wq ⟨rfl,m1,m2⟩;have p3:wq.cell? ⟨w.heap.size,3,none⟩=some (.string fr):=(by rw[zbd m2 McX McS];simpa[go_sem]using e3)
           have p0:wq.cell? ⟨O,0,none⟩=some (.int .i64 own.num):=(by rw[zbd m2 McX McS];simpa[go_sem]using o0)
           have p1:wq.cell? ⟨O,1,none⟩=some (.int .i64 own.den):=(by rw[zbd m2 McX McS];simpa[go_sem]using o1)
           have q0:wq.cell? ⟨R,0,none⟩=some (.int .i64 q.num):=(by rw[zbd m2 McX McS];simpa[go_sem]using r0)
           have q1:wq.cell? ⟨R,1,none⟩=some (.int .i64 q.den):=(by rw[zbd m2 McX McS];simpa[go_sem]using r1)
           obtain⟨M1,M2⟩:=yH2 m1 m2
           clear m1 m2)
         |(go_at_call 109
           refine(zi4 (W1.heap.size+1) (W1.heap.size+1) ghs hv gpl gcl frm gfin (.slice D gdi.length dc) fr (zbi (own*q)) _ ?q1 Qc ?q2 ez.o.good.asc McS).mono ?_
           case q1=>exact(M2.o.block _ McX McV).trans fH.o
           case q2=>exact OwnS.grown (W:=wc.drew) dV.o M2.o (.inr λe=>by have:=(dV.o.ge _ e).1;omega)
           rintro e wz ⟨rfl,v',t1,t2,t3,_⟩;have s3:wz.cell? ⟨w.heap.size,3,none⟩=some (.string fr):=(zai t3 McS).trans p3;have s0:wz.cell? ⟨O,0,none⟩=some (.int .i64 own.num):=(zai t3 McS).trans p0;have s1:wz.cell? ⟨O,1,none⟩=some (.int .i64 own.den):=(zai t3 McS).trans p1;have u0:wz.cell? ⟨R,0,none⟩=some (.int .i64 q.num):=(zai t3 McS).trans q0;have u1:wz.cell? ⟨R,1,none⟩=some (.int .i64 q.den):=(zai t3 McS).trans q1;obtain⟨T1,T2,T3⟩:=yH3 t1 t2 t3
           clear t1 t2 t3))
      have M:=zHi (show MarkAt wz W1.heap.size (bigQ (own*q)) by have:=M1.o.keep T3.o McS;simpa using this);have s4:wz.cell? ⟨w.heap.size,4,none⟩=some (.slice B ts.length c):=(zai T3.o McS).trans ((zbd M2.o McX McS).trans (by simpa[go_sem]using e4));have F8:=zHi (Below.trans (zaV (zaF aN.o) M2.o Qc) (T3.o.mono McS));have qp:=zi0 (n:=fr) (q:=zbi (own*q)) (l:=ghs);have pT:=zHi qp;clear M1 M2 T3 fH dV HM aN e3 e4 o0 o1 r0 r1 p3 p0 p1 q0 q1 s3 s0 s1 u0 u1 qp;go_wp2_with fail
      go_loopw [72] (λi wr=>∃(k:Nat) (v:Value) (out:Parts) (fl:Bool),k<=ts.length/\i=.int .i64 k/\Hid ((out,fl)=zei own (zaq (ts.take k)) (setP ghs fr (zbi (own*q)),bigQ (own*q)))/\Hid (out.length<=ghs.length+1+k)/\MarkAt wr W1.heap.size fl/\zbt wr (W1.heap.size+1) gpl gcl frm gfin v (.slice D gdi.length dc)/\OwnS wr (W1.heap.size+1) 55 3 zaa v out/\Qa W1 wr/\W1.heap.size+1<wr.heap.size) (λi _=>ts.length-(intOf i).toNat)
      case atStart=>exact⟨0,v',_,_,Nat.zero_le _,rfl,rfl,pT.o,M.o,T1.o,T2.o,F8.o,zab T1.o⟩
      case round=>
       clear pT M T1 T2 F8 s4 bi bx;obtain⟨k2,v,out,fl,ol,rfl,HX,cG,hm,cy,eF,il,aZ⟩:=hrel;obtain⟨A1,c1,rfl,rZ,uu⟩:=eF.sl zak;have bn:Qa w wr:=hB.trans (il.mono McS);have dA:Bd out 1:=by have:=dp.o k2;rw[<-HX.o]at this;exact this
       obtain⟨HD,HM,fH,dV,Jn,tL⟩:=yH6 dA hm cy eF rZ il;have pK:wr.cell? ⟨W1.heap.size+1,4,none⟩=some (.slice A1 out.length c1):=MdD;clear hm cy eF rZ dA;by_cases bu:k2<ts.length
       ·obtain⟨b',off,rfl,cA,hc⟩:=(HS.o.keep bn).at bu;obtain⟨jl,ei,ie⟩:=jv.o ts[k2] (List.getElem_mem bu);have aI:=gain_snoc own ts (setP ghs fr (zbi (own*q)),bigQ (own*q)) bu;rw[<-HX.o]at aI;generalize ts[k2]=p at*;obtain⟨pn,pu,pd⟩:=p;obtain⟨_,_,sr0,sr1⟩:=zbl ie;have i0:wr.cell? ⟨b',off+k2*3,none⟩=some (.string pn):=hc 0 _ rfl;have i1:wr.cell? ⟨b',off+k2*3+1,none⟩=some (.int .i64 pu):=hc 1 _ rfl;have i2:wr.cell? ⟨b',off+k2*3+2,none⟩=some (.int .i64 pd):=hc 2 _ rfl;have o0:wr.cell? ⟨O,0,none⟩=some (.int .i64 own.num):=(zai tL.o McS).trans MdN;have o1:wr.cell? ⟨O,1,none⟩=some (.int .i64 own.den):=(zai tL.o McS).trans MdN;have xJ:zaJ (zbi (own*Rat.divInt pu pd)):=zca (zcw (Rat.mul_nonneg ji sr0)) (Rat.le_trans (zhe (Rat.mul_nonneg ji sr0)) (zjU ji lR sr0 sr1)) (zgn _);obtain⟨dq,rg⟩:=yH2 aI xJ;have au:(k2:Int)<(ts.length:Int):=McS;have aR:(0:Int)<=(k2:Int):=McS;have fZ:(k2:Int)<=(c:Int):=McS;have hOn:O≠wr.heap.size:=McS;have wL:O<wr.heap.size:=McS;have pk:out.length<=90000:=Meu;clear hc aI xJ jl ei sr0 sr1
        go_wp2_with (go_at_call 113
                     refine(mulS_any W1.heap.size fl _ (HM.o.alloc _) own pu pd iT ie).mono ?_;rintro e wq ⟨rfl,m1,m2⟩;have jV:=m2.size;have y0:wq.heap[wr.heap.size]?=some (.cells #[.string pn,.int .i64 pu,.int .i64 pd] 55):=(m2.block _ McV McX).trans (zas _ _ _ rfl);have y1:wq.cell? ⟨wr.heap.size,0,none⟩=some (.string pn):=(by simp only[World.cell?,y0];rfl)
                     have y3:wr.heap.size<wq.heap.size:=zab y0;obtain⟨M1,M2⟩:=yH2 m1 m2;clear m1 m2 y0
                     simp only[zaA])
        have wJ:OwnS wq (W1.heap.size+1) 55 3 zaa (.slice A1 out.length c1) out:=OwnS.grown (W:=wr.alloc _) (dV.o.keep (n:=wr.heap.size) (zad Qb _)) M2.o (.inr λe=>by have:=(dV.o.ge _ e).1;omega);have mN:zbt wq (W1.heap.size+1) gpl gcl frm gfin (.slice A1 out.length c1) (.slice D gdi.length dc):=(M2.o.block _ McX McV).trans (zal fH.o);have F0:wq.cell? ⟨W1.heap.size+1,4,none⟩=some (.slice A1 out.length c1):=by unfold zbt at mN;simp only[World.cell?,mN];rfl
        have br:W1.heap.size+1<wq.heap.size:=zab mN;obtain⟨OQ,TQ⟩:=yH2 wJ mN;have nJ:zaJ (zah out pn):=HD.o.share Rat.le_refl pn;generalize eQ:zbi (own*Rat.divInt pu pd)=gt at*;generalize ou:zah out pn=sv at*;obtain⟨vv,gT,eZ⟩:=yH3 eQ ou nJ;have lV:wr.heap.size≠wq.heap.size:=McS;have Ir:W1.heap.size+1≠wq.heap.size:=McS;clear wJ mN nJ eQ ou i0 i1 i2 o0 o1;go_region_held3 (λw'=>w'.cell? ⟨wr.heap.size,0,none⟩=some (.string pn)/\w'.cell? ⟨wq.heap.size,0,none⟩=some (.int .i64 gt.num)/\w'.cell? ⟨wq.heap.size,1,none⟩=some (.int .i64 gt.den))
         ((refine⟨?_,?_,?_⟩<;>first|assumption|(simp[go_sem,y1,y3];done)))
         (first
           |(go_at_call 110
             go_loud(refine(zev out A1 c1 (W1.heap.size+1) pn _ ?q1 ?q2 McS HD.o.good.asc (Sl.keep (OQ.o.sl' zak) (n:=wq.heap.size) Bw)).mono ?_)
             case q1=>simp[go_sem,F0,br]
             case q2=>simp;omega
             rintro e w5 ⟨rfl,zs,rfl⟩;rw[gT.o]
             simp only[zaA])
           |(go_at_call 114
             go_loud(refine(zhS W1.heap.size (fl||bigQ (own*Rat.divInt pu pd)) _ ?q3 sv gt eZ.o rg.o).mono ?_)
             case q3=>(repeat(first|exact M1.o|refine MarkAt.ext ?_ _|refine MarkAt.drew ?_|refine MarkAt.alloc ?_ _))
             rintro e w6 ⟨rfl,n1,n2⟩;have p3:w6.cell? ⟨wr.heap.size,0,none⟩=some (.string pn):=Md0;have p0:w6.cell? ⟨wq.heap.size,0,none⟩=some (.int .i64 gt.num):=Mdt;have p1:w6.cell? ⟨wq.heap.size,1,none⟩=some (.int .i64 gt.den):=Mdt;obtain⟨N1,N2⟩:=yH2 n1 n2;clear n1 n2
             simp only[zaA])
           |(go_at_call 109
             go_loud(refine(zi4 (W1.heap.size+1) (W1.heap.size+1) out (.slice A1 out.length c1) gpl gcl frm gfin (.slice D gdi.length dc) pn (zbi (sv+gt)) _ ?q4 Qc ?q5 HD.o.good.asc pk).mono ?_)
             case q4=>exact(N2.o.block _ Mc1 McV).trans MdR
             case q5=>exact OwnS.grown (OQ.o.keep (n:=wq.heap.size) Bw) N2.o (.inr λe=>by have:=(OQ.o.ge _ e).1;omega)
             rintro e wz ⟨rfl,v',t1,t2,t3,t4⟩;have s3:wz.cell? ⟨wr.heap.size,0,none⟩=some (.string pn):=(World.cell?_of_block (w:=w6) (t4 wr.heap.size Mdq McS (λe=>by have:=(dV.o.ge _ e).2;omega))).trans p3;have s0:wz.cell? ⟨wq.heap.size,0,none⟩=some (.int .i64 gt.num):=(World.cell?_of_block (w:=w6) (t4 wq.heap.size Mdq McS (λe=>by have:=(dV.o.ge _ e).2;omega))).trans p0;have s1:wz.cell? ⟨wq.heap.size,1,none⟩=some (.int .i64 gt.den):=(World.cell?_of_block (w:=w6) (t4 wq.heap.size Mdq McS (λe=>by have:=(dV.o.ge _ e).2;omega))).trans p1;obtain⟨T1,T2,T3⟩:=yH3 t1 t2 t3
             clear t1 t2 t3))
        have BH:Hid (zfe own (pn,Rat.divInt pu pd) (out,fl)=(setP out pn (zbi (sv+gt)),fl||bigQ (own*Rat.divInt pu pd)||bigQ (sv+gt))):=by
         show _=_;unfold zfe;simp only[vv.o,gT.o]
        have cu:MarkAt wz W1.heap.size (fl||bigQ (own*Rat.divInt pu pd)||bigQ (sv+gt)):=N1.o.keep T3.o McS;have C2:=zHi cu;have iS:=zi0 (n:=pn) (q:=zbi (sv+gt)) (l:=out);have fS:=zHi iS;have eP:Qa W1 wz:=by
         have h1:Qa W1 wq:=zaV (zad tL.o _) M2.o Qc;have h2:Qa W1 w6:=zaV (W:=((wq.alloc (.cells #[.int .i64 gt.num,.int .i64 gt.den] 50)).drew).ext zs) Bw N2.o Qc;exact h2.trans (T3.o.mono McS)
        have dN:=zHi eP;have eI:=zab T1.o;clear cu iS eP p3 p0 p1 s3 s0 s1 y1;go_wp2_with fail
        go_round
        case rel=>
         have qj:=BH.o.symm.trans dq.o.symm;have eS:(setP out pn (zbi (sv+gt))).length<=ghs.length+1+(k2+1):=by have:=fS.o;have:=cG.o;omega
         (repeat apply Exists.intro)
         exact⟨⟨k2+1,v',setP out pn (zbi (sv+gt)),_,by omega,by go_num,qj,eS,C2.o,T1.o,T2.o,dN.o,eI⟩,rfl⟩
        case measure=>simp[intOf];omega
       ·have au:¬(k2:Int)<(ts.length:Int):=McS;have ow:(out,fl)=zcx ghs fr (zaq ts):=by
         rw[HX.o,List.take_of_length_le McS];unfold zcx;rw[<-cR.o,show(1:Rat)-sumQ (zaq ts)=q from HQ.o]
        have fW:=(bn.block T cz).trans eN.o;obtain⟨gH,bk⟩:=yH2 fW bn;have jc:wr.cell? ⟨W1.heap.size,0,none⟩=some (.bool fl):=(zbT HM.o).1;have ik:=HG.o;rw[<-ow]at ik;clear ow HX dp ez bn;cases fl
        ·have tU:=zHi ik;have cy:=fH.o;unfold zbt at cy;obtain⟨n0,n1,n2,n3,-,n5⟩:=cF6 cy;obtain⟨z0,z1,z2,z3,z4,z5⟩:=cF6 fW;have fz:∀j,wr.frozen? ⟨T,j,none⟩=false:=λj=>by simp only[World.frozen?,fW];rfl
         clear ik cy fW;go_wp2_with fail
         go_ret
         have bn:=bk.o;have ej:Ro wr 55 zaa A1 out:=dV.o.ro';have hN:TombAt ((((((wr.setCell ⟨T,0,none⟩ (.string gpl)).setCell ⟨T,1,none⟩ (.int .i64 gcl)).setCell ⟨T,2,none⟩ (.int .i64 frm)).setCell ⟨T,3,none⟩ (.int .i64 gfin)).setCell ⟨T,4,none⟩ (.slice A1 out.length c1)).setCell ⟨T,5,none⟩ (.slice D gdi.length dc)) base Bk T ⟨gpl,gcl,gfin,out,gdi⟩:=
          ⟨A1,c1,D,dc,frm,ziF gH.o _ _ _ _ _ _,t2,uu,t4,ej.kept (zcb _ _ _ _ _ _ _ _) gH.o McU,(lA.o.keep bn).kept (zcb _ _ _ _ _ _ _ _) gH.o McU,nS.o⟩
         have aq:=ziE ba (HC.o.keep bn) (HP.o.keep bn) (HT.o.keep bn) ru.o gH.o (zcb wr T _ _ _ _ _ _) hN;have bW:Below base w wr:=bn.mono McS;have iJ:=zaV bW (zcb wr T (.string gpl) (.int .i64 gcl) (.int .i64 frm) (.int .i64 gfin) (.slice A1 out.length c1) (.slice D gdi.length dc)) t2 McS;have bh:zbo s ⟨kd,dy,pl,fr,ts,cl,yr⟩=(s.withGrave i ⟨gpl,gcl,gfin,out,gdi⟩,0):=tU.o.trans (if_neg McV);exact Ma8
        ·exact Mbb
def tomb_set3{T:Nat}{pl:ByteArray}{cl fr en:Int}{dv:Value}{cs3:Int}(h:zbt W T pl cl fr en v dv):zbt (W.setCell ⟨T,3,none⟩ (.int .i64 cs3)) T pl cl fr cs3 v dv:=by
 unfold zbt at*;have:=Joins.block_setCell (i:=3) h (.int .i64 cs3);simpa using this
def znh(base b:Nat)(s:St)(la co last:Int)(d:Deed)(B:Option Addr)(c:Nat)(w:World)(hW:WldAt base w b s la co)(hL:LensIn w)(hd:OkD d)(ag:s.graves.length<=1000)(bP:∀g∈s.graves,g.fin<=200000):
 Calls Tryz.prog 80 #[.pointer (some ⟨b,0,none⟩),d.v B c] w (zbG base b (zdc s d) la co w):=by
 have dY:=hd.years;clear hd;have am:=hW;obtain⟨Bk,dd,cc,pp,wl,rr,mv,tv,ps,ba,hC,hP,hT⟩:=hW;have cI:=zab hC;obtain⟨kd,dy,pl,fr,ts,cl,yr⟩:=d;simp only at*;obtain⟨bI,HW,HC,HP⟩:=yH4 (λW (hB:Qa w W)=>ziB base b s la co pl dy W (hC.keep hB) (hT.keep hB) McS) am hC hP;cases aP:zaL s pl dy with
 |none=>
  rw[aP]at bI;have HG:Hid (zdc s ⟨kd,dy,pl,fr,ts,cl,yr⟩=(s,6)):=by show _=_;simp[zdc,aP]
  clear aP am hC hP hT hL;unfold Deed.v;simp only;go_enter Tryz.func80,Tryz.ntmps80
  exact Maj
 |some i=>
  obtain⟨T,g,gB,iy,aH,bB,gA,kO⟩:=zdI hT aP;have L5:=bP g (List.mem_of_getElem? aH);have iG:∀W,Qa w W->Calls Tryz.prog 23 #[.pointer (some ⟨b,0,none⟩),.string pl,.int .i64 dy] W (Ret W (.pointer (some ⟨T,0,none⟩))):=λW hB=>by
   exact McK
  have l7:=zHi iG;obtain⟨H,aE,D,dc,frm,t1,t2,t3,t4,t5,t6,t7⟩:=gA;have cz:=zab t1;obtain⟨gpl,gcl,gfin,ghs,gdi⟩:=g;simp only at*;have gC:zdc s ⟨kd,dy,pl,fr,ts,cl,yr⟩=if decide (gfin<0)then(s,15)else if decide (zcf gfin yr<0)then(s,2)else(s.withGrave i ⟨gpl,gcl,zcf gfin yr,ghs,gdi⟩,0):=by
   unfold zdc;simp only[aP,bB]
  obtain⟨eN,oN,lA,nS,dW,HT,ru⟩:=yH7 t1 t5 t6 t7 gC hT gB;unfold zbt at t1;obtain⟨-,-,-,k3⟩:=cF4 t1;have fz:∀j,w.frozen? ⟨T,j,none⟩=false:=λj=>by simp only[World.frozen?,t1];rfl
  have aj:=zHi (λW (hB:Qa w W) (h0:0<=gfin)=>zjR gfin yr W (hL.keep hB) h0 L5 dY.1 dY.2);clear iG bI t1 t5 t6 t7 gC hT gB iy bB aH kO aP am hC hP hL bP;unfold Deed.v;simp only;go_enter Tryz.func80,Tryz.ntmps80
  by_cases py:gfin<0
  ·go_wp2_with (go_at_call 23;refine(l7.o _ Bw).mono ?_;rintro e wq ⟨rfl,z,rfl⟩)
   go_ret
   exact zbN HW.o Bw (by rw[dW.o];simp[py])
  ·have d9:0<=gfin:=McS;go_upto_region 6 with(go_at_call 23;refine(l7.o _ Bw).mono ?_;rintro e wq ⟨rfl,z,rfl⟩)
   generalize hR:zcf gfin yr=R at*
   (refine zag McT McT ?_
    repeat(first|go_big_quiet_skip|(go_big_quiet_want;go_big_quiet_op;first|go_big_quiet_on|(apply Exists.intro;refine⟨λ_=>?_,?_⟩;(go_at_call 108;exact quietx (aj.o _ Bw d9));go_big_quiet_on)))
    refine wpQuiet_nil ?_
    rintro _ ⟨zq,rfl⟩)
   by_cases CZ:R<0
   ·go_wp2_with fail
    go_ret
    exact zbN HW.o Bw (by rw[dW.o];simp[py,CZ])
   ·go_wp2_with fail
    go_ret
    have bh:zdc s ⟨kd,dy,pl,fr,ts,cl,yr⟩=(s.withGrave i ⟨gpl,gcl,R,ghs,gdi⟩,0):=by rw[dW.o];simp[show¬gfin<0 by omega,show¬R<0 by omega]
    rw[bh];obtain⟨Z,hZ⟩:=Qd (((w.alloc (.cells #[.int .i64 kd,.int .i64 dy,.string pl,.string fr,.slice B ts.length c,.int .i64 cl,.int .i64 yr] 60)).ext z).ext zq)
    have iF:Qa w Z:=by rw[hZ];exact Bw
    have wY:=(iF.block T cz).trans eN.o;have hN:TombAt (Z.setCell ⟨T,3,none⟩ (.int .i64 R)) base Bk T ⟨gpl,gcl,R,ghs,gdi⟩:=⟨H,aE,D,dc,frm,tomb_set3 (show zbt Z T gpl gcl frm gfin _ _ from wY),t2,t3,t4,(oN.o.keep iF).kept (za1 Z T 3 _) wY McU,(lA.o.keep iF).kept (za1 Z T 3 _) wY McU,nS.o⟩
    have aq:=ziE ba (HC.o.keep iF) (HP.o.keep iF) (HT.o.keep iF) ru.o wY (za1 Z T 3 (.int .i64 R)) hN;have bW:Below base w (Z.setCell ⟨T,3,none⟩ (.int .i64 R)):=zaS (iF.mono McS) t2 _;have hE:Z.setCell ⟨T,3,none⟩ (.int .i64 R)=(((w.setCell ⟨T,3,none⟩ (.int .i64 R)).alloc (.cells #[.int .i64 kd,.int .i64 dy,.string pl,.string fr,.slice B ts.length c,.int .i64 cl,.int .i64 yr] 60)).ext z).ext zq:=by
     rw[hZ,zao _ _ _ _ _ Mc1,zao _ _ _ _ _ McX,zac _ _ _ _ _ cz]
    have ck:=(KeepD.below iF).trans (KeepD.cells (za1 Z T 3 (.int .i64 R)) wY McU);rw[hE]at aq bW ck;exact⟨rfl,aq,bW,ck⟩
