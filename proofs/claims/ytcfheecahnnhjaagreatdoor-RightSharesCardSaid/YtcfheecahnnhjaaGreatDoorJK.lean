import Derived.Test.YtcfheecahnnhjaaGreatDoorJH
set_option linter.all false
set_option maxRecDepth 100000
set_option maxHeartbeats 4000000
namespace Go.Proofs.YtcfheecahnnhjaaGreatDoor
open Go.RowKit Go.Shelf
attribute [local go_sem] World.cell?_alloc_mark zag za4 zar zaB zaw zax zay zaz za0 za1 za2
attribute [local go_sem] zas zad
theorem OwnS.base_le{α:Type}{W:World}{base base':Nat}{e:TypeId}{size:Nat}{f:α->List Value}{v:Value}{xs:List α}(h:OwnS W base e size f v xs)(hb:base'<=base):OwnS W base' e size f v xs:=by
 rcases h with h|⟨g,o,cap,cur,rfl,h1,h2⟩
 ·exact .inl h
 ·exact .inr ⟨g,o,cap,cur,rfl,Nat.le_trans hb h1,h2⟩
theorem zjI{a b:Rat}(ha:0<=a)(uf:a<=1)(hb:0<=b)(aR:b<=1):a*b<=1:=by
 have:=Rat.mul_nonneg ha (show 0<=1-b by grind);grind
theorem OwnS.sl'{α:Type}{W:World}{base:Nat}{e:TypeId}{size n c:Nat}{f:α->List Value}{A:Option Addr}{xs:List α}(ag:∀x,(f x).length=size)(h:OwnS W base e size f (.slice A n c) xs):Sl W size f A xs:=by
 obtain⟨A2,c2,e,hs,_⟩:=h.sl ag;cases e;exact hs
theorem OwnS.ro'{α:Type}{W:World}{base:Nat}{e:TypeId}{size n c:Nat}{f:α->List Value}{A:Option Addr}{xs:List α}(h:OwnS W base e size f (.slice A n c) xs):Ro W e f A xs:=by
 obtain⟨A2,c2,e,_,hs⟩:=h.ro;cases e;exact hs
theorem Bd.up{out:Parts}{t u:Rat}(h:Bd out t)(hu:t<=u):Bd out u:=⟨h.good,h.small,Rat.le_trans h.le hu⟩
theorem zi9{g:Grave}{frm:ByteArray}{ts:List RPart}(hG:GoodG g)(h:∀p∈ts,0<p.rat/\IsN 720720 p.rat/\za8 16 p.num p.den=true)(h1:sumQ (zan ts)<=1):
 0<=zaf g.holders frm/\zaJ (zaf g.holders frm)/\zaf g.holders frm<=1/\∀k,Bd (zem (zaf g.holders frm) (zan (ts.take k)) (setP g.holders frm (zbj (zaf g.holders frm*zeI ts)),bigQ (zaf g.holders frm*zeI ts))).1 1:=by
 have ho:=zbF hG.good frm;have bP:=zd2 hG.good frm;have dU:sumQ g.holders<=1:=by
  rcases hG.one with h|h
  ·rw[h];decide
  ·rw[h];exact Rat.le_refl
 have ao:=fun k=>znV (fun p hp=>(h p hp).1) (l:=ts) k
 have h0:=(ao 0)
 have FH:0<=sumQ (zan ts):=Rat.le_trans h0.1 h0.2;have hr:0<=zaf g.holders frm*zeI ts:=Rat.mul_nonneg ho (by unfold zeI;grind);have hb:Bd (setP g.holders frm (zbj (zaf g.holders frm*zeI ts))) (1-zaf g.holders frm*sumQ (zan ts)):=by
  refine⟨zhK hG.good (zcy hr),zex hG.small (zgq _),?_⟩;rw[zmD hG.good];have:=zha hr;unfold zeI at*;grind
 refine⟨ho,zcd ho McX (zcQ frm hG.small),by grind,fun k=>?_⟩
 have:=zmE ho (l:=zan (ts.take k)) (f:=bigQ (zaf g.holders frm*zeI ts)) (fun p hp=>by
  obtain⟨q,hq,rfl⟩:=List.mem_map.1 hp;have:=(h q (List.mem_of_mem_take hq)).1;show 0<=q.rat
  grind) hb
 refine this.up ?_;have h3:=Rat.mul_nonneg ho (show 0<=sumQ (zan ts)-sumQ (zan (ts.take k)) by have:=(ao k).2;grind);grind
theorem gain_snoc(own:Rat)(ts:List RPart)(x:Parts×Bool){k:Nat}(h:k<ts.length):zem own (zan (ts.take (k+1))) x=zfh own (ts[k].name,ts[k].rat) (zem own (zan (ts.take k)) x):=by
 rw[List.take_succ_eq_append_getElem h];unfold zan;rw[List.map_append,zfi];rfl
theorem rest_none(ts:List RPart):zeI (ts.take 0)=1:=by
 show(1:Rat)-0=1;grind
def zbv(q:Rat):Obj:=.cells #[.int .i64 q.num,.int .i64 q.den] 31
theorem zl1(base b:Nat)(s:St)(la co last:Int)(d:Deed)(B:Option Addr)(c:Nat)(w:World)(hW:WldAt base w b s la co)(ja:GoodSt s last)(hd:OkD d)(hk:d.kind=1)(ag:s.graves.length<=1000)(cq:∀g∈s.graves,g.holders.length<=10000)(ax:d.to.length<=c)(hS:Sl w 3 RPart.cells B d.to):
 Calls Tryz.prog 110 #[.pointer (some ⟨b,0,none⟩),d.v B c] w (zbK base b (zbs s d) la co w):=by
 have hp:=(hd.parts (.inr (.inl hk))).2;obtain⟨bQ,dU,_,_⟩:=zef hp;have bx:=hd.len;clear hp hd hk
 have rJ:=fun i g h1 h2 h3=>zl0 (s:=s) (d:=d) (i:=i) (g:=g) h1 h2 h3 (fun p hp=>by
  obtain⟨q,hq,rfl⟩:=List.mem_map.1 hp;have:=(bQ q hq).1;show 0<=q.rat
  grind) dU
 have ak:=hW;obtain⟨Bk,dd,cc,pp,wl,rr,mv,tv,ps,ba,hC,hP,hT⟩:=hW;have dK:=zab hC;obtain⟨kd,dy,pl,fr,ts,cl,yr⟩:=d;simp only at*;obtain⟨bK,uK,HW,dh,ny,HC,HP,HS⟩:=yH8 (fun W (hB:Below w.heap.size w W)=>zi3 base b s la co pl dy W (hC.keep hB) (hT.keep hB) Mcu) (fun W (hB:Below w.heap.size w W)=>ziv base b s ts B _ c W rfl Mcu (ak.peo.keep hB) (hS.keep hB)) ak bQ dU hC hP hS;cases aO:zaL s pl dy with
 |none=>
  rw[aO]at bK;have HG:Hid (zbs s ⟨kd,dy,pl,fr,ts,cl,yr⟩=(s,6)):=by show _=_;simp[zbs,aO]
  clear aO rJ ak hC hP hT hS bQ dU;unfold Deed.v;simp only;go_enter Tryz.func110,Tryz.ntmps110
  exact Maa
 |some i=>
  obtain⟨T,g,g7,ia,aG,bG,fT,km⟩:=zdM hT aO;have rz:=ja.graves g (List.mem_of_getElem? aG);have ix:=cq g (List.mem_of_getElem? aG);have iR:=rJ i g aO bG rz;obtain⟨iO,iA,li,dt⟩:=zi9 (frm:=fr) rz bQ dU;have ik:∀W,Below w.heap.size w W->Calls Tryz.prog 24 #[.pointer (some ⟨b,0,none⟩),.string pl,.int .i64 dy] W (Ret W (.pointer (some ⟨T,0,none⟩))):=fun W hB=>by
   exact Mcm
  have kJ:=zHi ik;obtain⟨H,aM,D,dc,frm,t1,t2,t3,t4,t5,t6,t7⟩:=fT;have ca:=zab t1;obtain⟨dO,qY,kS,nz,gA,dp,eh,HT⟩:=yH8 t1 t5 t6 t7 iR dt rz hT;have qO:=zHi g7;clear ik bK t1 t5 t6 t7 iR dt rz hT g7 ia bG aG km aO rJ ja cq ak hC hP hS bQ dU;obtain⟨gpl,gcl,gfin,ghs,gdi⟩:=g;simp only at*;unfold zbw at dO;have k1:w.cell? ⟨T,1,none⟩=some (.int .i64 gcl):=Md1;have k4:w.cell? ⟨T,4,none⟩=some (.slice H ghs.length aM):=Md1;obtain⟨own,aa⟩:∃own,own=zaf ghs fr:=⟨_,rfl⟩
  have gz:=zHi (fun W (hB:Below w.heap.size w W)=>zdz ghs H aM T fr W ((hB.cell (p:=⟨T,4,none⟩) ca).trans k4) (Nat.lt_of_lt_of_le ca hB.size) Mcu eh.o.good.asc (Ro.sl zam (qY.o.keep hB)));have IX:=dO;rw[<-aa]at gz iO iA li dp;have ju:=gA.o;clear gA;simp only[<-aa,numZ]at ju;have gA:=zHi ju;clear ju;have dN:=zHi aa;clear aa;unfold zaA at gz;unfold Deed.v;simp only;go_enter Tryz.func110,Tryz.ntmps110
  go_upto_region 11 with(first
   |(go_at_call 24;refine(kJ.o _ Bw).mono ?_;rintro e wq ⟨rfl,z,rfl⟩)
   |(go_at_call 25;refine(gz.o _ Bw).mono ?_;rintro e wq ⟨rfl,z2,rfl⟩)
   |(go_at_call 139;refine(uK.o _ Bw).mono ?_;intro e wq hq;rcases Ret.bools hq with⟨zq,rfl,⟨hb,rfl⟩|⟨hb,rfl⟩⟩<;>clear hq))
  all_goals(try(go_ret;exact zbR HW.o Bw (by rw[gA.o];simp[*];done)))
  have HG:Hid (zbs s ⟨kd,dy,pl,fr,ts,cl,yr⟩=if(zcz ghs fr (zan ts)).2 then(s,8)else(s.withGrave i ⟨gpl,gcl,gfin,(zcz ghs fr (zan ts)).1,gdi⟩,0)):=by
   show _=_;rw[gA.o];simp[*];done
  clear gA kJ uK gz;go_cut [5,6,7]from 8 (fun v5 v6 v7 wc=>v5=.pointer (some ⟨T,0,none⟩)/\∃O R,v6=.pointer (some ⟨O,0,none⟩)/\v7=.pointer (some ⟨R,0,none⟩)/\Below w.heap.size w wc/\w.heap.size<O/\O<R/\R<wc.heap.size/\wc.heap[w.heap.size]?=some (.cells #[.int .i64 kd,.int .i64 dy,.string pl,.string fr,.slice B ts.length c,.int .i64 cl,.int .i64 yr] 69)/\wc.heap[O]?=some (zbv own)/\wc.heap[R]?=some (zbv (zeI (ts.take 0))))
  case first=>
   go_wp2_with fail
   go_meet
   refine⟨rfl,_,_,rfl,rfl,Bw,by omega,?_,?_,?_,?_,?_⟩
   ·exact Ma8
   ·exact Ma8
   ·exact Mbz
   ·exact Mbq
   ·rw[rest_none];exact zaq _ _ _ MdI
  case rest=>
   obtain⟨rfl,O,R,rfl,rfl,hB,hO,hR,Cx,g0,g1,g2⟩:=hcut;obtain⟨d0,d1,d2,d3,d4,d5,d6⟩:=cF7 g0;have D4:=zHi d4;clear d0 d1 d2 d5 d6;go_wp2_with fail
   go_loopw [45] (fun i wr=>∃k:Nat,k<=ts.length/\i=.int .i64 k/\Below w.heap.size w wr/\R<wr.heap.size/\wr.heap[w.heap.size]?=some (.cells #[.int .i64 kd,.int .i64 dy,.string pl,.string fr,.slice B ts.length c,.int .i64 cl,.int .i64 yr] 69)/\wr.heap[O]?=some (zbv own)/\wr.heap[R]?=some (zbv (zeI (ts.take k)))) (fun i _=>ts.length-(intOf i).toNat)
   case atStart=>exact⟨0,Nat.zero_le _,rfl,hB,Cx,g0,g1,g2⟩
   case round=>
    clear hB Cx g0 g1 g2 d3 d4;obtain⟨k,hk,rfl,hB,Cx,g0,g1,g2⟩:=hrel;have dP:=zi8 dh.o k;have ao:=znV (fun p hp=>(dh.o p hp).1) (l:=ts) k;have aQ:zaJ (zeI (ts.take k)):=dP.small (by unfold zeI;have:=ny.o;grind) (by unfold zeI;grind);have og:=zHi aQ;clear dP ao aQ;by_cases ae:k<ts.length
    ·obtain⟨b',off,rfl,cK,hc⟩:=(HS.o.keep hB).at ae;have gR:=(dh.o ts[k] (List.getElem_mem ae)).2.2;have lj:=zlz ts ae;generalize ts[k]=p at*;obtain⟨pn,pu,pd⟩:=p;generalize zeI (ts.take k)=q at*;have h0:wr.cell? ⟨b',off+k*3,none⟩=some (.string pn):=hc 0 _ rfl;have h1:wr.cell? ⟨b',off+k*3+1,none⟩=some (.int .i64 pu):=hc 1 _ rfl;have h2:wr.cell? ⟨b',off+k*3+2,none⟩=some (.int .i64 pd):=hc 2 _ rfl;obtain⟨pA,BR⟩:=yH2 lj (fun W=>subS_any q pu pd W og.o gR);have r0:wr.cell? ⟨R,0,none⟩=some (.int .i64 q.num):=by simp only[World.cell?,g2,zbv];rfl
     have r1:wr.cell? ⟨R,1,none⟩=some (.int .i64 q.den):=by simp only[World.cell?,g2,zbv];rfl
     have r2:wr.frozen? ⟨R,0,none⟩=false:=by simp only[World.frozen?,g2,zbv];rfl
     have r3:wr.frozen? ⟨R,1,none⟩=false:=by simp only[World.frozen?,g2,zbv];rfl
     have ar:(k:Int)<(ts.length:Int):=Mcu;have aT:(0:Int)<=(k:Int):=Mcu;have fu:(k:Int)<=(c:Int):=Mcu;have Cv:R≠wr.heap.size:=Mcu;have hOR:O≠R:=Mcu;have hwR:w.heap.size≠R:=Mcu;obtain⟨G0,G1,G2⟩:=yH3 g0 g1 g2;clear hc gR lj g0 g1 g2;go_wp2_with (go_at_call 142;refine(BR.o _).mono ?_;rintro e wq ⟨rfl,z,rfl⟩;simp only[zaA])
     go_round
     case rel=>
      have g0:=G0.o;have g1:=G1.o;refine⟨k+1,by omega,by go_num,?_,by simp[zag];omega,by repeat(first|assumption|with_reducible refine zal ?_|with_reducible refine zb5 ?_|with_reducible refine J_ne Mcu ?_),by repeat(first|assumption|with_reducible refine zal ?_|with_reducible refine zb5 ?_|with_reducible refine J_ne Mcu ?_),?_⟩
      ·exact Bw
      ·rw[pA.o];(repeat(first|with_reducible refine zal ?_|with_reducible refine zb5 ?_))
       exact zdy G2.o
     case measure=>simp[intOf];omega
    ·have ar:¬(k:Int)<(ts.length:Int):=Mcu;rw[List.take_of_length_le Mcu]at g2;obtain⟨W1,rfl⟩:∃x,x=wr:=⟨_,rfl⟩
     have t1:=(hB.block T ca).trans dO.o;obtain⟨m0,m1,m2,m3,m4,m5⟩:=cF6 t1;have K2:T<W1.heap.size:=zab t1;have JX:T≠W1.heap.size:=Mcu;have wO:T≠W1.heap.size+1:=Mcu;obtain⟨G0,G1,G2,J2⟩:=yH4 g0 g1 g2 t1;have cN:=zHi (fun W (hW:Below W1.heap.size W1 W)=>zeG ghs H ghs.length aM W rfl Mcu (Ro.sl zam ((qY.o.keep hB).keep hW)));clear g0 g1 g2 t1;go_upto_region 19 with fail
     go_cut [11]from 12 (fun v wc2=>v=.pointer (some ⟨W1.heap.size+1,0,none⟩)/\∃hv,MarkAt wc2 W1.heap.size false/\zbw wc2 (W1.heap.size+1) gpl gcl frm gfin hv (.slice D gdi.length dc)/\OwnS wc2 (W1.heap.size+1) 64 3 zaa hv ghs/\Below W1.heap.size W1 wc2)
     case first=>
      go_wp2_with (go_at_call 143
                   refine(cN.o _ Bw).mono ?_;rintro e wq ⟨hv,rfl,o1,o2⟩;obtain⟨A1,c1,td,_,_⟩:=o1.sl zam;subst td;have x1:wq.heap[W1.heap.size+1]?=some (.cells #[.string gpl,.int .i64 gcl,.int .i64 frm,.int .i64 gfin,.slice H ghs.length aM,.slice D gdi.length dc] 88):=(o2.block _ Mcx).trans (zaq _ _ _ Mcx);have x2:MarkAt wq W1.heap.size false:=(o2.block _ Mcz).trans (zal (zaq _ _ _ rfl));have x3:=zab x1;have x4:wq.frozen? ⟨W1.heap.size+1,4,none⟩=false:=(by simp only[World.frozen?,x1];rfl)
                   have x5:wq.cell? ⟨W1.heap.size+1,4,none⟩=some (.slice H ghs.length aM):=(by simp only[World.cell?,x1];rfl)
                   obtain⟨X1,X2,O1,O2⟩:=yH4 x1 x2 o1 o2
                   clear x1 x2 o1 o2)
      go_meet
      have bs:Below W1.heap.size W1 wq:=Below.trans (zac (zac (Below.refl _ _) _) _ Mcx) (O2.o.mono Mcz);refine⟨rfl,_,J_ne Mcu X2.o,zgn (show zbw wq _ gpl gcl frm gfin (.slice H ghs.length aM) (.slice D gdi.length dc) from X1.o) _,?_,zaM bs Mcx _⟩;refine OwnS.base_le (OwnS.grown O1.o (zav _ _ _ _) (.inr fun e=>?_)) Mcx;have:=(O1.o.ge _ e).1;simp at this;omega
     case rest=>
      obtain⟨rfl,hv,hm,cz,ej,bE⟩:=hcut;have aY:=bE.size;have bR:=zab cz;have e3:wc.cell? ⟨w.heap.size,3,none⟩=some (.string fr):=(zah bE Mcu).trans Md4;have e4:wc.cell? ⟨w.heap.size,4,none⟩=some (.slice B ts.length c):=(zah bE Mcu).trans Md4;have o0:wc.cell? ⟨O,0,none⟩=some (.int .i64 own.num):=(zah bE Mcu).trans Mdq;have o1:wc.cell? ⟨O,1,none⟩=some (.int .i64 own.den):=(zah bE Mcu).trans Mdq;have bX:ts.take k=ts:=List.take_of_length_le Mcu;rw[bX]at og;generalize hq:zeI ts=q at*;have r0:wc.cell? ⟨R,0,none⟩=some (.int .i64 q.num):=(zah bE Mcu).trans (by simp only[World.cell?,G2.o,zbv];rfl);have r1:wc.cell? ⟨R,1,none⟩=some (.int .i64 q.den):=(zah bE Mcu).trans (by simp only[World.cell?,G2.o,zbv];rfl);obtain⟨HQ,HM,fj,dV,aD⟩:=yH5 hq hm cz ej bE;clear hq hm cz ej bX m0 m1 m2 m3 m4 m5 cN;go_wp2_with fail
      go_region_held3 (fun w'=>w'.cell? ⟨w.heap.size,3,none⟩=some (.string fr)/\w'.cell? ⟨O,0,none⟩=some (.int .i64 own.num)/\w'.cell? ⟨O,1,none⟩=some (.int .i64 own.den)/\w'.cell? ⟨R,0,none⟩=some (.int .i64 q.num)/\w'.cell? ⟨R,1,none⟩=some (.int .i64 q.den))
       ((refine⟨?_,?_,?_,?_,?_⟩<;>first|assumption|(simp[go_sem,e3,o0,o1,r0,r1];done)))
       (first
         |(go_at_call 144
           go_loud(refine(zhL W1.heap.size false _ HM.o.drew own q iA og.o).mono ?_)
           rintro e wq ⟨rfl,m1,m2⟩;have p3:wq.cell? ⟨w.heap.size,3,none⟩=some (.string fr):=(by rw[zbd m2 Mcz Mcu];simpa[go_sem]using e3)
           have p0:wq.cell? ⟨O,0,none⟩=some (.int .i64 own.num):=(by rw[zbd m2 Mcz Mcu];simpa[go_sem]using o0)
           have p1:wq.cell? ⟨O,1,none⟩=some (.int .i64 own.den):=(by rw[zbd m2 Mcz Mcu];simpa[go_sem]using o1)
           have q0:wq.cell? ⟨R,0,none⟩=some (.int .i64 q.num):=(by rw[zbd m2 Mcz Mcu];simpa[go_sem]using r0)
           have q1:wq.cell? ⟨R,1,none⟩=some (.int .i64 q.den):=(by rw[zbd m2 Mcz Mcu];simpa[go_sem]using r1)
           obtain⟨M1,M2⟩:=yH2 m1 m2
           clear m1 m2)
         |(go_at_call 141
           refine(ziu (W1.heap.size+1) (W1.heap.size+1) ghs hv gpl gcl frm gfin (.slice D gdi.length dc) fr (zbj (own*q)) _ ?q1 (Nat.le_refl _) ?q2 eh.o.good.asc Mcu).mono ?_
           case q1=>exact(M2.o.block _ Mcz Mcx).trans fj.o
           case q2=>exact OwnS.grown (W:=wc.drew) dV.o M2.o (.inr fun e=>by have:=(dV.o.ge _ e).1;omega)
           rintro e wz ⟨rfl,v',t1,t2,t3,_⟩;have s3:wz.cell? ⟨w.heap.size,3,none⟩=some (.string fr):=(zah t3 Mcu).trans p3;have s0:wz.cell? ⟨O,0,none⟩=some (.int .i64 own.num):=(zah t3 Mcu).trans p0;have s1:wz.cell? ⟨O,1,none⟩=some (.int .i64 own.den):=(zah t3 Mcu).trans p1;have u0:wz.cell? ⟨R,0,none⟩=some (.int .i64 q.num):=(zah t3 Mcu).trans q0;have u1:wz.cell? ⟨R,1,none⟩=some (.int .i64 q.den):=(zah t3 Mcu).trans q1;obtain⟨T1,T2,T3⟩:=yH3 t1 t2 t3
           clear t1 t2 t3))
      have M:=zHi (show MarkAt wz W1.heap.size (bigQ (own*q)) by have:=M1.o.keep T3.o Mcu;simpa using this);have s4:wz.cell? ⟨w.heap.size,4,none⟩=some (.slice B ts.length c):=(zah T3.o Mcu).trans ((zbd M2.o Mcz Mcu).trans (by simpa[go_sem]using e4));have El:=zHi (Below.trans (zaU (zaE aD.o) M2.o (Nat.le_refl _)) (T3.o.mono Mcu));have pX:=ziy (n:=fr) (q:=zbj (own*q)) (l:=ghs);have pj:=zHi pX;clear M1 M2 T3 fj dV HM aD e3 e4 o0 o1 r0 r1 p3 p0 p1 q0 q1 s3 s0 s1 u0 u1 pX;go_wp2_with fail
      go_loopw [72] (fun i wr=>∃(k:Nat) (v:Value) (out:Parts) (fl:Bool),k<=ts.length/\i=.int .i64 k/\Hid ((out,fl)=zem own (zan (ts.take k)) (setP ghs fr (zbj (own*q)),bigQ (own*q)))/\Hid (out.length<=ghs.length+1+k)/\MarkAt wr W1.heap.size fl/\zbw wr (W1.heap.size+1) gpl gcl frm gfin v (.slice D gdi.length dc)/\OwnS wr (W1.heap.size+1) 64 3 zaa v out/\Below W1.heap.size W1 wr/\W1.heap.size+1<wr.heap.size) (fun i _=>ts.length-(intOf i).toNat)
      case atStart=>exact⟨0,v',_,_,Nat.zero_le _,rfl,rfl,pj.o,M.o,T1.o,T2.o,El.o,zab T1.o⟩
      case round=>
       clear pj M T1 T2 El s4 aY bR;obtain⟨k2,v,out,fl,pU,rfl,HX,dM,hm,cz,ej,gW,aQ⟩:=hrel;obtain⟨A1,c1,rfl,rD,im⟩:=ej.sl zam;have bl:Below w.heap.size w wr:=hB.trans (gW.mono Mcu);have dt:Bd out 1:=by have:=dp.o k2;rw[<-HX.o]at this;exact this
       obtain⟨HD,HM,fj,dV,IL,tw⟩:=yH6 dt hm cz ej rD gW;have zr:wr.cell? ⟨W1.heap.size+1,4,none⟩=some (.slice A1 out.length c1):=Mdf;clear hm cz ej rD dt;by_cases bu:k2<ts.length
       ·obtain⟨b',off,rfl,cK,hc⟩:=(HS.o.keep bl).at bu;obtain⟨iQ,iB,gR⟩:=dh.o ts[k2] (List.getElem_mem bu);have aL:=gain_snoc own ts (setP ghs fr (zbj (own*q)),bigQ (own*q)) bu;rw[<-HX.o]at aL;generalize ts[k2]=p at*;obtain⟨pn,pu,pd⟩:=p;obtain⟨_,_,sr0,sr1⟩:=zbp gR;have i0:wr.cell? ⟨b',off+k2*3,none⟩=some (.string pn):=hc 0 _ rfl;have i1:wr.cell? ⟨b',off+k2*3+1,none⟩=some (.int .i64 pu):=hc 1 _ rfl;have i2:wr.cell? ⟨b',off+k2*3+2,none⟩=some (.int .i64 pd):=hc 2 _ rfl;have o0:wr.cell? ⟨O,0,none⟩=some (.int .i64 own.num):=(zah tw.o Mcu).trans Mdq;have o1:wr.cell? ⟨O,1,none⟩=some (.int .i64 own.den):=(zah tw.o Mcu).trans Mdq;have xB:zaJ (zbj (own*Rat.divInt pu pd)):=zcd (zcy (Rat.mul_nonneg iO sr0)) (Rat.le_trans (zha (Rat.mul_nonneg iO sr0)) (zjI iO li sr0 sr1)) (zgq _);obtain⟨dI,qE⟩:=yH2 aL xB;have ar:(k2:Int)<(ts.length:Int):=Mcu;have aT:(0:Int)<=(k2:Int):=Mcu;have fu:(k2:Int)<=(c:Int):=Mcu;have FD:O≠wr.heap.size:=Mcu;have wG:O<wr.heap.size:=Mcu;have ur:out.length<=90000:=by have:=dM.o;omega
        clear hc aL xB iQ iB sr0 sr1
        go_wp2_with (go_at_call 144
                     refine(mulS_any W1.heap.size fl _ (HM.o.alloc _) own pu pd iA gR).mono ?_;rintro e wq ⟨rfl,m1,m2⟩;have jz:=m2.size;have y0:wq.heap[wr.heap.size]?=some (.cells #[.string pn,.int .i64 pu,.int .i64 pd] 64):=(m2.block _ Mcx Mcz).trans (zaq _ _ _ rfl);have y1:wq.cell? ⟨wr.heap.size,0,none⟩=some (.string pn):=(by simp only[World.cell?,y0];rfl)
                     have y3:wr.heap.size<wq.heap.size:=zab y0;obtain⟨M1,M2⟩:=yH2 m1 m2;clear m1 m2 y0
                     simp only[zaA])
        have wE:OwnS wq (W1.heap.size+1) 64 3 zaa (.slice A1 out.length c1) out:=OwnS.grown (W:=wr.alloc _) (dV.o.keep (n:=wr.heap.size) (zac (Below.refl _ _) _)) M2.o (.inr fun e=>by have:=(dV.o.ge _ e).1;omega);have mh:zbw wq (W1.heap.size+1) gpl gcl frm gfin (.slice A1 out.length c1) (.slice D gdi.length dc):=(M2.o.block _ Mcz Mcx).trans (zal fj.o);have Ed:wq.cell? ⟨W1.heap.size+1,4,none⟩=some (.slice A1 out.length c1):=by unfold zbw at mh;simp only[World.cell?,mh];rfl
        have bn:W1.heap.size+1<wq.heap.size:=zab mh;obtain⟨OQ,TQ⟩:=yH2 wE mh;have mY:zaJ (zaf out pn):=HD.o.share Rat.le_refl pn;generalize eE:zbj (own*Rat.divInt pu pd)=gt at*;generalize kC:zaf out pn=sv at*;obtain⟨vm,gz,eN⟩:=yH3 eE kC mY;have lm:wr.heap.size≠wq.heap.size:=Mcu;have Hg:W1.heap.size+1≠wq.heap.size:=Mcu;clear wE mh mY eE kC i0 i1 i2 o0 o1;go_region_held3 (fun w'=>w'.cell? ⟨wr.heap.size,0,none⟩=some (.string pn)/\w'.cell? ⟨wq.heap.size,0,none⟩=some (.int .i64 gt.num)/\w'.cell? ⟨wq.heap.size,1,none⟩=some (.int .i64 gt.den))
         ((refine⟨?_,?_,?_⟩<;>first|assumption|(simp[go_sem,y1,y3];done)))
         (first
           |(go_at_call 25
             go_loud(refine(zdz out A1 c1 (W1.heap.size+1) pn _ ?q1 ?q2 Mcu HD.o.good.asc (Sl.keep (OQ.o.sl' zam) (n:=wq.heap.size) Bw)).mono ?_)
             case q1=>simp[go_sem,Ed,bn]
             case q2=>simp;omega
             rintro e w5 ⟨rfl,zs,rfl⟩;rw[gz.o]
             simp only[zaA])
           |(go_at_call 145
             go_loud(refine(zhM W1.heap.size (fl||bigQ (own*Rat.divInt pu pd)) _ ?q3 sv gt eN.o qE.o).mono ?_)
             case q3=>(repeat(first|exact M1.o|refine MarkAt.ext ?_ _|refine MarkAt.drew ?_|refine MarkAt.alloc ?_ _))
             rintro e w6 ⟨rfl,n1,n2⟩;have p3:w6.cell? ⟨wr.heap.size,0,none⟩=some (.string pn):=MdC;have p0:w6.cell? ⟨wq.heap.size,0,none⟩=some (.int .i64 gt.num):=Mc7;have p1:w6.cell? ⟨wq.heap.size,1,none⟩=some (.int .i64 gt.den):=Mc7;obtain⟨N1,N2⟩:=yH2 n1 n2;clear n1 n2
             simp only[zaA])
           |(go_at_call 141
             go_loud(refine(ziu (W1.heap.size+1) (W1.heap.size+1) out (.slice A1 out.length c1) gpl gcl frm gfin (.slice D gdi.length dc) pn (zbj (sv+gt)) _ ?q4 (Nat.le_refl _) ?q5 HD.o.good.asc ur).mono ?_)
             case q4=>exact(N2.o.block _ McD Mcx).trans Mdu
             case q5=>exact OwnS.grown (OQ.o.keep (n:=wq.heap.size) Bw) N2.o (.inr fun e=>by have:=(OQ.o.ge _ e).1;omega)
             rintro e wz ⟨rfl,v',t1,t2,t3,t4⟩;have s3:wz.cell? ⟨wr.heap.size,0,none⟩=some (.string pn):=(World.cell?_of_block (w:=w6) (t4 wr.heap.size Mc2 Mcu (fun e=>by have:=(dV.o.ge _ e).2;omega))).trans p3;have s0:wz.cell? ⟨wq.heap.size,0,none⟩=some (.int .i64 gt.num):=(World.cell?_of_block (w:=w6) (t4 wq.heap.size Mc2 Mcu (fun e=>by have:=(dV.o.ge _ e).2;omega))).trans p0;have s1:wz.cell? ⟨wq.heap.size,1,none⟩=some (.int .i64 gt.den):=(World.cell?_of_block (w:=w6) (t4 wq.heap.size Mc2 Mcu (fun e=>by have:=(dV.o.ge _ e).2;omega))).trans p1;obtain⟨T1,T2,T3⟩:=yH3 t1 t2 t3
             clear t1 t2 t3))
        have Bb:Hid (zfh own (pn,Rat.divInt pu pd) (out,fl)=(setP out pn (zbj (sv+gt)),fl||bigQ (own*Rat.divInt pu pd)||bigQ (sv+gt))):=by
         show _=_;unfold zfh;simp only[vm.o,gz.o]
        have cx:MarkAt wz W1.heap.size (fl||bigQ (own*Rat.divInt pu pd)||bigQ (sv+gt)):=N1.o.keep T3.o Mcu;have Bv:=zHi cx;have iz:=ziy (n:=pn) (q:=zbj (sv+gt)) (l:=out);have gw:=zHi iz;have gI:Below W1.heap.size W1 wz:=by
         have h1:Below W1.heap.size W1 wq:=zaU (zac tw.o _) M2.o (Nat.le_refl _);have h2:Below W1.heap.size W1 w6:=zaU (W:=((wq.alloc (.cells #[.int .i64 gt.num,.int .i64 gt.den] 31)).drew).ext zs) Bw N2.o (Nat.le_refl _);exact h2.trans (T3.o.mono Mcu)
        have eu:=zHi gI;have fe:=zab T1.o;clear cx iz gI p3 p0 p1 s3 s0 s1 y1;go_wp2_with fail
        go_round
        case rel=>
         have pO:=Bb.o.symm.trans dI.o.symm;have mM:(setP out pn (zbj (sv+gt))).length<=ghs.length+1+(k2+1):=by have:=gw.o;have:=dM.o;omega
         (repeat apply Exists.intro)
         exact⟨⟨k2+1,v',setP out pn (zbj (sv+gt)),_,by omega,by go_num,pO,mM,Bv.o,T1.o,T2.o,eu.o,fe⟩,rfl⟩
        case measure=>simp[intOf];omega
       ·have ar:¬(k2:Int)<(ts.length:Int):=Mcu;have jN:(out,fl)=zcz ghs fr (zan ts):=by
         rw[HX.o,List.take_of_length_le Mcu];unfold zcz;rw[<-dN.o,show(1:Rat)-sumQ (zan ts)=q from HQ.o]
        have ji:=(bl.block T ca).trans dO.o;obtain⟨ni,b8⟩:=yH2 ji bl;have iJ:wr.cell? ⟨W1.heap.size,0,none⟩=some (.bool fl):=(zbW HM.o).1;have gT:=HG.o;rw[<-jN]at gT;clear jN HX dp eh bl;cases fl
        ·have tH:=zHi gT;have cz:=fj.o;unfold zbw at cz;obtain⟨n0,n1,n2,n3,-,n5⟩:=cF6 cz;obtain⟨z0,z1,z2,z3,z4,z5⟩:=cF6 ji;have fz:∀j,wr.frozen? ⟨T,j,none⟩=false:=fun j=>by simp only[World.frozen?,ji];rfl
         clear gT cz ji;go_wp2_with fail
         go_ret
         have bl:=b8.o;have dZ:Ro wr 64 zaa A1 out:=dV.o.ro';have hN:TombAt ((((((wr.setCell ⟨T,0,none⟩ (.string gpl)).setCell ⟨T,1,none⟩ (.int .i64 gcl)).setCell ⟨T,2,none⟩ (.int .i64 frm)).setCell ⟨T,3,none⟩ (.int .i64 gfin)).setCell ⟨T,4,none⟩ (.slice A1 out.length c1)).setCell ⟨T,5,none⟩ (.slice D gdi.length dc)) base Bk T ⟨gpl,gcl,gfin,out,gdi⟩:=
          ⟨A1,c1,D,dc,frm,zi7 ni.o _ _ _ _ _ _,t2,im,t4,dZ.kept (zce _ _ _ _ _ _ _ _) ni.o Mcw,(kS.o.keep bl).kept (zce _ _ _ _ _ _ _ _) ni.o Mcw,nz.o⟩
         have ao:=zi6 ba (HC.o.keep bl) (HP.o.keep bl) (HT.o.keep bl) qO.o ni.o (zce wr T _ _ _ _ _ _) hN;have bD:Below base w wr:=bl.mono Mcu;have jg:=zaU bD (zce wr T (.string gpl) (.int .i64 gcl) (.int .i64 frm) (.int .i64 gfin) (.slice A1 out.length c1) (.slice D gdi.length dc)) t2 Mcu;have aW:zbs s ⟨kd,dy,pl,fr,ts,cl,yr⟩=(s.withGrave i ⟨gpl,gcl,gfin,out,gdi⟩,0):=tH.o.trans (if_neg Mcx);exact MaP
        ·exact MaS
