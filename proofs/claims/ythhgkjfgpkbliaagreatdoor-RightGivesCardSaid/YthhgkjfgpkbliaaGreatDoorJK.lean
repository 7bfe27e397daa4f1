import Derived.Test.YthhgkjfgpkbliaaGreatDoorJH
set_option linter.all false
set_option maxRecDepth 100000
set_option maxHeartbeats 4000000
namespace Go.Proofs.YthhgkjfgpkbliaaGreatDoor
open Go.RowKit Go.Shelf
attribute [local go_sem] World.cell?_alloc_mark zae zav zai zaw zam zan zao zap zaq zar zas
attribute [local go_sem] zah zac
theorem OwnS.base_le{α:Type}{W:World}{base base':Nat}{e:TypeId}{size:Nat}{f:α->List Value}{v:Value}{xs:List α}(h:OwnS W base e size f v xs)(hb:base'<=base):OwnS W base' e size f v xs:=by
 rcases h with h|⟨g,o,cap,cur,rfl,h1,h2⟩
 ·exact .inl h
 ·exact .inr ⟨g,o,cap,cur,rfl,Nat.le_trans hb h1,h2⟩
theorem zii{a b:Rat}(ha:0<=a)(pU:a<=1)(hb:0<=b)(cS:b<=1):a*b<=1:=by
 have:=Rat.mul_nonneg ha (show 0<=1-b by grind);grind
theorem OwnS.sl'{α:Type}{W:World}{base:Nat}{e:TypeId}{size n c:Nat}{f:α->List Value}{A:Option Addr}{xs:List α}(af:∀x,(f x).length=size)(h:OwnS W base e size f (.slice A n c) xs):Sl W size f A xs:=by
 obtain⟨A2,c2,e,hs,_⟩:=h.sl af;cases e;exact hs
theorem OwnS.ro'{α:Type}{W:World}{base:Nat}{e:TypeId}{size n c:Nat}{f:α->List Value}{A:Option Addr}{xs:List α}(h:OwnS W base e size f (.slice A n c) xs):Ro W e f A xs:=by
 obtain⟨A2,c2,e,_,hs⟩:=h.ro;cases e;exact hs
theorem Bd.up{out:Parts}{t u:Rat}(h:Bd out t)(hu:t<=u):Bd out u:=⟨h.good,h.small,Rat.le_trans h.le hu⟩
theorem zkH{g:Grave}{frm:ByteArray}{ts:List RPart}(hG:GoodG g)(h:∀p∈ts,0<p.rat/\IsN 720720 p.rat/\za2 16 p.num p.den=true)(h1:sumQ (zat ts)<=1):
 0<=zab g.holders frm/\zaD (zab g.holders frm)/\zab g.holders frm<=1/\∀k,Bd (zdy (zab g.holders frm) (zat (ts.take k)) (setP g.holders frm (zaQ (zab g.holders frm*zdO ts)),bigQ (zab g.holders frm*zdO ts))).1 1:=by
 have ho:=zbg hG.good frm;have bF:=zcM hG.good frm;have d8:sumQ g.holders<=1:=by
  rcases hG.one with h|h
  ·rw[h];decide
  ·rw[h];exact Rat.le_refl
 have am:=fun k=>zlC (fun p hp=>(h p hp).1) (l:=ts) k
 have h0:=(am 0)
 have xW:0<=sumQ (zat ts):=Rat.le_trans h0.1 h0.2;have hr:0<=zab g.holders frm*zdO ts:=Rat.mul_nonneg ho (by unfold zdO;grind);have hb:Bd (setP g.holders frm (zaQ (zab g.holders frm*zdO ts))) (1-zab g.holders frm*sumQ (zat ts)):=by
  refine⟨zg0 hG.good (zcc hr),zd9 hG.small (zfo _),?_⟩;rw[zkC hG.good];have:=zfH hr;unfold zdO at*;grind
 refine⟨ho,zcl ho MbV (zcs frm hG.small),by grind,fun k=>?_⟩
 have:=zkD ho (l:=zat (ts.take k)) (f:=bigQ (zab g.holders frm*zdO ts)) (fun p hp=>by
  obtain⟨q,hq,rfl⟩:=List.mem_map.1 hp;have:=(h q (List.mem_of_mem_take hq)).1;show 0<=q.rat
  grind) hb
 refine this.up ?_;have h3:=Rat.mul_nonneg ho (show 0<=sumQ (zat ts)-sumQ (zat (ts.take k)) by have:=(am k).2;grind);grind
theorem gain_snoc(own:Rat)(ts:List RPart)(x:Parts×Bool){k:Nat}(h:k<ts.length):zdy own (zat (ts.take (k+1))) x=zeg own (ts[k].name,ts[k].rat) (zdy own (zat (ts.take k)) x):=by
 rw[List.take_succ_eq_append_getElem h];unfold zat;rw[List.map_append,zeh];rfl
theorem rest_none(ts:List RPart):zdO (ts.take 0)=1:=by
 show(1:Rat)-0=1;grind
def zba(q:Rat):Obj:=.cells #[.int .i64 q.num,.int .i64 q.den] 54
theorem zj4(base b:Nat)(s:St)(la co last:Int)(d:Deed)(B:Option Addr)(c:Nat)(w:World)(hW:WldAt base w b s la co)(fq:GoodSt s last)(hd:OkD d)(hk:d.kind=1)(af:s.graves.length<=1000)(cm:∀g∈s.graves,g.holders.length<=10000)(aj:d.to.length<=c)(hS:Sl w 3 RPart.cells B d.to):
 Calls Tryz.prog 97 #[.pointer (some ⟨b,0,none⟩),d.v B c] w (zbr base b (zbj s d) la co w):=by
 have hp:=(hd.parts (.inr (.inl hk))).2;obtain⟨cd,d8,_,_⟩:=zfe hp;have aZ:=hd.len;clear hp hd hk
 have me:=fun i g h1 h2 h3=>zj3 (s:=s) (d:=d) (i:=i) (g:=g) h1 h2 h3 (fun p hp=>by
  obtain⟨q,hq,rfl⟩:=List.mem_map.1 hp;have:=(cd q hq).1;show 0<=q.rat
  grind) d8
 have aF:=hW;obtain⟨Bk,dd,cc,pp,wl,rr,mv,tv,ps,ax,hC,hP,hT⟩:=hW;have bu:=zad hC;obtain⟨kd,dy,pl,fr,ts,cl,yr⟩:=d;simp only at*;obtain⟨ba,oc,HW,hJ,ul,HC,HP,HS⟩:=yH8 (fun W (hB:Below w.heap.size w W)=>zih base b s la co pl dy W (hC.keep hB) (hT.keep hB) MbC) (fun W (hB:Below w.heap.size w W)=>zhb base b s ts B _ c W rfl MbC (aF.peo.keep hB) (hS.keep hB)) aF cd d8 hC hP hS;cases ap:zaH s pl dy with
 |none=>
  rw[ap]at ba;have HG:Hid (zbj s ⟨kd,dy,pl,fr,ts,cl,yr⟩=(s,6)):=by show _=_;simp[zbj,ap]
  clear ap me aF hC hP hT hS cd d8;unfold Deed.v;simp only;go_enter Tryz.func97,Tryz.ntmps97
  exact MQ
 |some i=>
  obtain⟨T,g,dS,eE,bJ,aQ,dP,fS⟩:=zdC hT ap;have lW:=fq.graves g (List.mem_of_getElem? bJ);have mA:=cm g (List.mem_of_getElem? bJ);have eY:=me i g ap aQ lW;obtain⟨eX,eC,gQ,dl⟩:=zkH (frm:=fr) lW cd d8;have ej:∀W,Below w.heap.size w W->Calls Tryz.prog 48 #[.pointer (some ⟨b,0,none⟩),.string pl,.int .i64 dy] W (Ret W (.pointer (some ⟨T,0,none⟩))):=fun W hB=>by
   have:=ba.o W hB;exact Mag
  have gG:=zHi ej;obtain⟨H,ar,D,dc,frm,t1,t2,t3,t4,t5,t6,t7⟩:=dP;have bD:=zad t1;obtain⟨cv,lL,iO,iP,dC,cB,gF,HT⟩:=yH8 t1 t5 t6 t7 eY dl lW hT;have lB:=zHi dS;clear ej ba t1 t5 t6 t7 eY dl lW hT dS eE aQ bJ fS ap me fq cm aF hC hP hS cd d8;obtain⟨gpl,gcl,gfin,ghs,gdi⟩:=g;simp only at*;unfold zbe at cv;have k1:w.cell? ⟨T,1,none⟩=some (.int .i64 gcl):=Mcy;have k4:w.cell? ⟨T,4,none⟩=some (.slice H ghs.length ar):=Mcy;obtain⟨own,ae⟩:∃own,own=zab ghs fr:=⟨_,rfl⟩
  have dB:=zHi (fun W (hB:Below w.heap.size w W)=>zd6 ghs H ar T fr W ((hB.cell (p:=⟨T,4,none⟩) bD).trans k4) (Nat.lt_of_lt_of_le bD hB.size) MbC gF.o.good.asc (Ro.sl za0 (lL.o.keep hB)));have AC:=cv;rw[<-ae]at dB eX eC gQ cB;have fH:=dC.o;clear dC;simp only[<-ae,numZ]at fH;have dC:=zHi fH;clear fH;have eO:=zHi ae;clear ae;unfold za9 at dB;unfold Deed.v;simp only;go_enter Tryz.func97,Tryz.ntmps97
  go_upto_region 11 with(first
   |(go_at_call 48;refine(gG.o _ Bw).mono ?_;rintro e wq ⟨rfl,z,rfl⟩)
   |(go_at_call 146;refine(dB.o _ Bw).mono ?_;rintro e wq ⟨rfl,z2,rfl⟩)
   |(go_at_call 143;refine(oc.o _ Bw).mono ?_;intro e wq hq;rcases Ret.bools hq with⟨zq,rfl,⟨hb,rfl⟩|⟨hb,rfl⟩⟩<;>clear hq))
  all_goals(try(go_ret;exact zb0 HW.o Bw (by rw[dC.o];simp[*];done)))
  have HG:Hid (zbj s ⟨kd,dy,pl,fr,ts,cl,yr⟩=if(zcd ghs fr (zat ts)).2 then(s,8)else(s.withGrave i ⟨gpl,gcl,gfin,(zcd ghs fr (zat ts)).1,gdi⟩,0)):=by
   show _=_;rw[dC.o];simp[*];done
  clear dC gG oc dB;go_cut [5,6,7]from 8 (fun v5 v6 v7 wc=>v5=.pointer (some ⟨T,0,none⟩)/\∃O R,v6=.pointer (some ⟨O,0,none⟩)/\v7=.pointer (some ⟨R,0,none⟩)/\Below w.heap.size w wc/\w.heap.size<O/\O<R/\R<wc.heap.size/\wc.heap[w.heap.size]?=some (.cells #[.int .i64 kd,.int .i64 dy,.string pl,.string fr,.slice B ts.length c,.int .i64 cl,.int .i64 yr] 28)/\wc.heap[O]?=some (zba own)/\wc.heap[R]?=some (zba (zdO (ts.take 0))))
  case first=>
   go_wp2_with fail
   go_meet
   refine⟨rfl,_,_,rfl,rfl,Bw,by omega,?_,?_,?_,?_,?_⟩
   ·exact Maw
   ·exact Maw
   ·exact MaV
   ·exact MaP
   ·rw[rest_none];exact za3 _ _ _ (by first|rfl|simp[zae])
  case rest=>
   obtain⟨rfl,O,R,rfl,rfl,hB,hO,hR,uR,g0,g1,g2⟩:=hcut;obtain⟨d0,d1,d2,d3,d4,d5,d6⟩:=cF7 g0;have D4:=zHi d4;clear d0 d1 d2 d5 d6;go_wp2_with fail
   go_loopw [45] (fun i wr=>∃k:Nat,k<=ts.length/\i=.int .i64 k/\Below w.heap.size w wr/\R<wr.heap.size/\wr.heap[w.heap.size]?=some (.cells #[.int .i64 kd,.int .i64 dy,.string pl,.string fr,.slice B ts.length c,.int .i64 cl,.int .i64 yr] 28)/\wr.heap[O]?=some (zba own)/\wr.heap[R]?=some (zba (zdO (ts.take k)))) (fun i _=>ts.length-(intOf i).toNat)
   case atStart=>exact⟨0,Nat.zero_le _,rfl,hB,uR,g0,g1,g2⟩
   case round=>
    clear hB uR g0 g1 g2 d3 d4;obtain⟨k,hk,rfl,hB,uR,g0,g1,g2⟩:=hrel;have bP:=zhp hJ.o k;have am:=zlC (fun p hp=>(hJ.o p hp).1) (l:=ts) k;have dr:zaD (zdO (ts.take k)):=bP.small (by unfold zdO;have:=ul.o;grind) (by unfold zdO;grind);have uk:=zHi dr;clear bP am dr;by_cases aa:k<ts.length
    ·obtain⟨b',off,rfl,bE,hc⟩:=(HS.o.keep hB).at aa;have fU:=(hJ.o ts[k] (List.getElem_mem aa)).2.2;have mQ:=zj2 ts aa;generalize ts[k]=p at*;obtain⟨pn,pu,pd⟩:=p;generalize zdO (ts.take k)=q at*;have h0:wr.cell? ⟨b',off+k*3,none⟩=some (.string pn):=hc 0 _ rfl;have h1:wr.cell? ⟨b',off+k*3+1,none⟩=some (.int .i64 pu):=hc 1 _ rfl;have h2:wr.cell? ⟨b',off+k*3+2,none⟩=some (.int .i64 pd):=hc 2 _ rfl;obtain⟨nv,lJ⟩:=yH2 mQ (fun W=>subS_any q pu pd W uk.o fU);have r0:wr.cell? ⟨R,0,none⟩=some (.int .i64 q.num):=by simp only[World.cell?,g2,zba];rfl
     have r1:wr.cell? ⟨R,1,none⟩=some (.int .i64 q.den):=by simp only[World.cell?,g2,zba];rfl
     have r2:wr.frozen? ⟨R,0,none⟩=false:=by simp only[World.frozen?,g2,zba];rfl
     have r3:wr.frozen? ⟨R,1,none⟩=false:=by simp only[World.frozen?,g2,zba];rfl
     have ao:(k:Int)<(ts.length:Int):=MbC;have bf:(0:Int)<=(k:Int):=MbC;have eV:(k:Int)<=(c:Int):=MbC;have uP:R≠wr.heap.size:=MbC;have hOR:O≠R:=MbC;have hwR:w.heap.size≠R:=MbC;obtain⟨G0,G1,G2⟩:=yH3 g0 g1 g2;clear hc fU mQ g0 g1 g2;go_wp2_with (go_at_call 147;refine(lJ.o _).mono ?_;rintro e wq ⟨rfl,z,rfl⟩;simp only[za9])
     go_round
     case rel=>
      have g0:=G0.o;have g1:=G1.o;refine⟨k+1,by omega,by go_num,?_,by simp[zae];omega,by repeat(first|assumption|with_reducible refine zal ?_|with_reducible refine zbZ ?_|with_reducible refine J_ne MbC ?_),by repeat(first|assumption|with_reducible refine zal ?_|with_reducible refine zbZ ?_|with_reducible refine J_ne MbC ?_),?_⟩
      ·exact Bw
      ·rw[nv.o];(repeat(first|with_reducible refine zal ?_|with_reducible refine zbZ ?_))
       exact zga G2.o
     case measure=>simp[intOf];omega
    ·have ao:¬(k:Int)<(ts.length:Int):=MbC;rw[List.take_of_length_le MbC]at g2;obtain⟨W1,rfl⟩:∃x,x=wr:=⟨_,rfl⟩
     have t1:=(hB.block T bD).trans cv.o;obtain⟨m0,m1,m2,m3,m4,m5⟩:=cF6 t1;have BK:T<W1.heap.size:=zad t1;have BF:T≠W1.heap.size:=MbC;have uT:T≠W1.heap.size+1:=MbC;obtain⟨G0,G1,G2,AH⟩:=yH4 g0 g1 g2 t1;have bj:=zHi (fun W (hW:Below W1.heap.size W1 W)=>zdM ghs H ghs.length ar W rfl MbC (Ro.sl za0 ((lL.o.keep hB).keep hW)));clear g0 g1 g2 t1;go_upto_region 19 with fail
     go_cut [11]from 12 (fun v wc2=>v=.pointer (some ⟨W1.heap.size+1,0,none⟩)/\∃hv,MarkAt wc2 W1.heap.size false/\zbe wc2 (W1.heap.size+1) gpl gcl frm gfin hv (.slice D gdi.length dc)/\OwnS wc2 (W1.heap.size+1) 59 3 zaa hv ghs/\Below W1.heap.size W1 wc2)
     case first=>
      go_wp2_with (go_at_call 68
                   refine(bj.o _ Bw).mono ?_;rintro e wq ⟨hv,rfl,o1,o2⟩;obtain⟨A1,c1,mW,_,_⟩:=o1.sl za0;subst mW;have x1:wq.heap[W1.heap.size+1]?=some (.cells #[.string gpl,.int .i64 gcl,.int .i64 frm,.int .i64 gfin,.slice H ghs.length ar,.slice D gdi.length dc] 114):=(o2.block _ MbF).trans (za3 _ _ _ MbF);have x2:MarkAt wq W1.heap.size false:=(o2.block _ MbH).trans (zal (za3 _ _ _ rfl));have x3:=zad x1;have x4:wq.frozen? ⟨W1.heap.size+1,4,none⟩=false:=(by simp only[World.frozen?,x1];rfl)
                   have x5:wq.cell? ⟨W1.heap.size+1,4,none⟩=some (.slice H ghs.length ar):=(by simp only[World.cell?,x1];rfl)
                   obtain⟨X1,X2,O1,O2⟩:=yH4 x1 x2 o1 o2
                   clear x1 x2 o1 o2)
      go_meet
      have cw:Below W1.heap.size W1 wq:=Below.trans (zau (zau (Below.refl _ _) _) _ MbF) (O2.o.mono MbH);refine⟨rfl,_,J_ne MbC X2.o,zfk (show zbe wq _ gpl gcl frm gfin (.slice H ghs.length ar) (.slice D gdi.length dc) from X1.o) _,?_,zaU cw MbF _⟩;refine OwnS.base_le (OwnS.grown O1.o (zay _ _ _ _) (.inr fun e=>?_)) MbF;have:=(O1.o.ge _ e).1;simp at this;omega
     case rest=>
      obtain⟨rfl,hv,hm,bi,ct,bs⟩:=hcut;have bk:=bs.size;have bv:=zad bi;have e3:wc.cell? ⟨w.heap.size,3,none⟩=some (.string fr):=(za4 bs MbC).trans McC;have e4:wc.cell? ⟨w.heap.size,4,none⟩=some (.slice B ts.length c):=(za4 bs MbC).trans McC;have o0:wc.cell? ⟨O,0,none⟩=some (.int .i64 own.num):=(za4 bs MbC).trans Mca;have o1:wc.cell? ⟨O,1,none⟩=some (.int .i64 own.den):=(za4 bs MbC).trans Mca;have bR:ts.take k=ts:=List.take_of_length_le MbC;rw[bR]at uk;generalize hq:zdO ts=q at*;have r0:wc.cell? ⟨R,0,none⟩=some (.int .i64 q.num):=(za4 bs MbC).trans (by simp only[World.cell?,G2.o,zba];rfl);have r1:wc.cell? ⟨R,1,none⟩=some (.int .i64 q.den):=(za4 bs MbC).trans (by simp only[World.cell?,G2.o,zba];rfl);obtain⟨HQ,HM,ei,bV,b9⟩:=yH5 hq hm bi ct bs;clear hq hm bi ct bR m0 m1 m2 m3 m4 m5 bj;go_wp2_with fail
      go_region_held3 (fun w'=>w'.cell? ⟨w.heap.size,3,none⟩=some (.string fr)/\w'.cell? ⟨O,0,none⟩=some (.int .i64 own.num)/\w'.cell? ⟨O,1,none⟩=some (.int .i64 own.den)/\w'.cell? ⟨R,0,none⟩=some (.int .i64 q.num)/\w'.cell? ⟨R,1,none⟩=some (.int .i64 q.den))
       ((refine⟨?_,?_,?_,?_,?_⟩<;>first|assumption|(simp[go_sem,e3,o0,o1,r0,r1];done)))
       (first
         |(go_at_call 148
           go_loud(refine(zg2 W1.heap.size false _ HM.o.drew own q eC uk.o).mono ?_)
           rintro e wq ⟨rfl,m1,m2⟩;have p3:wq.cell? ⟨w.heap.size,3,none⟩=some (.string fr):=(by rw[zaN m2 MbH MbC];simpa[go_sem]using e3)
           have p0:wq.cell? ⟨O,0,none⟩=some (.int .i64 own.num):=(by rw[zaN m2 MbH MbC];simpa[go_sem]using o0)
           have p1:wq.cell? ⟨O,1,none⟩=some (.int .i64 own.den):=(by rw[zaN m2 MbH MbC];simpa[go_sem]using o1)
           have q0:wq.cell? ⟨R,0,none⟩=some (.int .i64 q.num):=(by rw[zaN m2 MbH MbC];simpa[go_sem]using r0)
           have q1:wq.cell? ⟨R,1,none⟩=some (.int .i64 q.den):=(by rw[zaN m2 MbH MbC];simpa[go_sem]using r1)
           obtain⟨M1,M2⟩:=yH2 m1 m2
           clear m1 m2)
         |(go_at_call 145
           refine(zha (W1.heap.size+1) (W1.heap.size+1) ghs hv gpl gcl frm gfin (.slice D gdi.length dc) fr (zaQ (own*q)) _ ?q1 (Nat.le_refl _) ?q2 gF.o.good.asc MbC).mono ?_
           case q1=>exact(M2.o.block _ MbH MbF).trans ei.o
           case q2=>exact OwnS.grown (W:=wc.drew) bV.o M2.o (.inr fun e=>by have:=(bV.o.ge _ e).1;omega)
           rintro e wz ⟨rfl,v',t1,t2,t3,_⟩;have s3:wz.cell? ⟨w.heap.size,3,none⟩=some (.string fr):=(za4 t3 MbC).trans p3;have s0:wz.cell? ⟨O,0,none⟩=some (.int .i64 own.num):=(za4 t3 MbC).trans p0;have s1:wz.cell? ⟨O,1,none⟩=some (.int .i64 own.den):=(za4 t3 MbC).trans p1;have u0:wz.cell? ⟨R,0,none⟩=some (.int .i64 q.num):=(za4 t3 MbC).trans q0;have u1:wz.cell? ⟨R,1,none⟩=some (.int .i64 q.den):=(za4 t3 MbC).trans q1;obtain⟨T1,T2,T3⟩:=yH3 t1 t2 t3
           clear t1 t2 t3))
      have M:=zHi (show MarkAt wz W1.heap.size (bigQ (own*q)) by have:=M1.o.keep T3.o MbC;simpa using this);have s4:wz.cell? ⟨w.heap.size,4,none⟩=some (.slice B ts.length c):=(za4 T3.o MbC).trans ((zaN M2.o MbH MbC).trans (by simpa[go_sem]using e4));have wF:=zHi (Below.trans (zaF (zaI b9.o) M2.o (Nat.le_refl _)) (T3.o.mono MbC));have kE:=zhe (n:=fr) (q:=zaQ (own*q)) (l:=ghs);have nr:=zHi kE;clear M1 M2 T3 ei bV HM b9 e3 e4 o0 o1 r0 r1 p3 p0 p1 q0 q1 s3 s0 s1 u0 u1 kE;go_wp2_with fail
      go_loopw [72] (fun i wr=>∃(k:Nat) (v:Value) (out:Parts) (fl:Bool),k<=ts.length/\i=.int .i64 k/\Hid ((out,fl)=zdy own (zat (ts.take k)) (setP ghs fr (zaQ (own*q)),bigQ (own*q)))/\Hid (out.length<=ghs.length+1+k)/\MarkAt wr W1.heap.size fl/\zbe wr (W1.heap.size+1) gpl gcl frm gfin v (.slice D gdi.length dc)/\OwnS wr (W1.heap.size+1) 59 3 zaa v out/\Below W1.heap.size W1 wr/\W1.heap.size+1<wr.heap.size) (fun i _=>ts.length-(intOf i).toNat)
      case atStart=>exact⟨0,v',_,_,Nat.zero_le _,rfl,rfl,nr.o,M.o,T1.o,T2.o,wF.o,zad T1.o⟩
      case round=>
       clear nr M T1 T2 wF s4 bk bv;obtain⟨k2,v,out,fl,eR,rfl,HX,eb,hm,bi,ct,dO,dr⟩:=hrel;obtain⟨A1,c1,rfl,lZ,gM⟩:=ct.sl za0;have au:Below w.heap.size w wr:=hB.trans (dO.mono MbC);have dl:Bd out 1:=by have:=cB.o k2;rw[<-HX.o]at this;exact this
       obtain⟨HD,HM,ei,bV,Al,nh⟩:=yH6 dl hm bi ct lZ dO;have rO:wr.cell? ⟨W1.heap.size+1,4,none⟩=some (.slice A1 out.length c1):=Mb2;clear hm bi ct lZ dl;by_cases aT:k2<ts.length
       ·obtain⟨b',off,rfl,bE,hc⟩:=(HS.o.keep au).at aT;obtain⟨eD,ja,fU⟩:=hJ.o ts[k2] (List.getElem_mem aT);have aw:=gain_snoc own ts (setP ghs fr (zaQ (own*q)),bigQ (own*q)) aT;rw[<-HX.o]at aw;generalize ts[k2]=p at*;obtain⟨pn,pu,pd⟩:=p;obtain⟨_,_,sr0,sr1⟩:=zbo fU;have i0:wr.cell? ⟨b',off+k2*3,none⟩=some (.string pn):=hc 0 _ rfl;have i1:wr.cell? ⟨b',off+k2*3+1,none⟩=some (.int .i64 pu):=hc 1 _ rfl;have i2:wr.cell? ⟨b',off+k2*3+2,none⟩=some (.int .i64 pd):=hc 2 _ rfl;have o0:wr.cell? ⟨O,0,none⟩=some (.int .i64 own.num):=(za4 nh.o MbC).trans Mca;have o1:wr.cell? ⟨O,1,none⟩=some (.int .i64 own.den):=(za4 nh.o MbC).trans Mca;have qs:zaD (zaQ (own*Rat.divInt pu pd)):=zcl (zcc (Rat.mul_nonneg eX sr0)) (Rat.le_trans (zfH (Rat.mul_nonneg eX sr0)) (zii eX gQ sr0 sr1)) (zfo _);obtain⟨bU,lq⟩:=yH2 aw qs;have ao:(k2:Int)<(ts.length:Int):=MbC;have bf:(0:Int)<=(k2:Int):=MbC;have eV:(k2:Int)<=(c:Int):=MbC;have hOn:O≠wr.heap.size:=MbC;have uO:O<wr.heap.size:=MbC;have sY:out.length<=90000:=by have:=eb.o;omega
        clear hc aw qs eD ja sr0 sr1
        go_wp2_with (go_at_call 148
                     refine(mulS_any W1.heap.size fl _ (HM.o.alloc _) own pu pd eC fU).mono ?_;rintro e wq ⟨rfl,m1,m2⟩;have jU:=m2.size;have y0:wq.heap[wr.heap.size]?=some (.cells #[.string pn,.int .i64 pu,.int .i64 pd] 59):=(m2.block _ MbF MbH).trans (za3 _ _ _ rfl);have y1:wq.cell? ⟨wr.heap.size,0,none⟩=some (.string pn):=(by simp only[World.cell?,y0];rfl)
                     have y3:wr.heap.size<wq.heap.size:=zad y0;obtain⟨M1,M2⟩:=yH2 m1 m2;clear m1 m2 y0
                     simp only[za9])
        have pH:OwnS wq (W1.heap.size+1) 59 3 zaa (.slice A1 out.length c1) out:=OwnS.grown (W:=wr.alloc _) (bV.o.keep (n:=wr.heap.size) (zau (Below.refl _ _) _)) M2.o (.inr fun e=>by have:=(bV.o.ge _ e).1;omega);have ib:zbe wq (W1.heap.size+1) gpl gcl frm gfin (.slice A1 out.length c1) (.slice D gdi.length dc):=(M2.o.block _ MbH MbF).trans (zal ei.o);have jg:wq.cell? ⟨W1.heap.size+1,4,none⟩=some (.slice A1 out.length c1):=by unfold zbe at ib;simp only[World.cell?,ib];rfl
        have br:W1.heap.size+1<wq.heap.size:=zad ib;obtain⟨OQ,TQ⟩:=yH2 pH ib;have iI:zaD (zab out pn):=HD.o.share Rat.le_refl pn;generalize cy:zaQ (own*Rat.divInt pu pd)=gt at*;generalize jb:zab out pn=sv at*;obtain⟨oH,dB,cD⟩:=yH3 cy jb iI;have jd:wr.heap.size≠wq.heap.size:=MbC;have zk:W1.heap.size+1≠wq.heap.size:=MbC;clear pH ib iI cy jb i0 i1 i2 o0 o1;go_region_held3 (fun w'=>w'.cell? ⟨wr.heap.size,0,none⟩=some (.string pn)/\w'.cell? ⟨wq.heap.size,0,none⟩=some (.int .i64 gt.num)/\w'.cell? ⟨wq.heap.size,1,none⟩=some (.int .i64 gt.den))
         ((refine⟨?_,?_,?_⟩<;>first|assumption|(simp[go_sem,y1,y3];done)))
         (first
           |(go_at_call 146
             go_loud(refine(zd6 out A1 c1 (W1.heap.size+1) pn _ ?q1 ?q2 MbC HD.o.good.asc (Sl.keep (OQ.o.sl' za0) (n:=wq.heap.size) Bw)).mono ?_)
             case q1=>simp[go_sem,jg,br]
             case q2=>simp;omega
             rintro e w5 ⟨rfl,zs,rfl⟩;rw[dB.o]
             simp only[za9])
           |(go_at_call 73
             go_loud(refine(zg3 W1.heap.size (fl||bigQ (own*Rat.divInt pu pd)) _ ?q3 sv gt cD.o lq.o).mono ?_)
             case q3=>(repeat(first|exact M1.o|refine MarkAt.ext ?_ _|refine MarkAt.drew ?_|refine MarkAt.alloc ?_ _))
             rintro e w6 ⟨rfl,n1,n2⟩;have p3:w6.cell? ⟨wr.heap.size,0,none⟩=some (.string pn):=Mch;have p0:w6.cell? ⟨wq.heap.size,0,none⟩=some (.int .i64 gt.num):=MbS;have p1:w6.cell? ⟨wq.heap.size,1,none⟩=some (.int .i64 gt.den):=MbS;obtain⟨N1,N2⟩:=yH2 n1 n2;clear n1 n2
             simp only[za9])
           |(go_at_call 145
             go_loud(refine(zha (W1.heap.size+1) (W1.heap.size+1) out (.slice A1 out.length c1) gpl gcl frm gfin (.slice D gdi.length dc) pn (zaQ (sv+gt)) _ ?q4 (Nat.le_refl _) ?q5 HD.o.good.asc sY).mono ?_)
             case q4=>exact(N2.o.block _ MbM MbF).trans Mcb
             case q5=>exact OwnS.grown (OQ.o.keep (n:=wq.heap.size) Bw) N2.o (.inr fun e=>by have:=(OQ.o.ge _ e).1;omega)
             rintro e wz ⟨rfl,v',t1,t2,t3,t4⟩;have s3:wz.cell? ⟨wr.heap.size,0,none⟩=some (.string pn):=(World.cell?_of_block (w:=w6) (t4 wr.heap.size MbR MbC (fun e=>by have:=(bV.o.ge _ e).2;omega))).trans p3;have s0:wz.cell? ⟨wq.heap.size,0,none⟩=some (.int .i64 gt.num):=(World.cell?_of_block (w:=w6) (t4 wq.heap.size MbR MbC (fun e=>by have:=(bV.o.ge _ e).2;omega))).trans p0;have s1:wz.cell? ⟨wq.heap.size,1,none⟩=some (.int .i64 gt.den):=(World.cell?_of_block (w:=w6) (t4 wq.heap.size MbR MbC (fun e=>by have:=(bV.o.ge _ e).2;omega))).trans p1;obtain⟨T1,T2,T3⟩:=yH3 t1 t2 t3
             clear t1 t2 t3))
        have tK:Hid (zeg own (pn,Rat.divInt pu pd) (out,fl)=(setP out pn (zaQ (sv+gt)),fl||bigQ (own*Rat.divInt pu pd)||bigQ (sv+gt))):=by
         show _=_;unfold zeg;simp only[oH.o,dB.o]
        have cY:MarkAt wz W1.heap.size (fl||bigQ (own*Rat.divInt pu pd)||bigQ (sv+gt)):=N1.o.keep T3.o MbC;have kf:=zHi cY;have ey:=zhe (n:=pn) (q:=zaQ (sv+gt)) (l:=out);have dY:=zHi ey;have cT:Below W1.heap.size W1 wz:=by
         have h1:Below W1.heap.size W1 wq:=zaF (zau nh.o _) M2.o (Nat.le_refl _);have h2:Below W1.heap.size W1 w6:=zaF (W:=((wq.alloc (.cells #[.int .i64 gt.num,.int .i64 gt.den] 54)).drew).ext zs) Bw N2.o (Nat.le_refl _);exact h2.trans (T3.o.mono MbC)
        have dK:=zHi cT;have bH:=zad T1.o;clear cY ey cT p3 p0 p1 s3 s0 s1 y1;go_wp2_with fail
        go_round
        case rel=>
         have kA:=tK.o.symm.trans bU.o.symm;have kG:(setP out pn (zaQ (sv+gt))).length<=ghs.length+1+(k2+1):=by have:=dY.o;have:=eb.o;omega
         (repeat apply Exists.intro)
         exact⟨⟨k2+1,v',setP out pn (zaQ (sv+gt)),_,by omega,by go_num,kA,kG,kf.o,T1.o,T2.o,dK.o,bH⟩,rfl⟩
        case measure=>simp[intOf];omega
       ·have ao:¬(k2:Int)<(ts.length:Int):=MbC;have jf:(out,fl)=zcd ghs fr (zat ts):=by
         rw[HX.o,List.take_of_length_le MbC];unfold zcd;rw[<-eO.o,show(1:Rat)-sumQ (zat ts)=q from HQ.o]
        have ft:=(au.block T bD).trans cv.o;obtain⟨iL,aM⟩:=yH2 ft au;have BT:wr.cell? ⟨W1.heap.size,0,none⟩=some (.bool fl):=(zb7 HM.o).1;have dM:=HG.o;rw[<-jf]at dM;clear jf HX cB gF au;cases fl
        ·have np:=zHi dM;have bi:=ei.o;unfold zbe at bi;obtain⟨n0,n1,n2,n3,-,n5⟩:=cF6 bi;obtain⟨z0,z1,z2,z3,z4,z5⟩:=cF6 ft;have fz:∀j,wr.frozen? ⟨T,j,none⟩=false:=fun j=>by simp only[World.frozen?,ft];rfl
         clear dM bi ft;go_wp2_with fail
         go_ret
         have au:=aM.o;have gB:Ro wr 59 zaa A1 out:=bV.o.ro';have hN:TombAt ((((((wr.setCell ⟨T,0,none⟩ (.string gpl)).setCell ⟨T,1,none⟩ (.int .i64 gcl)).setCell ⟨T,2,none⟩ (.int .i64 frm)).setCell ⟨T,3,none⟩ (.int .i64 gfin)).setCell ⟨T,4,none⟩ (.slice A1 out.length c1)).setCell ⟨T,5,none⟩ (.slice D gdi.length dc)) base Bk T ⟨gpl,gcl,gfin,out,gdi⟩:=
          ⟨A1,c1,D,dc,frm,zho iL.o _ _ _ _ _ _,t2,gM,t4,gB.kept (zbD _ _ _ _ _ _ _ _) iL.o MbD,(iO.o.keep au).kept (zbD _ _ _ _ _ _ _ _) iL.o MbD,iP.o⟩
         have am:=zhn ax (HC.o.keep au) (HP.o.keep au) (HT.o.keep au) lB.o iL.o (zbD wr T _ _ _ _ _ _) hN;have cj:Below base w wr:=au.mono MbC;have dG:=zaF cj (zbD wr T (.string gpl) (.int .i64 gcl) (.int .i64 frm) (.int .i64 gfin) (.slice A1 out.length c1) (.slice D gdi.length dc)) t2 MbC;have be:zbj s ⟨kd,dy,pl,fr,ts,cl,yr⟩=(s.withGrave i ⟨gpl,gcl,gfin,out,gdi⟩,0):=np.o.trans (if_neg MbF);exact Mak
        ·exact Man
