import Derived.Test.YtbobmplpdmplkaaGreatDoorJH
set_option linter.all false
set_option maxRecDepth 100000
set_option maxHeartbeats 4000000
namespace Go.Proofs.YtbobmplpdmplkaaGreatDoor
open Go.RowKit Go.Shelf
attribute [local go_sem] World.cell?_alloc_mark zaf za4 zam za7 zaw zax zay zaz za0 za1 za2
attribute [local go_sem] zan zac
theorem OwnS.base_le{α:Type}{W:World}{base base':Nat}{e:TypeId}{size:Nat}{f:α->List Value}{v:Value}{xs:List α}(h:OwnS W base e size f v xs)(hb:base'<=base):OwnS W base' e size f v xs:=by
 rcases h with h|⟨g,o,cap,cur,rfl,h1,h2⟩
 ·exact .inl h
 ·exact .inr ⟨g,o,cap,cur,rfl,Nat.le_trans hb h1,h2⟩
theorem zjB{a b:Rat}(ha:0<=a)(tN:a<=1)(hb:0<=b)(aS:b<=1):a*b<=1:=by
 have:=Rat.mul_nonneg ha (show 0<=1-b by grind);grind
theorem OwnS.sl'{α:Type}{W:World}{base:Nat}{e:TypeId}{size n c:Nat}{f:α->List Value}{A:Option Addr}{xs:List α}(ag:∀x,(f x).length=size)(h:OwnS W base e size f (.slice A n c) xs):Sl W size f A xs:=by
 obtain⟨A2,c2,e,hs,_⟩:=h.sl ag;cases e;exact hs
theorem OwnS.ro'{α:Type}{W:World}{base:Nat}{e:TypeId}{size n c:Nat}{f:α->List Value}{A:Option Addr}{xs:List α}(h:OwnS W base e size f (.slice A n c) xs):Ro W e f A xs:=by
 obtain⟨A2,c2,e,_,hs⟩:=h.ro;cases e;exact hs
theorem Bd.up{out:Parts}{t u:Rat}(h:Bd out t)(hu:t<=u):Bd out u:=⟨h.good,h.small,Rat.le_trans h.le hu⟩
theorem zi2{g:Grave}{frm:ByteArray}{ts:List RPart}(hG:GoodG g)(h:∀p∈ts,0<p.rat/\IsN 720720 p.rat/\za8 16 p.num p.den=true)(h1:sumQ (zao ts)<=1):
 0<=zag g.holders frm/\zaI (zag g.holders frm)/\zag g.holders frm<=1/\∀k,Bd (zec (zag g.holders frm) (zao (ts.take k)) (setP g.holders frm (zbg (zag g.holders frm*zeB ts)),bigQ (zag g.holders frm*zeB ts))).1 1:=by
 have ho:=zb9 hG.good frm;have bI:=zdv hG.good frm;have dO:sumQ g.holders<=1:=by
  rcases hG.one with h|h
  ·rw[h];decide
  ·rw[h];exact Rat.le_refl
 have aq:=fun k=>znN (fun p hp=>(h p hp).1) (l:=ts) k
 have h0:=(aq 0)
 have Fj:0<=sumQ (zao ts):=Rat.le_trans h0.1 h0.2;have hr:0<=zag g.holders frm*zeB ts:=Rat.mul_nonneg ho (by unfold zeB;grind);have hb:Bd (setP g.holders frm (zbg (zag g.holders frm*zeB ts))) (1-zag g.holders frm*sumQ (zao ts)):=by
  refine⟨zhA hG.good (zcu hr),zen hG.small (zgk _),?_⟩;rw[zm0 hG.good];have:=zgV hr;unfold zeB at*;grind
 refine⟨ho,zbZ ho Mc0 (zcL frm hG.small),by grind,fun k=>?_⟩
 have:=zm1 ho (l:=zao (ts.take k)) (f:=bigQ (zag g.holders frm*zeB ts)) (fun p hp=>by
  obtain⟨q,hq,rfl⟩:=List.mem_map.1 hp;have:=(h q (List.mem_of_mem_take hq)).1;show 0<=q.rat
  grind) hb
 refine this.up ?_;have h3:=Rat.mul_nonneg ho (show 0<=sumQ (zao ts)-sumQ (zao (ts.take k)) by have:=(aq k).2;grind);grind
theorem gain_snoc(own:Rat)(ts:List RPart)(x:Parts×Bool){k:Nat}(h:k<ts.length):zec own (zao (ts.take (k+1))) x=zeY own (ts[k].name,ts[k].rat) (zec own (zao (ts.take k)) x):=by
 rw[List.take_succ_eq_append_getElem h];unfold zao;rw[List.map_append,zeZ];rfl
theorem rest_none(ts:List RPart):zeB (ts.take 0)=1:=by
 show(1:Rat)-0=1;grind
def zbu(q:Rat):Obj:=.cells #[.int .i64 q.num,.int .i64 q.den] 31
theorem zls(base b:Nat)(s:St)(la co last:Int)(d:Deed)(B:Option Addr)(c:Nat)(w:World)(hW:WldAt base w b s la co)(j9:GoodSt s last)(hd:OkD d)(hk:d.kind=1)(ag:s.graves.length<=1000)(cz:∀g∈s.graves,g.holders.length<=10000)(ay:d.to.length<=c)(hS:Sl w 3 RPart.cells B d.to):
 Calls Tryz.prog 122 #[.pointer (some ⟨b,0,none⟩),d.v B c] w (zbH base b (zbp s d) la co w):=by
 have hp:=(hd.parts (.inr (.inl hk))).2;obtain⟨bA,dO,_,_⟩:=zdW hp;have bu:=hd.len;clear hp hd hk
 have ry:=fun i g h1 h2 h3=>zlr (s:=s) (d:=d) (i:=i) (g:=g) h1 h2 h3 (fun p hp=>by
  obtain⟨q,hq,rfl⟩:=List.mem_map.1 hp;have:=(bA q hq).1;show 0<=q.rat
  grind) dO
 have am:=hW;obtain⟨Bk,dd,cc,pp,wl,rr,mv,tv,ps,ba,hC,hP,hT⟩:=hW;have dg:=zab hC;obtain⟨kd,dy,pl,fr,ts,cl,yr⟩:=d;simp only at*;obtain⟨bW,uo,HW,gK,nk,HC,HP,HS⟩:=yH8 (fun W (hB:Below w.heap.size w W)=>zjA base b s la co pl dy W (hC.keep hB) (hT.keep hB) Mcy) (fun W (hB:Below w.heap.size w W)=>zis base b s ts B _ c W rfl Mcy (am.peo.keep hB) (hS.keep hB)) am bA dO hC hP hS;cases aU:zaR s pl dy with
 |none=>
  rw[aU]at bW;have HG:Hid (zbp s ⟨kd,dy,pl,fr,ts,cl,yr⟩=(s,6)):=by show _=_;simp[zbp,aU]
  clear aU ry am hC hP hT hS bA dO;unfold Deed.v;simp only;go_enter Tryz.func122,Tryz.ntmps122
  exact M9
 |some i=>
  obtain⟨T,g,gZ,iw,aO,bN,gR,km⟩:=zet hT aU;have ra:=j9.graves g (List.mem_of_getElem? aO);have s9:=cz g (List.mem_of_getElem? aO);have iP:=ry i g aU bN ra;obtain⟨iJ,iv,l9,dl⟩:=zi2 (frm:=fr) ra bA dO;have ig:∀W,Below w.heap.size w W->Calls Tryz.prog 31 #[.pointer (some ⟨b,0,none⟩),.string pl,.int .i64 dy] W (Ret W (.pointer (some ⟨T,0,none⟩))):=fun W hB=>by
   have:=bW.o W hB;exact MaM
  have kJ:=zHi ig;obtain⟨H,aN,D,dc,frm,t1,t2,t3,t4,t5,t6,t7⟩:=gR;have df:=zab t1;obtain⟨ez,qL,kQ,nt,g9,dh,eb,HT⟩:=yH8 t1 t5 t6 t7 iP dl ra hT;have qD:=zHi gZ;clear ig bW t1 t5 t6 t7 iP dl ra hT gZ iw bN aO km aU ry j9 cz am hC hP hS bA dO;obtain⟨gpl,gcl,gfin,ghs,gdi⟩:=g;simp only at*;unfold zby at ez;have k1:w.cell? ⟨T,1,none⟩=some (.int .i64 gcl):=Md5;have k4:w.cell? ⟨T,4,none⟩=some (.slice H ghs.length aN):=Md5;obtain⟨own,aa⟩:∃own,own=zag ghs fr:=⟨_,rfl⟩
  have g8:=zHi (fun W (hB:Below w.heap.size w W)=>zer ghs H aN T fr W ((hB.cell (p:=⟨T,4,none⟩) df).trans k4) (Nat.lt_of_lt_of_le df hB.size) Mcy eb.o.good.asc (Ro.sl zap (qL.o.keep hB)));have IC:=ez;rw[<-aa]at g8 iJ iv l9 dh;have jw:=g9.o;clear g9;simp only[<-aa,numZ]at jw;have g9:=zHi jw;clear jw;have dH:=zHi aa;clear aa;unfold zaA at g8;unfold Deed.v;simp only;go_enter Tryz.func122,Tryz.ntmps122
  go_upto_region 11 with(first
   |(go_at_call 31;refine(kJ.o _ Bw).mono ?_;rintro e wq ⟨rfl,z,rfl⟩)
   |(go_at_call 32;refine(g8.o _ Bw).mono ?_;rintro e wq ⟨rfl,z2,rfl⟩)
   |(go_at_call 150;refine(uo.o _ Bw).mono ?_;intro e wq hq;rcases Ret.bools hq with⟨zq,rfl,⟨hb,rfl⟩|⟨hb,rfl⟩⟩<;>clear hq))
  all_goals(try(go_ret;exact zbN HW.o Bw (by rw[g9.o];simp[*];done)))
  have HG:Hid (zbp s ⟨kd,dy,pl,fr,ts,cl,yr⟩=if(zcv ghs fr (zao ts)).2 then(s,8)else(s.withGrave i ⟨gpl,gcl,gfin,(zcv ghs fr (zao ts)).1,gdi⟩,0)):=by
   show _=_;rw[g9.o];simp[*];done
  clear g9 kJ uo g8;go_cut [5,6,7]from 8 (fun v5 v6 v7 wc=>v5=.pointer (some ⟨T,0,none⟩)/\∃O R,v6=.pointer (some ⟨O,0,none⟩)/\v7=.pointer (some ⟨R,0,none⟩)/\Below w.heap.size w wc/\w.heap.size<O/\O<R/\R<wc.heap.size/\wc.heap[w.heap.size]?=some (.cells #[.int .i64 kd,.int .i64 dy,.string pl,.string fr,.slice B ts.length c,.int .i64 cl,.int .i64 yr] 76)/\wc.heap[O]?=some (zbu own)/\wc.heap[R]?=some (zbu (zeB (ts.take 0))))
  case first=>
   go_wp2_with fail
   go_meet
   refine⟨rfl,_,_,rfl,rfl,Bw,by omega,?_,?_,?_,?_,?_⟩
   ·exact Ma8
   ·exact Ma8
   ·exact MbA
   ·exact Mbs
   ·rw[rest_none];exact zar _ _ _ MdO
  case rest=>
   obtain⟨rfl,O,R,rfl,rfl,hB,hO,hR,C8,g0,g1,g2⟩:=hcut;obtain⟨d0,d1,d2,d3,d4,d5,d6⟩:=cF7 g0;have D4:=zHi d4;clear d0 d1 d2 d5 d6;go_wp2_with fail
   go_loopw [45] (fun i wr=>∃k:Nat,k<=ts.length/\i=.int .i64 k/\Below w.heap.size w wr/\R<wr.heap.size/\wr.heap[w.heap.size]?=some (.cells #[.int .i64 kd,.int .i64 dy,.string pl,.string fr,.slice B ts.length c,.int .i64 cl,.int .i64 yr] 76)/\wr.heap[O]?=some (zbu own)/\wr.heap[R]?=some (zbu (zeB (ts.take k)))) (fun i _=>ts.length-(intOf i).toNat)
   case atStart=>exact⟨0,Nat.zero_le _,rfl,hB,C8,g0,g1,g2⟩
   case round=>
    clear hB C8 g0 g1 g2 d3 d4;obtain⟨k,hk,rfl,hB,C8,g0,g1,g2⟩:=hrel;have dI:=zi1 gK.o k;have aq:=znN (fun p hp=>(gK.o p hp).1) (l:=ts) k;have aV:zaI (zeB (ts.take k)):=dI.small (by unfold zeB;have:=nk.o;grind) (by unfold zeB;grind);have vk:=zHi aV;clear dI aq aV;by_cases ae:k<ts.length
    ·obtain⟨b',off,rfl,cJ,hc⟩:=(HS.o.keep hB).at ae;have gB:=(gK.o ts[k] (List.getElem_mem ae)).2.2;have lh:=zlq ts ae;generalize ts[k]=p at*;obtain⟨pn,pu,pd⟩:=p;generalize zeB (ts.take k)=q at*;have h0:wr.cell? ⟨b',off+k*3,none⟩=some (.string pn):=hc 0 _ rfl;have h1:wr.cell? ⟨b',off+k*3+1,none⟩=some (.int .i64 pu):=hc 1 _ rfl;have h2:wr.cell? ⟨b',off+k*3+2,none⟩=some (.int .i64 pd):=hc 2 _ rfl;obtain⟨pm,Bo⟩:=yH2 lh (fun W=>subS_any q pu pd W vk.o gB);have r0:wr.cell? ⟨R,0,none⟩=some (.int .i64 q.num):=by simp only[World.cell?,g2,zbu];rfl
     have r1:wr.cell? ⟨R,1,none⟩=some (.int .i64 q.den):=by simp only[World.cell?,g2,zbu];rfl
     have r2:wr.frozen? ⟨R,0,none⟩=false:=by simp only[World.frozen?,g2,zbu];rfl
     have r3:wr.frozen? ⟨R,1,none⟩=false:=by simp only[World.frozen?,g2,zbu];rfl
     have ar:(k:Int)<(ts.length:Int):=Mcy;have aQ:(0:Int)<=(k:Int):=Mcy;have fq:(k:Int)<=(c:Int):=Mcy;have C6:R≠wr.heap.size:=Mcy;have hOR:O≠R:=Mcy;have hwR:w.heap.size≠R:=Mcy;obtain⟨G0,G1,G2⟩:=yH3 g0 g1 g2;clear hc gB lh g0 g1 g2;go_wp2_with (go_at_call 153;refine(Bo.o _).mono ?_;rintro e wq ⟨rfl,z,rfl⟩;simp only[zaA])
     go_round
     case rel=>
      have g0:=G0.o;have g1:=G1.o;refine⟨k+1,by omega,by go_num,?_,by simp[zaf];omega,by repeat(first|assumption|with_reducible refine zal ?_|with_reducible refine zbD ?_|with_reducible refine J_ne Mcy ?_),by repeat(first|assumption|with_reducible refine zal ?_|with_reducible refine zbD ?_|with_reducible refine J_ne Mcy ?_),?_⟩
      ·exact Bw
      ·rw[pm.o];(repeat(first|with_reducible refine zal ?_|with_reducible refine zbD ?_))
       exact zek G2.o
     case measure=>simp[intOf];omega
    ·have ar:¬(k:Int)<(ts.length:Int):=Mcy;rw[List.take_of_length_le Mcy]at g2;obtain⟨W1,rfl⟩:∃x,x=wr:=⟨_,rfl⟩
     have t1:=(hB.block T df).trans ez.o;obtain⟨m0,m1,m2,m3,m4,m5⟩:=cF6 t1;have JH:T<W1.heap.size:=zab t1;have JC:T≠W1.heap.size:=Mcy;have we:T≠W1.heap.size+1:=Mcy;obtain⟨G0,G1,G2,II⟩:=yH4 g0 g1 g2 t1;have ct:=zHi (fun W (hW:Below W1.heap.size W1 W)=>ze9 ghs H ghs.length aN W rfl Mcy (Ro.sl zap ((qL.o.keep hB).keep hW)));clear g0 g1 g2 t1;go_upto_region 19 with fail
     go_cut [11]from 12 (fun v wc2=>v=.pointer (some ⟨W1.heap.size+1,0,none⟩)/\∃hv,MarkAt wc2 W1.heap.size false/\zby wc2 (W1.heap.size+1) gpl gcl frm gfin hv (.slice D gdi.length dc)/\OwnS wc2 (W1.heap.size+1) 71 3 zaa hv ghs/\Below W1.heap.size W1 wc2)
     case first=>
      go_wp2_with (go_at_call 154
                   refine(ct.o _ Bw).mono ?_;rintro e wq ⟨hv,rfl,o1,o2⟩;obtain⟨A1,c1,sO,_,_⟩:=o1.sl zap;subst sO;have x1:wq.heap[W1.heap.size+1]?=some (.cells #[.string gpl,.int .i64 gcl,.int .i64 frm,.int .i64 gfin,.slice H ghs.length aN,.slice D gdi.length dc] 95):=(o2.block _ McB).trans (zar _ _ _ McB);have x2:MarkAt wq W1.heap.size false:=(o2.block _ McD).trans (zal (zar _ _ _ rfl));have x3:=zab x1;have x4:wq.frozen? ⟨W1.heap.size+1,4,none⟩=false:=(by simp only[World.frozen?,x1];rfl)
                   have x5:wq.cell? ⟨W1.heap.size+1,4,none⟩=some (.slice H ghs.length aN):=(by simp only[World.cell?,x1];rfl)
                   obtain⟨X1,X2,O1,O2⟩:=yH4 x1 x2 o1 o2
                   clear x1 x2 o1 o2)
      go_meet
      have bs:Below W1.heap.size W1 wq:=Below.trans (zad (zad (Below.refl _ _) _) _ McB) (O2.o.mono McD);refine⟨rfl,_,J_ne Mcy X2.o,zgr (show zby wq _ gpl gcl frm gfin (.slice H ghs.length aN) (.slice D gdi.length dc) from X1.o) _,?_,zaP bs McB _⟩;refine OwnS.base_le (OwnS.grown O1.o (zav _ _ _ _) (.inr fun e=>?_)) McB;have:=(O1.o.ge _ e).1;simp at this;omega
     case rest=>
      obtain⟨rfl,hv,hm,cr,eh,bG⟩:=hcut;have bn:=bG.size;have bM:=zab cr;have e3:wc.cell? ⟨w.heap.size,3,none⟩=some (.string fr):=(zah bG Mcy).trans Md8;have e4:wc.cell? ⟨w.heap.size,4,none⟩=some (.slice B ts.length c):=(zah bG Mcy).trans Md8;have o0:wc.cell? ⟨O,0,none⟩=some (.int .i64 own.num):=(zah bG Mcy).trans Mdt;have o1:wc.cell? ⟨O,1,none⟩=some (.int .i64 own.den):=(zah bG Mcy).trans Mdt;have bV:ts.take k=ts:=List.take_of_length_le Mcy;rw[bV]at vk;generalize hq:zeB ts=q at*;have r0:wc.cell? ⟨R,0,none⟩=some (.int .i64 q.num):=(zah bG Mcy).trans (by simp only[World.cell?,G2.o,zbu];rfl);have r1:wc.cell? ⟨R,1,none⟩=some (.int .i64 q.den):=(zah bG Mcy).trans (by simp only[World.cell?,G2.o,zbu];rfl);obtain⟨HQ,HM,fh,dR,aJ⟩:=yH5 hq hm cr eh bG;clear hq hm cr eh bV m0 m1 m2 m3 m4 m5 ct;go_wp2_with fail
      go_region_held3 (fun w'=>w'.cell? ⟨w.heap.size,3,none⟩=some (.string fr)/\w'.cell? ⟨O,0,none⟩=some (.int .i64 own.num)/\w'.cell? ⟨O,1,none⟩=some (.int .i64 own.den)/\w'.cell? ⟨R,0,none⟩=some (.int .i64 q.num)/\w'.cell? ⟨R,1,none⟩=some (.int .i64 q.den))
       ((refine⟨?_,?_,?_,?_,?_⟩<;>first|assumption|(simp[go_sem,e3,o0,o1,r0,r1];done)))
       (first
         |(go_at_call 155
           go_loud(refine(zhE W1.heap.size false _ HM.o.drew own q iv vk.o).mono ?_)
           rintro e wq ⟨rfl,m1,m2⟩;have p3:wq.cell? ⟨w.heap.size,3,none⟩=some (.string fr):=(by rw[zbb m2 McD Mcy];simpa[go_sem]using e3)
           have p0:wq.cell? ⟨O,0,none⟩=some (.int .i64 own.num):=(by rw[zbb m2 McD Mcy];simpa[go_sem]using o0)
           have p1:wq.cell? ⟨O,1,none⟩=some (.int .i64 own.den):=(by rw[zbb m2 McD Mcy];simpa[go_sem]using o1)
           have q0:wq.cell? ⟨R,0,none⟩=some (.int .i64 q.num):=(by rw[zbb m2 McD Mcy];simpa[go_sem]using r0)
           have q1:wq.cell? ⟨R,1,none⟩=some (.int .i64 q.den):=(by rw[zbb m2 McD Mcy];simpa[go_sem]using r1)
           obtain⟨M1,M2⟩:=yH2 m1 m2
           clear m1 m2)
         |(go_at_call 152
           refine(zir (W1.heap.size+1) (W1.heap.size+1) ghs hv gpl gcl frm gfin (.slice D gdi.length dc) fr (zbg (own*q)) _ ?q1 (Nat.le_refl _) ?q2 eb.o.good.asc Mcy).mono ?_
           case q1=>exact(M2.o.block _ McD McB).trans fh.o
           case q2=>exact OwnS.grown (W:=wc.drew) dR.o M2.o (.inr fun e=>by have:=(dR.o.ge _ e).1;omega)
           rintro e wz ⟨rfl,v',t1,t2,t3,_⟩;have s3:wz.cell? ⟨w.heap.size,3,none⟩=some (.string fr):=(zah t3 Mcy).trans p3;have s0:wz.cell? ⟨O,0,none⟩=some (.int .i64 own.num):=(zah t3 Mcy).trans p0;have s1:wz.cell? ⟨O,1,none⟩=some (.int .i64 own.den):=(zah t3 Mcy).trans p1;have u0:wz.cell? ⟨R,0,none⟩=some (.int .i64 q.num):=(zah t3 Mcy).trans q0;have u1:wz.cell? ⟨R,1,none⟩=some (.int .i64 q.den):=(zah t3 Mcy).trans q1;obtain⟨T1,T2,T3⟩:=yH3 t1 t2 t3
           clear t1 t2 t3))
      have M:=zHi (show MarkAt wz W1.heap.size (bigQ (own*q)) by have:=M1.o.keep T3.o Mcy;simpa using this);have s4:wz.cell? ⟨w.heap.size,4,none⟩=some (.slice B ts.length c):=(zah T3.o Mcy).trans ((zbb M2.o McD Mcy).trans (by simpa[go_sem]using e4));have DP:=zHi (Below.trans (zaQ (zaK aJ.o) M2.o (Nat.le_refl _)) (T3.o.mono Mcy));have pP:=zin (n:=fr) (q:=zbg (own*q)) (l:=ghs);have pe:=zHi pP;clear M1 M2 T3 fh dR HM aJ e3 e4 o0 o1 r0 r1 p3 p0 p1 q0 q1 s3 s0 s1 u0 u1 pP;go_wp2_with fail
      go_loopw [72] (fun i wr=>∃(k:Nat) (v:Value) (out:Parts) (fl:Bool),k<=ts.length/\i=.int .i64 k/\Hid ((out,fl)=zec own (zao (ts.take k)) (setP ghs fr (zbg (own*q)),bigQ (own*q)))/\Hid (out.length<=ghs.length+1+k)/\MarkAt wr W1.heap.size fl/\zby wr (W1.heap.size+1) gpl gcl frm gfin v (.slice D gdi.length dc)/\OwnS wr (W1.heap.size+1) 71 3 zaa v out/\Below W1.heap.size W1 wr/\W1.heap.size+1<wr.heap.size) (fun i _=>ts.length-(intOf i).toNat)
      case atStart=>exact⟨0,v',_,_,Nat.zero_le _,rfl,rfl,pe.o,M.o,T1.o,T2.o,DP.o,zab T1.o⟩
      case round=>
       clear pe M T1 T2 DP s4 bn bM;obtain⟨k2,v,out,fl,pN,rfl,HX,dP,hm,cr,eh,gN,aV⟩:=hrel;obtain⟨A1,c1,rfl,rl,jK⟩:=eh.sl zap;have bk:Below w.heap.size w wr:=hB.trans (gN.mono Mcy);have dl:Bd out 1:=by have:=dh.o k2;rw[<-HX.o]at this;exact this
       obtain⟨HD,HM,fh,dR,Iq,sY⟩:=yH6 dl hm cr eh rl gN;have yA:wr.cell? ⟨W1.heap.size+1,4,none⟩=some (.slice A1 out.length c1):=Mdi;clear hm cr eh rl dl;by_cases br:k2<ts.length
       ·obtain⟨b',off,rfl,cJ,hc⟩:=(HS.o.keep bk).at br;obtain⟨iL,iM,gB⟩:=gK.o ts[k2] (List.getElem_mem br);have aI:=gain_snoc own ts (setP ghs fr (zbg (own*q)),bigQ (own*q)) br;rw[<-HX.o]at aI;generalize ts[k2]=p at*;obtain⟨pn,pu,pd⟩:=p;obtain⟨_,_,sr0,sr1⟩:=zbm gB;have i0:wr.cell? ⟨b',off+k2*3,none⟩=some (.string pn):=hc 0 _ rfl;have i1:wr.cell? ⟨b',off+k2*3+1,none⟩=some (.int .i64 pu):=hc 1 _ rfl;have i2:wr.cell? ⟨b',off+k2*3+2,none⟩=some (.int .i64 pd):=hc 2 _ rfl;have o0:wr.cell? ⟨O,0,none⟩=some (.int .i64 own.num):=(zah sY.o Mcy).trans Mdt;have o1:wr.cell? ⟨O,1,none⟩=some (.int .i64 own.den):=(zah sY.o Mcy).trans Mdt;have wY:zaI (zbg (own*Rat.divInt pu pd)):=zbZ (zcu (Rat.mul_nonneg iJ sr0)) (Rat.le_trans (zgV (Rat.mul_nonneg iJ sr0)) (zjB iJ l9 sr0 sr1)) (zgk _);obtain⟨dC,qv⟩:=yH2 aI wY;have ar:(k2:Int)<(ts.length:Int):=Mcy;have aQ:(0:Int)<=(k2:Int):=Mcy;have fq:(k2:Int)<=(c:Int):=Mcy;have Ff:O≠wr.heap.size:=Mcy;have vU:O<wr.heap.size:=Mcy;have tX:out.length<=90000:=by have:=dP.o;omega
        clear hc aI wY iL iM sr0 sr1
        go_wp2_with (go_at_call 155
                     refine(mulS_any W1.heap.size fl _ (HM.o.alloc _) own pu pd iv gB).mono ?_;rintro e wq ⟨rfl,m1,m2⟩;have iR:=m2.size;have y0:wq.heap[wr.heap.size]?=some (.cells #[.string pn,.int .i64 pu,.int .i64 pd] 71):=(m2.block _ McB McD).trans (zar _ _ _ rfl);have y1:wq.cell? ⟨wr.heap.size,0,none⟩=some (.string pn):=(by simp only[World.cell?,y0];rfl)
                     have y3:wr.heap.size<wq.heap.size:=zab y0;obtain⟨M1,M2⟩:=yH2 m1 m2;clear m1 m2 y0
                     simp only[zaA])
        have vS:OwnS wq (W1.heap.size+1) 71 3 zaa (.slice A1 out.length c1) out:=OwnS.grown (W:=wr.alloc _) (dR.o.keep (n:=wr.heap.size) (zad (Below.refl _ _) _)) M2.o (.inr fun e=>by have:=(dR.o.ge _ e).1;omega);have m9:zby wq (W1.heap.size+1) gpl gcl frm gfin (.slice A1 out.length c1) (.slice D gdi.length dc):=(M2.o.block _ McD McB).trans (zal fh.o);have DH:wq.cell? ⟨W1.heap.size+1,4,none⟩=some (.slice A1 out.length c1):=by unfold zby at m9;simp only[World.cell?,m9];rfl
        have bv:W1.heap.size+1<wq.heap.size:=zab m9;obtain⟨OQ,TQ⟩:=yH2 vS m9;have mV:zaI (zag out pn):=HD.o.share Rat.le_refl pn;generalize eB:zbg (own*Rat.divInt pu pd)=gt at*;generalize nN:zag out pn=sv at*;obtain⟨uK,g8,eI⟩:=yH3 eB nN mV;have lj:wr.heap.size≠wq.heap.size:=Mcy;have GK:W1.heap.size+1≠wq.heap.size:=Mcy;clear vS m9 mV eB nN i0 i1 i2 o0 o1;go_region_held3 (fun w'=>w'.cell? ⟨wr.heap.size,0,none⟩=some (.string pn)/\w'.cell? ⟨wq.heap.size,0,none⟩=some (.int .i64 gt.num)/\w'.cell? ⟨wq.heap.size,1,none⟩=some (.int .i64 gt.den))
         ((refine⟨?_,?_,?_⟩<;>first|assumption|(simp[go_sem,y1,y3];done)))
         (first
           |(go_at_call 32
             go_loud(refine(zer out A1 c1 (W1.heap.size+1) pn _ ?q1 ?q2 Mcy HD.o.good.asc (Sl.keep (OQ.o.sl' zap) (n:=wq.heap.size) Bw)).mono ?_)
             case q1=>simp[go_sem,DH,bv]
             case q2=>simp;omega
             rintro e w5 ⟨rfl,zs,rfl⟩;rw[g8.o]
             simp only[zaA])
           |(go_at_call 156
             go_loud(refine(zhF W1.heap.size (fl||bigQ (own*Rat.divInt pu pd)) _ ?q3 sv gt eI.o qv.o).mono ?_)
             case q3=>(repeat(first|exact M1.o|refine MarkAt.ext ?_ _|refine MarkAt.drew ?_|refine MarkAt.alloc ?_ _))
             rintro e w6 ⟨rfl,n1,n2⟩;have p3:w6.cell? ⟨wr.heap.size,0,none⟩=some (.string pn):=MdF;have p0:w6.cell? ⟨wq.heap.size,0,none⟩=some (.int .i64 gt.num):=Mc9;have p1:w6.cell? ⟨wq.heap.size,1,none⟩=some (.int .i64 gt.den):=Mc9;obtain⟨N1,N2⟩:=yH2 n1 n2;clear n1 n2
             simp only[zaA])
           |(go_at_call 152
             go_loud(refine(zir (W1.heap.size+1) (W1.heap.size+1) out (.slice A1 out.length c1) gpl gcl frm gfin (.slice D gdi.length dc) pn (zbg (sv+gt)) _ ?q4 (Nat.le_refl _) ?q5 HD.o.good.asc tX).mono ?_)
             case q4=>exact(N2.o.block _ McH McB).trans Mdx
             case q5=>exact OwnS.grown (OQ.o.keep (n:=wq.heap.size) Bw) N2.o (.inr fun e=>by have:=(OQ.o.ge _ e).1;omega)
             rintro e wz ⟨rfl,v',t1,t2,t3,t4⟩;have s3:wz.cell? ⟨wr.heap.size,0,none⟩=some (.string pn):=(World.cell?_of_block (w:=w6) (t4 wr.heap.size Mc5 Mcy (fun e=>by have:=(dR.o.ge _ e).2;omega))).trans p3;have s0:wz.cell? ⟨wq.heap.size,0,none⟩=some (.int .i64 gt.num):=(World.cell?_of_block (w:=w6) (t4 wq.heap.size Mc5 Mcy (fun e=>by have:=(dR.o.ge _ e).2;omega))).trans p0;have s1:wz.cell? ⟨wq.heap.size,1,none⟩=some (.int .i64 gt.den):=(World.cell?_of_block (w:=w6) (t4 wq.heap.size Mc5 Mcy (fun e=>by have:=(dR.o.ge _ e).2;omega))).trans p1;obtain⟨T1,T2,T3⟩:=yH3 t1 t2 t3
             clear t1 t2 t3))
        have AA:Hid (zeY own (pn,Rat.divInt pu pd) (out,fl)=(setP out pn (zbg (sv+gt)),fl||bigQ (own*Rat.divInt pu pd)||bigQ (sv+gt))):=by
         show _=_;unfold zeY;simp only[uK.o,g8.o]
        have cC:MarkAt wz W1.heap.size (fl||bigQ (own*Rat.divInt pu pd)||bigQ (sv+gt)):=N1.o.keep T3.o Mcy;have AW:=zHi cC;have iu:=zin (n:=pn) (q:=zbg (sv+gt)) (l:=out);have fX:=zHi iu;have gx:Below W1.heap.size W1 wz:=by
         have h1:Below W1.heap.size W1 wq:=zaQ (zad sY.o _) M2.o (Nat.le_refl _);have h2:Below W1.heap.size W1 w6:=zaQ (W:=((wq.alloc (.cells #[.int .i64 gt.num,.int .i64 gt.den] 31)).drew).ext zs) Bw N2.o (Nat.le_refl _);exact h2.trans (T3.o.mono Mcy)
        have dF:=zHi gx;have fe:=zab T1.o;clear cC iu gx p3 p0 p1 s3 s0 s1 y1;go_wp2_with fail
        go_round
        case rel=>
         have pJ:=AA.o.symm.trans dC.o.symm;have mL:(setP out pn (zbg (sv+gt))).length<=ghs.length+1+(k2+1):=by have:=fX.o;have:=dP.o;omega
         (repeat apply Exists.intro)
         exact⟨⟨k2+1,v',setP out pn (zbg (sv+gt)),_,by omega,by go_num,pJ,mL,AW.o,T1.o,T2.o,dF.o,fe⟩,rfl⟩
        case measure=>simp[intOf];omega
       ·have ar:¬(k2:Int)<(ts.length:Int):=Mcy;have jP:(out,fl)=zcv ghs fr (zao ts):=by
         rw[HX.o,List.take_of_length_le Mcy];unfold zcv;rw[<-dH.o,show(1:Rat)-sumQ (zao ts)=q from HQ.o]
        have jk:=(bk.block T df).trans ez.o;obtain⟨mZ,b8⟩:=yH2 jk bk;have iE:wr.cell? ⟨W1.heap.size,0,none⟩=some (.bool fl):=(zbS HM.o).1;have gH:=HG.o;rw[<-jP]at gH;clear jP HX dh eb bk;cases fl
        ·have tj:=zHi gH;have cr:=fh.o;unfold zby at cr;obtain⟨n0,n1,n2,n3,-,n5⟩:=cF6 cr;obtain⟨z0,z1,z2,z3,z4,z5⟩:=cF6 jk;have fz:∀j,wr.frozen? ⟨T,j,none⟩=false:=fun j=>by simp only[World.frozen?,jk];rfl
         clear gH cr jk;go_wp2_with fail
         go_ret
         have bk:=b8.o;have dX:Ro wr 71 zaa A1 out:=dR.o.ro';have hN:TombAt ((((((wr.setCell ⟨T,0,none⟩ (.string gpl)).setCell ⟨T,1,none⟩ (.int .i64 gcl)).setCell ⟨T,2,none⟩ (.int .i64 frm)).setCell ⟨T,3,none⟩ (.int .i64 gfin)).setCell ⟨T,4,none⟩ (.slice A1 out.length c1)).setCell ⟨T,5,none⟩ (.slice D gdi.length dc)) base Bk T ⟨gpl,gcl,gfin,out,gdi⟩:=
          ⟨A1,c1,D,dc,frm,zi0 mZ.o _ _ _ _ _ _,t2,jK,t4,dX.kept (zca _ _ _ _ _ _ _ _) mZ.o McA,(kQ.o.keep bk).kept (zca _ _ _ _ _ _ _ _) mZ.o McA,nt.o⟩
         have aq:=ziz ba (HC.o.keep bk) (HP.o.keep bk) (HT.o.keep bk) qD.o mZ.o (zca wr T _ _ _ _ _ _) hN;have cE:Below base w wr:=bk.mono Mcy;have jh:=zaQ cE (zca wr T (.string gpl) (.int .i64 gcl) (.int .i64 frm) (.int .i64 gfin) (.slice A1 out.length c1) (.slice D gdi.length dc)) t2 Mcy;have bf:zbp s ⟨kd,dy,pl,fr,ts,cl,yr⟩=(s.withGrave i ⟨gpl,gcl,gfin,out,gdi⟩,0):=tj.o.trans (if_neg McB);exact MaP
        ·exact MaS
