import Derived.Test.YtegdimedhfafjaaGreatDoorJ6
import Derived.Test.YtegdimedhfafjaaGreatDoorO3
set_option linter.all false
set_option maxRecDepth 100000
set_option maxHeartbeats 4000000
namespace Go.Proofs.YtegdimedhfafjaaGreatDoor
open Go.RowKit Go.Shelf
attribute [local go_sem] World.cell?_alloc_mark zaf za5 zao za8 zav zaw zax zay zaz za0 za1
attribute [local go_sem] zaq zad
def zgw:List Int:=[31,28,31,30,31,30,31,31,30,31,30,31]
def LensIn(w:World):Prop:=4<w.heap.size/\∀(k:Nat) (n:Int),zgw[k]?=some n->w.cell? ⟨4,k,none⟩=some (.int .i64 n)
theorem LensIn.keep{w W:World}{n:Nat}(h:LensIn w)(hB:Below n w W)(hn:w.heap.size<=n:=by first|exact Nat.le_refl _|omega):LensIn W:=
 ⟨Nat.lt_of_lt_of_le h.1 hB.size,fun k x hx=>(hB.cell (p:=⟨4,_,none⟩) (Nat.lt_of_lt_of_le h.1 hn)).trans (h.2 k x hx)⟩
theorem zeA(n lo hi:Int)(w:World):Calls Tryz.prog 155 #[.int .i64 n,.int .i64 lo,.int .i64 hi] w (Ret0 w (.bool (inR n lo hi))):=by
 go_enter Tryz.func155,Tryz.ntmps155
 go_wp2_with fail
 all_goals go_ret
 all_goals exact⟨by first|(simp_all[inR];done)|(simp_all[inR];omega),rfl⟩
theorem zhb(n:Int)(w:World):Calls Tryz.prog 154 #[.int .i64 n] w (Ret0 w (.bool (zb0 n))):=by
 go_enter Tryz.func154,Tryz.ntmps154
 go_wp2_with (go_at_call 155;refine(zeA _ _ _ _).mono ?_;rintro e wq ⟨rfl,rfl⟩)
 go_ret
 exact⟨rfl,rfl⟩
theorem zo6(y:Int)(w:World)(h0:0<=y)(h1:y<=100000):Calls Tryz.prog 197 #[.int .i64 y] w (Ret0 w (.bool (zgR y))):=by
 rw[<-leapQ_eq h0];have w1:wrap64 (y.tmod 4)=y.tmod 4:=McN;have w2:wrap64 (y.tmod 100)=y.tmod 100:=McN;have w3:wrap64 (y.tmod 400)=y.tmod 400:=McN;have v1:IntKind.i64.wrap (y.tmod 4)=y.tmod 4:=McH;have v2:IntKind.i64.wrap (y.tmod 100)=y.tmod 100:=McH;have v3:IntKind.i64.wrap (y.tmod 400)=y.tmod 400:=McH;go_enter Tryz.func197,Tryz.ntmps197
 go_wp2_with fail
 all_goals go_ret
 all_goals exact⟨by simp[leapQ,Int.tmod_eq_emod_of_nonneg h0, *],rfl⟩
theorem zf5(y:Int)(m:Nat)(w:World)(hL:LensIn w)(h0:0<=y)(h1:y<=100000)(cm:1<=m)(ft:m<=12):Calls Tryz.prog 175 #[.int .i64 y,.int .i64 m] w (Ret0 w (.int .i64 (za6 y m))):=by
 have hd:=znI y cm ft;have aa:m-1<zgw.length:=by simp[zgw];omega
 have hc:=hL.2 (m-1) _ (List.getElem?_eq_getElem aa);have hg:zgw.getD (m-1) 0=zgw[m-1]:=Mde;have cw:[31,28,31,30,31,30,31,31,30,31,30,31].getD (m-1) 0=zgw[m-1]:=hg;rw[cw]at hd;generalize zgw[m-1]=len at hc hd;have hw:IntKind.i64.wrap ((m:Int)-1)=(m:Int)-1:=IntWalk.i64_in _ Mcm;have ui:(0:Int)<=(m:Int)-1:=Mcm;have cA:(m:Int)-1<12:=Mcm;have fK:((m:Int)-1).toNat=m-1:=Mcm;have HD:=zHi hd;clear hd hg cw hL aa;by_cases h2:m=2
 ·subst h2;cases hl:zgR y
  ·exact MaA
  ·exact MaA
 ·have hb:((m:Int)==2)=false:=Mel;have bF:¬(m:Int)=2:=Mcm;go_enter Tryz.func175,Tryz.ntmps175
  go_wp2_with fail
  go_ret
  exact⟨by rw[HD.o,hb];simp,rfl⟩
theorem ziy(y:Int)(w:World)(h0:1800<=y)(h1:y<=100000):Calls Tryz.prog 196 #[.int .i64 y] w (Ret0 w (.int .i64 (begP y))):=by
 have hp:0<=y-1:=Mcm;have e1:(y-1).tdiv 4=(y-1)/4:=Int.tdiv_eq_ediv_of_nonneg hp;have e2:(y-1).tdiv 100=(y-1)/100:=Int.tdiv_eq_ediv_of_nonneg hp;have e3:(y-1).tdiv 400=(y-1)/400:=Int.tdiv_eq_ediv_of_nonneg hp;have hv:begP y=365*(y-1800)+(y-1)/4-(y-1)/100+(y-1)/400-436:=by unfold begP;rw[zdr hp];omega
 have HV:=zHi hv;clear hv;have k0:IntKind.i64.wrap (y-1)=y-1:=IntWalk.i64_in _ Mcm;have k1:IntKind.i64.wrap (y-1800)=y-1800:=IntWalk.i64_in _ Mcm;have k2:IntKind.i64.wrap (365*(y-1800))=365*(y-1800):=IntWalk.i64_in _ Mcm;go_enter Tryz.func196,Tryz.ntmps196
 exact MbE
theorem zbZ{y:Int}{m:Nat}(h0:1800<=y)(h1:y<=2500)(cm:1<=m)(ft:m<=13):0<=zaE y m/\zaE y m<=1000000:=by
 have hb:begP y=365*(y-1800)+(y-1)/4-(y-1)/100+(y-1)/400-436:=by unfold begP;rw[zdr Mcm];omega
 have h:∀k:Nat,k<=12->begP y<=zaE y (k+1)/\zaE y (k+1)<=begP y+31*k:=fun k=>by
  induction k with
  |zero=>intro _;rw[zbE];omega
  |succ k ih=>
   intro hk;have:=ih Mcm;have h2:=zf4 y (show 1<=k+1 by omega);have h3:=zd9 y (show 1<=k+1 by omega) (show k+1<=12 by omega);omega
 obtain⟨k,rfl⟩:∃k,m=k+1:=⟨m-1,by omega⟩
 have:=h k Mcm;omega
theorem dayOf_any(y:Int)(m:Nat)(d:Int)(w:World)(hL:LensIn w)(h0:1800<=y)(h1:y<=2500)(cm:1<=m)(ft:m<=12)(bY:0<=d)(dV:d<=1000):
 Calls Tryz.prog 174 #[.int .i64 y,.int .i64 m,.int .i64 d] w (Ret0 w (.int .i64 (zaE y m+d-1))):=by
 have js:=zbZ (m:=1) h0 h1 Mcm Mcm;rw[zbE]at js;have k0:IntKind.i64.wrap (begP y+d)=begP y+d:=IntWalk.i64_in _ Mcm;have k1:IntKind.i64.wrap (begP y+d-1)=begP y+d-1:=IntWalk.i64_in _ Mcm;go_enter Tryz.func174,Tryz.ntmps174
 go_wp2_with (go_at_call 196;refine(ziy _ _ h0 Mcm).mono ?_;rintro e wq ⟨rfl,rfl⟩)
 go_loop [7,8] (fun n i=>∃k:Nat,1<=k/\k<=m/\i=.int .i64 k/\n=.int .i64 (zaE y k+d-1)) (fun _ i=>m-(intOf i).toNat)
 case atStart=>exact⟨1,by omega,cm,rfl,by rw[zbE]⟩
 case round=>
  obtain⟨k,fQ,pU,rfl,rfl⟩:=hrel;by_cases aa:k<m
  ·have hb:=zbZ (m:=k) h0 h1 fQ Mcm;have fO:=zd9 y fQ (show k<=12 by omega);have hu:=zf4 y fQ;have HU:=zHi hu;have k2:IntKind.i64.wrap (zaE y k+d-1+za6 y k)=zaE y k+d-1+za6 y k:=IntWalk.i64_in _ Mcm;have br:(k:Int)<(m:Int):=Mcm;clear hu;go_wp2_with (go_at_call 175;refine(zf5 y k _ hL Mcm Mcm fQ Mcm).mono ?_;rintro e wq ⟨rfl,rfl⟩)
   go_round
   case rel=>exact⟨k+1,by omega,by omega,by go_num,by rw[HU.o];exact zbC Mcm⟩
   case measure=>simp[intOf];omega
  ·exact Mcg
def zmG(y m d:Int):Value:=.agg #[.int .i64 y,.int .i64 m,.int .i64 d]
theorem zln{fn:Func}{p:Tmp}(h:fn.results= #[.cell p 211])(tmps:Array Value)(w:World)(B:Nat)(x y z:Int)(hp:tmps.getD p undef=.pointer (some ⟨B,0,none⟩))
 (h0:w.cell? ⟨B,0,none⟩=some (.int .i64 x))(h1:w.cell? ⟨B,1,none⟩=some (.int .i64 y))(h2:w.cell? ⟨B,2,none⟩=some (.int .i64 z)):(results fn tmps).run Tryz.prog w=.ok (zmG x y z) w:=by
 rw[zdD h,hp];unfold zmG;go_simp
theorem J_set3{w:World}{g:Nat}{z0 z1 z2 a b c:Value}{t:TypeId}{fr:Nat×Nat}(h:w.heap[g]?=some (.cells #[z0,z1,z2] t fr)):(((w.setCell ⟨g,0,none⟩ a).setCell ⟨g,1,none⟩ b).setCell ⟨g,2,none⟩ c).heap[g]?=some (.cells #[a,b,c] t fr):=by
 have:=Joins.block_setCell (i:=2) (Joins.block_setCell (i:=1) (Joins.block_setCell (i:=0) h a) b) c;simpa using this
theorem zo7(day:Int)(w:World)(hL:LensIn w)(h0:0<=day)(h1:day<=200000):
 Calls Tryz.prog 173 #[.int .i64 day] w (fun e w'=>DateIs day (zbS day) (zbf day)/\Ret w (zmG (zbS day) (zbf day) (day-zaE (zbS day) (zbf day)+1)) e w'):=by
 have dM:=beg_low h0 h1;have eT:=znH h0 h1;have xg:day.tdiv 366=day/366:=Int.tdiv_eq_ediv_of_nonneg h0;have gR:0<=day/366:=Mcm;have cY:day/366<=546:=Mcm;rw[xg]at dM eT;have yX:zbS day=zel day 10 (1800+day/366):=by unfold zbS;rw[xg]
 obtain⟨HY,HH⟩:=yH2 yX eT;clear yX eT;go_enter Tryz.func173,Tryz.ntmps173
 go_wp2_with fail
 go_loopg [] 10 (fun gg wr=>∃(f:Nat) (y:Int),f<=gg/\y+f=1800+day/366+10/\1800<=y/\y<=2400/\Hid (zbS day=zel day f y)/\Hid (begP y<=day)/\Below w.heap.size w wr/\wr.heap[w.heap.size]?=some (.cells #[.int .i64 0,.int .i64 0,.int .i64 0] 211)/\wr.heap[w.heap.size+1]?=some (.cells #[.int .i64 y,.int .i64 1,.int .i64 0] 211))
 case atStart=>exact⟨10,1800+day/366,Nat.le_refl _,by omega,by omega,by omega,HY.o,dM,Bw,zak (zas _ _ _ rfl),zas _ _ _ Mcp⟩
 case round=>
  obtain⟨f,y,hf,LT,l9,LS,vI,fx,hB,g0,g1⟩:=hrel;have a0:wr.cell? ⟨w.heap.size+1,0,none⟩=some (.int .i64 y):=Mcs;have a1:wr.cell? ⟨w.heap.size+1,1,none⟩=some (.int .i64 1):=Mcs;have a2:wr.cell? ⟨w.heap.size+1,2,none⟩=some (.int .i64 0):=Mcs;have z0:wr.frozen? ⟨w.heap.size+1,0,none⟩=false:=McA;have z1:wr.frozen? ⟨w.heap.size+1,1,none⟩=false:=McA;have z2:wr.frozen? ⟨w.heap.size+1,2,none⟩=false:=McA;have b0:wr.cell? ⟨w.heap.size,0,none⟩=some (.int .i64 0):=Mcq;have b1:wr.cell? ⟨w.heap.size,1,none⟩=some (.int .i64 0):=Mcq;have b2:wr.cell? ⟨w.heap.size,2,none⟩=some (.int .i64 0):=Mcq;have x0:wr.frozen? ⟨w.heap.size,0,none⟩=false:=Mcz;have x1:wr.frozen? ⟨w.heap.size,1,none⟩=false:=Mcz;have x2:wr.frozen? ⟨w.heap.size,2,none⟩=false:=Mcz;have e1:w.heap.size+1<wr.heap.size:=zab g1;have e0:w.heap.size<wr.heap.size:=zab g0;have hLr:=hL.keep hB;have k0:IntKind.i64.wrap (y+1)=y+1:=IntWalk.i64_in _ Mcm;by_cases hc:begP (y+1)<=day
  ·have KB:f≠0:=by
    exact MbC
   obtain⟨f',rfl⟩:∃f',f=f'+1:=⟨f-1,by omega⟩
   have HN:Hid (zbS day=zel day f' (y+1)):=by
    show _=_;rw[vI.o,zlf Mef]
   have HC:=zHi hc;go_wp2_with (go_at_call 196;refine(ziy _ _ Mcm Mcm).mono ?_;rintro e wq ⟨rfl,rfl⟩)
   exact MW
  ·have HN:Hid (zbS day=y):=by
    show _=_;rw[vI.o,zlg Mef]
   have sn:=zbZ (m:=1) l9 Mcm Mcm Mcm;rw[zbE]at sn;have k1:IntKind.i64.wrap (day-begP y)=day-begP y:=IntWalk.i64_in _ Mcm;have xP:zbf day=zdg day y 12 1:=by unfold zbf;rw[HN.o]
   have kJ:=zHi xP;have yY:day<zaE y 12+za6 y 12:=by
    rw[<-zj5 l9,zbE];omega
   have C3:=zHi yY;have ly:=fx.o;have ak:Hid (zaE y 1<=day):=by show _<=_;rw[zbE];exact ly
   clear xP yY ly;obtain⟨G0,G1⟩:=yH2 g0 g1;go_upto_region 5 with(go_at_call 196;refine(ziy _ _ Mcm Mcm).mono ?_;rintro e wq ⟨rfl,rfl⟩)
   clear a0 a1 a2 z0 z1 z2 b0 b1 b2 x0 x1 x2 g0 g1;go_loopg [0] 12 (fun gg v wm=>∃(m:Nat),1<=m/\m<=12/\12-m<=gg/\v=.int .i64 (day-zaE y m)/\Hid (zbf day=zdg day y (13-m) m)/\Hid (zaE y m<=day)/\Below w.heap.size w wm/\wm.heap[w.heap.size]?=some (.cells #[.int .i64 0,.int .i64 0,.int .i64 0] 211)/\wm.heap[w.heap.size+1]?=some (.cells #[.int .i64 y,.int .i64 m,.int .i64 0] 211))
   case atStart=>exact⟨1,by omega,by omega,by omega,by rw[zbE],kJ.o,ak.o,hB,G0.o,G1.o⟩
   case round=>
    obtain⟨m,cm,ft,su,rfl,HM,qM,Fc,g0,g1⟩:=hrel;have a0:wr.cell? ⟨w.heap.size+1,0,none⟩=some (.int .i64 y):=Mcs;have a1:wr.cell? ⟨w.heap.size+1,1,none⟩=some (.int .i64 m):=Mcs;have a2:wr.cell? ⟨w.heap.size+1,2,none⟩=some (.int .i64 0):=Mcs;have z0:wr.frozen? ⟨w.heap.size+1,0,none⟩=false:=McA;have z1:wr.frozen? ⟨w.heap.size+1,1,none⟩=false:=McA;have z2:wr.frozen? ⟨w.heap.size+1,2,none⟩=false:=McA;have b0:wr.cell? ⟨w.heap.size,0,none⟩=some (.int .i64 0):=Mcq;have b1:wr.cell? ⟨w.heap.size,1,none⟩=some (.int .i64 0):=Mcq;have b2:wr.cell? ⟨w.heap.size,2,none⟩=some (.int .i64 0):=Mcq;have x0:wr.frozen? ⟨w.heap.size,0,none⟩=false:=Mcz;have x1:wr.frozen? ⟨w.heap.size,1,none⟩=false:=Mcz;have x2:wr.frozen? ⟨w.heap.size,2,none⟩=false:=Mcz;have e1:w.heap.size+1<wr.heap.size:=zab g1;have e0:w.heap.size<wr.heap.size:=zab g0;have Fv:=hL.keep Fc;have fO:=zd9 y cm ft;have oE:=zbZ (m:=m) l9 Mcm cm Mcm;have hu:=zf4 y cm;have HU:=zHi hu;have dC:=qM.o;have k2:IntKind.i64.wrap (day-zaE y m-za6 y m)=day-zaE y m-za6 y m:=IntWalk.i64_in _ Mcm;have k3:IntKind.i64.wrap ((m:Int)+1)=(m:Int)+1:=IntWalk.i64_in _ Mcm;have k4:IntKind.i64.wrap (day-zaE y m+1)=day-zaE y m+1:=IntWalk.i64_in _ Mcm;by_cases cd:za6 y m<=day-zaE y m
    ·have sH:m<12:=by
      rcases Nat.lt_or_ge m 12 with h|h
      ·exact h
      ·have:=C3.o;obtain rfl:m=12:=by omega
       rw[show((12:Nat):Int)=12 from rfl]at cd;omega
     have kK:Hid (zbf day=zdg day y (13-(m+1)) (m+1)):=by
      show _=_;rw[HM.o,show 13-m=(13-(m+1))+1 by omega,zj6 sH (by rw[hu];omega)]
     have xI:zaE y (m+1)<=day:=by rw[hu];omega
     have fX:=zHi xI;clear hu dC xI;go_wp2_with (go_at_call 175;refine(zf5 y m _ Fv Mcm Mcm cm ft).mono ?_;rintro e wq ⟨rfl,rfl⟩)
     go_roundg (12-(m+1))
     case measure=>omega
     case rel=>
      refine⟨m+1,by omega,by omega,Nat.le_refl _,by rw[HU.o];exact zbC Mcm,kK,fX.o,by repeat(first|exact B_refl|exact Below.refl _ _|assumption|with_reducible refine zac ?_ _|with_reducible refine zbm ?_ _|with_reducible refine zaH ?_|with_reducible refine zd2 ?_ _|with_reducible refine zaL ?_ Mdp _),J_ne Mcm g0,?_⟩;exact MbI
    ·have kK:Hid (zbf day=m):=by
      show _=_;rw[HM.o,zj7 (by rw[hu];omega)]
     have HD:Hid (DateIs day (zbS day) (zbf day)):=by
      show DateIs _ _ _;rw[HN.o,kK.o];exact⟨l9,by omega,cm,ft,dC,by omega⟩
     clear hu dC;go_wp2_with (go_at_call 175;refine(zf5 y m _ Fv Mcm Mcm cm ft).mono ?_;rintro e wq ⟨rfl,rfl⟩)
     exact My
theorem zo8(day mo:Int)(w:World)(hL:LensIn w)(h0:0<=day)(h1:day<=200000)(nJ: -12000<=mo)(cm:mo<=12000):
 Calls Tryz.prog 156 #[.int .i64 day,.int .i64 mo] w (fun e w'=>∃n:Int,∃ok:Bool,(ok=true->zbU day mo=n/\0<=n)/\(ok=false->zbU day mo= -1)/\Ret w (.tuple #[.int .i64 n,.bool ok]) e w'):=by
 have hA:zbU day mo=if !inR ((zbS day*12+zbf day-1+mo)/12) 1800 2347 then-1 else
  if zb0 (zaE ((zbS day*12+zbf day-1+mo)/12) ((zbS day*12+zbf day-1+mo)%12+1).toNat+min (day-zaE (zbS day) (zbf day)+1) (za6 ((zbS day*12+zbf day-1+mo)/12) ((zbS day*12+zbf day-1+mo)%12+1))-1)then
   zaE ((zbS day*12+zbf day-1+mo)/12) ((zbS day*12+zbf day-1+mo)%12+1).toNat+min (day-zaE (zbS day) (zbf day)+1) (za6 ((zbS day*12+zbf day-1+mo)/12) ((zbS day*12+zbf day-1+mo)%12+1))-1 else-1:=rfl
 have HA:=zHi hA;clear hA;have HD:=zHi (fun W h=>zo7 day W h h0 h1);generalize zbS day=y at*;generalize zbf day=m at*;generalize zbU day mo=R at*;go_enter Tryz.func156,Tryz.ntmps156
 go_upto_region 2 with(go_at_call 173;refine(HD.o _ hL).mono ?_;rintro e wq ⟨Dg,rfl,z,rfl⟩;simp only[zmG])
 obtain⟨d1,d2,d3,d4,d5,d6⟩:=Dg;obtain⟨f1,f2⟩:=zd9 y d3 d4;obtain⟨X,hX⟩:∃X,X=day-zaE y m+1:=⟨_,rfl⟩
 obtain⟨N,hN⟩:∃N,N=12*y+m-1+mo:=⟨_,rfl⟩
 have th:Hid (R=if !inR (N/12) 1800 2347 then-1 else if zb0 (zaE (N/12) (N%12+1).toNat+min X (za6 (N/12) (N%12+1))-1)then zaE (N/12) (N%12+1).toNat+min X (za6 (N/12) (N%12+1))-1 else-1):=by
  show _=_;rw[HA.o,hX,hN,show y*12+(m:Int)-1+mo=12*y+m-1+mo by omega]
 have Kc:1<=X:=Mcm;have rQ:X<=31:=Mcm;rw[<-hX];have k1:IntKind.i64.wrap (12*y)=12*y:=IntWalk.i64_in _ Mcm;have k2:IntKind.i64.wrap (12*y+m)=12*y+m:=IntWalk.i64_in _ Mcm;have k3:IntKind.i64.wrap (12*y+m-1)=12*y+m-1:=IntWalk.i64_in _ Mcm;have k4:IntKind.i64.wrap (12*y+m-1+mo)=N:=by rw[hN];exact IntWalk.i64_in _ Mcm
 have Cv: -20000<=N/\N<=100000:=Mcm;obtain⟨rC,Cw⟩:=Cv;clear HA hX hN HD d5 d6 f1 f2;by_cases hN0:N<0
 ·have Ct:inR (N/12) 1800 2347=false:=by simp[inR];omega
  have HR:Hid (R= -1):=by show _=_;rw[th.o,Ct];rfl
  clear Ct;go_wp2_with fail
  go_ret2
  exact⟨0,false,by simp,fun _=>HR.o,Ret.of rfl Bw⟩
 ·have Ct:0<=N:=Mcm;have gR:0<=N/12:=Mcm;obtain⟨mm,cX⟩:∃mm:Nat,(mm:Int)=N%12+1:=⟨(N%12+1).toNat,by omega⟩
  have dm:1<=mm:=Mcm;have jE:mm<=12:=Mcm;have ht:(N%12+1).toNat=mm:=Mcm;have cD:Hid (R=if !inR (N/12) 1800 2347 then-1 else if zb0 (zaE (N/12) mm+min X (za6 (N/12) mm)-1)then zaE (N/12) mm+min X (za6 (N/12) mm)-1 else-1):=by
   show _=_;rw[th.o,ht,<-cX]
  have k5:IntKind.i64.wrap (N%12+1)=(mm:Int):=by rw[cX];exact IntWalk.i64_in _ Mcm
  obtain⟨Y,hY⟩:∃Y,N/12=Y:=⟨_,rfl⟩
  rw[hY]at cD;have wJ:Y<=10000:=Mcm;have cY:0<=Y:=Mcm;clear th ht;have zp:=zHi cX;clear cX;cases aQ:inR Y 1800 2347
  ·have HR:Hid (R= -1):=MdO;go_wp2_with (go_at_call 155;refine(zeA _ _ _ _).mono ?_;rintro e wq ⟨rfl,rfl⟩;rw[aQ])
   all_goals go_ret2
   all_goals exact⟨0,false,by simp,fun _=>HR.o,Ret.of rfl Bw⟩
  ·have wK:1800<=Y/\Y<=2347:=by simpa[inR]using aQ
   obtain⟨f1,f2⟩:=zd9 Y dm jE;have sn:=zbZ (m:=mm) wK.1 Mcm dm Mcm;have HR:Hid (R=if zb0 (zaE Y mm+min X (za6 Y mm)-1)then zaE Y mm+min X (za6 Y mm)-1 else-1):=MdO;have dE:Hid (∀W,Below w.heap.size w W->LensIn W):=fun W h=>hL.keep h
   clear cD hL;go_upto_region 6 with(go_at_call 155;refine(zeA _ _ _ _).mono ?_;rintro e wq ⟨rfl,rfl⟩;rw[aQ])
   obtain⟨vg,uK⟩:=yH2 (fun W (hW:Below w.heap.size w W)=>zf5 Y mm W (dE.o _ hW) cY Mcm dm jE) (fun d W (hW:Below w.heap.size w W) (iv:0<=d) (bY:d<=1000)=>dayOf_any Y mm d W (dE.o _ hW) wK.1 Mcm dm jE iv bY);generalize za6 Y mm=L at*;clear sn;refine zaj Mcn Mcn ?_;repeat(first|go_big_quiet_skip|(go_big_quiet_want;go_big_quiet_op;first|go_big_quiet_on|(apply Exists.intro;refine⟨fun _=>?_,?_⟩;(first|(go_at_call 175;exact zhU (vg.o _ Bw))|(go_at_call 174;exact zhU (uK.o _ _ Bw Mcm Mcm)));go_big_quiet_on)))
   refine wpQuiet_nil ?_;rintro _ ⟨zq,rfl⟩;generalize hO:zaE Y mm+min X L-1=out at*;have HO:=zHi hO;clear hO vg uK dE;cases hd:zb0 out
   ·have jK:=zHi hd;go_wp2_with (go_at_call 154;refine(zhb _ _).mono ?_;rintro e wq ⟨rfl,rfl⟩;rw[hd])
    exact MbF
   ·have jK:=zHi hd;go_wp2_with (go_at_call 154;refine(zhb _ _).mono ?_;rintro e wq ⟨rfl,rfl⟩;rw[hd])
    exact MaW
def Rec.v(r:Rec):Value:=.agg #[.int .i64 r.kind,.string r.name,.string r.other,.string r.place,.int .i64 r.day,.int .i64 r.til,.int .i64 r.num,.int .i64 r.den]
def recO(r:Rec):Obj:=.cells #[.int .i64 r.kind,.string r.name,.string r.other,.string r.place,.int .i64 r.day,.int .i64 r.til,.int .i64 r.num,.int .i64 r.den] 58
theorem zmH(x y:Rec)(w:World)(hx:0<=x.kind/\x.kind<=4)(hy:0<=y.kind/\y.kind<=4):Calls Tryz.prog 77 #[x.v,y.v] w (Ret w (.bool (zbF x y))):=by
 obtain⟨lo,hi,mF⟩:∃lo hi,(lo,hi)=if y.kind<x.kind then(y,x)else(x,y):=⟨_,_,rfl⟩
 have hr:zbF x y=zgk lo hi:=by
  unfold zbF;by_cases h:y.kind<x.kind
  ·rw[if_pos h]at mF;cases mF;rw[if_pos Mc8]
  ·rw[if_neg h]at mF;cases mF;rw[if_neg Mc8]
 have bV:0<=lo.kind/\lo.kind<=4/\0<=hi.kind/\hi.kind<=4:=by
  split at mF<;>cases mF<;>omega
 rw[hr];obtain⟨R,hR⟩:∃R,R=zgk lo hi:=⟨_,rfl⟩
 rw[<-hR];have HR:=zHi hR;clear hR;unfold Rec.v;go_enter Tryz.func77,Tryz.ntmps77
 go_upto_if 10 with fail
 go_cut [11,12]from 13 (fun _ _ W=>W.heap[w.heap.size]?=some (recO lo)/\W.heap[w.heap.size+1]?=some (recO hi)/\Below w.heap.size w W)
 case first=>
  by_cases h:y.kind<x.kind
  ·rw[if_pos h]at mF;cases mF;exact Mbt
  ·rw[if_neg h]at mF;cases mF;exact Mbt
 case rest=>
  obtain⟨g0,g1,hB⟩:=hcut;clear mF hr hx hy;obtain⟨lk,ln,lo2,lp,ld,lt,lu,lv⟩:=lo;obtain⟨hk,hn,uj,hp,hd,ht,hu,hv⟩:=hi;simp only at bV;unfold recO at g0 g1;obtain⟨a0,a1,-,a3,a4,a5,a6,a7⟩:=cF8 g0;obtain⟨b0,b1,-,b3,b4,b5,b6,b7⟩:=cF8 g1;have HB:=zHi hB;clear hB g0 g1;have hR:=HR.o;unfold zgk at hR;simp only at hR;clear HR;have L4:lk=0\/lk=1\/lk=2\/lk=3\/lk=4:=Mcm;have KN:hk=0\/hk=1\/hk=2\/hk=3\/hk=4:=Mcm;clear bV;rcases L4 with rfl|rfl|rfl|rfl|rfl<;>rcases KN with rfl|rfl|rfl|rfl|rfl
  ·exact MbV
  ·cases hs:(ln.toList==hn.toList)
   ·exact MbW
   ·by_cases h:hd<ld
    ·exact Mb0
    ·exact MbW
  ·exact MbV
  ·exact MbV
  ·exact MbV
  ·exact MbV
  ·cases hs:(ln.toList==hn.toList)
   ·exact MbW
   ·by_cases h:ld=hd
    ·exact MbW
    ·exact Mb0
  ·exact MbV
  ·cases hs:(ln.toList==hn.toList)
   ·exact MbW
   ·by_cases h:ld<hd
    ·exact Mb0
    ·exact MbW
  ·cases hs:(ln.toList==hn.toList)
   ·exact MbW
   ·by_cases h:ld<hd
    ·exact Mb0
    ·exact MbW
  ·exact MbV
  ·exact MbV
  ·exact MbV
  ·exact MbV
  ·exact MbV
  ·exact MbV
  ·exact MbV
  ·exact MbV
  ·cases hs:(ln.toList==hn.toList)
   ·exact MbW
   ·cases hq:(lp.toList==hp.toList)
    ·exact MbW
    ·by_cases h:ld=hd
     ·by_cases h2:lu=hu
      ·by_cases h3:lv=hv
       ·exact MbW
       ·exact Mb0
      ·exact Mb0
     ·exact MbW
  ·exact MbV
  ·exact MbV
  ·exact MbV
  ·exact MbV
  ·exact MbV
  ·cases hs:(ln.toList==hn.toList)
   ·cases hq:(lp.toList==hp.toList)
    ·exact MbW
    ·by_cases h:max ld hd<min lt ht
     ·exact Mb0
     ·exact MbW
   ·exact MbW
