import Derived.Test.YtegdimedhfafjaaGreatDoorDQ
set_option linter.all false
set_option maxRecDepth 100000
set_option maxHeartbeats 4000000
namespace Go.Proofs.YtegdimedhfafjaaGreatDoor
attribute [local go_sem] World.cell?_alloc_mark zaf za5 zao za8 zav zaw zax zay zaz za0 za1
attribute [local go_sem] zaq zad
section
open Go.ChangeShapes Go.WideShapes Go.ChangeAt Go.RowKit Go.Deep Go.Shelf
variable {H:Type} {enc:TypeId×Value->H} {w:World} {base:Nat} {spare:Nat->Bool} {held:Bool}
theorem zpi{v:Value}{d:DataW H}{p:List MemPlace}{r:Reach}{b0:Nat}(hv:Value.okWide Tryz.prog w r b0 28 v)(h:DataW.Trod enc Tryz.prog w base spare held 28 v d p):
 ∃(x:Deed) (B:Option Addr) (c:Nat),v=x.v B c/\x.to.length<=c/\Sl w 3 RPart.cells B x.to:=by
 obtain⟨cs,rfl,hsz⟩:=okWide_struct Tryz.underlying28 hv;obtain⟨l⟩:=cs;obtain⟨fuel,u7⟩:=h;obtain⟨x,B,c,hc,he,hS⟩:=zmi fuel l _ u7;subst he;exact⟨x,B,c,rfl,hc,hS⟩
end
section
open Go.RowKit Go.Shelf
theorem zmj(day:Int)(w:World)(h0:0<=day)(h1:day<=200000):
 Calls Tryz.prog 188 #[.int .i64 day] w (fun e w'=>DateIs day (zbS day) (zbf day)/\Ret w (zmG (zbS day) (zbf day) (day-zaE (zbS day) (zbf day)+1)) e w'):=by
 have dM:=beg_low h0 h1;have eT:=znH h0 h1;have xg:day.tdiv 366=day/366:=Int.tdiv_eq_ediv_of_nonneg h0;have gR:0<=day/366:=Mcm;have cY:day/366<=546:=Mcm;rw[xg]at dM eT;have yX:zbS day=zel day 10 (1800+day/366):=by unfold zbS;rw[xg]
 obtain⟨HY,HH⟩:=yH2 yX eT;clear yX eT;go_enter Tryz.func188,Tryz.ntmps188
 go_wp2_with fail
 go_loopg [] 10 (fun gg wr=>∃(f:Nat) (y:Int),f<=gg/\y+f=1800+day/366+10/\1800<=y/\y<=2400/\Hid (zbS day=zel day f y)/\Hid (begP y<=day)/\Below w.heap.size w wr/\wr.heap[w.heap.size]?=some (.cells #[.int .i64 0,.int .i64 0,.int .i64 0] 211)/\wr.heap[w.heap.size+1]?=some (.cells #[.int .i64 y,.int .i64 1,.int .i64 0] 211))
 case atStart=>exact⟨10,1800+day/366,Nat.le_refl _,by omega,by omega,by omega,HY.o,dM,Bw,zak (zas _ _ _ rfl),zas _ _ _ Mcp⟩
 case round=>
  obtain⟨f,y,hf,LT,l9,LS,vI,fx,hB,g0,g1⟩:=hrel;have a0:wr.cell? ⟨w.heap.size+1,0,none⟩=some (.int .i64 y):=Mcs;have a1:wr.cell? ⟨w.heap.size+1,1,none⟩=some (.int .i64 1):=Mcs;have a2:wr.cell? ⟨w.heap.size+1,2,none⟩=some (.int .i64 0):=Mcs;have z0:wr.frozen? ⟨w.heap.size+1,0,none⟩=false:=McA;have z1:wr.frozen? ⟨w.heap.size+1,1,none⟩=false:=McA;have z2:wr.frozen? ⟨w.heap.size+1,2,none⟩=false:=McA;have b0:wr.cell? ⟨w.heap.size,0,none⟩=some (.int .i64 0):=Mcq;have b1:wr.cell? ⟨w.heap.size,1,none⟩=some (.int .i64 0):=Mcq;have b2:wr.cell? ⟨w.heap.size,2,none⟩=some (.int .i64 0):=Mcq;have x0:wr.frozen? ⟨w.heap.size,0,none⟩=false:=Mcz;have x1:wr.frozen? ⟨w.heap.size,1,none⟩=false:=Mcz;have x2:wr.frozen? ⟨w.heap.size,2,none⟩=false:=Mcz;have e1:w.heap.size+1<wr.heap.size:=zab g1;have e0:w.heap.size<wr.heap.size:=zab g0;have k0:IntKind.i64.wrap (y+1)=y+1:=IntWalk.i64_in _ Mcm;by_cases hc:begP (y+1)<=day
  ·have KB:f≠0:=by
    exact MbC
   obtain⟨f',rfl⟩:∃f',f=f'+1:=⟨f-1,by omega⟩
   have HN:Hid (zbS day=zel day f' (y+1)):=by
    show _=_;rw[vI.o,zlf Mef]
   have HC:=zHi hc;go_wp2_with (go_at_call 192;refine(zdk (y+1) 1 _ Mcm Mcm Mcm Mcm).mono ?_;rintro e wq ⟨rfl,rfl⟩;rw[zbE])
   exact MW
  ·have HN:Hid (zbS day=y):=by
    show _=_;rw[vI.o,zlg Mef]
   have sn:=zbZ (m:=1) l9 Mcm Mcm Mcm;rw[zbE]at sn;have k1:IntKind.i64.wrap (day-begP y)=day-begP y:=IntWalk.i64_in _ Mcm;have xP:zbf day=zdg day y 12 1:=by unfold zbf;rw[HN.o]
   have kJ:=zHi xP;have yY:day<zaE y 12+za6 y 12:=by
    rw[<-zj5 l9,zbE];omega
   have C3:=zHi yY;have ly:=fx.o;have ak:Hid (zaE y 1<=day):=by show _<=_;rw[zbE];exact ly
   clear xP yY ly;obtain⟨G0,G1⟩:=yH2 g0 g1;go_upto_region 4 with(go_at_call 192;refine(zdk (y+1) 1 _ Mcm Mcm Mcm Mcm).mono ?_;rintro e wq ⟨rfl,rfl⟩;rw[zbE])
   clear a0 a1 a2 z0 z1 z2 b0 b1 b2 x0 x1 x2 g0 g1;go_loopg [] 12 (fun gg wm=>∃(m:Nat),1<=m/\m<=12/\12-m<=gg/\Hid (zbf day=zdg day y (13-m) m)/\Hid (zaE y m<=day)/\Below w.heap.size w wm/\wm.heap[w.heap.size]?=some (.cells #[.int .i64 0,.int .i64 0,.int .i64 0] 211)/\wm.heap[w.heap.size+1]?=some (.cells #[.int .i64 y,.int .i64 m,.int .i64 0] 211))
   case atStart=>exact⟨1,by omega,by omega,by omega,kJ.o,ak.o,hB,G0.o,G1.o⟩
   case round=>
    obtain⟨m,cm,ft,su,HM,qM,Fc,g0,g1⟩:=hrel;have a0:wr.cell? ⟨w.heap.size+1,0,none⟩=some (.int .i64 y):=Mcs;have a1:wr.cell? ⟨w.heap.size+1,1,none⟩=some (.int .i64 m):=Mcs;have a2:wr.cell? ⟨w.heap.size+1,2,none⟩=some (.int .i64 0):=Mcs;have z0:wr.frozen? ⟨w.heap.size+1,0,none⟩=false:=McA;have z1:wr.frozen? ⟨w.heap.size+1,1,none⟩=false:=McA;have z2:wr.frozen? ⟨w.heap.size+1,2,none⟩=false:=McA;have b0:wr.cell? ⟨w.heap.size,0,none⟩=some (.int .i64 0):=Mcq;have b1:wr.cell? ⟨w.heap.size,1,none⟩=some (.int .i64 0):=Mcq;have b2:wr.cell? ⟨w.heap.size,2,none⟩=some (.int .i64 0):=Mcq;have x0:wr.frozen? ⟨w.heap.size,0,none⟩=false:=Mcz;have x1:wr.frozen? ⟨w.heap.size,1,none⟩=false:=Mcz;have x2:wr.frozen? ⟨w.heap.size,2,none⟩=false:=Mcz;have e1:w.heap.size+1<wr.heap.size:=zab g1;have e0:w.heap.size<wr.heap.size:=zab g0;have fO:=zd9 y cm ft;have oE:=zbZ (m:=m) l9 Mcm cm Mcm;have hu:=zf4 y cm;have dC:=qM.o;have k3:IntKind.i64.wrap ((m:Int)+1)=(m:Int)+1:=IntWalk.i64_in _ Mcm;have k5:IntKind.i64.wrap (day-zaE y m)=day-zaE y m:=IntWalk.i64_in _ Mcm;have k4:IntKind.i64.wrap (day-zaE y m+1)=day-zaE y m+1:=IntWalk.i64_in _ Mcm;by_cases cd:m<12/\zaE y (m+1)<=day
    ·obtain⟨sH,mh⟩:=cd;have fH:(m:Int)<12:=Mcm;have kK:Hid (zbf day=zdg day y (13-(m+1)) (m+1)):=by
      show _=_;rw[HM.o,show 13-m=(13-(m+1))+1 by omega,zj6 sH mh]
     obtain⟨fX,nV⟩:=yH2 mh (fun W=>zdk y (m+1) W l9 Mcm Mcm Mcm);rw[show((m+1:Nat):Int)=(m:Int)+1 from rfl]at nV;clear hu dC;go_wp2_with (go_at_call 192;refine(nV.o _).mono ?_;rintro e wq ⟨rfl,rfl⟩)
     go_roundg (12-(m+1))
     case measure=>omega
     case rel=>
      refine⟨m+1,by omega,by omega,Nat.le_refl _,kK,fX.o,by repeat(first|exact B_refl|exact Below.refl _ _|assumption|with_reducible refine zac ?_ _|with_reducible refine zbm ?_ _|with_reducible refine zaH ?_|with_reducible refine zd2 ?_ _|with_reducible refine zaL ?_ Mdp _),J_ne Mcm g0,?_⟩;exact MbI
    ·have kK:Hid (zbf day=m):=by
      show _=_;rw[HM.o,zj7 cd]
     have Gk:day<zaE y m+za6 y m:=by
      by_cases ny:m<12
      ·have:¬zaE y (m+1)<=day:=fun h=>cd ⟨ny,h⟩
       rw[hu]at this;omega
      ·obtain rfl:m=12:=by omega
       exact C3.o
     have HD:Hid (DateIs day (zbS day) (zbf day)):=by
      show DateIs _ _ _;rw[HN.o,kK.o];exact⟨l9,by omega,cm,ft,dC,Gk⟩
     obtain⟨nV,qD⟩:=yH2 (fun W (h:m<12)=>zdk y (m+1) W l9 Mcm Mcm Mcm) (fun W=>zdk y m W l9 Mcm cm ft);rw[show((m+1:Nat):Int)=(m:Int)+1 from rfl]at nV;have bM:∀W:World,W=W->True:=fun _ _=>trivial
     clear hu dC Gk bM;by_cases ny:m<12
     ·have fH:(m:Int)<12:=Mcm;have iS:¬zaE y (m+1)<=day:=fun h=>cd ⟨ny,h⟩
      have qC:=zHi (fun W=>nV.o W ny);clear cd;go_upto_region 6 with(go_at_call 192;refine(qC.o _).mono ?_;rintro e wq ⟨rfl,rfl⟩)
      exact Mce
     ·have fH:¬(m:Int)<12:=Mcm;clear cd nV;go_upto_region 6 with fail
      exact Mce
theorem zh2(n:Int)(w:World):Calls Tryz.prog 191 #[.int .i64 n] w (Ret0 w (.bool (inR n 1800 2347))):=by
 go_enter Tryz.func191,Tryz.ntmps191
 exact Maq
theorem ziO(n:Int)(w:World):Calls Tryz.prog 194 #[.int .i64 n] w (Ret0 w (.bool (zb0 n))):=by
 go_enter Tryz.func194,Tryz.ntmps194
 exact Maq
theorem zjV(n:Int)(w:World)(h0:0<=n)(h1:n<=1000000):Calls Tryz.prog 190 #[.int .i64 n,.int .i64 12] w (Ret0 w (.int .i64 (n%12))):=by
 have e1:n.tmod 12=n%12:=Int.tmod_eq_emod_of_nonneg h0;have k1:IntKind.i64.wrap (n%12)=n%12:=IntWalk.i64_in _ Mcm;have k2:IntKind.i64.wrap (n%12+12)=n%12+12:=IntWalk.i64_in _ Mcm;have e2:(n%12+12).tmod 12=n%12:=by rw[Int.tmod_eq_emod_of_nonneg Mcm];omega
 go_enter Tryz.func190,Tryz.ntmps190
 go_wp2_with fail
 go_ret
 exact⟨by first|rfl|simp,rfl⟩
theorem zmk(n:Int)(w:World)(h0:0<=n)(h1:n<=1000000):Calls Tryz.prog 189 #[.int .i64 n,.int .i64 12] w (Ret0 w (.int .i64 (n/12))):=by
 have k1:IntKind.i64.wrap (n-n%12)=n-n%12:=IntWalk.i64_in _ Mcm;have e1:(n-n%12).tdiv 12=n/12:=by rw[Int.tdiv_eq_ediv_of_nonneg Mcm];omega
 have k2:IntKind.i64.wrap (n/12)=n/12:=IntWalk.i64_in _ Mcm;go_enter Tryz.func189,Tryz.ntmps189
 go_wp2_with (go_at_call 190;refine(zjV _ _ h0 h1).mono ?_;rintro e wq ⟨rfl,rfl⟩)
 go_ret
 exact⟨by first|rfl|simp,rfl⟩
theorem ziP(day mo:Int)(w:World)(h0:0<=day)(h1:day<=200000)(nJ:0<=mo)(cm:mo<=12000):
 Calls Tryz.prog 166 #[.int .i64 day,.int .i64 mo] w (fun e w'=>∃n:Int,∃ok:Bool,(ok=true->zbU day mo=n/\0<=n)/\(ok=false->zbU day mo= -1)/\Ret w (.tuple #[.int .i64 n,.bool ok]) e w'):=by
 have hA:zbU day mo=if !inR ((zbS day*12+zbf day-1+mo)/12) 1800 2347 then-1 else
  if zb0 (zaE ((zbS day*12+zbf day-1+mo)/12) ((zbS day*12+zbf day-1+mo)%12+1).toNat+min (day-zaE (zbS day) (zbf day)+1) (za6 ((zbS day*12+zbf day-1+mo)/12) ((zbS day*12+zbf day-1+mo)%12+1))-1)then
   zaE ((zbS day*12+zbf day-1+mo)/12) ((zbS day*12+zbf day-1+mo)%12+1).toNat+min (day-zaE (zbS day) (zbf day)+1) (za6 ((zbS day*12+zbf day-1+mo)/12) ((zbS day*12+zbf day-1+mo)%12+1))-1 else-1:=rfl
 have HA:=zHi hA;clear hA;have HD:=zHi (fun W=>zmj day W h0 h1);generalize zbS day=y at*;generalize zbf day=m at*;generalize zbU day mo=R at*;go_enter Tryz.func166,Tryz.ntmps166
 go_upto_region 2 with(go_at_call 188;refine(HD.o _).mono ?_;rintro e wq ⟨Dg,rfl,z,rfl⟩;simp only[zmG])
 obtain⟨d1,d2,d3,d4,d5,d6⟩:=Dg;obtain⟨f1,f2⟩:=zd9 y d3 d4;obtain⟨X,hX⟩:∃X,X=day-zaE y m+1:=⟨_,rfl⟩
 obtain⟨N,hN⟩:∃N,N=y*12+m-1+mo:=⟨_,rfl⟩
 have th:Hid (R=if !inR (N/12) 1800 2347 then-1 else if zb0 (zaE (N/12) (N%12+1).toNat+min X (za6 (N/12) (N%12+1))-1)then zaE (N/12) (N%12+1).toNat+min X (za6 (N/12) (N%12+1))-1 else-1):=by
  show _=_;rw[HA.o,hX,hN]
 have Kc:1<=X:=Mcm;have rQ:X<=31:=Mcm;rw[<-hX];have k1:IntKind.i64.wrap (y*12)=y*12:=IntWalk.i64_in _ Mcm;have k2:IntKind.i64.wrap (y*12+m)=y*12+m:=IntWalk.i64_in _ Mcm;have k3:IntKind.i64.wrap (y*12+m-1)=y*12+m-1:=IntWalk.i64_in _ Mcm;have k4:IntKind.i64.wrap (y*12+m-1+mo)=N:=by rw[hN];exact IntWalk.i64_in _ Mcm
 have Cv:0<=N/\N<=100000:=Mcm;obtain⟨rC,Cw⟩:=Cv;clear HA hX hN HD d5 d6 f1 f2;have gR:0<=N/12:=Mcm;obtain⟨mm,cX⟩:∃mm:Nat,(mm:Int)=N%12+1:=⟨(N%12+1).toNat,by omega⟩
 have dm:1<=mm:=Mcm;have jE:mm<=12:=Mcm;have ht:(N%12+1).toNat=mm:=Mcm;have cD:Hid (R=if !inR (N/12) 1800 2347 then-1 else if zb0 (zaE (N/12) mm+min X (za6 (N/12) mm)-1)then zaE (N/12) mm+min X (za6 (N/12) mm)-1 else-1):=by
  show _=_;rw[th.o,ht,<-cX]
 have k5:IntKind.i64.wrap (N%12+1)=(mm:Int):=by rw[cX];exact IntWalk.i64_in _ Mcm
 obtain⟨Y,hY⟩:∃Y,N/12=Y:=⟨_,rfl⟩
 rw[hY]at cD;have wJ:Y<=10000:=Mcm;have cY:0<=Y:=Mcm;clear th ht;have zp:=zHi cX;clear cX
 go_upto_region 4 with(first
  |(go_at_call 189;refine(zmk _ _ rC Mcm).mono ?_;rintro e wq ⟨rfl,rfl⟩;rw[hY])
  |(go_at_call 190;refine(zjV _ _ rC Mcm).mono ?_;rintro e wq ⟨rfl,rfl⟩))
 cases aQ:inR Y 1800 2347
 ·have HR:Hid (R= -1):=MdO;go_wp2_with (go_at_call 191;refine(zh2 _ _).mono ?_;rintro e wq ⟨rfl,rfl⟩;rw[aQ])
  all_goals go_ret2
  all_goals exact⟨0,false,by simp,fun _=>HR.o,Ret.of rfl Bw⟩
 ·have wK:1800<=Y/\Y<=2347:=by simpa[inR]using aQ
  obtain⟨f1,f2⟩:=zd9 Y dm jE;have sn:=zbZ (m:=mm) wK.1 Mcm dm Mcm;have HR:Hid (R=if zb0 (zaE Y mm+min X (za6 Y mm)-1)then zaE Y mm+min X (za6 Y mm)-1 else-1):=MdO;clear cD;go_upto_region 6 with(go_at_call 191;refine(zh2 _ _).mono ?_;rintro e wq ⟨rfl,rfl⟩;rw[aQ])
  obtain⟨vg,uK⟩:=yH2 (fun W=>zfs Y mm W cY Mcm dm jE) (fun W=>zdk Y mm W wK.1 Mcm dm jE);have j1:IntKind.i64.wrap (zaE Y mm+min X (za6 Y mm))=zaE Y mm+min X (za6 Y mm):=IntWalk.i64_in _ Mcm;have j2:IntKind.i64.wrap (zaE Y mm+min X (za6 Y mm)-1)=zaE Y mm+min X (za6 Y mm)-1:=IntWalk.i64_in _ Mcm;generalize za6 Y mm=L at*;generalize zaE Y mm=F at*;clear sn;refine zaj Mcn Mcn ?_;repeat(first|go_big_quiet_skip|(go_big_quiet_want;go_big_quiet_op;first|go_big_quiet_on|(apply Exists.intro;refine⟨fun _=>?_,?_⟩;(first|(go_at_call 193;exact zhU (vg.o _))|(go_at_call 192;exact zhU (uK.o _)));go_big_quiet_on)))
  refine wpQuiet_nil ?_;rintro _ ⟨zq,rfl⟩;generalize hO:F+min X L-1=out at*;have HO:=zHi hO;clear hO vg uK j1 j2;cases hd:zb0 out
  ·have jK:=zHi hd;go_wp2_with (go_at_call 194;refine(ziO _ _).mono ?_;rintro e wq ⟨rfl,rfl⟩;rw[hd])
   exact MbF
  ·have jK:=zHi hd;go_wp2_with (go_at_call 194;refine(ziO _ _).mono ?_;rintro e wq ⟨rfl,rfl⟩;rw[hd])
   exact MaW
theorem zjW(day ys:Int)(w:World)(h0:0<=day)(h1:day<=200000)(nJ:0<=ys)(cm:ys<=99):
 Calls Tryz.prog 140 #[.int .i64 day,.int .i64 ys] w (Ret w (.int .i64 (zce day ys))):=by
 have HL:=zHi (ziP day (12*ys) w h0 h1 Mcm Mcm);have bG:=zkD day ys;unfold zce at bG;have vf:=zHi bG;have kz:IntKind.i64.wrap (12*ys)=12*ys:=IntWalk.i64_in _ Mcm;clear bG;go_enter Tryz.func140,Tryz.ntmps140
 go_upto_region 2 with(go_at_call 166;refine(HL.o).mono ?_;rintro e wq ⟨n,ok,k1,k2,rfl,z,rfl⟩;obtain⟨H1,H2⟩:=yH2 k1 k2;clear k1 k2)
 cases ok
 ·have HE:Hid (zce day ys= -1):=by show _=_;unfold zce;exact H2.o rfl
  go_wp2_with fail
  go_ret
  exact Ret.of (zbC HE.o.symm) Bw
 ·have HE:Hid (zce day ys=n):=by show _=_;unfold zce;exact(H1.o rfl).1
  have hn:¬200000<n:=by have:=vf.o;have:=(H1.o rfl).1;omega
  go_wp2_with fail
  go_ret
  exact Ret.of (zbC HE.o.symm) Bw
end
section
section
variable {P:Program} {ops:Array Oper} {md:Region.Mode} {C:World->Prop}
end
end
section
open Go.RowKit Go.Shelf
end
open Go.RowKit Go.Shelf
theorem zns(d:Deed)(B:Option Addr)(c:Nat)(w:World)(hl:d.to.length<=100000)(hS:Sl w 3 RPart.cells B d.to):Calls Tryz.prog 25 #[d.v B c] w (zg3 w d):=by
 obtain⟨kd,dy,pl,fr,ts,cl,yr⟩:=d;have HS:=zHi hS;unfold zg3 Deed.v;simp only at hl hS⊢;clear hS;go_enter Tryz.func25,Tryz.ntmps25
 go_upto_region 1 with fail
 obtain⟨W1,aI⟩:∃W1,W1=(w.alloc (.cells #[.int .i64 kd,.int .i64 dy,.string pl,.string fr,.slice B ts.length c,.int .i64 cl,.int .i64 yr] 28)).alloc (.cells #[.int .i64 0,.int .i64 0,.string ⟨#[]⟩,.string ⟨#[]⟩,.slice none 0 0,.int .i64 0,.int .i64 0] 28):=⟨_,rfl⟩
 have b0:W1.heap[w.heap.size]?=some (.cells #[.int .i64 kd,.int .i64 dy,.string pl,.string fr,.slice B ts.length c,.int .i64 cl,.int .i64 yr] 28):=Mda;have r0:W1.heap[w.heap.size+1]?=some (.cells #[.int .i64 0,.int .i64 0,.string ⟨#[]⟩,.string ⟨#[]⟩,.slice none 0 0,.int .i64 0,.int .i64 0] 28):=by rw[aI];exact zas _ _ _ Mcp
 have bE:Below w.heap.size w W1:=Mdz;rw[<-aI];have aB:=zHi bE;have dq:=bE.size;clear aI;have l0:=zab b0;have l1:=zab r0;obtain⟨-,-,-,-,c4⟩:=cF5 b0;have bZ:=zHi (zjj ts B ts.length c W1 rfl hl (HS.o.keep bE));clear bE
 go_upto_region 2 with(go_at_call 57
                       go_must(refine bZ.o.mono ?_)
                       rintro e w2 ⟨v2,rfl,o2,bF⟩;have e1:w2.heap[w.heap.size]?=_:=(bF.block w.heap.size l0).trans b0;have e2:w2.heap[w.heap.size+1]?=_:=(bF.block (w.heap.size+1) l1).trans r0;obtain⟨A2,c2,rfl,cd,s2⟩:=o2.ro;have f4:w2.frozen? ⟨w.heap.size,4,none⟩=false:=by simp[World.frozen?,e1]
                       obtain⟨-,-,-,-,k4⟩:=cF5 e1
                       clear o2)
 exact Mv
