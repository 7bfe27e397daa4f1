import Derived.Test.YtcfheecahnnhjaaGreatDoorUF
import Derived.Test.YtcfheecahnnhjaaGreatDoorRT
set_option linter.all false
set_option maxRecDepth 100000
set_option maxHeartbeats 4000000
namespace Go.Proofs.YtcfheecahnnhjaaGreatDoor
open Go.RowKit Go.Shelf
attribute [local go_sem] World.cell?_alloc_mark zag za4 zar zaB zaw zax zay zaz za0 za1 za2
attribute [local go_sem] zas zad
def famR:List RPart:=[⟨nBob,3,8⟩,⟨nCat,3,8⟩,⟨nDan,1,4⟩]
theorem fam_cells:zgB.map zaa=famR.map RPart.cells:=by kernel_rfl
theorem fam_holds:zb3 fam5 nA1 200=zgB:=by kernel_rfl
theorem fam_err(names:List ByteArray)(day:Int)(hn:names.any (fun s=>!zaT s)=false)(hd:zbl day=true):zcs zcp zbL names day=0:=by
 unfold zcs;have h:(zdZ zcp zbL 200000).2=(5,0):=by rw[zeh,zhk 200000 Mcw]
 rw[h,hn,hd];rfl
theorem fam_bury:zfC zcp zbL nA1 nAnn 300=(true,0):=by
 unfold zfC;rw[fam_err [nA1,nAnn] 300 Mcv Mcv,zhk 300 Mcw];have h:zaL fam5 nA1 300=some 0:=Mcv;simp only[bne_self_eq_false,Bool.false_eq_true,if_false];rw[h];have hg:fam5.graves.getD 0 zfa=⟨nA1,1,-1,zgB,[nAnn]⟩:=rfl;simp only[hg];have he:entP fam5 ⟨nA1,1,-1,zgB,[nAnn]⟩ nAnn=true:=by
  unfold entP;have:[nAnn].any (zga fam5 1 nAnn)=true:=by
   rw[List.any_cons];unfold zga;rw[show zae nAnn nAnn=true from zbE _];rfl
  rw[this,Bool.or_true]
 rw[he,Bool.or_true]
theorem zom:∀d∈zbL,zdB d:=by
 intro d hd;simp only[zbL,List.mem_cons,List.not_mem_nil,or_false]at hd;rcases hd with rfl|rfl|rfl|rfl|rfl<;>exact⟨by decide,by decide,by simp[famD];try decide,by simp[famD]⟩
structure Laid5 (w:World):Prop where
 forms:FormsIn w
 lens:LensIn w
 tz:TzTab w
theorem Laid5.keep{w W:World}{n:Nat}(h:Laid5 w)(hB:Below n w W)(hn:w.heap.size<=n:=by first|exact Nat.le_refl _|omega):Laid5 W:=⟨h.forms.keep hB hn,h.lens.keep hB hn,h.tz.keep hB hn⟩
def HoldPost(w:World)(e:Ending)(w':World):Prop:= ∃A c,e=.returned (.tuple #[.slice A 3 c,.int .i64 0])/\3<=c/\Sl w' 3 RPart.cells A famR/\Below w.heap.size w w'
theorem zjy(LA DA:Option Addr)(w:World)(hR:RightsIn w zcp zbL LA 2 2 DA 5 5)(hL:Laid5 w):Calls Tryz.prog 15 #[.agg #[.slice LA 2 2,.slice DA 5 5],.string ⟨#[97,49]⟩,.int .i64 200] w (HoldPost w):=by
 refine(znd zcp zbL nA1 200 LA 2 2 DA 5 5 w hR hL.forms hL.lens zom Mcw).mono ?_;rintro e w' ⟨hB,h⟩;rw[fam_err [nA1] 200 Mcv Mcv,zhk 200 Mcw]at h;rcases h with⟨h,_⟩|⟨_,A,c,rfl,hc,hS⟩
 ·exact absurd rfl h
 ·rw[show((fam5,5,(0:Int)):St×Nat×Int).1=fam5 from rfl,fam_holds]at hc hS⊢;exact⟨A,c,rfl,hc,sl_same hS fam_cells,hB⟩
theorem zns(LA DA:Option Addr)(w:World)(hR:RightsIn w zcp zbL LA 2 2 DA 5 5)(hL:Laid5 w):Calls Tryz.prog 17 #[.agg #[.slice LA 2 2,.slice DA 5 5],.string ⟨#[97,49]⟩,.string ⟨#[97,110,110]⟩,.int .i64 300] w (Ret w (.tuple #[.bool true,.int .i64 0])):=by
 have:=znf zcp zbL nA1 nAnn 300 LA 2 2 DA 5 5 w hR hL.forms hL.lens zom Mcw Mcw;rw[fam_bury]at this;exact this
theorem zmj(A:Option Addr)(w:World)(hS:Sl w 8 Rec.cells A zfq)(hL:Laid5 w):Calls Tryz.prog 18 #[.slice A 5 5] w (zhl w):=zpg A 5 w (Nat.le_refl _) hL.tz hS
theorem fam_same(A2:Option Addr)(c2:Nat)(cD:3<=c2)(P:Nat)(W:World)(h:Sl W 3 RPart.cells A2 famR)(hP:W.heap[P]?=some (.cells #[.string ⟨#[98,111,98]⟩,.int .i64 3,.int .i64 8,.string ⟨#[99,97,116]⟩,.int .i64 3,.int .i64 8,.string ⟨#[100,97,110]⟩,.int .i64 1,.int .i64 4] 64)):
 Calls Tryz.prog 19 #[.slice A2 3 c2,.slice (some ⟨P,0,none⟩) 3 3] W (Ret W (.bool true)):=
 zkS famR A2 (some ⟨P,0,none⟩) c2 3 _ h (zej (fun _=>rfl) hP rfl) Mcw cD Mcw
theorem two_same(A5:Option Addr)(c5:Nat)(nG:2<=c5)(P:Nat)(W:World)(h:Sl W 1 intC A5 [0,2])(hP:W.heap[P]?=some (.cells #[.int .i64 0,.int .i64 2] 3)):
 Calls Tryz.prog 21 #[.slice A5 2 c5,.slice (some ⟨P,0,none⟩) 2 2] W (Ret W (.bool true)):=
 zmi [0,2] A5 (some ⟨P,0,none⟩) c5 2 _ h (zej (fun _=>rfl) hP rfl) Mcw nG Mcw
theorem zpm(w:World)(hL:Laid5 w):Calls Tryz.prog 4 #[] w (Ret w (.bool true)):=by
 have HL:=zHi hL;clear hL;go_enter Tryz.func4,Tryz.ntmps4
 go_upto_region 2 with(first
  |(go_at_call 16;go_must(refine(zjX _).mono ?_);rintro e w1 ⟨LA,DA,rfl,hr,hb⟩;obtain⟨HR,HB⟩:=yH2 hr hb;clear hr hb)
  |(go_at_call 15;go_must(refine(zjy LA DA _ HR.o (HL.o.keep HB.o)).mono ?_);rintro e w2 ⟨A2,c2,rfl,cD,aY,bs⟩;obtain⟨pC,aD⟩:=yH2 aY (HB.o.trans (bs.mono HB.o.size));clear aY bs))
 clear HR HB
 go_upto_region 3 with(first
  |(go_at_call 16;go_must(refine(zjX _).mono ?_);rintro e w3 ⟨LA3,DA3,rfl,hr,hb⟩;obtain⟨HR,aH,HB⟩:=yH3 hr hb (aD.o.trans (hb.mono aD.o.size));clear hr hb)
  |(go_at_call 17;go_must(refine(zns LA3 DA3 _ HR.o (HL.o.keep HB.o)).mono ?_);rintro e w4 ⟨rfl,z4,rfl⟩))
 obtain⟨ER,cm⟩:=yH2 ((pC.o.keep aH.o).keep (zao w3 z4)) (HB.o.trans ((zao w3 z4).mono HB.o.size));generalize w3.ext z4=W4 at*;clear HR HB pC aD aH;have zj:w.heap.size<=W4.heap.size:=cm.o.size
 go_upto_region 4 with(go_at_call 18
                       go_must(refine(zmj _ _ (zej (fun _=>rfl) (zaq _ _ _ rfl) rfl) ((HL.o.keep cm.o).keep (n:=W4.heap.size) Bw)).mono ?_)
                       rintro e w5 ⟨A5,c5,rfl,nG,jL,aq⟩)
 have ES:=zHi (ER.o.keep ((zac (Below.refl _ _) _ (Nat.le_refl _)).trans (aq.mono Mcx)));have bW:=zHi (cm.o.trans (((zac (Below.refl _ _) _ (Nat.le_refl _)).trans (aq.mono Mcx)).mono zj));have Eu:=zHi jL;clear ER cm jL aq;obtain⟨iY,tJ⟩:=yH2 (fun(W:World) (hW:Below w5.heap.size w5 W)=>fun(P:Nat) hP=>fam_same A2 c2 cD P W (ES.o.keep hW) hP) (fun(W:World) (hW:Below w5.heap.size w5 W)=>fun(P:Nat) hP=>two_same A5 c5 nG P W (Eu.o.keep hW) hP);clear ES Eu;have zk:w.heap.size<=w5.heap.size:=bW.o.size;clear HL
 go_wp2_with (first
  |(go_at_call 20;go_must(refine(zmh _ _ _ _).mono ?_);rintro e wq ⟨rfl,zq,rfl⟩)
  |(go_at_call 19;go_must(refine(iY.o _ Bw _ (zaq _ _ _ Mdk)).mono ?_);rintro e wq ⟨rfl,zq,rfl⟩)
  |(go_at_call 21;go_must(refine(tJ.o _ Bw _ (zaq _ _ _ Mdk)).mono ?_);rintro e wq ⟨rfl,zq,rfl⟩))
 go_ret
 exact Ret.of rfl (bW.o.trans (Below.mono (B:=w5.heap.size) Bw bW.o.size))
theorem zmk(day:Int)(w:World)(h0:0<=day)(h1:day<=200000):
 Calls Tryz.prog 194 #[.int .i64 day] w (fun e w'=>DateIs day (zbU day) (zbh day)/\Ret w (zmC (zbU day) (zbh day) (day-zaD (zbU day) (zbh day)+1)) e w'):=by
 have dS:=beg_low h0 h1;have eW:=znO h0 h1;have xv:day.tdiv 366=day/366:=Int.tdiv_eq_ediv_of_nonneg h0;have dL:0<=day/366:=Mcu;have cM:day/366<=546:=Mcu;rw[xv]at dS eW;have zu:zbU day=zeq day 10 (1800+day/366):=by unfold zbU;rw[xv]
 obtain⟨HY,HH⟩:=yH2 zu eW;clear zu eW;go_enter Tryz.func194,Tryz.ntmps194
 go_wp2_with fail
 go_loopg [] 10 (fun gg wr=>∃(f:Nat) (y:Int),f<=gg/\y+f=1800+day/366+10/\1800<=y/\y<=2400/\Hid (zbU day=zeq day f y)/\Hid (begP y<=day)/\Below w.heap.size w wr/\wr.heap[w.heap.size]?=some (.cells #[.int .i64 0,.int .i64 0,.int .i64 0] 233)/\wr.heap[w.heap.size+1]?=some (.cells #[.int .i64 y,.int .i64 1,.int .i64 0] 233))
 case atStart=>exact⟨10,1800+day/366,Nat.le_refl _,by omega,by omega,by omega,HY.o,dS,Bw,zal (zaq _ _ _ rfl),zaq _ _ _ Mcx⟩
 case round=>
  obtain⟨f,y,hf,LM,lq,LL,vZ,fA,hB,g0,g1⟩:=hrel;have a0:wr.cell? ⟨w.heap.size+1,0,none⟩=some (.int .i64 y):=McA;have a1:wr.cell? ⟨w.heap.size+1,1,none⟩=some (.int .i64 1):=McA;have a2:wr.cell? ⟨w.heap.size+1,2,none⟩=some (.int .i64 0):=McA;have z0:wr.frozen? ⟨w.heap.size+1,0,none⟩=false:=McJ;have z1:wr.frozen? ⟨w.heap.size+1,1,none⟩=false:=McJ;have z2:wr.frozen? ⟨w.heap.size+1,2,none⟩=false:=McJ;have b0:wr.cell? ⟨w.heap.size,0,none⟩=some (.int .i64 0):=Mcy;have b1:wr.cell? ⟨w.heap.size,1,none⟩=some (.int .i64 0):=Mcy;have b2:wr.cell? ⟨w.heap.size,2,none⟩=some (.int .i64 0):=Mcy;have x0:wr.frozen? ⟨w.heap.size,0,none⟩=false:=McI;have x1:wr.frozen? ⟨w.heap.size,1,none⟩=false:=McI;have x2:wr.frozen? ⟨w.heap.size,2,none⟩=false:=McI;have e1:w.heap.size+1<wr.heap.size:=zab g1;have e0:w.heap.size<wr.heap.size:=zab g0;have k0:IntKind.i64.wrap (y+1)=y+1:=IntWalk.i64_in _ Mcu;by_cases hc:begP (y+1)<=day
  ·have Kr:f≠0:=by
    exact MbN
   obtain⟨f',rfl⟩:∃f',f=f'+1:=⟨f-1,by omega⟩
   have HN:Hid (zbU day=zeq day f' (y+1)):=by
    show _=_;rw[vZ.o,zlp Mef]
   have HC:=zHi hc;go_wp2_with (go_at_call 198;refine(zds (y+1) 1 _ Mcu Mcu Mcu Mcu).mono ?_;rintro e wq ⟨rfl,rfl⟩;rw[zbH])
   exact MS
  ·have HN:Hid (zbU day=y):=by
    show _=_;rw[vZ.o,zlq Mef]
   have so:=zbZ (m:=1) lq Mcu Mcu Mcu;rw[zbH]at so;have k1:IntKind.i64.wrap (day-begP y)=day-begP y:=IntWalk.i64_in _ Mcu;have yf:zbh day=zdo day y 12 1:=by unfold zbh;rw[HN.o]
   have kL:=zHi yf;have zv:day<zaD y 12+za6 y 12:=by
    rw[<-zjC lq,zbH];omega
   have C1:=zHi zv;have lE:=fA.o;have aj:Hid (zaD y 1<=day):=by show _<=_;rw[zbH];exact lE
   clear yf zv lE;obtain⟨G0,G1⟩:=yH2 g0 g1;go_upto_region 4 with(go_at_call 198;refine(zds (y+1) 1 _ Mcu Mcu Mcu Mcu).mono ?_;rintro e wq ⟨rfl,rfl⟩;rw[zbH])
   clear a0 a1 a2 z0 z1 z2 b0 b1 b2 x0 x1 x2 g0 g1;go_loopg [] 12 (fun gg wm=>∃(m:Nat),1<=m/\m<=12/\12-m<=gg/\Hid (zbh day=zdo day y (13-m) m)/\Hid (zaD y m<=day)/\Below w.heap.size w wm/\wm.heap[w.heap.size]?=some (.cells #[.int .i64 0,.int .i64 0,.int .i64 0] 233)/\wm.heap[w.heap.size+1]?=some (.cells #[.int .i64 y,.int .i64 m,.int .i64 0] 233))
   case atStart=>exact⟨1,by omega,by omega,by omega,kL.o,aj.o,hB,G0.o,G1.o⟩
   case round=>
    obtain⟨m,cf,dX,pN,HM,qJ,Fa,g0,g1⟩:=hrel;have a0:wr.cell? ⟨w.heap.size+1,0,none⟩=some (.int .i64 y):=McA;have a1:wr.cell? ⟨w.heap.size+1,1,none⟩=some (.int .i64 m):=McA;have a2:wr.cell? ⟨w.heap.size+1,2,none⟩=some (.int .i64 0):=McA;have z0:wr.frozen? ⟨w.heap.size+1,0,none⟩=false:=McJ;have z1:wr.frozen? ⟨w.heap.size+1,1,none⟩=false:=McJ;have z2:wr.frozen? ⟨w.heap.size+1,2,none⟩=false:=McJ;have b0:wr.cell? ⟨w.heap.size,0,none⟩=some (.int .i64 0):=Mcy;have b1:wr.cell? ⟨w.heap.size,1,none⟩=some (.int .i64 0):=Mcy;have b2:wr.cell? ⟨w.heap.size,2,none⟩=some (.int .i64 0):=Mcy;have x0:wr.frozen? ⟨w.heap.size,0,none⟩=false:=McI;have x1:wr.frozen? ⟨w.heap.size,1,none⟩=false:=McI;have x2:wr.frozen? ⟨w.heap.size,2,none⟩=false:=McI;have e1:w.heap.size+1<wr.heap.size:=zab g1;have e0:w.heap.size<wr.heap.size:=zab g0;have fW:=zdH y cf dX;have oG:=zbZ (m:=m) lq Mcu cf Mcu;have hu:=zf3 y cf;have cY:=qJ.o;have k3:IntKind.i64.wrap ((m:Int)+1)=(m:Int)+1:=IntWalk.i64_in _ Mcu;have k5:IntKind.i64.wrap (day-zaD y m)=day-zaD y m:=IntWalk.i64_in _ Mcu;have k4:IntKind.i64.wrap (day-zaD y m+1)=day-zaD y m+1:=IntWalk.i64_in _ Mcu;by_cases cD:m<12/\zaD y (m+1)<=day
    ·obtain⟨sK,mw⟩:=cD;have fI:(m:Int)<12:=Mcu;have kM:Hid (zbh day=zdo day y (13-(m+1)) (m+1)):=by
      show _=_;rw[HM.o,show 13-m=(13-(m+1))+1 by omega,zjD sK mw]
     obtain⟨gw,nW⟩:=yH2 mw (fun W=>zds y (m+1) W lq Mcu Mcu Mcu);rw[show((m+1:Nat):Int)=(m:Int)+1 from rfl]at nW;clear hu cY;go_wp2_with (go_at_call 198;refine(nW.o _).mono ?_;rintro e wq ⟨rfl,rfl⟩)
     go_roundg (12-(m+1))
     case measure=>omega
     case rel=>
      refine⟨m+1,by omega,by omega,Nat.le_refl _,kM,gw.o,by repeat(first|exact B_refl|exact Below.refl _ _|assumption|with_reducible refine zac ?_ _|with_reducible refine zbg ?_ _|with_reducible refine zaE ?_|with_reducible refine zd9 ?_ _|with_reducible refine zaM ?_ Mds _),J_ne Mcu g0,?_⟩;exact MbS
    ·have kM:Hid (zbh day=m):=by
      show _=_;rw[HM.o,zjE cD]
     have Gh:day<zaD y m+za6 y m:=by
      by_cases nB:m<12
      ·have:¬zaD y (m+1)<=day:=fun h=>cD ⟨nB,h⟩
       rw[hu]at this;omega
      ·obtain rfl:m=12:=by omega
       exact C1.o
     have HD:Hid (DateIs day (zbU day) (zbh day)):=by
      show DateIs _ _ _;rw[HN.o,kM.o];exact⟨lq,by omega,cf,dX,cY,Gh⟩
     obtain⟨nW,qz⟩:=yH2 (fun W (h:m<12)=>zds y (m+1) W lq Mcu Mcu Mcu) (fun W=>zds y m W lq Mcu cf dX);rw[show((m+1:Nat):Int)=(m:Int)+1 from rfl]at nW;have bN:∀W:World,W=W->True:=fun _ _=>trivial
     clear hu cY Gh bN;by_cases nB:m<12
     ·have fI:(m:Int)<12:=Mcu;have ki:¬zaD y (m+1)<=day:=fun h=>cD ⟨nB,h⟩
      have qy:=zHi (fun W=>nW.o W nB);clear cD;go_upto_region 6 with(go_at_call 198;refine(qy.o _).mono ?_;rintro e wq ⟨rfl,rfl⟩)
      exact Mcl
     ·have fI:¬(m:Int)<12:=Mcu;clear cD nW;go_upto_region 6 with fail
      exact Mcl
theorem zh4(n:Int)(w:World):Calls Tryz.prog 197 #[.int .i64 n] w (Ret0 w (.bool (inR n 1800 2347))):=by
 go_enter Tryz.func197,Tryz.ntmps197
 exact Man
theorem ziU(n:Int)(w:World):Calls Tryz.prog 200 #[.int .i64 n] w (Ret0 w (.bool (zbl n))):=by
 go_enter Tryz.func200,Tryz.ntmps200
 exact Man
theorem zjY(n:Int)(w:World)(h0:0<=n)(h1:n<=1000000):Calls Tryz.prog 196 #[.int .i64 n,.int .i64 12] w (Ret0 w (.int .i64 (n%12))):=by
 have e1:n.tmod 12=n%12:=Int.tmod_eq_emod_of_nonneg h0;have k1:IntKind.i64.wrap (n%12)=n%12:=IntWalk.i64_in _ Mcu;have k2:IntKind.i64.wrap (n%12+12)=n%12+12:=IntWalk.i64_in _ Mcu;have e2:(n%12+12).tmod 12=n%12:=by rw[Int.tmod_eq_emod_of_nonneg Mcu];omega
 go_enter Tryz.func196,Tryz.ntmps196
 go_wp2_with fail
 go_ret
 exact⟨by first|rfl|simp,rfl⟩
theorem zml(n:Int)(w:World)(h0:0<=n)(h1:n<=1000000):Calls Tryz.prog 195 #[.int .i64 n,.int .i64 12] w (Ret0 w (.int .i64 (n/12))):=by
 have k1:IntKind.i64.wrap (n-n%12)=n-n%12:=IntWalk.i64_in _ Mcu;have e1:(n-n%12).tdiv 12=n/12:=by rw[Int.tdiv_eq_ediv_of_nonneg Mcu];omega
 have k2:IntKind.i64.wrap (n/12)=n/12:=IntWalk.i64_in _ Mcu;go_enter Tryz.func195,Tryz.ntmps195
 go_wp2_with (go_at_call 196;refine(zjY _ _ h0 h1).mono ?_;rintro e wq ⟨rfl,rfl⟩)
 go_ret
 exact⟨by first|rfl|simp,rfl⟩
theorem ziV(day mo:Int)(w:World)(h0:0<=day)(h1:day<=200000)(nN:0<=mo)(cf:mo<=12000):
 Calls Tryz.prog 182 #[.int .i64 day,.int .i64 mo] w (fun e w'=>∃n:Int,∃ok:Bool,(ok=true->zbV day mo=n/\0<=n)/\(ok=false->zbV day mo= -1)/\Ret w (.tuple #[.int .i64 n,.bool ok]) e w'):=by
 have hA:zbV day mo=if !inR ((zbU day*12+zbh day-1+mo)/12) 1800 2347 then-1 else
  if zbl (zaD ((zbU day*12+zbh day-1+mo)/12) ((zbU day*12+zbh day-1+mo)%12+1).toNat+min (day-zaD (zbU day) (zbh day)+1) (za6 ((zbU day*12+zbh day-1+mo)/12) ((zbU day*12+zbh day-1+mo)%12+1))-1)then
   zaD ((zbU day*12+zbh day-1+mo)/12) ((zbU day*12+zbh day-1+mo)%12+1).toNat+min (day-zaD (zbU day) (zbh day)+1) (za6 ((zbU day*12+zbh day-1+mo)/12) ((zbU day*12+zbh day-1+mo)%12+1))-1 else-1:=rfl
 have HA:=zHi hA;clear hA;have HD:=zHi (fun W=>zmk day W h0 h1);generalize zbU day=y at*;generalize zbh day=m at*;generalize zbV day mo=R at*;go_enter Tryz.func182,Tryz.ntmps182
 go_upto_region 2 with(go_at_call 194;refine(HD.o _).mono ?_;rintro e wq ⟨Dc,rfl,z,rfl⟩;simp only[zmC])
 obtain⟨d1,d2,d3,d4,d5,d6⟩:=Dc;obtain⟨f1,f2⟩:=zdH y d3 d4;obtain⟨X,hX⟩:∃X,X=day-zaD y m+1:=⟨_,rfl⟩
 obtain⟨N,hN⟩:∃N,N=y*12+m-1+mo:=⟨_,rfl⟩
 have tt:Hid (R=if !inR (N/12) 1800 2347 then-1 else if zbl (zaD (N/12) (N%12+1).toNat+min X (za6 (N/12) (N%12+1))-1)then zaD (N/12) (N%12+1).toNat+min X (za6 (N/12) (N%12+1))-1 else-1):=by
  show _=_;rw[HA.o,hX,hN]
 have K9:1<=X:=Mcu;have As:X<=31:=Mcu;rw[<-hX];have k1:IntKind.i64.wrap (y*12)=y*12:=IntWalk.i64_in _ Mcu;have k2:IntKind.i64.wrap (y*12+m)=y*12+m:=IntWalk.i64_in _ Mcu;have k3:IntKind.i64.wrap (y*12+m-1)=y*12+m-1:=IntWalk.i64_in _ Mcu;have k4:IntKind.i64.wrap (y*12+m-1+mo)=N:=by rw[hN];exact IntWalk.i64_in _ Mcu
 have Cr:0<=N/\N<=100000:=Mcu;obtain⟨rB,Cs⟩:=Cr;clear HA hX hN HD d5 d6 f1 f2;have dL:0<=N/12:=Mcu;obtain⟨mm,ct⟩:∃mm:Nat,(mm:Int)=N%12+1:=⟨(N%12+1).toNat,by omega⟩
 have dC:1<=mm:=Mcu;have js:mm<=12:=Mcu;have ht:(N%12+1).toNat=mm:=Mcu;have cH:Hid (R=if !inR (N/12) 1800 2347 then-1 else if zbl (zaD (N/12) mm+min X (za6 (N/12) mm)-1)then zaD (N/12) mm+min X (za6 (N/12) mm)-1 else-1):=by
  show _=_;rw[tt.o,ht,<-ct]
 have k5:IntKind.i64.wrap (N%12+1)=(mm:Int):=by rw[ct];exact IntWalk.i64_in _ Mcu
 obtain⟨Y,hY⟩:∃Y,N/12=Y:=⟨_,rfl⟩
 rw[hY]at cH;have wX:Y<=10000:=Mcu;have cM:0<=Y:=Mcu;clear tt ht;have tK:=zHi ct;clear ct
 go_upto_region 4 with(first
  |(go_at_call 195;refine(zml _ _ rB Mcu).mono ?_;rintro e wq ⟨rfl,rfl⟩;rw[hY])
  |(go_at_call 196;refine(zjY _ _ rB Mcu).mono ?_;rintro e wq ⟨rfl,rfl⟩))
 cases aJ:inR Y 1800 2347
 ·have HR:Hid (R= -1):=MdP;go_wp2_with (go_at_call 197;refine(zh4 _ _).mono ?_;rintro e wq ⟨rfl,rfl⟩;rw[aJ])
  all_goals go_ret2
  all_goals exact⟨0,false,by simp,fun _=>HR.o,Ret.of rfl Bw⟩
 ·have wY:1800<=Y/\Y<=2347:=by simpa[inR]using aJ
  obtain⟨f1,f2⟩:=zdH Y dC js;have so:=zbZ (m:=mm) wY.1 Mcu dC Mcu;have HR:Hid (R=if zbl (zaD Y mm+min X (za6 Y mm)-1)then zaD Y mm+min X (za6 Y mm)-1 else-1):=MdP;clear cH;go_upto_region 6 with(go_at_call 197;refine(zh4 _ _).mono ?_;rintro e wq ⟨rfl,rfl⟩;rw[aJ])
  obtain⟨vz,uX⟩:=yH2 (fun W=>zfs Y mm W cM Mcu dC js) (fun W=>zds Y mm W wY.1 Mcu dC js);have j1:IntKind.i64.wrap (zaD Y mm+min X (za6 Y mm))=zaD Y mm+min X (za6 Y mm):=IntWalk.i64_in _ Mcu;have j2:IntKind.i64.wrap (zaD Y mm+min X (za6 Y mm)-1)=zaD Y mm+min X (za6 Y mm)-1:=IntWalk.i64_in _ Mcu;generalize za6 Y mm=L at*;generalize zaD Y mm=F at*;clear so;refine zaj Mcv Mcv ?_;repeat(first|go_big_quiet_skip|(go_big_quiet_want;go_big_quiet_op;first|go_big_quiet_on|(apply Exists.intro;refine⟨fun _=>?_,?_⟩;(first|(go_at_call 199;exact zhW (vz.o _))|(go_at_call 198;exact zhW (uX.o _)));go_big_quiet_on)))
  refine wpQuiet_nil ?_;rintro _ ⟨zq,rfl⟩;generalize hO:F+min X L-1=out at*;have HO:=zHi hO;clear hO vz uX j1 j2;cases hd:zbl out
  ·have jB:=zHi hd;go_wp2_with (go_at_call 200;refine(ziU _ _).mono ?_;rintro e wq ⟨rfl,rfl⟩;rw[hd])
   exact MbQ
  ·have jB:=zHi hd;go_wp2_with (go_at_call 200;refine(ziU _ _).mono ?_;rintro e wq ⟨rfl,rfl⟩;rw[hd])
   exact MaZ
theorem zjZ(day ys:Int)(w:World)(h0:0<=day)(h1:day<=200000)(nN:0<=ys)(cf:ys<=99):
 Calls Tryz.prog 155 #[.int .i64 day,.int .i64 ys] w (Ret w (.int .i64 (zcj day ys))):=by
 have HL:=zHi (ziV day (12*ys) w h0 h1 Mcu Mcu);have bP:=zkG day ys;unfold zcj at bP;have vw:=zHi bP;have kz:IntKind.i64.wrap (12*ys)=12*ys:=IntWalk.i64_in _ Mcu;clear bP;go_enter Tryz.func155,Tryz.ntmps155
 go_upto_region 2 with(go_at_call 182;refine(HL.o).mono ?_;rintro e wq ⟨n,ok,k1,k2,rfl,z,rfl⟩;obtain⟨H1,H2⟩:=yH2 k1 k2;clear k1 k2)
 cases ok
 ·have HE:Hid (zcj day ys= -1):=by show _=_;unfold zcj;exact H2.o rfl
  go_wp2_with fail
  go_ret
  exact Ret.of (zbB HE.o.symm) Bw
 ·have HE:Hid (zcj day ys=n):=by show _=_;unfold zcj;exact(H1.o rfl).1
  have hn:¬200000<n:=by have:=vw.o;have:=(H1.o rfl).1;omega
  go_wp2_with fail
  go_ret
  exact Ret.of (zbB HE.o.symm) Bw
