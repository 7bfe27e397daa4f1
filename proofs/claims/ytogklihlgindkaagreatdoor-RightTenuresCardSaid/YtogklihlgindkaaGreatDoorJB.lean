import Derived.Test.YtogklihlgindkaaGreatDoorJ6
import Derived.Test.YtogklihlgindkaaGreatDoorO3
set_option linter.all false
set_option maxRecDepth 100000
set_option maxHeartbeats 4000000
namespace Go.Proofs.YtogklihlgindkaaGreatDoor
open Go.RowKit Go.Shelf
attribute [local go_sem] World.cell?_alloc_mark zaf za3 zam za6 zat zau zav zaw zax zay zaz
attribute [local go_sem] zao zac
def zgs:List Int:=[31,28,31,30,31,30,31,31,30,31,30,31]
def LensIn(w:World):Prop:=4<w.heap.size/\∀(k:Nat) (n:Int),zgs[k]?=some n->w.cell? ⟨4,k,none⟩=some (.int .i64 n)
variable{w:World}
def LensIn.keep{W:World}{n:Nat}(h:LensIn w)(hB:Below n w W)(hn:w.heap.size<=n:=by first|exact Qc|omega):LensIn W:=
 ⟨Nat.lt_of_lt_of_le h.1 hB.size,λk x hx=>(hB.cell (p:=⟨4,_,none⟩) (Nat.lt_of_lt_of_le h.1 hn)).trans (h.2 k x hx)⟩
def zeA(n lo hi:Int)(w:World):Calls Tryz.prog 174 #[.int .i64 n,.int .i64 lo,.int .i64 hi] w (Ret0 w (.bool (inR n lo hi))):=by
 go_enter Tryz.func174,Tryz.ntmps174
 go_wp2_with fail
 all_goals go_ret
 all_goals exact⟨by first|(simp_all[inR];done)|(simp_all[inR];omega),rfl⟩
def zhf(n:Int)(w:World):Calls Tryz.prog 173 #[.int .i64 n] w (Ret0 w (.bool (zba n))):=by
 go_enter Tryz.func173,Tryz.ntmps173
 go_wp2_with (go_at_call 174;refine(zeA _ _ _ _).mono ?_;rintro e wq ⟨rfl,rfl⟩)
 go_ret
 exact⟨rfl,rfl⟩
def zoZ(y:Int)(w:World)(h0:0<=y)(h1:y<=100000):Calls Tryz.prog 213 #[.int .i64 y] w (Ret0 w (.bool (zgT y))):=by
 rw[<-leapQ_eq h0];have w1:wrap64 (y.tmod 4)=y.tmod 4:=Mdj;have w2:wrap64 (y.tmod 100)=y.tmod 100:=Mdj;have w3:wrap64 (y.tmod 400)=y.tmod 400:=Mdj;have v1:IntKind.i64.wrap (y.tmod 4)=y.tmod 4:=Mdd;have v2:IntKind.i64.wrap (y.tmod 100)=y.tmod 100:=Mdd;have v3:IntKind.i64.wrap (y.tmod 400)=y.tmod 400:=Mdd;go_enter Tryz.func213,Tryz.ntmps213
 go_wp2_with fail
 all_goals go_ret
 all_goals exact⟨by simp[leapQ,Int.tmod_eq_emod_of_nonneg h0, *],rfl⟩
def zf7(y:Int)(m:Nat)(w:World)(hL:LensIn w)(h0:0<=y)(h1:y<=100000)(ct:1<=m)(fA:m<=12):Calls Tryz.prog 193 #[.int .i64 y,.int .i64 m] w (Ret0 w (.int .i64 (za7 y m))):=by
 have hd:=zoj y ct fA;have ae:m-1<zgs.length:=by simp[zgs];omega
 have hc:=hL.2 (m-1) _ (List.getElem?_eq_getElem ae);have hg:zgs.getD (m-1) 0=zgs[m-1]:=MdH;have cj:[31,28,31,30,31,30,31,31,30,31,30,31].getD (m-1) 0=zgs[m-1]:=hg;rw[cj]at hd;generalize zgs[m-1]=len at hc hd;have hw:IntKind.i64.wrap ((m:Int)-1)=(m:Int)-1:=IntWalk.i64_in _ McS;have oo:(0:Int)<=(m:Int)-1:=McS;have cu:(m:Int)-1<12:=McS;have dU:((m:Int)-1).toNat=m-1:=McS;have HD:=zHi hd;clear hd hg cj hL ae;by_cases h2:m=2
 ·subst h2;cases hl:zgT y
  ·exact MaJ
  ·exact MaJ
 ·have hb:((m:Int)==2)=false:=MeQ;have bM:¬(m:Int)=2:=McS;go_enter Tryz.func193,Tryz.ntmps193
  go_wp2_with fail
  go_ret
  exact⟨by rw[HD.o,hb];simp,rfl⟩
def zi7(y:Int)(w:World)(h0:1800<=y)(h1:y<=100000):Calls Tryz.prog 212 #[.int .i64 y] w (Ret0 w (.int .i64 (begP y))):=by
 have hp:0<=y-1:=McS;have e1:(y-1).tdiv 4=(y-1)/4:=Int.tdiv_eq_ediv_of_nonneg hp;have e2:(y-1).tdiv 100=(y-1)/100:=Int.tdiv_eq_ediv_of_nonneg hp;have e3:(y-1).tdiv 400=(y-1)/400:=Int.tdiv_eq_ediv_of_nonneg hp;have hv:begP y=365*(y-1800)+(y-1)/4-(y-1)/100+(y-1)/400-436:=by unfold begP;rw[zdy hp];omega
 have HV:=zHi hv;clear hv;have k0:IntKind.i64.wrap (y-1)=y-1:=IntWalk.i64_in _ McS;have k1:IntKind.i64.wrap (y-1800)=y-1800:=IntWalk.i64_in _ McS;have k2:IntKind.i64.wrap (365*(y-1800))=365*(y-1800):=IntWalk.i64_in _ McS;go_enter Tryz.func212,Tryz.ntmps212
 exact Mb3
def zbX{y:Int}{m:Nat}(h0:1800<=y)(h1:y<=2500)(ct:1<=m)(fA:m<=13):0<=zaD y m/\zaD y m<=1000000:=by
 have hb:begP y=365*(y-1800)+(y-1)/4-(y-1)/100+(y-1)/400-436:=by unfold begP;rw[zdy McS];omega
 have h:∀k:Nat,k<=12->begP y<=zaD y (k+1)/\zaD y (k+1)<=begP y+31*k:=λk=>by
  induction k with
  |zero=>intro _;rw[zbC];omega
  |succ k ih=>
   intro hk;have:=ih McS;have h2:=zf6 y (show 1<=k+1 by omega);have h3:=zdC y (show 1<=k+1 by omega) (show k+1<=12 by omega);omega
 obtain⟨k,rfl⟩:∃k,m=k+1:=⟨m-1,by omega⟩
 have:=h k McS;omega
def dayOf_any(y:Int)(m:Nat)(d:Int)(w:World)(hL:LensIn w)(h0:1800<=y)(h1:y<=2500)(ct:1<=m)(fA:m<=12)(cg:0<=d)(dY:d<=1000):
 Calls Tryz.prog 192 #[.int .i64 y,.int .i64 m,.int .i64 d] w (Ret0 w (.int .i64 (zaD y m+d-1))):=by
 have iJ:=zbX (m:=1) h0 h1 McS McS;rw[zbC]at iJ;have k0:IntKind.i64.wrap (begP y+d)=begP y+d:=IntWalk.i64_in _ McS;have k1:IntKind.i64.wrap (begP y+d-1)=begP y+d-1:=IntWalk.i64_in _ McS;go_enter Tryz.func192,Tryz.ntmps192
 go_wp2_with (go_at_call 212;refine(zi7 _ _ h0 McS).mono ?_;rintro e wq ⟨rfl,rfl⟩)
 go_loop [7,8] (λn i=>∃k:Nat,1<=k/\k<=m/\i=.int .i64 k/\n=.int .i64 (zaD y k+d-1)) (λ_ i=>m-(intOf i).toNat)
 case atStart=>exact⟨1,by omega,ct,rfl,by rw[zbC]⟩
 case round=>
  obtain⟨k,fY,ol,rfl,rfl⟩:=hrel;by_cases ae:k<m
  ·have hb:=zbX (m:=k) h0 h1 fY McS;have ft:=zdC y fY (show k<=12 by omega);have hu:=zf6 y fY;have HU:=zHi hu;have k2:IntKind.i64.wrap (zaD y k+d-1+za7 y k)=zaD y k+d-1+za7 y k:=IntWalk.i64_in _ McS;have bu:(k:Int)<(m:Int):=McS;clear hu;go_wp2_with (go_at_call 193;refine(zf7 y k _ hL McS McS fY McS).mono ?_;rintro e wq ⟨rfl,rfl⟩)
   go_round
   case rel=>exact⟨k+1,by omega,by omega,by go_num,by rw[HU.o];exact zb7 McS⟩
   case measure=>simp[intOf];omega
  ·exact McM
def znb(y m d:Int):Value:=.agg #[.int .i64 y,.int .i64 m,.int .i64 d]
def zl4{fn:Func}{p:Tmp}(h:fn.results= #[.cell p 232])(tmps:Array Value)(w:World)(B:Nat)(x y z:Int)(hp:tmps.getD p undef=.pointer (some ⟨B,0,none⟩))
 (h0:w.cell? ⟨B,0,none⟩=some (.int .i64 x))(h1:w.cell? ⟨B,1,none⟩=some (.int .i64 y))(h2:w.cell? ⟨B,2,none⟩=some (.int .i64 z)):(results fn tmps).run Tryz.prog w=.ok (znb x y z) w:=by
 rw[zdF h,hp];unfold znb;go_simp
def J_set3{g:Nat}{z0 z1 z2 a b c:Value}{t:TypeId}{fr:Nat×Nat}(h:w.heap[g]?=some (.cells #[z0,z1,z2] t fr)):(((w.setCell ⟨g,0,none⟩ a).setCell ⟨g,1,none⟩ b).setCell ⟨g,2,none⟩ c).heap[g]?=some (.cells #[a,b,c] t fr):=by
 have:=Joins.block_setCell (i:=2) (Joins.block_setCell (i:=1) (Joins.block_setCell (i:=0) h a) b) c;simpa using this
def zpa(day:Int)(w:World)(hL:LensIn w)(h0:0<=day)(h1:day<=200000):
 Calls Tryz.prog 191 #[.int .i64 day] w (λe w'=>DateIs day (zbQ day) (zbg day)/\Ret w (znb (zbQ day) (zbg day) (day-zaD (zbQ day) (zbg day)+1)) e w'):=by
 have dP:=beg_low h0 h1;have fu:=zoi h0 h1;have xC:day.tdiv 366=day/366:=Int.tdiv_eq_ediv_of_nonneg h0;have fO:0<=day/366:=McS;have cJ:day/366<=546:=McS;rw[xC]at dP fu;have zI:zbQ day=zep day 10 (1800+day/366):=by unfold zbQ;rw[xC]
 obtain⟨HY,HH⟩:=yH2 zI fu;clear zI fu;go_enter Tryz.func191,Tryz.ntmps191
 go_wp2_with fail
 go_loopg [] 10 (λgg wr=>∃(f:Nat) (y:Int),f<=gg/\y+f=1800+day/366+10/\1800<=y/\y<=2400/\Hid (zbQ day=zep day f y)/\Hid (begP y<=day)/\Qa w wr/\wr.heap[w.heap.size]?=some (.cells #[.int .i64 0,.int .i64 0,.int .i64 0] 232)/\wr.heap[w.heap.size+1]?=some (.cells #[.int .i64 y,.int .i64 1,.int .i64 0] 232))
 case atStart=>exact⟨10,1800+day/366,Qc,by omega,by omega,by omega,HY.o,dP,Bw,zal (zas _ _ _ rfl),zas _ _ _ McV⟩
 case round=>
  obtain⟨f,y,hf,Np,lW,tG,wk,fQ,hB,g0,g1⟩:=hrel;have a0:wr.cell? ⟨w.heap.size+1,0,none⟩=some (.int .i64 y):=McY;have a1:wr.cell? ⟨w.heap.size+1,1,none⟩=some (.int .i64 1):=McY;have a2:wr.cell? ⟨w.heap.size+1,2,none⟩=some (.int .i64 0):=McY;have z0:wr.frozen? ⟨w.heap.size+1,0,none⟩=false:=Mc6;have z1:wr.frozen? ⟨w.heap.size+1,1,none⟩=false:=Mc6;have z2:wr.frozen? ⟨w.heap.size+1,2,none⟩=false:=Mc6;have b0:wr.cell? ⟨w.heap.size,0,none⟩=some (.int .i64 0):=McW;have b1:wr.cell? ⟨w.heap.size,1,none⟩=some (.int .i64 0):=McW;have b2:wr.cell? ⟨w.heap.size,2,none⟩=some (.int .i64 0):=McW;have x0:wr.frozen? ⟨w.heap.size,0,none⟩=false:=Mc5;have x1:wr.frozen? ⟨w.heap.size,1,none⟩=false:=Mc5;have x2:wr.frozen? ⟨w.heap.size,2,none⟩=false:=Mc5;have e1:w.heap.size+1<wr.heap.size:=zab g1;have e0:w.heap.size<wr.heap.size:=zab g0;have hLr:=hL.keep hB;have k0:IntKind.i64.wrap (y+1)=y+1:=IntWalk.i64_in _ McS;by_cases hc:begP (y+1)<=day
  ·have Hg:f≠0:=by
    exact Mb2
   obtain⟨f',rfl⟩:∃f',f=f'+1:=⟨f-1,by omega⟩
   have HN:Hid (zbQ day=zep day f' (y+1)):=by
    show _=_;rw[wk.o,zlx MeH]
   have HC:=zHi hc;go_wp2_with (go_at_call 212;refine(zi7 _ _ McS McS).mono ?_;rintro e wq ⟨rfl,rfl⟩)
   exact M0
  ·have HN:Hid (zbQ day=y):=by
    show _=_;rw[wk.o,zly MeH]
   have sM:=zbX (m:=1) lW McS McS McS;rw[zbC]at sM;have k1:IntKind.i64.wrap (day-begP y)=day-begP y:=IntWalk.i64_in _ McS;have yt:zbg day=zdn day y 12 1:=by unfold zbg;rw[HN.o]
   have l9:=zHi yt;have zJ:day<zaD y 12+za7 y 12:=by
    rw[<-zjN lW,zbC];omega
   have Cw:=zHi zJ;have mg:=fQ.o;have ak:Hid (zaD y 1<=day):=by show _<=_;rw[zbC];exact mg
   clear yt zJ mg;obtain⟨G0,G1⟩:=yH2 g0 g1;go_upto_region 5 with(go_at_call 212;refine(zi7 _ _ McS McS).mono ?_;rintro e wq ⟨rfl,rfl⟩)
   clear a0 a1 a2 z0 z1 z2 b0 b1 b2 x0 x1 x2 g0 g1;go_loopg [0] 12 (λgg v wm=>∃(m:Nat),1<=m/\m<=12/\12-m<=gg/\v=.int .i64 (day-zaD y m)/\Hid (zbg day=zdn day y (13-m) m)/\Hid (zaD y m<=day)/\Qa w wm/\wm.heap[w.heap.size]?=some (.cells #[.int .i64 0,.int .i64 0,.int .i64 0] 232)/\wm.heap[w.heap.size+1]?=some (.cells #[.int .i64 y,.int .i64 m,.int .i64 0] 232))
   case atStart=>exact⟨1,by omega,by omega,by omega,by rw[zbC],l9.o,ak.o,hB,G0.o,G1.o⟩
   case round=>
    obtain⟨m,ct,fA,pg,rfl,HM,rl,FU,g0,g1⟩:=hrel;have a0:wr.cell? ⟨w.heap.size+1,0,none⟩=some (.int .i64 y):=McY;have a1:wr.cell? ⟨w.heap.size+1,1,none⟩=some (.int .i64 m):=McY;have a2:wr.cell? ⟨w.heap.size+1,2,none⟩=some (.int .i64 0):=McY;have z0:wr.frozen? ⟨w.heap.size+1,0,none⟩=false:=Mc6;have z1:wr.frozen? ⟨w.heap.size+1,1,none⟩=false:=Mc6;have z2:wr.frozen? ⟨w.heap.size+1,2,none⟩=false:=Mc6;have b0:wr.cell? ⟨w.heap.size,0,none⟩=some (.int .i64 0):=McW;have b1:wr.cell? ⟨w.heap.size,1,none⟩=some (.int .i64 0):=McW;have b2:wr.cell? ⟨w.heap.size,2,none⟩=some (.int .i64 0):=McW;have x0:wr.frozen? ⟨w.heap.size,0,none⟩=false:=Mc5;have x1:wr.frozen? ⟨w.heap.size,1,none⟩=false:=Mc5;have x2:wr.frozen? ⟨w.heap.size,2,none⟩=false:=Mc5;have e1:w.heap.size+1<wr.heap.size:=zab g1;have e0:w.heap.size<wr.heap.size:=zab g0;have Gn:=hL.keep FU;have ft:=zdC y ct fA;have p8:=zbX (m:=m) lW McS ct McS;have hu:=zf6 y ct;have HU:=zHi hu;have dM:=rl.o;have k2:IntKind.i64.wrap (day-zaD y m-za7 y m)=day-zaD y m-za7 y m:=IntWalk.i64_in _ McS;have k3:IntKind.i64.wrap ((m:Int)+1)=(m:Int)+1:=IntWalk.i64_in _ McS;have k4:IntKind.i64.wrap (day-zaD y m+1)=day-zaD y m+1:=IntWalk.i64_in _ McS;by_cases cD:za7 y m<=day-zaD y m
    ·have t8:m<12:=by
      rcases Nat.lt_or_ge m 12 with h|h
      ·exact h
      ·have:=Cw.o;obtain rfl:m=12:=by omega
       rw[show((12:Nat):Int)=12 from rfl]at cD;omega
     have lh:Hid (zbg day=zdn day y (13-(m+1)) (m+1)):=by
      show _=_;rw[HM.o,show 13-m=(13-(m+1))+1 by omega,zjO t8 (by rw[hu];omega)]
     have yf:zaD y (m+1)<=day:=by rw[hu];omega
     have fS:=zHi yf;clear hu dM yf;go_wp2_with (go_at_call 193;refine(zf7 y m _ Gn McS McS ct fA).mono ?_;rintro e wq ⟨rfl,rfl⟩)
     go_roundg (12-(m+1))
     case measure=>omega
     case rel=>
      refine⟨m+1,by omega,by omega,Qc,by rw[HU.o];exact zb7 McS,lh,fS.o,by repeat(first|exact B_refl|exact Qb|assumption|with_reducible refine zad ?_ _|with_reducible refine zb2 ?_ _|with_reducible refine zaF ?_|with_reducible refine zcD ?_ _|with_reducible refine zaS ?_ MdO _),J_ne McS g0,?_⟩;exact Mb7
    ·have lh:Hid (zbg day=m):=by
      show _=_;rw[HM.o,zjP (by rw[hu];omega)]
     have HD:Hid (DateIs day (zbQ day) (zbg day)):=by
      show DateIs _ _ _;rw[HN.o,lh.o];exact⟨lW,by omega,ct,fA,dM,by omega⟩
     clear hu dM;go_wp2_with (go_at_call 193;refine(zf7 y m _ Gn McS McS ct fA).mono ?_;rintro e wq ⟨rfl,rfl⟩)
     exact My
def zpb(day mo:Int)(w:World)(hL:LensIn w)(h0:0<=day)(h1:day<=200000)(nv: -12000<=mo)(ct:mo<=12000):
 Calls Tryz.prog 175 #[.int .i64 day,.int .i64 mo] w (λe w'=>∃n:Int,∃ok:Bool,(ok=true->zbR day mo=n/\0<=n)/\(ok=false->zbR day mo= -1)/\Ret w (.tuple #[.int .i64 n,.bool ok]) e w'):=by
 have hA:zbR day mo=if !inR ((zbQ day*12+zbg day-1+mo)/12) 1800 2347 then-1 else
  if zba (zaD ((zbQ day*12+zbg day-1+mo)/12) ((zbQ day*12+zbg day-1+mo)%12+1).toNat+min (day-zaD (zbQ day) (zbg day)+1) (za7 ((zbQ day*12+zbg day-1+mo)/12) ((zbQ day*12+zbg day-1+mo)%12+1))-1)then
   zaD ((zbQ day*12+zbg day-1+mo)/12) ((zbQ day*12+zbg day-1+mo)%12+1).toNat+min (day-zaD (zbQ day) (zbg day)+1) (za7 ((zbQ day*12+zbg day-1+mo)/12) ((zbQ day*12+zbg day-1+mo)%12+1))-1 else-1:=rfl
 have HA:=zHi hA;clear hA;have HD:=zHi (λW h=>zpa day W h h0 h1);generalize zbQ day=y at*;generalize zbg day=m at*;generalize zbR day mo=R at*;go_enter Tryz.func175,Tryz.ntmps175
 go_upto_region 2 with(go_at_call 191;refine(HD.o _ hL).mono ?_;rintro e wq ⟨DO,rfl,z,rfl⟩;simp only[znb])
 obtain⟨d1,d2,d3,d4,d5,d6⟩:=DO;obtain⟨f1,f2⟩:=zdC y d3 d4;obtain⟨X,hX⟩:=Qd (day-zaD y m+1)
 obtain⟨N,hN⟩:=Qd (12*y+m-1+mo)
 have tI:Hid (R=if !inR (N/12) 1800 2347 then-1 else if zba (zaD (N/12) (N%12+1).toNat+min X (za7 (N/12) (N%12+1))-1)then zaD (N/12) (N%12+1).toNat+min X (za7 (N/12) (N%12+1))-1 else-1):=by
  show _=_;rw[HA.o,hX,hN,show y*12+(m:Int)-1+mo=12*y+m-1+mo by omega]
 have KG:1<=X:=McS;have AK:X<=31:=McS;rw[<-hX];have k1:IntKind.i64.wrap (12*y)=12*y:=IntWalk.i64_in _ McS;have k2:IntKind.i64.wrap (12*y+m)=12*y+m:=IntWalk.i64_in _ McS;have k3:IntKind.i64.wrap (12*y+m-1)=12*y+m-1:=IntWalk.i64_in _ McS;have k4:IntKind.i64.wrap (12*y+m-1+mo)=N:=by rw[hN];exact IntWalk.i64_in _ McS
 have CV: -20000<=N/\N<=100000:=McS;obtain⟨rW,CW⟩:=CV;clear HA hX hN HD d5 d6 f1 f2;by_cases hN0:N<0
 ·have CU:inR (N/12) 1800 2347=false:=by simp[inR];omega
  have HR:Hid (R= -1):=by show _=_;rw[tI.o,CU];rfl
  clear CU;go_wp2_with fail
  go_ret2
  exact⟨0,false,by simp,λ_=>HR.o,Ret.of rfl Bw⟩
 ·have CU:0<=N:=McS;have fO:0<=N/12:=McS;obtain⟨mm,dj⟩:∃mm:Nat,(mm:Int)=N%12+1:=⟨(N%12+1).toNat,by omega⟩
  have dG:1<=mm:=McS;have jN:mm<=12:=McS;have ht:(N%12+1).toNat=mm:=McS;have cL:Hid (R=if !inR (N/12) 1800 2347 then-1 else if zba (zaD (N/12) mm+min X (za7 (N/12) mm)-1)then zaD (N/12) mm+min X (za7 (N/12) mm)-1 else-1):=by
   show _=_;rw[tI.o,ht,<-dj]
  have k5:IntKind.i64.wrap (N%12+1)=(mm:Int):=by rw[dj];exact IntWalk.i64_in _ McS
  obtain⟨Y,hY⟩:∃Y,N/12=Y:=⟨_,rfl⟩
  rw[hY]at cL;have xb:Y<=10000:=McS;have cJ:0<=Y:=McS;clear tI ht;have zY:=zHi dj;clear dj;cases aQ:inR Y 1800 2347
  ·have HR:Hid (R= -1):=Mef;go_wp2_with (go_at_call 174;refine(zeA _ _ _ _).mono ?_;rintro e wq ⟨rfl,rfl⟩;rw[aQ])
   all_goals go_ret2
   all_goals exact⟨0,false,by simp,λ_=>HR.o,Ret.of rfl Bw⟩
  ·have xd:1800<=Y/\Y<=2347:=by simpa[inR]using aQ
   obtain⟨f1,f2⟩:=zdC Y dG jN;have sM:=zbX (m:=mm) xd.1 McS dG McS;have HR:Hid (R=if zba (zaD Y mm+min X (za7 Y mm)-1)then zaD Y mm+min X (za7 Y mm)-1 else-1):=Mef;have eM:Hid (∀W,Qa w W->LensIn W):=λW h=>hL.keep h
   clear cL hL;go_upto_region 6 with(go_at_call 174;refine(zeA _ _ _ _).mono ?_;rintro e wq ⟨rfl,rfl⟩;rw[aQ])
   obtain⟨vF,vk⟩:=yH2 (λW (hW:Qa w W)=>zf7 Y mm W (eM.o _ hW) cJ McS dG jN) (λd W (hW:Qa w W) (iK:0<=d) (cg:d<=1000)=>dayOf_any Y mm d W (eM.o _ hW) xd.1 McS dG jN iK cg);generalize za7 Y mm=L at*;clear sM;refine zag McT McT ?_;repeat(first|go_big_quiet_skip|(go_big_quiet_want;go_big_quiet_op;first|go_big_quiet_on|(apply Exists.intro;refine⟨λ_=>?_,?_⟩;(first|(go_at_call 193;exact zif (vF.o _ Bw))|(go_at_call 192;exact zif (vk.o _ _ Bw McS McS)));go_big_quiet_on)))
   refine wpQuiet_nil ?_;rintro _ ⟨zq,rfl⟩;generalize hO:zaD Y mm+min X L-1=out at*;have HO:=zHi hO;clear hO vF vk eM;cases hd:zba out
   ·have jX:=zHi hd;go_wp2_with (go_at_call 173;refine(zhf _ _).mono ?_;rintro e wq ⟨rfl,rfl⟩;rw[hd])
    exact Mb4
   ·have jX:=zHi hd;go_wp2_with (go_at_call 173;refine(zhf _ _).mono ?_;rintro e wq ⟨rfl,rfl⟩;rw[hd])
    exact Mbh
def Rec.v(r:Rec):Value:=.agg #[.int .i64 r.kind,.string r.name,.string r.other,.string r.place,.int .i64 r.day,.int .i64 r.til,.int .i64 r.num,.int .i64 r.den]
def recO(r:Rec):Obj:=.cells #[.int .i64 r.kind,.string r.name,.string r.other,.string r.place,.int .i64 r.day,.int .i64 r.til,.int .i64 r.num,.int .i64 r.den] 52
def znc(x y:Rec)(w:World)(hx:0<=x.kind/\x.kind<=4)(hy:0<=y.kind/\y.kind<=4):Calls Tryz.prog 70 #[x.v,y.v] w (Ret w (.bool (zbD x y))):=by
 obtain⟨lo,hi,nr⟩:∃lo hi,(lo,hi)=if y.kind<x.kind then(y,x)else(x,y):=⟨_,_,rfl⟩
 have hr:zbD x y=zgj lo hi:=by
  unfold zbD;by_cases h:y.kind<x.kind
  ·rw[if_pos h]at nr;cases nr;rw[if_pos MdG]
  ·rw[if_neg h]at nr;cases nr;rw[if_neg MdG]
 have cf:0<=lo.kind/\lo.kind<=4/\0<=hi.kind/\hi.kind<=4:=by
  split at nr<;>cases nr<;>omega
 rw[hr];obtain⟨R,hR⟩:=Qd (zgj lo hi)
 rw[<-hR];have HR:=zHi hR;clear hR;unfold Rec.v;go_enter Tryz.func70,Tryz.ntmps70
 go_upto_if 10 with fail
 go_cut [11,12]from 13 (λ_ _ W=>W.heap[w.heap.size]?=some (recO lo)/\W.heap[w.heap.size+1]?=some (recO hi)/\Qa w W)
 case first=>
  by_cases h:y.kind<x.kind
  ·rw[if_pos h]at nr;cases nr;exact MbR
  ·rw[if_neg h]at nr;cases nr;exact MbR
 case rest=>
  obtain⟨g0,g1,hB⟩:=hcut;clear nr hr hx hy;obtain⟨lk,ln,lo2,lp,ld,lt,lu,lv⟩:=lo;obtain⟨hk,hn,uG,hp,hd,ht,hu,hv⟩:=hi;simp only at cf;unfold recO at g0 g1;obtain⟨a0,a1,-,a3,a4,a5,a6,a7⟩:=cF8 g0;obtain⟨b0,b1,-,b3,b4,b5,b6,b7⟩:=cF8 g1;have HB:=zHi hB;clear hB g0 g1;have hR:=HR.o;unfold zgj at hR;simp only at hR;clear HR;have Lw:lk=0\/lk=1\/lk=2\/lk=3\/lk=4:=McS;have Lb:hk=0\/hk=1\/hk=2\/hk=3\/hk=4:=McS;clear cf;rcases Lw with rfl|rfl|rfl|rfl|rfl<;>rcases Lb with rfl|rfl|rfl|rfl|rfl
  ·exact Mch
  ·cases hs:(ln.toList==hn.toList)
   ·exact Mci
   ·by_cases h:hd<ld
    ·exact Mcp
    ·exact Mci
  ·exact Mch
  ·exact Mch
  ·exact Mch
  ·exact Mch
  ·cases hs:(ln.toList==hn.toList)
   ·exact Mci
   ·by_cases h:ld=hd
    ·exact Mci
    ·exact Mcp
  ·exact Mch
  ·cases hs:(ln.toList==hn.toList)
   ·exact Mci
   ·by_cases h:ld<hd
    ·exact Mcp
    ·exact Mci
  ·cases hs:(ln.toList==hn.toList)
   ·exact Mci
   ·by_cases h:ld<hd
    ·exact Mcp
    ·exact Mci
  ·exact Mch
  ·exact Mch
  ·exact Mch
  ·exact Mch
  ·exact Mch
  ·exact Mch
  ·exact Mch
  ·exact Mch
  ·cases hs:(ln.toList==hn.toList)
   ·exact Mci
   ·cases hq:(lp.toList==hp.toList)
    ·exact Mci
    ·by_cases h:ld=hd
     ·by_cases h2:lu=hu
      ·by_cases h3:lv=hv
       ·exact Mci
       ·exact Mcp
      ·exact Mcp
     ·exact Mci
  ·exact Mch
  ·exact Mch
  ·exact Mch
  ·exact Mch
  ·exact Mch
  ·cases hs:(ln.toList==hn.toList)
   ·cases hq:(lp.toList==hp.toList)
    ·exact Mci
    ·by_cases h:max ld hd<min lt ht
     ·exact Mcp
     ·exact Mci
   ·exact Mci
