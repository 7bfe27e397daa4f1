import Derived.Test.YtogklihlgindkaaGreatDoorOD
import Derived.Shelf.SlLaysNS
set_option linter.all false
set_option maxRecDepth 100000
set_option maxHeartbeats 4000000
namespace Go.Proofs.YtogklihlgindkaaGreatDoor
open Go.RowKit
attribute [local go_sem] World.cell?_alloc_mark zaf za3 zam za6 zat zau zav zaw zax zay zaz
def zcO(s:ByteArray)(w:World)(hs:s.size<=100000):
 Calls Tryz.prog 27 #[.string s] w (Ret0 w (.bool (zcE s))):=by
 go_enter Tryz.func27,Tryz.ntmps27
 by_cases h0:s.size=0
 ·have H0:=zHi h0;have h1:(s.size:Int)<1:=McS;clear h0;go_wp2_with fail
  go_ret
  exact⟨by simp[zcE,h1],rfl⟩
 have JR:0<s.size:=McS;have hg:(zds s).getD 0 0=(s[0].toNat:Int):=by simp only[zds,List.getD_eq_getElem?_getD,List.getElem?_map,Array.getElem?_toList];rw[Array.getElem?_eq_getElem JR];rfl
 go_wp2_with (first
  |(go_at_call 56;refine(zkb _ _).mono ?_;intro e wq hq;rcases Ret0.bools hq with⟨rfl,⟨hb,rfl⟩|⟨hb,rfl⟩⟩<;>clear hq)
  |(go_at_call 57;refine(zmd _ _).mono ?_;intro e wq hq;rcases Ret0.bools hq with⟨rfl,⟨hb,rfl⟩|⟨hb,rfl⟩⟩<;>clear hq))
 ·have HG:=zHi hg;clear hg;go_loop [3] (λi=>∃k:Nat,1<=k/\k<=s.size/\i=.int .i64 k/\zjw ((zds s).drop 1)=zjw ((zds s).drop k)) (λi=>s.size-(intOf i).toNat)
  case atStart=>exact⟨1,by omega,by omega,rfl,rfl⟩
  case round=>
   obtain⟨k,fY,hk,rfl,hf⟩:=hrel;by_cases ae:k<s.size
   ·rw[zig s k ae,show s.data[k]=s[k]from rfl]at hf;have HF:=zHi hf;clear hf;have HL:=zHi ae
    go_wp2_with (first
     |(go_at_call 56;refine(zkb _ _).mono ?_;intro e wq hq;rcases Ret0.bools hq with⟨rfl,⟨hb,rfl⟩|⟨hb,rfl⟩⟩<;>clear hq)
     |(go_at_call 57;refine(zmd _ _).mono ?_;intro e wq hq;rcases Ret0.bools hq with⟨rfl,⟨hb,rfl⟩|⟨hb,rfl⟩⟩<;>clear hq))
    all_goals first
     |(go_round
       case rel=>exact⟨k+1,by omega,by have:=HL.o;omega,by go_num,by rw[HF.o,zjw,if_neg (by simp[*])]⟩
       case measure=>have:=HL.o;simp[intOf];omega)
     |(go_ret
       exact⟨by rw[zcE,HG.o,HF.o,zjw];simp[*],rfl⟩)
   ·have nz:(zds s).drop k=[]:=List.drop_eq_nil_of_le (by rw[zgQ];omega);rw[nz,zjw]at hf;clear nz;have HF:=zHi hf;clear hf;go_wp2_with fail
    go_ret
    exact⟨by rw[zcE,HG.o,HF.o];simp[*],rfl⟩
 ·go_ret
  exact⟨by rw[zcE,hg];simp[*],rfl⟩
 ·go_ret
  exact⟨by rw[zcE,hg];simp[*],rfl⟩
section
open Go.Shelf
attribute [local go_sem] zao zac
def zcP(n:Int)(w:World):Calls Tryz.prog 28 #[.int .i64 n] w (Ret0 w (.bool (zba n))):=by
 go_enter Tryz.func28,Tryz.ntmps28
 exact May
def zh9(a b:Int)(w:World):Calls Tryz.prog 94 #[.agg #[.int .i64 a,.int .i64 b]] w (Ret w (.bool (za8 16 a b))):=by
 go_enter Tryz.func94,Tryz.ntmps94
 by_cases h1:inR b 1 16=true
 ·by_cases h2:inR a 0 b=true
  ·have x1:1<=b/\b<=16:=by simpa[inR]using h1
   have x2:0<=a/\a<=b:=by simpa[inR]using h2
   have g1:a.natAbs<=4611686018427387904:=McS;have g2:b.natAbs<=4611686018427387904:=McS;obtain⟨G1,G2⟩:=yH2 g1 g2;have hv:za8 16 a b=((Int.gcd a b:Int)==1):=by
    unfold za8;simp only[x1.1,x1.2,x2.1,x2.2,decide_true,Bool.true_and];rw[Bool.eq_iff_iff,beq_iff_eq,beq_iff_eq];omega
   have HV:=zHi hv;clear g1 g2 hv x1 x2
   go_wp2_with (first
    |(go_at_call 58;refine(zc3 _ _ _ _).mono ?_;rintro e wq ⟨rfl,rfl⟩)
    |(go_at_call 124;refine(zov _ _ _ G1.o G2.o).mono ?_;rintro e w1 ⟨rfl,z1,rfl⟩))
   all_goals go_ret
   all_goals exact Ret.of (zaT (by rw[HV.o])) Bw
  ·have hv:za8 16 a b=false:=by
    unfold za8;simp[inR]at h1 h2⊢;omega
   exact Mbe
 ·have hv:za8 16 a b=false:=by
   unfold za8;simp[inR]at h1⊢;omega
  exact Mbe
def zdV(p:RPart):Bool:=za8 16 p.num p.den&&p.num != 0
def sumR:List RPart->Rat->Rat×Bool
 | [],o=>(o,true)
 |p::l,o=>if zdV p then sumR l (o+p.rat)else(o,false)
def zkf{k:Nat}{o:Rat}(hk:k<=1000)(h:IsN 720720 o)(h0:0<=o)(h1:o<=(k:Rat)):zaJ o:=by
 have hd:=zkw McU h;have hn:0<=o.num:=Rat.num_nonneg.2 h0;have h2:=(Rat.le_iff o (k:Rat)).1 h1;have e1:((k:Rat)).num=(k:Int):=Rat.num_natCast k;have e2:((k:Rat)).den=1:=Rat.den_natCast k;rw[e1,e2]at h2;have h3:o.num<=(k:Int)*(o.den:Int):=MeI;have h4:(k:Int)*(o.den:Int)<=1000*720720:=Int.mul_le_mul McS McS McS McS;exact⟨by omega,by omega⟩
def zo9(l:List RPart)(A:Option Addr)(c:Nat)(w:World)(hl:l.length<=1000)(hS:Sl w 3 RPart.cells A l):Calls Tryz.prog 128 #[.slice A l.length c] w (Ret w (.tuple #[zaA (sumR l 0).1,.bool (sumR l 0).2])):=by
 have HS:=zHi hS;obtain⟨R,hR⟩:=Qd (sumR l 0)
 rw[<-hR];have HR:=zHi hR;clear hS hR;go_enter Tryz.func128,Tryz.ntmps128
 go_upto_region 2 with(go_at_call 156;go_must(refine(ziK _).mono ?_);rintro e wq ⟨rfl,z0,rfl⟩)
 obtain⟨OB,kh⟩:=Qd (w.heap.size+1+z0.os.size)
 obtain⟨W0,am⟩:=Qd (((w.alloc (.cells #[.int .i64 0,.int .i64 0] 50)).ext z0).alloc (.cells #[.int .i64 0,.int .i64 1] 50))
 have b0:W0.heap[w.heap.size]?=some (.cells #[.int .i64 0,.int .i64 0] 50):=by rw[am];exact zal (zbF (zas _ _ _ rfl))
 have b1:W0.heap[OB]?=some (.cells #[.int .i64 0,.int .i64 1] 50):=by rw[am];exact zas _ _ _ (by rw[kh];simp[zaf])
 have aO:Qa w W0:=Mdz;rw[<-am,<-kh];have ak:=zHi aO;have dM:w.heap.size<OB:=McS;clear am aO kh;go_upto_region 3 with fail
 go_loopw [5] (λi wr=>∃(k:Nat) (o:Rat),k<=l.length/\i=.int .i64 k/\Hid (R=sumR (l.drop k) o)/\Hid (IsN 720720 o/\0<=o/\o<=(k:Rat))/\Qa w wr/\wr.heap[w.heap.size]?=some (.cells #[.int .i64 0,.int .i64 0] 50)/\wr.heap[OB]?=some (.cells #[.int .i64 o.num,.int .i64 o.den] 50)) (λi _=>l.length-(intOf i).toNat)
 case atStart=>exact⟨0,0,Nat.zero_le _,rfl,by rw[List.drop_zero];exact HR.o,zHi ⟨zkv _,Rat.le_refl,by simp⟩,ak.o,b0,b1⟩
 case round=>
  obtain⟨k,o,hk,rfl,HX,HN,hB,g0,g1⟩:=hrel;have HB:=zHi hB;have aM:=hB.size;have x0:=zab g0;have x1:=zab g1;obtain⟨c0,c1⟩:=cF2 g1;obtain⟨t0,t1⟩:=cF2 g0;have f0:∀j,wr.frozen? ⟨w.heap.size,j,none⟩=false:=λj=>by simp[World.frozen?,g0]
  by_cases ae:k<l.length
  ·obtain⟨b,off,rfl,hb,ah⟩:=(HS.o.keep hB).at ae;have hx:=HX.o;rw[List.drop_eq_getElem_cons ae,sumR]at hx;obtain⟨aw,aj⟩:=yH2 hx ae;generalize l[k]=x at*;obtain⟨nm,nu,de⟩:=x;have i1:wr.cell? ⟨b,off+k*3+1,none⟩=some (.int .i64 nu):=ah 1 _ rfl;have i2:wr.cell? ⟨b,off+k*3+2,none⟩=some (.int .i64 de):=ah 2 _ rfl;have au:(k:Int)<(l.length:Int):=McS;have aR:(0:Int)<=(k:Int):=McS;have tV:=zHi (λW=>zh9 nu de W);clear ah hx ae hB;cases bS:za8 16 nu de
   ·have HE:Hid (R=(o,false)):=by show _=_;rw[aw.o];simp[zdV,bS]
    rw[bS]at tV;exact M3
   ·rw[bS]at tV;by_cases hz:nu=0
    ·subst hz;have HE:Hid (R=(o,false)):=by show _=_;rw[aw.o];simp[zdV]
     exact M3
    ·have jp:(nu==0)=false:=MdZ;have lU:=zbl bS;have Ec:=zes bS;have lT:=lU.1;have Ie:=lU.2.1;generalize hq:Rat.divInt nu de=q at*;have HE:Hid (R=sumR (l.drop (k+1)) (o+q)):=by show _=_;rw[aw.o];unfold zdV RPart.rat;simp only;rw[bS,hq];simp[hz]
     have hn:=HN.o;have fY:((k+1:Nat):Rat)=(k:Rat)+1:=McV;have lh:Hid (IsN 720720 (o+q)/\0<=o+q/\o+q<=((k+1:Nat):Rat)):=by
      refine zHi ⟨zkt hn.1 Ec,?_,?_⟩
      ·have:=lU.2.2.1;have:=hn.2.1;grind
      ·rw[fY];have:=lU.2.2.2;have:=hn.2.2;grind
     have qB:zaJ o:=zkf McS hn.1 hn.2.1 hn.2.2;have dR:zaJ q:=zkf (k:=1) McS Ec lU.2.2.1 (by simpa using lU.2.2.2);have kr:=zHi (λW=>zow o q W qB dR);unfold zaA at kr;rw[lT,Ie]at kr;clear lU Ec lT Ie hq hn fY qB dR bS;go_upto_region 7 with(go_at_call 94;go_must(refine(tV.o _).mono ?_);rintro e wq ⟨rfl,z,rfl⟩)
     have j1:(wr.ext z).cell? ⟨b,off+k*3+1,none⟩=some (.int .i64 nu):=(za3 _ _ _ _ hb).trans i1;have j2:(wr.ext z).cell? ⟨b,off+k*3+2,none⟩=some (.int .i64 de):=(za3 _ _ _ _ hb).trans i2;have y0:(wr.ext z).heap[w.heap.size]?=_:=zbF g0;have y1:(wr.ext z).heap[OB]?=_:=zbF g1;have GW:Qa w (wr.ext z):=zb2 HB.o z;clear c0 c1 t0 t1 f0 i1 i2 g0 g1 hb aM x0 x1;generalize wr.ext z=WY at*;have fQ:=zHi GW;obtain⟨c0,c1⟩:=cF2 y1;clear GW;refine za9 6 (λbb w'=>bb=true\/(w'.cell? ⟨OB,0,none⟩=some (.int .i64 o.num)/\w'.cell? ⟨OB,1,none⟩=some (.int .i64 o.den)/\w'.cell? ⟨b,off+k*3+1,none⟩=some (.int .i64 nu)/\w'.cell? ⟨b,off+k*3+2,none⟩=some (.int .i64 de))) McT (.inr ⟨c0,c1,j1,j2⟩) ?hrest
     case hrest=>
      intro hHeld;refine TkM 0 ?_;refine TkM 1 ?_;refine TkM 2 ?_;refine TkM 3 ?_;refine TkM 4 ?_;refine TkM 5 ?_;refine OnM 6 true λK hK=>?_
      go_simp
      refine(kr.o _).mono ?_;rintro e w5 ⟨rfl,z5,rfl⟩;have v0:(WY.drew.ext z5).heap[w.heap.size]?=_:=zbF (w:=WY.drew) y0;have v1:(WY.drew.ext z5).heap[OB]?=_:=zbF (w:=WY.drew) y1;have ar:Qa w (WY.drew.ext z5):=zb2 (zaF fQ.o) z5;refine NxM hK λhHeld=>?_
      clear hK K;generalize WY.drew.ext z5=W5 at*;obtain⟨s0,s1⟩:=cF2 v1;have sf:∀j,W5.frozen? ⟨OB,j,none⟩=false:=λj=>by simp[World.frozen?,v1]
      refine OnM 7 true λK hK=>?_
      go_simp
      refine NxM hK λhHeld=>?_
      clear hK K;refine zaO McT ?_ _;clear hHeld;go_wp2_with fail
      go_round
      case rel=>exact⟨k+1,o+q,aj.o,by go_num,HE,lh,zaS (zaS ar McX _) McX _,J_ne McS (J_ne McS v0),zer v1⟩
      case measure=>have:=aj.o;simp only[intOf];omega
  ·have au:¬(k:Int)<(l.length:Int):=McS;have HE:Hid (R=(o,true)):=by show _=_;rw[HX.o,List.drop_of_length_le McS];rfl
   clear hB;go_wp2_with fail
   rw[HE.o];refine bodyPost_ret (v:=.tuple #[zaA o,.bool true]) ?_ rfl ?_
   ·exact zgF rfl _ _ w.heap.size _ _ _ rfl rfl (zer g0)
   ·exact Ret.of rfl (zaS (zaS HB.o McV _) McV _)
def sixV(a b c d e f:Int):Value:=.agg #[.int .i64 a,.int .i64 b,.int .i64 c,.int .i64 d,.int .i64 e,.int .i64 f]
def zkY(k:Int):Value:=if k=0 then sixV 1 0 2 1 1 1 else if k=1 then sixV 1 1 2 1 0 0 else if k=2 then sixV 1 1 0 0 0 0 else if k=3 then sixV 1 0 0 0 0 1 else if k=4 then sixV 0 1 2 1 0 0 else if k=8 then sixV 0 1 0 0 0 0 else sixV 0 1 1 0 0 0
def zn3{fn:Func}{p:Tmp}(h:fn.results= #[.cell p 180])(tmps:Array Value)(w:World)(B:Nat)(a b c d e f:Int)(hp:tmps.getD p undef=.pointer (some ⟨B,0,none⟩))
 (h0:w.cell? ⟨B,0,none⟩=some (.int .i64 a))(h1:w.cell? ⟨B,1,none⟩=some (.int .i64 b))(h2:w.cell? ⟨B,2,none⟩=some (.int .i64 c))(h3:w.cell? ⟨B,3,none⟩=some (.int .i64 d))(h4:w.cell? ⟨B,4,none⟩=some (.int .i64 e))(h5:w.cell? ⟨B,5,none⟩=some (.int .i64 f)):
 (results fn tmps).run Tryz.prog w=.ok (sixV a b c d e f) w:=by
 rw[zdF h,hp];unfold sixV;go_simp
def zn4(k:Int)(w:World):Calls Tryz.prog 125 #[.int .i64 k] w (Ret w (zkY k)):=by
 unfold zkY;go_enter Tryz.func125,Tryz.ntmps125
 by_cases h0:k=0
 ·rw[if_pos h0];subst h0;go_wp2_with fail
  refine bodyPost_ret (v:=sixV 1 0 2 1 1 1) ?_ rfl ?_
  ·exact M5
  ·exact Ret.of rfl Bw
 rw[if_neg h0];have e0:(k==0)=false:=MdX;by_cases h1:k=1
 ·rw[if_pos h1];subst h1;go_wp2_with fail
  refine bodyPost_ret (v:=sixV 1 1 2 1 0 0) ?_ rfl ?_
  ·exact M5
  ·exact Ret.of rfl Bw
 rw[if_neg h1];have e1:(k==1)=false:=Mdp;by_cases h2:k=2
 ·rw[if_pos h2];subst h2;go_wp2_with fail
  refine bodyPost_ret (v:=sixV 1 1 0 0 0 0) ?_ rfl ?_
  ·exact M5
  ·exact Ret.of rfl Bw
 rw[if_neg h2];have e2:(k==2)=false:=MeI;by_cases h3:k=3
 ·rw[if_pos h3];subst h3;go_wp2_with fail
  refine bodyPost_ret (v:=sixV 1 0 0 0 0 1) ?_ rfl ?_
  ·exact M5
  ·exact Ret.of rfl Bw
 rw[if_neg h3];have e3:(k==3)=false:=by simpa using h3
 by_cases h4:k=4
 ·rw[if_pos h4];subst h4;go_wp2_with fail
  refine bodyPost_ret (v:=sixV 0 1 2 1 0 0) ?_ rfl ?_
  ·exact M5
  ·exact Ret.of rfl Bw
 rw[if_neg h4];have e4:(k==4)=false:=by simpa using h4
 by_cases h8:k=8
 ·rw[if_pos h8];subst h8;go_wp2_with fail
  refine bodyPost_ret (v:=sixV 0 1 0 0 0 0) ?_ rfl ?_
  ·exact M5
  ·exact Ret.of rfl Bw
 rw[if_neg h8];have e8:(k==8)=false:=by simpa using h8
 go_wp2_with fail
 refine bodyPost_ret (v:=sixV 0 1 1 0 0 0) ?_ rfl ?_
 ·exact M5
 ·exact Ret.of rfl Bw
def zmq(a b:ByteArray):zae a b=zae b a:=by rw[Bool.eq_iff_iff,za2,za2];exact⟨Eq.symm,Eq.symm⟩
def zp4(l:List RPart)(frm:ByteArray)(A:Option Addr)(c:Nat)(w:World)(hl:l.length<=1000000)(hS:Sl w 3 RPart.cells A l):Calls Tryz.prog 126 #[.slice A l.length c,.string frm] w (Ret w (.bool (zd5 l frm 0))):=by
 have HS:=zHi hS;obtain⟨R,hR⟩:=Qd (zd5 l frm 0)
 rw[<-hR];have HR:=zHi hR;clear hS hR;go_enter Tryz.func126,Tryz.ntmps126
 go_upto_region 2 with fail
 go_loopw [5,6] (λi _ wr=>∃k:Nat,k<=l.length/\i=.int .i64 k/\Hid (R=zd5 l frm k)/\Qa w wr) (λi _ _=>l.length-(intOf i).toNat)
 case atStart=>exact⟨0,Nat.zero_le _,rfl,HR.o,Qb⟩
 case round=>
  obtain⟨k,hk,rfl,HX,hB⟩:=hrel;obtain⟨WR,kI⟩:=Qd wr
  subst kI;have HB:=zHi hB;by_cases ae:k<l.length
  ·have hx:=HX.o;rw[zpv ae]at hx;obtain⟨aw,aj⟩:=yH2 hx ae;have au:(k:Int)<(l.length:Int):=McS;have aR:(0:Int)<=(k:Int):=McS;clear hx hB;go_upto_region 5 with fail
   go_loopw [6] (λv6 wr=>∃j:Nat,j<=k/\v6=.int .i64 j/\Hid (R=(!clash l (l[k]'ae).name j k&&(!zae (l[k]'ae).name frm&&zd5 l frm (k+1))))/\Qa w wr) (λv6 _=>k-(intOf v6).toNat)
   case atStart=>exact⟨0,Nat.zero_le _,rfl,aw.o,HB.o⟩
   case round=>
    obtain⟨j,hj,rfl,HY,gU⟩:=hrel;have fQ:=zHi gU;have pM:=gU.size;have xW:=(HS.o.keep gU).at ae;by_cases fX:j<k
    ·have cO:j<l.length:=McS;have hy:=HY.o;rw[zpw fX ae]at hy;obtain⟨b,off,hA,hb,ah⟩:=xW;obtain⟨b2,off2,mJ,_,xl⟩:=(HS.o.keep gU).at cO;obtain⟨rfl,rfl⟩:b=b2/\off=off2:=by rw[hA]at mJ;simpa using mJ
     have i1:wr.cell? ⟨b,off+k*3,none⟩=some (.string (l[k]'ae).name):=ah 0 _ rfl;have i0:wr.cell? ⟨b,off+j*3,none⟩=some (.string (l[j]'cO).name):=xl 0 _ rfl;obtain⟨kG,Fj⟩:=yH2 hy fX;have Ee:(j:Int)<(k:Int):=McS;have oh:(0:Int)<=(j:Int):=McS;have Lm:(j:Int)<(l.length:Int):=McS;clear ah xl mJ hy gU;subst hA;go_upto_region 7 with fail
     generalize cu:(l[k]'ae).name=n1 at*;generalize(l[j]'cO).name=n0 at*;cases hs:zae n0 n1
     ·have bi:(n0.toList==n1.toList)=false:=hs;have dH:zae n1 n0=false:=by rw[zmq];exact hs
      have HE:Hid (R=(!clash l n1 (j+1) k&&(!zae n1 frm&&zd5 l frm (k+1)))):=by show _=_;rw[kG.o,dH];rfl
      (refine zag McT McT ?_
       repeat(first|go_big_quiet_skip|(go_big_quiet_want;go_big_quiet_op;first|go_big_quiet_on|(apply Exists.intro;refine⟨λ_=>?_,?_⟩;(fail);go_big_quiet_on)))
       refine wpQuiet_nil ?_
       rintro _ ⟨zq,rfl⟩)
      go_wp2_with fail
      go_round
      case rel=>exact⟨j+1,Fj.o,by go_num,by(first|exact HE|(rw[cu];exact HE)),zb2 fQ.o zq⟩
      case measure=>have:=Fj.o;simp only[intOf];omega
     ·have bi:(n0.toList==n1.toList)=true:=hs;have dH:zae n1 n0=true:=by rw[zmq];exact hs
      have HE:Hid (R=false):=by show _=_;rw[kG.o,dH];rfl
      (refine zag McT McT ?_
       repeat(first|go_big_quiet_skip|(go_big_quiet_want;go_big_quiet_op;first|go_big_quiet_on|(apply Exists.intro;refine⟨λ_=>?_,?_⟩;(fail);go_big_quiet_on)))
       refine wpQuiet_nil ?_
       rintro _ ⟨zq,rfl⟩)
      go_wp2_with fail
      go_ret
      exact Ret.of (zaT HE.o.symm) (zb2 fQ.o zq)
    ·have Ee:¬(j:Int)<(k:Int):=McS;have hy:=HY.o;rw[clash_end fX]at hy;obtain⟨b,off,rfl,hb,ah⟩:=xW;have kG:=zHi hy;have i1:wr.cell? ⟨b,off+k*3,none⟩=some (.string (l[k]'ae).name):=ah 0 _ rfl;clear ah hy gU fX hj aw;generalize(l[k]'ae).name=n1 at*;cases hs:zae n1 frm
     ·have bi:(n1.toList==frm.toList)=false:=hs;have HE:Hid (R=zd5 l frm (k+1)):=by show _=_;rw[kG.o,hs];simp
      go_wp2_with fail
      go_round
      case rel=>exact⟨k+1,aj.o,by go_num,HE.o,fQ.o⟩
      case measure=>have:=aj.o;simp only[intOf];omega
     ·have bi:(n1.toList==frm.toList)=true:=hs;have HE:Hid (R=false):=by show _=_;rw[kG.o,hs];simp
      go_wp2_with fail
      go_ret
      exact Ret.of (zaT HE.o.symm) fQ.o
  ·have au:¬(k:Int)<(l.length:Int):=McS;have HE:Hid (R=true):=by show _=_;rw[HX.o];unfold zd5;rw[List.drop_of_length_le McS];rfl
   clear hB;exact MZ
section
variable {W w:World} {b:Nat} {t:TypeId} {fr:Nat×Nat} {a0 a1 a2 a3 a4 a5 a6:Value}
def zbx(h:W.heap[b]?=some (.cells #[a0,a1] t fr)):W.cell? ⟨b,0,none⟩=some a0/\W.cell? ⟨b,1,none⟩=some a1:=by
 simp only[World.cell?,h];exact⟨rfl,rfl⟩
def zeg(h:W.heap[b]?=some (.cells #[a0,a1,a2,a3,a4] t fr)):W.cell? ⟨b,0,none⟩=some a0/\W.cell? ⟨b,1,none⟩=some a1/\W.cell? ⟨b,2,none⟩=some a2/\W.cell? ⟨b,3,none⟩=some a3/\W.cell? ⟨b,4,none⟩=some a4:=by
 simp only[World.cell?,h];exact⟨rfl,rfl,rfl,rfl,rfl⟩
def cells6(h:W.heap[b]?=some (.cells #[a0,a1,a2,a3,a4,a5] t fr)):W.cell? ⟨b,0,none⟩=some a0/\W.cell? ⟨b,1,none⟩=some a1/\W.cell? ⟨b,2,none⟩=some a2/\W.cell? ⟨b,3,none⟩=some a3/\W.cell? ⟨b,4,none⟩=some a4/\W.cell? ⟨b,5,none⟩=some a5:=by
 simp only[World.cell?,h];exact⟨rfl,rfl,rfl,rfl,rfl,rfl⟩
def zaG(h:W.heap[b]?=some (.cells #[a0,a1,a2,a3,a4,a5,a6] t fr)):W.cell? ⟨b,0,none⟩=some a0/\W.cell? ⟨b,1,none⟩=some a1/\W.cell? ⟨b,2,none⟩=some a2/\W.cell? ⟨b,3,none⟩=some a3/\W.cell? ⟨b,4,none⟩=some a4/\W.cell? ⟨b,5,none⟩=some a5/\W.cell? ⟨b,6,none⟩=some a6:=by
 simp only[World.cell?,h];exact⟨rfl,rfl,rfl,rfl,rfl,rfl,rfl⟩
def frz{cs:Array Value}(h:W.heap[b]?=some (.cells cs t (0,0))):∀j,W.frozen? ⟨b,j,none⟩=false:=λj=>by simp[World.frozen?,h]
def boxed{o:Obj}(h:w.alloc o=W):W.heap[w.heap.size]?=some o/\Qa w W:=by
 subst h;exact⟨zas _ _ _ rfl,zad Qb _⟩
end
def zja{α:Type}{W:World}{base size n c:Nat}{e:TypeId}{f:α->List Value}{A:Option Addr}{xs:List α}(ag:∀x,(f x).length=size)(h:OwnS W base e size f (.slice A n c) xs):Sl W size f A xs/\xs.length<=c:=by
 obtain⟨A',c',he,h1,h2⟩:=h.sl ag;simp only[Value.slice.injEq]at he;obtain⟨rfl,_,rfl⟩:=he;exact⟨h1,h2⟩
structure Fld where
 p:Int
 f:Int
 n:Int
 s:Int
 c:Int
 y:Int
def fldP(k:Int):Fld:=if k=0 then⟨1,0,2,1,1,1⟩else if k=1 then⟨1,1,2,1,0,0⟩else if k=2 then⟨1,1,0,0,0,0⟩else if k=3 then⟨1,0,0,0,0,1⟩else if k=4 then⟨0,1,2,1,0,0⟩else if k=8 then⟨0,1,0,0,0,0⟩else⟨0,1,1,0,0,0⟩
def zp5(k:Int):zkY k=sixV (fldP k).p (fldP k).f (fldP k).n (fldP k).s (fldP k).c (fldP k).y:=by
 unfold zkY fldP;repeat' split
 all_goals rfl
structure FldOk (x:Fld):Prop where
 p:x.p=0\/x.p=1
 f:x.f=0\/x.f=1
 n:x.n=0\/x.n=1\/x.n=2
 s:x.s=0\/x.s=1
 c:x.c=0\/x.c=1
 y:x.y=0\/x.y=1
def fld_ok(k:Int):FldOk (fldP k):=by
 unfold fldP;repeat' split
 all_goals exact⟨by decide,by decide,by decide,by decide,by decide,by decide⟩
def fm1(pl fr:ByteArray)(p f:Int)(ap:Bool):Bool:=(!noB pl) != (p==1)||(!noB fr) != (f==1)||!ap
def fm2(n:Int)(m:Nat):Bool:=n==0&&decide (0<m)||n==1&&m != 1||n==2&&m==0
def fm3(c y cl yr kd:Int):Bool:=c==0&&cl != 0||y==0&&yr != 0||kd==3&&yr==0
def fm5(kd cl yr:Int)(q:Rat):Bool:=kd != 0||q==1&&(cl != 2||decide (0<yr))
def zfs(d:Deed):Bool:=
 if fm1 d.place d.frm (fldP d.kind).p (fldP d.kind).f (zd5 d.to d.frm 0)then false else
 if fm2 (fldP d.kind).n d.to.length then false else
 if fm3 (fldP d.kind).c (fldP d.kind).y d.cls d.years d.kind then false else
 if(fldP d.kind).s==0 then d.to.all zhE else
 if !(sumR d.to 0).2||decide ((sumR d.to 0).1.den<(sumR d.to 0).1.num)then false else fm5 d.kind d.cls d.years (sumR d.to 0).1
def zn5:∀(l:List RPart) (o:Rat),(sumR l o).2=l.all zdV/\(l.all zdV=true->(sumR l o).1=o+sumQ (zaq l))
 | [],o=>⟨rfl,λ_=>by show o=o+0;grind⟩
 |p::l,o=>by
  unfold sumR;cases h:zdV p
  ·rw[if_neg McV];exact⟨by rw[List.all_cons,h];rfl,λh2=>by rw[List.all_cons,h]at h2;cases h2⟩
  ·rw[if_pos rfl,List.all_cons,h,Bool.true_and];have ih:=zn5 l (o+p.rat);refine⟨ih.1,λh2=>?_⟩;rw[ih.2 h2];show _=o+(p.rat+sumQ (zaq l));grind
def zp6(l:List RPart)(frm:ByteArray):zd5 l frm 0=(zdb l []&&l.all λp=>!zae p.name frm):=rfl
def one_le{q:Rat}:decide ((q.den:Int)<q.num)=!decide (q<=1):=by
 have h:=Rat.le_iff q 1;have e:(q<=1)↔ ¬(q.den:Int)<q.num:=by rw[h];simp
 by_cases h1:q<=1
 ·rw[decide_eq_true h1,decide_eq_false (e.1 h1)];rfl
 ·rw[decide_eq_false h1,decide_eq_true (Classical.not_not.1 (λh2=>h1 (e.2 h2)))];rfl
def parts_sum(all:Bool)(frm:ByteArray)(l:List RPart):zcF true all frm l=(zd5 l frm 0&&((sumR l 0).2&&decide ((sumR l 0).1<=1)&&(!all||(sumR l 0).1==1))):=by
 have h:=zn5 l 0;rw[zp6,h.1];unfold zcF;rw[if_pos rfl];show(_&&(l.all zdV&&_&&_))=_;cases ha:l.all zdV
 ·simp
 ·rw[h.2 ha,Rat.zero_add]
def zp7(all:Bool)(frm:ByteArray)(l:List RPart):zcF false all frm l=(zd5 l frm 0&&l.all zhE):=rfl
def len_empty(l:List RPart):(l.length==0)=l.isEmpty:=by cases l<;>rfl
def zp8{d:Deed}(hk:0<=d.kind/\d.kind<=8)(hy:0<=d.years):zfs d=zfN d:=by
 obtain⟨kd,dy,pl,fr,ts,cl,yr⟩:=d;have fw:kd=0\/kd=1\/kd=2\/kd=3\/kd=4\/kd=5\/kd=6\/kd=7\/kd=8:=by simp only at hk;omega
 unfold zfs zfN fm1 fm2 fm3 fm5;simp only[parts_sum,zp7,one_le]at hy⊢;have Ej:ts.isEmpty=true->zd5 ts fr 0=true/\ts.all zhE=true:=by cases ts with
  |nil=>exact λ_=>⟨rfl,rfl⟩
  |cons=>exact λh=>by cases h
 generalize zd5 ts fr 0=ap at*;generalize(sumR ts 0).2=s2;generalize(sumR ts 0).1=q;generalize ts.all zhE=bt at*;have bG:=len_empty ts;have qo:decide (0<ts.length)=!ts.isEmpty:=by cases ts<;>simp
 have lO:(ts.length==1)=true->ts.isEmpty=false:=by cases ts<;>simp
 have Hv:(ts.length != 1)=!(ts.length==1):=rfl;rw[qo,Hv,bG];generalize ts.isEmpty=em at*;generalize(ts.length==1)=on at*;generalize noB pl=np;generalize noB fr=nf;have hy:decide (0<yr)=!(yr==0):=by rw[Bool.eq_iff_iff];simp;omega
 have uR:(yr != 0)=!(yr==0):=rfl;have ah:(cl != 0)=!(cl==0):=rfl;have uv:(cl != 2)=!(cl==2):=rfl;rw[hy,uR,ah,uv];generalize(yr==0)=y0;generalize(cl==0)=c0;generalize(cl==2)=c2;generalize decide (q<=1)=q1;generalize(q==1)=q2;clear bG qo Hv hy uR ah uv hk;rcases fw with rfl|rfl|rfl|rfl|rfl|rfl|rfl|rfl|rfl<;>(clear q;simp[fldP])<;>(cases em<;>cases ap<;>simp at Ej⊢ <;>cases on<;>simp at lO⊢ <;>cases y0<;>cases c0<;>cases s2<;>cases q1<;>cases q2<;>simp_all)
def zn6(d:Deed)(B:Option Addr)(c:Nat)(w:World)(hl:d.to.length<=1000)(hS:Sl w 3 RPart.cells B d.to):Calls Tryz.prog 95 #[d.v B c] w (Ret w (.bool (zfs d))):=by
 obtain⟨R,hR⟩:=Qd (zfs d)
 rw[<-hR];obtain⟨kd,dy,pl,fr,ts,cl,yr⟩:=d;have HS:=zHi hS;unfold zfs at hR;have dZ:=zp5 kd;have kO:=fld_ok kd;simp only at hR hl hS;obtain⟨FP,Gc⟩:=Qd (fldP kd)
 rw[<-Gc]at hR dZ kO;clear Gc;obtain⟨fp,ff,fn,fs,fc,fy⟩:=FP;obtain⟨tR,tS⟩:=yH2 kO (λW=>zn4 kd W);rw[dZ]at tS;simp only at tS hR;unfold sixV at tS;have o8:=λW (h:Qa w W)=>zp4 ts fr B c W McS (HS.o.keep h)
 have dJ:=λW (h:Qa w W)=>zo9 ts B c W hl (HS.o.keep h)
 have GU:=λW (h:Qa w W)=>rBare_any ts B c W McS (HS.o.keep h)
 generalize zd5 ts fr 0=ap at*;generalize sumR ts 0=sq at*;generalize ts.all zhE=bt at*;obtain⟨q,s2⟩:=sq;unfold zaA at dJ;obtain⟨HR,fG,qJ⟩:=yH3 hR dJ GU;unfold Deed.v;clear hR hS dZ kO dJ GU;go_enter Tryz.func95,Tryz.ntmps95
 go_upto_region 2 with(go_at_call 125;go_must(refine(tS.o _).mono ?_);rintro e wq ⟨rfl,z0,rfl⟩)
 obtain⟨F,hF⟩:=Qd (w.heap.size+1+z0.os.size)
 obtain⟨W0,am⟩:=Qd (((w.alloc (.cells #[.int .i64 kd,.int .i64 dy,.string pl,.string fr,.slice B ts.length c,.int .i64 cl,.int .i64 yr] 60)).ext z0).alloc (.cells #[.int .i64 fp,.int .i64 ff,.int .i64 fn,.int .i64 fs,.int .i64 fc,.int .i64 fy] 180))
 have g0:W0.heap[w.heap.size]?=some (.cells #[.int .i64 kd,.int .i64 dy,.string pl,.string fr,.slice B ts.length c,.int .i64 cl,.int .i64 yr] 60):=by rw[am];exact zal (zbF (zas _ _ _ rfl))
 have g1:W0.heap[F]?=some (.cells #[.int .i64 fp,.int .i64 ff,.int .i64 fn,.int .i64 fs,.int .i64 fc,.int .i64 fy] 180):=by rw[am];exact zas _ _ _ (by rw[hF];simp[zaf])
 have hB:Qa w W0:=Mdz;rw[<-am,<-hF];clear am hF;have F4:=zHi (λW (h:Qa W0 W)=>o8 W (hB.trans (h.mono hB.size)));clear o8;have HB:=zHi hB;obtain⟨d0,d1,d2,d3,d4,d5,d6⟩:=zaG g0;obtain⟨e0,e1,e2,e3,e4,e5⟩:=cells6 g1;have l0:=zab g0;have l1:=zab g1;clear hB;go_cut [32]from 6 to 32 (λv wc=>v=.bool (fm1 pl fr fp ff ap)/\Qa w wc/\wc.heap[w.heap.size]?=some (.cells #[.int .i64 kd,.int .i64 dy,.string pl,.string fr,.slice B ts.length c,.int .i64 cl,.int .i64 yr] 60)/\wc.heap[F]?=some (.cells #[.int .i64 fp,.int .i64 ff,.int .i64 fn,.int .i64 fs,.int .i64 fc,.int .i64 fy] 180))
 case first=>
  cases ep:(fp==1)<;>cases ef:(ff==1)<;>cases z1:noB pl<;>cases z2:noB fr
  all_goals(
   first
    |(have w1:¬pl.toList=[]:=by simpa using(show pl.toList.isEmpty=false from z1))
    |(have w1:pl.toList=[]:=by simpa using(show pl.toList.isEmpty=true from z1))
   first
    |(have w2:¬fr.toList=[]:=by simpa using(show fr.toList.isEmpty=false from z2))
    |(have w2:fr.toList=[]:=by simpa using(show fr.toList.isEmpty=true from z2))
   go_wp2_with (go_at_call 126;go_must(refine(F4.o _ Bw).mono ?_);rintro e wq ⟨rfl,z,rfl⟩)
   go_meet
   exact⟨zaT (by simp[fm1, *]),by first|exact HB.o|exact zb2 HB.o z,by first|exact g0|exact zbF g0,by first|exact g1|exact zbF g1⟩)
 case rest=>
  obtain⟨rfl,hB,g0,g1⟩:=hcut;clear F4 d0 d1 d2 d3 d4 d5 d6 e0 e1 e2 e3 e4 e5 l0 l1 HB;have HB:=zHi hB;obtain⟨d0,d1,d2,d3,d4,d5,d6⟩:=zaG g0;obtain⟨e0,e1,e2,e3,e4,e5⟩:=cells6 g1;have l0:=zab g0;have l1:=zab g1;clear hB;cases gD:fm1 pl fr fp ff ap
  ·have bK:=HR.o;rw[gD,if_neg McV]at bK;have HR:=zHi bK;clear bK gD;go_upto_region 4 with fail
   go_cut [63]from 33 to 63 (λv w4=>v=.bool (fm2 fn ts.length)/\wc=w4)
   case first=>
    rcases tR.o.n with h|h|h
    ·simp only at h;subst h;by_cases h1:0<ts.length
     ·have h2:(0:Int)<(ts.length:Int):=McS;exact MY
     ·have h2:¬(0:Int)<(ts.length:Int):=McS;exact MY
    ·simp only at h;subst h;by_cases h1:ts.length=1
     ·have h2:((ts.length:Int) != 1)=false:=by rw[h1];rfl
      have h3:(ts.length != 1)=false:=Mdp;exact MY
     ·have h2:((ts.length:Int) != 1)=true:=by
       have:(ts.length:Int)≠1:=by omega
       simpa using this
      have h3:(ts.length != 1)=true:=Mdp;exact MY
    ·simp only at h;subst h;by_cases h1:ts.length=0
     ·have h2:((ts.length:Int)==0)=true:=Mdp;have h3:(ts.length==0)=true:=Mdp;exact MY
     ·have h2:((ts.length:Int)==0)=false:=Mdp;have h3:(ts.length==0)=false:=Mdp;exact MY
   case rest=>
    obtain⟨rfl,rfl⟩:=hcut;cases cP:fm2 fn ts.length
    ·have bK:=HR.o;rw[cP,if_neg McV]at bK;have HR:=zHi bK;clear bK cP;go_upto_region 6 with fail
     go_cut [91]from 64 to 91 (λv w4=>v=.bool (fm3 fc fy cl yr kd)/\wc=w4)
     case first=>
      cases ec:(fc==0)<;>cases ey:(fy==0)<;>cases ecl:(cl==0)<;>cases eyr:(yr==0)<;>cases ek:(kd==3)
      all_goals(
       have ecl2:(cl != 0)=!(cl==0):=rfl;have eyr2:(yr != 0)=!(yr==0):=rfl;simp only[ecl,eyr,Bool.not_true,Bool.not_false]at ecl2 eyr2;go_wp2_with fail
       go_meet
       exact⟨zaT (by simp[fm3, *]),by first|exact True.intro|rfl⟩)
     case rest=>
      obtain⟨rfl,rfl⟩:=hcut;cases pJ:fm3 fc fy cl yr kd
      ·have bK:=HR.o;rw[pJ,if_neg McV]at bK;have HR:=zHi bK;clear bK pJ;go_upto_region 8 with fail
       rcases tR.o.s with h|h
       ·simp only at h;subst h;have HE:Hid (R=bt):=by show _=_;rw[HR.o];rfl
        go_wp2_with (go_at_call 127;go_must(refine(qJ.o _ HB.o).mono ?_);rintro e wq ⟨rfl,rfl⟩)
        go_ret
        exact Ret.of (zaT HE.o.symm) HB.o
       ·simp only at h;subst h;have bK:Hid (R=if !s2||decide ((q.den:Int)<q.num)then false else fm5 kd cl yr q):=by show _=_;rw[HR.o];rfl
        go_upto_region 11 with(go_at_call 128;go_must(refine(fG.o _ HB.o).mono ?_);rintro e wq ⟨rfl,z1,rfl⟩)
        obtain⟨Q,hQ⟩:=Qd (wc.heap.size+z1.os.size)
        obtain⟨W3,bv⟩:=Qd ((wc.ext z1).alloc (.cells #[.int .i64 q.num,.int .i64 q.den] 50))
        have g3:W3.heap[Q]?=some (.cells #[.int .i64 q.num,.int .i64 q.den] 50):=by rw[bv];exact zas _ _ _ (by rw[hQ];simp[zaf])
        have g2:W3.heap[w.heap.size]?=some (.cells #[.int .i64 kd,.int .i64 dy,.string pl,.string fr,.slice B ts.length c,.int .i64 cl,.int .i64 yr] 60):=by rw[bv];exact zal (zbF g0)
        have aG:Hid (Qa w W3):=by show Below _ _ _;rw[bv];exact zad (zb2 HB.o z1) _
        rw[<-bv,<-hQ];clear bv hQ d0 d1 d2 d3 d4 d5 d6 e0 e1 e2 e3 e4 e5 l0 l1 g0 g1;obtain⟨d0,d1,d2,d3,d4,d5,d6⟩:=zaG g2;obtain⟨q0,q1⟩:=zbx g3;have l2:=zab g2;have l3:=zab g3;cases s2
        ·have HE:Hid (R=false):=by show _=_;rw[bK.o];rfl
         have HB:=aG;exact MZ
        ·by_cases hq:(q.den:Int)<q.num
         ·have HE:Hid (R=false):=by show _=_;rw[bK.o,if_pos Md7]
          have HB:=aG;exact MZ
         ·have HE:Hid (R=fm5 kd cl yr q):=by show _=_;rw[bK.o,if_neg Md7]
          go_upto_region 13 with fail
          by_cases k0:kd=0
          ·subst k0;by_cases u1:q.num=1
           ·by_cases u2:(q.den:Int)=1
            ·have cg:q.den=1:=McS;have cJ:q=1:=Rat.ext (by rw[u1];rfl) (by rw[cg];rfl);subst cJ;cases k2:(cl != 2)
             ·cases k3:decide (0<yr)
              ·exact Mu
              ·exact Mu
             ·exact Mu
            ·have cJ:(q==1)=false:=by simp;rintro rfl;exact u2 rfl
             have u3:((q.den:Int)==1)=false:=by simpa using u2
             exact Mu
           ·have cJ:(q==1)=false:=by simp;rintro rfl;exact u1 rfl
            have u3:(q.num==1)=false:=by simpa using u1
            exact Mu
          ·have k1:(kd != 0)=true:=by simpa using k0
           exact Mu
      ·have HE:Hid (R=false):=by show _=_;rw[HR.o,pJ];rfl
       exact MZ
    ·have HE:Hid (R=false):=by show _=_;rw[HR.o,cP];rfl
     exact MZ
  ·have HE:Hid (R=false):=by show _=_;rw[HR.o,gD];rfl
   exact MZ
def zj6(ls:List Law)(A:Option Addr)(n c:Nat)(w:World)(hn:n=ls.length)(hS:Sl w 4 Law.cells A ls):Calls Tryz.prog 53 #[.slice A n c] w (Ret w (.int .i64 (zaC ls))):=by
 subst hn;go_enter Tryz.func53,Tryz.ntmps53
 by_cases FM:10<ls.length
 ·exact Mbf
 have hx:decide ((10:Int)<(ls.length:Int))=false:=McX;go_wp2_with fail
 have hT:zaC ls=zeV (ls.drop 0) (befP ls 0):=by rw[zaC,if_neg McX];rfl
 go_loopw [3] (λi wr=>∃k:Nat,k<=ls.length/\i=.int .i64 k/\zaC ls=zeV (ls.drop k) (befP ls k)/\∃z,wr=w.ext z) (λi _=>ls.length-(intOf i).toNat)
 case atStart=>exact⟨0,Nat.zero_le _,rfl,hT,zaP Qb⟩
 case round=>
  obtain⟨k,hk,rfl,hf,z,rfl⟩:=hrel;clear hT hx;by_cases ae:k<ls.length
  ·rw[List.drop_eq_getElem_cons ae,zeV]at hf;obtain⟨b,off,rfl,hb,hc⟩:=hS.at ae;have h0:w.cell? ⟨b,off+k*4,none⟩=some (.int .i64 ls[k].frm):=hc 0 _ rfl;have h1:w.cell? ⟨b,off+k*4+1,none⟩=some (.bool ls[k].stems):=hc 1 _ rfl;have h2:w.cell? ⟨b,off+k*4+2,none⟩=some (.int .i64 ls[k].num):=hc 2 _ rfl;have h3:w.cell? ⟨b,off+k*4+3,none⟩=some (.int .i64 ls[k].den):=hc 3 _ rfl;have HF:=zHi hf;have jL:(k:Int)<(ls.length:Int):=McS;have iU:0<k->w.cell? ⟨b,off+(k-1)*4,none⟩=some (.int .i64 (ls[k-1]' McS).frm):=λaR=>by
    exact MbT
   have HP:=zHi iU;have HB:befP ls (k+1)=some ls[k].frm:=zhJ ls ae;have HB:=zHi HB;clear hc hf hS iU
   go_upto_region 10 with(first
    |(go_at_call 28;refine(zcP _ _).mono ?_;intro e wq hq;rcases Ret0.bools hq with⟨rfl,⟨hb,rfl⟩|⟨hb,rfl⟩⟩<;>clear hq)
    |(go_at_call 94;refine(zh9 _ _ _).mono ?_;intro e wq hq;rcases Ret.bools hq with⟨zq,rfl,⟨hb,rfl⟩|⟨hb,rfl⟩⟩<;>clear hq))
   all_goals first
    |(go_ret
      exact Ret.of (zb7 Men) Bw)
    |skip
   rcases Nat.eq_zero_or_pos k with aR|aR
   ·have hd:decide ((k:Int)>0)=false:=McX;have ip:befP ls k=none:=by rw[befP,if_pos aR]
    go_quiet (fail)
    go_wp2_with fail
    go_round
    case rel=>subst aR;exact⟨1,by omega,rfl,by rw[HF.o,HB.o];simp[zhx, *],zaP Bw⟩
    case measure=>simp[intOf];omega
   ·have hd:decide ((k:Int)>0)=true:=McX;have uO:IntKind.i64.wrap ((k:Int)-1)=(k:Int)-1:=IntWalk.i64_in _ McS;have ix:0<=(k:Int)-1:=McS;have dU:((k:Int)-1).toNat=k-1:=McS;have bu:(k:Int)-1<(ls.length:Int):=McS;have hp:=HP.o aR;have aM:befP ls k=some (ls[k-1]' McS).frm:=by have:=zhJ ls (k:=k-1) McS;rwa [Nat.sub_add_cancel aR]at this
    go_quiet (fail)
    go_wp2_with fail
    all_goals first
     |(go_ret
       exact Ret.of (zb7 Men) Bw)
     |(go_round
       case rel=>exact⟨k+1,by omega,by go_num,by rw[HF.o,HB.o];simp[zhx, *],zaP Bw⟩
       case measure=>simp[intOf];omega)
  ·exact MaF
def zp9(ls:List Law)(A:Option Addr)(c:Nat)(day:Int)(w:World)(hl:ls.length<=10)(hS:Sl w 4 Law.cells A ls):Calls Tryz.prog 187 #[.slice A ls.length c,.int .i64 day] w (Ret w (zbc ls day).v):=by
 go_enter Tryz.func187,Tryz.ntmps187
 go_upto_region 3 with(go_at_call 156;go_must(refine(ziK _).mono ?_);rintro e wq ⟨rfl,z,rfl⟩)
 obtain⟨L,hL⟩:=Qd (w.heap.size+1+z.os.size)
 have Ax:w.heap.size<L:=McS;rw[<-hL];have HL:=zHi hL;clear hL;go_loopw [6] (λi wr=>∃k:Nat,k<=ls.length/\i=.int .i64 k/\∃x:Law,x=zbc (ls.take k) day/\Qa w wr/\L+1<=wr.heap.size/\wr.heap[w.heap.size]?=some (.cells #[.int .i64 0,.bool false,.int .i64 0,.int .i64 0] 94)/\wr.heap[L]?=some (.cells #[.int .i64 x.frm,.bool x.stems,.int .i64 x.num,.int .i64 x.den] 94)) (λi _=>ls.length-(intOf i).toNat)
 case atStart=>
  refine⟨0,Nat.zero_le _,rfl,zmH,rfl,?_,?_,?_,?_⟩
  ·exact Bw
  ·rw[HL.o];simp[zaf]
  ·exact zal (zbF (zas _ _ _ rfl))
  ·exact zas _ _ _ (by rw[HL.o];simp[zaf])
 case round=>
  obtain⟨k,hk,rfl,x,hx,hB,hsz,g0,g1⟩:=hrel;have c0:wr.cell? ⟨L,0,none⟩=some (.int .i64 x.frm):=McY;have c1:wr.cell? ⟨L,1,none⟩=some (.bool x.stems):=McY;have c2:wr.cell? ⟨L,2,none⟩=some (.int .i64 x.num):=McY;have c3:wr.cell? ⟨L,3,none⟩=some (.int .i64 x.den):=McY;have d0:wr.cell? ⟨w.heap.size,0,none⟩=some (.int .i64 0):=McW;have d1:wr.cell? ⟨w.heap.size,1,none⟩=some (.bool false):=McW;have d2:wr.cell? ⟨w.heap.size,2,none⟩=some (.int .i64 0):=McW;have d3:wr.cell? ⟨w.heap.size,3,none⟩=some (.int .i64 0):=McW;have f0:wr.frozen? ⟨w.heap.size,0,none⟩=false:=Mc5;have f1:wr.frozen? ⟨L,0,none⟩=false:=Mc6;have e1:wr.frozen? ⟨L,1,none⟩=false:=Mc6;have e2:wr.frozen? ⟨L,2,none⟩=false:=Mc6;have e3:wr.frozen? ⟨L,3,none⟩=false:=Mc6;have m1:wr.frozen? ⟨w.heap.size,1,none⟩=false:=Mc5;have m2:wr.frozen? ⟨w.heap.size,2,none⟩=false:=Mc5;have m3:wr.frozen? ⟨w.heap.size,3,none⟩=false:=Mc5;have eo:L<wr.heap.size:=McS;have ay:w.heap.size<wr.heap.size:=McS;have bi:L≠wr.heap.size:=McS;by_cases ae:k<ls.length
  ·obtain⟨b,off,rfl,hb,hc⟩:=(hS.keep hB).at ae;have h0:wr.cell? ⟨b,off+k*4,none⟩=some (.int .i64 ls[k].frm):=hc 0 _ rfl;have h1:wr.cell? ⟨b,off+k*4+1,none⟩=some (.bool ls[k].stems):=hc 1 _ rfl;have h2:wr.cell? ⟨b,off+k*4+2,none⟩=some (.int .i64 ls[k].num):=hc 2 _ rfl;have h3:wr.cell? ⟨b,off+k*4+3,none⟩=some (.int .i64 ls[k].den):=hc 3 _ rfl;clear hc hS;go_wp2_with fail
   ·refine⟨⟨k+1,by omega,by go_num,ls[k],by rw[zf3 ls day ae,if_pos (by simp;assumption)],?_,?_,?_,?_⟩,by simp[intOf];omega⟩
    ·exact zaS (zaS (zaS (zaS hB Mc9 _) Mc9 _) Mc9 _) Mc9 _
    ·first|omega|(simp;omega)
    ·exact((zaS (zaS (zaS (zaS (Below.refl L wr) Mc9 _) Mc9 _) Mc9 _) Mc9 _).block w.heap.size McS).trans g0
    ·exact zob g1
   ·exact⟨⟨k+1,by omega,by go_num,zbc (ls.take k) day,by rw[zf3 ls day ae,if_neg (by simp;assumption)],hB,hsz,g0,by simpa[hx]using g1⟩,by simp[intOf];omega⟩
  ·go_wp2_with fail
   have ol:ls.take k=ls:=List.take_of_length_le McS;have g4:=zob (a:=.int .i64 (zbc ls day).frm) (b:=.bool (zbc ls day).stems) (c:=.int .i64 (zbc ls day).num) (d:=.int .i64 (zbc ls day).den) g0;rw[ol];refine bodyPost_ret (v:=(zbc ls day).v) ?_ rfl ?_
   ·refine zio rfl _ _ w.heap.size _ rfl ?_ ?_ ?_ ?_<;>simp[World.cell?,g4]
   ·exact Ret.of rfl (zaS (zaS (zaS (zaS hB Mc9 _) Mc9 _) Mc9 _) Mc9 _)
def zpA(y:Int)(w:World)(h0:0<=y)(h1:y<=100000):Calls Tryz.prog 219 #[.int .i64 y] w (Ret0 w (.bool (zgT y))):=by
 have w1:wrap64 (y.tmod 4)=y.tmod 4:=Mdj;have w2:wrap64 (y.tmod 100)=y.tmod 100:=Mdj;have w3:wrap64 (y.tmod 400)=y.tmod 400:=Mdj;have v1:IntKind.i64.wrap (y.tmod 4)=y.tmod 4:=Mdd;have v2:IntKind.i64.wrap (y.tmod 100)=y.tmod 100:=Mdd;have v3:IntKind.i64.wrap (y.tmod 400)=y.tmod 400:=Mdd;go_enter Tryz.func219,Tryz.ntmps219
 go_wp2_with fail
 all_goals go_ret
 all_goals exact⟨by simp[zgT,Int.tmod_eq_emod_of_nonneg h0, *],rfl⟩
def zn7(y:Int)(w:World)(h0:0<=y)(h1:y<=100000):Calls Tryz.prog 218 #[.int .i64 y] w (Ret0 w (.int .i64 (zeW y))):=by
 have e1:y.tdiv 4=y/4:=Int.tdiv_eq_ediv_of_nonneg h0;have e2:y.tdiv 100=y/100:=Int.tdiv_eq_ediv_of_nonneg h0;have e3:y.tdiv 400=y/400:=Int.tdiv_eq_ediv_of_nonneg h0;have hv:=zdy h0;have HV:=zHi hv;clear hv;go_enter Tryz.func218,Tryz.ntmps218
 exact Mb3
def zn8{y:Int}(h0:0<=y)(h1:y<=100000):0<=zeW y/\zeW y<=100000:=by
 rw[zdy h0];omega
def zft(y:Int)(m:Nat)(w:World)(h0:0<=y)(h1:y<=100000)(ct:1<=m)(fA:m<=12):Calls Tryz.prog 209 #[.int .i64 y,.int .i64 m] w (Ret0 w (.int .i64 (za7 y m))):=by
 have hm:m=2\/m=1\/m=3\/m=4\/m=5\/m=6\/m=7\/m=8\/m=9\/m=10\/m=11\/m=12:=McS;rcases hm with h|h|h|h|h|h|h|h|h|h|h|h
 ·subst h;unfold za7;cases hl:zgT y
  ·have aP:∀W:World,Sem.run Tryz.prog (Instr.index 245 (.agg #[.int .i64 0,.int .i64 31,.int .i64 28,.int .i64 31,.int .i64 30,.int .i64 31,.int .i64 30,.int .i64 31,.int .i64 31,.int .i64 30,.int .i64 31,.int .i64 30,.int .i64 31]) (.int .i64 2)) W=.ok (.int .i64 28) W:=λW=>by kernel_rfl
   exact MaX
  ·exact MaX
 ·(subst h
   have aP:∀W:World,Sem.run Tryz.prog (Instr.index 245 (.agg #[.int .i64 0,.int .i64 31,.int .i64 28,.int .i64 31,.int .i64 30,.int .i64 31,.int .i64 30,.int .i64 31,.int .i64 31,.int .i64 30,.int .i64 31,.int .i64 30,.int .i64 31]) (.int .i64 1)) W=.ok (.int .i64 31) W:=λW=>by kernel_rfl
   go_enter Tryz.func209,Tryz.ntmps209
   go_wp2_with fail
   go_ret
   exact⟨rfl,rfl⟩)
 ·(subst h
   have aP:∀W:World,Sem.run Tryz.prog (Instr.index 245 (.agg #[.int .i64 0,.int .i64 31,.int .i64 28,.int .i64 31,.int .i64 30,.int .i64 31,.int .i64 30,.int .i64 31,.int .i64 31,.int .i64 30,.int .i64 31,.int .i64 30,.int .i64 31]) (.int .i64 3)) W=.ok (.int .i64 31) W:=λW=>by kernel_rfl
   go_enter Tryz.func209,Tryz.ntmps209
   go_wp2_with fail
   go_ret
   exact⟨rfl,rfl⟩)
 ·(subst h
   have aP:∀W:World,Sem.run Tryz.prog (Instr.index 245 (.agg #[.int .i64 0,.int .i64 31,.int .i64 28,.int .i64 31,.int .i64 30,.int .i64 31,.int .i64 30,.int .i64 31,.int .i64 31,.int .i64 30,.int .i64 31,.int .i64 30,.int .i64 31]) (.int .i64 4)) W=.ok (.int .i64 30) W:=λW=>by kernel_rfl
   go_enter Tryz.func209,Tryz.ntmps209
   go_wp2_with fail
   go_ret
   exact⟨rfl,rfl⟩)
 ·(subst h
   have aP:∀W:World,Sem.run Tryz.prog (Instr.index 245 (.agg #[.int .i64 0,.int .i64 31,.int .i64 28,.int .i64 31,.int .i64 30,.int .i64 31,.int .i64 30,.int .i64 31,.int .i64 31,.int .i64 30,.int .i64 31,.int .i64 30,.int .i64 31]) (.int .i64 5)) W=.ok (.int .i64 31) W:=λW=>by kernel_rfl
   go_enter Tryz.func209,Tryz.ntmps209
   go_wp2_with fail
   go_ret
   exact⟨rfl,rfl⟩)
 ·(subst h
   have aP:∀W:World,Sem.run Tryz.prog (Instr.index 245 (.agg #[.int .i64 0,.int .i64 31,.int .i64 28,.int .i64 31,.int .i64 30,.int .i64 31,.int .i64 30,.int .i64 31,.int .i64 31,.int .i64 30,.int .i64 31,.int .i64 30,.int .i64 31]) (.int .i64 6)) W=.ok (.int .i64 30) W:=λW=>by kernel_rfl
   go_enter Tryz.func209,Tryz.ntmps209
   go_wp2_with fail
   go_ret
   exact⟨rfl,rfl⟩)
 ·(subst h
   have aP:∀W:World,Sem.run Tryz.prog (Instr.index 245 (.agg #[.int .i64 0,.int .i64 31,.int .i64 28,.int .i64 31,.int .i64 30,.int .i64 31,.int .i64 30,.int .i64 31,.int .i64 31,.int .i64 30,.int .i64 31,.int .i64 30,.int .i64 31]) (.int .i64 7)) W=.ok (.int .i64 31) W:=λW=>by kernel_rfl
   go_enter Tryz.func209,Tryz.ntmps209
   go_wp2_with fail
   go_ret
   exact⟨rfl,rfl⟩)
 ·(subst h
   have aP:∀W:World,Sem.run Tryz.prog (Instr.index 245 (.agg #[.int .i64 0,.int .i64 31,.int .i64 28,.int .i64 31,.int .i64 30,.int .i64 31,.int .i64 30,.int .i64 31,.int .i64 31,.int .i64 30,.int .i64 31,.int .i64 30,.int .i64 31]) (.int .i64 8)) W=.ok (.int .i64 31) W:=λW=>by kernel_rfl
   go_enter Tryz.func209,Tryz.ntmps209
   go_wp2_with fail
   go_ret
   exact⟨rfl,rfl⟩)
 ·(subst h
   have aP:∀W:World,Sem.run Tryz.prog (Instr.index 245 (.agg #[.int .i64 0,.int .i64 31,.int .i64 28,.int .i64 31,.int .i64 30,.int .i64 31,.int .i64 30,.int .i64 31,.int .i64 31,.int .i64 30,.int .i64 31,.int .i64 30,.int .i64 31]) (.int .i64 9)) W=.ok (.int .i64 30) W:=λW=>by kernel_rfl
   go_enter Tryz.func209,Tryz.ntmps209
   go_wp2_with fail
   go_ret
   exact⟨rfl,rfl⟩)
 ·(subst h
   have aP:∀W:World,Sem.run Tryz.prog (Instr.index 245 (.agg #[.int .i64 0,.int .i64 31,.int .i64 28,.int .i64 31,.int .i64 30,.int .i64 31,.int .i64 30,.int .i64 31,.int .i64 31,.int .i64 30,.int .i64 31,.int .i64 30,.int .i64 31]) (.int .i64 10)) W=.ok (.int .i64 31) W:=λW=>by kernel_rfl
   go_enter Tryz.func209,Tryz.ntmps209
   go_wp2_with fail
   go_ret
   exact⟨rfl,rfl⟩)
 ·(subst h
   have aP:∀W:World,Sem.run Tryz.prog (Instr.index 245 (.agg #[.int .i64 0,.int .i64 31,.int .i64 28,.int .i64 31,.int .i64 30,.int .i64 31,.int .i64 30,.int .i64 31,.int .i64 31,.int .i64 30,.int .i64 31,.int .i64 30,.int .i64 31]) (.int .i64 11)) W=.ok (.int .i64 30) W:=λW=>by kernel_rfl
   go_enter Tryz.func209,Tryz.ntmps209
   go_wp2_with fail
   go_ret
   exact⟨rfl,rfl⟩)
 ·(subst h
   have aP:∀W:World,Sem.run Tryz.prog (Instr.index 245 (.agg #[.int .i64 0,.int .i64 31,.int .i64 28,.int .i64 31,.int .i64 30,.int .i64 31,.int .i64 30,.int .i64 31,.int .i64 31,.int .i64 30,.int .i64 31,.int .i64 30,.int .i64 31]) (.int .i64 12)) W=.ok (.int .i64 31) W:=λW=>by kernel_rfl
   go_enter Tryz.func209,Tryz.ntmps209
   go_wp2_with fail
   go_ret
   exact⟨rfl,rfl⟩)
def zdq(y:Int)(m:Nat)(w:World)(h0:1800<=y)(h1:y<=2500)(ct:1<=m)(fA:m<=12):Calls Tryz.prog 208 #[.int .i64 y,.int .i64 m] w (Ret0 w (.int .i64 (zaD y m))):=by
 have Lx:=zn8 (y:=y-1) McS McS;have k0:IntKind.i64.wrap (y-1)=y-1:=IntWalk.i64_in _ McS;have k1:IntKind.i64.wrap (y-1800)=y-1800:=IntWalk.i64_in _ McS;have k2:IntKind.i64.wrap (365*(y-1800))=365*(y-1800):=IntWalk.i64_in _ McS;have k3:IntKind.i64.wrap (365*(y-1800)+zeW (y-1))=365*(y-1800)+zeW (y-1):=IntWalk.i64_in _ McS;have k4:IntKind.i64.wrap (365*(y-1800)+zeW (y-1)-436)=begP y:=by unfold begP;exact IntWalk.i64_in _ McS
 have pk:zeW 1799=436:=McT;go_enter Tryz.func208,Tryz.ntmps208
 go_upto_region 3 with(go_at_call 218;refine(zn7 _ _ McS McS).mono ?_;rintro e wq ⟨rfl,rfl⟩;(try rw[pk]))
 clear k0 k1 k2 k3 k4 Lx;go_loop [5,6] (λn i=>∃k:Nat,1<=k/\k<=m/\i=.int .i64 k/\n=.int .i64 (zaD y k)) (λ_ i=>m-(intOf i).toNat)
 case atStart=>exact⟨1,by omega,ct,rfl,by rw[zbC]⟩
 case round=>
  obtain⟨k,fY,ol,rfl,rfl⟩:=hrel;by_cases ae:k<m
  ·have hb:=zbX (m:=k) h0 h1 fY McS;have ft:=zdC y fY (show k<=12 by omega);have hu:=zf6 y fY;have HU:=zHi hu;have k2:IntKind.i64.wrap (zaD y k+za7 y k)=zaD y k+za7 y k:=IntWalk.i64_in _ McS;have bu:(k:Int)<(m:Int):=McS;clear hu;go_wp2_with (go_at_call 209;refine(zft y k _ McS McS fY McS).mono ?_;rintro e wq ⟨rfl,rfl⟩)
   go_round
   case rel=>exact⟨k+1,by omega,by omega,by go_num,by rw[HU.o]⟩
   case measure=>simp[intOf];omega
  ·exact McM
def zmr(day:Int)(w:World)(h0:0<=day)(h1:day<=200000):
 Calls Tryz.prog 204 #[.int .i64 day] w (λe w'=>DateIs day (zbQ day) (zbg day)/\Ret w (znb (zbQ day) (zbg day) (day-zaD (zbQ day) (zbg day)+1)) e w'):=by
 have dP:=beg_low h0 h1;have fu:=zoi h0 h1;have xC:day.tdiv 366=day/366:=Int.tdiv_eq_ediv_of_nonneg h0;have fO:0<=day/366:=McS;have cJ:day/366<=546:=McS;rw[xC]at dP fu;have zI:zbQ day=zep day 10 (1800+day/366):=by unfold zbQ;rw[xC]
 obtain⟨HY,HH⟩:=yH2 zI fu;clear zI fu;go_enter Tryz.func204,Tryz.ntmps204
 go_wp2_with fail
 go_loopg [] 10 (λgg wr=>∃(f:Nat) (y:Int),f<=gg/\y+f=1800+day/366+10/\1800<=y/\y<=2400/\Hid (zbQ day=zep day f y)/\Hid (begP y<=day)/\Qa w wr/\wr.heap[w.heap.size]?=some (.cells #[.int .i64 0,.int .i64 0,.int .i64 0] 232)/\wr.heap[w.heap.size+1]?=some (.cells #[.int .i64 y,.int .i64 1,.int .i64 0] 232))
 case atStart=>exact⟨10,1800+day/366,Qc,by omega,by omega,by omega,HY.o,dP,Bw,zal (zas _ _ _ rfl),zas _ _ _ McV⟩
 case round=>
  obtain⟨f,y,hf,Np,lW,tG,wk,fQ,hB,g0,g1⟩:=hrel;have a0:wr.cell? ⟨w.heap.size+1,0,none⟩=some (.int .i64 y):=McY;have a1:wr.cell? ⟨w.heap.size+1,1,none⟩=some (.int .i64 1):=McY;have a2:wr.cell? ⟨w.heap.size+1,2,none⟩=some (.int .i64 0):=McY;have z0:wr.frozen? ⟨w.heap.size+1,0,none⟩=false:=Mc6;have z1:wr.frozen? ⟨w.heap.size+1,1,none⟩=false:=Mc6;have z2:wr.frozen? ⟨w.heap.size+1,2,none⟩=false:=Mc6;have b0:wr.cell? ⟨w.heap.size,0,none⟩=some (.int .i64 0):=McW;have b1:wr.cell? ⟨w.heap.size,1,none⟩=some (.int .i64 0):=McW;have b2:wr.cell? ⟨w.heap.size,2,none⟩=some (.int .i64 0):=McW;have x0:wr.frozen? ⟨w.heap.size,0,none⟩=false:=Mc5;have x1:wr.frozen? ⟨w.heap.size,1,none⟩=false:=Mc5;have x2:wr.frozen? ⟨w.heap.size,2,none⟩=false:=Mc5;have e1:w.heap.size+1<wr.heap.size:=zab g1;have e0:w.heap.size<wr.heap.size:=zab g0;have k0:IntKind.i64.wrap (y+1)=y+1:=IntWalk.i64_in _ McS;by_cases hc:begP (y+1)<=day
  ·have Hg:f≠0:=by
    exact Mb2
   obtain⟨f',rfl⟩:∃f',f=f'+1:=⟨f-1,by omega⟩
   have HN:Hid (zbQ day=zep day f' (y+1)):=by
    show _=_;rw[wk.o,zlx MeH]
   have HC:=zHi hc;go_wp2_with (go_at_call 208;refine(zdq (y+1) 1 _ McS McS McS McS).mono ?_;rintro e wq ⟨rfl,rfl⟩;rw[zbC])
   exact M0
  ·have HN:Hid (zbQ day=y):=by
    show _=_;rw[wk.o,zly MeH]
   have sM:=zbX (m:=1) lW McS McS McS;rw[zbC]at sM;have k1:IntKind.i64.wrap (day-begP y)=day-begP y:=IntWalk.i64_in _ McS;have yt:zbg day=zdn day y 12 1:=by unfold zbg;rw[HN.o]
   have l9:=zHi yt;have zJ:day<zaD y 12+za7 y 12:=by
    rw[<-zjN lW,zbC];omega
   have Cw:=zHi zJ;have mg:=fQ.o;have ak:Hid (zaD y 1<=day):=by show _<=_;rw[zbC];exact mg
   clear yt zJ mg;obtain⟨G0,G1⟩:=yH2 g0 g1;go_upto_region 4 with(go_at_call 208;refine(zdq (y+1) 1 _ McS McS McS McS).mono ?_;rintro e wq ⟨rfl,rfl⟩;rw[zbC])
   clear a0 a1 a2 z0 z1 z2 b0 b1 b2 x0 x1 x2 g0 g1;go_loopg [] 12 (λgg wm=>∃(m:Nat),1<=m/\m<=12/\12-m<=gg/\Hid (zbg day=zdn day y (13-m) m)/\Hid (zaD y m<=day)/\Qa w wm/\wm.heap[w.heap.size]?=some (.cells #[.int .i64 0,.int .i64 0,.int .i64 0] 232)/\wm.heap[w.heap.size+1]?=some (.cells #[.int .i64 y,.int .i64 m,.int .i64 0] 232))
   case atStart=>exact⟨1,by omega,by omega,by omega,l9.o,ak.o,hB,G0.o,G1.o⟩
   case round=>
    obtain⟨m,ct,fA,pg,HM,rl,FU,g0,g1⟩:=hrel;have a0:wr.cell? ⟨w.heap.size+1,0,none⟩=some (.int .i64 y):=McY;have a1:wr.cell? ⟨w.heap.size+1,1,none⟩=some (.int .i64 m):=McY;have a2:wr.cell? ⟨w.heap.size+1,2,none⟩=some (.int .i64 0):=McY;have z0:wr.frozen? ⟨w.heap.size+1,0,none⟩=false:=Mc6;have z1:wr.frozen? ⟨w.heap.size+1,1,none⟩=false:=Mc6;have z2:wr.frozen? ⟨w.heap.size+1,2,none⟩=false:=Mc6;have b0:wr.cell? ⟨w.heap.size,0,none⟩=some (.int .i64 0):=McW;have b1:wr.cell? ⟨w.heap.size,1,none⟩=some (.int .i64 0):=McW;have b2:wr.cell? ⟨w.heap.size,2,none⟩=some (.int .i64 0):=McW;have x0:wr.frozen? ⟨w.heap.size,0,none⟩=false:=Mc5;have x1:wr.frozen? ⟨w.heap.size,1,none⟩=false:=Mc5;have x2:wr.frozen? ⟨w.heap.size,2,none⟩=false:=Mc5;have e1:w.heap.size+1<wr.heap.size:=zab g1;have e0:w.heap.size<wr.heap.size:=zab g0;have ft:=zdC y ct fA;have p8:=zbX (m:=m) lW McS ct McS;have hu:=zf6 y ct;have dM:=rl.o;have k3:IntKind.i64.wrap ((m:Int)+1)=(m:Int)+1:=IntWalk.i64_in _ McS;have k5:IntKind.i64.wrap (day-zaD y m)=day-zaD y m:=IntWalk.i64_in _ McS;have k4:IntKind.i64.wrap (day-zaD y m+1)=day-zaD y m+1:=IntWalk.i64_in _ McS;by_cases cD:m<12/\zaD y (m+1)<=day
    ·obtain⟨t8,mT⟩:=cD;have iw:(m:Int)<12:=McS;have lh:Hid (zbg day=zdn day y (13-(m+1)) (m+1)):=by
      show _=_;rw[HM.o,show 13-m=(13-(m+1))+1 by omega,zjO t8 mT]
     obtain⟨fS,oD⟩:=yH2 mT (λW=>zdq y (m+1) W lW McS McS McS);rw[show((m+1:Nat):Int)=(m:Int)+1 from rfl]at oD;clear hu dM;go_wp2_with (go_at_call 208;refine(oD.o _).mono ?_;rintro e wq ⟨rfl,rfl⟩)
     go_roundg (12-(m+1))
     case measure=>omega
     case rel=>
      refine⟨m+1,by omega,by omega,Qc,lh,fS.o,by repeat(first|exact B_refl|exact Qb|assumption|with_reducible refine zad ?_ _|with_reducible refine zb2 ?_ _|with_reducible refine zaF ?_|with_reducible refine zcD ?_ _|with_reducible refine zaS ?_ MdO _),J_ne McS g0,?_⟩;exact Mb7
    ·have lh:Hid (zbg day=m):=by
      show _=_;rw[HM.o,zjP cD]
     have Hm:day<zaD y m+za7 y m:=by
      by_cases nV:m<12
      ·have:¬zaD y (m+1)<=day:=λh=>cD ⟨nV,h⟩
       rw[hu]at this;omega
      ·obtain rfl:m=12:=by omega
       exact Cw.o
     have HD:Hid (DateIs day (zbQ day) (zbg day)):=by
      show DateIs _ _ _;rw[HN.o,lh.o];exact⟨lW,by omega,ct,fA,dM,Hm⟩
     obtain⟨oD,qY⟩:=yH2 (λW (h:m<12)=>zdq y (m+1) W lW McS McS McS) (λW=>zdq y m W lW McS ct fA);rw[show((m+1:Nat):Int)=(m:Int)+1 from rfl]at oD;have bP:∀W:World,W=W->True:=λ_ _=>trivial
     clear hu dM Hm bP;by_cases nV:m<12
     ·have iw:(m:Int)<12:=McS;have kL:¬zaD y (m+1)<=day:=λh=>cD ⟨nV,h⟩
      have qX:=zHi (λW=>oD.o W nV);clear cD;go_upto_region 6 with(go_at_call 208;refine(qX.o _).mono ?_;rintro e wq ⟨rfl,rfl⟩)
      exact McI
     ·have iw:¬(m:Int)<12:=McS;clear cD oD;go_upto_region 6 with fail
      exact McI
def zhA(n:Int)(w:World):Calls Tryz.prog 207 #[.int .i64 n] w (Ret0 w (.bool (inR n 1800 2347))):=by
 go_enter Tryz.func207,Tryz.ntmps207
 exact May
def zjb(n:Int)(w:World):Calls Tryz.prog 210 #[.int .i64 n] w (Ret0 w (.bool (zba n))):=by
 go_enter Tryz.func210,Tryz.ntmps210
 exact May
def zkg(n:Int)(w:World)(h0:0<=n)(h1:n<=1000000):Calls Tryz.prog 206 #[.int .i64 n,.int .i64 12] w (Ret0 w (.int .i64 (n%12))):=by
 have e1:n.tmod 12=n%12:=Int.tmod_eq_emod_of_nonneg h0;have k1:IntKind.i64.wrap (n%12)=n%12:=IntWalk.i64_in _ McS;have k2:IntKind.i64.wrap (n%12+12)=n%12+12:=IntWalk.i64_in _ McS;have e2:(n%12+12).tmod 12=n%12:=by rw[Int.tmod_eq_emod_of_nonneg McS];omega
 go_enter Tryz.func206,Tryz.ntmps206
 go_wp2_with fail
 go_ret
 exact⟨by first|rfl|simp,rfl⟩
def zms(n:Int)(w:World)(h0:0<=n)(h1:n<=1000000):Calls Tryz.prog 205 #[.int .i64 n,.int .i64 12] w (Ret0 w (.int .i64 (n/12))):=by
 have k1:IntKind.i64.wrap (n-n%12)=n-n%12:=IntWalk.i64_in _ McS;have e1:(n-n%12).tdiv 12=n/12:=by rw[Int.tdiv_eq_ediv_of_nonneg McS];omega
 have k2:IntKind.i64.wrap (n/12)=n/12:=IntWalk.i64_in _ McS;go_enter Tryz.func205,Tryz.ntmps205
 go_wp2_with (go_at_call 206;refine(zkg _ _ h0 h1).mono ?_;rintro e wq ⟨rfl,rfl⟩)
 go_ret
 exact⟨by first|rfl|simp,rfl⟩
def zjc(day mo:Int)(w:World)(h0:0<=day)(h1:day<=200000)(nv:0<=mo)(ct:mo<=12000):
 Calls Tryz.prog 184 #[.int .i64 day,.int .i64 mo] w (λe w'=>∃n:Int,∃ok:Bool,(ok=true->zbR day mo=n/\0<=n)/\(ok=false->zbR day mo= -1)/\Ret w (.tuple #[.int .i64 n,.bool ok]) e w'):=by
 have hA:zbR day mo=if !inR ((zbQ day*12+zbg day-1+mo)/12) 1800 2347 then-1 else
  if zba (zaD ((zbQ day*12+zbg day-1+mo)/12) ((zbQ day*12+zbg day-1+mo)%12+1).toNat+min (day-zaD (zbQ day) (zbg day)+1) (za7 ((zbQ day*12+zbg day-1+mo)/12) ((zbQ day*12+zbg day-1+mo)%12+1))-1)then
   zaD ((zbQ day*12+zbg day-1+mo)/12) ((zbQ day*12+zbg day-1+mo)%12+1).toNat+min (day-zaD (zbQ day) (zbg day)+1) (za7 ((zbQ day*12+zbg day-1+mo)/12) ((zbQ day*12+zbg day-1+mo)%12+1))-1 else-1:=rfl
 have HA:=zHi hA;clear hA;have HD:=zHi (λW=>zmr day W h0 h1);generalize zbQ day=y at*;generalize zbg day=m at*;generalize zbR day mo=R at*;go_enter Tryz.func184,Tryz.ntmps184
 go_upto_region 2 with(go_at_call 204;refine(HD.o _).mono ?_;rintro e wq ⟨DO,rfl,z,rfl⟩;simp only[znb])
 obtain⟨d1,d2,d3,d4,d5,d6⟩:=DO;obtain⟨f1,f2⟩:=zdC y d3 d4;obtain⟨X,hX⟩:=Qd (day-zaD y m+1)
 obtain⟨N,hN⟩:=Qd (y*12+m-1+mo)
 have tI:Hid (R=if !inR (N/12) 1800 2347 then-1 else if zba (zaD (N/12) (N%12+1).toNat+min X (za7 (N/12) (N%12+1))-1)then zaD (N/12) (N%12+1).toNat+min X (za7 (N/12) (N%12+1))-1 else-1):=by
  show _=_;rw[HA.o,hX,hN]
 have KG:1<=X:=McS;have AK:X<=31:=McS;rw[<-hX];have k1:IntKind.i64.wrap (y*12)=y*12:=IntWalk.i64_in _ McS;have k2:IntKind.i64.wrap (y*12+m)=y*12+m:=IntWalk.i64_in _ McS;have k3:IntKind.i64.wrap (y*12+m-1)=y*12+m-1:=IntWalk.i64_in _ McS;have k4:IntKind.i64.wrap (y*12+m-1+mo)=N:=by rw[hN];exact IntWalk.i64_in _ McS
 have CV:0<=N/\N<=100000:=McS;obtain⟨rW,CW⟩:=CV;clear HA hX hN HD d5 d6 f1 f2;have fO:0<=N/12:=McS;obtain⟨mm,dj⟩:∃mm:Nat,(mm:Int)=N%12+1:=⟨(N%12+1).toNat,by omega⟩
 have dG:1<=mm:=McS;have jN:mm<=12:=McS;have ht:(N%12+1).toNat=mm:=McS;have cL:Hid (R=if !inR (N/12) 1800 2347 then-1 else if zba (zaD (N/12) mm+min X (za7 (N/12) mm)-1)then zaD (N/12) mm+min X (za7 (N/12) mm)-1 else-1):=by
  show _=_;rw[tI.o,ht,<-dj]
 have k5:IntKind.i64.wrap (N%12+1)=(mm:Int):=by rw[dj];exact IntWalk.i64_in _ McS
 obtain⟨Y,hY⟩:∃Y,N/12=Y:=⟨_,rfl⟩
 rw[hY]at cL;have xb:Y<=10000:=McS;have cJ:0<=Y:=McS;clear tI ht;have zY:=zHi dj;clear dj
 go_upto_region 4 with(first
  |(go_at_call 205;refine(zms _ _ rW McS).mono ?_;rintro e wq ⟨rfl,rfl⟩;rw[hY])
  |(go_at_call 206;refine(zkg _ _ rW McS).mono ?_;rintro e wq ⟨rfl,rfl⟩))
 cases aQ:inR Y 1800 2347
 ·have HR:Hid (R= -1):=Mef;go_wp2_with (go_at_call 207;refine(zhA _ _).mono ?_;rintro e wq ⟨rfl,rfl⟩;rw[aQ])
  all_goals go_ret2
  all_goals exact⟨0,false,by simp,λ_=>HR.o,Ret.of rfl Bw⟩
 ·have xd:1800<=Y/\Y<=2347:=by simpa[inR]using aQ
  obtain⟨f1,f2⟩:=zdC Y dG jN;have sM:=zbX (m:=mm) xd.1 McS dG McS;have HR:Hid (R=if zba (zaD Y mm+min X (za7 Y mm)-1)then zaD Y mm+min X (za7 Y mm)-1 else-1):=Mef;clear cL;go_upto_region 6 with(go_at_call 207;refine(zhA _ _).mono ?_;rintro e wq ⟨rfl,rfl⟩;rw[aQ])
  obtain⟨vF,vk⟩:=yH2 (λW=>zft Y mm W cJ McS dG jN) (λW=>zdq Y mm W xd.1 McS dG jN);have j1:IntKind.i64.wrap (zaD Y mm+min X (za7 Y mm))=zaD Y mm+min X (za7 Y mm):=IntWalk.i64_in _ McS;have j2:IntKind.i64.wrap (zaD Y mm+min X (za7 Y mm)-1)=zaD Y mm+min X (za7 Y mm)-1:=IntWalk.i64_in _ McS;generalize za7 Y mm=L at*;generalize zaD Y mm=F at*;clear sM;refine zag McT McT ?_;repeat(first|go_big_quiet_skip|(go_big_quiet_want;go_big_quiet_op;first|go_big_quiet_on|(apply Exists.intro;refine⟨λ_=>?_,?_⟩;(first|(go_at_call 209;exact zif (vF.o _))|(go_at_call 208;exact zif (vk.o _)));go_big_quiet_on)))
  refine wpQuiet_nil ?_;rintro _ ⟨zq,rfl⟩;generalize hO:F+min X L-1=out at*;have HO:=zHi hO;clear hO vF vk j1 j2;cases hd:zba out
  ·have jX:=zHi hd;go_wp2_with (go_at_call 210;refine(zjb _ _).mono ?_;rintro e wq ⟨rfl,rfl⟩;rw[hd])
   exact Mb4
  ·have jX:=zHi hd;go_wp2_with (go_at_call 210;refine(zjb _ _).mono ?_;rintro e wq ⟨rfl,rfl⟩;rw[hd])
   exact Mbh
def zkh(day ys:Int)(w:World)(h0:0<=day)(h1:day<=200000)(nv:0<=ys)(ct:ys<=99):
 Calls Tryz.prog 159 #[.int .i64 day,.int .i64 ys] w (Ret w (.int .i64 (zcf day ys))):=by
 have HL:=zHi (zjc day (12*ys) w h0 h1 McS McS);have bG:=zkP day ys;unfold zcf at bG;have vE:=zHi bG;have kz:IntKind.i64.wrap (12*ys)=12*ys:=IntWalk.i64_in _ McS;clear bG;go_enter Tryz.func159,Tryz.ntmps159
 go_upto_region 2 with(go_at_call 184;refine(HL.o).mono ?_;rintro e wq ⟨n,ok,k1,k2,rfl,z,rfl⟩;obtain⟨H1,H2⟩:=yH2 k1 k2;clear k1 k2)
 cases ok
 ·have HE:Hid (zcf day ys= -1):=by show _=_;unfold zcf;exact H2.o rfl
  go_wp2_with fail
  go_ret
  exact Ret.of (zb7 HE.o.symm) Bw
 ·have HE:Hid (zcf day ys=n):=by show _=_;unfold zcf;exact(H1.o rfl).1
  have hn:¬200000<n:=by have:=vE.o;have:=(H1.o rfl).1;omega
  go_wp2_with fail
  go_ret
  exact Ret.of (zb7 HE.o.symm) Bw
end
open Go.Shelf
def zpB:Go.Shelf.Ren:=⟨fun|53=>20|64=>50|63=>49|78=>92|79=>93|70=>83|71=>84|72=>85|73=>86|74=>87|75=>88|59=>89|76=>90|77=>91|88=>119|89=>120|90=>121|91=>122|92=>123|68=>102|96=>154|n=>n,fun|22=>46|23=>3|3=>3|51=>114|0=>0|67=>149|69=>151|4=>4|61=>141|60=>140|44=>146|5=>5|9=>9|75=>174|79=>178|83=>209|84=>210|n=>n,fun|n=>n⟩
def srtInt:Go.Proofs.SlLaysN.n53 Tryz.prog zpB:= {
 mixed:=by kernel_rfl
 f53:=⟨Tryz.f20.name,by decide,Tryz.func20.trans (congrArg some McT)⟩
 f59:=⟨Tryz.f89.name,by decide,Tryz.func89.trans (congrArg some McT)⟩
 f63:=⟨Tryz.f49.name,by decide,Tryz.func49.trans (congrArg some McT)⟩
 f64:=Tryz.func50.trans (congrArg some McT)
 f68:=⟨Tryz.f102.name,by decide,Tryz.func102.trans (congrArg some McT)⟩
 f70:=⟨Tryz.f83.name,by decide,Tryz.func83.trans (congrArg some McT)⟩
 f71:=⟨Tryz.f84.name,by decide,Tryz.func84.trans (congrArg some McT)⟩
 f72:=⟨Tryz.f85.name,by decide,Tryz.func85.trans (congrArg some McT)⟩
 f73:=⟨Tryz.f86.name,by decide,Tryz.func86.trans (congrArg some McT)⟩
 f74:=⟨Tryz.f87.name,by decide,Tryz.func87.trans (congrArg some McT)⟩
 f75:=⟨Tryz.f88.name,by decide,Tryz.func88.trans (congrArg some McT)⟩
 f76:=⟨Tryz.f90.name,by decide,Tryz.func90.trans (congrArg some McT)⟩
 f77:=⟨Tryz.f91.name,by decide,Tryz.func91.trans (congrArg some McT)⟩
 f78:=Tryz.func92.trans (congrArg some McT)
 f79:=Tryz.func93.trans (congrArg some McT)
 f88:=⟨Tryz.f119.name,by decide,Tryz.func119.trans (congrArg some McT)⟩
 f89:=Tryz.func120.trans (congrArg some McT)
 f90:=Tryz.func121.trans (congrArg some McT)
 f91:=⟨Tryz.f122.name,by decide,Tryz.func122.trans (congrArg some McT)⟩
 f92:=⟨Tryz.f123.name,by decide,Tryz.func123.trans (congrArg some McT)⟩
 f96:=⟨Tryz.f154.name,by decide,Tryz.func154.trans (congrArg some McT)⟩
 t0:=Tryz.underlying0
 a0:=Tryz.isAgg0
 z0:=Tryz.sizeOf0
 v0:=Tryz.zeroValue0
 t3:=Tryz.underlying3
 a3:=Tryz.isAgg3
 z3:=Tryz.sizeOf3
 v3:=Tryz.zeroValue3
 t4:=Tryz.underlying4
 a4:=Tryz.isAgg4
 z4:=Tryz.sizeOf4
 v4:=Tryz.zeroValue4
 t5:=Tryz.underlying5
 a5:=Tryz.isAgg5
 z5:=Tryz.sizeOf5
 v5:=Tryz.zeroValue5
 t9:=Tryz.underlying9
 a9:=Tryz.isAgg9
 z9:=Tryz.sizeOf9
 v9:=Tryz.zeroValue9
 t22:=Tryz.underlying46
 a22:=Tryz.isAgg46
 z22:=Tryz.sizeOf46
 v22:=Tryz.zeroValue46
 t23:=Tryz.underlying3
 a23:=Tryz.isAgg3
 z23:=Tryz.sizeOf3
 v23:=Tryz.zeroValue3
 t44:=Tryz.underlying146
 a44:=Tryz.isAgg146
 z44:=Tryz.sizeOf146
 v44:=Tryz.zeroValue146
 t51:=Tryz.underlying114
 a51:=Tryz.isAgg114
 z51:=Tryz.sizeOf114
 v51:=Tryz.zeroValue114
 t60:=Tryz.underlying140
 a60:=Tryz.isAgg140
 z60:=Tryz.sizeOf140
 v60:=Tryz.zeroValue140
 t61:=Tryz.underlying141
 a61:=Tryz.isAgg141
 z61:=Tryz.sizeOf141
 v61:=Tryz.zeroValue141
 t67:=Tryz.underlying149
 a67:=Tryz.isAgg149
 z67:=Tryz.sizeOf149
 v67:=Tryz.zeroValue149
 t69:=Tryz.underlying151
 a69:=Tryz.isAgg151
 z69:=Tryz.sizeOf151
 v69:=Tryz.zeroValue151
 t75:=Tryz.underlying174
 a75:=Tryz.isAgg174
 z75:=Tryz.sizeOf174
 v75:=Tryz.zeroValue174
 t79:=Tryz.underlying178
 a79:=Tryz.isAgg178
 z79:=Tryz.sizeOf178
 v79:=Tryz.zeroValue178
 t83:=Tryz.underlying209
 a83:=Tryz.isAgg209
 z83:=Tryz.sizeOf209
 v83:=Tryz.zeroValue209
 t84:=Tryz.underlying210
 a84:=Tryz.isAgg210
 z84:=Tryz.sizeOf210
 v84:=Tryz.zeroValue210}
