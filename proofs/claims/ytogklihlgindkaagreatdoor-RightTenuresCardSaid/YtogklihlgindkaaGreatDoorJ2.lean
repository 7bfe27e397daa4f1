import Derived.Test.YtogklihlgindkaaGreatDoorJ0
import Derived.Deep.RegionLaw
set_option linter.all false
set_option maxRecDepth 100000
set_option maxHeartbeats 4000000
namespace Go.Proofs.YtogklihlgindkaaGreatDoor
open Go.RowKit
attribute [local go_sem] World.cell?_alloc_mark zaf za3 zam za6 zat zau zav zaw zax zay zaz
attribute [local go_sem] zao zac
variable{fn:Func}{p:Tmp}
def zdF{ty:TypeId}(h:fn.results= #[.cell p ty])(tmps:Array Value)(P:Program)(w:World):
 (results fn tmps).run P w=((asAddr (tmps.getD p undef)).run P w).andThen λa w₁=>(loadVar ty a).run P w₁:=by
 simp only[results,h];simp[Sem.run_bind]
def zaZ(h:fn.results= #[.cell p 50])(tmps:Array Value)(w:World)(B:Nat)(x y:Int)(hp:tmps.getD p undef=.pointer (some ⟨B,0,none⟩))
 (h0:w.cell? ⟨B,0,none⟩=some (.int .i64 x))(h1:w.cell? ⟨B,1,none⟩=some (.int .i64 y)):(results fn tmps).run Tryz.prog w=.ok (.agg #[.int .i64 x,.int .i64 y]) w:=by
 rw[zdF h,hp];go_simp
def zaA(r:Rat):Value:=.agg #[.int .i64 r.num,.int .i64 r.den]
variable{a b:Int}
def znZ(h:0<b):0<Int.gcd a b:=Nat.pos_of_ne_zero (λe=>by have:=(Int.gcd_eq_zero_iff.1 e).2;omega)
def zdN(a b:Int)(w:World)(ha:a.natAbs<=4611686018427387904)(ba:0<b)(hb:b<=4611686018427387904):Calls Tryz.prog 139 #[.int .i64 a,.int .i64 b] w (Ret w (zaA (Rat.divInt a b))):=by
 have hg:=znZ (a:=a) ba;obtain⟨g,HG⟩:∃g:Int,g=(Int.gcd a b:Int):=⟨_,rfl⟩
 have pa:0<g:=by omega
 have sR:(g==0)=false:=by simp;omega
 have e1:a.tdiv g=(Rat.divInt a b).num:=by rw[zfz ba,HG,zen (Int.gcd_dvd_left ..)]
 have e2:b.tdiv g=((Rat.divInt a b).den:Int):=by rw[zem ba,HG,zen (Int.gcd_dvd_right ..)]
 have n1:(a.tdiv g).natAbs<=4611686018427387904:=Nat.le_trans (Int.natAbs_tdiv_le_natAbs _ _) ha;have n2:(b.tdiv g).natAbs<=4611686018427387904:=Nat.le_trans (Int.natAbs_tdiv_le_natAbs _ _) (by omega);have w1:wrap64 (a.tdiv g)=a.tdiv g:=by unfold wrap64;omega
 have w2:wrap64 (b.tdiv g)=b.tdiv g:=by unfold wrap64;omega
 have HA:=zHi ha;have ip:b.natAbs<=4611686018427387904:=by omega
 obtain⟨HB,E1,E2⟩:=yH3 ip e1 e2;clear ha hb ba hg e1 e2 n1 n2 ip;go_enter Tryz.func139,Tryz.ntmps139
 go_wp2_with (go_at_call 99;refine(zkr _ _ _ HA.o HB.o).mono ?_;rintro e w1 ⟨rfl,z1,rfl⟩;rw[<-HG])
 go_region
 go_wp2_with fail
 refine bodyPost_ret (v:=zaA (Rat.divInt a b)) ?_ rfl ?_
 ·refine zaZ rfl _ _ w.heap.size _ _ rfl ?_ ?_
  ·rw[<-E1.o];simp[go_sem];rw[<-HG];exact w1
  ·rw[<-E2.o];simp[go_sem];rw[<-HG];exact w2
 ·exact Ret.of rfl Bw
def zaJ(r:Rat):Prop:=r.num.natAbs<=1000000000/\r.den<=1000000000
def zaQ(ha:a.natAbs<=1000000000)(hb:b.natAbs<=1000000000): -1000000000000000000<=a*b/\a*b<=1000000000000000000:=by
 have h:(a*b).natAbs<=1000000000*1000000000:=by rw[Int.natAbs_mul];exact Nat.mul_le_mul ha hb
 omega
def add5I(a b c d:Int)(w:World)(ha:a.natAbs<=1000000000)(hb:b.natAbs<=1000000000)(hc:c.natAbs<=1000000000)(hd:d.natAbs<=1000000000)(ba:0<b)(iK:0<d):Calls Tryz.prog 106 #[.agg #[.int .i64 a,.int .i64 b],.agg #[.int .i64 c,.int .i64 d]] w (Ret w (zaA (Rat.divInt (a*d+c*b) (b*d)))):=by
 have m1:=zaQ ha hd;have m2:=zaQ hc hb;have m3:=zaQ hb hd;have m4:0<b*d:=Int.mul_pos ba iK;obtain⟨m1,n1⟩:=m1;obtain⟨m2,n2⟩:=m2;obtain⟨m3,n3⟩:=m3;have w1:IntKind.i64.wrap (a*d)=a*d:=IntWalk.i64_in _ (by omega);have w2:IntKind.i64.wrap (c*b)=c*b:=IntWalk.i64_in _ (by omega);have w3:IntKind.i64.wrap (b*d)=b*d:=IntWalk.i64_in _ (by omega);have hs:(a*d+c*b).natAbs<=4611686018427387904:=by omega
 have hl:b*d<=4611686018427387904:=by omega
 obtain⟨HS,HL,H4⟩:=yH3 hs hl m4;clear hs hl m4 ha hb hc hd;go_enter Tryz.func106,Tryz.ntmps106
 go_wp2_with (go_at_call 139;refine(zdN _ _ _ HS.o H4.o HL.o).mono ?_;rintro e w1 ⟨rfl,z1,rfl⟩;simp only[zaA])
 refine bodyPost_ret (v:=zaA (Rat.divInt (a*d+c*b) (b*d))) ?_ rfl ?_
 ·refine zaZ rfl _ _ _ _ _ rfl ?_ ?_
  ·simp[go_sem]
  ·simp[go_sem]
 ·exact Ret.of rfl Bw
def zoa(p q:Rat)(w:World)(cw:zaJ p)(dR:zaJ q):Calls Tryz.prog 106 #[zaA p,zaA q] w (Ret w (zaA (p+q))):=by
 rw[zjB];exact add5I _ _ _ _ _ cw.1 (by have:=cw.2;omega) dR.1 (by have:=dR.2;omega) (zbU p) (zbU q)
def sub5I(a b c d:Int)(w:World)(ha:a.natAbs<=1000000000)(hb:b.natAbs<=1000000000)(hc:c.natAbs<=1000000000)(hd:d.natAbs<=1000000000)(ba:0<b)(iK:0<d):Calls Tryz.prog 111 #[.agg #[.int .i64 a,.int .i64 b],.agg #[.int .i64 c,.int .i64 d]] w (Ret w (zaA (Rat.divInt (a*d-c*b) (b*d)))):=by
 have m1:=zaQ ha hd;have m2:=zaQ hc hb;have m3:=zaQ hb hd;have m4:0<b*d:=Int.mul_pos ba iK;obtain⟨m1,n1⟩:=m1;obtain⟨m2,n2⟩:=m2;obtain⟨m3,n3⟩:=m3;have w1:IntKind.i64.wrap (a*d)=a*d:=IntWalk.i64_in _ (by omega);have w2:IntKind.i64.wrap (c*b)=c*b:=IntWalk.i64_in _ (by omega);have w3:IntKind.i64.wrap (b*d)=b*d:=IntWalk.i64_in _ (by omega);have hs:(a*d-c*b).natAbs<=4611686018427387904:=by omega
 have hl:b*d<=4611686018427387904:=by omega
 obtain⟨HS,HL,H4⟩:=yH3 hs hl m4;clear hs hl m4 ha hb hc hd;go_enter Tryz.func111,Tryz.ntmps111
 go_wp2_with (go_at_call 139;refine(zdN _ _ _ HS.o H4.o HL.o).mono ?_;rintro e w1 ⟨rfl,z1,rfl⟩;simp only[zaA])
 refine bodyPost_ret (v:=zaA (Rat.divInt (a*d-c*b) (b*d))) ?_ rfl ?_
 ·refine zaZ rfl _ _ _ _ _ rfl ?_ ?_
  ·simp[go_sem]
  ·simp[go_sem]
 ·exact Ret.of rfl Bw
def zhI(p q:Rat)(w:World)(cw:zaJ p)(dR:zaJ q):Calls Tryz.prog 111 #[zaA p,zaA q] w (Ret w (zaA (p-q))):=by
 rw[zjC];exact sub5I _ _ _ _ _ cw.1 (by have:=cw.2;omega) dR.1 (by have:=dR.2;omega) (zbU p) (zbU q)
def zdO(a b:Int)(w:World):Calls Tryz.prog 74 #[.agg #[.int .i64 a,.int .i64 b]] w (Ret w (.bool (za8 16 a b))):=by
 go_enter Tryz.func74,Tryz.ntmps74
 by_cases h1:inR b 1 16=true
 ·by_cases h2:inR a 0 b=true
  ·have x1:1<=b/\b<=16:=by simpa[inR]using h1
   have x2:0<=a/\a<=b:=by simpa[inR]using h2
   have g1:a.natAbs<=4611686018427387904:=by omega
   have g2:b.natAbs<=4611686018427387904:=by omega
   obtain⟨G1,G2⟩:=yH2 g1 g2;have hv:za8 16 a b=((Int.gcd a b:Int)==1):=by
    unfold za8;simp only[x1.1,x1.2,x2.1,x2.2,decide_true,Bool.true_and];rw[Bool.eq_iff_iff,beq_iff_eq,beq_iff_eq];omega
   have HV:=zHi hv;clear g1 g2 hv x1 x2
   go_wp2_with (first
    |(go_at_call 51;refine(zbj _ _ _ _).mono ?_;rintro e wq ⟨rfl,rfl⟩)
    |(go_at_call 99;refine(zkr _ _ _ G1.o G2.o).mono ?_;rintro e w1 ⟨rfl,z1,rfl⟩))
   all_goals go_ret
   all_goals exact Ret.of (zaT (by rw[HV.o])) Bw
  ·have hv:za8 16 a b=false:=by
    unfold za8;simp[inR]at h1 h2⊢;omega
   go_wp2_with (go_at_call 51;refine(zbj _ _ _ _).mono ?_;rintro e wq ⟨rfl,rfl⟩)
   all_goals go_ret
   all_goals exact Ret.of (zaT (by rw[hv])) Bw
 ·have hv:za8 16 a b=false:=by
   unfold za8;simp[inR]at h1⊢;omega
  go_wp2_with (go_at_call 51;refine(zbj _ _ _ _).mono ?_;rintro e wq ⟨rfl,rfl⟩)
  all_goals go_ret
  all_goals exact Ret.of (zaT (by rw[hv])) Bw
def ze4(w:World)(C:Nat)(r:Rat)(e:Ending)(w':World):Prop:=(r.den<=1000000000/\Ret w (zaA r) e w')\/(1000000000<r.den/\Ret (w.setCell ⟨C,0,none⟩ (.bool true)) (zaA 0) e w')
def zik(C:Nat)(r:Rat)(f:Bool)(w:World)(hc:w.cell? ⟨C,0,none⟩=some (.bool f))(hC:C<w.heap.size)(hf:w.frozen? ⟨C,0,none⟩=false):Calls Tryz.prog 145 #[.pointer (some ⟨C,0,none⟩),zaA r] w (ze4 w C r):=by
 by_cases hd:r.den<=1000000000
 ·have dY:decide ((r.den:Int)>1000000000)=false:=by simp;omega
  unfold zaA;go_enter Tryz.func145,Tryz.ntmps145
  go_wp2_with fail
  refine bodyPost_ret (v:=zaA r) ?_ rfl ?_
  ·refine zaZ rfl _ _ _ _ _ rfl ?_ ?_
   ·simp[go_sem]
   ·simp[go_sem]
  ·exact .inl ⟨hd,Ret.of rfl Bw⟩
 ·have dY:decide ((r.den:Int)>1000000000)=true:=by simp;omega
  unfold zaA;go_enter Tryz.func145,Tryz.ntmps145
  go_wp2_with fail
  refine bodyPost_ret (v:=zaA 0) ?_ rfl ?_
  ·refine zaZ rfl _ _ _ _ _ rfl ?_ ?_
   ·simp[go_sem,hC]
   ·simp[go_sem,hC]
  ·refine .inr ⟨by omega,Ret.of rfl ?_⟩;exact Bw
def cmulI(C:Nat)(f:Bool)(w:World)(hc:w.cell? ⟨C,0,none⟩=some (.bool f))(hC:C<w.heap.size)(hf:w.frozen? ⟨C,0,none⟩=false)(a b c d:Int)(ha:a.natAbs<=1000000000)(hb:b.natAbs<=1000000000)(cD:c.natAbs<=1000000000)(hd:d.natAbs<=1000000000)(ba:0<b)(iK:0<d):Calls Tryz.prog 113 #[.pointer (some ⟨C,0,none⟩),.agg #[.int .i64 a,.int .i64 b],.agg #[.int .i64 c,.int .i64 d]] w (ze4 w C (Rat.divInt (a*c) (b*d))):=by
 obtain⟨m1,n1⟩:=zaQ ha cD;obtain⟨m3,n3⟩:=zaQ hb hd;have m4:0<b*d:=Int.mul_pos ba iK;have w1:IntKind.i64.wrap (a*c)=a*c:=IntWalk.i64_in _ (by omega);have w3:IntKind.i64.wrap (b*d)=b*d:=IntWalk.i64_in _ (by omega);have hs:(a*c).natAbs<=4611686018427387904:=by omega
 have hl:b*d<=4611686018427387904:=by omega
 obtain⟨HS,HL,H4⟩:=yH3 hs hl m4;clear hs hl m4 ha hb cD hd;go_enter Tryz.func113,Tryz.ntmps113
 go_wp2_with (first
  |(go_at_call 139;refine(zdN _ _ _ HS.o H4.o HL.o).mono ?_;rintro e w1 ⟨rfl,z1,rfl⟩)
  |(go_at_call 145
    refine(zik C _ f _ ?s1 ?s2 ?s3).mono ?_
    case s1=>simp[go_sem,hC,hc]
    case s2=>simp[zaf];omega
    case s3=>simp[go_sem,hC,hf]
    intro e wq hq
    rcases hq with⟨hd,rfl,zq,rfl⟩|⟨hd,rfl,zq,rfl⟩<;>simp only[zaA]))
 ·refine bodyPost_ret (v:=zaA (Rat.divInt (a*c) (b*d))) ?_ rfl ?_
  ·refine zaZ rfl _ _ _ _ _ rfl ?_ ?_
   ·simp[go_sem,hC]
   ·simp[go_sem,hC]
  ·refine .inl ⟨hd,Ret.of rfl ?_⟩;exact Bw
 ·refine bodyPost_ret (v:=zaA 0) ?_ rfl ?_
  ·refine zaZ rfl _ _ _ _ _ rfl ?_ ?_
   ·simp[go_sem,hC]
   ·simp[go_sem,hC]
  ·refine .inr ⟨hd,Ret.of rfl ?_⟩;exact Bw
def cmul5_any(C:Nat)(f:Bool)(w:World)(hc:w.cell? ⟨C,0,none⟩=some (.bool f))(hC:C<w.heap.size)(hf:w.frozen? ⟨C,0,none⟩=false)(p q:Rat)(hp:zaJ p)(hq:zaJ q):Calls Tryz.prog 113 #[.pointer (some ⟨C,0,none⟩),zaA p,zaA q] w (ze4 w C (p*q)):=by
 rw[zgS];exact cmulI C f w hc hC hf _ _ _ _ hp.1 (by have:=hp.2;omega) hq.1 (by have:=hq.2;omega) (zbU p) (zbU q)
def cquoI(C:Nat)(f:Bool)(w:World)(hc:w.cell? ⟨C,0,none⟩=some (.bool f))(hC:C<w.heap.size)(hf:w.frozen? ⟨C,0,none⟩=false)(a b c d:Int)(ha:a.natAbs<=1000000000)(hb:b.natAbs<=1000000000)(cD:c.natAbs<=1000000000)(hd:d.natAbs<=1000000000)(ba:0<b)(iK:0<c):Calls Tryz.prog 115 #[.pointer (some ⟨C,0,none⟩),.agg #[.int .i64 a,.int .i64 b],.agg #[.int .i64 c,.int .i64 d]] w (ze4 w C (Rat.divInt (a*d) (b*c))):=by
 obtain⟨m1,n1⟩:=zaQ ha hd;obtain⟨m3,n3⟩:=zaQ hb cD;have m4:0<b*c:=Int.mul_pos ba iK;have w1:IntKind.i64.wrap (a*d)=a*d:=IntWalk.i64_in _ (by omega);have w3:IntKind.i64.wrap (b*c)=b*c:=IntWalk.i64_in _ (by omega);have hs:(a*d).natAbs<=4611686018427387904:=by omega
 have hl:b*c<=4611686018427387904:=by omega
 obtain⟨HS,HL,H4⟩:=yH3 hs hl m4;clear hs hl m4 ha hb cD hd;go_enter Tryz.func115,Tryz.ntmps115
 go_wp2_with (first
  |(go_at_call 139;refine(zdN _ _ _ HS.o H4.o HL.o).mono ?_;rintro e w1 ⟨rfl,z1,rfl⟩)
  |(go_at_call 145
    refine(zik C _ f _ ?s1 ?s2 ?s3).mono ?_
    case s1=>simp[go_sem,hC,hc]
    case s2=>simp[zaf];omega
    case s3=>simp[go_sem,hC,hf]
    intro e wq hq
    rcases hq with⟨hd,rfl,zq,rfl⟩|⟨hd,rfl,zq,rfl⟩<;>simp only[zaA]))
 ·refine bodyPost_ret (v:=zaA (Rat.divInt (a*d) (b*c))) ?_ rfl ?_
  ·refine zaZ rfl _ _ _ _ _ rfl ?_ ?_
   ·simp[go_sem,hC]
   ·simp[go_sem,hC]
  ·refine .inl ⟨hd,Ret.of rfl ?_⟩;exact Bw
 ·refine bodyPost_ret (v:=zaA 0) ?_ rfl ?_
  ·refine zaZ rfl _ _ _ _ _ rfl ?_ ?_
   ·simp[go_sem,hC]
   ·simp[go_sem,hC]
  ·refine .inr ⟨hd,Ret.of rfl ?_⟩;exact Bw
def cquo5_any(C:Nat)(f:Bool)(w:World)(hc:w.cell? ⟨C,0,none⟩=some (.bool f))(hC:C<w.heap.size)(hf:w.frozen? ⟨C,0,none⟩=false)(p q:Rat)(hp:zaJ p)(hq:zaJ q)(h0:0<q):Calls Tryz.prog 115 #[.pointer (some ⟨C,0,none⟩),zaA p,zaA q] w (ze4 w C (p/q)):=by
 have EE:0<q.num:=by have:=(Rat.lt_iff 0 q).1 h0;simpa using this
 rw[zjD p q h0];exact cquoI C f w hc hC hf _ _ _ _ hp.1 (by have:=hp.2;omega) hq.1 (by have:=hq.2;omega) (zbU p) EE
def cadd5_any(C:Nat)(f:Bool)(w:World)(hc:w.cell? ⟨C,0,none⟩=some (.bool f))(hC:C<w.heap.size)(hf:w.frozen? ⟨C,0,none⟩=false)(p q:Rat)(hp:zaJ p)(hq:zaJ q):Calls Tryz.prog 114 #[.pointer (some ⟨C,0,none⟩),zaA p,zaA q] w (ze4 w C (p+q)):=by
 have HA:=λW=>zoa p q W hp hq
 clear hp hq;unfold zaA at*;go_enter Tryz.func114,Tryz.ntmps114
 go_wp2_with (first
  |(go_at_call 106;refine(HA _).mono ?_;rintro e w1 ⟨rfl,z1,rfl⟩)
  |(go_at_call 145
    refine(zik C _ f _ ?s1 ?s2 ?s3).mono ?_
    case s1=>simp[go_sem,hC,hc]
    case s2=>simp[zaf];omega
    case s3=>simp[go_sem,hC,hf]
    intro e wq hq
    rcases hq with⟨hd,rfl,zq,rfl⟩|⟨hd,rfl,zq,rfl⟩<;>simp only[zaA]))
 ·refine bodyPost_ret (v:=zaA (p+q)) ?_ rfl ?_
  ·refine zaZ rfl _ _ _ _ _ rfl ?_ ?_
   ·simp[go_sem,hC]
   ·simp[go_sem,hC]
  ·refine .inl ⟨hd,Ret.of rfl ?_⟩;exact Bw
 ·refine bodyPost_ret (v:=zaA 0) ?_ rfl ?_
  ·refine zaZ rfl _ _ _ _ _ rfl ?_ ?_
   ·simp[go_sem,hC]
   ·simp[go_sem,hC]
  ·refine .inr ⟨hd,Ret.of rfl ?_⟩;exact Bw
