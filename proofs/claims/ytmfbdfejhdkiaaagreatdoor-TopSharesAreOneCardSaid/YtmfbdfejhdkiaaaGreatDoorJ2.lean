/- Walks of chapter 5's counter: seen, mul, quo, add: a denominator above 10^9 sets the counter's mark. -/
import Derived.Test.YtmfbdfejhdkiaaaGreatDoorJ0
import Derived.Deep.RegionLaw
set_option linter.all false
set_option maxRecDepth 100000
set_option maxHeartbeats 4000000
namespace Go.Proofs.YtmfbdfejhdkiaaaGreatDoor
open Go.RowKit
attribute [local go_sem] World.cell?_alloc_mark zae za4 zao za8 zav zaw zax zay zaz za0 za1
attribute [local go_sem] zap zac
theorem zdL{fn:Func}{p:Tmp}{ty:TypeId}(h:fn.results= #[.cell p ty])(tmps:Array Value)(P:Program)(w:World):
 (results fn tmps).run P w=((asAddr (tmps.getD p undef)).run P w).andThen fun a w₁=>(loadVar ty a).run P w₁:=by
 simp only[results,h];simp[Sem.run_bind]
theorem zaT{fn:Func}{p:Tmp}(h:fn.results= #[.cell p 57])(tmps:Array Value)(w:World)(B:Nat)(x y:Int)(hp:tmps.getD p undef=.pointer (some ⟨B,0,none⟩))
 (h0:w.cell? ⟨B,0,none⟩=some (.int .i64 x))(h1:w.cell? ⟨B,1,none⟩=some (.int .i64 y)):(results fn tmps).run Tryz.prog w=.ok (.agg #[.int .i64 x,.int .i64 y]) w:=by
 rw[zdL h,hp];go_simp
def zaD(r:Rat):Value:=.agg #[.int .i64 r.num,.int .i64 r.den]
theorem zn5{a b:Int}(h:0<b):0<Int.gcd a b:=Nat.pos_of_ne_zero (fun e=>by have:=(Int.gcd_eq_zero_iff.1 e).2;omega)
theorem zdR(a b:Int)(w:World)(ha:a.natAbs<=4611686018427387904)(aN:0<b)(hb:b<=4611686018427387904):Calls Tryz.prog 133 #[.int .i64 a,.int .i64 b] w (Ret w (zaD (Rat.divInt a b))):=by
 have hg:=zn5 (a:=a) aN;obtain⟨g,HG⟩:∃g:Int,g=(Int.gcd a b:Int):=⟨_,rfl⟩
 have ur:0<g:=by omega
 have sS:(g==0)=false:=by simp;omega
 have e1:a.tdiv g=(Rat.divInt a b).num:=by rw[zf0 aN,HG,zen (Int.gcd_dvd_left ..)]
 have e2:b.tdiv g=((Rat.divInt a b).den:Int):=by rw[zem aN,HG,zen (Int.gcd_dvd_right ..)]
 have n1:(a.tdiv g).natAbs<=4611686018427387904:=Nat.le_trans (Int.natAbs_tdiv_le_natAbs _ _) ha;have n2:(b.tdiv g).natAbs<=4611686018427387904:=Nat.le_trans (Int.natAbs_tdiv_le_natAbs _ _) (by omega);have w1:wrap64 (a.tdiv g)=a.tdiv g:=by unfold wrap64;omega
 have w2:wrap64 (b.tdiv g)=b.tdiv g:=by unfold wrap64;omega
 have HA:=zHi ha;have i8:b.natAbs<=4611686018427387904:=by omega
 obtain⟨HB,E1,E2⟩:=yH3 i8 e1 e2;clear ha hb aN hg e1 e2 n1 n2 i8;go_enter Tryz.func133,Tryz.ntmps133
 go_wp2_with (go_at_call 132;refine(zn4 _ _ _ HA.o HB.o).mono ?_;rintro e w1 ⟨rfl,z1,rfl⟩;rw[<-HG])
 go_region
 go_wp2_with fail
 refine bodyPost_ret (v:=zaD (Rat.divInt a b)) ?_ rfl ?_
 ·refine zaT rfl _ _ w.heap.size _ _ rfl ?_ ?_
  ·rw[<-E1.o];simp[go_sem];rw[<-HG];exact w1
  ·rw[<-E2.o];simp[go_sem];rw[<-HG];exact w2
 ·exact Ret.of rfl Bw
def zaL(r:Rat):Prop:=r.num.natAbs<=1000000000/\r.den<=1000000000
theorem zaQ{a b:Int}(ha:a.natAbs<=1000000000)(hb:b.natAbs<=1000000000): -1000000000000000000<=a*b/\a*b<=1000000000000000000:=by
 have h:(a*b).natAbs<=1000000000*1000000000:=by rw[Int.natAbs_mul];exact Nat.mul_le_mul ha hb
 omega
theorem add5I(a b c d:Int)(w:World)(ha:a.natAbs<=1000000000)(hb:b.natAbs<=1000000000)(hc:c.natAbs<=1000000000)(hd:d.natAbs<=1000000000)(aN:0<b)(fW:0<d):Calls Tryz.prog 85 #[.agg #[.int .i64 a,.int .i64 b],.agg #[.int .i64 c,.int .i64 d]] w (Ret w (zaD (Rat.divInt (a*d+c*b) (b*d)))):=by
 have m1:=zaQ ha hd;have m2:=zaQ hc hb;have m3:=zaQ hb hd;have m4:0<b*d:=Int.mul_pos aN fW;obtain⟨m1,n1⟩:=m1;obtain⟨m2,n2⟩:=m2;obtain⟨m3,n3⟩:=m3;have w1:IntKind.i64.wrap (a*d)=a*d:=IntWalk.i64_in _ (by omega);have w2:IntKind.i64.wrap (c*b)=c*b:=IntWalk.i64_in _ (by omega);have w3:IntKind.i64.wrap (b*d)=b*d:=IntWalk.i64_in _ (by omega);have hs:(a*d+c*b).natAbs<=4611686018427387904:=by omega
 have hl:b*d<=4611686018427387904:=by omega
 obtain⟨HS,HL,H4⟩:=yH3 hs hl m4;clear hs hl m4 ha hb hc hd;go_enter Tryz.func85,Tryz.ntmps85
 go_wp2_with (go_at_call 133;refine(zdR _ _ _ HS.o H4.o HL.o).mono ?_;rintro e w1 ⟨rfl,z1,rfl⟩;simp only[zaD])
 refine bodyPost_ret (v:=zaD (Rat.divInt (a*d+c*b) (b*d))) ?_ rfl ?_
 ·refine zaT rfl _ _ _ _ _ rfl ?_ ?_
  ·simp[go_sem]
  ·simp[go_sem]
 ·exact Ret.of rfl Bw
theorem zn6(p q:Rat)(w:World)(ck:zaL p)(dR:zaL q):Calls Tryz.prog 85 #[zaD p,zaD q] w (Ret w (zaD (p+q))):=by
 rw[zjx];exact add5I _ _ _ _ _ ck.1 (by have:=ck.2;omega) dR.1 (by have:=dR.2;omega) (zbS p) (zbS q)
theorem sub5I(a b c d:Int)(w:World)(ha:a.natAbs<=1000000000)(hb:b.natAbs<=1000000000)(hc:c.natAbs<=1000000000)(hd:d.natAbs<=1000000000)(aN:0<b)(fW:0<d):Calls Tryz.prog 90 #[.agg #[.int .i64 a,.int .i64 b],.agg #[.int .i64 c,.int .i64 d]] w (Ret w (zaD (Rat.divInt (a*d-c*b) (b*d)))):=by
 have m1:=zaQ ha hd;have m2:=zaQ hc hb;have m3:=zaQ hb hd;have m4:0<b*d:=Int.mul_pos aN fW;obtain⟨m1,n1⟩:=m1;obtain⟨m2,n2⟩:=m2;obtain⟨m3,n3⟩:=m3;have w1:IntKind.i64.wrap (a*d)=a*d:=IntWalk.i64_in _ (by omega);have w2:IntKind.i64.wrap (c*b)=c*b:=IntWalk.i64_in _ (by omega);have w3:IntKind.i64.wrap (b*d)=b*d:=IntWalk.i64_in _ (by omega);have hs:(a*d-c*b).natAbs<=4611686018427387904:=by omega
 have hl:b*d<=4611686018427387904:=by omega
 obtain⟨HS,HL,H4⟩:=yH3 hs hl m4;clear hs hl m4 ha hb hc hd;go_enter Tryz.func90,Tryz.ntmps90
 go_wp2_with (go_at_call 133;refine(zdR _ _ _ HS.o H4.o HL.o).mono ?_;rintro e w1 ⟨rfl,z1,rfl⟩;simp only[zaD])
 refine bodyPost_ret (v:=zaD (Rat.divInt (a*d-c*b) (b*d))) ?_ rfl ?_
 ·refine zaT rfl _ _ _ _ _ rfl ?_ ?_
  ·simp[go_sem]
  ·simp[go_sem]
 ·exact Ret.of rfl Bw
theorem zhE(p q:Rat)(w:World)(ck:zaL p)(dR:zaL q):Calls Tryz.prog 90 #[zaD p,zaD q] w (Ret w (zaD (p-q))):=by
 rw[zjy];exact sub5I _ _ _ _ _ ck.1 (by have:=ck.2;omega) dR.1 (by have:=dR.2;omega) (zbS p) (zbS q)
theorem zdS(a b:Int)(w:World):Calls Tryz.prog 82 #[.agg #[.int .i64 a,.int .i64 b]] w (Ret w (.bool (zaA 16 a b))):=by
 go_enter Tryz.func82,Tryz.ntmps82
 by_cases h1:inR b 1 16=true
 ·by_cases h2:inR a 0 b=true
  ·have x1:1<=b/\b<=16:=by simpa[inR]using h1
   have x2:0<=a/\a<=b:=by simpa[inR]using h2
   have g1:a.natAbs<=4611686018427387904:=by omega
   have g2:b.natAbs<=4611686018427387904:=by omega
   obtain⟨G1,G2⟩:=yH2 g1 g2;have hv:zaA 16 a b=((Int.gcd a b:Int)==1):=by
    unfold zaA;simp only[x1.1,x1.2,x2.1,x2.2,decide_true,Bool.true_and];rw[Bool.eq_iff_iff,beq_iff_eq,beq_iff_eq];omega
   have HV:=zHi hv;clear g1 g2 hv x1 x2
   go_wp2_with (first
    |(go_at_call 45;refine(zbq _ _ _ _).mono ?_;rintro e wq ⟨rfl,rfl⟩)
    |(go_at_call 132;refine(zn4 _ _ _ G1.o G2.o).mono ?_;rintro e w1 ⟨rfl,z1,rfl⟩))
   all_goals go_ret
   all_goals exact Ret.of (zaR (by rw[HV.o])) Bw
  ·have hv:zaA 16 a b=false:=by
    unfold zaA;simp[inR]at h1 h2⊢;omega
   go_wp2_with (go_at_call 45;refine(zbq _ _ _ _).mono ?_;rintro e wq ⟨rfl,rfl⟩)
   all_goals go_ret
   all_goals exact Ret.of (zaR (by rw[hv])) Bw
 ·have hv:zaA 16 a b=false:=by
   unfold zaA;simp[inR]at h1⊢;omega
  go_wp2_with (go_at_call 45;refine(zbq _ _ _ _).mono ?_;rintro e wq ⟨rfl,rfl⟩)
  all_goals go_ret
  all_goals exact Ret.of (zaR (by rw[hv])) Bw
def ze2(w:World)(C:Nat)(r:Rat)(e:Ending)(w':World):Prop:=(r.den<=1000000000/\Ret w (zaD r) e w')\/(1000000000<r.den/\Ret (w.setCell ⟨C,0,none⟩ (.bool true)) (zaD 0) e w')
theorem zib(C:Nat)(r:Rat)(f:Bool)(w:World)(hc:w.cell? ⟨C,0,none⟩=some (.bool f))(hC:C<w.heap.size)(hf:w.frozen? ⟨C,0,none⟩=false):Calls Tryz.prog 138 #[.pointer (some ⟨C,0,none⟩),zaD r] w (ze2 w C r):=by
 by_cases hd:r.den<=1000000000
 ·have dM:decide ((r.den:Int)>1000000000)=false:=by simp;omega
  unfold zaD;go_enter Tryz.func138,Tryz.ntmps138
  go_wp2_with fail
  refine bodyPost_ret (v:=zaD r) ?_ rfl ?_
  ·refine zaT rfl _ _ _ _ _ rfl ?_ ?_
   ·simp[go_sem]
   ·simp[go_sem]
  ·exact .inl ⟨hd,Ret.of rfl Bw⟩
 ·have dM:decide ((r.den:Int)>1000000000)=true:=by simp;omega
  unfold zaD;go_enter Tryz.func138,Tryz.ntmps138
  go_wp2_with fail
  refine bodyPost_ret (v:=zaD 0) ?_ rfl ?_
  ·refine zaT rfl _ _ _ _ _ rfl ?_ ?_
   ·simp[go_sem,hC]
   ·simp[go_sem,hC]
  ·refine .inr ⟨by omega,Ret.of rfl ?_⟩;exact Bw
theorem cmulI(C:Nat)(f:Bool)(w:World)(hc:w.cell? ⟨C,0,none⟩=some (.bool f))(hC:C<w.heap.size)(hf:w.frozen? ⟨C,0,none⟩=false)(a b c d:Int)(ha:a.natAbs<=1000000000)(hb:b.natAbs<=1000000000)(d8:c.natAbs<=1000000000)(hd:d.natAbs<=1000000000)(aN:0<b)(fW:0<d):Calls Tryz.prog 91 #[.pointer (some ⟨C,0,none⟩),.agg #[.int .i64 a,.int .i64 b],.agg #[.int .i64 c,.int .i64 d]] w (ze2 w C (Rat.divInt (a*c) (b*d))):=by
 obtain⟨m1,n1⟩:=zaQ ha d8;obtain⟨m3,n3⟩:=zaQ hb hd;have m4:0<b*d:=Int.mul_pos aN fW;have w1:IntKind.i64.wrap (a*c)=a*c:=IntWalk.i64_in _ (by omega);have w3:IntKind.i64.wrap (b*d)=b*d:=IntWalk.i64_in _ (by omega);have hs:(a*c).natAbs<=4611686018427387904:=by omega
 have hl:b*d<=4611686018427387904:=by omega
 obtain⟨HS,HL,H4⟩:=yH3 hs hl m4;clear hs hl m4 ha hb d8 hd;go_enter Tryz.func91,Tryz.ntmps91
 go_wp2_with (first
  |(go_at_call 133;refine(zdR _ _ _ HS.o H4.o HL.o).mono ?_;rintro e w1 ⟨rfl,z1,rfl⟩)
  |(go_at_call 138
    refine(zib C _ f _ ?s1 ?s2 ?s3).mono ?_
    case s1=>simp[go_sem,hC,hc]
    case s2=>simp[zae];omega
    case s3=>simp[go_sem,hC,hf]
    intro e wq hq
    rcases hq with⟨hd,rfl,zq,rfl⟩|⟨hd,rfl,zq,rfl⟩<;>simp only[zaD]))
 ·refine bodyPost_ret (v:=zaD (Rat.divInt (a*c) (b*d))) ?_ rfl ?_
  ·refine zaT rfl _ _ _ _ _ rfl ?_ ?_
   ·simp[go_sem,hC]
   ·simp[go_sem,hC]
  ·refine .inl ⟨hd,Ret.of rfl ?_⟩;exact Bw
 ·refine bodyPost_ret (v:=zaD 0) ?_ rfl ?_
  ·refine zaT rfl _ _ _ _ _ rfl ?_ ?_
   ·simp[go_sem,hC]
   ·simp[go_sem,hC]
  ·refine .inr ⟨hd,Ret.of rfl ?_⟩;exact Bw
theorem cmul5_any(C:Nat)(f:Bool)(w:World)(hc:w.cell? ⟨C,0,none⟩=some (.bool f))(hC:C<w.heap.size)(hf:w.frozen? ⟨C,0,none⟩=false)(p q:Rat)(hp:zaL p)(hq:zaL q):Calls Tryz.prog 91 #[.pointer (some ⟨C,0,none⟩),zaD p,zaD q] w (ze2 w C (p*q)):=by
 rw[zgX];exact cmulI C f w hc hC hf _ _ _ _ hp.1 (by have:=hp.2;omega) hq.1 (by have:=hq.2;omega) (zbS p) (zbS q)
theorem cquoI(C:Nat)(f:Bool)(w:World)(hc:w.cell? ⟨C,0,none⟩=some (.bool f))(hC:C<w.heap.size)(hf:w.frozen? ⟨C,0,none⟩=false)(a b c d:Int)(ha:a.natAbs<=1000000000)(hb:b.natAbs<=1000000000)(d8:c.natAbs<=1000000000)(hd:d.natAbs<=1000000000)(aN:0<b)(fW:0<c):Calls Tryz.prog 93 #[.pointer (some ⟨C,0,none⟩),.agg #[.int .i64 a,.int .i64 b],.agg #[.int .i64 c,.int .i64 d]] w (ze2 w C (Rat.divInt (a*d) (b*c))):=by
 obtain⟨m1,n1⟩:=zaQ ha hd;obtain⟨m3,n3⟩:=zaQ hb d8;have m4:0<b*c:=Int.mul_pos aN fW;have w1:IntKind.i64.wrap (a*d)=a*d:=IntWalk.i64_in _ (by omega);have w3:IntKind.i64.wrap (b*c)=b*c:=IntWalk.i64_in _ (by omega);have hs:(a*d).natAbs<=4611686018427387904:=by omega
 have hl:b*c<=4611686018427387904:=by omega
 obtain⟨HS,HL,H4⟩:=yH3 hs hl m4;clear hs hl m4 ha hb d8 hd;go_enter Tryz.func93,Tryz.ntmps93
 go_wp2_with (first
  |(go_at_call 133;refine(zdR _ _ _ HS.o H4.o HL.o).mono ?_;rintro e w1 ⟨rfl,z1,rfl⟩)
  |(go_at_call 138
    refine(zib C _ f _ ?s1 ?s2 ?s3).mono ?_
    case s1=>simp[go_sem,hC,hc]
    case s2=>simp[zae];omega
    case s3=>simp[go_sem,hC,hf]
    intro e wq hq
    rcases hq with⟨hd,rfl,zq,rfl⟩|⟨hd,rfl,zq,rfl⟩<;>simp only[zaD]))
 ·refine bodyPost_ret (v:=zaD (Rat.divInt (a*d) (b*c))) ?_ rfl ?_
  ·refine zaT rfl _ _ _ _ _ rfl ?_ ?_
   ·simp[go_sem,hC]
   ·simp[go_sem,hC]
  ·refine .inl ⟨hd,Ret.of rfl ?_⟩;exact Bw
 ·refine bodyPost_ret (v:=zaD 0) ?_ rfl ?_
  ·refine zaT rfl _ _ _ _ _ rfl ?_ ?_
   ·simp[go_sem,hC]
   ·simp[go_sem,hC]
  ·refine .inr ⟨hd,Ret.of rfl ?_⟩;exact Bw
theorem cquo5_any(C:Nat)(f:Bool)(w:World)(hc:w.cell? ⟨C,0,none⟩=some (.bool f))(hC:C<w.heap.size)(hf:w.frozen? ⟨C,0,none⟩=false)(p q:Rat)(hp:zaL p)(hq:zaL q)(h0:0<q):Calls Tryz.prog 93 #[.pointer (some ⟨C,0,none⟩),zaD p,zaD q] w (ze2 w C (p/q)):=by
 have Ev:0<q.num:=by have:=(Rat.lt_iff 0 q).1 h0;simpa using this
 rw[zjz p q h0];exact cquoI C f w hc hC hf _ _ _ _ hp.1 (by have:=hp.2;omega) hq.1 (by have:=hq.2;omega) (zbS p) Ev
theorem cadd5_any(C:Nat)(f:Bool)(w:World)(hc:w.cell? ⟨C,0,none⟩=some (.bool f))(hC:C<w.heap.size)(hf:w.frozen? ⟨C,0,none⟩=false)(p q:Rat)(hp:zaL p)(hq:zaL q):Calls Tryz.prog 92 #[.pointer (some ⟨C,0,none⟩),zaD p,zaD q] w (ze2 w C (p+q)):=by
 have HA:=fun W=>zn6 p q W hp hq
 clear hp hq;unfold zaD at*;go_enter Tryz.func92,Tryz.ntmps92
 go_wp2_with (first
  |(go_at_call 85;refine(HA _).mono ?_;rintro e w1 ⟨rfl,z1,rfl⟩)
  |(go_at_call 138
    refine(zib C _ f _ ?s1 ?s2 ?s3).mono ?_
    case s1=>simp[go_sem,hC,hc]
    case s2=>simp[zae];omega
    case s3=>simp[go_sem,hC,hf]
    intro e wq hq
    rcases hq with⟨hd,rfl,zq,rfl⟩|⟨hd,rfl,zq,rfl⟩<;>simp only[zaD]))
 ·refine bodyPost_ret (v:=zaD (p+q)) ?_ rfl ?_
  ·refine zaT rfl _ _ _ _ _ rfl ?_ ?_
   ·simp[go_sem,hC]
   ·simp[go_sem,hC]
  ·refine .inl ⟨hd,Ret.of rfl ?_⟩;exact Bw
 ·refine bodyPost_ret (v:=zaD 0) ?_ rfl ?_
  ·refine zaT rfl _ _ _ _ _ rfl ?_ ?_
   ·simp[go_sem,hC]
   ·simp[go_sem,hC]
  ·refine .inr ⟨hd,Ret.of rfl ?_⟩;exact Bw
