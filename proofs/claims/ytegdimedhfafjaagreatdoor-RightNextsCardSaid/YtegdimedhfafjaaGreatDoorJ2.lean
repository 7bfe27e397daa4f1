import Derived.Test.YtegdimedhfafjaaGreatDoorJ0
import Derived.Deep.RegionLaw
set_option linter.all false
set_option maxRecDepth 100000
set_option maxHeartbeats 4000000
namespace Go.Proofs.YtegdimedhfafjaaGreatDoor
open Go.RowKit
attribute [local go_sem] World.cell?_alloc_mark zaf za5 zao za8 zav zaw zax zay zaz za0 za1
attribute [local go_sem] zaq zad
theorem zdD{fn:Func}{p:Tmp}{ty:TypeId}(h:fn.results= #[.cell p ty])(tmps:Array Value)(P:Program)(w:World):
 (results fn tmps).run P w=((asAddr (tmps.getD p undef)).run P w).andThen fun a w₁=>(loadVar ty a).run P w₁:=by
 simp only[results,h];simp[Sem.run_bind]
theorem zaZ{fn:Func}{p:Tmp}(h:fn.results= #[.cell p 56])(tmps:Array Value)(w:World)(B:Nat)(x y:Int)(hp:tmps.getD p undef=.pointer (some ⟨B,0,none⟩))
 (h0:w.cell? ⟨B,0,none⟩=some (.int .i64 x))(h1:w.cell? ⟨B,1,none⟩=some (.int .i64 y)):(results fn tmps).run Tryz.prog w=.ok (.agg #[.int .i64 x,.int .i64 y]) w:=by
 rw[zdD h,hp];go_simp
def zaC(r:Rat):Value:=.agg #[.int .i64 r.num,.int .i64 r.den]
theorem zn8{a b:Int}(h:0<b):0<Int.gcd a b:=Nat.pos_of_ne_zero (fun e=>by have:=(Int.gcd_eq_zero_iff.1 e).2;omega)
theorem zdL(a b:Int)(w:World)(ha:a.natAbs<=4611686018427387904)(b8:0<b)(hb:b<=4611686018427387904):Calls Tryz.prog 120 #[.int .i64 a,.int .i64 b] w (Ret w (zaC (Rat.divInt a b))):=by
 have hg:=zn8 (a:=a) b8;obtain⟨g,HG⟩:∃g:Int,g=(Int.gcd a b:Int):=⟨_,rfl⟩
 have oH:0<g:=by omega
 have sz:(g==0)=false:=by simp;omega
 have e1:a.tdiv g=(Rat.divInt a b).num:=by rw[zfw b8,HG,zej (Int.gcd_dvd_left ..)]
 have e2:b.tdiv g=((Rat.divInt a b).den:Int):=by rw[zei b8,HG,zej (Int.gcd_dvd_right ..)]
 have n1:(a.tdiv g).natAbs<=4611686018427387904:=Nat.le_trans (Int.natAbs_tdiv_le_natAbs _ _) ha;have n2:(b.tdiv g).natAbs<=4611686018427387904:=Nat.le_trans (Int.natAbs_tdiv_le_natAbs _ _) (by omega);have w1:wrap64 (a.tdiv g)=a.tdiv g:=by unfold wrap64;omega
 have w2:wrap64 (b.tdiv g)=b.tdiv g:=by unfold wrap64;omega
 have HA:=zHi ha;have hJ:b.natAbs<=4611686018427387904:=by omega
 obtain⟨HB,E1,E2⟩:=yH3 hJ e1 e2;clear ha hb b8 hg e1 e2 n1 n2 hJ;go_enter Tryz.func120,Tryz.ntmps120
 go_wp2_with (go_at_call 115;refine(zkf _ _ _ HA.o HB.o).mono ?_;rintro e w1 ⟨rfl,z1,rfl⟩;rw[<-HG])
 go_region
 go_wp2_with fail
 refine bodyPost_ret (v:=zaC (Rat.divInt a b)) ?_ rfl ?_
 ·refine zaZ rfl _ _ w.heap.size _ _ rfl ?_ ?_
  ·rw[<-E1.o];simp[go_sem];rw[<-HG];exact w1
  ·rw[<-E2.o];simp[go_sem];rw[<-HG];exact w2
 ·exact Ret.of rfl Bw
def zaJ(r:Rat):Prop:=r.num.natAbs<=1000000000/\r.den<=1000000000
theorem zaN{a b:Int}(ha:a.natAbs<=1000000000)(hb:b.natAbs<=1000000000): -1000000000000000000<=a*b/\a*b<=1000000000000000000:=by
 have h:(a*b).natAbs<=1000000000*1000000000:=by rw[Int.natAbs_mul];exact Nat.mul_le_mul ha hb
 omega
theorem add5I(a b c d:Int)(w:World)(ha:a.natAbs<=1000000000)(hb:b.natAbs<=1000000000)(hc:c.natAbs<=1000000000)(hd:d.natAbs<=1000000000)(b8:0<b)(iv:0<d):Calls Tryz.prog 83 #[.agg #[.int .i64 a,.int .i64 b],.agg #[.int .i64 c,.int .i64 d]] w (Ret w (zaC (Rat.divInt (a*d+c*b) (b*d)))):=by
 have m1:=zaN ha hd;have m2:=zaN hc hb;have m3:=zaN hb hd;have m4:0<b*d:=Int.mul_pos b8 iv;obtain⟨m1,n1⟩:=m1;obtain⟨m2,n2⟩:=m2;obtain⟨m3,n3⟩:=m3;have w1:IntKind.i64.wrap (a*d)=a*d:=IntWalk.i64_in _ (by omega);have w2:IntKind.i64.wrap (c*b)=c*b:=IntWalk.i64_in _ (by omega);have w3:IntKind.i64.wrap (b*d)=b*d:=IntWalk.i64_in _ (by omega);have hs:(a*d+c*b).natAbs<=4611686018427387904:=by omega
 have hl:b*d<=4611686018427387904:=by omega
 obtain⟨HS,HL,H4⟩:=yH3 hs hl m4;clear hs hl m4 ha hb hc hd;go_enter Tryz.func83,Tryz.ntmps83
 go_wp2_with (go_at_call 120;refine(zdL _ _ _ HS.o H4.o HL.o).mono ?_;rintro e w1 ⟨rfl,z1,rfl⟩;simp only[zaC])
 refine bodyPost_ret (v:=zaC (Rat.divInt (a*d+c*b) (b*d))) ?_ rfl ?_
 ·refine zaZ rfl _ _ _ _ _ rfl ?_ ?_
  ·simp[go_sem]
  ·simp[go_sem]
 ·exact Ret.of rfl Bw
theorem zn9(p q:Rat)(w:World)(cj:zaJ p)(dP:zaJ q):Calls Tryz.prog 83 #[zaC p,zaC q] w (Ret w (zaC (p+q))):=by
 rw[zjt];exact add5I _ _ _ _ _ cj.1 (by have:=cj.2;omega) dP.1 (by have:=dP.2;omega) (zbW p) (zbW q)
theorem sub5I(a b c d:Int)(w:World)(ha:a.natAbs<=1000000000)(hb:b.natAbs<=1000000000)(hc:c.natAbs<=1000000000)(hd:d.natAbs<=1000000000)(b8:0<b)(iv:0<d):Calls Tryz.prog 88 #[.agg #[.int .i64 a,.int .i64 b],.agg #[.int .i64 c,.int .i64 d]] w (Ret w (zaC (Rat.divInt (a*d-c*b) (b*d)))):=by
 have m1:=zaN ha hd;have m2:=zaN hc hb;have m3:=zaN hb hd;have m4:0<b*d:=Int.mul_pos b8 iv;obtain⟨m1,n1⟩:=m1;obtain⟨m2,n2⟩:=m2;obtain⟨m3,n3⟩:=m3;have w1:IntKind.i64.wrap (a*d)=a*d:=IntWalk.i64_in _ (by omega);have w2:IntKind.i64.wrap (c*b)=c*b:=IntWalk.i64_in _ (by omega);have w3:IntKind.i64.wrap (b*d)=b*d:=IntWalk.i64_in _ (by omega);have hs:(a*d-c*b).natAbs<=4611686018427387904:=by omega
 have hl:b*d<=4611686018427387904:=by omega
 obtain⟨HS,HL,H4⟩:=yH3 hs hl m4;clear hs hl m4 ha hb hc hd;go_enter Tryz.func88,Tryz.ntmps88
 go_wp2_with (go_at_call 120;refine(zdL _ _ _ HS.o H4.o HL.o).mono ?_;rintro e w1 ⟨rfl,z1,rfl⟩;simp only[zaC])
 refine bodyPost_ret (v:=zaC (Rat.divInt (a*d-c*b) (b*d))) ?_ rfl ?_
 ·refine zaZ rfl _ _ _ _ _ rfl ?_ ?_
  ·simp[go_sem]
  ·simp[go_sem]
 ·exact Ret.of rfl Bw
theorem zh8(p q:Rat)(w:World)(cj:zaJ p)(dP:zaJ q):Calls Tryz.prog 88 #[zaC p,zaC q] w (Ret w (zaC (p-q))):=by
 rw[zju];exact sub5I _ _ _ _ _ cj.1 (by have:=cj.2;omega) dP.1 (by have:=dP.2;omega) (zbW p) (zbW q)
theorem zdM(a b:Int)(w:World):Calls Tryz.prog 80 #[.agg #[.int .i64 a,.int .i64 b]] w (Ret w (.bool (za9 16 a b))):=by
 go_enter Tryz.func80,Tryz.ntmps80
 by_cases h1:inR b 1 16=true
 ·by_cases h2:inR a 0 b=true
  ·have x1:1<=b/\b<=16:=by simpa[inR]using h1
   have x2:0<=a/\a<=b:=by simpa[inR]using h2
   have g1:a.natAbs<=4611686018427387904:=by omega
   have g2:b.natAbs<=4611686018427387904:=by omega
   obtain⟨G1,G2⟩:=yH2 g1 g2;have hv:za9 16 a b=((Int.gcd a b:Int)==1):=by
    unfold za9;simp only[x1.1,x1.2,x2.1,x2.2,decide_true,Bool.true_and];rw[Bool.eq_iff_iff,beq_iff_eq,beq_iff_eq];omega
   have HV:=zHi hv;clear g1 g2 hv x1 x2
   go_wp2_with (first
    |(go_at_call 45;refine(zbi _ _ _ _).mono ?_;rintro e wq ⟨rfl,rfl⟩)
    |(go_at_call 115;refine(zkf _ _ _ G1.o G2.o).mono ?_;rintro e w1 ⟨rfl,z1,rfl⟩))
   all_goals go_ret
   all_goals exact Ret.of (zaO (by rw[HV.o])) Bw
  ·have hv:za9 16 a b=false:=by
    unfold za9;simp[inR]at h1 h2⊢;omega
   go_wp2_with (go_at_call 45;refine(zbi _ _ _ _).mono ?_;rintro e wq ⟨rfl,rfl⟩)
   all_goals go_ret
   all_goals exact Ret.of (zaO (by rw[hv])) Bw
 ·have hv:za9 16 a b=false:=by
   unfold za9;simp[inR]at h1⊢;omega
  go_wp2_with (go_at_call 45;refine(zbi _ _ _ _).mono ?_;rintro e wq ⟨rfl,rfl⟩)
  all_goals go_ret
  all_goals exact Ret.of (zaO (by rw[hv])) Bw
def ze3(w:World)(C:Nat)(r:Rat)(e:Ending)(w':World):Prop:=(r.den<=1000000000/\Ret w (zaC r) e w')\/(1000000000<r.den/\Ret (w.setCell ⟨C,0,none⟩ (.bool true)) (zaC 0) e w')
theorem zhZ(C:Nat)(r:Rat)(f:Bool)(w:World)(hc:w.cell? ⟨C,0,none⟩=some (.bool f))(hC:C<w.heap.size)(hf:w.frozen? ⟨C,0,none⟩=false):Calls Tryz.prog 126 #[.pointer (some ⟨C,0,none⟩),zaC r] w (ze3 w C r):=by
 by_cases hd:r.den<=1000000000
 ·have dV:decide ((r.den:Int)>1000000000)=false:=by simp;omega
  unfold zaC;go_enter Tryz.func126,Tryz.ntmps126
  go_wp2_with fail
  refine bodyPost_ret (v:=zaC r) ?_ rfl ?_
  ·refine zaZ rfl _ _ _ _ _ rfl ?_ ?_
   ·simp[go_sem]
   ·simp[go_sem]
  ·exact .inl ⟨hd,Ret.of rfl Bw⟩
 ·have dV:decide ((r.den:Int)>1000000000)=true:=by simp;omega
  unfold zaC;go_enter Tryz.func126,Tryz.ntmps126
  go_wp2_with fail
  refine bodyPost_ret (v:=zaC 0) ?_ rfl ?_
  ·refine zaZ rfl _ _ _ _ _ rfl ?_ ?_
   ·simp[go_sem,hC]
   ·simp[go_sem,hC]
  ·refine .inr ⟨by omega,Ret.of rfl ?_⟩;exact Bw
theorem cmulI(C:Nat)(f:Bool)(w:World)(hc:w.cell? ⟨C,0,none⟩=some (.bool f))(hC:C<w.heap.size)(hf:w.frozen? ⟨C,0,none⟩=false)(a b c d:Int)(ha:a.natAbs<=1000000000)(hb:b.natAbs<=1000000000)(cd:c.natAbs<=1000000000)(hd:d.natAbs<=1000000000)(b8:0<b)(iv:0<d):Calls Tryz.prog 89 #[.pointer (some ⟨C,0,none⟩),.agg #[.int .i64 a,.int .i64 b],.agg #[.int .i64 c,.int .i64 d]] w (ze3 w C (Rat.divInt (a*c) (b*d))):=by
 obtain⟨m1,n1⟩:=zaN ha cd;obtain⟨m3,n3⟩:=zaN hb hd;have m4:0<b*d:=Int.mul_pos b8 iv;have w1:IntKind.i64.wrap (a*c)=a*c:=IntWalk.i64_in _ (by omega);have w3:IntKind.i64.wrap (b*d)=b*d:=IntWalk.i64_in _ (by omega);have hs:(a*c).natAbs<=4611686018427387904:=by omega
 have hl:b*d<=4611686018427387904:=by omega
 obtain⟨HS,HL,H4⟩:=yH3 hs hl m4;clear hs hl m4 ha hb cd hd;go_enter Tryz.func89,Tryz.ntmps89
 go_wp2_with (first
  |(go_at_call 120;refine(zdL _ _ _ HS.o H4.o HL.o).mono ?_;rintro e w1 ⟨rfl,z1,rfl⟩)
  |(go_at_call 126
    refine(zhZ C _ f _ ?s1 ?s2 ?s3).mono ?_
    case s1=>simp[go_sem,hC,hc]
    case s2=>simp[zaf];omega
    case s3=>simp[go_sem,hC,hf]
    intro e wq hq
    rcases hq with⟨hd,rfl,zq,rfl⟩|⟨hd,rfl,zq,rfl⟩<;>simp only[zaC]))
 ·refine bodyPost_ret (v:=zaC (Rat.divInt (a*c) (b*d))) ?_ rfl ?_
  ·refine zaZ rfl _ _ _ _ _ rfl ?_ ?_
   ·simp[go_sem,hC]
   ·simp[go_sem,hC]
  ·refine .inl ⟨hd,Ret.of rfl ?_⟩;exact Bw
 ·refine bodyPost_ret (v:=zaC 0) ?_ rfl ?_
  ·refine zaZ rfl _ _ _ _ _ rfl ?_ ?_
   ·simp[go_sem,hC]
   ·simp[go_sem,hC]
  ·refine .inr ⟨hd,Ret.of rfl ?_⟩;exact Bw
theorem cmul5_any(C:Nat)(f:Bool)(w:World)(hc:w.cell? ⟨C,0,none⟩=some (.bool f))(hC:C<w.heap.size)(hf:w.frozen? ⟨C,0,none⟩=false)(p q:Rat)(hp:zaJ p)(hq:zaJ q):Calls Tryz.prog 89 #[.pointer (some ⟨C,0,none⟩),zaC p,zaC q] w (ze3 w C (p*q)):=by
 rw[zgQ];exact cmulI C f w hc hC hf _ _ _ _ hp.1 (by have:=hp.2;omega) hq.1 (by have:=hq.2;omega) (zbW p) (zbW q)
theorem cquoI(C:Nat)(f:Bool)(w:World)(hc:w.cell? ⟨C,0,none⟩=some (.bool f))(hC:C<w.heap.size)(hf:w.frozen? ⟨C,0,none⟩=false)(a b c d:Int)(ha:a.natAbs<=1000000000)(hb:b.natAbs<=1000000000)(cd:c.natAbs<=1000000000)(hd:d.natAbs<=1000000000)(b8:0<b)(iv:0<c):Calls Tryz.prog 91 #[.pointer (some ⟨C,0,none⟩),.agg #[.int .i64 a,.int .i64 b],.agg #[.int .i64 c,.int .i64 d]] w (ze3 w C (Rat.divInt (a*d) (b*c))):=by
 obtain⟨m1,n1⟩:=zaN ha hd;obtain⟨m3,n3⟩:=zaN hb cd;have m4:0<b*c:=Int.mul_pos b8 iv;have w1:IntKind.i64.wrap (a*d)=a*d:=IntWalk.i64_in _ (by omega);have w3:IntKind.i64.wrap (b*c)=b*c:=IntWalk.i64_in _ (by omega);have hs:(a*d).natAbs<=4611686018427387904:=by omega
 have hl:b*c<=4611686018427387904:=by omega
 obtain⟨HS,HL,H4⟩:=yH3 hs hl m4;clear hs hl m4 ha hb cd hd;go_enter Tryz.func91,Tryz.ntmps91
 go_wp2_with (first
  |(go_at_call 120;refine(zdL _ _ _ HS.o H4.o HL.o).mono ?_;rintro e w1 ⟨rfl,z1,rfl⟩)
  |(go_at_call 126
    refine(zhZ C _ f _ ?s1 ?s2 ?s3).mono ?_
    case s1=>simp[go_sem,hC,hc]
    case s2=>simp[zaf];omega
    case s3=>simp[go_sem,hC,hf]
    intro e wq hq
    rcases hq with⟨hd,rfl,zq,rfl⟩|⟨hd,rfl,zq,rfl⟩<;>simp only[zaC]))
 ·refine bodyPost_ret (v:=zaC (Rat.divInt (a*d) (b*c))) ?_ rfl ?_
  ·refine zaZ rfl _ _ _ _ _ rfl ?_ ?_
   ·simp[go_sem,hC]
   ·simp[go_sem,hC]
  ·refine .inl ⟨hd,Ret.of rfl ?_⟩;exact Bw
 ·refine bodyPost_ret (v:=zaC 0) ?_ rfl ?_
  ·refine zaZ rfl _ _ _ _ _ rfl ?_ ?_
   ·simp[go_sem,hC]
   ·simp[go_sem,hC]
  ·refine .inr ⟨hd,Ret.of rfl ?_⟩;exact Bw
theorem cquo5_any(C:Nat)(f:Bool)(w:World)(hc:w.cell? ⟨C,0,none⟩=some (.bool f))(hC:C<w.heap.size)(hf:w.frozen? ⟨C,0,none⟩=false)(p q:Rat)(hp:zaJ p)(hq:zaJ q)(h0:0<q):Calls Tryz.prog 91 #[.pointer (some ⟨C,0,none⟩),zaC p,zaC q] w (ze3 w C (p/q)):=by
 have DS:0<q.num:=by have:=(Rat.lt_iff 0 q).1 h0;simpa using this
 rw[zjv p q h0];exact cquoI C f w hc hC hf _ _ _ _ hp.1 (by have:=hp.2;omega) hq.1 (by have:=hq.2;omega) (zbW p) DS
theorem cadd5_any(C:Nat)(f:Bool)(w:World)(hc:w.cell? ⟨C,0,none⟩=some (.bool f))(hC:C<w.heap.size)(hf:w.frozen? ⟨C,0,none⟩=false)(p q:Rat)(hp:zaJ p)(hq:zaJ q):Calls Tryz.prog 90 #[.pointer (some ⟨C,0,none⟩),zaC p,zaC q] w (ze3 w C (p+q)):=by
 have HA:=fun W=>zn9 p q W hp hq
 clear hp hq;unfold zaC at*;go_enter Tryz.func90,Tryz.ntmps90
 go_wp2_with (first
  |(go_at_call 83;refine(HA _).mono ?_;rintro e w1 ⟨rfl,z1,rfl⟩)
  |(go_at_call 126
    refine(zhZ C _ f _ ?s1 ?s2 ?s3).mono ?_
    case s1=>simp[go_sem,hC,hc]
    case s2=>simp[zaf];omega
    case s3=>simp[go_sem,hC,hf]
    intro e wq hq
    rcases hq with⟨hd,rfl,zq,rfl⟩|⟨hd,rfl,zq,rfl⟩<;>simp only[zaC]))
 ·refine bodyPost_ret (v:=zaC (p+q)) ?_ rfl ?_
  ·refine zaZ rfl _ _ _ _ _ rfl ?_ ?_
   ·simp[go_sem,hC]
   ·simp[go_sem,hC]
  ·refine .inl ⟨hd,Ret.of rfl ?_⟩;exact Bw
 ·refine bodyPost_ret (v:=zaC 0) ?_ rfl ?_
  ·refine zaZ rfl _ _ _ _ _ rfl ?_ ?_
   ·simp[go_sem,hC]
   ·simp[go_sem,hC]
  ·refine .inr ⟨hd,Ret.of rfl ?_⟩;exact Bw
