/- Walks of chapter 5's counter: seen, mul, quo, add: a denominator above 10^9 sets the counter's mark. -/
import Derived.Test.YtmaidggpbihlgaaGreatDoorJ0
import Derived.Deep.RegionLaw
set_option linter.unusedSimpArgs false
set_option linter.unusedVariables false
namespace Go.Proofs.YtmaidggpbihlgaaGreatDoor
open Go.RowKit
attribute [local go_sem] World.cell?_alloc_mark ext_size ext_cell ext_frozen lt_add_r lt_add_r2 lt_add_r3 lt_add_r4 lt_add_r5 lt_add_r6 lt_add_r7 lt_add_r8
attribute [local go_sem] ext_setCell alloc_setCell_lt
theorem results_c1 {fn:Func} {p:Tmp} {ty:TypeId} (h:fn.results= #[.cell p ty]) (tmps:Array Value) (P:Program) (w:World):
 (results fn tmps).run P w=((asAddr (tmps.getD p undef)).run P w).andThen fun a w₁=>(loadVar ty a).run P w₁:=by
 simp only[results,h]
 simp[Sem.run_bind]
theorem results_frac {fn:Func} {p:Tmp} (h:fn.results= #[.cell p 45]) (tmps:Array Value) (w:World) (B:Nat) (x y:Int) (hp:tmps.getD p undef= .pointer (some ⟨B,0,none⟩))
 (h0:w.cell? ⟨B,0,none⟩=some (.int .i64 x)) (h1:w.cell? ⟨B,1,none⟩=some (.int .i64 y)):(results fn tmps).run Tryz.prog w= .ok (.agg #[.int .i64 x, .int .i64 y]) w:=by
 rw[results_c1 h,hp]
 go_simp
def fracV (r:Rat):Value:= .agg #[.int .i64 r.num, .int .i64 r.den]
theorem gcd_pos5 {a b:Int} (h:0<b):0<Int.gcd a b:=Nat.pos_of_ne_zero (fun e=>by have:=(Int.gcd_eq_zero_iff.1 e).2;omega)
theorem gcd_le5 {a b:Int} (h:0<b):(Int.gcd a b:Int)<=b:=Int.le_of_dvd h (Int.gcd_dvd_right ..)
set_option maxRecDepth 100000 in
set_option maxHeartbeats 2000000 in
theorem lowest5_any (a b:Int) (w:World) (ha:a.natAbs<=4611686018427387904) (hb0:0<b) (hb:b<=4611686018427387904):Calls Tryz.prog 72 #[.int .i64 a, .int .i64 b] w (Ret w (fracV (Rat.divInt a b))):=by
 have hg:=gcd_pos5 (a:=a) hb0
 obtain⟨g,HG⟩: ∃g:Int,g=(Int.gcd a b:Int):=⟨_,rfl⟩
 have hg0:0<g:=by omega
 have hgz:(g==0)=false:=by simp;omega
 have e1:a.tdiv g=(Rat.divInt a b).num:=by rw[divInt_num hb0,HG,tdiv_exact (Int.gcd_dvd_left ..)]
 have e2:b.tdiv g=((Rat.divInt a b).den:Int):=by rw[divInt_den hb0,HG,tdiv_exact (Int.gcd_dvd_right ..)]
 have n1:(a.tdiv g).natAbs<=4611686018427387904:=Nat.le_trans (Int.natAbs_tdiv_le_natAbs _ _) ha
 have n2:(b.tdiv g).natAbs<=4611686018427387904:=Nat.le_trans (Int.natAbs_tdiv_le_natAbs _ _) (by omega)
 have w1:wrap64 (a.tdiv g)=a.tdiv g:=by unfold wrap64;omega
 have w2:wrap64 (b.tdiv g)=b.tdiv g:=by unfold wrap64;omega
 have HA:=Lib.hid ha
 have hbn:b.natAbs<=4611686018427387904:=by omega
 have HB:=Lib.hid hbn
 have E1:=Lib.hid e1
 have E2:=Lib.hid e2
 clear ha hb hb0 hg e1 e2 n1 n2 hbn
 go_enter Tryz.func72,Tryz.ntmps72
 go_wp2_with (go_at_call 121;refine(gcd5_any _ _ _ HA.out HB.out).mono ?_;rintro e w1 ⟨rfl,z1,rfl⟩;rw[<-HG])
 go_region
 go_wp2_with fail
 refine bodyPost_ret (v:=fracV (Rat.divInt a b)) ?_ rfl ?_
 ·refine results_frac rfl _ _ w.heap.size _ _ rfl ?_ ?_
  ·rw[<-E1.out];simp[go_sem];rw[<-HG];exact w1
  ·rw[<-E2.out];simp[go_sem];rw[<-HG];exact w2
 ·exact Ret.of rfl Bw
def small5 (r:Rat):Prop:=r.num.natAbs<=1000000000/\r.den<=1000000000
theorem mul_small {a b:Int} (ha:a.natAbs<=1000000000) (hb:b.natAbs<=1000000000): -1000000000000000000<=a*b/\a*b<=1000000000000000000:=by
 have h:(a*b).natAbs<=1000000000*1000000000:=by rw[Int.natAbs_mul];exact Nat.mul_le_mul ha hb
 omega
set_option maxRecDepth 100000 in
set_option maxHeartbeats 2000000 in
theorem add5I (a b c d:Int) (w:World) (ha:a.natAbs<=1000000000) (hb:b.natAbs<=1000000000) (hc:c.natAbs<=1000000000) (hd:d.natAbs<=1000000000) (hb0:0<b) (hd0:0<d):Calls Tryz.prog 128 #[.agg #[.int .i64 a, .int .i64 b], .agg #[.int .i64 c, .int .i64 d]] w (Ret w (fracV (Rat.divInt (a*d+c*b) (b*d)))):=by
 have m1:=mul_small ha hd
 have m2:=mul_small hc hb
 have m3:=mul_small hb hd
 have m4:0<b*d:=Int.mul_pos hb0 hd0
 obtain⟨m1,n1⟩:=m1
 obtain⟨m2,n2⟩:=m2
 obtain⟨m3,n3⟩:=m3
 have w1:IntKind.i64.wrap (a*d)=a*d:=IntWalk.i64_in _ (by omega)
 have w2:IntKind.i64.wrap (c*b)=c*b:=IntWalk.i64_in _ (by omega)
 have w3:IntKind.i64.wrap (b*d)=b*d:=IntWalk.i64_in _ (by omega)
 have hs:(a*d+c*b).natAbs<=4611686018427387904:=by omega
 have hl:b*d<=4611686018427387904:=by omega
 have HS:=Lib.hid hs
 have HL:=Lib.hid hl
 have H4:=Lib.hid m4
 clear hs hl m4 ha hb hc hd
 go_enter Tryz.func128,Tryz.ntmps128
 go_wp2_with (go_at_call 72;refine(lowest5_any _ _ _ HS.out H4.out HL.out).mono ?_;rintro e w1 ⟨rfl,z1,rfl⟩;simp only[fracV])
 refine bodyPost_ret (v:=fracV (Rat.divInt (a*d+c*b) (b*d))) ?_ rfl ?_
 ·refine results_frac rfl _ _ _ _ _ rfl ?_ ?_
  ·simp[go_sem]
  ·simp[go_sem]
 ·exact Ret.of rfl Bw
theorem add5_any (p q:Rat) (w:World) (hsp:small5 p) (hsq:small5 q):Calls Tryz.prog 128 #[fracV p,fracV q] w (Ret w (fracV (p+q))):=by
 rw[add_divInt]
 exact add5I _ _ _ _ _ hsp.1 (by have:=hsp.2;omega) hsq.1 (by have:=hsq.2;omega) (den_pos' p) (den_pos' q)
set_option maxRecDepth 100000 in
set_option maxHeartbeats 2000000 in
theorem sub5I (a b c d:Int) (w:World) (ha:a.natAbs<=1000000000) (hb:b.natAbs<=1000000000) (hc:c.natAbs<=1000000000) (hd:d.natAbs<=1000000000) (hb0:0<b) (hd0:0<d):Calls Tryz.prog 69 #[.agg #[.int .i64 a, .int .i64 b], .agg #[.int .i64 c, .int .i64 d]] w (Ret w (fracV (Rat.divInt (a*d-c*b) (b*d)))):=by
 have m1:=mul_small ha hd
 have m2:=mul_small hc hb
 have m3:=mul_small hb hd
 have m4:0<b*d:=Int.mul_pos hb0 hd0
 obtain⟨m1,n1⟩:=m1
 obtain⟨m2,n2⟩:=m2
 obtain⟨m3,n3⟩:=m3
 have w1:IntKind.i64.wrap (a*d)=a*d:=IntWalk.i64_in _ (by omega)
 have w2:IntKind.i64.wrap (c*b)=c*b:=IntWalk.i64_in _ (by omega)
 have w3:IntKind.i64.wrap (b*d)=b*d:=IntWalk.i64_in _ (by omega)
 have hs:(a*d-c*b).natAbs<=4611686018427387904:=by omega
 have hl:b*d<=4611686018427387904:=by omega
 have HS:=Lib.hid hs
 have HL:=Lib.hid hl
 have H4:=Lib.hid m4
 clear hs hl m4 ha hb hc hd
 go_enter Tryz.func69,Tryz.ntmps69
 go_wp2_with (go_at_call 72;refine(lowest5_any _ _ _ HS.out H4.out HL.out).mono ?_;rintro e w1 ⟨rfl,z1,rfl⟩;simp only[fracV])
 refine bodyPost_ret (v:=fracV (Rat.divInt (a*d-c*b) (b*d))) ?_ rfl ?_
 ·refine results_frac rfl _ _ _ _ _ rfl ?_ ?_
  ·simp[go_sem]
  ·simp[go_sem]
 ·exact Ret.of rfl Bw
theorem sub5_any (p q:Rat) (w:World) (hsp:small5 p) (hsq:small5 q):Calls Tryz.prog 69 #[fracV p,fracV q] w (Ret w (fracV (p-q))):=by
 rw[sub_divInt]
 exact sub5I _ _ _ _ _ hsp.1 (by have:=hsp.2;omega) hsq.1 (by have:=hsq.2;omega) (den_pos' p) (den_pos' q)
set_option maxRecDepth 100000 in
set_option maxHeartbeats 2000000 in
theorem isFraction5_any (a b:Int) (w:World):Calls Tryz.prog 101 #[.agg #[.int .i64 a, .int .i64 b]] w (Ret w (.bool (isShareP 16 a b))):=by
 go_enter Tryz.func101,Tryz.ntmps101
 by_cases h1:inR b 1 16=true
 ·by_cases h2:inR a 0 b=true
  ·have x1:1<=b/\b<=16:=by simpa[inR]using h1
   have x2:0<=a/\a<=b:=by simpa[inR]using h2
   have g1:a.natAbs<=4611686018427387904:=by omega
   have g2:b.natAbs<=4611686018427387904:=by omega
   have G1:=Lib.hid g1
   have G2:=Lib.hid g2
   have hv:isShareP 16 a b=((Int.gcd a b:Int)==1):=by
    unfold isShareP
    simp only[x1.1,x1.2,x2.1,x2.2,decide_true,Bool.true_and]
    rw[Bool.eq_iff_iff,beq_iff_eq,beq_iff_eq]
    omega
   have HV:=Lib.hid hv
   clear g1 g2 hv x1 x2
   go_wp2_with (first
    |(go_at_call 77;refine(within5_any _ _ _ _).mono ?_;rintro e wq ⟨rfl,rfl⟩)
    |(go_at_call 121;refine(gcd5_any _ _ _ G1.out G2.out).mono ?_;rintro e w1 ⟨rfl,z1,rfl⟩))
   all_goals go_ret
   all_goals exact Ret.of (bool_eq (by rw[HV.out])) Bw
  ·have hv:isShareP 16 a b=false:=by
    unfold isShareP
    simp[inR]at h1 h2⊢
    omega
   go_wp2_with (go_at_call 77;refine(within5_any _ _ _ _).mono ?_;rintro e wq ⟨rfl,rfl⟩)
   all_goals go_ret
   all_goals exact Ret.of (bool_eq (by rw[hv])) Bw
 ·have hv:isShareP 16 a b=false:=by
   unfold isShareP
   simp[inR]at h1⊢
   omega
  go_wp2_with (go_at_call 77;refine(within5_any _ _ _ _).mono ?_;rintro e wq ⟨rfl,rfl⟩)
  all_goals go_ret
  all_goals exact Ret.of (bool_eq (by rw[hv])) Bw
end Go.Proofs.YtmaidggpbihlgaaGreatDoor
namespace Go.Proofs.YtmaidggpbihlgaaGreatDoor
open Go.RowKit
attribute [local go_sem] World.cell?_alloc_mark ext_size ext_cell ext_frozen lt_add_r lt_add_r2 lt_add_r3 lt_add_r4 lt_add_r5 lt_add_r6 lt_add_r7 lt_add_r8
attribute [local go_sem] ext_setCell alloc_setCell_lt
def SeenPost (w:World) (C:Nat) (r:Rat) (e:Ending) (w':World):Prop:=(r.den<=1000000000/\Ret w (fracV r) e w')\/(1000000000<r.den/\Ret (w.setCell ⟨C,0,none⟩ (.bool true)) (fracV 0) e w')
theorem frac0:fracV 0= .agg #[.int .i64 0, .int .i64 1]:=rfl
set_option maxRecDepth 100000 in
set_option maxHeartbeats 2000000 in
theorem seen5_any (C:Nat) (r:Rat) (f:Bool) (w:World) (hc:w.cell? ⟨C,0,none⟩=some (.bool f)) (hC:C<w.heap.size) (hf:w.frozen? ⟨C,0,none⟩=false):Calls Tryz.prog 154 #[.pointer (some ⟨C,0,none⟩),fracV r] w (SeenPost w C r):=by
 by_cases hd:r.den<=1000000000
 ·have hd2:decide ((r.den:Int)>1000000000)=false:=by simp;omega
  unfold fracV
  go_enter Tryz.func154,Tryz.ntmps154
  go_wp2_with fail
  refine bodyPost_ret (v:=fracV r) ?_ rfl ?_
  ·refine results_frac rfl _ _ _ _ _ rfl ?_ ?_
   ·simp[go_sem]
   ·simp[go_sem]
  ·exact .inl ⟨hd,Ret.of rfl Bw⟩
 ·have hd2:decide ((r.den:Int)>1000000000)=true:=by simp;omega
  unfold fracV
  go_enter Tryz.func154,Tryz.ntmps154
  go_wp2_with fail
  refine bodyPost_ret (v:=fracV 0) ?_ rfl ?_
  ·refine results_frac rfl _ _ _ _ _ rfl ?_ ?_
   ·simp[go_sem,hC]
   ·simp[go_sem,hC]
  ·refine .inr ⟨by omega,Ret.of rfl ?_⟩
   exact Bw
set_option maxRecDepth 100000 in
set_option maxHeartbeats 2000000 in
theorem cmulI (C:Nat) (f:Bool) (w:World) (hc:w.cell? ⟨C,0,none⟩=some (.bool f)) (hC:C<w.heap.size) (hf:w.frozen? ⟨C,0,none⟩=false) (a b c d:Int) (ha:a.natAbs<=1000000000) (hb:b.natAbs<=1000000000) (hc2:c.natAbs<=1000000000) (hd:d.natAbs<=1000000000) (hb0:0<b) (hd0:0<d):Calls Tryz.prog 122 #[.pointer (some ⟨C,0,none⟩), .agg #[.int .i64 a, .int .i64 b], .agg #[.int .i64 c, .int .i64 d]] w (SeenPost w C (Rat.divInt (a*c) (b*d))):=by
 obtain⟨m1,n1⟩:=mul_small ha hc2
 obtain⟨m3,n3⟩:=mul_small hb hd
 have m4:0<b*d:=Int.mul_pos hb0 hd0
 have w1:IntKind.i64.wrap (a*c)=a*c:=IntWalk.i64_in _ (by omega)
 have w3:IntKind.i64.wrap (b*d)=b*d:=IntWalk.i64_in _ (by omega)
 have hs:(a*c).natAbs<=4611686018427387904:=by omega
 have hl:b*d<=4611686018427387904:=by omega
 have HS:=Lib.hid hs
 have HL:=Lib.hid hl
 have H4:=Lib.hid m4
 clear hs hl m4 ha hb hc2 hd
 go_enter Tryz.func122,Tryz.ntmps122
 go_wp2_with (first
  |(go_at_call 72;refine(lowest5_any _ _ _ HS.out H4.out HL.out).mono ?_;rintro e w1 ⟨rfl,z1,rfl⟩)
  |(go_at_call 154
    refine(seen5_any C _ f _ ?s1 ?s2 ?s3).mono ?_
    case s1=>simp[go_sem,hC,hc]
    case s2=>simp[ext_size];omega
    case s3=>simp[go_sem,hC,hf]
    intro e wq hq
    rcases hq with⟨hd,rfl,zq,rfl⟩|⟨hd,rfl,zq,rfl⟩<;>simp only[fracV]))
 ·refine bodyPost_ret (v:=fracV (Rat.divInt (a*c) (b*d))) ?_ rfl ?_
  ·refine results_frac rfl _ _ _ _ _ rfl ?_ ?_
   ·simp[go_sem,hC]
   ·simp[go_sem,hC]
  ·refine .inl ⟨hd,Ret.of rfl ?_⟩
   exact Bw
 ·refine bodyPost_ret (v:=fracV 0) ?_ rfl ?_
  ·refine results_frac rfl _ _ _ _ _ rfl ?_ ?_
   ·simp[go_sem,hC]
   ·simp[go_sem,hC]
  ·refine .inr ⟨hd,Ret.of rfl ?_⟩
   exact Bw
theorem cmul5_any (C:Nat) (f:Bool) (w:World) (hc:w.cell? ⟨C,0,none⟩=some (.bool f)) (hC:C<w.heap.size) (hf:w.frozen? ⟨C,0,none⟩=false) (p q:Rat) (hp:small5 p) (hq:small5 q):Calls Tryz.prog 122 #[.pointer (some ⟨C,0,none⟩),fracV p,fracV q] w (SeenPost w C (p*q)):=by
 rw[mul_divInt]
 exact cmulI C f w hc hC hf _ _ _ _ hp.1 (by have:=hp.2;omega) hq.1 (by have:=hq.2;omega) (den_pos' p) (den_pos' q)
set_option maxRecDepth 100000 in
set_option maxHeartbeats 2000000 in
theorem cquoI (C:Nat) (f:Bool) (w:World) (hc:w.cell? ⟨C,0,none⟩=some (.bool f)) (hC:C<w.heap.size) (hf:w.frozen? ⟨C,0,none⟩=false) (a b c d:Int) (ha:a.natAbs<=1000000000) (hb:b.natAbs<=1000000000) (hc2:c.natAbs<=1000000000) (hd:d.natAbs<=1000000000) (hb0:0<b) (hd0:0<c):Calls Tryz.prog 133 #[.pointer (some ⟨C,0,none⟩), .agg #[.int .i64 a, .int .i64 b], .agg #[.int .i64 c, .int .i64 d]] w (SeenPost w C (Rat.divInt (a*d) (b*c))):=by
 obtain⟨m1,n1⟩:=mul_small ha hd
 obtain⟨m3,n3⟩:=mul_small hb hc2
 have m4:0<b*c:=Int.mul_pos hb0 hd0
 have w1:IntKind.i64.wrap (a*d)=a*d:=IntWalk.i64_in _ (by omega)
 have w3:IntKind.i64.wrap (b*c)=b*c:=IntWalk.i64_in _ (by omega)
 have hs:(a*d).natAbs<=4611686018427387904:=by omega
 have hl:b*c<=4611686018427387904:=by omega
 have HS:=Lib.hid hs
 have HL:=Lib.hid hl
 have H4:=Lib.hid m4
 clear hs hl m4 ha hb hc2 hd
 go_enter Tryz.func133,Tryz.ntmps133
 go_wp2_with (first
  |(go_at_call 72;refine(lowest5_any _ _ _ HS.out H4.out HL.out).mono ?_;rintro e w1 ⟨rfl,z1,rfl⟩)
  |(go_at_call 154
    refine(seen5_any C _ f _ ?s1 ?s2 ?s3).mono ?_
    case s1=>simp[go_sem,hC,hc]
    case s2=>simp[ext_size];omega
    case s3=>simp[go_sem,hC,hf]
    intro e wq hq
    rcases hq with⟨hd,rfl,zq,rfl⟩|⟨hd,rfl,zq,rfl⟩<;>simp only[fracV]))
 ·refine bodyPost_ret (v:=fracV (Rat.divInt (a*d) (b*c))) ?_ rfl ?_
  ·refine results_frac rfl _ _ _ _ _ rfl ?_ ?_
   ·simp[go_sem,hC]
   ·simp[go_sem,hC]
  ·refine .inl ⟨hd,Ret.of rfl ?_⟩
   exact Bw
 ·refine bodyPost_ret (v:=fracV 0) ?_ rfl ?_
  ·refine results_frac rfl _ _ _ _ _ rfl ?_ ?_
   ·simp[go_sem,hC]
   ·simp[go_sem,hC]
  ·refine .inr ⟨hd,Ret.of rfl ?_⟩
   exact Bw
theorem cquo5_any (C:Nat) (f:Bool) (w:World) (hc:w.cell? ⟨C,0,none⟩=some (.bool f)) (hC:C<w.heap.size) (hf:w.frozen? ⟨C,0,none⟩=false) (p q:Rat) (hp:small5 p) (hq:small5 q) (h0:0<q):Calls Tryz.prog 133 #[.pointer (some ⟨C,0,none⟩),fracV p,fracV q] w (SeenPost w C (p/q)):=by
 have hqn:0<q.num:=by have:=(Rat.lt_iff 0 q).1 h0;simpa using this
 rw[div_divInt p q h0]
 exact cquoI C f w hc hC hf _ _ _ _ hp.1 (by have:=hp.2;omega) hq.1 (by have:=hq.2;omega) (den_pos' p) hqn
set_option maxRecDepth 100000 in
set_option maxHeartbeats 2000000 in
theorem cadd5_any (C:Nat) (f:Bool) (w:World) (hc:w.cell? ⟨C,0,none⟩=some (.bool f)) (hC:C<w.heap.size) (hf:w.frozen? ⟨C,0,none⟩=false) (p q:Rat) (hp:small5 p) (hq:small5 q):Calls Tryz.prog 119 #[.pointer (some ⟨C,0,none⟩),fracV p,fracV q] w (SeenPost w C (p+q)):=by
 have HA:=fun W=>add5_any p q W hp hq
 clear hp hq
 unfold fracV at*
 go_enter Tryz.func119,Tryz.ntmps119
 go_wp2_with (first
  |(go_at_call 128;refine(HA _).mono ?_;rintro e w1 ⟨rfl,z1,rfl⟩)
  |(go_at_call 154
    refine(seen5_any C _ f _ ?s1 ?s2 ?s3).mono ?_
    case s1=>simp[go_sem,hC,hc]
    case s2=>simp[ext_size];omega
    case s3=>simp[go_sem,hC,hf]
    intro e wq hq
    rcases hq with⟨hd,rfl,zq,rfl⟩|⟨hd,rfl,zq,rfl⟩<;>simp only[fracV]))
 ·refine bodyPost_ret (v:=fracV (p+q)) ?_ rfl ?_
  ·refine results_frac rfl _ _ _ _ _ rfl ?_ ?_
   ·simp[go_sem,hC]
   ·simp[go_sem,hC]
  ·refine .inl ⟨hd,Ret.of rfl ?_⟩
   exact Bw
 ·refine bodyPost_ret (v:=fracV 0) ?_ rfl ?_
  ·refine results_frac rfl _ _ _ _ _ rfl ?_ ?_
   ·simp[go_sem,hC]
   ·simp[go_sem,hC]
  ·refine .inr ⟨hd,Ret.of rfl ?_⟩
   exact Bw
end Go.Proofs.YtmaidggpbihlgaaGreatDoor
