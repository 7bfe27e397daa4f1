/- Walk of chapter 5's lawOn. -/
import Derived.Test.YtkhkhnellekofaaGreatDoorU0
import Derived.Deep.RegionLaw
import Derived.Deep.Cut
import Derived.Deep.CutBlock
set_option linter.unusedSimpArgs false
set_option linter.unusedVariables false
namespace Go.Proofs.YtkhkhnellekofaaGreatDoor
open Go.RowKit
attribute [local go_sem] World.cell?_alloc_mark ext_size ext_cell ext_frozen lt_add_r lt_add_r2 lt_add_r3 lt_add_r4 lt_add_r5 lt_add_r6 lt_add_r7 lt_add_r8
set_option maxRecDepth 100000 in
set_option maxHeartbeats 2000000 in
theorem within5_any (n lo hi:Int) (w:World):Calls Tryz.prog 55 #[.int .i64 n, .int .i64 lo, .int .i64 hi] w (Ret0 w (.bool (inR n lo hi))):=by
 go_enter Tryz.func55,Tryz.ntmps55
 go_wp2_with fail
 all_goals go_ret
 all_goals exact⟨by first|(simp_all[inR];done)|(simp_all[inR];omega),rfl⟩
set_option maxRecDepth 100000 in
set_option maxHeartbeats 2000000 in
theorem isDay5_any (n:Int) (w:World):Calls Tryz.prog 50 #[.int .i64 n] w (Ret0 w (.bool (isDayP n))):=by
 go_enter Tryz.func50,Tryz.ntmps50
 go_wp2_with (go_at_call 55;refine(within5_any _ _ _ _).mono ?_;rintro e wq ⟨rfl,rfl⟩)
 go_ret
 exact⟨rfl,rfl⟩
set_option maxRecDepth 100000 in
set_option maxHeartbeats 2000000 in
theorem isName5_any (s:ByteArray) (w:World) (hs:s.size<=100000):Calls Tryz.prog 83 #[.string s] w (Ret0 w (.bool (isNameP s))):=by
 go_enter Tryz.func83,Tryz.ntmps83
 go_wp2_with fail
 go_loop [7] (fun i=> ∃k:Nat,k<=s.size/\i= .int .i64 k/\nmGo (bytesI s) 0=nmGo ((bytesI s).drop k) k) (fun i=>s.size-(intOf i).toNat)
 case atStart=>exact⟨0,Nat.zero_le _,rfl,rfl⟩
 case round=>
  obtain⟨k,hk,rfl,hf⟩:=hrel
  by_cases hlt:k<s.size
  ·rw[bytesI_drop s k hlt,show s.data[k]=s[k]from rfl]at hf
   have HF:=Lib.hid hf
   clear hf
   have HL:=Lib.hid hlt
   rcases Nat.eq_zero_or_pos k with rfl|hk0
   ·go_wp2_with fail
    all_goals first
     |(go_round
       case rel=>exact⟨1,by have:=HL.out;omega,rfl,by rw[HF.out,nmGo,if_neg (by go_tidy;simp[letterI]at*;omega)]⟩
       case measure=>have:=HL.out;simp[intOf];omega)
     |(go_ret
       refine⟨congrArg Ending.returned (bool_eq ?_),rfl⟩
       rw[isNameP,HF.out,nmGo,if_pos (by go_tidy;simp[letterI]at*;omega)]
       rfl)
   ·have hz:((k:Int)==0)=false:=by simp;omega
    have hz2: ¬((k:Int)=0):=by omega
    go_wp2_with fail
    all_goals first
     |(go_round
       case rel=>exact⟨k+1,by have:=HL.out;omega,by go_num,by rw[HF.out,nmGo,if_neg (by go_tidy;simp[letterI]at*;omega)]⟩
       case measure=>have:=HL.out;simp[intOf];omega)
     |(go_ret
       refine⟨congrArg Ending.returned (bool_eq ?_),rfl⟩
       rw[isNameP,HF.out,nmGo,if_pos (by go_tidy;simp[letterI]at*;omega)]
       rfl)
  ·rw[List.drop_eq_nil_of_le (by rw[bytesI_len];omega)]at hf
   go_wp2_with fail
   all_goals go_ret
   all_goals refine⟨congrArg Ending.returned (bool_eq ?_),rfl⟩
   all_goals simp[isNameP,hf,nmGo, *]
theorem gcd_tmod (x y:Int):Int.gcd y (x.tmod y)=Int.gcd x y:=by
 rw[Int.gcd,Int.gcd,Int.natAbs_tmod,Nat.gcd_comm,<-Nat.gcd_rec,Nat.gcd_comm]
theorem tmod_lt (x y:Int) (h:y≠0):(x.tmod y).natAbs<y.natAbs:=by
 rw[Int.natAbs_tmod]
 exact Nat.mod_lt _ (by omega)
set_option maxRecDepth 100000 in
set_option maxHeartbeats 2000000 in
theorem gcd5_any (a b:Int) (w:World) (ha:a.natAbs<=4611686018427387904) (hb:b.natAbs<=4611686018427387904):Calls Tryz.prog 84 #[.int .i64 a, .int .i64 b] w (Ret w (.int .i64 (Int.gcd a b))):=by
 go_enter Tryz.func84,Tryz.ntmps84
 go_wp2_with fail
 go_loopw [0,1] (fun x y wr=> ∃p q:Int,x= .int .i64 p/\y= .int .i64 q/\p.natAbs<=4611686018427387904/\q.natAbs<=4611686018427387904/\Int.gcd a b=Int.gcd p q/\ ∃z,wr=w.ext z) (fun _ y _=>(intOf y).natAbs)
 case atStart=>exact⟨a,b,rfl,rfl,ha,hb,rfl,ext_below (Below.refl _ _)⟩
 case round=>
  obtain⟨p,q,rfl,rfl,hp,hq,hg,z,rfl⟩:=hrel
  by_cases hz:q=0
  ·subst hz
   go_wp2_with fail
   all_goals go_ret
   all_goals exact Ret.of (int_eq (by omega)) Bw
  ·have hq2:(q==0)=false:=by simp[hz]
   have hm:=tmod_lt p q hz
   have hG:=Lib.hid (gcd_tmod p q)
   have HG:=Lib.hid hg
   clear hg
   have hwr:IntKind.i64.wrap (p.tmod q)=p.tmod q:=IntWalk.i64_in _ (by omega)
   go_wp2_with fail
   go_quiet (fail)
   go_wp2_with fail
   all_goals(first
    |(go_round
      case rel=>exact⟨q,p.tmod q,rfl,rfl,hq,by omega,by rw[HG.out,hG.out],ext_below Bw⟩
      case measure=>simp only[intOf];omega))
end Go.Proofs.YtkhkhnellekofaaGreatDoor
namespace Go.Proofs.YtkhkhnellekofaaGreatDoor
open Go.RowKit
attribute [local go_sem] World.cell?_alloc_mark ext_size ext_cell ext_frozen lt_add_r lt_add_r2 lt_add_r3 lt_add_r4 lt_add_r5 lt_add_r6 lt_add_r7 lt_add_r8
attribute [local go_sem] ext_setCell alloc_setCell_lt
theorem results_c1 {fn:Func} {p:Tmp} {ty:TypeId} (h:fn.results= #[.cell p ty]) (tmps:Array Value) (P:Program) (w:World):
 (results fn tmps).run P w=((asAddr (tmps.getD p undef)).run P w).andThen fun a w₁=>(loadVar ty a).run P w₁:=by
 simp only[results,h]
 simp[Sem.run_bind]
theorem results_frac {fn:Func} {p:Tmp} (h:fn.results= #[.cell p 39]) (tmps:Array Value) (w:World) (B:Nat) (x y:Int) (hp:tmps.getD p undef= .pointer (some ⟨B,0,none⟩))
 (h0:w.cell? ⟨B,0,none⟩=some (.int .i64 x)) (h1:w.cell? ⟨B,1,none⟩=some (.int .i64 y)):(results fn tmps).run Tryz.prog w= .ok (.agg #[.int .i64 x, .int .i64 y]) w:=by
 rw[results_c1 h,hp]
 go_simp
def fracV (r:Rat):Value:= .agg #[.int .i64 r.num, .int .i64 r.den]
theorem gcd_pos5 {a b:Int} (h:0<b):0<Int.gcd a b:=Nat.pos_of_ne_zero (fun e=>by have:=(Int.gcd_eq_zero_iff.1 e).2;omega)
set_option maxRecDepth 100000 in
set_option maxHeartbeats 2000000 in
theorem lowest5_any (a b:Int) (w:World) (ha:a.natAbs<=4611686018427387904) (hb0:0<b) (hb:b<=4611686018427387904):Calls Tryz.prog 135 #[.int .i64 a, .int .i64 b] w (Ret w (fracV (Rat.divInt a b))):=by
 have hg:=gcd_pos5 (a:=a) hb0
 obtain⟨g,HG⟩: ∃g:Int,g=(Int.gcd a b:Int):=⟨_,rfl⟩
 have hg0:0<g:=by omega
 have hgz:(g==0)=false:=by simp;omega
 have e1:a.tdiv g=(Rat.divInt a b).num:=by rw[divInt_num hb0,HG,tdiv_exact (Int.gcd_dvd_left ..)]
 have e2:b.tdiv g=((Rat.divInt a b).den:Int):=by rw[divInt_den hb0,HG,tdiv_exact (Int.gcd_dvd_right ..)]
 have n1:(a.tdiv g).natAbs<=4611686018427387904:=Nat.le_trans (Int.natAbs_tdiv_le_natAbs _ _) ha
 have n2:(b.tdiv g).natAbs<=4611686018427387904:=Nat.le_trans (Int.natAbs_tdiv_le_natAbs _ _) (by omega)
 have w1:wrap64 (a.tdiv g)=a.tdiv g:=by unfold wrap64;omega
 have w2:wrap64 (b.tdiv g)=b.tdiv g:=by unfold wrap64;omega
 have HA:=Lib.hid ha
 have hbn:b.natAbs<=4611686018427387904:=by omega
 have HB:=Lib.hid hbn
 have E1:=Lib.hid e1
 have E2:=Lib.hid e2
 clear ha hb hb0 hg e1 e2 n1 n2 hbn
 go_enter Tryz.func135,Tryz.ntmps135
 go_wp2_with (go_at_call 84;refine(gcd5_any _ _ _ HA.out HB.out).mono ?_;rintro e w1 ⟨rfl,z1,rfl⟩;rw[<-HG])
 go_region
 go_wp2_with fail
 refine bodyPost_ret (v:=fracV (Rat.divInt a b)) ?_ rfl ?_
 ·refine results_frac rfl _ _ w.heap.size _ _ rfl ?_ ?_
  ·rw[<-E1.out];simp[go_sem];rw[<-HG];exact w1
  ·rw[<-E2.out];simp[go_sem];rw[<-HG];exact w2
 ·exact Ret.of rfl Bw
def small5 (r:Rat):Prop:=r.num.natAbs<=1000000000/\r.den<=1000000000
theorem mul_small {a b:Int} (ha:a.natAbs<=1000000000) (hb:b.natAbs<=1000000000): -1000000000000000000<=a*b/\a*b<=1000000000000000000:=by
 have h:(a*b).natAbs<=1000000000*1000000000:=by rw[Int.natAbs_mul];exact Nat.mul_le_mul ha hb
 omega
set_option maxRecDepth 100000 in
set_option maxHeartbeats 2000000 in
theorem add5I (a b c d:Int) (w:World) (ha:a.natAbs<=1000000000) (hb:b.natAbs<=1000000000) (hc:c.natAbs<=1000000000) (hd:d.natAbs<=1000000000) (hb0:0<b) (hd0:0<d):Calls Tryz.prog 123 #[.agg #[.int .i64 a, .int .i64 b], .agg #[.int .i64 c, .int .i64 d]] w (Ret w (fracV (Rat.divInt (a*d+c*b) (b*d)))):=by
 have m1:=mul_small ha hd
 have m2:=mul_small hc hb
 have m3:=mul_small hb hd
 have m4:0<b*d:=Int.mul_pos hb0 hd0
 obtain⟨m1,n1⟩:=m1
 obtain⟨m2,n2⟩:=m2
 obtain⟨m3,n3⟩:=m3
 have w1:IntKind.i64.wrap (a*d)=a*d:=IntWalk.i64_in _ (by omega)
 have w2:IntKind.i64.wrap (c*b)=c*b:=IntWalk.i64_in _ (by omega)
 have w3:IntKind.i64.wrap (b*d)=b*d:=IntWalk.i64_in _ (by omega)
 have hs:(a*d+c*b).natAbs<=4611686018427387904:=by omega
 have hl:b*d<=4611686018427387904:=by omega
 have HS:=Lib.hid hs
 have HL:=Lib.hid hl
 have H4:=Lib.hid m4
 clear hs hl m4 ha hb hc hd
 go_enter Tryz.func123,Tryz.ntmps123
 go_wp2_with (go_at_call 135;refine(lowest5_any _ _ _ HS.out H4.out HL.out).mono ?_;rintro e w1 ⟨rfl,z1,rfl⟩;simp only[fracV])
 refine bodyPost_ret (v:=fracV (Rat.divInt (a*d+c*b) (b*d))) ?_ rfl ?_
 ·refine results_frac rfl _ _ _ _ _ rfl ?_ ?_
  ·simp[go_sem]
  ·simp[go_sem]
 ·exact Ret.of rfl Bw
theorem add5_any (p q:Rat) (w:World) (hsp:small5 p) (hsq:small5 q):Calls Tryz.prog 123 #[fracV p,fracV q] w (Ret w (fracV (p+q))):=by
 rw[add_divInt]
 exact add5I _ _ _ _ _ hsp.1 (by have:=hsp.2;omega) hsq.1 (by have:=hsq.2;omega) (den_pos' p) (den_pos' q)
set_option maxRecDepth 100000 in
set_option maxHeartbeats 2000000 in
theorem sub5I (a b c d:Int) (w:World) (ha:a.natAbs<=1000000000) (hb:b.natAbs<=1000000000) (hc:c.natAbs<=1000000000) (hd:d.natAbs<=1000000000) (hb0:0<b) (hd0:0<d):Calls Tryz.prog 128 #[.agg #[.int .i64 a, .int .i64 b], .agg #[.int .i64 c, .int .i64 d]] w (Ret w (fracV (Rat.divInt (a*d-c*b) (b*d)))):=by
 have m1:=mul_small ha hd
 have m2:=mul_small hc hb
 have m3:=mul_small hb hd
 have m4:0<b*d:=Int.mul_pos hb0 hd0
 obtain⟨m1,n1⟩:=m1
 obtain⟨m2,n2⟩:=m2
 obtain⟨m3,n3⟩:=m3
 have w1:IntKind.i64.wrap (a*d)=a*d:=IntWalk.i64_in _ (by omega)
 have w2:IntKind.i64.wrap (c*b)=c*b:=IntWalk.i64_in _ (by omega)
 have w3:IntKind.i64.wrap (b*d)=b*d:=IntWalk.i64_in _ (by omega)
 have hs:(a*d-c*b).natAbs<=4611686018427387904:=by omega
 have hl:b*d<=4611686018427387904:=by omega
 have HS:=Lib.hid hs
 have HL:=Lib.hid hl
 have H4:=Lib.hid m4
 clear hs hl m4 ha hb hc hd
 go_enter Tryz.func128,Tryz.ntmps128
 go_wp2_with (go_at_call 135;refine(lowest5_any _ _ _ HS.out H4.out HL.out).mono ?_;rintro e w1 ⟨rfl,z1,rfl⟩;simp only[fracV])
 refine bodyPost_ret (v:=fracV (Rat.divInt (a*d-c*b) (b*d))) ?_ rfl ?_
 ·refine results_frac rfl _ _ _ _ _ rfl ?_ ?_
  ·simp[go_sem]
  ·simp[go_sem]
 ·exact Ret.of rfl Bw
theorem sub5_any (p q:Rat) (w:World) (hsp:small5 p) (hsq:small5 q):Calls Tryz.prog 128 #[fracV p,fracV q] w (Ret w (fracV (p-q))):=by
 rw[sub_divInt]
 exact sub5I _ _ _ _ _ hsp.1 (by have:=hsp.2;omega) hsq.1 (by have:=hsq.2;omega) (den_pos' p) (den_pos' q)
set_option maxRecDepth 100000 in
set_option maxHeartbeats 2000000 in
theorem isFraction5_any (a b:Int) (w:World):Calls Tryz.prog 53 #[.agg #[.int .i64 a, .int .i64 b]] w (Ret w (.bool (isShareP 16 a b))):=by
 go_enter Tryz.func53,Tryz.ntmps53
 by_cases h1:inR b 1 16=true
 ·by_cases h2:inR a 0 b=true
  ·have x1:1<=b/\b<=16:=by simpa[inR]using h1
   have x2:0<=a/\a<=b:=by simpa[inR]using h2
   have g1:a.natAbs<=4611686018427387904:=by omega
   have g2:b.natAbs<=4611686018427387904:=by omega
   have G1:=Lib.hid g1
   have G2:=Lib.hid g2
   have hv:isShareP 16 a b=((Int.gcd a b:Int)==1):=by
    unfold isShareP
    simp only[x1.1,x1.2,x2.1,x2.2,decide_true,Bool.true_and]
    rw[Bool.eq_iff_iff,beq_iff_eq,beq_iff_eq]
    omega
   have HV:=Lib.hid hv
   clear g1 g2 hv x1 x2
   go_wp2_with (first
    |(go_at_call 55;refine(within5_any _ _ _ _).mono ?_;rintro e wq ⟨rfl,rfl⟩)
    |(go_at_call 84;refine(gcd5_any _ _ _ G1.out G2.out).mono ?_;rintro e w1 ⟨rfl,z1,rfl⟩))
   all_goals go_ret
   all_goals exact Ret.of (bool_eq (by rw[HV.out])) Bw
  ·have hv:isShareP 16 a b=false:=by
    unfold isShareP
    simp[inR]at h1 h2⊢
    omega
   go_wp2_with (go_at_call 55;refine(within5_any _ _ _ _).mono ?_;rintro e wq ⟨rfl,rfl⟩)
   all_goals go_ret
   all_goals exact Ret.of (bool_eq (by rw[hv])) Bw
 ·have hv:isShareP 16 a b=false:=by
   unfold isShareP
   simp[inR]at h1⊢
   omega
  go_wp2_with (go_at_call 55;refine(within5_any _ _ _ _).mono ?_;rintro e wq ⟨rfl,rfl⟩)
  all_goals go_ret
  all_goals exact Ret.of (bool_eq (by rw[hv])) Bw
end Go.Proofs.YtkhkhnellekofaaGreatDoor
namespace Go.Proofs.YtkhkhnellekofaaGreatDoor
open Go.RowKit
attribute [local go_sem] World.cell?_alloc_mark ext_size ext_cell ext_frozen lt_add_r lt_add_r2 lt_add_r3 lt_add_r4 lt_add_r5 lt_add_r6 lt_add_r7 lt_add_r8
attribute [local go_sem] ext_setCell alloc_setCell_lt
def SeenPost (w:World) (C:Nat) (r:Rat) (e:Ending) (w':World):Prop:=(r.den<=1000000000/\Ret w (fracV r) e w')\/(1000000000<r.den/\Ret (w.setCell ⟨C,0,none⟩ (.bool true)) (fracV 0) e w')
set_option maxRecDepth 100000 in
set_option maxHeartbeats 2000000 in
theorem seen5_any (C:Nat) (r:Rat) (f:Bool) (w:World) (hc:w.cell? ⟨C,0,none⟩=some (.bool f)) (hC:C<w.heap.size) (hf:w.frozen? ⟨C,0,none⟩=false):Calls Tryz.prog 140 #[.pointer (some ⟨C,0,none⟩),fracV r] w (SeenPost w C r):=by
 by_cases hd:r.den<=1000000000
 ·have hd2:decide ((r.den:Int)>1000000000)=false:=by simp;omega
  unfold fracV
  go_enter Tryz.func140,Tryz.ntmps140
  go_wp2_with fail
  refine bodyPost_ret (v:=fracV r) ?_ rfl ?_
  ·refine results_frac rfl _ _ _ _ _ rfl ?_ ?_
   ·simp[go_sem]
   ·simp[go_sem]
  ·exact .inl ⟨hd,Ret.of rfl Bw⟩
 ·have hd2:decide ((r.den:Int)>1000000000)=true:=by simp;omega
  unfold fracV
  go_enter Tryz.func140,Tryz.ntmps140
  go_wp2_with fail
  refine bodyPost_ret (v:=fracV 0) ?_ rfl ?_
  ·refine results_frac rfl _ _ _ _ _ rfl ?_ ?_
   ·simp[go_sem,hC]
   ·simp[go_sem,hC]
  ·refine .inr ⟨by omega,Ret.of rfl ?_⟩
   exact Bw
set_option maxRecDepth 100000 in
set_option maxHeartbeats 2000000 in
theorem cmulI (C:Nat) (f:Bool) (w:World) (hc:w.cell? ⟨C,0,none⟩=some (.bool f)) (hC:C<w.heap.size) (hf:w.frozen? ⟨C,0,none⟩=false) (a b c d:Int) (ha:a.natAbs<=1000000000) (hb:b.natAbs<=1000000000) (hc2:c.natAbs<=1000000000) (hd:d.natAbs<=1000000000) (hb0:0<b) (hd0:0<d):Calls Tryz.prog 130 #[.pointer (some ⟨C,0,none⟩), .agg #[.int .i64 a, .int .i64 b], .agg #[.int .i64 c, .int .i64 d]] w (SeenPost w C (Rat.divInt (a*c) (b*d))):=by
 obtain⟨m1,n1⟩:=mul_small ha hc2
 obtain⟨m3,n3⟩:=mul_small hb hd
 have m4:0<b*d:=Int.mul_pos hb0 hd0
 have w1:IntKind.i64.wrap (a*c)=a*c:=IntWalk.i64_in _ (by omega)
 have w3:IntKind.i64.wrap (b*d)=b*d:=IntWalk.i64_in _ (by omega)
 have hs:(a*c).natAbs<=4611686018427387904:=by omega
 have hl:b*d<=4611686018427387904:=by omega
 have HS:=Lib.hid hs
 have HL:=Lib.hid hl
 have H4:=Lib.hid m4
 clear hs hl m4 ha hb hc2 hd
 go_enter Tryz.func130,Tryz.ntmps130
 go_wp2_with (first
  |(go_at_call 135;refine(lowest5_any _ _ _ HS.out H4.out HL.out).mono ?_;rintro e w1 ⟨rfl,z1,rfl⟩)
  |(go_at_call 140
    refine(seen5_any C _ f _ ?s1 ?s2 ?s3).mono ?_
    case s1=>simp[go_sem,hC,hc]
    case s2=>simp[ext_size];omega
    case s3=>simp[go_sem,hC,hf]
    intro e wq hq
    rcases hq with⟨hd,rfl,zq,rfl⟩|⟨hd,rfl,zq,rfl⟩<;>simp only[fracV]))
 ·refine bodyPost_ret (v:=fracV (Rat.divInt (a*c) (b*d))) ?_ rfl ?_
  ·refine results_frac rfl _ _ _ _ _ rfl ?_ ?_
   ·simp[go_sem,hC]
   ·simp[go_sem,hC]
  ·refine .inl ⟨hd,Ret.of rfl ?_⟩
   exact Bw
 ·refine bodyPost_ret (v:=fracV 0) ?_ rfl ?_
  ·refine results_frac rfl _ _ _ _ _ rfl ?_ ?_
   ·simp[go_sem,hC]
   ·simp[go_sem,hC]
  ·refine .inr ⟨hd,Ret.of rfl ?_⟩
   exact Bw
theorem cmul5_any (C:Nat) (f:Bool) (w:World) (hc:w.cell? ⟨C,0,none⟩=some (.bool f)) (hC:C<w.heap.size) (hf:w.frozen? ⟨C,0,none⟩=false) (p q:Rat) (hp:small5 p) (hq:small5 q):Calls Tryz.prog 130 #[.pointer (some ⟨C,0,none⟩),fracV p,fracV q] w (SeenPost w C (p*q)):=by
 rw[mul_divInt]
 exact cmulI C f w hc hC hf _ _ _ _ hp.1 (by have:=hp.2;omega) hq.1 (by have:=hq.2;omega) (den_pos' p) (den_pos' q)
set_option maxRecDepth 100000 in
set_option maxHeartbeats 2000000 in
theorem cquoI (C:Nat) (f:Bool) (w:World) (hc:w.cell? ⟨C,0,none⟩=some (.bool f)) (hC:C<w.heap.size) (hf:w.frozen? ⟨C,0,none⟩=false) (a b c d:Int) (ha:a.natAbs<=1000000000) (hb:b.natAbs<=1000000000) (hc2:c.natAbs<=1000000000) (hd:d.natAbs<=1000000000) (hb0:0<b) (hd0:0<c):Calls Tryz.prog 132 #[.pointer (some ⟨C,0,none⟩), .agg #[.int .i64 a, .int .i64 b], .agg #[.int .i64 c, .int .i64 d]] w (SeenPost w C (Rat.divInt (a*d) (b*c))):=by
 obtain⟨m1,n1⟩:=mul_small ha hd
 obtain⟨m3,n3⟩:=mul_small hb hc2
 have m4:0<b*c:=Int.mul_pos hb0 hd0
 have w1:IntKind.i64.wrap (a*d)=a*d:=IntWalk.i64_in _ (by omega)
 have w3:IntKind.i64.wrap (b*c)=b*c:=IntWalk.i64_in _ (by omega)
 have hs:(a*d).natAbs<=4611686018427387904:=by omega
 have hl:b*c<=4611686018427387904:=by omega
 have HS:=Lib.hid hs
 have HL:=Lib.hid hl
 have H4:=Lib.hid m4
 clear hs hl m4 ha hb hc2 hd
 go_enter Tryz.func132,Tryz.ntmps132
 go_wp2_with (first
  |(go_at_call 135;refine(lowest5_any _ _ _ HS.out H4.out HL.out).mono ?_;rintro e w1 ⟨rfl,z1,rfl⟩)
  |(go_at_call 140
    refine(seen5_any C _ f _ ?s1 ?s2 ?s3).mono ?_
    case s1=>simp[go_sem,hC,hc]
    case s2=>simp[ext_size];omega
    case s3=>simp[go_sem,hC,hf]
    intro e wq hq
    rcases hq with⟨hd,rfl,zq,rfl⟩|⟨hd,rfl,zq,rfl⟩<;>simp only[fracV]))
 ·refine bodyPost_ret (v:=fracV (Rat.divInt (a*d) (b*c))) ?_ rfl ?_
  ·refine results_frac rfl _ _ _ _ _ rfl ?_ ?_
   ·simp[go_sem,hC]
   ·simp[go_sem,hC]
  ·refine .inl ⟨hd,Ret.of rfl ?_⟩
   exact Bw
 ·refine bodyPost_ret (v:=fracV 0) ?_ rfl ?_
  ·refine results_frac rfl _ _ _ _ _ rfl ?_ ?_
   ·simp[go_sem,hC]
   ·simp[go_sem,hC]
  ·refine .inr ⟨hd,Ret.of rfl ?_⟩
   exact Bw
theorem cquo5_any (C:Nat) (f:Bool) (w:World) (hc:w.cell? ⟨C,0,none⟩=some (.bool f)) (hC:C<w.heap.size) (hf:w.frozen? ⟨C,0,none⟩=false) (p q:Rat) (hp:small5 p) (hq:small5 q) (h0:0<q):Calls Tryz.prog 132 #[.pointer (some ⟨C,0,none⟩),fracV p,fracV q] w (SeenPost w C (p/q)):=by
 have hqn:0<q.num:=by have:=(Rat.lt_iff 0 q).1 h0;simpa using this
 rw[div_divInt p q h0]
 exact cquoI C f w hc hC hf _ _ _ _ hp.1 (by have:=hp.2;omega) hq.1 (by have:=hq.2;omega) (den_pos' p) hqn
set_option maxRecDepth 100000 in
set_option maxHeartbeats 2000000 in
theorem cadd5_any (C:Nat) (f:Bool) (w:World) (hc:w.cell? ⟨C,0,none⟩=some (.bool f)) (hC:C<w.heap.size) (hf:w.frozen? ⟨C,0,none⟩=false) (p q:Rat) (hp:small5 p) (hq:small5 q):Calls Tryz.prog 131 #[.pointer (some ⟨C,0,none⟩),fracV p,fracV q] w (SeenPost w C (p+q)):=by
 have HA:=fun W=>add5_any p q W hp hq
 clear hp hq
 unfold fracV at*
 go_enter Tryz.func131,Tryz.ntmps131
 go_wp2_with (first
  |(go_at_call 123;refine(HA _).mono ?_;rintro e w1 ⟨rfl,z1,rfl⟩)
  |(go_at_call 140
    refine(seen5_any C _ f _ ?s1 ?s2 ?s3).mono ?_
    case s1=>simp[go_sem,hC,hc]
    case s2=>simp[ext_size];omega
    case s3=>simp[go_sem,hC,hf]
    intro e wq hq
    rcases hq with⟨hd,rfl,zq,rfl⟩|⟨hd,rfl,zq,rfl⟩<;>simp only[fracV]))
 ·refine bodyPost_ret (v:=fracV (p+q)) ?_ rfl ?_
  ·refine results_frac rfl _ _ _ _ _ rfl ?_ ?_
   ·simp[go_sem,hC]
   ·simp[go_sem,hC]
  ·refine .inl ⟨hd,Ret.of rfl ?_⟩
   exact Bw
 ·refine bodyPost_ret (v:=fracV 0) ?_ rfl ?_
  ·refine results_frac rfl _ _ _ _ _ rfl ?_ ?_
   ·simp[go_sem,hC]
   ·simp[go_sem,hC]
  ·refine .inr ⟨hd,Ret.of rfl ?_⟩
   exact Bw
end Go.Proofs.YtkhkhnellekofaaGreatDoor
namespace Go.Proofs.YtkhkhnellekofaaGreatDoor
open Go.RowKit
attribute [local go_sem] World.cell?_alloc_mark ext_size ext_cell ext_frozen lt_add_r lt_add_r2 lt_add_r3 lt_add_r4 lt_add_r5 lt_add_r6 lt_add_r7 lt_add_r8
attribute [local go_sem] ext_setCell alloc_setCell_lt
def befP (ls:List Law) (k:Nat):Option Int:=if k=0 then none else(ls[k-1]?).map (·.frm)
theorem bef_succ (ls:List Law) {k:Nat} (h:k<ls.length):befP ls (k+1)=some ls[k].frm:=by
 rw[befP,if_neg (by omega)]
 simp[h]
set_option maxRecDepth 100000 in
set_option maxHeartbeats 2000000 in
theorem checkLaws5_any (ls:List Law) (A:Option Addr) (n c:Nat) (w:World) (hn:n=ls.length) (hS:Sl w 4 Law.cells A ls):Calls Tryz.prog 22 #[.slice A n c] w (Ret w (.int .i64 (checkLawsP ls))):=by
 subst hn
 go_enter Tryz.func22,Tryz.ntmps22
 by_cases h10:10<ls.length
 ·have hx:decide ((10:Int)<(ls.length:Int))=true:=by simp;omega
  go_wp2_with fail
  go_ret
  exact Ret.of (int_eq (by rw[checkLawsP,if_pos (by simp;omega)])) Bw
 have hx:decide ((10:Int)<(ls.length:Int))=false:=by simp;omega
 go_wp2_with fail
 have hT:checkLawsP ls=lawsGo (ls.drop 0) (befP ls 0):=by rw[checkLawsP,if_neg (by simp;omega)];rfl
 go_loopw [2,10] (fun u i wr=>u= .int .i64 0/\ ∃k:Nat,k<=ls.length/\i= .int .i64 k/\checkLawsP ls=lawsGo (ls.drop k) (befP ls k)/\ ∃z,wr=w.ext z) (fun _ i _=>ls.length-(intOf i).toNat)
 case atStart=>exact⟨rfl,0,Nat.zero_le _,rfl,hT,ext_below (Below.refl _ _)⟩
 case round=>
  obtain⟨rfl,k,hk,rfl,hf,z,rfl⟩:=hrel
  clear hT hx
  by_cases hlt:k<ls.length
  ·rw[List.drop_eq_getElem_cons hlt,lawsGo]at hf
   obtain⟨b,off,rfl,hb,hc⟩:=hS.at hlt
   have h0:w.cell? ⟨b,off+k*4,none⟩=some (.int .i64 ls[k].frm):=hc 0 _ rfl
   have h1:w.cell? ⟨b,off+k*4+1,none⟩=some (.bool ls[k].stems):=hc 1 _ rfl
   have h2:w.cell? ⟨b,off+k*4+2,none⟩=some (.int .i64 ls[k].num):=hc 2 _ rfl
   have h3:w.cell? ⟨b,off+k*4+3,none⟩=some (.int .i64 ls[k].den):=hc 3 _ rfl
   have HF:=Lib.hid hf
   have hkn:(k:Int)<(ls.length:Int):=by omega
   have hprev:0<k->w.cell? ⟨b,off+(k-1)*4,none⟩=some (.int .i64 (ls[k-1]'(by omega)).frm):=fun hk0=>by
    obtain⟨b',off',he,_,hc'⟩:=hS.at (k:=k-1) (by omega)
    cases he
    exact hc' 0 _ rfl
   have HP:=Lib.hid hprev
   have HB:befP ls (k+1)=some ls[k].frm:=bef_succ ls hlt
   have HB:=Lib.hid HB
   clear hc hf hS hprev
   go_upto_region 10 with(first
    |(go_at_call 50;refine(isDay5_any _ _).mono ?_;intro e wq hq;rcases Ret0.bools hq with⟨rfl,⟨hb,rfl⟩|⟨hb,rfl⟩⟩<;>clear hq)
    |(go_at_call 53;refine(isFraction5_any _ _ _).mono ?_;intro e wq hq;rcases Ret.bools hq with⟨zq,rfl,⟨hb,rfl⟩|⟨hb,rfl⟩⟩<;>clear hq))
   all_goals first
    |(go_ret
      exact Ret.of (int_eq (by rw[HF.out];simp[lawErr, *])) Bw)
    |skip
   rcases Nat.eq_zero_or_pos k with hk0|hk0
   ·have hd:decide ((k:Int)>0)=false:=by simp;omega
    have hbn:befP ls k=none:=by rw[befP,if_pos hk0]
    go_quiet (fail)
    go_wp2_with fail
    go_round
    case rel=>subst hk0;exact⟨rfl,1,by omega,rfl,by rw[HF.out,HB.out];simp[lawErr, *],ext_below Bw⟩
    case measure=>simp[intOf];omega
   ·have hd:decide ((k:Int)>0)=true:=by simp;omega
    have hwr:IntKind.i64.wrap ((k:Int)-1)=(k:Int)-1:=IntWalk.i64_in _ (by omega)
    have hnn:0<=(k:Int)-1:=by omega
    have htn:((k:Int)-1).toNat=k-1:=by omega
    have hlt2:(k:Int)-1<(ls.length:Int):=by omega
    have hp:=HP.out hk0
    have hbs:befP ls k=some (ls[k-1]'(by omega)).frm:=by have:=bef_succ ls (k:=k-1) (by omega);rwa [Nat.sub_add_cancel hk0]at this
    go_quiet (fail)
    go_wp2_with fail
    all_goals first
     |(go_ret
       exact Ret.of (int_eq (by rw[HF.out];simp[lawErr, *])) Bw)
     |(go_round
       case rel=>exact⟨rfl,k+1,by omega,by go_num,by rw[HF.out,HB.out];simp[lawErr, *],ext_below Bw⟩
       case measure=>simp[intOf];omega)
  ·rw[List.drop_eq_nil_of_le (by omega),lawsGo]at hf
   have HF:=Lib.hid hf
   clear hf hS
   have hkn: ¬(k:Int)<(ls.length:Int):=by omega
   go_wp2_with fail
   go_ret
   exact Ret.of (int_eq (by rw[HF.out])) Bw
end Go.Proofs.YtkhkhnellekofaaGreatDoor
namespace Go.Proofs.YtkhkhnellekofaaGreatDoor
open Go.RowKit
attribute [local go_sem] World.cell?_alloc_mark ext_size ext_cell ext_frozen lt_add_r lt_add_r2 lt_add_r3 lt_add_r4 lt_add_r5 lt_add_r6 lt_add_r7 lt_add_r8
attribute [local go_sem] ext_setCell alloc_setCell_lt
def Law.v (x:Law):Value:= .agg #[.int .i64 x.frm, .bool x.stems, .int .i64 x.num, .int .i64 x.den]
theorem results_law {fn:Func} {p:Tmp} (h:fn.results= #[.cell p 41]) (tmps:Array Value) (w:World) (B:Nat) (x:Law) (hp:tmps.getD p undef= .pointer (some ⟨B,0,none⟩))
 (h0:w.cell? ⟨B,0,none⟩=some (.int .i64 x.frm)) (h1:w.cell? ⟨B,1,none⟩=some (.bool x.stems)) (h2:w.cell? ⟨B,2,none⟩=some (.int .i64 x.num)) (h3:w.cell? ⟨B,3,none⟩=some (.int .i64 x.den)):(results fn tmps).run Tryz.prog w= .ok x.v w:=by
 rw[results_c1 h,hp]
 unfold Law.v
 go_simp
theorem lawOn_snoc (ls:List Law) (day:Int) {k:Nat} (h:k<ls.length):lawOnP (ls.take (k+1)) day=if decide (ls[k].frm<=day)then ls[k]else lawOnP (ls.take k) day:=by
 rw[List.take_succ_eq_append_getElem h]
 unfold lawOnP
 rw[List.filter_append]
 by_cases hc:ls[k].frm<=day<;>simp[hc]
theorem J_new (w:World) (o:Obj) (k:Nat) (h:k=w.heap.size):(w.alloc o).heap[k]?=some o:=by rw[h];exact heap_alloc_new w o
theorem J_alloc {w:World} {o x:Obj} {k:Nat} (h:w.heap[k]?=some x):(w.alloc o).heap[k]?=some x:=(Below.heap_alloc w o k (blk_lt h)).trans h
theorem J_set4 {w:World} {g:Nat} {z0 z1 z2 z3 a b c d:Value} {t:TypeId} {fr:Nat×Nat} (h:w.heap[g]?=some (.cells #[z0,z1,z2,z3] t fr)):
 ((((w.setCell ⟨g,0,none⟩ a).setCell ⟨g,1,none⟩ b).setCell ⟨g,2,none⟩ c).setCell ⟨g,3,none⟩ d).heap[g]?=some (.cells #[a,b,c,d] t fr):=by
 have:=Joins.block_setCell (i:=3) (Joins.block_setCell (i:=2) (Joins.block_setCell (i:=1) (Joins.block_setCell (i:=0) h a) b) c) d
 simpa using this
set_option maxRecDepth 100000 in
set_option maxHeartbeats 2000000 in
theorem lawOn5_any (ls:List Law) (A:Option Addr) (c:Nat) (day:Int) (w:World) (hl:ls.length<=10) (hS:Sl w 4 Law.cells A ls):Calls Tryz.prog 51 #[.slice A ls.length c, .int .i64 day] w (Ret w (lawOnP ls day).v):=by
 go_enter Tryz.func51,Tryz.ntmps51
 go_wp2_with fail
 go_loopw [12] (fun i wr=> ∃k:Nat,k<=ls.length/\i= .int .i64 k/\ ∃x:Law,x=lawOnP (ls.take k) day/\Below w.heap.size w wr/\w.heap.size+2<=wr.heap.size/\wr.heap[w.heap.size]?=some (.cells #[.int .i64 0, .bool false, .int .i64 0, .int .i64 0] 41)/\wr.heap[w.heap.size+1]?=some (.cells #[.int .i64 x.frm, .bool x.stems, .int .i64 x.num, .int .i64 x.den] 41)) (fun i _=>ls.length-(intOf i).toNat)
 case atStart=>
  refine⟨0,Nat.zero_le _,rfl,zeroLaw,rfl,?_,?_,?_,?_⟩
  ·exact Bw
  ·simp
  ·exact J_alloc (J_new _ _ _ rfl)
  ·exact J_new _ _ _ (by simp)
 case round=>
  obtain⟨k,hk,rfl,x,hx,hB,hsz,g0,g1⟩:=hrel
  have c0:wr.cell? ⟨w.heap.size+1,0,none⟩=some (.int .i64 x.frm):=by simp[World.cell?,g1]
  have c1:wr.cell? ⟨w.heap.size+1,1,none⟩=some (.bool x.stems):=by simp[World.cell?,g1]
  have c2:wr.cell? ⟨w.heap.size+1,2,none⟩=some (.int .i64 x.num):=by simp[World.cell?,g1]
  have c3:wr.cell? ⟨w.heap.size+1,3,none⟩=some (.int .i64 x.den):=by simp[World.cell?,g1]
  have d0:wr.cell? ⟨w.heap.size,0,none⟩=some (.int .i64 0):=by simp[World.cell?,g0]
  have d1:wr.cell? ⟨w.heap.size,1,none⟩=some (.bool false):=by simp[World.cell?,g0]
  have d2:wr.cell? ⟨w.heap.size,2,none⟩=some (.int .i64 0):=by simp[World.cell?,g0]
  have d3:wr.cell? ⟨w.heap.size,3,none⟩=some (.int .i64 0):=by simp[World.cell?,g0]
  have f0:wr.frozen? ⟨w.heap.size,0,none⟩=false:=by simp[World.frozen?,g0]
  have f1:wr.frozen? ⟨w.heap.size+1,0,none⟩=false:=by simp[World.frozen?,g1]
  have e1:wr.frozen? ⟨w.heap.size+1,1,none⟩=false:=by simp[World.frozen?,g1]
  have e2:wr.frozen? ⟨w.heap.size+1,2,none⟩=false:=by simp[World.frozen?,g1]
  have e3:wr.frozen? ⟨w.heap.size+1,3,none⟩=false:=by simp[World.frozen?,g1]
  have m1:wr.frozen? ⟨w.heap.size,1,none⟩=false:=by simp[World.frozen?,g0]
  have m2:wr.frozen? ⟨w.heap.size,2,none⟩=false:=by simp[World.frozen?,g0]
  have m3:wr.frozen? ⟨w.heap.size,3,none⟩=false:=by simp[World.frozen?,g0]
  have hs1:w.heap.size+1<wr.heap.size:=by omega
  have hs0:w.heap.size<wr.heap.size:=by omega
  have hs2:w.heap.size+1≠wr.heap.size:=by omega
  by_cases hlt:k<ls.length
  ·obtain⟨b,off,rfl,hb,hc⟩:=(hS.keep hB).at hlt
   have h0:wr.cell? ⟨b,off+k*4,none⟩=some (.int .i64 ls[k].frm):=hc 0 _ rfl
   have h1:wr.cell? ⟨b,off+k*4+1,none⟩=some (.bool ls[k].stems):=hc 1 _ rfl
   have h2:wr.cell? ⟨b,off+k*4+2,none⟩=some (.int .i64 ls[k].num):=hc 2 _ rfl
   have h3:wr.cell? ⟨b,off+k*4+3,none⟩=some (.int .i64 ls[k].den):=hc 3 _ rfl
   clear hc hS
   go_wp2_with fail
   ·refine⟨⟨k+1,by omega,by go_num,ls[k],by rw[lawOn_snoc ls day hlt,if_pos (by simp;assumption)],?_,?_,?_,?_⟩,by simp[intOf];omega⟩
    ·exact B_alloc (B_set (B_set (B_set (B_set hB (by simp) _) (by simp) _) (by simp) _) (by simp) _) _
    ·simp;omega
    ·exact J_alloc (((B_set (B_set (B_set (B_set (Below.refl (w.heap.size+1) wr) (by simp) _) (by simp) _) (by simp) _) (by simp) _).block w.heap.size (by omega)).trans g0)
    ·exact J_alloc (J_set4 g1)
   ·refine⟨⟨k+1,by omega,by go_num,lawOnP (ls.take k) day,by rw[lawOn_snoc ls day hlt,if_neg (by simp;assumption)],?_,?_,?_,?_⟩,by simp[intOf];omega⟩
    ·exact B_alloc hB _
    ·simp;omega
    ·exact J_alloc g0
    ·exact J_alloc (by simpa[hx]using g1)
  ·go_wp2_with fail
   have hk2:ls.take k=ls:=List.take_of_length_le (by omega)
   have g4:=J_set4 (a:= .int .i64 (lawOnP ls day).frm) (b:= .bool (lawOnP ls day).stems) (c:= .int .i64 (lawOnP ls day).num) (d:= .int .i64 (lawOnP ls day).den) g0
   rw[hk2]
   refine bodyPost_ret (v:=(lawOnP ls day).v) ?_ rfl ?_
   ·refine results_law rfl _ _ w.heap.size _ rfl ?_ ?_ ?_ ?_<;>simp[World.cell?,g4]
   ·exact Ret.of rfl (B_set (B_set (B_set (B_set hB (by simp) _) (by simp) _) (by simp) _) (by simp) _)
end Go.Proofs.YtkhkhnellekofaaGreatDoor
