import Derived.Test.YtbobmplpdmplkaaGreatDoorU0
import Derived.Deep.RegionLaw
set_option linter.all false
set_option maxRecDepth 100000
set_option maxHeartbeats 4000000
namespace Go.Proofs.YtbobmplpdmplkaaGreatDoor
open Go.RowKit
attribute [local go_sem] World.cell?_alloc_mark zaf za4 zam za7 zaw zax zay zaz za0 za1 za2
theorem zbi(n lo hi:Int)(w:World):Calls Tryz.prog 87 #[.int .i64 n,.int .i64 lo,.int .i64 hi] w (Ret0 w (.bool (inR n lo hi))):=by
 go_enter Tryz.func87,Tryz.ntmps87
 go_wp2_with fail
 all_goals go_ret
 all_goals exact⟨by first|(simp_all[inR];done)|(simp_all[inR];omega),rfl⟩
theorem zcP(n:Int)(w:World):Calls Tryz.prog 62 #[.int .i64 n] w (Ret0 w (.bool (zbn n))):=by
 go_enter Tryz.func62,Tryz.ntmps62
 go_wp2_with (go_at_call 87;refine(zbi _ _ _ _).mono ?_;rintro e wq ⟨rfl,rfl⟩)
 go_ret
 exact⟨rfl,rfl⟩
theorem zbX(s:ByteArray)(w:World)(hs:s.size<=100000):Calls Tryz.prog 61 #[.string s] w (Ret0 w (.bool (zaS s))):=by
 go_enter Tryz.func61,Tryz.ntmps61
 go_wp2_with fail
 go_loop [7] (fun i=>∃k:Nat,k<=s.size/\i=.int .i64 k/\nmGo (zdp s) 0=nmGo ((zdp s).drop k) k) (fun i=>s.size-(intOf i).toNat)
 case atStart=>exact⟨0,Nat.zero_le _,rfl,rfl⟩
 case round=>
  obtain⟨k,hk,rfl,hf⟩:=hrel;by_cases ae:k<s.size
  ·rw[zhR s k ae,show s.data[k]=s[k]from rfl]at hf;have HF:=zHi hf;clear hf;have HL:=zHi ae;rcases Nat.eq_zero_or_pos k with rfl|aQ
   ·go_wp2_with fail
    all_goals first
     |(go_round
       case rel=>exact⟨1,by have:=HL.o;omega,rfl,by rw[HF.o,nmGo,if_neg (by go_tidy;simp[zcX]at*;omega)]⟩
       case measure=>have:=HL.o;simp[intOf];omega)
     |(go_ret
       refine⟨congrArg Ending.returned (zaO ?_),rfl⟩;rw[zaS,HF.o,nmGo,if_pos (by go_tidy;simp[zcX]at*;omega)]
       rfl)
   ·have hz:((k:Int)==0)=false:=by simp;omega
    have iT:¬((k:Int)=0):=by omega
    go_wp2_with fail
    all_goals first
     |(go_round
       case rel=>exact⟨k+1,by have:=HL.o;omega,by go_num,by rw[HF.o,nmGo,if_neg (by go_tidy;simp[zcX]at*;omega)]⟩
       case measure=>have:=HL.o;simp[intOf];omega)
     |(go_ret
       refine⟨congrArg Ending.returned (zaO ?_),rfl⟩;rw[zaS,HF.o,nmGo,if_pos (by go_tidy;simp[zcX]at*;omega)]
       rfl)
  ·rw[List.drop_eq_nil_of_le (by rw[zgG];omega)]at hf;go_wp2_with fail
   all_goals go_ret
   all_goals refine⟨congrArg Ending.returned (zaO ?_),rfl⟩
   all_goals simp[zaS,hf,nmGo, *]
theorem zn2(x y:Int):Int.gcd y (x.tmod y)=Int.gcd x y:=by
 rw[Int.gcd,Int.gcd,Int.natAbs_tmod,Nat.gcd_comm,<-Nat.gcd_rec,Nat.gcd_comm]
theorem tmod_lt(x y:Int)(h:y≠0):(x.tmod y).natAbs<y.natAbs:=by
 rw[Int.natAbs_tmod];exact Nat.mod_lt _ (by omega)
theorem zjZ(a b:Int)(w:World)(ha:a.natAbs<=4611686018427387904)(hb:b.natAbs<=4611686018427387904):Calls Tryz.prog 112 #[.int .i64 a,.int .i64 b] w (Ret w (.int .i64 (Int.gcd a b))):=by
 go_enter Tryz.func112,Tryz.ntmps112
 go_wp2_with fail
 go_loopw [0,1] (fun x y wr=>∃p q:Int,x=.int .i64 p/\y=.int .i64 q/\p.natAbs<=4611686018427387904/\q.natAbs<=4611686018427387904/\Int.gcd a b=Int.gcd p q/\∃z,wr=w.ext z) (fun _ y _=>(intOf y).natAbs)
 case atStart=>exact⟨a,b,rfl,rfl,ha,hb,rfl,zaY (Below.refl _ _)⟩
 case round=>
  obtain⟨p,q,rfl,rfl,hp,hq,hg,z,rfl⟩:=hrel;by_cases hz:q=0
  ·subst hz;go_wp2_with fail
   all_goals go_ret
   all_goals exact Ret.of (zb5 (by omega)) Bw
  ·have fu:(q==0)=false:=by simp[hz]
   have hm:=tmod_lt p q hz;obtain⟨hG,HG⟩:=yH2 (zn2 p q) hg;clear hg;have uf:IntKind.i64.wrap (p.tmod q)=p.tmod q:=IntWalk.i64_in _ (by omega);go_wp2_with fail
   go_quiet (fail)
   go_wp2_with fail
   all_goals(first
    |(go_round
      case rel=>exact⟨q,p.tmod q,rfl,rfl,hq,by omega,by rw[HG.o,hG.o],zaY Bw⟩
      case measure=>simp only[intOf];omega))
attribute [local go_sem] zan zac
theorem zdC{fn:Func}{p:Tmp}{ty:TypeId}(h:fn.results= #[.cell p ty])(tmps:Array Value)(P:Program)(w:World):
 (results fn tmps).run P w=((asAddr (tmps.getD p undef)).run P w).andThen fun a w₁=>(loadVar ty a).run P w₁:=by
 simp only[results,h];simp[Sem.run_bind]
theorem zbU{fn:Func}{p:Tmp}(h:fn.results= #[.cell p 31])(tmps:Array Value)(w:World)(B:Nat)(x y:Int)(hp:tmps.getD p undef=.pointer (some ⟨B,0,none⟩))
 (h0:w.cell? ⟨B,0,none⟩=some (.int .i64 x))(h1:w.cell? ⟨B,1,none⟩=some (.int .i64 y)):(results fn tmps).run Tryz.prog w=.ok (.agg #[.int .i64 x,.int .i64 y]) w:=by
 rw[zdC h,hp];go_simp
def zaA(r:Rat):Value:=.agg #[.int .i64 r.num,.int .i64 r.den]
theorem zn3{a b:Int}(h:0<b):0<Int.gcd a b:=Nat.pos_of_ne_zero (fun e=>by have:=(Int.gcd_eq_zero_iff.1 e).2;omega)
theorem zdI(a b:Int)(w:World)(ha:a.natAbs<=4611686018427387904)(ba:0<b)(hb:b<=4611686018427387904):Calls Tryz.prog 174 #[.int .i64 a,.int .i64 b] w (Ret w (zaA (Rat.divInt a b))):=by
 have hg:=zn3 (a:=a) ba;obtain⟨g,HG⟩:∃g:Int,g=(Int.gcd a b:Int):=⟨_,rfl⟩
 have oG:0<g:=by omega
 have si:(g==0)=false:=by simp;omega
 have e1:a.tdiv g=(Rat.divInt a b).num:=by rw[zfp ba,HG,zef (Int.gcd_dvd_left ..)]
 have e2:b.tdiv g=((Rat.divInt a b).den:Int):=by rw[zee ba,HG,zef (Int.gcd_dvd_right ..)]
 have n1:(a.tdiv g).natAbs<=4611686018427387904:=Nat.le_trans (Int.natAbs_tdiv_le_natAbs _ _) ha;have n2:(b.tdiv g).natAbs<=4611686018427387904:=Nat.le_trans (Int.natAbs_tdiv_le_natAbs _ _) (by omega);have w1:wrap64 (a.tdiv g)=a.tdiv g:=by unfold wrap64;omega
 have w2:wrap64 (b.tdiv g)=b.tdiv g:=by unfold wrap64;omega
 have HA:=zHi ha;have gU:b.natAbs<=4611686018427387904:=by omega
 obtain⟨HB,E1,E2⟩:=yH3 gU e1 e2;clear ha hb ba hg e1 e2 n1 n2 gU;go_enter Tryz.func174,Tryz.ntmps174
 go_wp2_with (go_at_call 112;refine(zjZ _ _ _ HA.o HB.o).mono ?_;rintro e w1 ⟨rfl,z1,rfl⟩;rw[<-HG])
 go_region
 go_wp2_with fail
 refine bodyPost_ret (v:=zaA (Rat.divInt a b)) ?_ rfl ?_
 ·refine zbU rfl _ _ w.heap.size _ _ rfl ?_ ?_
  ·rw[<-E1.o];simp[go_sem];rw[<-HG];exact w1
  ·rw[<-E2.o];simp[go_sem];rw[<-HG];exact w2
 ·exact Ret.of rfl Bw
def zaI(r:Rat):Prop:=r.num.natAbs<=1000000000/\r.den<=1000000000
theorem zaN{a b:Int}(ha:a.natAbs<=1000000000)(hb:b.natAbs<=1000000000): -1000000000000000000<=a*b/\a*b<=1000000000000000000:=by
 have h:(a*b).natAbs<=1000000000*1000000000:=by rw[Int.natAbs_mul];exact Nat.mul_le_mul ha hb
 omega
theorem add5I(a b c d:Int)(w:World)(ha:a.natAbs<=1000000000)(hb:b.natAbs<=1000000000)(hc:c.natAbs<=1000000000)(hd:d.natAbs<=1000000000)(ba:0<b)(ik:0<d):Calls Tryz.prog 149 #[.agg #[.int .i64 a,.int .i64 b],.agg #[.int .i64 c,.int .i64 d]] w (Ret w (zaA (Rat.divInt (a*d+c*b) (b*d)))):=by
 have m1:=zaN ha hd;have m2:=zaN hc hb;have m3:=zaN hb hd;have m4:0<b*d:=Int.mul_pos ba ik;obtain⟨m1,n1⟩:=m1;obtain⟨m2,n2⟩:=m2;obtain⟨m3,n3⟩:=m3;have w1:IntKind.i64.wrap (a*d)=a*d:=IntWalk.i64_in _ (by omega);have w2:IntKind.i64.wrap (c*b)=c*b:=IntWalk.i64_in _ (by omega);have w3:IntKind.i64.wrap (b*d)=b*d:=IntWalk.i64_in _ (by omega);have hs:(a*d+c*b).natAbs<=4611686018427387904:=by omega
 have hl:b*d<=4611686018427387904:=by omega
 obtain⟨HS,HL,H4⟩:=yH3 hs hl m4;clear hs hl m4 ha hb hc hd;go_enter Tryz.func149,Tryz.ntmps149
 go_wp2_with (go_at_call 174;refine(zdI _ _ _ HS.o H4.o HL.o).mono ?_;rintro e w1 ⟨rfl,z1,rfl⟩;simp only[zaA])
 refine bodyPost_ret (v:=zaA (Rat.divInt (a*d+c*b) (b*d))) ?_ rfl ?_
 ·refine zbU rfl _ _ _ _ _ rfl ?_ ?_
  ·simp[go_sem]
  ·simp[go_sem]
 ·exact Ret.of rfl Bw
theorem zn4(p q:Rat)(w:World)(bU:zaI p)(dw:zaI q):Calls Tryz.prog 149 #[zaA p,zaA q] w (Ret w (zaA (p+q))):=by
 rw[zju];exact add5I _ _ _ _ _ bU.1 (by have:=bU.2;omega) dw.1 (by have:=dw.2;omega) (zbT p) (zbT q)
theorem sub5I(a b c d:Int)(w:World)(ha:a.natAbs<=1000000000)(hb:b.natAbs<=1000000000)(hc:c.natAbs<=1000000000)(hd:d.natAbs<=1000000000)(ba:0<b)(ik:0<d):Calls Tryz.prog 153 #[.agg #[.int .i64 a,.int .i64 b],.agg #[.int .i64 c,.int .i64 d]] w (Ret w (zaA (Rat.divInt (a*d-c*b) (b*d)))):=by
 have m1:=zaN ha hd;have m2:=zaN hc hb;have m3:=zaN hb hd;have m4:0<b*d:=Int.mul_pos ba ik;obtain⟨m1,n1⟩:=m1;obtain⟨m2,n2⟩:=m2;obtain⟨m3,n3⟩:=m3;have w1:IntKind.i64.wrap (a*d)=a*d:=IntWalk.i64_in _ (by omega);have w2:IntKind.i64.wrap (c*b)=c*b:=IntWalk.i64_in _ (by omega);have w3:IntKind.i64.wrap (b*d)=b*d:=IntWalk.i64_in _ (by omega);have hs:(a*d-c*b).natAbs<=4611686018427387904:=by omega
 have hl:b*d<=4611686018427387904:=by omega
 obtain⟨HS,HL,H4⟩:=yH3 hs hl m4;clear hs hl m4 ha hb hc hd;go_enter Tryz.func153,Tryz.ntmps153
 go_wp2_with (go_at_call 174;refine(zdI _ _ _ HS.o H4.o HL.o).mono ?_;rintro e w1 ⟨rfl,z1,rfl⟩;simp only[zaA])
 refine bodyPost_ret (v:=zaA (Rat.divInt (a*d-c*b) (b*d))) ?_ rfl ?_
 ·refine zbU rfl _ _ _ _ _ rfl ?_ ?_
  ·simp[go_sem]
  ·simp[go_sem]
 ·exact Ret.of rfl Bw
theorem zh5(p q:Rat)(w:World)(bU:zaI p)(dw:zaI q):Calls Tryz.prog 153 #[zaA p,zaA q] w (Ret w (zaA (p-q))):=by
 rw[zjv];exact sub5I _ _ _ _ _ bU.1 (by have:=bU.2;omega) dw.1 (by have:=dw.2;omega) (zbT p) (zbT q)
theorem zdJ(a b:Int)(w:World):Calls Tryz.prog 118 #[.agg #[.int .i64 a,.int .i64 b]] w (Ret w (.bool (za8 16 a b))):=by
 go_enter Tryz.func118,Tryz.ntmps118
 by_cases h1:inR b 1 16=true
 ·by_cases h2:inR a 0 b=true
  ·have x1:1<=b/\b<=16:=by simpa[inR]using h1
   have x2:0<=a/\a<=b:=by simpa[inR]using h2
   have g1:a.natAbs<=4611686018427387904:=by omega
   have g2:b.natAbs<=4611686018427387904:=by omega
   obtain⟨G1,G2⟩:=yH2 g1 g2;have hv:za8 16 a b=((Int.gcd a b:Int)==1):=by
    unfold za8;simp only[x1.1,x1.2,x2.1,x2.2,decide_true,Bool.true_and];rw[Bool.eq_iff_iff,beq_iff_eq,beq_iff_eq];omega
   have HV:=zHi hv;clear g1 g2 hv x1 x2
   go_wp2_with (first
    |(go_at_call 87;refine(zbi _ _ _ _).mono ?_;rintro e wq ⟨rfl,rfl⟩)
    |(go_at_call 112;refine(zjZ _ _ _ G1.o G2.o).mono ?_;rintro e w1 ⟨rfl,z1,rfl⟩))
   all_goals go_ret
   all_goals exact Ret.of (zaO (by rw[HV.o])) Bw
  ·have hv:za8 16 a b=false:=by
    unfold za8;simp[inR]at h1 h2⊢;omega
   go_wp2_with (go_at_call 87;refine(zbi _ _ _ _).mono ?_;rintro e wq ⟨rfl,rfl⟩)
   all_goals go_ret
   all_goals exact Ret.of (zaO (by rw[hv])) Bw
 ·have hv:za8 16 a b=false:=by
   unfold za8;simp[inR]at h1⊢;omega
  go_wp2_with (go_at_call 87;refine(zbi _ _ _ _).mono ?_;rintro e wq ⟨rfl,rfl⟩)
  all_goals go_ret
  all_goals exact Ret.of (zaO (by rw[hv])) Bw
