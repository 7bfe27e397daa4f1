import Derived.Test.YtogklihlgindkaaGreatDoorJB
set_option linter.all false
set_option maxRecDepth 100000
set_option maxHeartbeats 4000000
namespace Go.Proofs.YtogklihlgindkaaGreatDoor
open Go.RowKit Go.Shelf
attribute [local go_sem] World.cell?_alloc_mark zaf za3 zam za6 zat zau zav zaw zax zay zaz
attribute [local go_sem] zao zac
def isDay0:zba 0=true:=by decide
def inR04:inR 0 0 4=true:=by decide
def inR14:inR 1 0 4=true:=by decide
def inR24:inR 2 0 4=true:=by decide
def inR34:inR 3 0 4=true:=by decide
def inR44:inR 4 0 4=true:=by decide
def ziM(x:Rec)(w:World)(h1:x.name.size<=100000)(h2:x.other.size<=100000)(h3:x.place.size<=100000):Calls Tryz.prog 65 #[x.v] w (Ret w (.int .i64 (zcu x))):=by
 obtain⟨R,hR⟩:=Qd (zcu x)
 rw[<-hR];have HR:=zHi hR;clear hR;obtain⟨kd,nm,ot,pl,dy,tl,nu,de⟩:=x;simp only at h1 h2 h3;unfold Rec.v;go_enter Tryz.func65,Tryz.ntmps65
 cases hk:inR kd 0 4
 ·go_wp2_with (go_at_call 51;refine(zbj _ _ _ _).mono ?_;rintro e wq ⟨rfl,rfl⟩;rw[hk])
  go_ret
  exact Ret.of (zb7 (by rw[HR.o];simp[zcu, *])) Bw
 ·go_upto_region 3 with(go_at_call 51;refine(zbj _ _ _ _).mono ?_;rintro e wq ⟨rfl,rfl⟩;rw[hk])
  go_cut [11]from 7 (λv wc=>v=.bool (!zba dy||!zba tl)/\Qa w wc/\wc.heap[w.heap.size]?=some (.cells #[.int .i64 kd,.string nm,.string ot,.string pl,.int .i64 dy,.int .i64 tl,.int .i64 nu,.int .i64 de] 52))
  case first=>
   go_wp2_with (first
                 |(go_at_call 51;refine(zbj _ _ _ _).mono ?_;intro e wq hq;rcases Ret0.bools hq with⟨rfl,⟨hb,rfl⟩|⟨hb,rfl⟩⟩<;>clear hq)
                 |(go_at_call 22;refine(zc7 _ _).mono ?_;intro e wq hq;rcases Ret0.bools hq with⟨rfl,⟨hb,rfl⟩|⟨hb,rfl⟩⟩<;>clear hq)
                 |(go_at_call 44;refine(zbZ _ _ Mds).mono ?_;intro e wq hq;rcases Ret0.bools hq with⟨rfl,⟨hb,rfl⟩|⟨hb,rfl⟩⟩<;>clear hq))
   all_goals go_meet
   all_goals(refine⟨zaT (by first|(simp[noB, *];done)),Bw,by first|exact zas _ _ _ rfl|repeat(first|assumption|with_reducible refine zal ?_|with_reducible refine zbF ?_|with_reducible refine J_ne McS ?_)⟩)
  case rest=>
   obtain⟨rfl,hB,g0⟩:=hcut;obtain⟨d0,d1,d2,d3,d4,d5,d6,d7⟩:=cF8 g0;have e0:w.heap.size<wc.heap.size:=zab g0;cases hb:(!zba dy||!zba tl)
   ·have eH:∀W,Sem.run Tryz.prog (Instr.index 155 (.agg #[.string nm,.string ot,.string pl]) (.int .i64 0)) W=.ok (.string nm) W:=λW=>by kernel_rfl
    have gD:∀W,Sem.run Tryz.prog (Instr.index 155 (.agg #[.string nm,.string ot,.string pl]) (.int .i64 1)) W=.ok (.string ot) W:=λW=>by kernel_rfl
    have cP:∀W,Sem.run Tryz.prog (Instr.index 155 (.agg #[.string nm,.string ot,.string pl]) (.int .i64 2)) W=.ok (.string pl) W:=λW=>by kernel_rfl
    go_upto_block 1 with fail
    go_cut [4,29]from 30 (λ_ _ W=>W=wc/\zb0 nm=true/\zb0 ot=true/\zb0 pl=true)
    case first=>
     go_wp2_with fail
     go_loopw [4,29] (λ_ i wr=>∃k:Nat,k<=3/\i=.int .i64 k/\wr=wc/\Hid (∀j s,j<k->[nm,ot,pl][j]?=some s->zb0 s=true)) (λ_ i _=>3-(intOf i).toNat)
     case atStart=>exact⟨0,by omega,rfl,rfl,λj s hj=>absurd hj (Nat.not_lt_zero _)⟩
     case round=>
      obtain⟨k,uE,rfl,rfl,HK⟩:=hrel;obtain rfl|rfl|rfl|rfl:k=0\/k=1\/k=2\/k=3:=by omega
      ·cases hz:noB nm
       ·have jo:(nm).toList.isEmpty=false:=hz;have jp:¬(nm).toList=[]:=MeB;cases hq:zaU nm
        ·have cZ:zb0 nm=false:=Meg;exact MT
        ·have cZ:zb0 nm=true:=Meg;have nP:=zHi cZ;clear cZ;go_wp2_with (go_at_call 44;refine(zbZ _ _ Mds).mono ?_;rintro e wq ⟨rfl,rfl⟩;rw[hq])
         exact Mae
       ·have jo:(nm).toList.isEmpty=true:=hz;have jp:(nm).toList=[]:=MeB;have cZ:zb0 nm=true:=by simp[zb0,hz]
        have nP:=zHi cZ;clear cZ;go_wp2_with fail
        exact Mae
      ·have cJ:=HK.o 0 nm McS rfl;cases hz:noB ot
       ·have jo:(ot).toList.isEmpty=false:=hz;have jp:¬(ot).toList=[]:=MeB;cases hq:zaU ot
        ·have cZ:zb0 ot=false:=Meg;exact MT
        ·have cZ:zb0 ot=true:=Meg;have nP:=zHi cZ;clear cZ;go_wp2_with (go_at_call 44;refine(zbZ _ _ Mds).mono ?_;rintro e wq ⟨rfl,rfl⟩;rw[hq])
         exact Maf
       ·have jo:(ot).toList.isEmpty=true:=hz;have jp:(ot).toList=[]:=MeB;have cZ:zb0 ot=true:=by simp[zb0,hz]
        have nP:=zHi cZ;clear cZ;go_wp2_with fail
        exact Maf
      ·have cJ:=HK.o 0 nm McS rfl;have eT:=HK.o 1 ot McS rfl;cases hz:noB pl
       ·have jo:(pl).toList.isEmpty=false:=hz;have jp:¬(pl).toList=[]:=MeB;cases hq:zaU pl
        ·have cZ:zb0 pl=false:=Meg;exact MT
        ·have cZ:zb0 pl=true:=Meg;have nP:=zHi cZ;clear cZ;go_wp2_with (go_at_call 44;refine(zbZ _ _ Mds).mono ?_;rintro e wq ⟨rfl,rfl⟩;rw[hq])
         exact Mag
       ·have jo:(pl).toList.isEmpty=true:=hz;have jp:(pl).toList=[]:=MeB;have cZ:zb0 pl=true:=by simp[zb0,hz]
        have nP:=zHi cZ;clear cZ;go_wp2_with fail
        exact Mag
      ·go_wp2_with fail
       go_meet
       exact⟨rfl,HK.o 0 nm McS rfl,HK.o 1 ot McS rfl,HK.o 2 pl McS rfl⟩
    case rest=>
     obtain⟨rfl,q1,q2,q3⟩:=hcut;have fw:kd=0\/kd=1\/kd=2\/kd=3\/kd=4:=by
      unfold inR at hk;simp at hk;omega
     have HB:=zHi hB;have hs:=hB.size;have p1:zba dy=true:=by cases hd:zba dy<;>simp_all
     have p2:zba tl=true:=by cases hd:zba tl<;>simp_all
     clear eH gD cP g0 hB hb;cases z1:noB nm
     ·have y1:nm.toList.isEmpty=false:=z1;have y1':¬nm.toList=[]:=by simpa using y1
      rcases fw with rfl|rfl|rfl|rfl|rfl
      ·cases z2:noB ot
       ·exact Mcs
       ·exact Mcj
      ·cases z2:noB ot
       ·exact Mcs
       ·exact Mcj
      ·cases z2:noB ot
       ·have y2:ot.toList.isEmpty=false:=z2;have w2:¬ot.toList=[]:=MeJ;cases z3:noB pl
        ·exact McR
        ·have y3:pl.toList.isEmpty=true:=z3;have w3:pl.toList=[]:=MeK;by_cases a1:dy=0
         ·skip
          exact McP
         ·skip
          exact Mh
       ·have y2:ot.toList.isEmpty=true:=z2;have w2:ot.toList=[]:=MeJ;exact Mh
      ·cases z2:noB ot
       ·exact Mcs
       ·have y2:ot.toList.isEmpty=true:=z2;have w2:ot.toList=[]:=MeJ;cases z3:noB pl
        ·have y3:pl.toList.isEmpty=false:=z3;have w3:¬pl.toList=[]:=MeK;by_cases t1:tl=0
         ·skip
          cases v1:inR de 1 12
          ·go_wp2_with (go_at_call 51;refine(zbj _ _ _ _).mono ?_;rintro e wq ⟨rfl,rfl⟩;rw[v1])
           exact Mbl
          ·cases v2:inR nu 1 de
           ·go_wp2_with (go_at_call 51;refine(zbj _ _ _ _).mono ?_;rintro e wq ⟨rfl,rfl⟩;first|rw[v1]|rw[v2])
            exact Mbl
           ·have b1:1<=de/\de<=12:=by unfold inR at v1;simpa using v1
            have b2:1<=nu/\nu<=de:=by unfold inR at v2;simpa using v2
            have HG:=zHi (λW=>zkr nu de W McS McS);clear b1 b2;by_cases v3:Int.gcd nu de=1
            ·have zU:Hid (R=0):=Mej;rw[v3]at HG;exact Maa
            ·have v4:((Int.gcd nu de:Int)==1)=false:=by simpa using(by omega:¬(Int.gcd nu de:Int)=1)
             have v5:¬((Int.gcd nu de:Nat):Int)=1:=McS;have zU:Hid (R=3):=Mej;exact Maa
         ·skip
          exact Mh
        ·exact McF
      ·cases z2:noB ot
       ·exact Mcs
       ·have y2:ot.toList.isEmpty=true:=z2;have w2:ot.toList=[]:=MeJ;cases z3:noB pl
        ·have y3:pl.toList.isEmpty=false:=z3;have w3:¬pl.toList=[]:=MeK;by_cases u1:nu=0
         ·skip
          by_cases u2:de=0
          ·skip
           by_cases l1:tl<=dy
           ·skip
            exact Mh
           ·skip
            exact Mh
          ·skip
           exact Mh
         ·skip
          exact Mh
        ·exact McF
     ·have y1:nm.toList.isEmpty=true:=z1;have y1':nm.toList=[]:=by simpa using y1
      rcases fw with rfl|rfl|rfl|rfl|rfl
      ·exact Mh
      ·exact Mh
      ·exact Mh
      ·exact Mh
      ·exact Mh
   ·(go_wp2_with fail
     go_ret
     exact Ret.of (zb7 (by rw[HR.o];simp[zcu, *])) Bw)
