import Derived.Test.YthhgkjfgpkbliaaGreatDoorR9
set_option linter.all false
set_option maxRecDepth 100000
set_option maxHeartbeats 4000000
namespace Go.Proofs.YthhgkjfgpkbliaaGreatDoor
open Go.RowKit Go.Shelf
attribute [local go_sem] World.cell?_alloc_mark zae zav zai zaw zam zan zao zap zaq zar zas
attribute [local go_sem] zah zac
theorem isDay0:zbu 0=true:=by decide
theorem inR04:inR 0 0 4=true:=by decide
theorem inR14:inR 1 0 4=true:=by decide
theorem inR24:inR 2 0 4=true:=by decide
theorem inR34:inR 3 0 4=true:=by decide
theorem inR44:inR 4 0 4=true:=by decide
theorem zhv(x:Rec)(w:World)(h1:x.name.size<=100000)(h2:x.other.size<=100000)(h3:x.place.size<=100000):Calls Tryz.prog 166 #[x.v] w (Ret w (.int .i64 (zbX x))):=by
 obtain⟨R,hR⟩:∃R,R=zbX x:=⟨_,rfl⟩
 rw[<-hR];have HR:=zHi hR;clear hR;obtain⟨kd,nm,ot,pl,dy,tl,nu,de⟩:=x;simp only at h1 h2 h3;unfold Rec.v;go_enter Tryz.func166,Tryz.ntmps166
 cases hk:inR kd 0 4
 ·go_wp2_with (go_at_call 91;refine(zaS _ _ _ _).mono ?_;rintro e wq ⟨rfl,rfl⟩;rw[hk])
  go_ret
  exact Ret.of (zbU (by rw[HR.o];simp[zbX, *])) Bw
 ·go_upto_region 3 with(go_at_call 91;refine(zaS _ _ _ _).mono ?_;rintro e wq ⟨rfl,rfl⟩;rw[hk])
  go_cut [11]from 7 (fun v wc=>v=.bool (!zbu dy||!zbu tl)/\Below w.heap.size w wc/\wc.heap[w.heap.size]?=some (.cells #[.int .i64 kd,.string nm,.string ot,.string pl,.int .i64 dy,.int .i64 tl,.int .i64 nu,.int .i64 de] 123))
  case first=>
   go_wp2_with (first
                 |(go_at_call 91;refine(zaS _ _ _ _).mono ?_;intro e wq hq;rcases Ret0.bools hq with⟨rfl,⟨hb,rfl⟩|⟨hb,rfl⟩⟩<;>clear hq)
                 |(go_at_call 47;refine(zcu _ _).mono ?_;intro e wq hq;rcases Ret0.bools hq with⟨rfl,⟨hb,rfl⟩|⟨hb,rfl⟩⟩<;>clear hq)
                 |(go_at_call 92;refine(zbC _ _ MbT).mono ?_;intro e wq hq;rcases Ret0.bools hq with⟨rfl,⟨hb,rfl⟩|⟨hb,rfl⟩⟩<;>clear hq))
   all_goals go_meet
   all_goals(refine⟨zaW (by first|(simp[noB, *];done)),Bw,by first|exact za3 _ _ _ rfl|repeat(first|assumption|with_reducible refine zal ?_|with_reducible refine zbZ ?_|with_reducible refine J_ne MbC ?_)⟩)
  case rest=>
   obtain⟨rfl,hB,g0⟩:=hcut;obtain⟨d0,d1,d2,d3,d4,d5,d6,d7⟩:=cF8 g0;have e0:w.heap.size<wc.heap.size:=zad g0;cases hb:(!zbu dy||!zbu tl)
   ·have rN:∀W,Sem.run Tryz.prog (Instr.index 41 (.agg #[.string nm,.string ot,.string pl]) (.int .i64 0)) W=.ok (.string nm) W:=fun W=>by kernel_rfl
    have je:∀W,Sem.run Tryz.prog (Instr.index 41 (.agg #[.string nm,.string ot,.string pl]) (.int .i64 1)) W=.ok (.string ot) W:=fun W=>by kernel_rfl
    have cz:∀W,Sem.run Tryz.prog (Instr.index 41 (.agg #[.string nm,.string ot,.string pl]) (.int .i64 2)) W=.ok (.string pl) W:=fun W=>by kernel_rfl
    go_upto_block 1 with fail
    go_cut [4,29]from 30 (fun _ _ W=>W=wc/\zbw nm=true/\zbw ot=true/\zbw pl=true)
    case first=>
     go_wp2_with fail
     go_loopw [4,29] (fun _ i wr=>∃k:Nat,k<=3/\i=.int .i64 k/\wr=wc/\Hid (∀j s,j<k->[nm,ot,pl][j]?=some s->zbw s=true)) (fun _ i _=>3-(intOf i).toNat)
     case atStart=>exact⟨0,by omega,rfl,rfl,fun j s hj=>absurd hj (Nat.not_lt_zero _)⟩
     case round=>
      obtain⟨k,vJ,rfl,rfl,HK⟩:=hrel;obtain rfl|rfl|rfl|rfl:k=0\/k=1\/k=2\/k=3:=by omega
      ·cases hz:noB nm
       ·have fL:(nm).toList.isEmpty=false:=hz;have iK:¬(nm).toList=[]:=McE;cases hq:zaR nm
        ·have bN:zbw nm=false:=Mco;exact Mx
        ·have bN:zbw nm=true:=Mco;have kg:=zHi bN;clear bN;go_wp2_with (go_at_call 92;refine(zbC _ _ MbT).mono ?_;rintro e wq ⟨rfl,rfl⟩;rw[hq])
         exact MM
       ·have fL:(nm).toList.isEmpty=true:=hz;have iK:(nm).toList=[]:=McE;have bN:zbw nm=true:=by simp[zbw,hz]
        have kg:=zHi bN;clear bN;go_wp2_with fail
        exact MM
      ·have dJ:=HK.o 0 nm MbC rfl;cases hz:noB ot
       ·have fL:(ot).toList.isEmpty=false:=hz;have iK:¬(ot).toList=[]:=McE;cases hq:zaR ot
        ·have bN:zbw ot=false:=Mco;exact Mx
        ·have bN:zbw ot=true:=Mco;have kg:=zHi bN;clear bN;go_wp2_with (go_at_call 92;refine(zbC _ _ MbT).mono ?_;rintro e wq ⟨rfl,rfl⟩;rw[hq])
         exact MN
       ·have fL:(ot).toList.isEmpty=true:=hz;have iK:(ot).toList=[]:=McE;have bN:zbw ot=true:=by simp[zbw,hz]
        have kg:=zHi bN;clear bN;go_wp2_with fail
        exact MN
      ·have dJ:=HK.o 0 nm MbC rfl;have fG:=HK.o 1 ot MbC rfl;cases hz:noB pl
       ·have fL:(pl).toList.isEmpty=false:=hz;have iK:¬(pl).toList=[]:=McE;cases hq:zaR pl
        ·have bN:zbw pl=false:=Mco;exact Mx
        ·have bN:zbw pl=true:=Mco;have kg:=zHi bN;clear bN;go_wp2_with (go_at_call 92;refine(zbC _ _ MbT).mono ?_;rintro e wq ⟨rfl,rfl⟩;rw[hq])
         exact MO
       ·have fL:(pl).toList.isEmpty=true:=hz;have iK:(pl).toList=[]:=McE;have bN:zbw pl=true:=by simp[zbw,hz]
        have kg:=zHi bN;clear bN;go_wp2_with fail
        exact MO
      ·go_wp2_with fail
       go_meet
       exact⟨rfl,HK.o 0 nm MbC rfl,HK.o 1 ot MbC rfl,HK.o 2 pl MbC rfl⟩
    case rest=>
     obtain⟨rfl,q1,q2,q3⟩:=hcut;have dR:kd=0\/kd=1\/kd=2\/kd=3\/kd=4:=by
      unfold inR at hk;simp at hk;omega
     have HB:=zHi hB;have hs:=hB.size;have p1:zbu dy=true:=by cases hd:zbu dy<;>simp_all
     have p2:zbu tl=true:=by cases hd:zbu tl<;>simp_all
     clear rN je cz g0 hB hb;cases z1:noB nm
     ·have y1:nm.toList.isEmpty=false:=z1;have y1':¬nm.toList=[]:=by simpa using y1
      rcases dR with rfl|rfl|rfl|rfl|rfl
      ·cases z2:noB ot
       ·exact Mbp
       ·exact Mbl
      ·cases z2:noB ot
       ·exact Mbp
       ·exact Mbl
      ·cases z2:noB ot
       ·have y2:ot.toList.isEmpty=false:=z2;have w2:¬ot.toList=[]:=McI;cases z3:noB pl
        ·exact MbB
        ·have y3:pl.toList.isEmpty=true:=z3;have w3:pl.toList=[]:=McJ;by_cases a1:dy=0
         ·skip
          exact MbA
         ·skip
          exact Mf
       ·have y2:ot.toList.isEmpty=true:=z2;have w2:ot.toList=[]:=McI;exact Mf
      ·cases z2:noB ot
       ·exact Mbp
       ·have y2:ot.toList.isEmpty=true:=z2;have w2:ot.toList=[]:=McI;cases z3:noB pl
        ·have y3:pl.toList.isEmpty=false:=z3;have w3:¬pl.toList=[]:=McJ;by_cases t1:tl=0
         ·skip
          cases v1:inR de 1 12
          ·go_wp2_with (go_at_call 91;refine(zaS _ _ _ _).mono ?_;rintro e wq ⟨rfl,rfl⟩;rw[v1])
           exact Mat
          ·cases v2:inR nu 1 de
           ·go_wp2_with (go_at_call 91;refine(zaS _ _ _ _).mono ?_;rintro e wq ⟨rfl,rfl⟩;first|rw[v1]|rw[v2])
            exact Mat
           ·have b1:1<=de/\de<=12:=by unfold inR at v1;simpa using v1
            have b2:1<=nu/\nu<=de:=by unfold inR at v2;simpa using v2
            have HG:=zHi (fun W=>zi3 nu de W MbC MbC);clear b1 b2;by_cases v3:Int.gcd nu de=1
            ·have ll:Hid (R=0):=Mcr;rw[v3]at HG;exact MI
            ·have v4:((Int.gcd nu de:Int)==1)=false:=by simpa using(by omega:¬(Int.gcd nu de:Int)=1)
             have v5:¬((Int.gcd nu de:Nat):Int)=1:=MbC;have ll:Hid (R=3):=Mcr;exact MI
         ·skip
          exact Mf
        ·exact Mbx
      ·cases z2:noB ot
       ·exact Mbp
       ·have y2:ot.toList.isEmpty=true:=z2;have w2:ot.toList=[]:=McI;cases z3:noB pl
        ·have y3:pl.toList.isEmpty=false:=z3;have w3:¬pl.toList=[]:=McJ;by_cases u1:nu=0
         ·skip
          by_cases u2:de=0
          ·skip
           by_cases l1:tl<=dy
           ·skip
            exact Mf
           ·skip
            exact Mf
          ·skip
           exact Mf
         ·skip
          exact Mf
        ·exact Mbx
     ·have y1:nm.toList.isEmpty=true:=z1;have y1':nm.toList=[]:=by simpa using y1
      rcases dR with rfl|rfl|rfl|rfl|rfl
      ·exact Mf
      ·exact Mf
      ·exact Mf
      ·exact Mf
      ·exact Mf
   ·(go_wp2_with fail
     go_ret
     exact Ret.of (zbU (by rw[HR.o];simp[zbX, *])) Bw)
