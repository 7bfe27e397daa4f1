import Derived.Test.YtegdimedhfafjaaGreatDoorJB
set_option linter.all false
set_option maxRecDepth 100000
set_option maxHeartbeats 4000000
namespace Go.Proofs.YtegdimedhfafjaaGreatDoor
open Go.RowKit Go.Shelf
attribute [local go_sem] World.cell?_alloc_mark zaf za5 zao za8 zav zaw zax zay zaz za0 za1
attribute [local go_sem] zaq zad
theorem isDay0:zb0 0=true:=by decide
theorem inR04:inR 0 0 4=true:=by decide
theorem inR14:inR 1 0 4=true:=by decide
theorem inR24:inR 2 0 4=true:=by decide
theorem inR34:inR 3 0 4=true:=by decide
theorem inR44:inR 4 0 4=true:=by decide
theorem ziD(x:Rec)(w:World)(h1:x.name.size<=100000)(h2:x.other.size<=100000)(h3:x.place.size<=100000):Calls Tryz.prog 72 #[x.v] w (Ret w (.int .i64 (zcr x))):=by
 obtain⟨R,hR⟩:∃R,R=zcr x:=⟨_,rfl⟩
 rw[<-hR];have HR:=zHi hR;clear hR;obtain⟨kd,nm,ot,pl,dy,tl,nu,de⟩:=x;simp only at h1 h2 h3;unfold Rec.v;go_enter Tryz.func72,Tryz.ntmps72
 cases hk:inR kd 0 4
 ·go_wp2_with (go_at_call 45;refine(zbi _ _ _ _).mono ?_;rintro e wq ⟨rfl,rfl⟩;rw[hk])
  go_ret
  exact Ret.of (zbC (by rw[HR.o];simp[zcr, *])) Bw
 ·go_upto_region 3 with(go_at_call 45;refine(zbi _ _ _ _).mono ?_;rintro e wq ⟨rfl,rfl⟩;rw[hk])
  go_cut [11]from 7 (fun v wc=>v=.bool (!zb0 dy||!zb0 tl)/\Below w.heap.size w wc/\wc.heap[w.heap.size]?=some (.cells #[.int .i64 kd,.string nm,.string ot,.string pl,.int .i64 dy,.int .i64 tl,.int .i64 nu,.int .i64 de] 58))
  case first=>
   go_wp2_with (first
                 |(go_at_call 45;refine(zbi _ _ _ _).mono ?_;intro e wq hq;rcases Ret0.bools hq with⟨rfl,⟨hb,rfl⟩|⟨hb,rfl⟩⟩<;>clear hq)
                 |(go_at_call 46;refine(zcI _ _).mono ?_;intro e wq hq;rcases Ret0.bools hq with⟨rfl,⟨hb,rfl⟩|⟨hb,rfl⟩⟩<;>clear hq)
                 |(go_at_call 47;refine(zca _ _ Mc2).mono ?_;intro e wq hq;rcases Ret0.bools hq with⟨rfl,⟨hb,rfl⟩|⟨hb,rfl⟩⟩<;>clear hq))
   all_goals go_meet
   all_goals(refine⟨zaO (by first|(simp[noB, *];done)),Bw,by first|exact zas _ _ _ rfl|repeat(first|assumption|with_reducible refine zak ?_|with_reducible refine zbv ?_|with_reducible refine J_ne Mcm ?_)⟩)
  case rest=>
   obtain⟨rfl,hB,g0⟩:=hcut;obtain⟨d0,d1,d2,d3,d4,d5,d6,d7⟩:=cF8 g0;have e0:w.heap.size<wc.heap.size:=zab g0;cases hb:(!zb0 dy||!zb0 tl)
   ·have fu:∀W,Sem.run Tryz.prog (Instr.index 156 (.agg #[.string nm,.string ot,.string pl]) (.int .i64 0)) W=.ok (.string nm) W:=fun W=>by kernel_rfl
    have jW:∀W,Sem.run Tryz.prog (Instr.index 156 (.agg #[.string nm,.string ot,.string pl]) (.int .i64 1)) W=.ok (.string ot) W:=fun W=>by kernel_rfl
    have dA:∀W,Sem.run Tryz.prog (Instr.index 156 (.agg #[.string nm,.string ot,.string pl]) (.int .i64 2)) W=.ok (.string pl) W:=fun W=>by kernel_rfl
    go_upto_block 1 with fail
    go_cut [4,29]from 30 (fun _ _ W=>W=wc/\zb1 nm=true/\zb1 ot=true/\zb1 pl=true)
    case first=>
     go_wp2_with fail
     go_loopw [4,29] (fun _ i wr=>∃k:Nat,k<=3/\i=.int .i64 k/\wr=wc/\Hid (∀j s,j<k->[nm,ot,pl][j]?=some s->zb1 s=true)) (fun _ i _=>3-(intOf i).toNat)
     case atStart=>exact⟨0,by omega,rfl,rfl,fun j s hj=>absurd hj (Nat.not_lt_zero _)⟩
     case round=>
      obtain⟨k,ud,rfl,rfl,HK⟩:=hrel;obtain rfl|rfl|rfl|rfl:k=0\/k=1\/k=2\/k=3:=by omega
      ·cases hz:noB nm
       ·have jb:(nm).toList.isEmpty=false:=hz;have jc:¬(nm).toList=[]:=Mea;cases hq:zaS nm
        ·have dN:zb1 nm=false:=MdP;exact MP
        ·have dN:zb1 nm=true:=MdP;have nj:=zHi dN;clear dN;go_wp2_with (go_at_call 47;refine(zca _ _ Mc2).mono ?_;rintro e wq ⟨rfl,rfl⟩;rw[hq])
         exact M7
       ·have jb:(nm).toList.isEmpty=true:=hz;have jc:(nm).toList=[]:=Mea;have dN:zb1 nm=true:=by simp[zb1,hz]
        have nj:=zHi dN;clear dN;go_wp2_with fail
        exact M7
      ·have cY:=HK.o 0 nm Mcm rfl;cases hz:noB ot
       ·have jb:(ot).toList.isEmpty=false:=hz;have jc:¬(ot).toList=[]:=Mea;cases hq:zaS ot
        ·have dN:zb1 ot=false:=MdP;exact MP
        ·have dN:zb1 ot=true:=MdP;have nj:=zHi dN;clear dN;go_wp2_with (go_at_call 47;refine(zca _ _ Mc2).mono ?_;rintro e wq ⟨rfl,rfl⟩;rw[hq])
         exact M8
       ·have jb:(ot).toList.isEmpty=true:=hz;have jc:(ot).toList=[]:=Mea;have dN:zb1 ot=true:=by simp[zb1,hz]
        have nj:=zHi dN;clear dN;go_wp2_with fail
        exact M8
      ·have cY:=HK.o 0 nm Mcm rfl;have gT:=HK.o 1 ot Mcm rfl;cases hz:noB pl
       ·have jb:(pl).toList.isEmpty=false:=hz;have jc:¬(pl).toList=[]:=Mea;cases hq:zaS pl
        ·have dN:zb1 pl=false:=MdP;exact MP
        ·have dN:zb1 pl=true:=MdP;have nj:=zHi dN;clear dN;go_wp2_with (go_at_call 47;refine(zca _ _ Mc2).mono ?_;rintro e wq ⟨rfl,rfl⟩;rw[hq])
         exact M9
       ·have jb:(pl).toList.isEmpty=true:=hz;have jc:(pl).toList=[]:=Mea;have dN:zb1 pl=true:=by simp[zb1,hz]
        have nj:=zHi dN;clear dN;go_wp2_with fail
        exact M9
      ·go_wp2_with fail
       go_meet
       exact⟨rfl,HK.o 0 nm Mcm rfl,HK.o 1 ot Mcm rfl,HK.o 2 pl Mcm rfl⟩
    case rest=>
     obtain⟨rfl,q1,q2,q3⟩:=hcut;have fR:kd=0\/kd=1\/kd=2\/kd=3\/kd=4:=by
      unfold inR at hk;simp at hk;omega
     have HB:=zHi hB;have hs:=hB.size;have p1:zb0 dy=true:=by cases hd:zb0 dy<;>simp_all
     have p2:zb0 tl=true:=by cases hd:zb0 tl<;>simp_all
     clear fu jW dA g0 hB hb;cases z1:noB nm
     ·have y1:nm.toList.isEmpty=false:=z1;have y1':¬nm.toList=[]:=by simpa using y1
      rcases fR with rfl|rfl|rfl|rfl|rfl
      ·cases z2:noB ot
       ·exact Mb1
       ·exact MbX
      ·cases z2:noB ot
       ·exact Mb1
       ·exact MbX
      ·cases z2:noB ot
       ·have y2:ot.toList.isEmpty=false:=z2;have w2:¬ot.toList=[]:=Meg;cases z3:noB pl
        ·exact Mcl
        ·have y3:pl.toList.isEmpty=true:=z3;have w3:pl.toList=[]:=Meh;by_cases a1:dy=0
         ·skip
          exact Mcj
         ·skip
          exact Mh
       ·have y2:ot.toList.isEmpty=true:=z2;have w2:ot.toList=[]:=Meg;exact Mh
      ·cases z2:noB ot
       ·exact Mb1
       ·have y2:ot.toList.isEmpty=true:=z2;have w2:ot.toList=[]:=Meg;cases z3:noB pl
        ·have y3:pl.toList.isEmpty=false:=z3;have w3:¬pl.toList=[]:=Meh;by_cases t1:tl=0
         ·skip
          cases v1:inR de 1 12
          ·go_wp2_with (go_at_call 45;refine(zbi _ _ _ _).mono ?_;rintro e wq ⟨rfl,rfl⟩;rw[v1])
           exact Ma0
          ·cases v2:inR nu 1 de
           ·go_wp2_with (go_at_call 45;refine(zbi _ _ _ _).mono ?_;rintro e wq ⟨rfl,rfl⟩;first|rw[v1]|rw[v2])
            exact Ma0
           ·have b1:1<=de/\de<=12:=by unfold inR at v1;simpa using v1
            have b2:1<=nu/\nu<=de:=by unfold inR at v2;simpa using v2
            have HG:=zHi (fun W=>zkf nu de W Mcm Mcm);clear b1 b2;by_cases v3:Int.gcd nu de=1
            ·have zh:Hid (R=0):=MdT;rw[v3]at HG;exact M4
            ·have v4:((Int.gcd nu de:Int)==1)=false:=by simpa using(by omega:¬(Int.gcd nu de:Int)=1)
             have v5:¬((Int.gcd nu de:Nat):Int)=1:=Mcm;have zh:Hid (R=3):=MdT;exact M4
         ·skip
          exact Mh
        ·exact Mcc
      ·cases z2:noB ot
       ·exact Mb1
       ·have y2:ot.toList.isEmpty=true:=z2;have w2:ot.toList=[]:=Meg;cases z3:noB pl
        ·have y3:pl.toList.isEmpty=false:=z3;have w3:¬pl.toList=[]:=Meh;by_cases u1:nu=0
         ·skip
          by_cases u2:de=0
          ·skip
           by_cases l1:tl<=dy
           ·skip
            exact Mh
           ·skip
            exact Mh
          ·skip
           exact Mh
         ·skip
          exact Mh
        ·exact Mcc
     ·have y1:nm.toList.isEmpty=true:=z1;have y1':nm.toList=[]:=by simpa using y1
      rcases fR with rfl|rfl|rfl|rfl|rfl
      ·exact Mh
      ·exact Mh
      ·exact Mh
      ·exact Mh
      ·exact Mh
   ·(go_wp2_with fail
     go_ret
     exact Ret.of (zbC (by rw[HR.o];simp[zcr, *])) Bw)
