/- Walk of chapter 5's checkRecord and CheckRecords. -/
import Derived.Test.YtjhbofabmpfniaaGreatDoorJ6
set_option linter.unusedSimpArgs false
set_option linter.unusedVariables false
set_option maxRecDepth 100000
set_option maxHeartbeats 4000000
namespace Go.Proofs.YtjhbofabmpfniaaGreatDoor
open Go.RowKit Go.Shelf
attribute [local go_sem] World.cell?_alloc_mark zae za3 zam za6 zas zat zau zav zaw zax zay
attribute [local go_sem] zaj zac
def Rec.v (r:Rec):Value:= .agg #[.int .i64 r.kind, .string r.name, .string r.other, .string r.place, .int .i64 r.day, .int .i64 r.til, .int .i64 r.num, .int .i64 r.den]
def recO (r:Rec):Obj:= .cells #[.int .i64 r.kind, .string r.name, .string r.other, .string r.place, .int .i64 r.day, .int .i64 r.til, .int .i64 r.num, .int .i64 r.den] 105
theorem zmM (x y:Rec) (w:World) (hx:0<=x.kind/\x.kind<=4) (hy:0<=y.kind/\y.kind<=4):Calls Tryz.prog 172 #[x.v,y.v] w (Ret w (.bool (zbD x y))):=by
 obtain⟨lo,hi,mG⟩: ∃lo hi,(lo,hi)=if y.kind<x.kind then(y,x)else(x,y):=⟨_,_,rfl⟩
 have hr:zbD x y=zgm lo hi:=by
  unfold zbD;by_cases h:y.kind<x.kind
  ·rw[if_pos h]at mG;cases mG;rw[if_pos Mde]
  ·rw[if_neg h]at mG;cases mG;rw[if_neg Mde]
 have bR:0<=lo.kind/\lo.kind<=4/\0<=hi.kind/\hi.kind<=4:=by
  split at mG<;>cases mG<;>omega
 rw[hr];obtain⟨R,hR⟩: ∃R,R=zgm lo hi:=⟨_,rfl⟩
 rw[<-hR];have HR:=zHi hR;clear hR;unfold Rec.v;go_enter Tryz.func172,Tryz.ntmps172
 go_upto_if 10 with fail
 go_cut [11,12]from 13 (fun _ _ W=>W.heap[w.heap.size]?=some (recO lo)/\W.heap[w.heap.size+1]?=some (recO hi)/\Below w.heap.size w W)
 case first=>
  by_cases h:y.kind<x.kind
  ·rw[if_pos h]at mG;cases mG;exact Mbv
  ·rw[if_neg h]at mG;cases mG;exact Mbv
 case rest=>
  obtain⟨g0,g1,hB⟩:=hcut;clear mG hr hx hy;obtain⟨lk,ln,lo2,lp,ld,lt,lu,lv⟩:=lo;obtain⟨hk,hn,tT,hp,hd,ht,hu,hv⟩:=hi;simp only at bR;unfold recO at g0 g1;obtain⟨a0,a1,-,a3,a4,a5,a6,a7⟩:=cF8 g0;obtain⟨b0,b1,-,b3,b4,b5,b6,b7⟩:=cF8 g1;have HB:=zHi hB;clear hB g0 g1;have hR:=HR.o;unfold zgm at hR;simp only at hR;clear HR;have Kw:lk=0\/lk=1\/lk=2\/lk=3\/lk=4:=Mcn;have Kf:hk=0\/hk=1\/hk=2\/hk=3\/hk=4:=Mcn;clear bR;rcases Kw with rfl|rfl|rfl|rfl|rfl<;>rcases Kf with rfl|rfl|rfl|rfl|rfl
  ·exact MbV
  ·cases hs:(ln.toList==hn.toList)
   ·exact MbW
   ·by_cases h:hd<ld
    ·exact Mb0
    ·exact MbW
  ·exact MbV
  ·exact MbV
  ·exact MbV
  ·exact MbV
  ·cases hs:(ln.toList==hn.toList)
   ·exact MbW
   ·by_cases h:ld=hd
    ·exact MbW
    ·exact Mb0
  ·exact MbV
  ·cases hs:(ln.toList==hn.toList)
   ·exact MbW
   ·by_cases h:ld<hd
    ·exact Mb0
    ·exact MbW
  ·cases hs:(ln.toList==hn.toList)
   ·exact MbW
   ·by_cases h:ld<hd
    ·exact Mb0
    ·exact MbW
  ·exact MbV
  ·exact MbV
  ·exact MbV
  ·exact MbV
  ·exact MbV
  ·exact MbV
  ·exact MbV
  ·exact MbV
  ·cases hs:(ln.toList==hn.toList)
   ·exact MbW
   ·cases hq:(lp.toList==hp.toList)
    ·exact MbW
    ·by_cases h:ld=hd
     ·by_cases h2:lu=hu
      ·by_cases h3:lv=hv
       ·exact MbW
       ·exact Mb0
      ·exact Mb0
     ·exact MbW
  ·exact MbV
  ·exact MbV
  ·exact MbV
  ·exact MbV
  ·exact MbV
  ·cases hs:(ln.toList==hn.toList)
   ·cases hq:(lp.toList==hp.toList)
    ·exact MbW
    ·by_cases h:max ld hd<min lt ht
     ·exact Mb0
     ·exact MbW
   ·exact MbW
theorem isDay0:zbk 0=true:=by decide
theorem inR04:inR 0 0 4=true:=by decide
theorem inR14:inR 1 0 4=true:=by decide
theorem inR24:inR 2 0 4=true:=by decide
theorem inR34:inR 3 0 4=true:=by decide
theorem inR44:inR 4 0 4=true:=by decide
theorem ziG (x:Rec) (w:World) (h1:x.name.size<=100000) (h2:x.other.size<=100000) (h3:x.place.size<=100000):Calls Tryz.prog 168 #[x.v] w (Ret w (.int .i64 (zcs x))):=by
 obtain⟨R,hR⟩: ∃R,R=zcs x:=⟨_,rfl⟩
 rw[<-hR];have HR:=zHi hR;clear hR;obtain⟨kd,nm,ot,pl,dy,tl,nu,de⟩:=x;simp only at h1 h2 h3;unfold Rec.v;go_enter Tryz.func168,Tryz.ntmps168
 cases hk:inR kd 0 4
 ·go_wp2_with (go_at_call 134;refine(zbh _ _ _ _).mono ?_;rintro e wq ⟨rfl,rfl⟩;rw[hk])
  go_ret
  exact Ret.of (zb1 (by rw[HR.o];simp[zcs, *])) Bw
 ·go_upto_region 3 with(go_at_call 134;refine(zbh _ _ _ _).mono ?_;rintro e wq ⟨rfl,rfl⟩;rw[hk])
  go_cut [11]from 7 (fun v wc=>v= .bool (!zbk dy||!zbk tl)/\Below w.heap.size w wc/\wc.heap[w.heap.size]?=some (.cells #[.int .i64 kd, .string nm, .string ot, .string pl, .int .i64 dy, .int .i64 tl, .int .i64 nu, .int .i64 de] 105))
  case first=>
   go_wp2_with (first
                 |(go_at_call 134;refine(zbh _ _ _ _).mono ?_;intro e wq hq;rcases Ret0.bools hq with⟨rfl,⟨hb,rfl⟩|⟨hb,rfl⟩⟩<;>clear hq)
                 |(go_at_call 77;refine(zcO _ _).mono ?_;intro e wq hq;rcases Ret0.bools hq with⟨rfl,⟨hb,rfl⟩|⟨hb,rfl⟩⟩<;>clear hq)
                 |(go_at_call 130;refine(zcb _ _ McY).mono ?_;intro e wq hq;rcases Ret0.bools hq with⟨rfl,⟨hb,rfl⟩|⟨hb,rfl⟩⟩<;>clear hq))
   all_goals go_meet
   all_goals(refine⟨zaQ (by first|(simp[noB, *];done)),Bw,by first|exact zar _ _ _ rfl|repeat(first|assumption|with_reducible refine zal ?_|with_reducible refine zb2 ?_|with_reducible refine J_ne Mcn ?_)⟩)
  case rest=>
   obtain⟨rfl,hB,g0⟩:=hcut;obtain⟨d0,d1,d2,d3,d4,d5,d6,d7⟩:=cF8 g0;have e0:w.heap.size<wc.heap.size:=zab g0;cases hb:(!zbk dy||!zbk tl)
   ·have dU: ∀W,Sem.run Tryz.prog (Instr.index 55 (.agg #[.string nm, .string ot, .string pl]) (.int .i64 0)) W= .ok (.string nm) W:=fun W=>by kernel_rfl
    have ke: ∀W,Sem.run Tryz.prog (Instr.index 55 (.agg #[.string nm, .string ot, .string pl]) (.int .i64 1)) W= .ok (.string ot) W:=fun W=>by kernel_rfl
    have dC: ∀W,Sem.run Tryz.prog (Instr.index 55 (.agg #[.string nm, .string ot, .string pl]) (.int .i64 2)) W= .ok (.string pl) W:=fun W=>by kernel_rfl
    go_upto_block 1 with fail
    go_cut [4,29]from 30 (fun _ _ W=>W=wc/\zbx nm=true/\zbx ot=true/\zbx pl=true)
    case first=>
     go_wp2_with fail
     go_loopw [4,29] (fun _ i wr=> ∃k:Nat,k<=3/\i= .int .i64 k/\wr=wc/\Hid (∀j s,j<k->[nm,ot,pl][j]?=some s->zbx s=true)) (fun _ i _=>3-(intOf i).toNat)
     case atStart=>exact⟨0,by omega,rfl,rfl,fun j s hj=>absurd hj (Nat.not_lt_zero _)⟩
     case round=>
      obtain⟨k,tO,rfl,rfl,HK⟩:=hrel;obtain rfl|rfl|rfl|rfl:k=0\/k=1\/k=2\/k=3:=by omega
      ·cases hz:noB nm
       ·have j9:(nm).toList.isEmpty=false:=hz;have ja: ¬(nm).toList=[]:=Mea;cases hq:zaR nm
        ·have dr:zbx nm=false:=MdO;exact MO
        ·have dr:zbx nm=true:=MdO;have ng:=zHi dr;clear dr;go_wp2_with (go_at_call 130;refine(zcb _ _ McY).mono ?_;rintro e wq ⟨rfl,rfl⟩;rw[hq])
         exact Maa
       ·have j9:(nm).toList.isEmpty=true:=hz;have ja:(nm).toList=[]:=Mea;have dr:zbx nm=true:=by simp[zbx,hz]
        have ng:=zHi dr;clear dr;go_wp2_with fail
        exact Maa
      ·have cZ:=HK.o 0 nm Mcn rfl;cases hz:noB ot
       ·have j9:(ot).toList.isEmpty=false:=hz;have ja: ¬(ot).toList=[]:=Mea;cases hq:zaR ot
        ·have dr:zbx ot=false:=MdO;exact MO
        ·have dr:zbx ot=true:=MdO;have ng:=zHi dr;clear dr;go_wp2_with (go_at_call 130;refine(zcb _ _ McY).mono ?_;rintro e wq ⟨rfl,rfl⟩;rw[hq])
         exact Mab
       ·have j9:(ot).toList.isEmpty=true:=hz;have ja:(ot).toList=[]:=Mea;have dr:zbx ot=true:=by simp[zbx,hz]
        have ng:=zHi dr;clear dr;go_wp2_with fail
        exact Mab
      ·have cZ:=HK.o 0 nm Mcn rfl;have gN:=HK.o 1 ot Mcn rfl;cases hz:noB pl
       ·have j9:(pl).toList.isEmpty=false:=hz;have ja: ¬(pl).toList=[]:=Mea;cases hq:zaR pl
        ·have dr:zbx pl=false:=MdO;exact MO
        ·have dr:zbx pl=true:=MdO;have ng:=zHi dr;clear dr;go_wp2_with (go_at_call 130;refine(zcb _ _ McY).mono ?_;rintro e wq ⟨rfl,rfl⟩;rw[hq])
         exact Mac
       ·have j9:(pl).toList.isEmpty=true:=hz;have ja:(pl).toList=[]:=Mea;have dr:zbx pl=true:=by simp[zbx,hz]
        have ng:=zHi dr;clear dr;go_wp2_with fail
        exact Mac
      ·go_wp2_with fail
       go_meet
       exact⟨rfl,HK.o 0 nm Mcn rfl,HK.o 1 ot Mcn rfl,HK.o 2 pl Mcn rfl⟩
    case rest=>
     obtain⟨rfl,q1,q2,q3⟩:=hcut;have fT:kd=0\/kd=1\/kd=2\/kd=3\/kd=4:=by
      unfold inR at hk;simp at hk;omega
     have HB:=zHi hB;have hs:=hB.size;have p1:zbk dy=true:=by cases hd:zbk dy<;>simp_all
     have p2:zbk tl=true:=by cases hd:zbk tl<;>simp_all
     clear dU ke dC g0 hB hb;cases z1:noB nm
     ·have y1:nm.toList.isEmpty=false:=z1;have y1': ¬nm.toList=[]:=by simpa using y1
      rcases fT with rfl|rfl|rfl|rfl|rfl
      ·cases z2:noB ot
       ·exact Mb1
       ·exact MbX
      ·cases z2:noB ot
       ·exact Mb1
       ·exact MbX
      ·cases z2:noB ot
       ·have y2:ot.toList.isEmpty=false:=z2;have w2: ¬ot.toList=[]:=Meg;cases z3:noB pl
        ·exact Mcm
        ·have y3:pl.toList.isEmpty=true:=z3;have w3:pl.toList=[]:=Meh;by_cases a1:dy=0
         ·skip
          exact Mck
         ·skip
          exact Mh
       ·have y2:ot.toList.isEmpty=true:=z2;have w2:ot.toList=[]:=Meg;exact Mh
      ·cases z2:noB ot
       ·exact Mb1
       ·have y2:ot.toList.isEmpty=true:=z2;have w2:ot.toList=[]:=Meg;cases z3:noB pl
        ·have y3:pl.toList.isEmpty=false:=z3;have w3: ¬pl.toList=[]:=Meh;by_cases t1:tl=0
         ·skip
          cases v1:inR de 1 12
          ·go_wp2_with (go_at_call 134;refine(zbh _ _ _ _).mono ?_;rintro e wq ⟨rfl,rfl⟩;rw[v1])
           exact Ma3
          ·cases v2:inR nu 1 de
           ·go_wp2_with (go_at_call 134;refine(zbh _ _ _ _).mono ?_;rintro e wq ⟨rfl,rfl⟩;first|rw[v1]|rw[v2])
            exact Ma3
           ·have b1:1<=de/\de<=12:=by unfold inR at v1;simpa using v1
            have b2:1<=nu/\nu<=de:=by unfold inR at v2;simpa using v2
            have HG:=zHi (fun W=>zki nu de W Mcn Mcn);clear b1 b2;by_cases v3:Int.gcd nu de=1
            ·have yQ:Hid (R=0):=MdS;rw[v3]at HG;exact M5
            ·have v4:((Int.gcd nu de:Int)==1)=false:=by simpa using(by omega: ¬(Int.gcd nu de:Int)=1)
             have v5: ¬((Int.gcd nu de:Nat):Int)=1:=Mcn;have yQ:Hid (R=3):=MdS;exact M5
         ·skip
          exact Mh
        ·exact Mcd
      ·cases z2:noB ot
       ·exact Mb1
       ·have y2:ot.toList.isEmpty=true:=z2;have w2:ot.toList=[]:=Meg;cases z3:noB pl
        ·have y3:pl.toList.isEmpty=false:=z3;have w3: ¬pl.toList=[]:=Meh;by_cases u1:nu=0
         ·skip
          by_cases u2:de=0
          ·skip
           by_cases l1:tl<=dy
           ·skip
            exact Mh
           ·skip
            exact Mh
          ·skip
           exact Mh
         ·skip
          exact Mh
        ·exact Mcd
     ·have y1:nm.toList.isEmpty=true:=z1;have y1':nm.toList=[]:=by simpa using y1
      rcases fT with rfl|rfl|rfl|rfl|rfl
      ·exact Mh
      ·exact Mh
      ·exact Mh
      ·exact Mh
      ·exact Mh
   ·(go_wp2_with fail
     go_ret
     exact Ret.of (zb1 (by rw[HR.o];simp[zcs, *])) Bw)
end Go.Proofs.YtjhbofabmpfniaaGreatDoor
