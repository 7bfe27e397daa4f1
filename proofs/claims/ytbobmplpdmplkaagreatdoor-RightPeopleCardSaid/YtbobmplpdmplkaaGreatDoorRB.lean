import Derived.Test.YtbobmplpdmplkaaGreatDoorJ6
set_option linter.all false
set_option maxRecDepth 100000
set_option maxHeartbeats 4000000
namespace Go.Proofs.YtbobmplpdmplkaaGreatDoor
open Go.RowKit Go.Shelf
attribute [local go_sem] World.cell?_alloc_mark zaf za4 zam za7 zaw zax zay zaz za0 za1 za2
attribute [local go_sem] zan zac
def Rec.v(r:Rec):Value:=.agg #[.int .i64 r.kind,.string r.name,.string r.other,.string r.place,.int .i64 r.day,.int .i64 r.til,.int .i64 r.num,.int .i64 r.den]
def recO(r:Rec):Obj:=.cells #[.int .i64 r.kind,.string r.name,.string r.other,.string r.place,.int .i64 r.day,.int .i64 r.til,.int .i64 r.num,.int .i64 r.den] 67
theorem zmC(x y:Rec)(w:World)(hx:0<=x.kind/\x.kind<=4)(hy:0<=y.kind/\y.kind<=4):Calls Tryz.prog 83 #[x.v,y.v] w (Ret w (.bool (zbF x y))):=by
 obtain⟨lo,hi,mI⟩:∃lo hi,(lo,hi)=if y.kind<x.kind then(y,x)else(x,y):=⟨_,_,rfl⟩
 have hr:zbF x y=zfZ lo hi:=by
  unfold zbF;by_cases h:y.kind<x.kind
  ·rw[if_pos h]at mI;cases mI;rw[if_pos Mdl]
  ·rw[if_neg h]at mI;cases mI;rw[if_neg Mdl]
 have bV:0<=lo.kind/\lo.kind<=4/\0<=hi.kind/\hi.kind<=4:=by
  split at mI<;>cases mI<;>omega
 rw[hr];obtain⟨R,hR⟩:∃R,R=zfZ lo hi:=⟨_,rfl⟩
 rw[<-hR];have HR:=zHi hR;clear hR;unfold Rec.v;go_enter Tryz.func83,Tryz.ntmps83
 go_upto_if 10 with fail
 go_cut [11,12]from 13 (fun _ _ W=>W.heap[w.heap.size]?=some (recO lo)/\W.heap[w.heap.size+1]?=some (recO hi)/\Below w.heap.size w W)
 case first=>
  by_cases h:y.kind<x.kind
  ·rw[if_pos h]at mI;cases mI;exact MbD
  ·rw[if_neg h]at mI;cases mI;exact MbD
 case rest=>
  obtain⟨g0,g1,hB⟩:=hcut;clear mI hr hx hy;obtain⟨lk,ln,lo2,lp,ld,lt,lu,lv⟩:=lo;obtain⟨hk,hn,u4,hp,hd,ht,hu,hv⟩:=hi;simp only at bV;unfold recO at g0 g1;obtain⟨a0,a1,-,a3,a4,a5,a6,a7⟩:=cF8 g0;obtain⟨b0,b1,-,b3,b4,b5,b6,b7⟩:=cF8 g1;have HB:=zHi hB;clear hB g0 g1;have hR:=HR.o;unfold zfZ at hR;simp only at hR;clear HR;have Kz:lk=0\/lk=1\/lk=2\/lk=3\/lk=4:=Mcy;have Kh:hk=0\/hk=1\/hk=2\/hk=3\/hk=4:=Mcy;clear bV;rcases Kz with rfl|rfl|rfl|rfl|rfl<;>rcases Kh with rfl|rfl|rfl|rfl|rfl
  ·exact Mb5
  ·cases hs:(ln.toList==hn.toList)
   ·exact Mb6
   ·by_cases h:hd<ld
    ·exact Mca
    ·exact Mb6
  ·exact Mb5
  ·exact Mb5
  ·exact Mb5
  ·exact Mb5
  ·cases hs:(ln.toList==hn.toList)
   ·exact Mb6
   ·by_cases h:ld=hd
    ·exact Mb6
    ·exact Mca
  ·exact Mb5
  ·cases hs:(ln.toList==hn.toList)
   ·exact Mb6
   ·by_cases h:ld<hd
    ·exact Mca
    ·exact Mb6
  ·cases hs:(ln.toList==hn.toList)
   ·exact Mb6
   ·by_cases h:ld<hd
    ·exact Mca
    ·exact Mb6
  ·exact Mb5
  ·exact Mb5
  ·exact Mb5
  ·exact Mb5
  ·exact Mb5
  ·exact Mb5
  ·exact Mb5
  ·exact Mb5
  ·cases hs:(ln.toList==hn.toList)
   ·exact Mb6
   ·cases hq:(lp.toList==hp.toList)
    ·exact Mb6
    ·by_cases h:ld=hd
     ·by_cases h2:lu=hu
      ·by_cases h3:lv=hv
       ·exact Mb6
       ·exact Mca
      ·exact Mca
     ·exact Mb6
  ·exact Mb5
  ·exact Mb5
  ·exact Mb5
  ·exact Mb5
  ·exact Mb5
  ·cases hs:(ln.toList==hn.toList)
   ·cases hq:(lp.toList==hp.toList)
    ·exact Mb6
    ·by_cases h:max ld hd<min lt ht
     ·exact Mca
     ·exact Mb6
   ·exact Mb6
theorem isDay0:zbn 0=true:=by decide
theorem inR04:inR 0 0 4=true:=by decide
theorem inR14:inR 1 0 4=true:=by decide
theorem inR24:inR 2 0 4=true:=by decide
theorem inR34:inR 3 0 4=true:=by decide
theorem inR44:inR 4 0 4=true:=by decide
theorem zi6(x:Rec)(w:World)(h1:x.name.size<=100000)(h2:x.other.size<=100000)(h3:x.place.size<=100000):Calls Tryz.prog 78 #[x.v] w (Ret w (.int .i64 (zcs x))):=by
 obtain⟨R,hR⟩:∃R,R=zcs x:=⟨_,rfl⟩
 rw[<-hR];have HR:=zHi hR;clear hR;obtain⟨kd,nm,ot,pl,dy,tl,nu,de⟩:=x;simp only at h1 h2 h3;unfold Rec.v;go_enter Tryz.func78,Tryz.ntmps78
 cases hk:inR kd 0 4
 ·go_wp2_with (go_at_call 87;refine(zbi _ _ _ _).mono ?_;rintro e wq ⟨rfl,rfl⟩;rw[hk])
  go_ret
  exact Ret.of (zb5 (by rw[HR.o];simp[zcs, *])) Bw
 ·go_upto_region 3 with(go_at_call 87;refine(zbi _ _ _ _).mono ?_;rintro e wq ⟨rfl,rfl⟩;rw[hk])
  go_cut [11]from 7 (fun v wc=>v=.bool (!zbn dy||!zbn tl)/\Below w.heap.size w wc/\wc.heap[w.heap.size]?=some (.cells #[.int .i64 kd,.string nm,.string ot,.string pl,.int .i64 dy,.int .i64 tl,.int .i64 nu,.int .i64 de] 67))
  case first=>
   go_wp2_with (first
                 |(go_at_call 87;refine(zbi _ _ _ _).mono ?_;intro e wq hq;rcases Ret0.bools hq with⟨rfl,⟨hb,rfl⟩|⟨hb,rfl⟩⟩<;>clear hq)
                 |(go_at_call 62;refine(zcP _ _).mono ?_;intro e wq hq;rcases Ret0.bools hq with⟨rfl,⟨hb,rfl⟩|⟨hb,rfl⟩⟩<;>clear hq)
                 |(go_at_call 61;refine(zbX _ _ Mc8).mono ?_;intro e wq hq;rcases Ret0.bools hq with⟨rfl,⟨hb,rfl⟩|⟨hb,rfl⟩⟩<;>clear hq))
   all_goals go_meet
   all_goals(refine⟨zaO (by first|(simp[noB, *];done)),Bw,by first|exact zar _ _ _ rfl|repeat(first|assumption|with_reducible refine zal ?_|with_reducible refine zbD ?_|with_reducible refine J_ne Mcy ?_)⟩)
  case rest=>
   obtain⟨rfl,hB,g0⟩:=hcut;obtain⟨d0,d1,d2,d3,d4,d5,d6,d7⟩:=cF8 g0;have e0:w.heap.size<wc.heap.size:=zab g0;cases hb:(!zbn dy||!zbn tl)
   ·have f9:∀W,Sem.run Tryz.prog (Instr.index 172 (.agg #[.string nm,.string ot,.string pl]) (.int .i64 0)) W=.ok (.string nm) W:=fun W=>by kernel_rfl
    have jO:∀W,Sem.run Tryz.prog (Instr.index 172 (.agg #[.string nm,.string ot,.string pl]) (.int .i64 1)) W=.ok (.string ot) W:=fun W=>by kernel_rfl
    have eE:∀W,Sem.run Tryz.prog (Instr.index 172 (.agg #[.string nm,.string ot,.string pl]) (.int .i64 2)) W=.ok (.string pl) W:=fun W=>by kernel_rfl
    go_upto_block 1 with fail
    go_cut [4,29]from 30 (fun _ _ W=>W=wc/\zbz nm=true/\zbz ot=true/\zbz pl=true)
    case first=>
     go_wp2_with fail
     go_loopw [4,29] (fun _ i wr=>∃k:Nat,k<=3/\i=.int .i64 k/\wr=wc/\Hid (∀j s,j<k->[nm,ot,pl][j]?=some s->zbz s=true)) (fun _ i _=>3-(intOf i).toNat)
     case atStart=>exact⟨0,by omega,rfl,rfl,fun j s hj=>absurd hj (Nat.not_lt_zero _)⟩
     case round=>
      obtain⟨k,tV,rfl,rfl,HK⟩:=hrel;obtain rfl|rfl|rfl|rfl:k=0\/k=1\/k=2\/k=3:=by omega
      ·cases hz:noB nm
       ·have iS:(nm).toList.isEmpty=false:=hz;have iT:¬(nm).toList=[]:=Med;cases hq:zaS nm
        ·have cX:zbz nm=false:=MdW;exact ML
        ·have cX:zbz nm=true:=MdW;have ni:=zHi cX;clear cX;go_wp2_with (go_at_call 61;refine(zbX _ _ Mc8).mono ?_;rintro e wq ⟨rfl,rfl⟩;rw[hq])
         exact M5
       ·have iS:(nm).toList.isEmpty=true:=hz;have iT:(nm).toList=[]:=Med;have cX:zbz nm=true:=by simp[zbz,hz]
        have ni:=zHi cX;clear cX;go_wp2_with fail
        exact M5
      ·have cL:=HK.o 0 nm Mcy rfl;cases hz:noB ot
       ·have iS:(ot).toList.isEmpty=false:=hz;have iT:¬(ot).toList=[]:=Med;cases hq:zaS ot
        ·have cX:zbz ot=false:=MdW;exact ML
        ·have cX:zbz ot=true:=MdW;have ni:=zHi cX;clear cX;go_wp2_with (go_at_call 61;refine(zbX _ _ Mc8).mono ?_;rintro e wq ⟨rfl,rfl⟩;rw[hq])
         exact M6
       ·have iS:(ot).toList.isEmpty=true:=hz;have iT:(ot).toList=[]:=Med;have cX:zbz ot=true:=by simp[zbz,hz]
        have ni:=zHi cX;clear cX;go_wp2_with fail
        exact M6
      ·have cL:=HK.o 0 nm Mcy rfl;have fu:=HK.o 1 ot Mcy rfl;cases hz:noB pl
       ·have iS:(pl).toList.isEmpty=false:=hz;have iT:¬(pl).toList=[]:=Med;cases hq:zaS pl
        ·have cX:zbz pl=false:=MdW;exact ML
        ·have cX:zbz pl=true:=MdW;have ni:=zHi cX;clear cX;go_wp2_with (go_at_call 61;refine(zbX _ _ Mc8).mono ?_;rintro e wq ⟨rfl,rfl⟩;rw[hq])
         exact M7
       ·have iS:(pl).toList.isEmpty=true:=hz;have iT:(pl).toList=[]:=Med;have cX:zbz pl=true:=by simp[zbz,hz]
        have ni:=zHi cX;clear cX;go_wp2_with fail
        exact M7
      ·go_wp2_with fail
       go_meet
       exact⟨rfl,HK.o 0 nm Mcy rfl,HK.o 1 ot Mcy rfl,HK.o 2 pl Mcy rfl⟩
    case rest=>
     obtain⟨rfl,q1,q2,q3⟩:=hcut;have fR:kd=0\/kd=1\/kd=2\/kd=3\/kd=4:=by
      unfold inR at hk;simp at hk;omega
     have HB:=zHi hB;have hs:=hB.size;have p1:zbn dy=true:=by cases hd:zbn dy<;>simp_all
     have p2:zbn tl=true:=by cases hd:zbn tl<;>simp_all
     clear f9 jO eE g0 hB hb;cases z1:noB nm
     ·have y1:nm.toList.isEmpty=false:=z1;have y1':¬nm.toList=[]:=by simpa using y1
      rcases fR with rfl|rfl|rfl|rfl|rfl
      ·cases z2:noB ot
       ·exact Mcb
       ·exact Mb7
      ·cases z2:noB ot
       ·exact Mcb
       ·exact Mb7
      ·cases z2:noB ot
       ·have y2:ot.toList.isEmpty=false:=z2;have w2:¬ot.toList=[]:=Mel;cases z3:noB pl
        ·exact Mcx
        ·have y3:pl.toList.isEmpty=true:=z3;have w3:pl.toList=[]:=Mem;by_cases a1:dy=0
         ·skip
          exact Mcv
         ·skip
          exact Mh
       ·have y2:ot.toList.isEmpty=true:=z2;have w2:ot.toList=[]:=Mel;exact Mh
      ·cases z2:noB ot
       ·exact Mcb
       ·have y2:ot.toList.isEmpty=true:=z2;have w2:ot.toList=[]:=Mel;cases z3:noB pl
        ·have y3:pl.toList.isEmpty=false:=z3;have w3:¬pl.toList=[]:=Mem;by_cases t1:tl=0
         ·skip
          cases v1:inR de 1 12
          ·go_wp2_with (go_at_call 87;refine(zbi _ _ _ _).mono ?_;rintro e wq ⟨rfl,rfl⟩;rw[v1])
           exact Ma3
          ·cases v2:inR nu 1 de
           ·go_wp2_with (go_at_call 87;refine(zbi _ _ _ _).mono ?_;rintro e wq ⟨rfl,rfl⟩;first|rw[v1]|rw[v2])
            exact Ma3
           ·have b1:1<=de/\de<=12:=by unfold inR at v1;simpa using v1
            have b2:1<=nu/\nu<=de:=by unfold inR at v2;simpa using v2
            have HG:=zHi (fun W=>zjZ nu de W Mcy Mcy);clear b1 b2;by_cases v3:Int.gcd nu de=1
            ·have kI:Hid (R=0):=MdZ;rw[v3]at HG;exact MZ
            ·have v4:((Int.gcd nu de:Int)==1)=false:=by simpa using(by omega:¬(Int.gcd nu de:Int)=1)
             have v5:¬((Int.gcd nu de:Nat):Int)=1:=Mcy;have kI:Hid (R=3):=MdZ;exact MZ
         ·skip
          exact Mh
        ·exact Mcn
      ·cases z2:noB ot
       ·exact Mcb
       ·have y2:ot.toList.isEmpty=true:=z2;have w2:ot.toList=[]:=Mel;cases z3:noB pl
        ·have y3:pl.toList.isEmpty=false:=z3;have w3:¬pl.toList=[]:=Mem;by_cases u1:nu=0
         ·skip
          by_cases u2:de=0
          ·skip
           by_cases l1:tl<=dy
           ·skip
            exact Mh
           ·skip
            exact Mh
          ·skip
           exact Mh
         ·skip
          exact Mh
        ·exact Mcn
     ·have y1:nm.toList.isEmpty=true:=z1;have y1':nm.toList=[]:=by simpa using y1
      rcases fR with rfl|rfl|rfl|rfl|rfl
      ·exact Mh
      ·exact Mh
      ·exact Mh
      ·exact Mh
      ·exact Mh
   ·(go_wp2_with fail
     go_ret
     exact Ret.of (zb5 (by rw[HR.o];simp[zcs, *])) Bw)
