/- Walks of the reference's CheckLaws, LawOn; the program's LawOn. -/
import Derived.Test.YtckkbkdcdkhglaaGreatDoorE1
import Derived.Test.YtckkbkdcdkhglaaGreatDoorOA
set_option linter.unusedSimpArgs false
set_option linter.unusedVariables false
set_option maxRecDepth 100000
set_option maxHeartbeats 4000000
namespace Go.Proofs.YtckkbkdcdkhglaaGreatDoor
open Go.RowKit Go.Shelf
attribute [local go_sem] World.cell?_alloc_mark zag za5 zaq za8 zaw zax zay zaz za0 za1 za2
attribute [local go_sem] zap zad
end Go.Proofs.YtckkbkdcdkhglaaGreatDoor
namespace Go.Proofs.YtckkbkdcdkhglaaGreatDoor
open Go.RowKit
attribute [local go_sem] World.cell?_alloc_mark zag za5 zaq za8 zaw zax zay zaz za0 za1 za2
theorem zc3 (n lo hi:Int) (w:World):
 Calls Tryz.prog 67 #[.int .i64 n, .int .i64 lo, .int .i64 hi] w (Ret0 w (.bool (inR n lo hi))):=by
 go_enter Tryz.func67,Tryz.ntmps67
 go_wp2
 all_goals go_ret
 all_goals(refine⟨?_,rfl⟩;simp[inR, *])
 omega
theorem zjU (n:Int) (w:World):Calls Tryz.prog 65 #[.int .u8 n] w (Ret0 w (.bool (zcV n))):=by
 go_enter Tryz.func65,Tryz.ntmps65
 go_wp2
 all_goals go_ret
 all_goals refine⟨?_,rfl⟩
 all_goals refine znx ?_
 all_goals go_tidy
 all_goals simp[zcV]
 all_goals omega
theorem zlY (n:Int) (w:World):Calls Tryz.prog 66 #[.int .u8 n] w (Ret0 w (.bool (zkY n))):=by
 go_enter Tryz.func66,Tryz.ntmps66
 go_wp2
 all_goals go_ret
 all_goals refine⟨?_,rfl⟩
 all_goals refine znx ?_
 all_goals go_tidy
 all_goals simp[zkY]
 all_goals omega
theorem zcK (s:ByteArray) (w:World) (hs:s.size<=100000):
 Calls Tryz.prog 30 #[.string s] w (Ret0 w (.bool (zcA s))):=by
 go_enter Tryz.func30,Tryz.ntmps30
 by_cases h0:s.size=0
 ·have H0:=zHi h0;have h1:(s.size:Int)<1:=Mcl;clear h0;go_wp2_with fail
  go_ret
  exact⟨by simp[zcA,h1],rfl⟩
 have IB:0<s.size:=Mcl;have hg:(zdo s).getD 0 0=(s[0].toNat:Int):=by simp only[zdo,List.getD_eq_getElem?_getD,List.getElem?_map,Array.getElem?_toList];rw[Array.getElem?_eq_getElem IB];rfl
 go_wp2_with (first
  |(go_at_call 65;refine(zjU _ _).mono ?_;intro e wq hq;rcases Ret0.bools hq with⟨rfl,⟨hb,rfl⟩|⟨hb,rfl⟩⟩<;>clear hq)
  |(go_at_call 66;refine(zlY _ _).mono ?_;intro e wq hq;rcases Ret0.bools hq with⟨rfl,⟨hb,rfl⟩|⟨hb,rfl⟩⟩<;>clear hq))
 ·have HG:=zHi hg;clear hg;go_loop [3] (fun i=> ∃k:Nat,1<=k/\k<=s.size/\i= .int .i64 k/\zjh ((zdo s).drop 1)=zjh ((zdo s).drop k)) (fun i=>s.size-(intOf i).toNat)
  case atStart=>exact⟨1,by omega,by omega,rfl,rfl⟩
  case round=>
   obtain⟨k,fX,hk,rfl,hf⟩:=hrel;by_cases aa:k<s.size
   ·rw[zhW s k aa,show s.data[k]=s[k]from rfl]at hf;have HF:=zHi hf;clear hf;have HL:=zHi aa
    go_wp2_with (first
     |(go_at_call 65;refine(zjU _ _).mono ?_;intro e wq hq;rcases Ret0.bools hq with⟨rfl,⟨hb,rfl⟩|⟨hb,rfl⟩⟩<;>clear hq)
     |(go_at_call 66;refine(zlY _ _).mono ?_;intro e wq hq;rcases Ret0.bools hq with⟨rfl,⟨hb,rfl⟩|⟨hb,rfl⟩⟩<;>clear hq))
    all_goals first
     |(go_round
       case rel=>exact⟨k+1,by omega,by have:=HL.o;omega,by go_num,by rw[HF.o,zjh,if_neg (by simp[*])]⟩
       case measure=>have:=HL.o;simp[intOf];omega)
     |(go_ret
       exact⟨by rw[zcA,HG.o,HF.o,zjh];simp[*],rfl⟩)
   ·have mO:(zdo s).drop k=[]:=List.drop_eq_nil_of_le (by rw[zgK];omega);rw[mO,zjh]at hf;clear mO;have HF:=zHi hf;clear hf;go_wp2_with fail
    go_ret
    exact⟨by rw[zcA,HG.o,HF.o];simp[*],rfl⟩
 ·go_ret
  exact⟨by rw[zcA,hg];simp[*],rfl⟩
 ·go_ret
  exact⟨by rw[zcA,hg];simp[*],rfl⟩
end Go.Proofs.YtckkbkdcdkhglaaGreatDoor
namespace Go.Proofs.YtckkbkdcdkhglaaGreatDoor
open Go.RowKit
end Go.Proofs.YtckkbkdcdkhglaaGreatDoor
namespace Go.Proofs.YtckkbkdcdkhglaaGreatDoor
open Go.RowKit Go.Shelf
attribute [local go_sem] World.cell?_alloc_mark zag za5 zaq za8 zaw zax zay zaz za0 za1 za2
attribute [local go_sem] zap zad
theorem zcL (n:Int) (w:World):Calls Tryz.prog 31 #[.int .i64 n] w (Ret0 w (.bool (zbm n))):=by
 go_enter Tryz.func31,Tryz.ntmps31
 exact Mat
theorem zhz (a b:Int) (w:World):Calls Tryz.prog 102 #[.agg #[.int .i64 a, .int .i64 b]] w (Ret w (.bool (za6 16 a b))):=by
 go_enter Tryz.func102,Tryz.ntmps102
 by_cases h1:inR b 1 16=true
 ·by_cases h2:inR a 0 b=true
  ·have x1:1<=b/\b<=16:=by simpa[inR]using h1
   have x2:0<=a/\a<=b:=by simpa[inR]using h2
   have g1:a.natAbs<=4611686018427387904:=Mcl;have g2:b.natAbs<=4611686018427387904:=Mcl;have G1:=zHi g1;have G2:=zHi g2;have hv:za6 16 a b=((Int.gcd a b:Int)==1):=by
    unfold za6;simp only[x1.1,x1.2,x2.1,x2.2,decide_true,Bool.true_and];rw[Bool.eq_iff_iff,beq_iff_eq,beq_iff_eq];omega
   have HV:=zHi hv;clear g1 g2 hv x1 x2
   go_wp2_with (first
    |(go_at_call 67;refine(zc3 _ _ _ _).mono ?_;rintro e wq ⟨rfl,rfl⟩)
    |(go_at_call 112;refine(znP _ _ _ G1.o G2.o).mono ?_;rintro e w1 ⟨rfl,z1,rfl⟩))
   all_goals go_ret
   all_goals exact Ret.of (zaP (by rw[HV.o])) Bw
  ·have hv:za6 16 a b=false:=by
    unfold za6;simp[inR]at h1 h2⊢;omega
   exact MaX
 ·have hv:za6 16 a b=false:=by
   unfold za6;simp[inR]at h1⊢;omega
  exact MaX
theorem zjr (ls:List Law) (A:Option Addr) (n c:Nat) (w:World) (hn:n=ls.length) (hS:Sl w 4 Law.cells A ls):Calls Tryz.prog 62 #[.slice A n c] w (Ret w (.int .i64 (zaA ls))):=by
 subst hn;go_enter Tryz.func62,Tryz.ntmps62
 by_cases Ep:10<ls.length
 ·exact MaY
 have hx:decide ((10:Int)<(ls.length:Int))=false:=Mcq;go_wp2_with fail
 have hT:zaA ls=zeS (ls.drop 0) (befP ls 0):=by rw[zaA,if_neg Mcq];rfl
 go_loopw [3] (fun i wr=> ∃k:Nat,k<=ls.length/\i= .int .i64 k/\zaA ls=zeS (ls.drop k) (befP ls k)/\ ∃z,wr=w.ext z) (fun i _=>ls.length-(intOf i).toNat)
 case atStart=>exact⟨0,Nat.zero_le _,rfl,hT,zbb (Below.refl _ _)⟩
 case round=>
  obtain⟨k,hk,rfl,hf,z,rfl⟩:=hrel;clear hT hx;by_cases aa:k<ls.length
  ·rw[List.drop_eq_getElem_cons aa,zeS]at hf;obtain⟨b,off,rfl,hb,hc⟩:=hS.at aa;have h0:w.cell? ⟨b,off+k*4,none⟩=some (.int .i64 ls[k].frm):=hc 0 _ rfl;have h1:w.cell? ⟨b,off+k*4+1,none⟩=some (.bool ls[k].stems):=hc 1 _ rfl;have h2:w.cell? ⟨b,off+k*4+2,none⟩=some (.int .i64 ls[k].num):=hc 2 _ rfl;have h3:w.cell? ⟨b,off+k*4+3,none⟩=some (.int .i64 ls[k].den):=hc 3 _ rfl;have HF:=zHi hf;have jv:(k:Int)<(ls.length:Int):=Mcl;have iH:0<k->w.cell? ⟨b,off+(k-1)*4,none⟩=some (.int .i64 (ls[k-1]' Mcl).frm):=fun aT=>by
    exact Mbv
   have HP:=zHi iH;have HB:befP ls (k+1)=some ls[k].frm:=zhB ls aa;have HB:=zHi HB;clear hc hf hS iH
   go_upto_region 10 with(first
    |(go_at_call 31;refine(zcL _ _).mono ?_;intro e wq hq;rcases Ret0.bools hq with⟨rfl,⟨hb,rfl⟩|⟨hb,rfl⟩⟩<;>clear hq)
    |(go_at_call 102;refine(zhz _ _ _).mono ?_;intro e wq hq;rcases Ret.bools hq with⟨zq,rfl,⟨hb,rfl⟩|⟨hb,rfl⟩⟩<;>clear hq))
   all_goals first
    |(go_ret
      exact Ret.of (zb5 MdR) Bw)
    |skip
   rcases Nat.eq_zero_or_pos k with aT|aT
   ·have hd:decide ((k:Int)>0)=false:=Mcq;have gZ:befP ls k=none:=by rw[befP,if_pos aT]
    go_quiet (fail)
    go_wp2_with fail
    go_round
    case rel=>subst aT;exact⟨1,by omega,rfl,by rw[HF.o,HB.o];simp[zhm, *],zbb Bw⟩
    case measure=>simp[intOf];omega
   ·have hd:decide ((k:Int)>0)=true:=Mcq;have ud:IntKind.i64.wrap ((k:Int)-1)=(k:Int)-1:=IntWalk.i64_in _ Mcl;have ia:0<=(k:Int)-1:=Mcl;have fS:((k:Int)-1).toNat=k-1:=Mcl;have bD:(k:Int)-1<(ls.length:Int):=Mcl;have hp:=HP.o aT;have aK:befP ls k=some (ls[k-1]' Mcl).frm:=by have:=zhB ls (k:=k-1) Mcl;rwa [Nat.sub_add_cancel aT]at this
    go_quiet (fail)
    go_wp2_with fail
    all_goals first
     |(go_ret
       exact Ret.of (zb5 MdR) Bw)
     |(go_round
       case rel=>exact⟨k+1,by omega,by go_num,by rw[HF.o,HB.o];simp[zhm, *],zbb Bw⟩
       case measure=>simp[intOf];omega)
  ·exact MaA
theorem zoS (ls:List Law) (A:Option Addr) (c:Nat) (day:Int) (w:World) (hl:ls.length<=10) (hS:Sl w 4 Law.cells A ls):Calls Tryz.prog 35 #[.slice A ls.length c, .int .i64 day] w (Ret w (zaV ls day).v):=by
 go_enter Tryz.func35,Tryz.ntmps35
 go_upto_region 3 with(go_at_call 78;go_must(refine(ziE _).mono ?_);rintro e wq ⟨rfl,z,rfl⟩)
 obtain⟨L,hL⟩: ∃L,L=w.heap.size+1+z.os.size:=⟨_,rfl⟩
 have qW:w.heap.size<L:=Mcl;rw[<-hL];have HL:=zHi hL;clear hL;go_loopw [6] (fun i wr=> ∃k:Nat,k<=ls.length/\i= .int .i64 k/\ ∃x:Law,x=zaV (ls.take k) day/\Below w.heap.size w wr/\L+1<=wr.heap.size/\wr.heap[w.heap.size]?=some (.cells #[.int .i64 0, .bool false, .int .i64 0, .int .i64 0] 95)/\wr.heap[L]?=some (.cells #[.int .i64 x.frm, .bool x.stems, .int .i64 x.num, .int .i64 x.den] 95)) (fun i _=>ls.length-(intOf i).toNat)
 case atStart=>
  refine⟨0,Nat.zero_le _,rfl,zmq,rfl,?_,?_,?_,?_⟩
  ·exact Bw
  ·rw[HL.o];simp[zag]
  ·exact zak (zb9 (zar _ _ _ rfl))
  ·exact zar _ _ _ (by rw[HL.o];simp[zag])
 case round=>
  obtain⟨k,hk,rfl,x,hx,hB,hsz,g0,g1⟩:=hrel;have c0:wr.cell? ⟨L,0,none⟩=some (.int .i64 x.frm):=Mcr;have c1:wr.cell? ⟨L,1,none⟩=some (.bool x.stems):=Mcr;have c2:wr.cell? ⟨L,2,none⟩=some (.int .i64 x.num):=Mcr;have c3:wr.cell? ⟨L,3,none⟩=some (.int .i64 x.den):=Mcr;have d0:wr.cell? ⟨w.heap.size,0,none⟩=some (.int .i64 0):=Mcp;have d1:wr.cell? ⟨w.heap.size,1,none⟩=some (.bool false):=Mcp;have d2:wr.cell? ⟨w.heap.size,2,none⟩=some (.int .i64 0):=Mcp;have d3:wr.cell? ⟨w.heap.size,3,none⟩=some (.int .i64 0):=Mcp;have f0:wr.frozen? ⟨w.heap.size,0,none⟩=false:=Mcy;have f1:wr.frozen? ⟨L,0,none⟩=false:=Mcz;have e1:wr.frozen? ⟨L,1,none⟩=false:=Mcz;have e2:wr.frozen? ⟨L,2,none⟩=false:=Mcz;have e3:wr.frozen? ⟨L,3,none⟩=false:=Mcz;have m1:wr.frozen? ⟨w.heap.size,1,none⟩=false:=Mcy;have m2:wr.frozen? ⟨w.heap.size,2,none⟩=false:=Mcy;have m3:wr.frozen? ⟨w.heap.size,3,none⟩=false:=Mcy;have eh:L<wr.heap.size:=Mcl;have aw:w.heap.size<wr.heap.size:=Mcl;have br:L≠wr.heap.size:=Mcl;by_cases aa:k<ls.length
  ·obtain⟨b,off,rfl,hb,hc⟩:=(hS.keep hB).at aa;have h0:wr.cell? ⟨b,off+k*4,none⟩=some (.int .i64 ls[k].frm):=hc 0 _ rfl;have h1:wr.cell? ⟨b,off+k*4+1,none⟩=some (.bool ls[k].stems):=hc 1 _ rfl;have h2:wr.cell? ⟨b,off+k*4+2,none⟩=some (.int .i64 ls[k].num):=hc 2 _ rfl;have h3:wr.cell? ⟨b,off+k*4+3,none⟩=some (.int .i64 ls[k].den):=hc 3 _ rfl;clear hc hS;go_wp2_with fail
   ·refine⟨⟨k+1,by omega,by go_num,ls[k],by rw[zfw ls day aa,if_pos (by simp;assumption)],?_,?_,?_,?_⟩,by simp[intOf];omega⟩
    ·exact zaO (zaO (zaO (zaO hB McB _) McB _) McB _) McB _
    ·first|omega|(simp;omega)
    ·exact((zaO (zaO (zaO (zaO (Below.refl L wr) McB _) McB _) McB _) McB _).block w.heap.size Mcl).trans g0
    ·exact zn1 g1
   ·exact⟨⟨k+1,by omega,by go_num,zaV (ls.take k) day,by rw[zfw ls day aa,if_neg (by simp;assumption)],hB,hsz,g0,by simpa[hx]using g1⟩,by simp[intOf];omega⟩
  ·go_wp2_with fail
   have pF:ls.take k=ls:=List.take_of_length_le Mcl;have g4:=zn1 (a:= .int .i64 (zaV ls day).frm) (b:= .bool (zaV ls day).stems) (c:= .int .i64 (zaV ls day).num) (d:= .int .i64 (zaV ls day).den) g0;rw[pF];refine bodyPost_ret (v:=(zaV ls day).v) ?_ rfl ?_
   ·refine zib rfl _ _ w.heap.size _ rfl ?_ ?_ ?_ ?_<;>simp[World.cell?,g4]
   ·exact Ret.of rfl (zaO (zaO (zaO (zaO hB McB _) McB _) McB _) McB _)
end Go.Proofs.YtckkbkdcdkhglaaGreatDoor
