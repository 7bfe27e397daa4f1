/- Walk of chapter 5's lawOn. -/
import Derived.Test.YtjhbofabmpfniaaGreatDoorMM
import Derived.Test.YtjhbofabmpfniaaGreatDoorJ1
set_option linter.unusedSimpArgs false
set_option linter.unusedVariables false
set_option maxRecDepth 100000
set_option maxHeartbeats 4000000
namespace Go.Proofs.YtjhbofabmpfniaaGreatDoor
open Go.RowKit
attribute [local go_sem] World.cell?_alloc_mark zae za3 zam za6 zas zat zau zav zaw zax zay
attribute [local go_sem] zaj zac
def ze4 (w:World) (C:Nat) (r:Rat) (e:Ending) (w':World):Prop:=(r.den<=1000000000/\Ret w (zaB r) e w')\/(1000000000<r.den/\Ret (w.setCell ⟨C,0,none⟩ (.bool true)) (zaB 0) e w')
theorem zie (C:Nat) (r:Rat) (f:Bool) (w:World) (hc:w.cell? ⟨C,0,none⟩=some (.bool f)) (hC:C<w.heap.size) (hf:w.frozen? ⟨C,0,none⟩=false):Calls Tryz.prog 166 #[.pointer (some ⟨C,0,none⟩),zaB r] w (ze4 w C r):=by
 by_cases hd:r.den<=1000000000
 ·have dX:decide ((r.den:Int)>1000000000)=false:=Mcr;unfold zaB;go_enter Tryz.func166,Tryz.ntmps166
  go_wp2_with fail
  refine bodyPost_ret (v:=zaB r) ?_ rfl ?_
  ·exact Mak
  ·exact .inl ⟨hd,Ret.of rfl Bw⟩
 ·have dX:decide ((r.den:Int)>1000000000)=true:=Mcr;unfold zaB;go_enter Tryz.func166,Tryz.ntmps166
  go_wp2_with fail
  refine bodyPost_ret (v:=zaB 0) ?_ rfl ?_
  ·exact MZ
  ·refine .inr ⟨by omega,Ret.of rfl ?_⟩;exact Bw
theorem cmulI (C:Nat) (f:Bool) (w:World) (hc:w.cell? ⟨C,0,none⟩=some (.bool f)) (hC:C<w.heap.size) (hf:w.frozen? ⟨C,0,none⟩=false) (a b c d:Int) (ha:a.natAbs<=1000000000) (hb:b.natAbs<=1000000000) (cr:c.natAbs<=1000000000) (hd:d.natAbs<=1000000000) (aY:0<b) (ir:0<d):Calls Tryz.prog 196 #[.pointer (some ⟨C,0,none⟩), .agg #[.int .i64 a, .int .i64 b], .agg #[.int .i64 c, .int .i64 d]] w (ze4 w C (Rat.divInt (a*c) (b*d))):=by
 obtain⟨m1,n1⟩:=zaP ha cr;obtain⟨m3,n3⟩:=zaP hb hd;have m4:0<b*d:=Int.mul_pos aY ir;have w1:IntKind.i64.wrap (a*c)=a*c:=IntWalk.i64_in _ Mcn;have w3:IntKind.i64.wrap (b*d)=b*d:=IntWalk.i64_in _ Mcn;have hs:(a*c).natAbs<=4611686018427387904:=Mcn;have hl:b*d<=4611686018427387904:=Mcn;have HS:=zHi hs;have HL:=zHi hl;have H4:=zHi m4;clear hs hl m4 ha hb cr hd;go_enter Tryz.func196,Tryz.ntmps196
 go_wp2_with (first
  |(go_at_call 150;refine(zdN _ _ _ HS.o H4.o HL.o).mono ?_;rintro e w1 ⟨rfl,z1,rfl⟩)
  |(go_at_call 166
    refine(zie C _ f _ ?s1 ?s2 ?s3).mono ?_
    case s1=>simp[go_sem,hC,hc]
    case s2=>simp[zae];omega
    case s3=>simp[go_sem,hC,hf]
    intro e wq hq
    rcases hq with⟨hd,rfl,zq,rfl⟩|⟨hd,rfl,zq,rfl⟩<;>simp only[zaB]))
 ·refine bodyPost_ret (v:=zaB (Rat.divInt (a*c) (b*d))) ?_ rfl ?_
  ·exact MZ
  ·exact MbL
 ·exact Mcb
theorem cmul5_any (C:Nat) (f:Bool) (w:World) (hc:w.cell? ⟨C,0,none⟩=some (.bool f)) (hC:C<w.heap.size) (hf:w.frozen? ⟨C,0,none⟩=false) (p q:Rat) (hp:zaI p) (hq:zaI q):Calls Tryz.prog 196 #[.pointer (some ⟨C,0,none⟩),zaB p,zaB q] w (ze4 w C (p*q)):=by
 rw[zgR];exact cmulI C f w hc hC hf _ _ _ _ hp.1 (by have:=hp.2;omega) hq.1 (by have:=hq.2;omega) (zbW p) (zbW q)
theorem cquoI (C:Nat) (f:Bool) (w:World) (hc:w.cell? ⟨C,0,none⟩=some (.bool f)) (hC:C<w.heap.size) (hf:w.frozen? ⟨C,0,none⟩=false) (a b c d:Int) (ha:a.natAbs<=1000000000) (hb:b.natAbs<=1000000000) (cr:c.natAbs<=1000000000) (hd:d.natAbs<=1000000000) (aY:0<b) (ir:0<c):Calls Tryz.prog 197 #[.pointer (some ⟨C,0,none⟩), .agg #[.int .i64 a, .int .i64 b], .agg #[.int .i64 c, .int .i64 d]] w (ze4 w C (Rat.divInt (a*d) (b*c))):=by
 obtain⟨m1,n1⟩:=zaP ha hd;obtain⟨m3,n3⟩:=zaP hb cr;have m4:0<b*c:=Int.mul_pos aY ir;have w1:IntKind.i64.wrap (a*d)=a*d:=IntWalk.i64_in _ Mcn;have w3:IntKind.i64.wrap (b*c)=b*c:=IntWalk.i64_in _ Mcn;have hs:(a*d).natAbs<=4611686018427387904:=Mcn;have hl:b*c<=4611686018427387904:=Mcn;have HS:=zHi hs;have HL:=zHi hl;have H4:=zHi m4;clear hs hl m4 ha hb cr hd;go_enter Tryz.func197,Tryz.ntmps197
 go_wp2_with (first
  |(go_at_call 150;refine(zdN _ _ _ HS.o H4.o HL.o).mono ?_;rintro e w1 ⟨rfl,z1,rfl⟩)
  |(go_at_call 166
    refine(zie C _ f _ ?s1 ?s2 ?s3).mono ?_
    case s1=>simp[go_sem,hC,hc]
    case s2=>simp[zae];omega
    case s3=>simp[go_sem,hC,hf]
    intro e wq hq
    rcases hq with⟨hd,rfl,zq,rfl⟩|⟨hd,rfl,zq,rfl⟩<;>simp only[zaB]))
 ·refine bodyPost_ret (v:=zaB (Rat.divInt (a*d) (b*c))) ?_ rfl ?_
  ·exact MZ
  ·exact MbL
 ·exact Mcb
theorem cquo5_any (C:Nat) (f:Bool) (w:World) (hc:w.cell? ⟨C,0,none⟩=some (.bool f)) (hC:C<w.heap.size) (hf:w.frozen? ⟨C,0,none⟩=false) (p q:Rat) (hp:zaI p) (hq:zaI q) (h0:0<q):Calls Tryz.prog 197 #[.pointer (some ⟨C,0,none⟩),zaB p,zaB q] w (ze4 w C (p/q)):=by
 have Dy:0<q.num:=Mdz;rw[zjx p q h0];exact cquoI C f w hc hC hf _ _ _ _ hp.1 (by have:=hp.2;omega) hq.1 (by have:=hq.2;omega) (zbW p) Dy
theorem cadd5_any (C:Nat) (f:Bool) (w:World) (hc:w.cell? ⟨C,0,none⟩=some (.bool f)) (hC:C<w.heap.size) (hf:w.frozen? ⟨C,0,none⟩=false) (p q:Rat) (hp:zaI p) (hq:zaI q):Calls Tryz.prog 113 #[.pointer (some ⟨C,0,none⟩),zaB p,zaB q] w (ze4 w C (p+q)):=by
 have HA:=fun W=>zn8 p q W hp hq
 clear hp hq;unfold zaB at*;go_enter Tryz.func113,Tryz.ntmps113
 go_wp2_with (first
  |(go_at_call 167;refine(HA _).mono ?_;rintro e w1 ⟨rfl,z1,rfl⟩)
  |(go_at_call 166
    refine(zie C _ f _ ?s1 ?s2 ?s3).mono ?_
    case s1=>simp[go_sem,hC,hc]
    case s2=>simp[zae];omega
    case s3=>simp[go_sem,hC,hf]
    intro e wq hq
    rcases hq with⟨hd,rfl,zq,rfl⟩|⟨hd,rfl,zq,rfl⟩<;>simp only[zaB]))
 ·refine bodyPost_ret (v:=zaB (p+q)) ?_ rfl ?_
  ·exact MZ
  ·exact MbL
 ·exact Mcb
def befP (ls:List Law) (k:Nat):Option Int:=if k=0 then none else(ls[k-1]?).map (·.frm)
theorem zhD (ls:List Law) {k:Nat} (h:k<ls.length):befP ls (k+1)=some ls[k].frm:=by
 rw[befP,if_neg Mcn];simp[h]
theorem zfO (ls:List Law) (A:Option Addr) (n c:Nat) (w:World) (hn:n=ls.length) (hS:Sl w 4 Law.cells A ls):Calls Tryz.prog 124 #[.slice A n c] w (Ret w (.int .i64 (za8 ls))):=by
 subst hn;go_enter Tryz.func124,Tryz.ntmps124
 by_cases EM:10<ls.length
 ·exact MaX
 have hx:decide ((10:Int)<(ls.length:Int))=false:=Mcr;go_wp2_with fail
 have hT:za8 ls=zeZ (ls.drop 0) (befP ls 0):=by rw[za8,if_neg Mcr];rfl
 go_loopw [2,10] (fun u i wr=>u= .int .i64 0/\ ∃k:Nat,k<=ls.length/\i= .int .i64 k/\za8 ls=zeZ (ls.drop k) (befP ls k)/\ ∃z,wr=w.ext z) (fun _ i _=>ls.length-(intOf i).toNat)
 case atStart=>exact⟨rfl,0,Nat.zero_le _,rfl,hT,zba (Below.refl _ _)⟩
 case round=>
  obtain⟨rfl,k,hk,rfl,hf,z,rfl⟩:=hrel;clear hT hx;by_cases aa:k<ls.length
  ·rw[List.drop_eq_getElem_cons aa,zeZ]at hf;obtain⟨b,off,rfl,hb,hc⟩:=hS.at aa;have h0:w.cell? ⟨b,off+k*4,none⟩=some (.int .i64 ls[k].frm):=hc 0 _ rfl;have h1:w.cell? ⟨b,off+k*4+1,none⟩=some (.bool ls[k].stems):=hc 1 _ rfl;have h2:w.cell? ⟨b,off+k*4+2,none⟩=some (.int .i64 ls[k].num):=hc 2 _ rfl;have h3:w.cell? ⟨b,off+k*4+3,none⟩=some (.int .i64 ls[k].den):=hc 3 _ rfl;have HF:=zHi hf;have jC:(k:Int)<(ls.length:Int):=Mcn;have iD:0<k->w.cell? ⟨b,off+(k-1)*4,none⟩=some (.int .i64 (ls[k-1]' Mcn).frm):=fun aT=>by
    exact Mbw
   have HP:=zHi iD;have HB:befP ls (k+1)=some ls[k].frm:=zhD ls aa;have HB:=zHi HB;clear hc hf hS iD
   go_upto_region 10 with(first
    |(go_at_call 77;refine(zcO _ _).mono ?_;intro e wq hq;rcases Ret0.bools hq with⟨rfl,⟨hb,rfl⟩|⟨hb,rfl⟩⟩<;>clear hq)
    |(go_at_call 175;refine(zdO _ _ _).mono ?_;intro e wq hq;rcases Ret.bools hq with⟨zq,rfl,⟨hb,rfl⟩|⟨hb,rfl⟩⟩<;>clear hq))
   all_goals first
    |(go_ret
      exact Ret.of (zb1 MdY) Bw)
    |skip
   rcases Nat.eq_zero_or_pos k with aT|aT
   ·have hd:decide ((k:Int)>0)=false:=Mcr;have gX:befP ls k=none:=by rw[befP,if_pos aT]
    go_quiet (fail)
    go_wp2_with fail
    go_round
    case rel=>subst aT;exact⟨rfl,1,by omega,rfl,by rw[HF.o,HB.o];simp[zhq, *],zba Bw⟩
    case measure=>simp[intOf];omega
   ·have hd:decide ((k:Int)>0)=true:=Mcr;have qa:IntKind.i64.wrap ((k:Int)-1)=(k:Int)-1:=IntWalk.i64_in _ Mcn;have i8:0<=(k:Int)-1:=Mcn;have fM:((k:Int)-1).toNat=k-1:=Mcn;have bE:(k:Int)-1<(ls.length:Int):=Mcn;have hp:=HP.o aT;have aE:befP ls k=some (ls[k-1]' Mcn).frm:=by have:=zhD ls (k:=k-1) Mcn;rwa [Nat.sub_add_cancel aT]at this
    go_quiet (fail)
    go_wp2_with fail
    all_goals first
     |(go_ret
       exact Ret.of (zb1 MdY) Bw)
     |(go_round
       case rel=>exact⟨rfl,k+1,by omega,by go_num,by rw[HF.o,HB.o];simp[zhq, *],zba Bw⟩
       case measure=>simp[intOf];omega)
  ·exact Maz
def Law.v (x:Law):Value:= .agg #[.int .i64 x.frm, .bool x.stems, .int .i64 x.num, .int .i64 x.den]
theorem zif {fn:Func} {p:Tmp} (h:fn.results= #[.cell p 130]) (tmps:Array Value) (w:World) (B:Nat) (x:Law) (hp:tmps.getD p undef= .pointer (some ⟨B,0,none⟩))
 (h0:w.cell? ⟨B,0,none⟩=some (.int .i64 x.frm)) (h1:w.cell? ⟨B,1,none⟩=some (.bool x.stems)) (h2:w.cell? ⟨B,2,none⟩=some (.int .i64 x.num)) (h3:w.cell? ⟨B,3,none⟩=some (.int .i64 x.den)):(results fn tmps).run Tryz.prog w= .ok x.v w:=by
 rw[zdF h,hp];unfold Law.v;go_simp
theorem zf3 (ls:List Law) (day:Int) {k:Nat} (h:k<ls.length):zaY (ls.take (k+1)) day=if decide (ls[k].frm<=day)then ls[k]else zaY (ls.take k) day:=by
 rw[List.take_succ_eq_append_getElem h];unfold zaY;rw[List.filter_append];by_cases hc:ls[k].frm<=day<;>simp[hc]
theorem zar (w:World) (o:Obj) (k:Nat) (h:k=w.heap.size):(w.alloc o).heap[k]?=some o:=by rw[h];exact heap_alloc_new w o
theorem zal {w:World} {o x:Obj} {k:Nat} (h:w.heap[k]?=some x):(w.alloc o).heap[k]?=some x:=(Below.heap_alloc w o k (zab h)).trans h
theorem zn9 {w:World} {g:Nat} {z0 z1 z2 z3 a b c d:Value} {t:TypeId} {fr:Nat×Nat} (h:w.heap[g]?=some (.cells #[z0,z1,z2,z3] t fr)):
 ((((w.setCell ⟨g,0,none⟩ a).setCell ⟨g,1,none⟩ b).setCell ⟨g,2,none⟩ c).setCell ⟨g,3,none⟩ d).heap[g]?=some (.cells #[a,b,c,d] t fr):=by
 have:=Joins.block_setCell (i:=3) (Joins.block_setCell (i:=2) (Joins.block_setCell (i:=1) (Joins.block_setCell (i:=0) h a) b) c) d;simpa using this
theorem zj0 (ls:List Law) (A:Option Addr) (c:Nat) (day:Int) (w:World) (hl:ls.length<=10) (hS:Sl w 4 Law.cells A ls):Calls Tryz.prog 82 #[.slice A ls.length c, .int .i64 day] w (Ret w (zaY ls day).v):=by
 go_enter Tryz.func82,Tryz.ntmps82
 go_wp2_with fail
 go_loopw [12] (fun i wr=> ∃k:Nat,k<=ls.length/\i= .int .i64 k/\ ∃x:Law,x=zaY (ls.take k) day/\Below w.heap.size w wr/\w.heap.size+2<=wr.heap.size/\wr.heap[w.heap.size]?=some (.cells #[.int .i64 0, .bool false, .int .i64 0, .int .i64 0] 130)/\wr.heap[w.heap.size+1]?=some (.cells #[.int .i64 x.frm, .bool x.stems, .int .i64 x.num, .int .i64 x.den] 130)) (fun i _=>ls.length-(intOf i).toNat)
 case atStart=>
  refine⟨0,Nat.zero_le _,rfl,zmv,rfl,?_,?_,?_,?_⟩
  ·exact Bw
  ·simp
  ·exact zal (zar _ _ _ rfl)
  ·exact zar _ _ _ Mcq
 case round=>
  obtain⟨k,hk,rfl,x,hx,hB,hsz,g0,g1⟩:=hrel;have c0:wr.cell? ⟨w.heap.size+1,0,none⟩=some (.int .i64 x.frm):=Mct;have c1:wr.cell? ⟨w.heap.size+1,1,none⟩=some (.bool x.stems):=Mct;have c2:wr.cell? ⟨w.heap.size+1,2,none⟩=some (.int .i64 x.num):=Mct;have c3:wr.cell? ⟨w.heap.size+1,3,none⟩=some (.int .i64 x.den):=Mct;have d0:wr.cell? ⟨w.heap.size,0,none⟩=some (.int .i64 0):=Mcs;have d1:wr.cell? ⟨w.heap.size,1,none⟩=some (.bool false):=Mcs;have d2:wr.cell? ⟨w.heap.size,2,none⟩=some (.int .i64 0):=Mcs;have d3:wr.cell? ⟨w.heap.size,3,none⟩=some (.int .i64 0):=Mcs;have f0:wr.frozen? ⟨w.heap.size,0,none⟩=false:=McA;have f1:wr.frozen? ⟨w.heap.size+1,0,none⟩=false:=McB;have e1:wr.frozen? ⟨w.heap.size+1,1,none⟩=false:=McB;have e2:wr.frozen? ⟨w.heap.size+1,2,none⟩=false:=McB;have e3:wr.frozen? ⟨w.heap.size+1,3,none⟩=false:=McB;have m1:wr.frozen? ⟨w.heap.size,1,none⟩=false:=McA;have m2:wr.frozen? ⟨w.heap.size,2,none⟩=false:=McA;have m3:wr.frozen? ⟨w.heap.size,3,none⟩=false:=McA;have dt:w.heap.size+1<wr.heap.size:=Mcn;have aw:w.heap.size<wr.heap.size:=Mcn;have bp:w.heap.size+1≠wr.heap.size:=Mcn;by_cases aa:k<ls.length
  ·obtain⟨b,off,rfl,hb,hc⟩:=(hS.keep hB).at aa;have h0:wr.cell? ⟨b,off+k*4,none⟩=some (.int .i64 ls[k].frm):=hc 0 _ rfl;have h1:wr.cell? ⟨b,off+k*4+1,none⟩=some (.bool ls[k].stems):=hc 1 _ rfl;have h2:wr.cell? ⟨b,off+k*4+2,none⟩=some (.int .i64 ls[k].num):=hc 2 _ rfl;have h3:wr.cell? ⟨b,off+k*4+3,none⟩=some (.int .i64 ls[k].den):=hc 3 _ rfl;clear hc hS;go_wp2_with fail
   ·refine⟨⟨k+1,by omega,by go_num,ls[k],by rw[zf3 ls day aa,if_pos (by simp;assumption)],?_,?_,?_,?_⟩,by simp[intOf];omega⟩
    ·exact zad (zaM (zaM (zaM (zaM hB Mcq _) Mcq _) Mcq _) Mcq _) _
    ·simp;omega
    ·exact zal (((zaM (zaM (zaM (zaM (Below.refl (w.heap.size+1) wr) Mcq _) Mcq _) Mcq _) Mcq _).block w.heap.size Mcn).trans g0)
    ·exact zal (zn9 g1)
   ·refine⟨⟨k+1,by omega,by go_num,zaY (ls.take k) day,by rw[zf3 ls day aa,if_neg (by simp;assumption)],?_,?_,?_,?_⟩,by simp[intOf];omega⟩
    ·exact zad hB _
    ·simp;omega
    ·exact zal g0
    ·exact zal (by simpa[hx]using g1)
  ·go_wp2_with fail
   have pH:ls.take k=ls:=List.take_of_length_le Mcn;have g4:=zn9 (a:= .int .i64 (zaY ls day).frm) (b:= .bool (zaY ls day).stems) (c:= .int .i64 (zaY ls day).num) (d:= .int .i64 (zaY ls day).den) g0;rw[pH];refine bodyPost_ret (v:=(zaY ls day).v) ?_ rfl ?_
   ·refine zif rfl _ _ w.heap.size _ rfl ?_ ?_ ?_ ?_<;>simp[World.cell?,g4]
   ·exact Ret.of rfl (zaM (zaM (zaM (zaM hB Mcq _) Mcq _) Mcq _) Mcq _)
end Go.Proofs.YtjhbofabmpfniaaGreatDoor
