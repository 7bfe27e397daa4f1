/- Walk of chapter 5's lawOn. -/
import Derived.Test.YtckkbkdcdkhglaaGreatDoorMM
import Derived.Test.YtckkbkdcdkhglaaGreatDoorJ1
set_option linter.unusedSimpArgs false
set_option linter.unusedVariables false
set_option maxRecDepth 100000
set_option maxHeartbeats 4000000
namespace Go.Proofs.YtckkbkdcdkhglaaGreatDoor
open Go.RowKit
attribute [local go_sem] World.cell?_alloc_mark zag za5 zaq za8 zaw zax zay zaz za0 za1 za2
attribute [local go_sem] zap zad
def ze1 (w:World) (C:Nat) (r:Rat) (e:Ending) (w':World):Prop:=(r.den<=1000000000/\Ret w (za9 r) e w')\/(1000000000<r.den/\Ret (w.setCell ⟨C,0,none⟩ (.bool true)) (za9 0) e w')
theorem zia (C:Nat) (r:Rat) (f:Bool) (w:World) (hc:w.cell? ⟨C,0,none⟩=some (.bool f)) (hC:C<w.heap.size) (hf:w.frozen? ⟨C,0,none⟩=false):Calls Tryz.prog 141 #[.pointer (some ⟨C,0,none⟩),za9 r] w (ze1 w C r):=by
 by_cases hd:r.den<=1000000000
 ·have dY:decide ((r.den:Int)>1000000000)=false:=Mcq;unfold za9;go_enter Tryz.func141,Tryz.ntmps141
  go_wp2_with fail
  refine bodyPost_ret (v:=za9 r) ?_ rfl ?_
  ·exact Mam
  ·exact .inl ⟨hd,Ret.of rfl Bw⟩
 ·have dY:decide ((r.den:Int)>1000000000)=true:=Mcq;unfold za9;go_enter Tryz.func141,Tryz.ntmps141
  go_wp2_with fail
  refine bodyPost_ret (v:=za9 0) ?_ rfl ?_
  ·exact M0
  ·refine .inr ⟨by omega,Ret.of rfl ?_⟩;exact Bw
theorem cmulI (C:Nat) (f:Bool) (w:World) (hc:w.cell? ⟨C,0,none⟩=some (.bool f)) (hC:C<w.heap.size) (hf:w.frozen? ⟨C,0,none⟩=false) (a b c d:Int) (ha:a.natAbs<=1000000000) (hb:b.natAbs<=1000000000) (cA:c.natAbs<=1000000000) (hd:d.natAbs<=1000000000) (ba:0<b) (iw:0<d):Calls Tryz.prog 108 #[.pointer (some ⟨C,0,none⟩), .agg #[.int .i64 a, .int .i64 b], .agg #[.int .i64 c, .int .i64 d]] w (ze1 w C (Rat.divInt (a*c) (b*d))):=by
 obtain⟨m1,n1⟩:=zaN ha cA;obtain⟨m3,n3⟩:=zaN hb hd;have m4:0<b*d:=Int.mul_pos ba iw;have w1:IntKind.i64.wrap (a*c)=a*c:=IntWalk.i64_in _ Mcl;have w3:IntKind.i64.wrap (b*d)=b*d:=IntWalk.i64_in _ Mcl;have hs:(a*c).natAbs<=4611686018427387904:=Mcl;have hl:b*d<=4611686018427387904:=Mcl;have HS:=zHi hs;have HL:=zHi hl;have H4:=zHi m4;clear hs hl m4 ha hb cA hd;go_enter Tryz.func108,Tryz.ntmps108
 go_wp2_with (first
  |(go_at_call 73;refine(zdL _ _ _ HS.o H4.o HL.o).mono ?_;rintro e w1 ⟨rfl,z1,rfl⟩)
  |(go_at_call 141
    refine(zia C _ f _ ?s1 ?s2 ?s3).mono ?_
    case s1=>simp[go_sem,hC,hc]
    case s2=>simp[zag];omega
    case s3=>simp[go_sem,hC,hf]
    intro e wq hq
    rcases hq with⟨hd,rfl,zq,rfl⟩|⟨hd,rfl,zq,rfl⟩<;>simp only[za9]))
 ·refine bodyPost_ret (v:=za9 (Rat.divInt (a*c) (b*d))) ?_ rfl ?_
  ·exact M0
  ·exact MbI
 ·exact Mb9
theorem cmul5_any (C:Nat) (f:Bool) (w:World) (hc:w.cell? ⟨C,0,none⟩=some (.bool f)) (hC:C<w.heap.size) (hf:w.frozen? ⟨C,0,none⟩=false) (p q:Rat) (hp:zaK p) (hq:zaK q):Calls Tryz.prog 108 #[.pointer (some ⟨C,0,none⟩),za9 p,za9 q] w (ze1 w C (p*q)):=by
 rw[zgM];exact cmulI C f w hc hC hf _ _ _ _ hp.1 (by have:=hp.2;omega) hq.1 (by have:=hq.2;omega) (zbU p) (zbU q)
theorem cquoI (C:Nat) (f:Bool) (w:World) (hc:w.cell? ⟨C,0,none⟩=some (.bool f)) (hC:C<w.heap.size) (hf:w.frozen? ⟨C,0,none⟩=false) (a b c d:Int) (ha:a.natAbs<=1000000000) (hb:b.natAbs<=1000000000) (cA:c.natAbs<=1000000000) (hd:d.natAbs<=1000000000) (ba:0<b) (iw:0<c):Calls Tryz.prog 162 #[.pointer (some ⟨C,0,none⟩), .agg #[.int .i64 a, .int .i64 b], .agg #[.int .i64 c, .int .i64 d]] w (ze1 w C (Rat.divInt (a*d) (b*c))):=by
 obtain⟨m1,n1⟩:=zaN ha hd;obtain⟨m3,n3⟩:=zaN hb cA;have m4:0<b*c:=Int.mul_pos ba iw;have w1:IntKind.i64.wrap (a*d)=a*d:=IntWalk.i64_in _ Mcl;have w3:IntKind.i64.wrap (b*c)=b*c:=IntWalk.i64_in _ Mcl;have hs:(a*d).natAbs<=4611686018427387904:=Mcl;have hl:b*c<=4611686018427387904:=Mcl;have HS:=zHi hs;have HL:=zHi hl;have H4:=zHi m4;clear hs hl m4 ha hb cA hd;go_enter Tryz.func162,Tryz.ntmps162
 go_wp2_with (first
  |(go_at_call 73;refine(zdL _ _ _ HS.o H4.o HL.o).mono ?_;rintro e w1 ⟨rfl,z1,rfl⟩)
  |(go_at_call 141
    refine(zia C _ f _ ?s1 ?s2 ?s3).mono ?_
    case s1=>simp[go_sem,hC,hc]
    case s2=>simp[zag];omega
    case s3=>simp[go_sem,hC,hf]
    intro e wq hq
    rcases hq with⟨hd,rfl,zq,rfl⟩|⟨hd,rfl,zq,rfl⟩<;>simp only[za9]))
 ·refine bodyPost_ret (v:=za9 (Rat.divInt (a*d) (b*c))) ?_ rfl ?_
  ·exact M0
  ·exact MbI
 ·exact Mb9
theorem cquo5_any (C:Nat) (f:Bool) (w:World) (hc:w.cell? ⟨C,0,none⟩=some (.bool f)) (hC:C<w.heap.size) (hf:w.frozen? ⟨C,0,none⟩=false) (p q:Rat) (hp:zaK p) (hq:zaK q) (h0:0<q):Calls Tryz.prog 162 #[.pointer (some ⟨C,0,none⟩),za9 p,za9 q] w (ze1 w C (p/q)):=by
 have Dg:0<q.num:=Mdv;rw[zjz p q h0];exact cquoI C f w hc hC hf _ _ _ _ hp.1 (by have:=hp.2;omega) hq.1 (by have:=hq.2;omega) (zbU p) Dg
theorem cadd5_any (C:Nat) (f:Bool) (w:World) (hc:w.cell? ⟨C,0,none⟩=some (.bool f)) (hC:C<w.heap.size) (hf:w.frozen? ⟨C,0,none⟩=false) (p q:Rat) (hp:zaK p) (hq:zaK q):Calls Tryz.prog 105 #[.pointer (some ⟨C,0,none⟩),za9 p,za9 q] w (ze1 w C (p+q)):=by
 have HA:=fun W=>zn0 p q W hp hq
 clear hp hq;unfold za9 at*;go_enter Tryz.func105,Tryz.ntmps105
 go_wp2_with (first
  |(go_at_call 142;refine(HA _).mono ?_;rintro e w1 ⟨rfl,z1,rfl⟩)
  |(go_at_call 141
    refine(zia C _ f _ ?s1 ?s2 ?s3).mono ?_
    case s1=>simp[go_sem,hC,hc]
    case s2=>simp[zag];omega
    case s3=>simp[go_sem,hC,hf]
    intro e wq hq
    rcases hq with⟨hd,rfl,zq,rfl⟩|⟨hd,rfl,zq,rfl⟩<;>simp only[za9]))
 ·refine bodyPost_ret (v:=za9 (p+q)) ?_ rfl ?_
  ·exact M0
  ·exact MbI
 ·exact Mb9
def befP (ls:List Law) (k:Nat):Option Int:=if k=0 then none else(ls[k-1]?).map (·.frm)
theorem zhB (ls:List Law) {k:Nat} (h:k<ls.length):befP ls (k+1)=some ls[k].frm:=by
 rw[befP,if_neg Mcl];simp[h]
theorem zji (ls:List Law) (A:Option Addr) (n c:Nat) (w:World) (hn:n=ls.length) (hS:Sl w 4 Law.cells A ls):Calls Tryz.prog 99 #[.slice A n c] w (Ret w (.int .i64 (zaA ls))):=by
 subst hn;go_enter Tryz.func99,Tryz.ntmps99
 by_cases Ep:10<ls.length
 ·exact MaY
 have hx:decide ((10:Int)<(ls.length:Int))=false:=Mcq;go_wp2_with fail
 have hT:zaA ls=zeS (ls.drop 0) (befP ls 0):=by rw[zaA,if_neg Mcq];rfl
 go_loopw [2,10] (fun u i wr=>u= .int .i64 0/\ ∃k:Nat,k<=ls.length/\i= .int .i64 k/\zaA ls=zeS (ls.drop k) (befP ls k)/\ ∃z,wr=w.ext z) (fun _ i _=>ls.length-(intOf i).toNat)
 case atStart=>exact⟨rfl,0,Nat.zero_le _,rfl,hT,zbb (Below.refl _ _)⟩
 case round=>
  obtain⟨rfl,k,hk,rfl,hf,z,rfl⟩:=hrel;clear hT hx;by_cases aa:k<ls.length
  ·rw[List.drop_eq_getElem_cons aa,zeS]at hf;obtain⟨b,off,rfl,hb,hc⟩:=hS.at aa;have h0:w.cell? ⟨b,off+k*4,none⟩=some (.int .i64 ls[k].frm):=hc 0 _ rfl;have h1:w.cell? ⟨b,off+k*4+1,none⟩=some (.bool ls[k].stems):=hc 1 _ rfl;have h2:w.cell? ⟨b,off+k*4+2,none⟩=some (.int .i64 ls[k].num):=hc 2 _ rfl;have h3:w.cell? ⟨b,off+k*4+3,none⟩=some (.int .i64 ls[k].den):=hc 3 _ rfl;have HF:=zHi hf;have jv:(k:Int)<(ls.length:Int):=Mcl;have iH:0<k->w.cell? ⟨b,off+(k-1)*4,none⟩=some (.int .i64 (ls[k-1]' Mcl).frm):=fun aT=>by
    exact Mbv
   have HP:=zHi iH;have HB:befP ls (k+1)=some ls[k].frm:=zhB ls aa;have HB:=zHi HB;clear hc hf hS iH
   go_upto_region 10 with(first
    |(go_at_call 59;refine(zcN _ _).mono ?_;intro e wq hq;rcases Ret0.bools hq with⟨rfl,⟨hb,rfl⟩|⟨hb,rfl⟩⟩<;>clear hq)
    |(go_at_call 120;refine(zdM _ _ _).mono ?_;intro e wq hq;rcases Ret.bools hq with⟨zq,rfl,⟨hb,rfl⟩|⟨hb,rfl⟩⟩<;>clear hq))
   all_goals first
    |(go_ret
      exact Ret.of (zb5 MdR) Bw)
    |skip
   rcases Nat.eq_zero_or_pos k with aT|aT
   ·have hd:decide ((k:Int)>0)=false:=Mcq;have gZ:befP ls k=none:=by rw[befP,if_pos aT]
    go_quiet (fail)
    go_wp2_with fail
    go_round
    case rel=>subst aT;exact⟨rfl,1,by omega,rfl,by rw[HF.o,HB.o];simp[zhm, *],zbb Bw⟩
    case measure=>simp[intOf];omega
   ·have hd:decide ((k:Int)>0)=true:=Mcq;have ud:IntKind.i64.wrap ((k:Int)-1)=(k:Int)-1:=IntWalk.i64_in _ Mcl;have ia:0<=(k:Int)-1:=Mcl;have fS:((k:Int)-1).toNat=k-1:=Mcl;have bD:(k:Int)-1<(ls.length:Int):=Mcl;have hp:=HP.o aT;have aK:befP ls k=some (ls[k-1]' Mcl).frm:=by have:=zhB ls (k:=k-1) Mcl;rwa [Nat.sub_add_cancel aT]at this
    go_quiet (fail)
    go_wp2_with fail
    all_goals first
     |(go_ret
       exact Ret.of (zb5 MdR) Bw)
     |(go_round
       case rel=>exact⟨rfl,k+1,by omega,by go_num,by rw[HF.o,HB.o];simp[zhm, *],zbb Bw⟩
       case measure=>simp[intOf];omega)
  ·exact MaA
def Law.v (x:Law):Value:= .agg #[.int .i64 x.frm, .bool x.stems, .int .i64 x.num, .int .i64 x.den]
theorem zib {fn:Func} {p:Tmp} (h:fn.results= #[.cell p 95]) (tmps:Array Value) (w:World) (B:Nat) (x:Law) (hp:tmps.getD p undef= .pointer (some ⟨B,0,none⟩))
 (h0:w.cell? ⟨B,0,none⟩=some (.int .i64 x.frm)) (h1:w.cell? ⟨B,1,none⟩=some (.bool x.stems)) (h2:w.cell? ⟨B,2,none⟩=some (.int .i64 x.num)) (h3:w.cell? ⟨B,3,none⟩=some (.int .i64 x.den)):(results fn tmps).run Tryz.prog w= .ok x.v w:=by
 rw[zdE h,hp];unfold Law.v;go_simp
theorem zfw (ls:List Law) (day:Int) {k:Nat} (h:k<ls.length):zaV (ls.take (k+1)) day=if decide (ls[k].frm<=day)then ls[k]else zaV (ls.take k) day:=by
 rw[List.take_succ_eq_append_getElem h];unfold zaV;rw[List.filter_append];by_cases hc:ls[k].frm<=day<;>simp[hc]
theorem zar (w:World) (o:Obj) (k:Nat) (h:k=w.heap.size):(w.alloc o).heap[k]?=some o:=by rw[h];exact heap_alloc_new w o
theorem zak {w:World} {o x:Obj} {k:Nat} (h:w.heap[k]?=some x):(w.alloc o).heap[k]?=some x:=(Below.heap_alloc w o k (zab h)).trans h
theorem zn1 {w:World} {g:Nat} {z0 z1 z2 z3 a b c d:Value} {t:TypeId} {fr:Nat×Nat} (h:w.heap[g]?=some (.cells #[z0,z1,z2,z3] t fr)):
 ((((w.setCell ⟨g,0,none⟩ a).setCell ⟨g,1,none⟩ b).setCell ⟨g,2,none⟩ c).setCell ⟨g,3,none⟩ d).heap[g]?=some (.cells #[a,b,c,d] t fr):=by
 have:=Joins.block_setCell (i:=3) (Joins.block_setCell (i:=2) (Joins.block_setCell (i:=1) (Joins.block_setCell (i:=0) h a) b) c) d;simpa using this
theorem zj2 (ls:List Law) (A:Option Addr) (c:Nat) (day:Int) (w:World) (hl:ls.length<=10) (hS:Sl w 4 Law.cells A ls):Calls Tryz.prog 33 #[.slice A ls.length c, .int .i64 day] w (Ret w (zaV ls day).v):=by
 go_enter Tryz.func33,Tryz.ntmps33
 go_wp2_with fail
 go_loopw [12] (fun i wr=> ∃k:Nat,k<=ls.length/\i= .int .i64 k/\ ∃x:Law,x=zaV (ls.take k) day/\Below w.heap.size w wr/\w.heap.size+2<=wr.heap.size/\wr.heap[w.heap.size]?=some (.cells #[.int .i64 0, .bool false, .int .i64 0, .int .i64 0] 95)/\wr.heap[w.heap.size+1]?=some (.cells #[.int .i64 x.frm, .bool x.stems, .int .i64 x.num, .int .i64 x.den] 95)) (fun i _=>ls.length-(intOf i).toNat)
 case atStart=>
  refine⟨0,Nat.zero_le _,rfl,zmq,rfl,?_,?_,?_,?_⟩
  ·exact Bw
  ·simp
  ·exact zak (zar _ _ _ rfl)
  ·exact zar _ _ _ Mco
 case round=>
  obtain⟨k,hk,rfl,x,hx,hB,hsz,g0,g1⟩:=hrel;have c0:wr.cell? ⟨w.heap.size+1,0,none⟩=some (.int .i64 x.frm):=Mcr;have c1:wr.cell? ⟨w.heap.size+1,1,none⟩=some (.bool x.stems):=Mcr;have c2:wr.cell? ⟨w.heap.size+1,2,none⟩=some (.int .i64 x.num):=Mcr;have c3:wr.cell? ⟨w.heap.size+1,3,none⟩=some (.int .i64 x.den):=Mcr;have d0:wr.cell? ⟨w.heap.size,0,none⟩=some (.int .i64 0):=Mcp;have d1:wr.cell? ⟨w.heap.size,1,none⟩=some (.bool false):=Mcp;have d2:wr.cell? ⟨w.heap.size,2,none⟩=some (.int .i64 0):=Mcp;have d3:wr.cell? ⟨w.heap.size,3,none⟩=some (.int .i64 0):=Mcp;have f0:wr.frozen? ⟨w.heap.size,0,none⟩=false:=Mcy;have f1:wr.frozen? ⟨w.heap.size+1,0,none⟩=false:=Mcz;have e1:wr.frozen? ⟨w.heap.size+1,1,none⟩=false:=Mcz;have e2:wr.frozen? ⟨w.heap.size+1,2,none⟩=false:=Mcz;have e3:wr.frozen? ⟨w.heap.size+1,3,none⟩=false:=Mcz;have m1:wr.frozen? ⟨w.heap.size,1,none⟩=false:=Mcy;have m2:wr.frozen? ⟨w.heap.size,2,none⟩=false:=Mcy;have m3:wr.frozen? ⟨w.heap.size,3,none⟩=false:=Mcy;have eh:w.heap.size+1<wr.heap.size:=Mcl;have aw:w.heap.size<wr.heap.size:=Mcl;have br:w.heap.size+1≠wr.heap.size:=Mcl;by_cases aa:k<ls.length
  ·obtain⟨b,off,rfl,hb,hc⟩:=(hS.keep hB).at aa;have h0:wr.cell? ⟨b,off+k*4,none⟩=some (.int .i64 ls[k].frm):=hc 0 _ rfl;have h1:wr.cell? ⟨b,off+k*4+1,none⟩=some (.bool ls[k].stems):=hc 1 _ rfl;have h2:wr.cell? ⟨b,off+k*4+2,none⟩=some (.int .i64 ls[k].num):=hc 2 _ rfl;have h3:wr.cell? ⟨b,off+k*4+3,none⟩=some (.int .i64 ls[k].den):=hc 3 _ rfl;clear hc hS;go_wp2_with fail
   ·refine⟨⟨k+1,by omega,by go_num,ls[k],by rw[zfw ls day aa,if_pos (by simp;assumption)],?_,?_,?_,?_⟩,by simp[intOf];omega⟩
    ·exact zac (zaO (zaO (zaO (zaO hB Mco _) Mco _) Mco _) Mco _) _
    ·simp;omega
    ·exact zak (((zaO (zaO (zaO (zaO (Below.refl (w.heap.size+1) wr) Mco _) Mco _) Mco _) Mco _).block w.heap.size Mcl).trans g0)
    ·exact zak (zn1 g1)
   ·refine⟨⟨k+1,by omega,by go_num,zaV (ls.take k) day,by rw[zfw ls day aa,if_neg (by simp;assumption)],?_,?_,?_,?_⟩,by simp[intOf];omega⟩
    ·exact zac hB _
    ·simp;omega
    ·exact zak g0
    ·exact zak (by simpa[hx]using g1)
  ·go_wp2_with fail
   have pF:ls.take k=ls:=List.take_of_length_le Mcl;have g4:=zn1 (a:= .int .i64 (zaV ls day).frm) (b:= .bool (zaV ls day).stems) (c:= .int .i64 (zaV ls day).num) (d:= .int .i64 (zaV ls day).den) g0;rw[pF];refine bodyPost_ret (v:=(zaV ls day).v) ?_ rfl ?_
   ·refine zib rfl _ _ w.heap.size _ rfl ?_ ?_ ?_ ?_<;>simp[World.cell?,g4]
   ·exact Ret.of rfl (zaO (zaO (zaO (zaO hB Mco _) Mco _) Mco _) Mco _)
end Go.Proofs.YtckkbkdcdkhglaaGreatDoor
