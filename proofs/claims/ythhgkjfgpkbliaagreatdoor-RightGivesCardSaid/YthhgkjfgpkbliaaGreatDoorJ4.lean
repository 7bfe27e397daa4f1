import Derived.Test.YthhgkjfgpkbliaaGreatDoorMM
import Derived.Test.YthhgkjfgpkbliaaGreatDoorJ1
set_option linter.all false
set_option maxRecDepth 100000
set_option maxHeartbeats 4000000
namespace Go.Proofs.YthhgkjfgpkbliaaGreatDoor
open Go.RowKit
attribute [local go_sem] World.cell?_alloc_mark zae zav zai zaw zam zan zao zap zaq zar zas
attribute [local go_sem] zah zac
def zdG(w:World)(C:Nat)(r:Rat)(e:Ending)(w':World):Prop:=(r.den<=1000000000/\Ret w (za9 r) e w')\/(1000000000<r.den/\Ret (w.setCell ⟨C,0,none⟩ (.bool true)) (za9 0) e w')
theorem zgG(C:Nat)(r:Rat)(f:Bool)(w:World)(hc:w.cell? ⟨C,0,none⟩=some (.bool f))(hC:C<w.heap.size)(hf:w.frozen? ⟨C,0,none⟩=false):Calls Tryz.prog 121 #[.pointer (some ⟨C,0,none⟩),za9 r] w (zdG w C r):=by
 by_cases hd:r.den<=1000000000
 ·have ip:decide ((r.den:Int)>1000000000)=false:=MbH;unfold za9;go_enter Tryz.func121,Tryz.ntmps121
  go_wp2_with fail
  refine bodyPost_ret (v:=za9 r) ?_ rfl ?_
  ·exact Max
  ·exact .inl ⟨hd,Ret.of rfl Bw⟩
 ·have ip:decide ((r.den:Int)>1000000000)=true:=MbH;unfold za9;go_enter Tryz.func121,Tryz.ntmps121
  go_wp2_with fail
  refine bodyPost_ret (v:=za9 0) ?_ rfl ?_
  ·exact MD
  ·refine .inr ⟨by omega,Ret.of rfl ?_⟩;exact Bw
theorem cmulI(C:Nat)(f:Bool)(w:World)(hc:w.cell? ⟨C,0,none⟩=some (.bool f))(hC:C<w.heap.size)(hf:w.frozen? ⟨C,0,none⟩=false)(a b c d:Int)(ha:a.natAbs<=1000000000)(hb:b.natAbs<=1000000000)(bY:c.natAbs<=1000000000)(hd:d.natAbs<=1000000000)(ax:0<b)(gv:0<d):Calls Tryz.prog 148 #[.pointer (some ⟨C,0,none⟩),.agg #[.int .i64 a,.int .i64 b],.agg #[.int .i64 c,.int .i64 d]] w (zdG w C (Rat.divInt (a*c) (b*d))):=by
 obtain⟨m1,n1⟩:=zaP ha bY;obtain⟨m3,n3⟩:=zaP hb hd;have m4:0<b*d:=Int.mul_pos ax gv;have w1:IntKind.i64.wrap (a*c)=a*c:=IntWalk.i64_in _ MbC;have w3:IntKind.i64.wrap (b*d)=b*d:=IntWalk.i64_in _ MbC;have hs:(a*c).natAbs<=4611686018427387904:=MbC;have hl:b*d<=4611686018427387904:=MbC;obtain⟨HS,HL,H4⟩:=yH3 hs hl m4;clear hs hl m4 ha hb bY hd;go_enter Tryz.func148,Tryz.ntmps148
 go_wp2_with (first
  |(go_at_call 178;refine(zdc _ _ _ HS.o H4.o HL.o).mono ?_;rintro e w1 ⟨rfl,z1,rfl⟩)
  |(go_at_call 121
    refine(zgG C _ f _ ?s1 ?s2 ?s3).mono ?_
    case s1=>simp[go_sem,hC,hc]
    case s2=>simp[zae];omega
    case s3=>simp[go_sem,hC,hf]
    intro e wq hq
    rcases hq with⟨hd,rfl,zq,rfl⟩|⟨hd,rfl,zq,rfl⟩<;>simp only[za9]))
 ·refine bodyPost_ret (v:=za9 (Rat.divInt (a*c) (b*d))) ?_ rfl ?_
  ·exact MD
  ·exact Ma8
 ·exact Mbt
theorem cmul5_any(C:Nat)(f:Bool)(w:World)(hc:w.cell? ⟨C,0,none⟩=some (.bool f))(hC:C<w.heap.size)(hf:w.frozen? ⟨C,0,none⟩=false)(p q:Rat)(hp:zaD p)(hq:zaD q):Calls Tryz.prog 148 #[.pointer (some ⟨C,0,none⟩),za9 p,za9 q] w (zdG w C (p*q)):=by
 rw[zf9];exact cmulI C f w hc hC hf _ _ _ _ hp.1 (by have:=hp.2;omega) hq.1 (by have:=hq.2;omega) (zci p) (zci q)
theorem cquoI(C:Nat)(f:Bool)(w:World)(hc:w.cell? ⟨C,0,none⟩=some (.bool f))(hC:C<w.heap.size)(hf:w.frozen? ⟨C,0,none⟩=false)(a b c d:Int)(ha:a.natAbs<=1000000000)(hb:b.natAbs<=1000000000)(bY:c.natAbs<=1000000000)(hd:d.natAbs<=1000000000)(ax:0<b)(gv:0<c):Calls Tryz.prog 149 #[.pointer (some ⟨C,0,none⟩),.agg #[.int .i64 a,.int .i64 b],.agg #[.int .i64 c,.int .i64 d]] w (zdG w C (Rat.divInt (a*d) (b*c))):=by
 obtain⟨m1,n1⟩:=zaP ha hd;obtain⟨m3,n3⟩:=zaP hb bY;have m4:0<b*c:=Int.mul_pos ax gv;have w1:IntKind.i64.wrap (a*d)=a*d:=IntWalk.i64_in _ MbC;have w3:IntKind.i64.wrap (b*c)=b*c:=IntWalk.i64_in _ MbC;have hs:(a*d).natAbs<=4611686018427387904:=MbC;have hl:b*c<=4611686018427387904:=MbC;obtain⟨HS,HL,H4⟩:=yH3 hs hl m4;clear hs hl m4 ha hb bY hd;go_enter Tryz.func149,Tryz.ntmps149
 go_wp2_with (first
  |(go_at_call 178;refine(zdc _ _ _ HS.o H4.o HL.o).mono ?_;rintro e w1 ⟨rfl,z1,rfl⟩)
  |(go_at_call 121
    refine(zgG C _ f _ ?s1 ?s2 ?s3).mono ?_
    case s1=>simp[go_sem,hC,hc]
    case s2=>simp[zae];omega
    case s3=>simp[go_sem,hC,hf]
    intro e wq hq
    rcases hq with⟨hd,rfl,zq,rfl⟩|⟨hd,rfl,zq,rfl⟩<;>simp only[za9]))
 ·refine bodyPost_ret (v:=za9 (Rat.divInt (a*d) (b*c))) ?_ rfl ?_
  ·exact MD
  ·exact Ma8
 ·exact Mbt
theorem cquo5_any(C:Nat)(f:Bool)(w:World)(hc:w.cell? ⟨C,0,none⟩=some (.bool f))(hC:C<w.heap.size)(hf:w.frozen? ⟨C,0,none⟩=false)(p q:Rat)(hp:zaD p)(hq:zaD q)(h0:0<q):Calls Tryz.prog 149 #[.pointer (some ⟨C,0,none⟩),za9 p,za9 q] w (zdG w C (p/q)):=by
 have CW:0<q.num:=by have:=(Rat.lt_iff 0 q).1 h0;simpa using this
 rw[zmc p q h0];exact cquoI C f w hc hC hf _ _ _ _ hp.1 (by have:=hp.2;omega) hq.1 (by have:=hq.2;omega) (zci p) CW
theorem cadd5_any(C:Nat)(f:Bool)(w:World)(hc:w.cell? ⟨C,0,none⟩=some (.bool f))(hC:C<w.heap.size)(hf:w.frozen? ⟨C,0,none⟩=false)(p q:Rat)(hp:zaD p)(hq:zaD q):Calls Tryz.prog 73 #[.pointer (some ⟨C,0,none⟩),za9 p,za9 q] w (zdG w C (p+q)):=by
 have HA:=fun W=>zlt p q W hp hq
 clear hp hq;unfold za9 at*;go_enter Tryz.func73,Tryz.ntmps73
 go_wp2_with (first
  |(go_at_call 122;refine(HA _).mono ?_;rintro e w1 ⟨rfl,z1,rfl⟩)
  |(go_at_call 121
    refine(zgG C _ f _ ?s1 ?s2 ?s3).mono ?_
    case s1=>simp[go_sem,hC,hc]
    case s2=>simp[zae];omega
    case s3=>simp[go_sem,hC,hf]
    intro e wq hq
    rcases hq with⟨hd,rfl,zq,rfl⟩|⟨hd,rfl,zq,rfl⟩<;>simp only[za9]))
 ·refine bodyPost_ret (v:=za9 (p+q)) ?_ rfl ?_
  ·exact MD
  ·exact Ma8
 ·exact Mbt
def befP(ls:List Law)(k:Nat):Option Int:=if k=0 then none else(ls[k-1]?).map (·.frm)
theorem zlu(ls:List Law){k:Nat}(h:k<ls.length):befP ls (k+1)=some ls[k].frm:=by
 rw[befP,if_neg MbC];simp[h]
theorem zeB(ls:List Law)(A:Option Addr)(n c:Nat)(w:World)(hn:n=ls.length)(hS:Sl w 4 Law.cells A ls):Calls Tryz.prog 90 #[.slice A n c] w (Ret w (.int .i64 (za7 ls))):=by
 subst hn;go_enter Tryz.func90,Tryz.ntmps90
 by_cases AU:10<ls.length
 ·have hx:decide ((10:Int)<(ls.length:Int))=true:=MbH;go_wp2_with fail
  go_ret
  exact Ret.of (zbU (by rw[za7,if_pos MbH])) Bw
 have hx:decide ((10:Int)<(ls.length:Int))=false:=MbH;go_wp2_with fail
 have hT:za7 ls=zfY (ls.drop 0) (befP ls 0):=by rw[za7,if_neg MbH];rfl
 go_loopw [2,10] (fun u i wr=>u=.int .i64 0/\∃k:Nat,k<=ls.length/\i=.int .i64 k/\za7 ls=zfY (ls.drop k) (befP ls k)/\∃z,wr=w.ext z) (fun _ i _=>ls.length-(intOf i).toNat)
 case atStart=>exact⟨rfl,0,Nat.zero_le _,rfl,hT,zaM (Below.refl _ _)⟩
 case round=>
  obtain⟨rfl,k,hk,rfl,hf,z,rfl⟩:=hrel;clear hT hx;by_cases aa:k<ls.length
  ·rw[List.drop_eq_getElem_cons aa,zfY]at hf;obtain⟨b,off,rfl,hb,hc⟩:=hS.at aa;have h0:w.cell? ⟨b,off+k*4,none⟩=some (.int .i64 ls[k].frm):=hc 0 _ rfl;have h1:w.cell? ⟨b,off+k*4+1,none⟩=some (.bool ls[k].stems):=hc 1 _ rfl;have h2:w.cell? ⟨b,off+k*4+2,none⟩=some (.int .i64 ls[k].num):=hc 2 _ rfl;have h3:w.cell? ⟨b,off+k*4+3,none⟩=some (.int .i64 ls[k].den):=hc 3 _ rfl;have HF:=zHi hf;have ix:(k:Int)<(ls.length:Int):=MbC;have kO:0<k->w.cell? ⟨b,off+(k-1)*4,none⟩=some (.int .i64 (ls[k-1]' MbC).frm):=fun bf=>by
    obtain⟨b',off',he,_,ar⟩:=hS.at (k:=k-1) MbC;cases he;exact ar 0 _ rfl
   have HP:=zHi kO;have HB:befP ls (k+1)=some ls[k].frm:=zlu ls aa;have HB:=zHi HB;clear hc hf hS kO
   go_upto_region 10 with(first
    |(go_at_call 47;refine(zcu _ _).mono ?_;intro e wq hq;rcases Ret0.bools hq with⟨rfl,⟨hb,rfl⟩|⟨hb,rfl⟩⟩<;>clear hq)
    |(go_at_call 141;refine(zdd _ _ _).mono ?_;intro e wq hq;rcases Ret.bools hq with⟨zq,rfl,⟨hb,rfl⟩|⟨hb,rfl⟩⟩<;>clear hq))
   all_goals first
    |(go_ret
      exact Ret.of (zbU (by rw[HF.o];simp[zgE, *])) Bw)
    |skip
   rcases Nat.eq_zero_or_pos k with bf|bf
   ·have hd:decide ((k:Int)>0)=false:=MbH;have eu:befP ls k=none:=by rw[befP,if_pos bf]
    go_quiet (fail)
    go_wp2_with fail
    go_round
    case rel=>subst bf;exact⟨rfl,1,by omega,rfl,by rw[HF.o,HB.o];simp[zgE, *],zaM Bw⟩
    case measure=>simp[intOf];omega
   ·have hd:decide ((k:Int)>0)=true:=MbH;have rM:IntKind.i64.wrap ((k:Int)-1)=(k:Int)-1:=IntWalk.i64_in _ MbC;have fF:0<=(k:Int)-1:=MbC;have fI:((k:Int)-1).toNat=k-1:=MbC;have aT:(k:Int)-1<(ls.length:Int):=MbC;have hp:=HP.o bf;have aS:befP ls k=some (ls[k-1]' MbC).frm:=by have:=zlu ls (k:=k-1) MbC;rwa [Nat.sub_add_cancel bf]at this
    go_quiet (fail)
    go_wp2_with fail
    all_goals first
     |(go_ret
       exact Ret.of (zbU (by rw[HF.o];simp[zgE, *])) Bw)
     |(go_round
       case rel=>exact⟨rfl,k+1,by omega,by go_num,by rw[HF.o,HB.o];simp[zgE, *],zaM Bw⟩
       case measure=>simp[intOf];omega)
  ·rw[List.drop_eq_nil_of_le MbC,zfY]at hf;have HF:=zHi hf;clear hf hS;have ix:¬(k:Int)<(ls.length:Int):=MbC;go_wp2_with fail
   go_ret
   exact Ret.of (zbU (by rw[HF.o])) Bw
def Law.v(x:Law):Value:=.agg #[.int .i64 x.frm,.bool x.stems,.int .i64 x.num,.int .i64 x.den]
theorem zkv{fn:Func}{p:Tmp}(h:fn.results= #[.cell p 96])(tmps:Array Value)(w:World)(B:Nat)(x:Law)(hp:tmps.getD p undef=.pointer (some ⟨B,0,none⟩))
 (h0:w.cell? ⟨B,0,none⟩=some (.int .i64 x.frm))(h1:w.cell? ⟨B,1,none⟩=some (.bool x.stems))(h2:w.cell? ⟨B,2,none⟩=some (.int .i64 x.num))(h3:w.cell? ⟨B,3,none⟩=some (.int .i64 x.den)):(results fn tmps).run Tryz.prog w=.ok x.v w:=by
 rw[zd3 h,hp];unfold Law.v;go_simp
theorem zhV(ls:List Law)(day:Int){k:Nat}(h:k<ls.length):zb3 (ls.take (k+1)) day=if decide (ls[k].frm<=day)then ls[k]else zb3 (ls.take k) day:=by
 rw[List.take_succ_eq_append_getElem h];unfold zb3;rw[List.filter_append];by_cases hc:ls[k].frm<=day<;>simp[hc]
theorem za3(w:World)(o:Obj)(k:Nat)(h:k=w.heap.size):(w.alloc o).heap[k]?=some o:=by rw[h];exact heap_alloc_new w o
theorem zal{w:World}{o x:Obj}{k:Nat}(h:w.heap[k]?=some x):(w.alloc o).heap[k]?=some x:=(Below.heap_alloc w o k (zad h)).trans h
theorem J_set4{w:World}{g:Nat}{z0 z1 z2 z3 a b c d:Value}{t:TypeId}{fr:Nat×Nat}(h:w.heap[g]?=some (.cells #[z0,z1,z2,z3] t fr)):
 ((((w.setCell ⟨g,0,none⟩ a).setCell ⟨g,1,none⟩ b).setCell ⟨g,2,none⟩ c).setCell ⟨g,3,none⟩ d).heap[g]?=some (.cells #[a,b,c,d] t fr):=by
 have:=Joins.block_setCell (i:=3) (Joins.block_setCell (i:=2) (Joins.block_setCell (i:=1) (Joins.block_setCell (i:=0) h a) b) c) d;simpa using this
theorem zmd(ls:List Law)(A:Option Addr)(c:Nat)(day:Int)(w:World)(hl:ls.length<=10)(hS:Sl w 4 Law.cells A ls):Calls Tryz.prog 151 #[.slice A ls.length c,.int .i64 day] w (Ret w (zb3 ls day).v):=by
 go_enter Tryz.func151,Tryz.ntmps151
 go_wp2_with fail
 go_loopw [12] (fun i wr=>∃k:Nat,k<=ls.length/\i=.int .i64 k/\∃x:Law,x=zb3 (ls.take k) day/\Below w.heap.size w wr/\w.heap.size+2<=wr.heap.size/\wr.heap[w.heap.size]?=some (.cells #[.int .i64 0,.bool false,.int .i64 0,.int .i64 0] 96)/\wr.heap[w.heap.size+1]?=some (.cells #[.int .i64 x.frm,.bool x.stems,.int .i64 x.num,.int .i64 x.den] 96)) (fun i _=>ls.length-(intOf i).toNat)
 case atStart=>
  refine⟨0,Nat.zero_le _,rfl,zeroLaw,rfl,?_,?_,?_,?_⟩
  ·exact Bw
  ·simp
  ·exact zal (za3 _ _ _ rfl)
  ·exact za3 _ _ _ MbF
 case round=>
  obtain⟨k,hk,rfl,x,hx,hB,hsz,g0,g1⟩:=hrel;have c0:wr.cell? ⟨w.heap.size+1,0,none⟩=some (.int .i64 x.frm):=MbI;have c1:wr.cell? ⟨w.heap.size+1,1,none⟩=some (.bool x.stems):=MbI;have c2:wr.cell? ⟨w.heap.size+1,2,none⟩=some (.int .i64 x.num):=MbI;have c3:wr.cell? ⟨w.heap.size+1,3,none⟩=some (.int .i64 x.den):=MbI;have d0:wr.cell? ⟨w.heap.size,0,none⟩=some (.int .i64 0):=MbG;have d1:wr.cell? ⟨w.heap.size,1,none⟩=some (.bool false):=MbG;have d2:wr.cell? ⟨w.heap.size,2,none⟩=some (.int .i64 0):=MbG;have d3:wr.cell? ⟨w.heap.size,3,none⟩=some (.int .i64 0):=MbG;have f0:wr.frozen? ⟨w.heap.size,0,none⟩=false:=MbX;have f1:wr.frozen? ⟨w.heap.size+1,0,none⟩=false:=MbY;have e1:wr.frozen? ⟨w.heap.size+1,1,none⟩=false:=MbY;have e2:wr.frozen? ⟨w.heap.size+1,2,none⟩=false:=MbY;have e3:wr.frozen? ⟨w.heap.size+1,3,none⟩=false:=MbY;have m1:wr.frozen? ⟨w.heap.size,1,none⟩=false:=MbX;have m2:wr.frozen? ⟨w.heap.size,2,none⟩=false:=MbX;have m3:wr.frozen? ⟨w.heap.size,3,none⟩=false:=MbX;have eG:w.heap.size+1<wr.heap.size:=MbC;have eF:w.heap.size<wr.heap.size:=MbC;have bk:w.heap.size+1≠wr.heap.size:=MbC;by_cases aa:k<ls.length
  ·obtain⟨b,off,rfl,hb,hc⟩:=(hS.keep hB).at aa;have h0:wr.cell? ⟨b,off+k*4,none⟩=some (.int .i64 ls[k].frm):=hc 0 _ rfl;have h1:wr.cell? ⟨b,off+k*4+1,none⟩=some (.bool ls[k].stems):=hc 1 _ rfl;have h2:wr.cell? ⟨b,off+k*4+2,none⟩=some (.int .i64 ls[k].num):=hc 2 _ rfl;have h3:wr.cell? ⟨b,off+k*4+3,none⟩=some (.int .i64 ls[k].den):=hc 3 _ rfl;clear hc hS;go_wp2_with fail
   ·refine⟨⟨k+1,by omega,by go_num,ls[k],by rw[zhV ls day aa,if_pos (by simp;assumption)],?_,?_,?_,?_⟩,by simp[intOf];omega⟩
    ·exact zau (zaU (zaU (zaU (zaU hB MbF _) MbF _) MbF _) MbF _) _
    ·simp;omega
    ·exact zal (((zaU (zaU (zaU (zaU (Below.refl (w.heap.size+1) wr) MbF _) MbF _) MbF _) MbF _).block w.heap.size MbC).trans g0)
    ·exact zal (J_set4 g1)
   ·refine⟨⟨k+1,by omega,by go_num,zb3 (ls.take k) day,by rw[zhV ls day aa,if_neg (by simp;assumption)],?_,?_,?_,?_⟩,by simp[intOf];omega⟩
    ·exact zau hB _
    ·simp;omega
    ·exact zal g0
    ·exact zal (by simpa[hx]using g1)
  ·go_wp2_with fail
   have eR:ls.take k=ls:=List.take_of_length_le MbC;have g4:=J_set4 (a:=.int .i64 (zb3 ls day).frm) (b:=.bool (zb3 ls day).stems) (c:=.int .i64 (zb3 ls day).num) (d:=.int .i64 (zb3 ls day).den) g0;rw[eR];refine bodyPost_ret (v:=(zb3 ls day).v) ?_ rfl ?_
   ·refine zkv rfl _ _ w.heap.size _ rfl ?_ ?_ ?_ ?_<;>simp[World.cell?,g4]
   ·exact Ret.of rfl (zaU (zaU (zaU (zaU hB MbF _) MbF _) MbF _) MbF _)
