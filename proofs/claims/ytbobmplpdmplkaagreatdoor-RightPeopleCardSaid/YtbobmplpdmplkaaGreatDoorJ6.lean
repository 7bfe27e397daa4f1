import Derived.Test.YtbobmplpdmplkaaGreatDoorMM
import Derived.Test.YtbobmplpdmplkaaGreatDoorJ1
import Derived.Test.YtbobmplpdmplkaaGreatDoorJS
set_option linter.all false
set_option maxRecDepth 100000
set_option maxHeartbeats 4000000
namespace Go.Proofs.YtbobmplpdmplkaaGreatDoor
open Go.RowKit
attribute [local go_sem] World.cell?_alloc_mark zaf za4 zam za7 zaw zax zay zaz za0 za1 za2
section
attribute [local go_sem] zan zac
def ze1(w:World)(C:Nat)(r:Rat)(e:Ending)(w':World):Prop:=(r.den<=1000000000/\Ret w (zaA r) e w')\/(1000000000<r.den/\Ret (w.setCell ⟨C,0,none⟩ (.bool true)) (zaA 0) e w')
theorem zib(C:Nat)(r:Rat)(f:Bool)(w:World)(hc:w.cell? ⟨C,0,none⟩=some (.bool f))(hC:C<w.heap.size)(hf:w.frozen? ⟨C,0,none⟩=false):Calls Tryz.prog 179 #[.pointer (some ⟨C,0,none⟩),zaA r] w (ze1 w C r):=by
 by_cases hd:r.den<=1000000000
 ·have dU:decide ((r.den:Int)>1000000000)=false:=McD;unfold zaA;go_enter Tryz.func179,Tryz.ntmps179
  go_wp2_with fail
  refine bodyPost_ret (v:=zaA r) ?_ rfl ?_
  ·exact Maf
  ·exact .inl ⟨hd,Ret.of rfl Bw⟩
 ·have dU:decide ((r.den:Int)>1000000000)=true:=McD;unfold zaA;go_enter Tryz.func179,Tryz.ntmps179
  go_wp2_with fail
  refine bodyPost_ret (v:=zaA 0) ?_ rfl ?_
  ·exact MW
  ·refine .inr ⟨by omega,Ret.of rfl ?_⟩;exact Bw
theorem cmulI(C:Nat)(f:Bool)(w:World)(hc:w.cell? ⟨C,0,none⟩=some (.bool f))(hC:C<w.heap.size)(hf:w.frozen? ⟨C,0,none⟩=false)(a b c d:Int)(ha:a.natAbs<=1000000000)(hb:b.natAbs<=1000000000)(cx:c.natAbs<=1000000000)(hd:d.natAbs<=1000000000)(ba:0<b)(ik:0<d):Calls Tryz.prog 155 #[.pointer (some ⟨C,0,none⟩),.agg #[.int .i64 a,.int .i64 b],.agg #[.int .i64 c,.int .i64 d]] w (ze1 w C (Rat.divInt (a*c) (b*d))):=by
 obtain⟨m1,n1⟩:=zaN ha cx;obtain⟨m3,n3⟩:=zaN hb hd;have m4:0<b*d:=Int.mul_pos ba ik;have w1:IntKind.i64.wrap (a*c)=a*c:=IntWalk.i64_in _ Mcy;have w3:IntKind.i64.wrap (b*d)=b*d:=IntWalk.i64_in _ Mcy;have hs:(a*c).natAbs<=4611686018427387904:=Mcy;have hl:b*d<=4611686018427387904:=Mcy;obtain⟨HS,HL,H4⟩:=yH3 hs hl m4;clear hs hl m4 ha hb cx hd;go_enter Tryz.func155,Tryz.ntmps155
 go_wp2_with (first
  |(go_at_call 174;refine(zdI _ _ _ HS.o H4.o HL.o).mono ?_;rintro e w1 ⟨rfl,z1,rfl⟩)
  |(go_at_call 179
    refine(zib C _ f _ ?s1 ?s2 ?s3).mono ?_
    case s1=>simp[go_sem,hC,hc]
    case s2=>simp[zaf];omega
    case s3=>simp[go_sem,hC,hf]
    intro e wq hq
    rcases hq with⟨hd,rfl,zq,rfl⟩|⟨hd,rfl,zq,rfl⟩<;>simp only[zaA]))
 ·refine bodyPost_ret (v:=zaA (Rat.divInt (a*c) (b*d))) ?_ rfl ?_
  ·exact MW
  ·exact MbV
 ·exact Mcl
theorem cmul5_any(C:Nat)(f:Bool)(w:World)(hc:w.cell? ⟨C,0,none⟩=some (.bool f))(hC:C<w.heap.size)(hf:w.frozen? ⟨C,0,none⟩=false)(p q:Rat)(hp:zaI p)(hq:zaI q):Calls Tryz.prog 155 #[.pointer (some ⟨C,0,none⟩),zaA p,zaA q] w (ze1 w C (p*q)):=by
 rw[zgI];exact cmulI C f w hc hC hf _ _ _ _ hp.1 (by have:=hp.2;omega) hq.1 (by have:=hq.2;omega) (zbT p) (zbT q)
theorem cquoI(C:Nat)(f:Bool)(w:World)(hc:w.cell? ⟨C,0,none⟩=some (.bool f))(hC:C<w.heap.size)(hf:w.frozen? ⟨C,0,none⟩=false)(a b c d:Int)(ha:a.natAbs<=1000000000)(hb:b.natAbs<=1000000000)(cx:c.natAbs<=1000000000)(hd:d.natAbs<=1000000000)(ba:0<b)(ik:0<c):Calls Tryz.prog 157 #[.pointer (some ⟨C,0,none⟩),.agg #[.int .i64 a,.int .i64 b],.agg #[.int .i64 c,.int .i64 d]] w (ze1 w C (Rat.divInt (a*d) (b*c))):=by
 obtain⟨m1,n1⟩:=zaN ha hd;obtain⟨m3,n3⟩:=zaN hb cx;have m4:0<b*c:=Int.mul_pos ba ik;have w1:IntKind.i64.wrap (a*d)=a*d:=IntWalk.i64_in _ Mcy;have w3:IntKind.i64.wrap (b*c)=b*c:=IntWalk.i64_in _ Mcy;have hs:(a*d).natAbs<=4611686018427387904:=Mcy;have hl:b*c<=4611686018427387904:=Mcy;obtain⟨HS,HL,H4⟩:=yH3 hs hl m4;clear hs hl m4 ha hb cx hd;go_enter Tryz.func157,Tryz.ntmps157
 go_wp2_with (first
  |(go_at_call 174;refine(zdI _ _ _ HS.o H4.o HL.o).mono ?_;rintro e w1 ⟨rfl,z1,rfl⟩)
  |(go_at_call 179
    refine(zib C _ f _ ?s1 ?s2 ?s3).mono ?_
    case s1=>simp[go_sem,hC,hc]
    case s2=>simp[zaf];omega
    case s3=>simp[go_sem,hC,hf]
    intro e wq hq
    rcases hq with⟨hd,rfl,zq,rfl⟩|⟨hd,rfl,zq,rfl⟩<;>simp only[zaA]))
 ·refine bodyPost_ret (v:=zaA (Rat.divInt (a*d) (b*c))) ?_ rfl ?_
  ·exact MW
  ·exact MbV
 ·exact Mcl
theorem cquo5_any(C:Nat)(f:Bool)(w:World)(hc:w.cell? ⟨C,0,none⟩=some (.bool f))(hC:C<w.heap.size)(hf:w.frozen? ⟨C,0,none⟩=false)(p q:Rat)(hp:zaI p)(hq:zaI q)(h0:0<q):Calls Tryz.prog 157 #[.pointer (some ⟨C,0,none⟩),zaA p,zaA q] w (ze1 w C (p/q)):=by
 have Di:0<q.num:=MdG;rw[zjw p q h0];exact cquoI C f w hc hC hf _ _ _ _ hp.1 (by have:=hp.2;omega) hq.1 (by have:=hq.2;omega) (zbT p) Di
theorem cadd5_any(C:Nat)(f:Bool)(w:World)(hc:w.cell? ⟨C,0,none⟩=some (.bool f))(hC:C<w.heap.size)(hf:w.frozen? ⟨C,0,none⟩=false)(p q:Rat)(hp:zaI p)(hq:zaI q):Calls Tryz.prog 156 #[.pointer (some ⟨C,0,none⟩),zaA p,zaA q] w (ze1 w C (p+q)):=by
 have HA:=fun W=>zn4 p q W hp hq
 clear hp hq;unfold zaA at*;go_enter Tryz.func156,Tryz.ntmps156
 go_wp2_with (first
  |(go_at_call 149;refine(HA _).mono ?_;rintro e w1 ⟨rfl,z1,rfl⟩)
  |(go_at_call 179
    refine(zib C _ f _ ?s1 ?s2 ?s3).mono ?_
    case s1=>simp[go_sem,hC,hc]
    case s2=>simp[zaf];omega
    case s3=>simp[go_sem,hC,hf]
    intro e wq hq
    rcases hq with⟨hd,rfl,zq,rfl⟩|⟨hd,rfl,zq,rfl⟩<;>simp only[zaA]))
 ·refine bodyPost_ret (v:=zaA (p+q)) ?_ rfl ?_
  ·exact MW
  ·exact MbV
 ·exact Mcl
def befP(ls:List Law)(k:Nat):Option Int:=if k=0 then none else(ls[k-1]?).map (·.frm)
theorem zh6(ls:List Law){k:Nat}(h:k<ls.length):befP ls (k+1)=some ls[k].frm:=by
 rw[befP,if_neg Mcy];simp[h]
theorem zjg(ls:List Law)(A:Option Addr)(n c:Nat)(w:World)(hn:n=ls.length)(hS:Sl w 4 Law.cells A ls):Calls Tryz.prog 89 #[.slice A n c] w (Ret w (.int .i64 (zaD ls))):=by
 subst hn;go_enter Tryz.func89,Tryz.ntmps89
 by_cases EE:10<ls.length
 ·exact MaW
 have hx:decide ((10:Int)<(ls.length:Int))=false:=McD;go_wp2_with fail
 have hT:zaD ls=zeP (ls.drop 0) (befP ls 0):=by rw[zaD,if_neg McD];rfl
 go_loopw [2,10] (fun u i wr=>u=.int .i64 0/\∃k:Nat,k<=ls.length/\i=.int .i64 k/\zaD ls=zeP (ls.drop k) (befP ls k)/\∃z,wr=w.ext z) (fun _ i _=>ls.length-(intOf i).toNat)
 case atStart=>exact⟨rfl,0,Nat.zero_le _,rfl,hT,zaY (Below.refl _ _)⟩
 case round=>
  obtain⟨rfl,k,hk,rfl,hf,z,rfl⟩:=hrel;clear hT hx;by_cases ae:k<ls.length
  ·rw[List.drop_eq_getElem_cons ae,zeP]at hf;obtain⟨b,off,rfl,hb,hc⟩:=hS.at ae;have h0:w.cell? ⟨b,off+k*4,none⟩=some (.int .i64 ls[k].frm):=hc 0 _ rfl;have h1:w.cell? ⟨b,off+k*4+1,none⟩=some (.bool ls[k].stems):=hc 1 _ rfl;have h2:w.cell? ⟨b,off+k*4+2,none⟩=some (.int .i64 ls[k].num):=hc 2 _ rfl;have h3:w.cell? ⟨b,off+k*4+3,none⟩=some (.int .i64 ls[k].den):=hc 3 _ rfl;have HF:=zHi hf;have js:(k:Int)<(ls.length:Int):=Mcy;have ix:0<k->w.cell? ⟨b,off+(k-1)*4,none⟩=some (.int .i64 (ls[k-1]' Mcy).frm):=fun aQ=>by
    exact MbE
   have HP:=zHi ix;have HB:befP ls (k+1)=some ls[k].frm:=zh6 ls ae;have HB:=zHi HB;clear hc hf hS ix
   go_upto_region 10 with(first
    |(go_at_call 62;refine(zcP _ _).mono ?_;intro e wq hq;rcases Ret0.bools hq with⟨rfl,⟨hb,rfl⟩|⟨hb,rfl⟩⟩<;>clear hq)
    |(go_at_call 118;refine(zdJ _ _ _).mono ?_;intro e wq hq;rcases Ret.bools hq with⟨zq,rfl,⟨hb,rfl⟩|⟨hb,rfl⟩⟩<;>clear hq))
   all_goals first
    |(go_ret
      exact Ret.of (zb5 Md3) Bw)
    |skip
   rcases Nat.eq_zero_or_pos k with aQ|aQ
   ·have hd:decide ((k:Int)>0)=false:=McD;have gU:befP ls k=none:=by rw[befP,if_pos aQ]
    go_quiet (fail)
    go_wp2_with fail
    go_round
    case rel=>subst aQ;exact⟨rfl,1,by omega,rfl,by rw[HF.o,HB.o];simp[zhj, *],zaY Bw⟩
    case measure=>simp[intOf];omega
   ·have hd:decide ((k:Int)>0)=true:=McD;have uf:IntKind.i64.wrap ((k:Int)-1)=(k:Int)-1:=IntWalk.i64_in _ Mcy;have gX:0<=(k:Int)-1:=Mcy;have fI:((k:Int)-1).toNat=k-1:=Mcy;have br:(k:Int)-1<(ls.length:Int):=Mcy;have hp:=HP.o aQ;have aG:befP ls k=some (ls[k-1]' Mcy).frm:=by have:=zh6 ls (k:=k-1) Mcy;rwa [Nat.sub_add_cancel aQ]at this
    go_quiet (fail)
    go_wp2_with fail
    all_goals first
     |(go_ret
       exact Ret.of (zb5 Md3) Bw)
     |(go_round
       case rel=>exact⟨rfl,k+1,by omega,by go_num,by rw[HF.o,HB.o];simp[zhj, *],zaY Bw⟩
       case measure=>simp[intOf];omega)
  ·exact Mat
def Law.v(x:Law):Value:=.agg #[.int .i64 x.frm,.bool x.stems,.int .i64 x.num,.int .i64 x.den]
theorem zic{fn:Func}{p:Tmp}(h:fn.results= #[.cell p 109])(tmps:Array Value)(w:World)(B:Nat)(x:Law)(hp:tmps.getD p undef=.pointer (some ⟨B,0,none⟩))
 (h0:w.cell? ⟨B,0,none⟩=some (.int .i64 x.frm))(h1:w.cell? ⟨B,1,none⟩=some (.bool x.stems))(h2:w.cell? ⟨B,2,none⟩=some (.int .i64 x.num))(h3:w.cell? ⟨B,3,none⟩=some (.int .i64 x.den)):(results fn tmps).run Tryz.prog w=.ok x.v w:=by
 rw[zdC h,hp];unfold Law.v;go_simp
theorem zft(ls:List Law)(day:Int){k:Nat}(h:k<ls.length):zba (ls.take (k+1)) day=if decide (ls[k].frm<=day)then ls[k]else zba (ls.take k) day:=by
 rw[List.take_succ_eq_append_getElem h];unfold zba;rw[List.filter_append];by_cases hc:ls[k].frm<=day<;>simp[hc]
theorem zar(w:World)(o:Obj)(k:Nat)(h:k=w.heap.size):(w.alloc o).heap[k]?=some o:=by rw[h];exact heap_alloc_new w o
theorem zal{w:World}{o x:Obj}{k:Nat}(h:w.heap[k]?=some x):(w.alloc o).heap[k]?=some x:=(Below.heap_alloc w o k (zab h)).trans h
theorem zn6{w:World}{g:Nat}{z0 z1 z2 z3 a b c d:Value}{t:TypeId}{fr:Nat×Nat}(h:w.heap[g]?=some (.cells #[z0,z1,z2,z3] t fr)):
 ((((w.setCell ⟨g,0,none⟩ a).setCell ⟨g,1,none⟩ b).setCell ⟨g,2,none⟩ c).setCell ⟨g,3,none⟩ d).heap[g]?=some (.cells #[a,b,c,d] t fr):=by
 have:=Joins.block_setCell (i:=3) (Joins.block_setCell (i:=2) (Joins.block_setCell (i:=1) (Joins.block_setCell (i:=0) h a) b) c) d;simpa using this
theorem zop(ls:List Law)(A:Option Addr)(c:Nat)(day:Int)(w:World)(hl:ls.length<=10)(hS:Sl w 4 Law.cells A ls):Calls Tryz.prog 159 #[.slice A ls.length c,.int .i64 day] w (Ret w (zba ls day).v):=by
 go_enter Tryz.func159,Tryz.ntmps159
 go_wp2_with fail
 go_loopw [12] (fun i wr=>∃k:Nat,k<=ls.length/\i=.int .i64 k/\∃x:Law,x=zba (ls.take k) day/\Below w.heap.size w wr/\w.heap.size+2<=wr.heap.size/\wr.heap[w.heap.size]?=some (.cells #[.int .i64 0,.bool false,.int .i64 0,.int .i64 0] 109)/\wr.heap[w.heap.size+1]?=some (.cells #[.int .i64 x.frm,.bool x.stems,.int .i64 x.num,.int .i64 x.den] 109)) (fun i _=>ls.length-(intOf i).toNat)
 case atStart=>
  refine⟨0,Nat.zero_le _,rfl,zmp,rfl,?_,?_,?_,?_⟩
  ·exact Bw
  ·simp
  ·exact zal (zar _ _ _ rfl)
  ·exact zar _ _ _ McB
 case round=>
  obtain⟨k,hk,rfl,x,hx,hB,hsz,g0,g1⟩:=hrel;have c0:wr.cell? ⟨w.heap.size+1,0,none⟩=some (.int .i64 x.frm):=McE;have c1:wr.cell? ⟨w.heap.size+1,1,none⟩=some (.bool x.stems):=McE;have c2:wr.cell? ⟨w.heap.size+1,2,none⟩=some (.int .i64 x.num):=McE;have c3:wr.cell? ⟨w.heap.size+1,3,none⟩=some (.int .i64 x.den):=McE;have d0:wr.cell? ⟨w.heap.size,0,none⟩=some (.int .i64 0):=McC;have d1:wr.cell? ⟨w.heap.size,1,none⟩=some (.bool false):=McC;have d2:wr.cell? ⟨w.heap.size,2,none⟩=some (.int .i64 0):=McC;have d3:wr.cell? ⟨w.heap.size,3,none⟩=some (.int .i64 0):=McC;have f0:wr.frozen? ⟨w.heap.size,0,none⟩=false:=McL;have f1:wr.frozen? ⟨w.heap.size+1,0,none⟩=false:=McM;have e1:wr.frozen? ⟨w.heap.size+1,1,none⟩=false:=McM;have e2:wr.frozen? ⟨w.heap.size+1,2,none⟩=false:=McM;have e3:wr.frozen? ⟨w.heap.size+1,3,none⟩=false:=McM;have m1:wr.frozen? ⟨w.heap.size,1,none⟩=false:=McL;have m2:wr.frozen? ⟨w.heap.size,2,none⟩=false:=McL;have m3:wr.frozen? ⟨w.heap.size,3,none⟩=false:=McL;have dN:w.heap.size+1<wr.heap.size:=Mcy;have aw:w.heap.size<wr.heap.size:=Mcy;have bn:w.heap.size+1≠wr.heap.size:=Mcy;by_cases ae:k<ls.length
  ·obtain⟨b,off,rfl,hb,hc⟩:=(hS.keep hB).at ae;have h0:wr.cell? ⟨b,off+k*4,none⟩=some (.int .i64 ls[k].frm):=hc 0 _ rfl;have h1:wr.cell? ⟨b,off+k*4+1,none⟩=some (.bool ls[k].stems):=hc 1 _ rfl;have h2:wr.cell? ⟨b,off+k*4+2,none⟩=some (.int .i64 ls[k].num):=hc 2 _ rfl;have h3:wr.cell? ⟨b,off+k*4+3,none⟩=some (.int .i64 ls[k].den):=hc 3 _ rfl;clear hc hS;go_wp2_with fail
   ·refine⟨⟨k+1,by omega,by go_num,ls[k],by rw[zft ls day ae,if_pos (by simp;assumption)],?_,?_,?_,?_⟩,by simp[intOf];omega⟩
    ·exact zad (zaP (zaP (zaP (zaP hB McB _) McB _) McB _) McB _) _
    ·simp;omega
    ·exact zal (((zaP (zaP (zaP (zaP (Below.refl (w.heap.size+1) wr) McB _) McB _) McB _) McB _).block w.heap.size Mcy).trans g0)
    ·exact zal (zn6 g1)
   ·refine⟨⟨k+1,by omega,by go_num,zba (ls.take k) day,by rw[zft ls day ae,if_neg (by simp;assumption)],?_,?_,?_,?_⟩,by simp[intOf];omega⟩
    ·exact zad hB _
    ·simp;omega
    ·exact zal g0
    ·exact zal (by simpa[hx]using g1)
  ·go_wp2_with fail
   have pN:ls.take k=ls:=List.take_of_length_le Mcy;have g4:=zn6 (a:=.int .i64 (zba ls day).frm) (b:=.bool (zba ls day).stems) (c:=.int .i64 (zba ls day).num) (d:=.int .i64 (zba ls day).den) g0;rw[pN];refine bodyPost_ret (v:=(zba ls day).v) ?_ rfl ?_
   ·refine zic rfl _ _ w.heap.size _ rfl ?_ ?_ ?_ ?_<;>simp[World.cell?,g4]
   ·exact Ret.of rfl (zaP (zaP (zaP (zaP hB McB _) McB _) McB _) McB _)
end
section
open Go.Shelf
theorem zjz{α:Type}(xs:List α)(p:α->Bool):(xs.attach.any fun x=>p x.1)=xs.any p:=by
 rw[Bool.eq_iff_iff];simp
def zeT{α:Type}(g:Nat)(lb:Array Value)(v:α->Value)(p:α->Bool)(xs:List α)(w:World):Prop:=
 ∀x∈xs,∀W,Below w.heap.size w W->Calls Tryz.prog g (#[v x]++lb) W fun e w'=>e=.returned (.bool (p x))/\Below w.heap.size w w'
theorem sl_get{α:Type}{w:World}{k:Nat}{f:α->List Value}{b off:Nat}{xs:List α}(hS:∀j (x:α),xs[j]?=some x->∀i u,(f x)[i]?=some u->w.cell? ⟨b,off+j*k+i,none⟩=some u)[Inhabited {x // x∈xs}]:
 ∀j,j<xs.attach.length->∀i v,(f (xs.attach[j]!).1)[i]?=some v->w.cell? ⟨b,off+j*k+i,none⟩=some v:=fun j hj i v hi=>by
 have hl:j<xs.length:=Meg;have e:(xs.attach[j]!).1=xs[j]:=by rw[getElem!_pos xs.attach j hj];simp
 rw[e]at hi;exact hS j _ (List.getElem?_eq_getElem hl) i v hi
theorem ifnilPart(A:Option Addr)(c:Nat)(fv:Value)(w:World):Calls Tryz.prog 110 #[.slice A 0 c,fv] w (Ret0 w (.int .i64 (-1))):=by
 go_enter Tryz.func110,Tryz.ntmps110
 exact Mck
theorem cfnilPart(A:Option Addr)(c:Nat)(fv:Value)(w:World):Calls Tryz.prog 74 #[.slice A 0 c,fv] w (Ret0 w (.bool false)):=by
 go_enter Tryz.func74,Tryz.ntmps74
 go_wp2_with (go_at_call 110;refine(ifnilPart _ _ _ _).mono ?_;rintro e wq ⟨rfl,rfl⟩)
 go_ret
 exact⟨rfl,rfl⟩
theorem zcQ(g:Nat)(lb:Array Value)(eg:∀args w,(callFunc g args).run Tryz.prog w=.ok (.enter g args) w)(p:RPart->Bool)(A:Option Addr)(n c:Nat)(xs:List RPart)(w:World)(hn:n=xs.length)(hl:xs.length<=100000)
 (hS:Sl w 3 RPart.cells A xs)(hp:zeT g lb (fun x=> .agg (RPart.cells x).toArray) p xs w):Calls Tryz.prog 74 #[.slice A n c,.func (.func g) #[] lb] w (Ret w (.bool (xs.any p))):=by
 subst hn;by_cases h0:xs.length=0
 ·have hx:xs=[]:=List.eq_nil_of_length_eq_zero h0;subst hx;refine(cfnilPart _ _ _ _).mono ?_;rintro e wq ⟨rfl,rfl⟩;exact Ret.of rfl (Below.refl _ _)
 ·obtain⟨b,off,rfl,hb,hc⟩:=hS Mcy;haveI:Inhabited {x // x∈xs}:=⟨⟨xs[0]' Mcy,List.getElem_mem _⟩⟩
  have aZ:=AnyQ.slices_ContainsFunc cfPart 3 Tryz.isAgg71 Tryz.sizeOf71 (fun x: {x // x∈xs}=>RPart.cells x.1) (fun _=>rfl) (fun x=>p x.1) g lb eg b off xs.length c xs.attach w
   (fun W x hB=>hp x.1 x.2 W hB) McB Mcy hb (sl_get hc)
  rw[List.take_of_length_le McB,zjz]at aZ;change Calls Tryz.prog 74 _ _ _ at aZ;exact Mbi
theorem ifnilRec(A:Option Addr)(c:Nat)(fv:Value)(w:World):Calls Tryz.prog 116 #[.slice A 0 c,fv] w (Ret0 w (.int .i64 (-1))):=by
 go_enter Tryz.func116,Tryz.ntmps116
 exact Mck
theorem cfnilRec(A:Option Addr)(c:Nat)(fv:Value)(w:World):Calls Tryz.prog 81 #[.slice A 0 c,fv] w (Ret0 w (.bool false)):=by
 go_enter Tryz.func81,Tryz.ntmps81
 go_wp2_with (go_at_call 116;refine(ifnilRec _ _ _ _).mono ?_;rintro e wq ⟨rfl,rfl⟩)
 go_ret
 exact⟨rfl,rfl⟩
theorem cfRec_any(g:Nat)(lb:Array Value)(eg:∀args w,(callFunc g args).run Tryz.prog w=.ok (.enter g args) w)(p:Rec->Bool)(A:Option Addr)(n c:Nat)(xs:List Rec)(w:World)(hn:n=xs.length)(hl:xs.length<=100000)
 (hS:Sl w 8 Rec.cells A xs)(hp:zeT g lb (fun x=> .agg (Rec.cells x).toArray) p xs w):Calls Tryz.prog 81 #[.slice A n c,.func (.func g) #[] lb] w (Ret w (.bool (xs.any p))):=by
 subst hn;by_cases h0:xs.length=0
 ·have hx:xs=[]:=List.eq_nil_of_length_eq_zero h0;subst hx;refine(cfnilRec _ _ _ _).mono ?_;rintro e wq ⟨rfl,rfl⟩;exact Ret.of rfl (Below.refl _ _)
 ·obtain⟨b,off,rfl,hb,hc⟩:=hS Mcy;haveI:Inhabited {x // x∈xs}:=⟨⟨xs[0]' Mcy,List.getElem_mem _⟩⟩
  have aZ:=AnyQ.slices_ContainsFunc cfRec 8 Tryz.isAgg67 Tryz.sizeOf67 (fun x: {x // x∈xs}=>Rec.cells x.1) (fun _=>rfl) (fun x=>p x.1) g lb eg b off xs.length c xs.attach w
   (fun W x hB=>hp x.1 x.2 W hB) McB Mcy hb (sl_get hc)
  rw[List.take_of_length_le McB,zjz]at aZ;change Calls Tryz.prog 81 _ _ _ at aZ;exact Mbi
end
attribute [local go_sem] zan zac
structure Form where
 word:ByteArray
 place:Bool
 frm:Bool
 cls:Bool
 years:Bool
 all:Bool
 parts:Bool
 shares:Bool
def Form.cells(f:Form):List Value:=[.string f.word,.bool f.place,.bool f.frm,.bool f.cls,.bool f.years,.bool f.all,.bool f.parts,.bool f.shares]
def zfC:List Form:=[⟨⟨#[103,114,97,110,116]⟩,true,false,true,true,true,true,true⟩,⟨⟨#[116,114,97,110,115,102,101,114]⟩,true,true,false,false,false,true,true⟩,⟨⟨#[115,117,114,114,101,110,100,101,114]⟩,true,true,false,false,false,false,false⟩,⟨⟨#[114,101,110,101,119,97,108]⟩,true,false,false,true,false,false,false⟩,⟨⟨#[119,105,108,108]⟩,false,true,false,false,false,true,true⟩,⟨⟨#[114,101,110,111,117,110,99,101]⟩,false,true,false,false,false,true,false⟩,⟨⟨#[99,104,105,108,100]⟩,false,true,false,false,false,true,false⟩,⟨⟨#[109,97,114,114,105,97,103,101]⟩,false,true,false,false,false,true,false⟩,⟨⟨#[100,101,97,116,104]⟩,false,true,false,false,false,false,false⟩]
def zco(frmB shares:Bool)(frm:ByteArray):List RPart->List RPart->Rat->Option Rat
 | [],_,s=>some s
 |p::l,seen,s=>
  if seen.any (fun q=>zae q.name p.name)||(zae p.name frm&&frmB)then none else
  if !shares then(if p.num != 0||p.den != 0 then none else zco frmB shares frm l (seen++[p]) s)else
  if !za8 16 p.num p.den||p.num==0 then none else zco frmB shares frm l (seen++[p]) (s+p.rat)
def zgP(shares all:Bool):Option Rat->Bool
 |none=>false
 |some s=>!shares||(decide (s.num<=s.den)&&(!all||s.num==(s.den:Int)))
def zhk(f:Form)(frm:ByteArray)(ps:List RPart):Bool:=
 if !f.parts then ps.isEmpty else if ps.isEmpty||(!f.shares&&ps.length != 1)then false else zgP f.shares f.all (zco f.frm f.shares frm ps [] 0)
def Fits(r:Rat):Prop:= ∃n:Int,r=Rat.divInt n 720720
theorem fits_zero:Fits 0:=⟨0,by simp⟩
theorem fits_one:Fits 1:=⟨720720,by rw[Rat.divInt_eq_div];grind⟩
theorem Fits.add{p q:Rat}(hp:Fits p)(hq:Fits q):Fits (p+q):=by
 obtain⟨a,rfl⟩:=hp;obtain⟨b,rfl⟩:=hq;exact⟨a+b,by rw[Rat.divInt_eq_div,Rat.divInt_eq_div,Rat.divInt_eq_div,Rat.intCast_add];grind⟩
theorem Fits.sub{p q:Rat}(hp:Fits p)(hq:Fits q):Fits (p-q):=by
 obtain⟨a,rfl⟩:=hp;obtain⟨b,rfl⟩:=hq;exact⟨a-b,by rw[Rat.divInt_eq_div,Rat.divInt_eq_div,Rat.divInt_eq_div,Rat.intCast_sub];grind⟩
theorem zej{a b:Int}(h:za8 16 a b=true):Fits (Rat.divInt a b):=by
 unfold za8 at h;simp only[Bool.and_eq_true,decide_eq_true_eq]at h;obtain⟨⟨⟨h1,h2⟩,_⟩,_⟩:=h;have hd:b*(720720/b)=720720:=by
  have:b=1\/b=2\/b=3\/b=4\/b=5\/b=6\/b=7\/b=8\/b=9\/b=10\/b=11\/b=12\/b=13\/b=14\/b=15\/b=16:=by omega
  rcases this with rfl|rfl|rfl|rfl|rfl|rfl|rfl|rfl|rfl|rfl|rfl|rfl|rfl|rfl|rfl|rfl<;>decide
 generalize 720720/b=q at hd;have hk:q≠0:=fun e=>by rw[e]at hd;omega
 exact⟨a*q,by rw[<-hd,Rat.divInt_mul_right hk]⟩
theorem Fits.small{r:Rat}(h:Fits r)(h0: -1000<=r)(h1:r<=1000):zaI r:=by
 obtain⟨n,rfl⟩:=h;have hb:(0:Int)<720720:=McA;have hd:((Rat.divInt n 720720).den:Int)<=720720:=by
  rw[zee hb];exact Int.ediv_le_self _ McA
 have cC:(n:Rat)<=720720000:=by rw[Rat.divInt_eq_div]at h1;grind
 have tZ: -720720000<=(n:Rat):=by rw[Rat.divInt_eq_div]at h0;grind
 have KO:n<=720720000:=by
  have:(n:Rat)<=((720720000:Int):Rat):=cC;exact Rat.intCast_le_intCast.1 this
 have KN: -720720000<=n:=by
  have:((-720720000:Int):Rat)<=(n:Rat):=tZ;exact Rat.intCast_le_intCast.1 this
 refine⟨?_,by omega⟩;rw[zfp hb,<-zef (Int.gcd_dvd_left ..)];exact Nat.le_trans (Int.natAbs_tdiv_le_natAbs _ _) Mcy
theorem zeb{a b:ByteArray}(h:a.toList=b.toList):zae a b=true:=by simp[zae,h]
theorem ze2{a b:ByteArray}(h:¬a.toList=b.toList):zae a b=false:=by simp[zae,h]
theorem zbD{w:World}{z:Ez}{x:Obj}{k:Nat}(h:w.heap[k]?=some x):(w.ext z).heap[k]?=some x:=(zcJ w z k (zab h)).trans h
theorem J_ne{w:World}{b o:Nat}{v:Value}{x:Obj}{k:Nat}(ai:k≠b)(h:w.heap[k]?=some x):(w.setCell ⟨b,o,none⟩ v).heap[k]?=some x:=by
 have hb:¬b=k:=fun e=>ai e.symm
 simp[World.setCell,Array.getElem?_modify,hb,h]
theorem zek{w:World}{g:Nat}{z0 z1 a b:Value}{t:TypeId}{fr:Nat×Nat}(h:w.heap[g]?=some (.cells #[z0,z1] t fr)):((w.setCell ⟨g,0,none⟩ a).setCell ⟨g,1,none⟩ b).heap[g]?=some (.cells #[a,b] t fr):=by
 have:=Joins.block_setCell (i:=1) (Joins.block_setCell (i:=0) h a) b;simpa using this
theorem frc_any(B:Nat)(nm:ByteArray)(q:RPart)(W:World)(hB:B<W.heap.size)(hc:W.cell? ⟨B,0,none⟩=some (.string nm)):
 Calls Tryz.prog 148 #[.agg #[.string q.name,.int .i64 q.num,.int .i64 q.den],.pointer (some ⟨B,0,none⟩)] W (Ret W (.bool (zae q.name nm))):=by
 have ai:B≠W.heap.size:=Mcy;go_enter Tryz.func148,Tryz.ntmps148
 exact Man
theorem zkX(B:Nat)(nm:ByteArray)(xs:List RPart)(w:World)(hB:B<w.heap.size)(hc:w.cell? ⟨B,0,none⟩=some (.string nm)):
 zeT 148 #[.pointer (some ⟨B,0,none⟩)] (fun x=> .agg (RPart.cells x).toArray) (fun q=>zae q.name nm) xs w:=fun x _ W hW=>by
 refine(frc_any B nm x W (Nat.lt_of_lt_of_le hB hW.size) ((hW.cell (p:=⟨B,0,none⟩) hB).trans hc)).mono ?_;exact Ma2
theorem cast_le{k:Nat}{s:Rat}(h:s<=((k:Int):Rat))(hk:k<=1000):s<=1000:=by
 have h2:((k:Int):Rat)<=((1000:Int):Rat):=Rat.intCast_le_intCast.2 Mcy;exact Rat.le_trans h h2
theorem sum_pos{s:Rat}{a b:Int}(h:0<=s)(hs:za8 16 a b=true):0<=s+Rat.divInt a b:=by
 have:=(zbm hs).2.2.1;grind
theorem sum_up{k:Nat}{s:Rat}{a b:Int}(h:s<=((k:Int):Rat))(hs:za8 16 a b=true):s+Rat.divInt a b<=(((k+1:Nat):Int):Rat):=by
 have h1:=(zbm hs).2.2.2;have h2:(((k+1:Nat):Int):Rat)=((k:Int):Rat)+1:=by
  rw[show((k+1:Nat):Int)=(k:Int)+1 by omega,Rat.intCast_add];rfl
 rw[h2];grind
theorem natUp(k:Nat):((k:Int):Rat)<=(((k+1:Nat):Int):Rat):=Rat.intCast_le_intCast.2 Mcy
theorem zn7(s:Rat)(a b:Int)(W:World)(hs:zaI s)(h:za8 16 a b=true):Calls Tryz.prog 149 #[.agg #[.int .i64 s.num,.int .i64 s.den],.agg #[.int .i64 a,.int .i64 b]] W (Ret W (zaA (s+Rat.divInt a b))):=by
 obtain⟨h1,h2,h3,h4⟩:=zbm h;have:=zn4 s (Rat.divInt a b) W hs ((zej h).small (Rat.le_trans McA h3) (Rat.le_trans h4 McA));unfold zaA at this⊢;rw[h1,h2]at this;exact this
theorem zd5(f:Form)(dk dd:Int)(pl frm:ByteArray)(cl yr:Int)(ps:List RPart)(B:Option Addr)(n c:Nat)(w:World)(hn:n=ps.length)(hl:ps.length<=8)(ay:ps.length<=c)(hS:Sl w 3 RPart.cells B ps):
 Calls Tryz.prog 120 #[.agg #[.string f.word,.bool f.place,.bool f.frm,.bool f.cls,.bool f.years,.bool f.all,.bool f.parts,.bool f.shares],.agg #[.int .i64 dk,.int .i64 dd,.string pl,.string frm,.slice B n c,.int .i64 cl,.int .i64 yr]] w (Ret w (.bool (zhk f frm ps))):=by
 subst hn;obtain⟨word,fp,ff,fc,fy,fa,fpt,fs⟩:=f;have eg:∀args w,(callFunc 148 args).run Tryz.prog w=.ok (.enter 148 args) w:=enters_of Tryz.func148 Mcz rfl;generalize hR:zhk ⟨word,fp,ff,fc,fy,fa,fpt,fs⟩ frm ps=R;have HR:=zHi hR;clear hR;go_enter Tryz.func120,Tryz.ntmps120
 cases fpt
 ·go_wp2_with fail
  go_ret
  refine Ret.of (zaO ?_) Bw;rw[<-HR.o];cases ps<;>simp[zhk];omega
 ·cases ps with
  |nil=>
   go_wp2_with fail
   go_ret
   exact Ret.of (zaO (by rw[<-HR.o];rfl)) Bw
  |cons p0 pr=>
   generalize ei:p0::pr=ps at*;have cY:0<ps.length:=by rw[<-ei];simp
   clear ei p0 pr;have hz:((ps.length:Int)==0)=false:=Mes;by_cases h1:fs=false/\ps.length≠1
   ·obtain⟨rfl,h1⟩:=h1;have iS:((ps.length:Int)==1)=false:=Mes;go_wp2_with fail
    go_ret
    exact Ret.of (zaO (by rw[<-HR.o];simp[zhk,h1])) Bw
   ·have hX:R=zgP fs fa (zco ff fs frm (ps.drop 0) (ps.take 0) 0):=by
     rw[<-HR.o];have:(ps.isEmpty||(!fs&&ps.length != 1))=false:=by
      cases fs
      ·simp at h1;simp[h1];intro h;rw[h]at cY;simp at cY
      ·simp;intro h;rw[h]at cY;simp at cY
     simp only[zhk,Bool.not_true,Bool.false_eq_true,if_false,this];rfl
    have bB:fs=false->((ps.length:Int) != 1)=false:=fun h=>by simp at h1;simp[h1 h]
    clear HR h1;have HX:=zHi hX;clear hX;have HL:=zHi hl;cases ff
    ·cases fs
     ·have iS:=bB rfl;clear bB;go_wp2_with fail
      go_loopw [35] (fun i wr=>∃k:Nat,k<=ps.length/\i=.int .i64 k/\∃s:Rat,Hid (R=zgP false fa (zco false false frm (ps.drop k) (ps.take k) s))/\Fits s/\0<=s/\s<=(k:Int)/\Below w.heap.size w wr/\w.heap.size+3<=wr.heap.size/\
       wr.heap[w.heap.size]?=some (.cells #[.string word,.bool fp,.bool false,.bool fc,.bool fy,.bool fa,.bool true,.bool false] 179)/\
       wr.heap[w.heap.size+1]?=some (.cells #[.int .i64 dk,.int .i64 dd,.string pl,.string frm,.slice B ps.length c,.int .i64 cl,.int .i64 yr] 76)/\
       wr.heap[w.heap.size+2]?=some (.cells #[.int .i64 s.num,.int .i64 s.den] 31)) (fun i _=>ps.length-(intOf i).toNat)
      case atStart=>
       exact MI
      case round=>
       clear iS;obtain⟨k,hk,rfl,s,hx,dI,aw,kw,hB,hsz,g0,g1,g2⟩:=hrel;have a0:wr.cell? ⟨w.heap.size,2,none⟩=some (.bool false):=McC;exact Mm
     ·clear bB;go_wp2_with fail
      go_loopw [35] (fun i wr=>∃k:Nat,k<=ps.length/\i=.int .i64 k/\∃s:Rat,Hid (R=zgP true fa (zco false true frm (ps.drop k) (ps.take k) s))/\Fits s/\0<=s/\s<=(k:Int)/\Below w.heap.size w wr/\w.heap.size+3<=wr.heap.size/\
       wr.heap[w.heap.size]?=some (.cells #[.string word,.bool fp,.bool false,.bool fc,.bool fy,.bool fa,.bool true,.bool true] 179)/\
       wr.heap[w.heap.size+1]?=some (.cells #[.int .i64 dk,.int .i64 dd,.string pl,.string frm,.slice B ps.length c,.int .i64 cl,.int .i64 yr] 76)/\
       wr.heap[w.heap.size+2]?=some (.cells #[.int .i64 s.num,.int .i64 s.den] 31)) (fun i _=>ps.length-(intOf i).toNat)
      case atStart=>
       exact MI
      case round=>
       skip
       obtain⟨k,hk,rfl,s,hx,dI,aw,kw,hB,hsz,g0,g1,g2⟩:=hrel;have a0:wr.cell? ⟨w.heap.size,2,none⟩=some (.bool false):=McC;exact Ml
    ·cases fs
     ·have iS:=bB rfl;clear bB;go_wp2_with fail
      go_loopw [35] (fun i wr=>∃k:Nat,k<=ps.length/\i=.int .i64 k/\∃s:Rat,Hid (R=zgP false fa (zco true false frm (ps.drop k) (ps.take k) s))/\Fits s/\0<=s/\s<=(k:Int)/\Below w.heap.size w wr/\w.heap.size+3<=wr.heap.size/\
       wr.heap[w.heap.size]?=some (.cells #[.string word,.bool fp,.bool true,.bool fc,.bool fy,.bool fa,.bool true,.bool false] 179)/\
       wr.heap[w.heap.size+1]?=some (.cells #[.int .i64 dk,.int .i64 dd,.string pl,.string frm,.slice B ps.length c,.int .i64 cl,.int .i64 yr] 76)/\
       wr.heap[w.heap.size+2]?=some (.cells #[.int .i64 s.num,.int .i64 s.den] 31)) (fun i _=>ps.length-(intOf i).toNat)
      case atStart=>
       exact MI
      case round=>
       clear iS;obtain⟨k,hk,rfl,s,hx,dI,aw,kw,hB,hsz,g0,g1,g2⟩:=hrel;have a0:wr.cell? ⟨w.heap.size,2,none⟩=some (.bool true):=McC;exact Mm
     ·clear bB;go_wp2_with fail
      go_loopw [35] (fun i wr=>∃k:Nat,k<=ps.length/\i=.int .i64 k/\∃s:Rat,Hid (R=zgP true fa (zco true true frm (ps.drop k) (ps.take k) s))/\Fits s/\0<=s/\s<=(k:Int)/\Below w.heap.size w wr/\w.heap.size+3<=wr.heap.size/\
       wr.heap[w.heap.size]?=some (.cells #[.string word,.bool fp,.bool true,.bool fc,.bool fy,.bool fa,.bool true,.bool true] 179)/\
       wr.heap[w.heap.size+1]?=some (.cells #[.int .i64 dk,.int .i64 dd,.string pl,.string frm,.slice B ps.length c,.int .i64 cl,.int .i64 yr] 76)/\
       wr.heap[w.heap.size+2]?=some (.cells #[.int .i64 s.num,.int .i64 s.den] 31)) (fun i _=>ps.length-(intOf i).toNat)
      case atStart=>
       exact MI
      case round=>
       skip
       obtain⟨k,hk,rfl,s,hx,dI,aw,kw,hB,hsz,g0,g1,g2⟩:=hrel;have a0:wr.cell? ⟨w.heap.size,2,none⟩=some (.bool true):=McC;exact Ml
