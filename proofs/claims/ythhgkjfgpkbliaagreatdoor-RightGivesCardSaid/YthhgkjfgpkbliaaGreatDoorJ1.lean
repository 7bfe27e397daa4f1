import Derived.Test.YthhgkjfgpkbliaaGreatDoorR8
import Derived.Test.YthhgkjfgpkbliaaGreatDoorN3
import Derived.Deep.RegionLaw
set_option linter.all false
set_option maxRecDepth 100000
set_option maxHeartbeats 4000000
namespace Go.Proofs.YthhgkjfgpkbliaaGreatDoor
open Go.RowKit
attribute [local go_sem] World.cell?_alloc_mark zae zav zai zaw zam zan zao zap zaq zar zas
section
def SlW{α:Type}(W:World)(size:Nat)(R:World->α->List Value->Prop)(A:Option Addr)(xs:List α):Prop:=
 0<xs.length->∃b off,A=some ⟨b,off,none⟩/\b<W.heap.size/\∀k (x:α),xs[k]?=some x->∃cs,R W x cs/\∀j u,cs[j]?=some u->W.cell? ⟨b,off+k*size+j,none⟩=some u
def Keeps{α:Type}(R:World->α->List Value->Prop):Prop:= ∀W W' x cs n,R W x cs->Below n W W'->W.heap.size<=n->R W' x cs
section
variable {α:Type} {w W:World} {size:Nat} {R:World->α->List Value->Prop} {A:Option Addr} {xs:List α}
theorem SlW.keep(hk:Keeps R)(h:SlW w size R A xs){n:Nat}(hb:Below n w W)(hn:w.heap.size<=n:=by first|exact Nat.le_refl _|omega):SlW W size R A xs:=fun hl=>by
 obtain⟨b,off,hA,aa,hc⟩:=h hl;refine⟨b,off,hA,Nat.lt_of_lt_of_le aa hb.size,fun k x hx=>?_⟩;obtain⟨cs,h1,h2⟩:=hc k x hx;exact⟨cs,hk _ _ _ _ _ h1 hb hn,fun j u hu=>(hb.cell (p:=⟨b,_,none⟩) (Nat.lt_of_lt_of_le aa hn)).trans (h2 j u hu)⟩
theorem SlW.at{k:Nat}(h:SlW w size R A xs)(hk:k<xs.length):∃b off cs,A=some ⟨b,off,none⟩/\b<w.heap.size/\R w xs[k] cs/\∀j u,cs[j]?=some u->w.cell? ⟨b,off+k*size+j,none⟩=some u:=by
 obtain⟨b,off,hA,aa,hc⟩:=h (by omega);obtain⟨cs,h1,h2⟩:=hc k _ (List.getElem?_eq_getElem hk);exact⟨b,off,cs,hA,aa,h1,h2⟩
theorem SlW.nil:SlW w size R A ([]:List α):=fun h=>absurd h (by simp)
end
def zjh(W:World)(d:Deed)(cs:List Value):Prop:= ∃B c,d.to.length<=c/\cs=[.int .i64 d.kind,.int .i64 d.day,.string d.place,.string d.frm,.slice B d.to.length c,.int .i64 d.cls,.int .i64 d.years]/\Sl W 3 RPart.cells B d.to
theorem zcX:Keeps zjh:=by
 rintro W W' d cs n ⟨B,c,h0,h1,h2⟩ hB hn;exact⟨B,c,h0,h1,h2.keep hB hn⟩
def zb9(p:ByteArray×ByteArray):List Value:=[.string p.1,.string p.2]
structure RightsIn (w:World) (ls:List Law) (ds:List Deed) (A:Option Addr) (n nc:Nat) (B:Option Addr) (m mc:Nat):Prop where
 ln:n=ls.length
 dn:m=ds.length
 lc:n<=nc
 dc:m<=mc
 laws:Sl w 4 Law.cells A ls
 deeds:SlW w 7 zjh B ds
theorem RightsIn.keep{w W:World}{ls:List Law}{ds:List Deed}{A B:Option Addr}{n nc m mc k:Nat}(h:RightsIn w ls ds A n nc B m mc)(hB:Below k w W)(hk:w.heap.size<=k:=by first|exact Nat.le_refl _|omega):RightsIn W ls ds A n nc B m mc:=
 ⟨h.ln,h.dn,h.lc,h.dc,h.laws.keep hB hk,h.deeds.keep zcX hB hk⟩
end
theorem zaS(n lo hi:Int)(w:World):Calls Tryz.prog 91 #[.int .i64 n,.int .i64 lo,.int .i64 hi] w (Ret0 w (.bool (inR n lo hi))):=by
 go_enter Tryz.func91,Tryz.ntmps91
 go_wp2_with fail
 all_goals go_ret
 all_goals exact⟨by first|(simp_all[inR];done)|(simp_all[inR];omega),rfl⟩
theorem zcu(n:Int)(w:World):Calls Tryz.prog 47 #[.int .i64 n] w (Ret0 w (.bool (zbu n))):=by
 go_enter Tryz.func47,Tryz.ntmps47
 go_wp2_with (go_at_call 91;refine(zaS _ _ _ _).mono ?_;rintro e wq ⟨rfl,rfl⟩)
 go_ret
 exact⟨rfl,rfl⟩
theorem zbC(s:ByteArray)(w:World)(hs:s.size<=100000):Calls Tryz.prog 92 #[.string s] w (Ret0 w (.bool (zaR s))):=by
 go_enter Tryz.func92,Tryz.ntmps92
 go_wp2_with fail
 go_loop [7] (fun i=>∃k:Nat,k<=s.size/\i=.int .i64 k/\nmGo (zeW s) 0=nmGo ((zeW s).drop k) k) (fun i=>s.size-(intOf i).toNat)
 case atStart=>exact⟨0,Nat.zero_le _,rfl,rfl⟩
 case round=>
  obtain⟨k,hk,rfl,hf⟩:=hrel;by_cases aa:k<s.size
  ·rw[zks s k aa,show s.data[k]=s[k]from rfl]at hf;have HF:=zHi hf;clear hf;have HL:=zHi aa;rcases Nat.eq_zero_or_pos k with rfl|bf
   ·go_wp2_with fail
    all_goals first
     |(go_round
       case rel=>exact⟨1,by have:=HL.o;omega,rfl,by rw[HF.o,nmGo,if_neg (by go_tidy;simp[zgC]at*;omega)]⟩
       case measure=>have:=HL.o;simp[intOf];omega)
     |(go_ret
       refine⟨congrArg Ending.returned (zaW ?_),rfl⟩;rw[zaR,HF.o,nmGo,if_pos (by go_tidy;simp[zgC]at*;omega)]
       rfl)
   ·have hz:((k:Int)==0)=false:=by simp;omega
    have iK:¬((k:Int)=0):=by omega
    go_wp2_with fail
    all_goals first
     |(go_round
       case rel=>exact⟨k+1,by have:=HL.o;omega,by go_num,by rw[HF.o,nmGo,if_neg (by go_tidy;simp[zgC]at*;omega)]⟩
       case measure=>have:=HL.o;simp[intOf];omega)
     |(go_ret
       refine⟨congrArg Ending.returned (zaW ?_),rfl⟩;rw[zaR,HF.o,nmGo,if_pos (by go_tidy;simp[zgC]at*;omega)]
       rfl)
  ·rw[List.drop_eq_nil_of_le (by rw[zlZ];omega)]at hf;go_wp2_with fail
   all_goals go_ret
   all_goals refine⟨congrArg Ending.returned (zaW ?_),rfl⟩
   all_goals simp[zaR,hf,nmGo, *]
theorem zlr(x y:Int):Int.gcd y (x.tmod y)=Int.gcd x y:=by
 rw[Int.gcd,Int.gcd,Int.natAbs_tmod,Nat.gcd_comm,<-Nat.gcd_rec,Nat.gcd_comm]
theorem tmod_lt(x y:Int)(h:y≠0):(x.tmod y).natAbs<y.natAbs:=by
 rw[Int.natAbs_tmod];exact Nat.mod_lt _ (by omega)
theorem zi3(a b:Int)(w:World)(ha:a.natAbs<=4611686018427387904)(hb:b.natAbs<=4611686018427387904):Calls Tryz.prog 198 #[.int .i64 a,.int .i64 b] w (Ret w (.int .i64 (Int.gcd a b))):=by
 go_enter Tryz.func198,Tryz.ntmps198
 go_wp2_with fail
 go_loopw [0,1] (fun x y wr=>∃p q:Int,x=.int .i64 p/\y=.int .i64 q/\p.natAbs<=4611686018427387904/\q.natAbs<=4611686018427387904/\Int.gcd a b=Int.gcd p q/\∃z,wr=w.ext z) (fun _ y _=>(intOf y).natAbs)
 case atStart=>exact⟨a,b,rfl,rfl,ha,hb,rfl,zaM (Below.refl _ _)⟩
 case round=>
  obtain⟨p,q,rfl,rfl,hp,hq,hg,z,rfl⟩:=hrel;by_cases hz:q=0
  ·subst hz;go_wp2_with fail
   all_goals go_ret
   all_goals exact Ret.of (zbU (by omega)) Bw
  ·have fG:(q==0)=false:=by simp[hz]
   have hm:=tmod_lt p q hz;obtain⟨hG,HG⟩:=yH2 (zlr p q) hg;clear hg;have rM:IntKind.i64.wrap (p.tmod q)=p.tmod q:=IntWalk.i64_in _ (by omega);go_wp2_with fail
   go_quiet (fail)
   go_wp2_with fail
   all_goals(first
    |(go_round
      case rel=>exact⟨q,p.tmod q,rfl,rfl,hq,by omega,by rw[HG.o,hG.o],zaM Bw⟩
      case measure=>simp only[intOf];omega))
attribute [local go_sem] zah zac
theorem zd3{fn:Func}{p:Tmp}{ty:TypeId}(h:fn.results= #[.cell p ty])(tmps:Array Value)(P:Program)(w:World):
 (results fn tmps).run P w=((asAddr (tmps.getD p undef)).run P w).andThen fun a w₁=>(loadVar ty a).run P w₁:=by
 simp only[results,h];simp[Sem.run_bind]
theorem zbA{fn:Func}{p:Tmp}(h:fn.results= #[.cell p 54])(tmps:Array Value)(w:World)(B:Nat)(x y:Int)(hp:tmps.getD p undef=.pointer (some ⟨B,0,none⟩))
 (h0:w.cell? ⟨B,0,none⟩=some (.int .i64 x))(h1:w.cell? ⟨B,1,none⟩=some (.int .i64 y)):(results fn tmps).run Tryz.prog w=.ok (.agg #[.int .i64 x,.int .i64 y]) w:=by
 rw[zd3 h,hp];go_simp
def za9(r:Rat):Value:=.agg #[.int .i64 r.num,.int .i64 r.den]
theorem zls{a b:Int}(h:0<b):0<Int.gcd a b:=Nat.pos_of_ne_zero (fun e=>by have:=(Int.gcd_eq_zero_iff.1 e).2;omega)
theorem zdc(a b:Int)(w:World)(ha:a.natAbs<=4611686018427387904)(ax:0<b)(hb:b<=4611686018427387904):Calls Tryz.prog 178 #[.int .i64 a,.int .i64 b] w (Ret w (za9 (Rat.divInt a b))):=by
 have hg:=zls (a:=a) ax;obtain⟨g,HG⟩:∃g:Int,g=(Int.gcd a b:Int):=⟨_,rfl⟩
 have nO:0<g:=by omega
 have mD:(g==0)=false:=by simp;omega
 have e1:a.tdiv g=(Rat.divInt a b).num:=by rw[zeu ax,HG,zd1 (Int.gcd_dvd_left ..)]
 have e2:b.tdiv g=((Rat.divInt a b).den:Int):=by rw[zd0 ax,HG,zd1 (Int.gcd_dvd_right ..)]
 have n1:(a.tdiv g).natAbs<=4611686018427387904:=Nat.le_trans (Int.natAbs_tdiv_le_natAbs _ _) ha;have n2:(b.tdiv g).natAbs<=4611686018427387904:=Nat.le_trans (Int.natAbs_tdiv_le_natAbs _ _) (by omega);have w1:wrap64 (a.tdiv g)=a.tdiv g:=by unfold wrap64;omega
 have w2:wrap64 (b.tdiv g)=b.tdiv g:=by unfold wrap64;omega
 have HA:=zHi ha;have eu:b.natAbs<=4611686018427387904:=by omega
 obtain⟨HB,E1,E2⟩:=yH3 eu e1 e2;clear ha hb ax hg e1 e2 n1 n2 eu;go_enter Tryz.func178,Tryz.ntmps178
 go_wp2_with (go_at_call 198;refine(zi3 _ _ _ HA.o HB.o).mono ?_;rintro e w1 ⟨rfl,z1,rfl⟩;rw[<-HG])
 go_region
 go_wp2_with fail
 refine bodyPost_ret (v:=za9 (Rat.divInt a b)) ?_ rfl ?_
 ·refine zbA rfl _ _ w.heap.size _ _ rfl ?_ ?_
  ·rw[<-E1.o];simp[go_sem];rw[<-HG];exact w1
  ·rw[<-E2.o];simp[go_sem];rw[<-HG];exact w2
 ·exact Ret.of rfl Bw
def zaD(r:Rat):Prop:=r.num.natAbs<=1000000000/\r.den<=1000000000
theorem zaP{a b:Int}(ha:a.natAbs<=1000000000)(hb:b.natAbs<=1000000000): -1000000000000000000<=a*b/\a*b<=1000000000000000000:=by
 have h:(a*b).natAbs<=1000000000*1000000000:=by rw[Int.natAbs_mul];exact Nat.mul_le_mul ha hb
 omega
theorem add5I(a b c d:Int)(w:World)(ha:a.natAbs<=1000000000)(hb:b.natAbs<=1000000000)(hc:c.natAbs<=1000000000)(hd:d.natAbs<=1000000000)(ax:0<b)(gv:0<d):Calls Tryz.prog 122 #[.agg #[.int .i64 a,.int .i64 b],.agg #[.int .i64 c,.int .i64 d]] w (Ret w (za9 (Rat.divInt (a*d+c*b) (b*d)))):=by
 have m1:=zaP ha hd;have m2:=zaP hc hb;have m3:=zaP hb hd;have m4:0<b*d:=Int.mul_pos ax gv;obtain⟨m1,n1⟩:=m1;obtain⟨m2,n2⟩:=m2;obtain⟨m3,n3⟩:=m3;have w1:IntKind.i64.wrap (a*d)=a*d:=IntWalk.i64_in _ (by omega);have w2:IntKind.i64.wrap (c*b)=c*b:=IntWalk.i64_in _ (by omega);have w3:IntKind.i64.wrap (b*d)=b*d:=IntWalk.i64_in _ (by omega);have hs:(a*d+c*b).natAbs<=4611686018427387904:=by omega
 have hl:b*d<=4611686018427387904:=by omega
 obtain⟨HS,HL,H4⟩:=yH3 hs hl m4;clear hs hl m4 ha hb hc hd;go_enter Tryz.func122,Tryz.ntmps122
 go_wp2_with (go_at_call 178;refine(zdc _ _ _ HS.o H4.o HL.o).mono ?_;rintro e w1 ⟨rfl,z1,rfl⟩;simp only[za9])
 refine bodyPost_ret (v:=za9 (Rat.divInt (a*d+c*b) (b*d))) ?_ rfl ?_
 ·refine zbA rfl _ _ _ _ _ rfl ?_ ?_
  ·simp[go_sem]
  ·simp[go_sem]
 ·exact Ret.of rfl Bw
theorem zlt(p q:Rat)(w:World)(cf:zaD p)(eH:zaD q):Calls Tryz.prog 122 #[za9 p,za9 q] w (Ret w (za9 (p+q))):=by
 rw[zmb];exact add5I _ _ _ _ _ cf.1 (by have:=cf.2;omega) eH.1 (by have:=eH.2;omega) (zci p) (zci q)
theorem sub5I(a b c d:Int)(w:World)(ha:a.natAbs<=1000000000)(hb:b.natAbs<=1000000000)(hc:c.natAbs<=1000000000)(hd:d.natAbs<=1000000000)(ax:0<b)(gv:0<d):Calls Tryz.prog 147 #[.agg #[.int .i64 a,.int .i64 b],.agg #[.int .i64 c,.int .i64 d]] w (Ret w (za9 (Rat.divInt (a*d-c*b) (b*d)))):=by
 have m1:=zaP ha hd;have m2:=zaP hc hb;have m3:=zaP hb hd;have m4:0<b*d:=Int.mul_pos ax gv;obtain⟨m1,n1⟩:=m1;obtain⟨m2,n2⟩:=m2;obtain⟨m3,n3⟩:=m3;have w1:IntKind.i64.wrap (a*d)=a*d:=IntWalk.i64_in _ (by omega);have w2:IntKind.i64.wrap (c*b)=c*b:=IntWalk.i64_in _ (by omega);have w3:IntKind.i64.wrap (b*d)=b*d:=IntWalk.i64_in _ (by omega);have hs:(a*d-c*b).natAbs<=4611686018427387904:=by omega
 have hl:b*d<=4611686018427387904:=by omega
 obtain⟨HS,HL,H4⟩:=yH3 hs hl m4;clear hs hl m4 ha hb hc hd;go_enter Tryz.func147,Tryz.ntmps147
 go_wp2_with (go_at_call 178;refine(zdc _ _ _ HS.o H4.o HL.o).mono ?_;rintro e w1 ⟨rfl,z1,rfl⟩;simp only[za9])
 refine bodyPost_ret (v:=za9 (Rat.divInt (a*d-c*b) (b*d))) ?_ rfl ?_
 ·refine zbA rfl _ _ _ _ _ rfl ?_ ?_
  ·simp[go_sem]
  ·simp[go_sem]
 ·exact Ret.of rfl Bw
theorem zgq(p q:Rat)(w:World)(cf:zaD p)(eH:zaD q):Calls Tryz.prog 147 #[za9 p,za9 q] w (Ret w (za9 (p-q))):=by
 rw[zhT];exact sub5I _ _ _ _ _ cf.1 (by have:=cf.2;omega) eH.1 (by have:=eH.2;omega) (zci p) (zci q)
theorem zdd(a b:Int)(w:World):Calls Tryz.prog 141 #[.agg #[.int .i64 a,.int .i64 b]] w (Ret w (.bool (za2 16 a b))):=by
 go_enter Tryz.func141,Tryz.ntmps141
 by_cases h1:inR b 1 16=true
 ·by_cases h2:inR a 0 b=true
  ·have x1:1<=b/\b<=16:=by simpa[inR]using h1
   have x2:0<=a/\a<=b:=by simpa[inR]using h2
   have g1:a.natAbs<=4611686018427387904:=by omega
   have g2:b.natAbs<=4611686018427387904:=by omega
   obtain⟨G1,G2⟩:=yH2 g1 g2;have hv:za2 16 a b=((Int.gcd a b:Int)==1):=by
    unfold za2;simp only[x1.1,x1.2,x2.1,x2.2,decide_true,Bool.true_and];rw[Bool.eq_iff_iff,beq_iff_eq,beq_iff_eq];omega
   have HV:=zHi hv;clear g1 g2 hv x1 x2
   go_wp2_with (first
    |(go_at_call 91;refine(zaS _ _ _ _).mono ?_;rintro e wq ⟨rfl,rfl⟩)
    |(go_at_call 198;refine(zi3 _ _ _ G1.o G2.o).mono ?_;rintro e w1 ⟨rfl,z1,rfl⟩))
   all_goals go_ret
   all_goals exact Ret.of (zaW (by rw[HV.o])) Bw
  ·have hv:za2 16 a b=false:=by
    unfold za2;simp[inR]at h1 h2⊢;omega
   go_wp2_with (go_at_call 91;refine(zaS _ _ _ _).mono ?_;rintro e wq ⟨rfl,rfl⟩)
   all_goals go_ret
   all_goals exact Ret.of (zaW (by rw[hv])) Bw
 ·have hv:za2 16 a b=false:=by
   unfold za2;simp[inR]at h1⊢;omega
  go_wp2_with (go_at_call 91;refine(zaS _ _ _ _).mono ?_;rintro e wq ⟨rfl,rfl⟩)
  all_goals go_ret
  all_goals exact Ret.of (zaW (by rw[hv])) Bw
