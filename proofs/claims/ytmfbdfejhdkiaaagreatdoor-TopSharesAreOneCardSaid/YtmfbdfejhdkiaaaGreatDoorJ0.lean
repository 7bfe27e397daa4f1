/- Walks of chapter 5's small functions: names, numbers within bounds, divisors, fractions. -/
import Derived.Test.YtmfbdfejhdkiaaaGreatDoorR8
import Derived.Test.YtmfbdfejhdkiaaaGreatDoorN3
set_option linter.all false
set_option maxRecDepth 100000
set_option maxHeartbeats 4000000
namespace Go.Proofs.YtmfbdfejhdkiaaaGreatDoor
open Go.RowKit
attribute [local go_sem] World.cell?_alloc_mark zae za4 zao za8 zav zaw zax zay zaz za0 za1
section
def SlW{α:Type}(W:World)(size:Nat)(R:World->α->List Value->Prop)(A:Option Addr)(xs:List α):Prop:=
 0<xs.length->∃b off,A=some ⟨b,off,none⟩/\b<W.heap.size/\∀k (x:α),xs[k]?=some x->∃cs,R W x cs/\∀j u,cs[j]?=some u->W.cell? ⟨b,off+k*size+j,none⟩=some u
def Keeps{α:Type}(R:World->α->List Value->Prop):Prop:= ∀W W' x cs n,R W x cs->Below n W W'->W.heap.size<=n->R W' x cs
section
variable {α:Type} {w W:World} {size:Nat} {R:World->α->List Value->Prop} {A:Option Addr} {xs:List α}
theorem SlW.keep(hk:Keeps R)(h:SlW w size R A xs){n:Nat}(hb:Below n w W)(hn:w.heap.size<=n:=by first|exact Qc|omega):SlW W size R A xs:=fun hl=>by
 obtain⟨b,off,hA,aa,hc⟩:=h hl;refine⟨b,off,hA,Nat.lt_of_lt_of_le aa hb.size,fun k x hx=>?_⟩;obtain⟨cs,h1,h2⟩:=hc k x hx;exact⟨cs,hk _ _ _ _ _ h1 hb hn,fun j u hu=>(hb.cell (p:=⟨b,_,none⟩) (Nat.lt_of_lt_of_le aa hn)).trans (h2 j u hu)⟩
theorem SlW.at{k:Nat}(h:SlW w size R A xs)(hk:k<xs.length):∃b off cs,A=some ⟨b,off,none⟩/\b<w.heap.size/\R w xs[k] cs/\∀j u,cs[j]?=some u->w.cell? ⟨b,off+k*size+j,none⟩=some u:=by
 obtain⟨b,off,hA,aa,hc⟩:=h (by omega);obtain⟨cs,h1,h2⟩:=hc k _ (List.getElem?_eq_getElem hk);exact⟨b,off,cs,hA,aa,h1,h2⟩
theorem SlW.nil:SlW w size R A ([]:List α):=fun h=>absurd h (by simp)
theorem SlW.take(h:SlW w size R A xs)(k:Nat):SlW w size R A (xs.take k):=fun hl=>by
 obtain⟨b,off,hA,aa,hc⟩:=h (by simp at hl;omega);refine⟨b,off,hA,aa,fun j x hx=>hc j x ?_⟩;rw[List.getElem?_take]at hx;split at hx
 ·exact hx
 ·cases hx
end
def zfL(W:World)(d:Deed)(cs:List Value):Prop:= ∃B c,d.to.length<=c/\cs=[.int .i64 d.kind,.int .i64 d.day,.string d.place,.string d.frm,.slice B d.to.length c,.int .i64 d.cls,.int .i64 d.years]/\Sl W 3 RPart.cells B d.to
theorem zbP:Keeps zfL:=by
 rintro W W' d cs n ⟨B,c,h0,h1,h2⟩ hB hn;exact⟨B,c,h0,h1,h2.keep hB hn⟩
def zia(W:World)(g:Grave)(cs:List Value):Prop:= ∃H hc D dc,cs=[.string g.place,.int .i64 g.cls,.int .i64 g.fin,.slice H g.holders.length hc,.slice D g.died.length dc]/\Sl W 3 zaa H g.holders/\Sl W 1 (fun s:ByteArray=>[.string s]) D g.died
theorem zfX:Keeps zia:=by
 rintro W W' g cs n ⟨H,hc,D,dc,h1,h2,h3⟩ hB hn;exact⟨H,hc,D,dc,h1,h2.keep hB hn,h3.keep hB hn⟩
def zaX(p:ByteArray×ByteArray):List Value:=[.string p.1,.string p.2]
structure RightsIn (w:World) (ls:List Law) (ds:List Deed) (A:Option Addr) (n nc:Nat) (B:Option Addr) (m mc:Nat):Prop where
 ln:n=ls.length
 dn:m=ds.length
 lc:n<=nc
 dc:m<=mc
 laws:Sl w 4 Law.cells A ls
 deeds:SlW w 7 zfL B ds
theorem RightsIn.keep{w W:World}{ls:List Law}{ds:List Deed}{A B:Option Addr}{n nc m mc k:Nat}(h:RightsIn w ls ds A n nc B m mc)(hB:Below k w W)(hk:w.heap.size<=k:=by first|exact Qc|omega):RightsIn W ls ds A n nc B m mc:=
 ⟨h.ln,h.dn,h.lc,h.dc,h.laws.keep hB hk,h.deeds.keep zbP hB hk⟩
end
theorem zbq(n lo hi:Int)(w:World):Calls Tryz.prog 45 #[.int .i64 n,.int .i64 lo,.int .i64 hi] w (Ret0 w (.bool (inR n lo hi))):=by
 go_enter Tryz.func45,Tryz.ntmps45
 go_wp2_with fail
 all_goals go_ret
 all_goals exact⟨by first|(simp_all[inR];done)|(simp_all[inR];omega),rfl⟩
theorem zbQ(n:Int)(w:World):Calls Tryz.prog 30 #[.int .i64 n] w (Ret0 w (.bool (zbm n))):=by
 go_enter Tryz.func30,Tryz.ntmps30
 go_wp2_with (go_at_call 45;refine(zbq _ _ _ _).mono ?_;rintro e wq ⟨rfl,rfl⟩)
 go_ret
 exact⟨rfl,rfl⟩
theorem zdQ(s:ByteArray)(w:World)(hs:s.size<=100000):Calls Tryz.prog 46 #[.string s] w (Ret0 w (.bool (zaE s))):=by
 go_enter Tryz.func46,Tryz.ntmps46
 go_wp2_with fail
 go_loop [7] (fun i=>∃k:Nat,k<=s.size/\i=.int .i64 k/\nmGo (zcZ s) 0=nmGo ((zcZ s).drop k) k) (fun i=>s.size-(intOf i).toNat)
 case atStart=>exact⟨0,Nat.zero_le _,rfl,rfl⟩
 case round=>
  obtain⟨k,hk,rfl,hf⟩:=hrel;by_cases aa:k<s.size
  ·rw[zfT s k aa,show s.data[k]=s[k]from rfl]at hf;have HF:=zHi hf;clear hf;have HL:=zHi aa;rcases Nat.eq_zero_or_pos k with rfl|aR
   ·go_wp2_with fail
    all_goals first
     |(go_round
       case rel=>exact⟨1,by have:=HL.o;omega,rfl,by rw[HF.o,nmGo,if_neg (by go_tidy;simp[zcM]at*;omega)]⟩
       case measure=>have:=HL.o;simp[intOf];omega)
     |(go_ret
       refine⟨congrArg Ending.returned (zaR ?_),rfl⟩;rw[zaE,HF.o,nmGo,if_pos (by go_tidy;simp[zcM]at*;omega)]
       rfl)
   ·have hz:((k:Int)==0)=false:=by simp;omega
    have nz:¬((k:Int)=0):=by omega
    go_wp2_with fail
    all_goals first
     |(go_round
       case rel=>exact⟨k+1,by have:=HL.o;omega,by go_num,by rw[HF.o,nmGo,if_neg (by go_tidy;simp[zcM]at*;omega)]⟩
       case measure=>have:=HL.o;simp[intOf];omega)
     |(go_ret
       refine⟨congrArg Ending.returned (zaR ?_),rfl⟩;rw[zaE,HF.o,nmGo,if_pos (by go_tidy;simp[zcM]at*;omega)]
       rfl)
  ·rw[List.drop_eq_nil_of_le (by rw[zfz];omega)]at hf;go_wp2_with fail
   all_goals go_ret
   all_goals refine⟨congrArg Ending.returned (zaR ?_),rfl⟩
   all_goals simp[zaE,hf,nmGo, *]
theorem zn3(x y:Int):Int.gcd y (x.tmod y)=Int.gcd x y:=by
 rw[Int.gcd,Int.gcd,Int.natAbs_tmod,Nat.gcd_comm,<-Nat.gcd_rec,Nat.gcd_comm]
theorem tmod_lt(x y:Int)(h:y≠0):(x.tmod y).natAbs<y.natAbs:=by
 rw[Int.natAbs_tmod];exact Nat.mod_lt _ (by omega)
theorem zn4(a b:Int)(w:World)(ha:a.natAbs<=4611686018427387904)(hb:b.natAbs<=4611686018427387904):Calls Tryz.prog 132 #[.int .i64 a,.int .i64 b] w (Ret w (.int .i64 (Int.gcd a b))):=by
 go_enter Tryz.func132,Tryz.ntmps132
 go_wp2_with fail
 go_loopw [0,1] (fun x y wr=>∃p q:Int,x=.int .i64 p/\y=.int .i64 q/\p.natAbs<=4611686018427387904/\q.natAbs<=4611686018427387904/\Int.gcd a b=Int.gcd p q/\∃z,wr=w.ext z) (fun _ y _=>(intOf y).natAbs)
 case atStart=>exact⟨a,b,rfl,rfl,ha,hb,rfl,zaU Qb⟩
 case round=>
  obtain⟨p,q,rfl,rfl,hp,hq,hg,z,rfl⟩:=hrel;by_cases hz:q=0
  ·subst hz;go_wp2_with fail
   all_goals go_ret
   all_goals exact Ret.of (zcd (by omega)) Bw
  ·have gV:(q==0)=false:=by simp[hz]
   have hm:=tmod_lt p q hz;obtain⟨hG,HG⟩:=yH2 (zn3 p q) hg;clear hg;have qF:IntKind.i64.wrap (p.tmod q)=p.tmod q:=IntWalk.i64_in _ (by omega);go_wp2_with fail
   go_quiet (fail)
   go_wp2_with fail
   all_goals(first
    |(go_round
      case rel=>exact⟨q,p.tmod q,rfl,rfl,hq,by omega,by rw[HG.o,hG.o],zaU Bw⟩
      case measure=>simp only[intOf];omega))
