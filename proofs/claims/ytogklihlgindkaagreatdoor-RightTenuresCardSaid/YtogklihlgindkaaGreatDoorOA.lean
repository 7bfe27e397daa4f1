import Derived.Test.YtogklihlgindkaaGreatDoorO7
import Derived.Test.YtogklihlgindkaaGreatDoorJQ
set_option linter.all false
set_option maxRecDepth 100000
set_option maxHeartbeats 4000000
namespace Go.Proofs.YtogklihlgindkaaGreatDoor
open Go.RowKit
attribute [local go_sem] World.cell?_alloc_mark zaf za3 zam za6 zat zau zav zaw zax zay zaz
attribute [local go_sem] zao zac
def zlQ(l:Parts)(h:∀p∈l,0<p.2)(k:Nat):sumQ (l.take k)<=sumQ l:=by
 induction l generalizing k with
 |nil=>simp
 |cons p l ih=>
  cases k with
  |zero=>
   have h1:0<=sumQ l:=by
    have:=ih (λq hq=>h q Md7) 0;simpa[sumQ]using this
   have:=h p McV;rw[List.take_zero,sumQ,sumQ];grind
  |succ k=>
   have:=ih (λq hq=>h q Md7) k;rw[List.take_succ_cons,sumQ,sumQ];grind
structure WillInv (y:(Parts×Bool)×Rat):Prop where
 flag:y.1.2=false
 bd:Bd y.1.1 (1-y.2)
 isN:IsN 720720 y.2
 nn:0<=y.2
 le:y.2<=1
 small:zaJ y.2
variable{s:St}
def zkJ{frm:ByteArray}{l:Parts}(hw:WillOk l)(k:Nat):WillInv (zdj s frm (l.take k) ([],false) 1):=by
 have hp:∀p∈l.take k,0<p.2:=λp hp=>hw.pos p (List.mem_of_mem_take hp)
 have hN:∀p∈l.take k,IsN 720720 p.2:=λp hp=>hw.isN p (List.mem_of_mem_take hp)
 have h1:=zgw (s:=s) (frm:=frm) (rest:=1) hp hN zd9 McV;obtain⟨g1,g2,g3,g4,g5⟩:=zir (s:=s) (frm:=frm) (out:=[]) (rest:=1) hp hN (Rat.le_trans (zlQ l hw.pos k) hw.le) zd9 McV (zha _);rw[h1];have gs:zaE (zcq s frm (l.take k) [] 1).1=false:=zc8 McU McU g2;have hn:=zbq (λp hp=>by have:=g1.pos p hp;grind) (l:=(zcq s frm (l.take k) [] 1).1);have ay:sumQ ([]:Parts)=0:=rfl;rw[ay]at g5;have bG:(zcq s frm (l.take k) [] 1).2<=1:=Mdl;exact⟨rfl,⟨g1,gs,by grind⟩,g3,g4,bG,zca g4 bG (zex McU McU g3)⟩
def zlR{α:Type}{p q:α->Bool}:∀ {l:List α},(∀x∈l,p x=true->q x=true)->(∃x∈l,q x=true/\p x=false)->(l.filter p).length<(l.filter q).length
 | [],_,h=>by obtain⟨x,hx,_⟩:=h;cases hx
 |y::l,h1,h2=>by
  have bG:∀ {l:List α},(∀x∈l,p x=true->q x=true)->(l.filter p).length<=(l.filter q).length:=by
   intro l;induction l with
   |nil=>intro _;simp
   |cons z l ih=>
    intro h;have:=ih (λx hx=>h x MeC);cases hp:p z
    ·cases hq:q z<;>simp[hp,hq]<;>omega
    ·have hq:=h z McV hp;simp[hp,hq];omega
  have hl:=bG (l:=l) (λx hx=>h1 x MeC);obtain⟨x,hx,h3,h4⟩:=h2;rcases List.mem_cons.1 hx with rfl|hx
  ·simp[h3,h4];omega
  ·have:=zlR (l:=l) (λx hx=>h1 x MeC) ⟨x,hx,h3,h4⟩;cases hp:p y
   ·cases hq:q y<;>simp[hp,hq]<;>omega
   ·have hq:=h1 y McV hp;simp[hp,hq];omega
open Classical in
noncomputable def zlS (s:St) (n:ByteArray):Nat:=(s.children.filter λe=>decide (e.1=n\/Desc s n e.1)).length
variable{n:ByteArray}
def znp(ha:∀a,¬Desc s a a){c:ByteArray}(hc:c∈zaj s n):zlS s c<zlS s n:=by
 unfold zlS;have hd:=zf2 hc;refine zlR (λe _ h=>?_) ⟨(n,c),zdw.1 hc,by simp,?_⟩
 ·simp only[decide_eq_true_eq]at h⊢;rcases h with h|h
  ·right;rw[h];exact hd
  ·right;exact zgV hd h
 ·simp only[decide_eq_false_iff_not,not_or];refine⟨λe=>?_,λh=>?_⟩
  ·have KU:Desc s n n:=by
    have:=hd;rw[<-show n=c from e]at this;exact this
   exact ha n KU
  ·exact ha n (zgV hd h)
def deep_of{s:St}(ha:∀a,¬Desc s a a):∀(f:Nat) (n:ByteArray),zlS s n<f->Deep s f n
 |0,_,h=>by omega
 |f+1,n,h=>λc hc=>deep_of ha f c (by have:=znp ha hc;omega)
def zkK(ha:∀a,¬Desc s a a)(n:ByteArray):Deep s (zaX s) n:=deep_of ha _ n (by
 unfold zaX zlS
 exact Nat.lt_succ_of_le (List.length_filter_le _ _))
def part_big{q:Rat}(h0:0<q)(hb:bigQ q=false):1<=(1000000000:Rat)*q:=by
 unfold bigQ at hb;have hd:(q.den:Int)<=1000000000:=by simpa using hb
 have hz:((q.den:Int):Rat)≠0:=ratI (by have:=q.den_pos;omega);have h1:q=q.num/((q.den:Int):Rat):=by rw[<-Rat.divInt_eq_div,Rat.num_divInt_den]
 have pY:q*((q.den:Int):Rat)=q.num:=by
  have:=Rat.div_mul_cancel (a:=(q.num:Rat)) hz;rw[<-h1]at this;exact this
 have hq:0<q.num:=by have:=(Rat.lt_iff 0 q).1 h0;simpa using this
 have h2:((1:Int):Rat)<=(q.num:Rat):=Rat.intCast_le_intCast.2 hq;have h3:((q.den:Int):Rat)<=((1000000000:Int):Rat):=Rat.intCast_le_intCast.2 hd;have h4:=Rat.mul_le_mul_of_nonneg_left h3 (show(0:Rat)<=q by grind);rw[pY]at h4;have e1:((1:Int):Rat)=1:=rfl;have e2:((1000000000:Int):Rat)=1000000000:=rfl;rw[e1]at h2;rw[e2]at h4;grind
def zlT:∀ {l:Parts},(∀p∈l,0<p.2)->zaE l=false->(l.length:Rat)<=1000000000*sumQ l
 | [],_,_=>by
   have:((([]:Parts).length:Nat):Rat)=0:=rfl;rw[this,sumQ];grind
 |p::l,h1,h2=>by
  unfold zaE at h2;rw[List.any_cons,Bool.or_eq_false_iff]at h2;have h3:=part_big (h1 p McV) h2.1;have h4:=zlT (l:=l) (λq hq=>h1 q Md7) h2.2;rw[List.length_cons,zg2,sumQ];grind
variable{out:Parts}
def Bd.len{t:Rat}(h:Bd out t)(ht:t<=1):out.length<=1000000000:=by
 have h1:=zlT h.good.pos h.small;have h2:=h.le;have h3:((out.length:Int):Rat)<=((1000000000:Int):Rat):=by
  have e2:((1000000000:Int):Rat)=1000000000:=rfl;rw[e2,Rat.intCast_natCast];grind
 have:=Rat.intCast_le_intCast.1 h3;omega
def ziQ{α:Type}[DecidableEq α]:∀ {l m:List α},l.Nodup->(∀x∈l,x∈m)->l.length<=m.length
 | [],_,_,_=>Nat.zero_le _
 |x::l,m,hn,hm=>by
  rw[List.nodup_cons]at hn;have hx:=hm x McV;have:=ziQ (l:=l) (m:=m.erase x) hn.2 (λy hy=>(List.mem_erase_of_ne (λe=>hn.1 (by rw[<-e];exact hy))).2 (hm y (by simp[hy])));rw[List.length_erase_of_mem hx]at this;have:=List.length_pos_of_mem hx;simp;omega
def zck(out:Parts)(L:List ByteArray):Prop:= ∀p∈out,p.1∈L
def zeI{fl:Bool}{f:Rat}{L:List ByteArray}(h:zck out L)(hn:n∈L):zck (zcT n f (out,fl)).1 L:=λp hp=>by
 rcases zk0 hp with e|h'
 ·rw[e];exact hn
 ·exact h p h'
mutual
def zc9(L:List ByteArray):List Tree->Prop
 | []=>True
 |t::l=>zfo L t/\zc9 L l
def zfo(L:List ByteArray):Tree->Prop
 | .leaf n=>n∈L
 | .node l=>zc9 L l
end
mutual
def zeJ{part:Rat}{L:List ByteArray}:∀ {l:List Tree} {out:Parts} {fl:Bool},zc9 L l->zck out L->zck (zbM part l (out,fl)).1 L
 | [],out,fl,_,h=>by rw[zbM];exact h
 |t::l,out,fl,hl,h=>by
  rw[zc9]at hl;rw[zbM];exact zeJ (l:=l) (fl:=(zdS part t (out,fl)).2) hl.2 (zpp hl.1 h)
def zpp{part:Rat}{L:List ByteArray}:∀ {t:Tree} {out:Parts} {fl:Bool},zfo L t->zck out L->zck (zdS part t (out,fl)).1 L
 | .leaf n,out,fl,hl,h=>by
   rw[zfo]at hl;rw[zdS];exact zeI h hl
 | .node l,out,fl,hl,h=>by
   rw[zfo]at hl;rw[zdS];exact zeJ (l:=l) hl h
end
def zlU{L:List ByteArray}:∀ {l:List Tree},(∀t∈l,zfo L t)->zc9 L l
 | [],_=>by rw[zc9];trivial
 |t::l,h=>by
  rw[zc9];exact⟨h t McV,zlU λt' ht=>h t' (by simp[ht])⟩
def zfp{s:St}{stems:Bool}{frm:ByteArray}{L:List ByteArray}(hL:∀c∈s.children,c.2∈L):∀(f:Nat) (n:ByteArray),zc9 L (zb6 s stems frm f n)
 |0,_=>by rw[show zb6 s stems frm 0 _=[]from rfl,zc9];trivial
 |f+1,n=>by
  refine zlU λt ht=>?_
  rw[zf9]at ht;obtain⟨c,hc,h1⟩:=List.mem_filterMap.1 ht;unfold zcV at h1;split at h1
  ·simp only[Option.some.injEq]at h1;rw[<-h1,zfo];exact hL (n,c) (zdw.1 hc)
  ·split at h1
   ·simp only[Option.some.injEq]at h1;rw[<-h1,zfo];exact zfp hL f c
   ·cases h1
def zhn{s:St}{frm:ByteArray}{L:List ByteArray}:∀ {l out:Parts} {fl:Bool} {rest:Rat},(∀p∈l,p.1∈L)->zck out L->zck (zdj s frm l (out,fl) rest).1.1 L
 | [],_,_,_,_,h=>h
 |p::l,out,fl,rest,hl,h=>by
  rw[zdj];split
  ·exact zhn (l:=l) (λq hq=>hl q Md7) (zeI (fl:=fl) h (hl p McV))
  ·exact zhn (l:=l) (λq hq=>hl q Md7) h
def ziR{law:Law}(hG:GoodParts (zcj s law n).1):(zcj s law n).1.length<=(zbv s n).length+s.children.length+1:=by
 let L:=((zbv s n).map (·.1))++(s.children.map (·.2))++[zco s n]
 have hL:zck (zcj s law n).1 L:=by
  have h1:∀p∈zbv s n,p.1∈L:=λp hp=>List.mem_append_left _ (List.mem_append_left _ (List.mem_map.2 ⟨p,hp,rfl⟩))
  have h2:∀c∈s.children,c.2∈L:=λc hc=>List.mem_append_left _ (List.mem_append_right _ (List.mem_map.2 ⟨c,hc,rfl⟩))
  have h3:zco s n∈L:=List.mem_append_right _ McV;have h4:=zhn (s:=s) (frm:=n) (fl:=false) (rest:=1) h1 (show zck [] L from λp hp=>by cases hp);have h5:=zfp (stems:=law.stems) (frm:=n) h2 (zaX s) n;unfold zcj;generalize zdj s n (zbv s n) ([],false) 1=y at*;obtain⟨⟨o,f⟩,r⟩:=y;simp only;split
  ·exact zeI h4 h3
  ·split
   ·unfold zcy;exact zeJ h5 h4
   ·unfold zcy;exact zeJ (fl:=_) h5 (zeI (fl:=f) h4 h3)
 have hn:((zcj s law n).1.map (·.1)).Nodup:=by
  rw[List.nodup_iff_pairwise_ne,List.pairwise_map];exact hG.asc.imp λh=>zcJ h
 have:=ziQ (m:=L) hn (λx hx=>by
  obtain⟨p,hp,rfl⟩:=List.mem_map.1 hx
  exact hL p hp)
 simp only[L,List.length_append,List.length_map,List.length_singleton]at this;exact this
open Go.Shelf
def cmpJ(a b:Int):Int:=if a<b then-1 else if b<a then 1 else 0
def nanJ_any(n:Int)(w:World):Calls Tryz.prog 102 #[.int .i64 n] w (Ret0 w (.bool false)):=by
 go_enter Tryz.func102,Tryz.ntmps102
 go_wp2
 go_ret
 exact⟨by simp,rfl⟩
def cmpJ_any(a b:Int)(w:World):Calls Tryz.prog 67 #[.int .i64 a,.int .i64 b] w (Ret0 w (.int .i64 (cmpJ a b))):=by
 have hX:a<b/\cmpJ a b= -1\/¬a<b/\b<a/\cmpJ a b=1\/¬a<b/\¬b<a/\cmpJ a b=0:=by
  unfold cmpJ;by_cases h:a<b
  ·exact .inl ⟨h,by simp[h]⟩
  ·by_cases h2:b<a
   ·exact .inr (.inl ⟨h,h2,by simp[h,h2]⟩)
   ·exact .inr (.inr ⟨h,h2,by simp[h,h2]⟩)
 rcases hX with⟨h1,hr⟩|⟨h1,h2,hr⟩|⟨h1,h2,hr⟩<;>rw[hr]<;>clear hr<;>
 (go_enter Tryz.func67,Tryz.ntmps67
  go_wp2_with (go_at_call 102;refine(nanJ_any _ _).mono ?_;rintro e wq ⟨rfl,rfl⟩)
  go_ret
  exact⟨rfl,rfl⟩)
def lexC:List Nat->List Nat->Int
 | [],[]=>0
 | [],_::_=> -1
 |_::_,[]=>1
 |a::x,b::y=>if a<b then-1 else if b<a then 1 else lexC x y
def znq(a b:List Nat)(A B:Option Addr)(ac bc:Nat)(w:World)(ha:a.length<=ac)(hb:b.length<=bc)(AM:a.length<=1000)(hS:Sl w 1 intC A a)(hT:Sl w 1 intC B b):
 Calls Tryz.prog 38 #[.slice A a.length ac,.slice B b.length bc] w (Ret0 w (.int .i64 (lexC a b))):=by
 obtain⟨HS,HT⟩:=yH2 hS hT;obtain⟨R,hR⟩:=Qd (lexC (a.drop 0) (b.drop 0))
 rw[show lexC a b=R from by rw[hR];rfl];have HR:=zHi hR;clear hS hT hR;go_enter Tryz.func38,Tryz.ntmps38
 go_wp2_with fail
 go_loopw [11] (λi wr=>∃k:Nat,k<=a.length/\k<=b.length/\i=.int .i64 k/\Hid (wr=w)/\Hid (R=lexC (a.drop k) (b.drop k))) (λi _=>a.length-(intOf i).toNat)
 case atStart=>exact⟨0,Nat.zero_le _,Nat.zero_le _,rfl,rfl,HR.o⟩
 case round=>
  obtain⟨k,hk,ol,rfl,hw,HX⟩:=hrel;have hw:=hw.o;subst hw;have aR:(0:Int)<=(k:Int):=McS;have hkA:(k:Int)<=(ac:Int):=McS;have hkB:(k:Int)<=(bc:Int):=McS;by_cases ae:k<a.length
  ·have au:(k:Int)<(a.length:Int):=McS;obtain⟨b1,o1,rfl,_,c1⟩:=HS.o.at ae;have i0:=c1 0 _ rfl;rw[Nat.mul_one,Nat.add_zero]at i0;by_cases bu:k<b.length
   ·have Lt:(k:Int)<(b.length:Int):=McS;have xU:¬(b.length:Int)<=(k:Int):=McS;obtain⟨b2,o2,rfl,_,c2⟩:=HT.o.at bu;have j0:=c2 0 _ rfl;rw[Nat.mul_one,Nat.add_zero]at j0;have hx:=HX.o;rw[List.drop_eq_getElem_cons ae,List.drop_eq_getElem_cons bu,lexC]at hx;obtain⟨aj,oG⟩:=yH2 ae bu;generalize a[k]=m at*;generalize b[k]=n at*;obtain⟨aw,HC⟩:=yH2 hx (λW=>cmpJ_any m n W);clear hx c1 c2;by_cases h1:m<n
    ·have hc:cmpJ m n= -1:=by unfold cmpJ;rw[if_pos McS]
     have cn:Hid (R= -1):=by show _=_;rw[aw.o,if_pos h1]
     exact Mba
    ·by_cases h2:n<m
     ·have hc:cmpJ m n=1:=by unfold cmpJ;rw[if_neg McS,if_pos McS]
      have cn:Hid (R=1):=by show _=_;rw[aw.o,if_neg h1,if_pos h2]
      exact Mba
     ·have hc:cmpJ m n=0:=by unfold cmpJ;rw[if_neg McS,if_neg McS]
      have cn:Hid (R=lexC (a.drop (k+1)) (b.drop (k+1))):=by show _=_;rw[aw.o,if_neg h1,if_neg h2]
      rw[hc]at HC;go_wp2_with (go_at_call 67;go_must(refine(HC.o _).mono ?_);rintro e wq ⟨rfl,rfl⟩)
      go_round
      case rel=>exact⟨k+1,aj.o,oG.o,by go_num,by first|exact True.intro|rfl,cn.o⟩
      case measure=>have:=aj.o;simp only[intOf];omega
   ·have xU:(b.length:Int)<=(k:Int):=McS;have hx:=HX.o;rw[List.drop_eq_getElem_cons ae,show b.drop k=[]from List.drop_eq_nil_of_le McS,lexC]at hx;have cn:Hid (R=1):=hx;clear hx c1;go_wp2_with fail
    exact Mbm
  ·have au:¬(k:Int)<(a.length:Int):=McS;have hx:=HX.o;rw[show a.drop k=[]from List.drop_eq_nil_of_le McS]at hx;by_cases bu:k<b.length
   ·have bL:(a.length:Int)<(b.length:Int):=McS;rw[List.drop_eq_getElem_cons bu,lexC]at hx;have cn:Hid (R= -1):=hx;clear hx;go_wp2_with fail
    exact Mbm
   ·have bL:¬(a.length:Int)<(b.length:Int):=McS;rw[show b.drop k=[]from List.drop_eq_nil_of_le McS,lexC]at hx;have cn:Hid (R=0):=hx;clear hx;go_wp2_with fail
    exact Mbm
def zlV:ElTy Tryz.prog 46 3 1 8:=zdm (z:=.int .i64 0) McT McT rfl McU
def TzTab(w:World):Prop:=TabAt 2 Lib.deBruijn64tab w/\2<w.heap.size
variable{w:World}
def TzTab.keep{W:World}{n:Nat}(h:TzTab w)(hB:Below n w W)(hn:w.heap.size<=n:=by first|exact Qc|omega):TzTab W:=
 ⟨λj hj=>(zai hB (Nat.lt_of_lt_of_le h.2 hn)).trans (h.1 j hj),Nat.lt_of_lt_of_le h.2 hB.size⟩
def tz_any(x:Nat)(hx:x<4096)(w:World)(hT:TzTab w):Calls Tryz.prog 66 #[.int .u64 x] w (Ret0 w (.int .i64 (Lib.ctz 64 x))):=
 (Any7.bits_TrailingZeros tzBits x McS w (λ_=>hT.1)).mono λ_ _ h=>⟨h.1,h.2.symm⟩
def sl_int{b n:Nat}{t:TypeId}{fr:Nat×Nat}(h:w.heap[b]?=some (.cells #[.int .i64 (n:Int)] t fr)):Sl w 1 intC (some ⟨b,0,none⟩) [n]:=λ_=>⟨b,0,rfl,zab h,λk y hy j u hu=>by
 have hk:k=0:=Mc2;subst hk;simp only[List.getElem?_cons_zero,Option.some.injEq]at hy;subst hy;match j,hu with
 |0,hu=>simp[intC]at hu;simp[World.cell?,h,<-hu]
 |j+1,hu=>simp[intC]at hu⟩
def zlW(a b:Nat)(ha:a<4611686018427387904)(hb:b<4611686018427387904):bits .and .i64 (a:Int) (b:Int)=((a &&& b:Nat):Int):=by
 have hx:a &&& b<=a:=Nat.and_le_left;have h1:(BitVec.ofInt 64 (a:Int)).toNat=a:=by
  rw[BitVec.ofInt_natCast,BitVec.toNat_ofNat];exact Nat.mod_eq_of_lt McS
 have h2:(BitVec.ofInt 64 (b:Int)).toNat=b:=by
  rw[BitVec.ofInt_natCast,BitVec.toNat_ofNat];exact Nat.mod_eq_of_lt McS
 show IntKind.i64.wrap ((BitVec.ofInt 64 (a:Int) &&& BitVec.ofInt 64 (b:Int)).toNat:Int)=_;rw[BitVec.toNat_and,h1,h2,IntKind.wrap_i64];omega
def zo2(x:Nat)(hx:x<4096)(h0:x≠0):bits .and .i64 (x:Int) ((x:Int)-1)=((x &&& (x-1):Nat):Int):=by
 rw[show((x:Int)-1)=((x-1:Nat):Int) by omega];exact zlW x (x-1) McS McS
def zlX(n set:Nat)(w:World)(hn:n<=12)(hx:set<2^n)(hT:TzTab w):
 Calls Tryz.prog 37 #[.int .i64 set] w (λe w'=>∃v,e=.returned v/\OwnS w' w.heap.size 3 1 intC v (zcY n set)/\Qa w w'):=by
 have HT:=zHi hT;clear hT;go_enter Tryz.func37,Tryz.ntmps37
 go_wp2_with fail
 go_loopw [0,3] (λv0 v wr=>∃(x:Nat) (acc:List Nat),v0=.int .i64 x/\x<2^n/\Hid (zcY n set=acc++zcY n x)/\OwnS wr w.heap.size 3 1 intC v acc/\Qa w wr) (λv0 _ _=>(intOf v0).toNat)
 case atStart=>exact⟨set,[],rfl,hx,rfl,OwnS.nil,Qb⟩
 case round=>
  obtain⟨x,acc,rfl,cP,HX,aa,hB⟩:=hrel;obtain⟨VA,vc,rfl,_,gu⟩:=aa.sl zg3;obtain⟨HO,HB⟩:=yH2 aa hB;have nV:x<4096:=Nat.lt_of_lt_of_le cP (Nat.pow_le_pow_right (n:=2) McU hn);by_cases h0:x=0
  ·subst h0;have EY:=HX.o;rw[bits_none,List.append_nil]at EY;have oP:=zHi EY;clear EY aa;go_wp2_with fail
   go_ret
   exact⟨_,rfl,by rw[oP.o];exact HO.o,HB.o⟩
  ·have ai:¬(x:Int)=0:=McS;have hcv:IntKind.u64.wrap (x:Int)=(x:Int):=by rw[IntKind.wrap_u64];omega
   have JG:=zHi (λW (hW:Qa wr W)=>tz_any x nV W ((HT.o.keep HB.o).keep hW));have fV:acc.length<=12:=by
    have h1:=congrArg List.length HX.o;have h2:(zcY n set).length<=n:=by unfold zcY;exact Nat.le_trans (List.length_filter_le _ _) McV
    rw[List.length_append]at h1;omega
   have aM:=hB.size;clear aa hB;go_upto_region 3 with
    (first
      |(go_at_call 66
        go_must(refine(JG.o _ Bw).mono ?_)
        rintro e wq ⟨rfl,rfl⟩)
      |(at_builtin
        go_loud(refine zar (v:=.slice VA acc.length vc) (n:=acc.length) (m:=1) rfl _ _ rfl zlV zg3 intC_one rfl (xs:=acc) (ys:=[Lib.ctz 64 x]) (HO.o.keep (n:=wr.heap.size) Bw) rfl rfl rfl (sl_int (zas _ _ _ rfl)) Mc8 McS McX ?_)
        intro v3 w3 h1 h2 h3;have ax:=Below.grown (B:=w.heap.size) (a:=w) (HB.o.trans (Below.mono (B:=wr.heap.size) (zad Qb _) aM)) h2 McX (λj hj=>(HO.o.ge j hj).1);obtain⟨H1,aG⟩:=yH2 h1 ax
        clear h1 h2 h3 ax))
   go_wp2_with fail
   go_round
   case rel=>
    rw[zo2 x nV h0];refine⟨x &&& (x-1),acc++[Lib.ctz 64 x],rfl,ziw cP,?_,H1.o,aG.o⟩;show _=_;rw[HX.o,bits_step hn cP h0];simp
   case measure=>
    rw[zo2 x nV h0];have:=zlw h0;simp only[intOf];omega
