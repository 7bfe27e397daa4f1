import Derived.Test.YtcfheecahnnhjaaGreatDoorRC
import Derived.Test.YtcfheecahnnhjaaGreatDoorJK
set_option linter.all false
set_option maxRecDepth 100000
set_option maxHeartbeats 4000000
namespace Go.Proofs.YtcfheecahnnhjaaGreatDoor
open Go.RowKit Go.Shelf
attribute [local go_sem] World.cell?_alloc_mark zag za4 zar zaB zaw zax zay zaz za0 za1 za2
attribute [local go_sem] zas zad
def intC(n:Nat):List Value:=[.int .i64 (n:Int)]
theorem zgx(n:Nat):(intC n).length=1:=rfl
theorem intC_one(n:Nat):∀u∈intC n,u.oneCell'=true:=by simp[intC,Value.oneCell']
theorem zgy(x:Rec):(Rec.cells x).length=8:=rfl
theorem recC_one(x:Rec):∀u∈Rec.cells x,u.oneCell'=true:=by simp[Rec.cells,Value.oneCell']
theorem elRec:ElTy Tryz.prog 61 60 8 88:=zdA (z:=.agg #[.int .i64 0,.string ⟨#[]⟩,.string ⟨#[]⟩,.string ⟨#[]⟩,.int .i64 0,.int .i64 0,.int .i64 0,.int .i64 0]) Mcv Mcv rfl Mcw
theorem of_snoc{l:List Rec}{set:List Nat}{k:Nat}(hk:k<set.length)(hl:set[k]<l.length):ofP l (set.take (k+1))=ofP l (set.take k)++[l[set[k]]]:=by
 unfold ofP;rw[List.take_succ_eq_append_getElem hk,List.filterMap_append];simp[List.getElem?_eq_getElem hl]
theorem of_len(l:List Rec)(set:List Nat):(ofP l set).length<=set.length:=List.length_filterMap_le _ _
theorem sl_rec{w:World}{b:Nat}{x:Rec}{t:TypeId}{fr:Nat×Nat}(h:w.heap[b]?=some (.cells (Rec.cells x).toArray t fr)):Sl w 8 Rec.cells (some ⟨b,0,none⟩) [x]:=fun _=>⟨b,0,rfl,zab h,fun k y hy j u hu=>by
 have hk:k=0:=McH;subst hk;simp only[List.getElem?_cons_zero,Option.some.injEq]at hy;subst hy;simp only[World.cell?,h,Nat.zero_mul,Nat.zero_add,Nat.add_zero]
 simpa using hu⟩
theorem some_any(l:List Rec)(set:List Nat)(A:Option Addr)(c:Nat)(SA:Option Addr)(sc:Nat)(w:World)(hc:l.length<=c)(GW:set.length<=sc)(aQ:set.length<=1000)(aJ:∀i∈set,i<l.length)(hS:Sl w 8 Rec.cells A l)(hT:Sl w 1 intC SA set):
 Calls Tryz.prog 46 #[.slice A l.length c,.slice SA set.length sc] w (fun e w'=>∃v,e=.returned v/\OwnS w' w.heap.size 60 8 Rec.cells v (ofP l set)/\Below w.heap.size w w'):=by
 obtain⟨HS,HT,bK⟩:=yH3 hS hT aJ;clear hS hT aJ;go_enter Tryz.func46,Tryz.ntmps46
 go_wp2_with fail
 go_loopw [5,10] (fun v i wr=>∃k:Nat,k<=set.length/\i=.int .i64 k/\OwnS wr w.heap.size 60 8 Rec.cells v (ofP l (set.take k))/\Below w.heap.size w wr) (fun _ i _=>set.length-(intOf i).toNat)
 case atStart=>exact⟨0,Nat.zero_le _,rfl,OwnS.nil,Below.refl _ _⟩
 case round=>
  obtain⟨k,hk,rfl,aa,hB⟩:=hrel;obtain⟨VA,vc,rfl,_,jx⟩:=aa.sl zgy;obtain⟨HO,HB⟩:=yH2 aa hB;have aI:=hB.size;by_cases ae:k<set.length
  ·obtain⟨b,off,rfl,hb,ah⟩:=(HT.o.keep hB).at ae;have hi:=bK.o set[k] (List.getElem_mem ae);have bw:=of_snoc ae hi;have i0:wr.cell? ⟨b,off+k,none⟩=some (.int .i64 (set[k]:Int)):=McW;have kv:=of_len l (set.take k);rw[List.length_take]at kv;have bT:=zHi bw;clear bw ah;generalize set[k]=m at*;obtain⟨rb,roff,rfl,yH,oW⟩:=(HS.o.keep hB).at hi;have am:=zHi ae;generalize l[m]=x at*;generalize ofP l (set.take k)=acc at*;obtain⟨kd,nm,ot,pl,dy,tl,nu,de⟩:=x;have j0:wr.cell? ⟨rb,roff+m*8,none⟩=some (.int .i64 kd):=oW 0 _ rfl;have j1:wr.cell? ⟨rb,roff+m*8+1,none⟩=some (.string nm):=oW 1 _ rfl;have j2:wr.cell? ⟨rb,roff+m*8+2,none⟩=some (.string ot):=oW 2 _ rfl;have j3:wr.cell? ⟨rb,roff+m*8+3,none⟩=some (.string pl):=oW 3 _ rfl;have j4:wr.cell? ⟨rb,roff+m*8+4,none⟩=some (.int .i64 dy):=oW 4 _ rfl;have j5:wr.cell? ⟨rb,roff+m*8+5,none⟩=some (.int .i64 tl):=oW 5 _ rfl;have j6:wr.cell? ⟨rb,roff+m*8+6,none⟩=some (.int .i64 nu):=oW 6 _ rfl;have j7:wr.cell? ⟨rb,roff+m*8+7,none⟩=some (.int .i64 de):=oW 7 _ rfl;have ar:(k:Int)<(set.length:Int):=Mcu;have aT:(0:Int)<=(k:Int):=Mcu;have fu:(k:Int)<=(sc:Int):=Mcu;have fI:(m:Int)<(l.length:Int):=Mcu;have nN:(0:Int)<=(m:Int):=Mcu;have sP:(m:Int)<=(c:Int):=Mcu;have jI:acc.length<=1000:=Mcu;clear oW aa hB kv
   go_wp2_with (at_builtin
                go_loud(refine zat (v:=.slice VA acc.length vc) (n:=acc.length) (m:=1) rfl _ _ rfl elRec zgy recC_one rfl (xs:=acc) (ys:=[⟨kd,nm,ot,pl,dy,tl,nu,de⟩]) (HO.o.keep (n:=wr.heap.size) Bw) rfl rfl rfl (sl_rec (zaq _ _ _ rfl)) McP Mcu Mcz ?_)
                intro v3 w3 h1 h2 h3;have ay:=Below.grown (B:=w.heap.size) (a:=w) (HB.o.trans (Below.mono (B:=wr.heap.size) (zac (Below.refl _ _) _) aI)) h2 Mcz (fun j hj=>(HO.o.ge j hj).1);obtain⟨H1,aH⟩:=yH2 h1 ay
                clear h1 h2 h3 ay)
   go_round
   case rel=>exact⟨k+1,am.o,by go_num,by rw[bT.o];exact H1.o,aH.o⟩
   case measure=>have:=am.o;simp only[intOf];omega
  ·have ar:¬(k:Int)<(set.length:Int):=Mcu;have xO:set.take k=set:=List.take_of_length_le Mcu;clear aa;generalize bn:ofP l (set.take k)=xs at*;rw[xO]at bn;subst bn;clear xO;go_wp2_with fail
   go_ret
   exact⟨_,rfl,HO.o,HB.o⟩
def cmpJ(a b:Int):Int:=if a<b then-1 else if b<a then 1 else 0
theorem nanJ_any(n:Int)(w:World):Calls Tryz.prog 103 #[.int .i64 n] w (Ret0 w (.bool false)):=by
 go_enter Tryz.func103,Tryz.ntmps103
 go_wp2
 go_ret
 exact⟨by simp,rfl⟩
theorem cmpJ_any(a b:Int)(w:World):Calls Tryz.prog 69 #[.int .i64 a,.int .i64 b] w (Ret0 w (.int .i64 (cmpJ a b))):=by
 have hX:a<b/\cmpJ a b= -1\/¬a<b/\b<a/\cmpJ a b=1\/¬a<b/\¬b<a/\cmpJ a b=0:=by
  unfold cmpJ;by_cases h:a<b
  ·exact .inl ⟨h,by simp[h]⟩
  ·by_cases h2:b<a
   ·exact .inr (.inl ⟨h,h2,by simp[h,h2]⟩)
   ·exact .inr (.inr ⟨h,h2,by simp[h,h2]⟩)
 rcases hX with⟨h1,hr⟩|⟨h1,h2,hr⟩|⟨h1,h2,hr⟩<;>rw[hr]<;>clear hr<;>
 (go_enter Tryz.func69,Tryz.ntmps69
  go_wp2_with (go_at_call 103;refine(nanJ_any _ _).mono ?_;rintro e wq ⟨rfl,rfl⟩)
  go_ret
  exact⟨rfl,rfl⟩)
def lexC:List Nat->List Nat->Int
 | [],[]=>0
 | [],_::_=> -1
 |_::_,[]=>1
 |a::x,b::y=>if a<b then-1 else if b<a then 1 else lexC x y
theorem zmM(a b:List Nat)(A B:Option Addr)(ac bc:Nat)(w:World)(ha:a.length<=ac)(hb:b.length<=bc)(Kc:a.length<=1000)(hS:Sl w 1 intC A a)(hT:Sl w 1 intC B b):
 Calls Tryz.prog 44 #[.slice A a.length ac,.slice B b.length bc] w (Ret0 w (.int .i64 (lexC a b))):=by
 obtain⟨HS,HT⟩:=yH2 hS hT;obtain⟨R,hR⟩:∃R,R=lexC (a.drop 0) (b.drop 0):=⟨_,rfl⟩
 rw[show lexC a b=R from by rw[hR];rfl];have HR:=zHi hR;clear hS hT hR;go_enter Tryz.func44,Tryz.ntmps44
 go_wp2_with fail
 go_loopw [11] (fun i wr=>∃k:Nat,k<=a.length/\k<=b.length/\i=.int .i64 k/\Hid (wr=w)/\Hid (R=lexC (a.drop k) (b.drop k))) (fun i _=>a.length-(intOf i).toNat)
 case atStart=>exact⟨0,Nat.zero_le _,Nat.zero_le _,rfl,rfl,HR.o⟩
 case round=>
  obtain⟨k,hk,pU,rfl,hw,HX⟩:=hrel;have hw:=hw.o;subst hw;have aT:(0:Int)<=(k:Int):=Mcu;have hkA:(k:Int)<=(ac:Int):=Mcu;have hkB:(k:Int)<=(bc:Int):=Mcu;by_cases ae:k<a.length
  ·have ar:(k:Int)<(a.length:Int):=Mcu;obtain⟨b1,o1,rfl,_,c1⟩:=HS.o.at ae;have i0:=c1 0 _ rfl;rw[Nat.mul_one,Nat.add_zero]at i0;by_cases bu:k<b.length
   ·have KS:(k:Int)<(b.length:Int):=Mcu;have xM:¬(b.length:Int)<=(k:Int):=Mcu;obtain⟨b2,o2,rfl,_,c2⟩:=HT.o.at bu;have j0:=c2 0 _ rfl;rw[Nat.mul_one,Nat.add_zero]at j0;have hx:=HX.o;rw[List.drop_eq_getElem_cons ae,List.drop_eq_getElem_cons bu,lexC]at hx;obtain⟨am,qK⟩:=yH2 ae bu;generalize a[k]=m at*;generalize b[k]=n at*;obtain⟨av,HC⟩:=yH2 hx (fun W=>cmpJ_any m n W);clear hx c1 c2;by_cases h1:m<n
    ·have hc:cmpJ m n= -1:=by unfold cmpJ;rw[if_pos Mcu]
     have cn:Hid (R= -1):=by show _=_;rw[av.o,if_pos h1]
     exact MaR
    ·by_cases h2:n<m
     ·have hc:cmpJ m n=1:=by unfold cmpJ;rw[if_neg Mcu,if_pos Mcu]
      have cn:Hid (R=1):=by show _=_;rw[av.o,if_neg h1,if_pos h2]
      exact MaR
     ·have hc:cmpJ m n=0:=by unfold cmpJ;rw[if_neg Mcu,if_neg Mcu]
      have cn:Hid (R=lexC (a.drop (k+1)) (b.drop (k+1))):=by show _=_;rw[av.o,if_neg h1,if_neg h2]
      rw[hc]at HC;go_wp2_with (go_at_call 69;go_must(refine(HC.o _).mono ?_);rintro e wq ⟨rfl,rfl⟩)
      go_round
      case rel=>exact⟨k+1,am.o,qK.o,by go_num,by first|exact True.intro|rfl,cn.o⟩
      case measure=>have:=am.o;simp only[intOf];omega
   ·have xM:(b.length:Int)<=(k:Int):=Mcu;have hx:=HX.o;rw[List.drop_eq_getElem_cons ae,show b.drop k=[]from List.drop_eq_nil_of_le Mcu,lexC]at hx;have cn:Hid (R=1):=hx;clear hx c1;go_wp2_with fail
    exact Ma4
  ·have ar:¬(k:Int)<(a.length:Int):=Mcu;have hx:=HX.o;rw[show a.drop k=[]from List.drop_eq_nil_of_le Mcu]at hx;by_cases bu:k<b.length
   ·have cJ:(a.length:Int)<(b.length:Int):=Mcu;rw[List.drop_eq_getElem_cons bu,lexC]at hx;have cn:Hid (R= -1):=hx;clear hx;go_wp2_with fail
    exact Ma4
   ·have cJ:¬(a.length:Int)<(b.length:Int):=Mcu;rw[show b.drop k=[]from List.drop_eq_nil_of_le Mcu,lexC]at hx;have cn:Hid (R=0):=hx;clear hx;go_wp2_with fail
    exact Ma4
theorem elInt:ElTy Tryz.prog 56 3 1 8:=zdA (z:=.int .i64 0) Mcv Mcv rfl Mcw
def TzTab(w:World):Prop:=TabAt 2 Lib.deBruijn64tab w/\2<w.heap.size
theorem TzTab.keep{w W:World}{n:Nat}(h:TzTab w)(hB:Below n w W)(hn:w.heap.size<=n:=by first|exact Nat.le_refl _|omega):TzTab W:=
 ⟨fun j hj=>(zah hB (Nat.lt_of_lt_of_le h.2 hn)).trans (h.1 j hj),Nat.lt_of_lt_of_le h.2 hB.size⟩
theorem tz_any(x:Nat)(hx:x<4096)(w:World)(hT:TzTab w):Calls Tryz.prog 68 #[.int .u64 x] w (Ret0 w (.int .i64 (Lib.ctz 64 x))):=
 (Any7.bits_TrailingZeros tzBits x Mcu w (fun _=>hT.1)).mono fun _ _ h=>⟨h.1,h.2.symm⟩
theorem sl_int{w:World}{b n:Nat}{t:TypeId}{fr:Nat×Nat}(h:w.heap[b]?=some (.cells #[.int .i64 (n:Int)] t fr)):Sl w 1 intC (some ⟨b,0,none⟩) [n]:=fun _=>⟨b,0,rfl,zab h,fun k y hy j u hu=>by
 have hk:k=0:=McH;subst hk;simp only[List.getElem?_cons_zero,Option.some.injEq]at hy;subst hy;match j,hu with
 |0,hu=>simp[intC]at hu;simp[World.cell?,h,<-hu]
 |j+1,hu=>simp[intC]at hu⟩
theorem zl4(a b:Nat)(ha:a<4611686018427387904)(hb:b<4611686018427387904):bits .and .i64 (a:Int) (b:Int)=((a &&& b:Nat):Int):=by
 have hx:a &&& b<=a:=Nat.and_le_left;have h1:(BitVec.ofInt 64 (a:Int)).toNat=a:=by
  rw[BitVec.ofInt_natCast,BitVec.toNat_ofNat];exact Nat.mod_eq_of_lt Mcu
 have h2:(BitVec.ofInt 64 (b:Int)).toNat=b:=by
  rw[BitVec.ofInt_natCast,BitVec.toNat_ofNat];exact Nat.mod_eq_of_lt Mcu
 show IntKind.i64.wrap ((BitVec.ofInt 64 (a:Int) &&& BitVec.ofInt 64 (b:Int)).toNat:Int)=_;rw[BitVec.toNat_and,h1,h2,IntKind.wrap_i64];omega
theorem znY(x:Nat)(hx:x<4096)(h0:x≠0):bits .and .i64 (x:Int) ((x:Int)-1)=((x &&& (x-1):Nat):Int):=by
 rw[show((x:Int)-1)=((x-1:Nat):Int) by omega];exact zl4 x (x-1) Mcu Mcu
theorem zl5(n set:Nat)(w:World)(hn:n<=12)(hx:set<2^n)(hT:TzTab w):
 Calls Tryz.prog 43 #[.int .i64 set] w (fun e w'=>∃v,e=.returned v/\OwnS w' w.heap.size 3 1 intC v (zdb n set)/\Below w.heap.size w w'):=by
 have HT:=zHi hT;clear hT;go_enter Tryz.func43,Tryz.ntmps43
 go_wp2_with fail
 go_loopw [0,3] (fun v0 v wr=>∃(x:Nat) (acc:List Nat),v0=.int .i64 x/\x<2^n/\Hid (zdb n set=acc++zdb n x)/\OwnS wr w.heap.size 3 1 intC v acc/\Below w.heap.size w wr) (fun v0 _ _=>(intOf v0).toNat)
 case atStart=>exact⟨set,[],rfl,hx,rfl,OwnS.nil,Below.refl _ _⟩
 case round=>
  obtain⟨x,acc,rfl,eJ,HX,aa,hB⟩:=hrel;obtain⟨VA,vc,rfl,_,jx⟩:=aa.sl zgx;obtain⟨HO,HB⟩:=yH2 aa hB;have nB:x<4096:=Nat.lt_of_lt_of_le eJ (Nat.pow_le_pow_right (n:=2) Mcw hn);by_cases h0:x=0
  ·subst h0;have Ea:=HX.o;rw[bits_none,List.append_nil]at Ea;have om:=zHi Ea;clear Ea aa;go_wp2_with fail
   go_ret
   exact⟨_,rfl,by rw[om.o];exact HO.o,HB.o⟩
  ·have ai:¬(x:Int)=0:=Mcu;have hcv:IntKind.u64.wrap (x:Int)=(x:Int):=by rw[IntKind.wrap_u64];omega
   have J4:=zHi (fun W (hW:Below wr.heap.size wr W)=>tz_any x nB W ((HT.o.keep HB.o).keep hW));have jI:acc.length<=12:=by
    have h1:=congrArg List.length HX.o;have h2:(zdb n set).length<=n:=by unfold zdb;exact Nat.le_trans (List.length_filter_le _ _) Mcx
    rw[List.length_append]at h1;omega
   have aI:=hB.size;clear aa hB;go_upto_region 3 with
    (first
      |(go_at_call 68
        go_must(refine(J4.o _ Bw).mono ?_)
        rintro e wq ⟨rfl,rfl⟩)
      |(at_builtin
        go_loud(refine zat (v:=.slice VA acc.length vc) (n:=acc.length) (m:=1) rfl _ _ rfl elInt zgx intC_one rfl (xs:=acc) (ys:=[Lib.ctz 64 x]) (HO.o.keep (n:=wr.heap.size) Bw) rfl rfl rfl (sl_int (zaq _ _ _ rfl)) McP Mcu Mcz ?_)
        intro v3 w3 h1 h2 h3;have ay:=Below.grown (B:=w.heap.size) (a:=w) (HB.o.trans (Below.mono (B:=wr.heap.size) (zac (Below.refl _ _) _) aI)) h2 Mcz (fun j hj=>(HO.o.ge j hj).1);obtain⟨H1,aH⟩:=yH2 h1 ay
        clear h1 h2 h3 ay))
   go_wp2_with fail
   go_round
   case rel=>
    rw[znY x nB h0];refine⟨x &&& (x-1),acc++[Lib.ctz 64 x],rfl,zir eJ,?_,H1.o,aH.o⟩;show _=_;rw[HX.o,bits_step hn eJ h0];simp
   case measure=>
    rw[znY x nB h0];have:=zlj h0;simp only[intOf];omega
theorem rMulI(a b c d:Int)(w:World)(ha:a.natAbs<=1000000000)(hb:b.natAbs<=1000000000)(hc:c.natAbs<=1000000000)(hd:d.natAbs<=1000000000)(ba:0<b)(io:0<d)(_h:True):Calls Tryz.prog 158 #[.agg #[.int .i64 a,.int .i64 b],.agg #[.int .i64 c,.int .i64 d]] w (Ret w (zaA (Rat.divInt (a*c) (b*d)))):=by
 have m1:=zaO ha hd;have m2:=zaO hc hb;have m3:=zaO hb hd;have m4:0<b*d:=Int.mul_pos ba io;obtain⟨m1,n1⟩:=m1;obtain⟨m2,n2⟩:=m2;obtain⟨m3,n3⟩:=m3;have w1:IntKind.i64.wrap (a*d)=a*d:=IntWalk.i64_in _ Mcu;have w2:IntKind.i64.wrap (c*b)=c*b:=IntWalk.i64_in _ Mcu;have w3:IntKind.i64.wrap (b*d)=b*d:=IntWalk.i64_in _ Mcu;have m5:=zaO ha hc;obtain⟨m5,n5⟩:=m5;have m6:=zaO hb hc;obtain⟨m6,n6⟩:=m6;have w5:IntKind.i64.wrap (a*c)=a*c:=IntWalk.i64_in _ Mcu;have w6:IntKind.i64.wrap (b*c)=b*c:=IntWalk.i64_in _ Mcu;have hs:(a*c).natAbs<=4611686018427387904:=Mcu;have hl:(b*d)<=4611686018427387904:=Mcu;have h4:0<(b*d):=m4;obtain⟨HS,HL,H4⟩:=yH3 hs hl h4;clear hs hl m4 h4 ha hb hc hd;go_enter Tryz.func158,Tryz.ntmps158
 go_wp2_with (go_at_call 181;go_must(refine(zeC _ _ _ HS.o H4.o HL.o).mono ?_);rintro e w1 ⟨rfl,z1,rfl⟩;simp only[zaA])
 refine bodyPost_ret (v:=zaA (Rat.divInt (a*c) (b*d))) ?_ rfl ?_
 ·refine zaS rfl _ _ _ _ _ rfl ?_ ?_
  ·simp[go_sem]
  ·simp[go_sem]
 ·exact Ret.of rfl Bw
theorem zgz(p q:Rat)(w:World)(cv:zaJ p)(dF:zaJ q):Calls Tryz.prog 158 #[zaA p,zaA q] w (Ret w (zaA (p*q))):=by
 rw[zgN];exact rMulI _ _ _ _ _ cv.1 (by have:=cv.2;omega) dF.1 (by have:=dF.2;omega) (zbX p) (zbX q) trivial
def zh9(l:Parts)(n:ByteArray)(k:Nat):Int:=match(l.drop k).findIdx? fun p=>zae p.1 n with
 |none=> -1
 |some i=>((k+i:Nat):Int)
theorem zoF{l:Parts}{n:ByteArray}{k:Nat}(h:k<l.length):zh9 l n k=if zae l[k].1 n then(k:Int)else zh9 l n (k+1):=by
 unfold zh9;rw[List.drop_eq_getElem_cons h,List.findIdx?_cons];cases hs:zae l[k].1 n
 ·rw[if_neg Mcx,if_neg Mcx];cases(l.drop (k+1)).findIdx? fun p=>zae p.1 n with
  |none=>rfl
  |some i=>
   simp only[Option.map_some];omega
 ·rw[if_pos rfl,if_pos rfl];simp
theorem partI_end{l:Parts}{n:ByteArray}{k:Nat}(h:¬k<l.length):zh9 l n k= -1:=by
 unfold zh9;rw[List.drop_of_length_le Mcu];rfl
theorem zmN(l:Parts)(n:ByteArray):(zh9 l n 0= -1/\zaf l n=0)\/∃(i:Nat) (h:i<l.length),zh9 l n 0=(i:Int)/\zaf l n=l[i].2:=by
 unfold zh9 zaf;rw[List.drop_zero];cases hx:l.findIdx? fun p=>zae p.1 n with
 |none=>
  refine .inl ⟨rfl,?_⟩;rw[List.findIdx?_eq_none_iff]at hx;have:l.find? (fun p=>zae p.1 n)=none:=by
   rw[List.find?_eq_none];intro p hp;rw[hx p hp];simp
  rw[this];rfl
 |some i=>
  rw[List.findIdx?_eq_some_iff_getElem]at hx;obtain⟨hi,h1,h2⟩:=hx;refine .inr ⟨i,hi,by simp,?_⟩;have:l.find? (fun p=>zae p.1 n)=some l[i]:=by
   rw[List.find?_eq_some_iff_getElem];exact⟨h1,i,hi,rfl,fun j hj=>by simpa using h2 j hj⟩
  rw[this];rfl
theorem rPart_any(l:Parts)(n:ByteArray)(A:Option Addr)(c:Nat)(w:World)(hl:l.length<=1000000000)(hS:Sl w 3 zaa A l):Calls Tryz.prog 33 #[.slice A l.length c,.string n] w (Ret0 w (.int .i64 (zh9 l n 0))):=by
 have HS:=zHi hS;obtain⟨R,hR⟩:∃R,R=zh9 l n 0:=⟨_,rfl⟩
 rw[<-hR];have HR:=zHi hR;clear hS hR;go_enter Tryz.func33,Tryz.ntmps33
 go_upto_region 2 with fail
 go_loopw [5] (fun i wr=>∃k:Nat,k<=l.length/\i=.int .i64 k/\w=wr/\Hid (R=zh9 l n k)) (fun i _=>l.length-(intOf i).toNat)
 case atStart=>exact⟨0,Nat.zero_le _,rfl,rfl,HR.o⟩
 case round=>
  obtain⟨k,hk,rfl,rfl,HX⟩:=hrel;by_cases ae:k<l.length
  ·obtain⟨b,off,rfl,hb,ah⟩:=HS.o.at ae;have hx:=HX.o;rw[zoF ae]at hx;obtain⟨av,am⟩:=yH2 hx ae;generalize l[k]=x at*;obtain⟨nm,q⟩:=x;have i0:w.cell? ⟨b,off+k*3,none⟩=some (.string nm):=ah 0 _ rfl;have ar:(k:Int)<(l.length:Int):=Mcu;have aT:(0:Int)<=(k:Int):=Mcu;clear ah hx ae;cases hs:zae nm n
   ·have HE:Hid (R=zh9 l n (k+1)):=by show _=_;rw[av.o,hs];rfl
    have aY:(nm.toList==n.toList)=false:=hs;go_wp2_with fail
    exact MI
   ·have HE:Hid (R=(k:Int)):=by show _=_;rw[av.o,hs];rfl
    have aY:(nm.toList==n.toList)=true:=hs;exact M0
  ·have ar:¬(k:Int)<(l.length:Int):=Mcu;have HE:Hid (R= -1):=by show _=_;rw[HX.o,partI_end ae]
   exact M0
theorem zcX(l:Parts)(n:ByteArray)(A:Option Addr)(c:Nat)(w:World)(hl:l.length<=1000000000)(hS:Sl w 3 zaa A l):Calls Tryz.prog 13 #[.slice A l.length c,.string n] w (Ret w (zaA (zaf l n))):=by
 have HP:=zHi (fun W (h:Below w.heap.size w W)=>rPart_any l n A c W hl (hS.keep h));rcases zmN l n with⟨h1,h2⟩|⟨i,hi,h1,h2⟩
 ·rw[h1]at HP;rw[h2];clear hS;go_enter Tryz.func13,Tryz.ntmps13
  go_wp2_with (first
   |(go_at_call 33;go_must(refine(HP.o _ Bw).mono ?_);rintro e wq ⟨rfl,rfl⟩)
   |(go_at_call 34;go_must(refine(zis _).mono ?_);rintro e wq ⟨rfl,z,rfl⟩))
  refine bodyPost_ret (v:=zaA 0) ?_ rfl ?_
  ·exact Mch
  ·exact Ret.of rfl Bw
 ·rw[h1]at HP;rw[h2];obtain⟨b,off,rfl,hb,ah⟩:=hS.at hi;generalize l[i]=x at*;obtain⟨nm,q⟩:=x;have i1:w.cell? ⟨b,off+i*3+1,none⟩=some (.int .i64 q.num):=ah 1 _ rfl;have i2:w.cell? ⟨b,off+i*3+2,none⟩=some (.int .i64 q.den):=ah 2 _ rfl;have ar:(i:Int)<(l.length:Int):=Mcu;have aT:(0:Int)<=(i:Int):=Mcu;clear hS ah h1 h2;go_enter Tryz.func13,Tryz.ntmps13
  go_wp2_with (go_at_call 33;go_must(refine(HP.o _ Bw).mono ?_);rintro e wq ⟨rfl,rfl⟩)
  refine bodyPost_ret (v:=zaA q) ?_ rfl ?_
  ·exact Mch
  ·exact Ret.of rfl Bw
