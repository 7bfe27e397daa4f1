/- Walk of the reference's apart. -/
import Derived.Test.YtckkbkdcdkhglaaGreatDoorJQ
set_option linter.unusedSimpArgs false
set_option linter.unusedVariables false
set_option maxRecDepth 100000
set_option maxHeartbeats 4000000
namespace Go.Proofs.YtckkbkdcdkhglaaGreatDoor
open Go.RowKit
theorem zlD (l:Parts) (h: ∀p∈l,0<p.2) (k:Nat):sumQ (l.take k)<=sumQ l:=by
 induction l generalizing k with
 |nil=>simp
 |cons p l ih=>
  cases k with
  |zero=>
   have h1:0<=sumQ l:=by
    have:=ih (fun q hq=>h q MdA) 0;simpa[sumQ]using this
   have:=h p Mco;rw[List.take_zero,sumQ,sumQ];grind
  |succ k=>
   have:=ih (fun q hq=>h q MdA) k;rw[List.take_succ_cons,sumQ,sumQ];grind
structure WillInv (y:(Parts×Bool)×Rat):Prop where
 flag:y.1.2=false
 bd:Bd y.1.1 (1-y.2)
 isN:IsN 720720 y.2
 nn:0<=y.2
 le:y.2<=1
 small:zaK y.2
theorem zkC {s:St} {frm:ByteArray} {l:Parts} (hw:WillOk l) (k:Nat):WillInv (zdg s frm (l.take k) ([],false) 1):=by
 have hp: ∀p∈l.take k,0<p.2:=fun p hp=>hw.pos p (List.mem_of_mem_take hp)
 have hN: ∀p∈l.take k,IsN 720720 p.2:=fun p hp=>hw.isN p (List.mem_of_mem_take hp)
 have h1:=zgu (s:=s) (frm:=frm) (rest:=1) hp hN zd6 Mco;obtain⟨g1,g2,g3,g4,g5⟩:=zih (s:=s) (frm:=frm) (out:=[]) (rest:=1) hp hN (Rat.le_trans (zlD l hw.pos k) hw.le) zd6 Mco (zgT _);rw[h1];have gs:zaE (zcq s frm (l.take k) [] 1).1=false:=zc5 Mcn Mcn g2;have hn:=zbr (fun p hp=>by have:=g1.pos p hp;grind) (l:=(zcq s frm (l.take k) [] 1).1);have aw:sumQ ([]:Parts)=0:=rfl;rw[aw]at g5;have bQ:(zcq s frm (l.take k) [] 1).2<=1:=McO;exact⟨rfl,⟨g1,gs,by grind⟩,g3,g4,bQ,zcb g4 bQ (zev Mcn Mcn g3)⟩
theorem zlE {α:Type} {p q:α->Bool}: ∀ {l:List α},(∀x∈l,p x=true->q x=true)->(∃x∈l,q x=true/\p x=false)->(l.filter p).length<(l.filter q).length
 | [],_,h=>by obtain⟨x,hx,_⟩:=h;cases hx
 |y::l,h1,h2=>by
  have bQ: ∀ {l:List α},(∀x∈l,p x=true->q x=true)->(l.filter p).length<=(l.filter q).length:=by
   intro l;induction l with
   |nil=>intro _;simp
   |cons z l ih=>
    intro h;have:=ih (fun x hx=>h x (by simp[hx]));cases hp:p z
    ·cases hq:q z<;>simp[hp,hq]<;>omega
    ·have hq:=h z Mco hp;simp[hp,hq];omega
  have hl:=bQ (l:=l) (fun x hx=>h1 x (by simp[hx]));obtain⟨x,hx,h3,h4⟩:=h2;rcases List.mem_cons.1 hx with rfl|hx
  ·simp[h3,h4];omega
  ·have:=zlE (l:=l) (fun x hx=>h1 x (by simp[hx])) ⟨x,hx,h3,h4⟩;cases hp:p y
   ·cases hq:q y<;>simp[hp,hq]<;>omega
   ·have hq:=h1 y Mco hp;simp[hp,hq];omega
open Classical in
noncomputable def zlF (s:St) (n:ByteArray):Nat:=(s.children.filter fun e=>decide (e.1=n\/Desc s n e.1)).length
theorem zmS {s:St} (ha: ∀a,¬Desc s a a) {n c:ByteArray} (hc:c∈zai s n):zlF s c<zlF s n:=by
 unfold zlF;have hd:=zfy hc;refine zlE (fun e _ h=> ?_) ⟨(n,c),zdr.1 hc,by simp,?_⟩
 ·simp only[decide_eq_true_eq]at h⊢;rcases h with h|h
  ·right;rw[h];exact hd
  ·right;exact zgP hd h
 ·simp only[decide_eq_false_iff_not,not_or];refine⟨fun e=> ?_,fun h=> ?_⟩
  ·have JB:Desc s n n:=by
    have:=hd;rw[<-show n=c from e]at this;exact this
   exact ha n JB
  ·exact ha n (zgP hd h)
theorem deep_of {s:St} (ha: ∀a,¬Desc s a a): ∀(f:Nat) (n:ByteArray),zlF s n<f->Deep s f n
 |0,_,h=>by omega
 |f+1,n,h=>fun c hc=>deep_of ha f c (by have:=zmS ha hc;omega)
theorem zkD {s:St} (ha: ∀a,¬Desc s a a) (n:ByteArray):Deep s (zaW s) n:=deep_of ha _ n (by
 unfold zaW zlF
 exact Nat.lt_succ_of_le (List.length_filter_le _ _))
theorem part_big {q:Rat} (h0:0<q) (hb:bigQ q=false):1<=(1000000000:Rat)*q:=by
 unfold bigQ at hb;have hd:(q.den:Int)<=1000000000:=by simpa using hb
 have hz:((q.den:Int):Rat)≠0:=ratI (by have:=q.den_pos;omega);have h1:q=q.num/((q.den:Int):Rat):=by rw[<-Rat.divInt_eq_div,Rat.num_divInt_den]
 have pg:q*((q.den:Int):Rat)=q.num:=by
  have:=Rat.div_mul_cancel (a:=(q.num:Rat)) hz;rw[<-h1]at this;exact this
 have hq:0<q.num:=Mdv;have h2:((1:Int):Rat)<=(q.num:Rat):=Rat.intCast_le_intCast.2 hq;have h3:((q.den:Int):Rat)<=((1000000000:Int):Rat):=Rat.intCast_le_intCast.2 hd;have h4:=Rat.mul_le_mul_of_nonneg_left h3 (show(0:Rat)<=q by grind);rw[pg]at h4;have e1:((1:Int):Rat)=1:=rfl;have e2:((1000000000:Int):Rat)=1000000000:=rfl;rw[e1]at h2;rw[e2]at h4;grind
theorem zlG: ∀ {l:Parts},(∀p∈l,0<p.2)->zaE l=false->(l.length:Rat)<=1000000000*sumQ l
 | [],_,_=>by
   have:((([]:Parts).length:Nat):Rat)=0:=rfl;rw[this,sumQ];grind
 |p::l,h1,h2=>by
  unfold zaE at h2;rw[List.any_cons,Bool.or_eq_false_iff]at h2;have h3:=part_big (h1 p Mco) h2.1;have h4:=zlG (l:=l) (fun q hq=>h1 q MdA) h2.2;rw[List.length_cons,zgz,sumQ];grind
theorem Bd.len {out:Parts} {t:Rat} (h:Bd out t) (ht:t<=1):out.length<=1000000000:=by
 have h1:=zlG h.good.pos h.small;have h2:=h.le;have h3:((out.length:Int):Rat)<=((1000000000:Int):Rat):=by
  have e2:((1000000000:Int):Rat)=1000000000:=rfl;rw[e2,Rat.intCast_natCast];grind
 have:=Rat.intCast_le_intCast.1 h3;omega
end Go.Proofs.YtckkbkdcdkhglaaGreatDoor
namespace Go.Proofs.YtckkbkdcdkhglaaGreatDoor
open Go.RowKit Go.Shelf
attribute [local go_sem] World.cell?_alloc_mark zag za5 zaq za8 zaw zax zay zaz za0 za1 za2
attribute [local go_sem] zap zad
def zhw:List Rec->List Rec->Bool
 |_,[]=>false
 |pre,a::r=>pre.any (fun b=>zbC a b)||zhw (pre++[a]) r
theorem zlH: ∀(l pre:List Rec),zhw pre l=((l.any fun a=>pre.any fun b=>zbC a b)||zkh l)
 | [],pre=>by simp[zhw,zkh]
 |a::r,pre=>by
  rw[zhw,zlH r (pre++[a]),zkh,List.any_cons];have h:(r.any fun a'=>(pre++[a]).any fun b=>zbC a' b)=((r.any fun a'=>pre.any fun b=>zbC a' b)||r.any fun y=>zbC y a):=by
   induction r with
   |nil=>rfl
   |cons x r ih=>
    rw[List.any_cons,List.any_cons,List.any_cons,ih,List.any_append,List.any_cons,List.any_nil,Bool.or_false];cases pre.any (fun b=>zbC x b)<;>cases zbC x a<;>cases(r.any fun a'=>pre.any fun b=>zbC a' b)<;>rfl
  rw[h];cases pre.any (fun b=>zbC a b)<;>cases(r.any fun a'=>pre.any fun b=>zbC a' b)<;>cases(r.any fun y=>zbC y a)<;>simp
theorem sl_take5 {α:Type} {w:World} {size:Nat} {f:α->List Value} {A:Option Addr} {xs:List α} (h:Sl w size f A xs) (k:Nat):Sl w size f A (xs.take k):=fun hl=>by
 obtain⟨b,off,hA,hb,hc⟩:=h (by rw[List.length_take]at hl;omega);refine⟨b,off,hA,hb,fun j x hx=>hc j x ?_⟩;rw[List.getElem?_take]at hx;split at hx
 ·exact hx
 ·cases hx
theorem conC_any (a b:Rec) (P:Nat) (w:World) (ha:0<=a.kind/\a.kind<=4) (hb:0<=b.kind/\b.kind<=4) (hP:w.heap[P]?=some (recO a)):Calls Tryz.prog 92 #[b.v, .pointer (some ⟨P,0,none⟩)] w (Ret w (.bool (zbC a b))):=by
 have HA:=zHi (fun W=>zmI a b W ha hb);generalize zbC a b=r at*;obtain⟨kd,nm,ot,pl,dy,tl,nu,de⟩:=a;obtain⟨kd2,nm2,ot2,pl2,dy2,tl2,nu2,de2⟩:=b;have hl:=zab hP;have hn:P≠w.heap.size:=Mcl;unfold recO at hP;obtain⟨c0,c1,c2,c3,c4,c5,c6,c7⟩:=cF8 hP;clear hP ha hb;unfold Rec.v at HA⊢;go_enter Tryz.func92,Tryz.ntmps92
 go_wp2_with (go_at_call 93;go_must(refine(HA.o _).mono ?_);rintro e wq ⟨rfl,z,rfl⟩)
 go_ret
 exact Ret.of rfl Bw
theorem zjo (l:List Rec) (A:Option Addr) (c:Nat) (ci tm:Bool) (w:World) (hc:l.length<=c) (hl:l.length<=1000) (hk: ∀x∈l,0<=x.kind/\x.kind<=4) (hS:Sl w 8 Rec.cells A l)
 (tI: ∀W,Below w.heap.size w W->Calls Tryz.prog 94 #[.slice A l.length c] W (Ret W (.bool ci))) (oR: ∀W,Below w.heap.size w W->Calls Tryz.prog 95 #[.slice A l.length c] W (Ret W (.bool tm))):
 Calls Tryz.prog 53 #[.slice A l.length c] w (Ret w (.bool (zkh l||ci||tm))):=by
 have eg: ∀args w,(callFunc 92 args).run Tryz.prog w= .ok (.enter 92 args) w:=enters_of Tryz.func92 Mcm rfl;have He:=zHi eg;have HS:=zHi hS;have HK:=zHi hk;have DP:=zHi tI;have Ee:=zHi oR;have iX:zkh l=zhw (l.take 0) (l.drop 0):=by rw[List.take_zero,List.drop_zero,zlH];simp
 generalize zkh l=R at*;have HP:=zHi iX;clear hS hk tI oR eg iX;go_enter Tryz.func53,Tryz.ntmps53
 go_wp2_with fail
 go_loopw [7] (fun i wr=> ∃k:Nat,k<=l.length/\i= .int .i64 k/\Hid (R=zhw (l.take k) (l.drop k))/\Below w.heap.size w wr) (fun i _=>l.length-(intOf i).toNat)
 case atStart=>exact⟨0,Nat.zero_le _,rfl,HP.o,Below.refl _ _⟩
 case round=>
  obtain⟨k,hk,rfl,HX,hB⟩:=hrel;have HB:=zHi hB;have aK:=hB.size;by_cases aa:k<l.length
  ·have hx:=HX.o;rw[List.drop_eq_getElem_cons aa,zhw,<-List.take_succ_eq_append_getElem aa]at hx;have wE: ∀W,Below wr.heap.size wr W->W.heap[wr.heap.size]?=some (recO l[k])->Calls Tryz.prog 91 #[.slice A k c, .func (.func 92) #[] #[.pointer (some ⟨wr.heap.size,0,none⟩)]] W (Ret W (.bool ((l.take k).any fun b=>zbC l[k] b))):=fun W hW hP=>by
    refine cfRec_any 92 _ He.o _ A k c (l.take k) W Mc6 Mc6 ((sl_take5 HS.o k).keep (HB.o.trans (hW.mono aK))) fun x hx W' oo=> ?_
    refine(conC_any l[k] x wr.heap.size W' (HK.o _ (List.getElem_mem aa)) (HK.o x (List.mem_of_mem_take hx)) ((oo.block _ (zab hP)).trans hP)).mono ?_;rintro e wq ⟨rfl,z,rfl⟩;exact⟨rfl,oo.trans ((zam W' z).mono oo.size)⟩
   obtain⟨b,off,hA,hb,ah⟩:=(HS.o.keep hB).at aa;have au:=zHi hx;have sN:=zHi wE;have aq:=zHi aa;generalize l[k]=x at*;generalize((l.take k).any fun b=>zbC x b)=an at*;obtain⟨kd,nm,ot,pl,dy,tl,nu,de⟩:=x;have i0:wr.cell? ⟨b,off+k*8,none⟩=some (.int .i64 kd):=ah 0 _ rfl;have i1:wr.cell? ⟨b,off+k*8+1,none⟩=some (.string nm):=ah 1 _ rfl;have i2:wr.cell? ⟨b,off+k*8+2,none⟩=some (.string ot):=ah 2 _ rfl;have i3:wr.cell? ⟨b,off+k*8+3,none⟩=some (.string pl):=ah 3 _ rfl;have i4:wr.cell? ⟨b,off+k*8+4,none⟩=some (.int .i64 dy):=ah 4 _ rfl;have i5:wr.cell? ⟨b,off+k*8+5,none⟩=some (.int .i64 tl):=ah 5 _ rfl;have i6:wr.cell? ⟨b,off+k*8+6,none⟩=some (.int .i64 nu):=ah 6 _ rfl;have i7:wr.cell? ⟨b,off+k*8+7,none⟩=some (.int .i64 de):=ah 7 _ rfl;have ar:(k:Int)<(l.length:Int):=Mcl;have aT:(0:Int)<=(k:Int):=Mcl;have fN:(k:Int)<=(c:Int):=Mcl;subst hA;clear ah hx wE HX hB;cases an
   ·go_wp2_with (go_at_call 91;go_must(refine(sN.o _ Bw (zar _ _ _ rfl)).mono ?_);rintro e wq ⟨rfl,z,rfl⟩)
    go_round
    case rel=>exact⟨k+1,aq.o,by go_num,by show _=_;rw[au.o,Bool.false_or],HB.o.trans (Below.mono (B:=wr.heap.size) Bw aK)⟩
    case measure=>have:=aq.o;simp only[intOf];omega
   ·have cm:Hid (R=true):=by show _=_;rw[au.o,Bool.true_or]
    go_wp2_with (go_at_call 91;go_must(refine(sN.o _ Bw (zar _ _ _ rfl)).mono ?_);rintro e wq ⟨rfl,z,rfl⟩)
    exact MaE
  ·have ar: ¬(k:Int)<(l.length:Int):=Mcl;have hx:=HX.o;rw[List.drop_eq_nil_of_le Mcl,zhw]at hx;have cm:Hid (R=false):=hx;clear hx;have tI:=fun W (hW:Below wr.heap.size wr W)=>DP.o W (hB.trans (hW.mono aK))
   have oR:=fun W (hW:Below wr.heap.size wr W)=>Ee.o W (hB.trans (hW.mono aK))
   have ur:=zHi tI;have Ik:=zHi oR;clear tI oR hB DP Ee;cases ci
   ·go_wp2_with (first
     |(go_at_call 94;go_must(refine(ur.o _ Bw).mono ?_);rintro e wq ⟨rfl,z,rfl⟩)
     |(go_at_call 95;go_must(refine(Ik.o _ Bw).mono ?_);rintro e wq2 ⟨rfl,z2,rfl⟩))
    exact MaE
   ·go_wp2_with (go_at_call 94;go_must(refine(ur.o _ Bw).mono ?_);rintro e wq ⟨rfl,z,rfl⟩)
    exact MaE
theorem rMulI (a b c d:Int) (w:World) (ha:a.natAbs<=1000000000) (hb:b.natAbs<=1000000000) (hc:c.natAbs<=1000000000) (hd:d.natAbs<=1000000000) (ba:0<b) (iw:0<d) (_h:True):Calls Tryz.prog 42 #[.agg #[.int .i64 a, .int .i64 b], .agg #[.int .i64 c, .int .i64 d]] w (Ret w (za9 (Rat.divInt (a*c) (b*d)))):=by
 have m1:=zaN ha hd;have m2:=zaN hc hb;have m3:=zaN hb hd;have m4:0<b*d:=Int.mul_pos ba iw;obtain⟨m1,n1⟩:=m1;obtain⟨m2,n2⟩:=m2;obtain⟨m3,n3⟩:=m3;have w1:IntKind.i64.wrap (a*d)=a*d:=IntWalk.i64_in _ Mcl;have w2:IntKind.i64.wrap (c*b)=c*b:=IntWalk.i64_in _ Mcl;have w3:IntKind.i64.wrap (b*d)=b*d:=IntWalk.i64_in _ Mcl;have m5:=zaN ha hc;obtain⟨m5,n5⟩:=m5;have m6:=zaN hb hc;obtain⟨m6,n6⟩:=m6;have w5:IntKind.i64.wrap (a*c)=a*c:=IntWalk.i64_in _ Mcl;have w6:IntKind.i64.wrap (b*c)=b*c:=IntWalk.i64_in _ Mcl;have hs:(a*c).natAbs<=4611686018427387904:=Mcl;have hl:(b*d)<=4611686018427387904:=Mcl;have h4:0<(b*d):=m4;have HS:=zHi hs;have HL:=zHi hl;have H4:=zHi h4;clear hs hl m4 h4 ha hb hc hd;go_enter Tryz.func42,Tryz.ntmps42
 go_wp2_with (go_at_call 80;go_must(refine(zeE _ _ _ HS.o H4.o HL.o).mono ?_);rintro e w1 ⟨rfl,z1,rfl⟩;simp only[za9])
 refine bodyPost_ret (v:=za9 (Rat.divInt (a*c) (b*d))) ?_ rfl ?_
 ·exact Mam
 ·exact Ret.of rfl Bw
theorem zg6 (p q:Rat) (w:World) (ct:zaK p) (dO:zaK q):Calls Tryz.prog 42 #[za9 p,za9 q] w (Ret w (za9 (p*q))):=by
 rw[zgM];exact rMulI _ _ _ _ _ ct.1 (by have:=ct.2;omega) dO.1 (by have:=dO.2;omega) (zbU p) (zbU q) trivial
def zh4 (l:Parts) (n:ByteArray) (k:Nat):Int:=match(l.drop k).findIdx? fun p=>zae p.1 n with
 |none=> -1
 |some i=>((k+i:Nat):Int)
theorem zoE {l:Parts} {n:ByteArray} {k:Nat} (h:k<l.length):zh4 l n k=if zae l[k].1 n then(k:Int)else zh4 l n (k+1):=by
 unfold zh4;rw[List.drop_eq_getElem_cons h,List.findIdx?_cons];cases hs:zae l[k].1 n
 ·rw[if_neg Mco,if_neg Mco];cases(l.drop (k+1)).findIdx? fun p=>zae p.1 n with
  |none=>rfl
  |some i=>
   simp only[Option.map_some];omega
 ·rw[if_pos rfl,if_pos rfl];simp
theorem partI_end {l:Parts} {n:ByteArray} {k:Nat} (h: ¬k<l.length):zh4 l n k= -1:=by
 unfold zh4;rw[List.drop_of_length_le Mcl];rfl
theorem zmT (l:Parts) (n:ByteArray):(zh4 l n 0= -1/\zaf l n=0)\/ ∃(i:Nat) (h:i<l.length),zh4 l n 0=(i:Int)/\zaf l n=l[i].2:=by
 unfold zh4 zaf;rw[List.drop_zero];cases hx:l.findIdx? fun p=>zae p.1 n with
 |none=>
  refine .inl ⟨rfl,?_⟩;rw[List.findIdx?_eq_none_iff]at hx;have:l.find? (fun p=>zae p.1 n)=none:=by
   rw[List.find?_eq_none];intro p hp;rw[hx p hp];simp
  rw[this];rfl
 |some i=>
  rw[List.findIdx?_eq_some_iff_getElem]at hx;obtain⟨hi,h1,h2⟩:=hx;refine .inr ⟨i,hi,by simp,?_⟩;have:l.find? (fun p=>zae p.1 n)=some l[i]:=by
   rw[List.find?_eq_some_iff_getElem];exact⟨h1,i,hi,rfl,fun j hj=>by simpa using h2 j hj⟩
  rw[this];rfl
theorem rPart_any (l:Parts) (n:ByteArray) (A:Option Addr) (c:Nat) (w:World) (hl:l.length<=1000000000) (hS:Sl w 3 zaa A l):Calls Tryz.prog 181 #[.slice A l.length c, .string n] w (Ret0 w (.int .i64 (zh4 l n 0))):=by
 have HS:=zHi hS;obtain⟨R,hR⟩: ∃R,R=zh4 l n 0:=⟨_,rfl⟩
 rw[<-hR];have HR:=zHi hR;clear hS hR;go_enter Tryz.func181,Tryz.ntmps181
 go_upto_region 2 with fail
 go_loopw [5] (fun i wr=> ∃k:Nat,k<=l.length/\i= .int .i64 k/\w=wr/\Hid (R=zh4 l n k)) (fun i _=>l.length-(intOf i).toNat)
 case atStart=>exact⟨0,Nat.zero_le _,rfl,rfl,HR.o⟩
 case round=>
  obtain⟨k,hk,rfl,rfl,HX⟩:=hrel;by_cases aa:k<l.length
  ·obtain⟨b,off,rfl,hb,ah⟩:=HS.o.at aa;have hx:=HX.o;rw[zoE aa]at hx;have au:=zHi hx;have aq:=zHi aa;generalize l[k]=x at*;obtain⟨nm,q⟩:=x;have i0:w.cell? ⟨b,off+k*3,none⟩=some (.string nm):=ah 0 _ rfl;have ar:(k:Int)<(l.length:Int):=Mcl;have aT:(0:Int)<=(k:Int):=Mcl;clear ah hx aa;cases hs:zae nm n
   ·have HE:Hid (R=zh4 l n (k+1)):=by show _=_;rw[au.o,hs];rfl
    have br:(nm.toList==n.toList)=false:=hs;go_wp2_with fail
    exact MH
   ·have HE:Hid (R=(k:Int)):=by show _=_;rw[au.o,hs];rfl
    have br:(nm.toList==n.toList)=true:=hs;exact Maa
  ·have ar: ¬(k:Int)<(l.length:Int):=Mcl;have HE:Hid (R= -1):=by show _=_;rw[HX.o,partI_end aa]
   exact Maa
theorem zfk (l:Parts) (n:ByteArray) (A:Option Addr) (c:Nat) (w:World) (hl:l.length<=1000000000) (hS:Sl w 3 zaa A l):Calls Tryz.prog 165 #[.slice A l.length c, .string n] w (Ret w (za9 (zaf l n))):=by
 have HP:=zHi (fun W (h:Below w.heap.size w W)=>rPart_any l n A c W hl (hS.keep h));rcases zmT l n with⟨h1,h2⟩|⟨i,hi,h1,h2⟩
 ·rw[h1]at HP;rw[h2];clear hS;go_enter Tryz.func165,Tryz.ntmps165
  go_wp2_with (first
   |(go_at_call 181;go_must(refine(HP.o _ Bw).mono ?_);rintro e wq ⟨rfl,rfl⟩)
   |(go_at_call 78;go_must(refine(ziE _).mono ?_);rintro e wq ⟨rfl,z,rfl⟩))
  refine bodyPost_ret (v:=za9 0) ?_ rfl ?_
  ·exact Mca
  ·exact Ret.of rfl Bw
 ·rw[h1]at HP;rw[h2];obtain⟨b,off,rfl,hb,ah⟩:=hS.at hi;generalize l[i]=x at*;obtain⟨nm,q⟩:=x;have i1:w.cell? ⟨b,off+i*3+1,none⟩=some (.int .i64 q.num):=ah 1 _ rfl;have i2:w.cell? ⟨b,off+i*3+2,none⟩=some (.int .i64 q.den):=ah 2 _ rfl;have ar:(i:Int)<(l.length:Int):=Mcl;have aT:(0:Int)<=(i:Int):=Mcl;clear hS ah h1 h2;go_enter Tryz.func165,Tryz.ntmps165
  go_wp2_with (go_at_call 181;go_must(refine(HP.o _ Bw).mono ?_);rintro e wq ⟨rfl,rfl⟩)
  refine bodyPost_ret (v:=za9 q) ?_ rfl ?_
  ·exact Mca
  ·exact Ret.of rfl Bw
theorem zlI (a b:ByteArray):zae a b=zae b a:=by rw[Bool.eq_iff_iff,zat,zat];exact⟨Eq.symm,Eq.symm⟩
theorem zoF (l:List RPart) (frm:ByteArray) (A:Option Addr) (c:Nat) (w:World) (hl:l.length<=1000000) (hS:Sl w 3 RPart.cells A l):Calls Tryz.prog 130 #[.slice A l.length c, .string frm] w (Ret w (.bool (zdx l frm 0))):=by
 have HS:=zHi hS;obtain⟨R,hR⟩: ∃R,R=zdx l frm 0:=⟨_,rfl⟩
 rw[<-hR];have HR:=zHi hR;clear hS hR;go_enter Tryz.func130,Tryz.ntmps130
 go_upto_region 2 with fail
 go_loopw [5,6] (fun i _ wr=> ∃k:Nat,k<=l.length/\i= .int .i64 k/\Hid (R=zdx l frm k)/\Below w.heap.size w wr) (fun i _ _=>l.length-(intOf i).toNat)
 case atStart=>exact⟨0,Nat.zero_le _,rfl,HR.o,Below.refl _ _⟩
 case round=>
  obtain⟨k,hk,rfl,HX,hB⟩:=hrel;obtain⟨WR,ov⟩: ∃WR,WR=wr:=⟨_,rfl⟩
  subst ov;have HB:=zHi hB;by_cases aa:k<l.length
  ·have hx:=HX.o;rw[zo6 aa]at hx;have au:=zHi hx;have aq:=zHi aa;have ar:(k:Int)<(l.length:Int):=Mcl;have aT:(0:Int)<=(k:Int):=Mcl;clear hx hB;go_upto_region 5 with fail
   go_loopw [6] (fun v6 wr=> ∃j:Nat,j<=k/\v6= .int .i64 j/\Hid (R=(!clash l (l[k]'aa).name j k&&(!zae (l[k]'aa).name frm&&zdx l frm (k+1))))/\Below w.heap.size w wr) (fun v6 _=>k-(intOf v6).toNat)
   case atStart=>exact⟨0,Nat.zero_le _,rfl,au.o,HB.o⟩
   case round=>
    obtain⟨j,hj,rfl,HY,gA⟩:=hrel;have fI:=zHi gA;have oU:=gA.size;have xj:=(HS.o.keep gA).at aa;by_cases hjk:j<k
    ·have d9:j<l.length:=Mcl;have hy:=HY.o;rw[zo7 hjk aa]at hy;obtain⟨b,off,hA,hb,ah⟩:=xj;obtain⟨b2,off2,lZ,_,wB⟩:=(HS.o.keep gA).at d9;obtain⟨rfl,rfl⟩:b=b2/\off=off2:=by rw[hA]at lZ;simpa using lZ
     have i1:wr.cell? ⟨b,off+k*3,none⟩=some (.string (l[k]'aa).name):=ah 0 _ rfl;have i0:wr.cell? ⟨b,off+j*3,none⟩=some (.string (l[j]'d9).name):=wB 0 _ rfl;have vr:=zHi hy;have DX:=zHi hjk;have CT:(j:Int)<(k:Int):=Mcl;have tQ:(0:Int)<=(j:Int):=Mcl;have K0:(j:Int)<(l.length:Int):=Mcl;clear ah wB lZ hy gA;subst hA;go_upto_region 7 with fail
     generalize cD:(l[k]'aa).name=n1 at*;generalize(l[j]'d9).name=n0 at*;cases hs:zae n0 n1
     ·have br:(n0.toList==n1.toList)=false:=hs;have iI:zae n1 n0=false:=by rw[zlI];exact hs
      have HE:Hid (R=(!clash l n1 (j+1) k&&(!zae n1 frm&&zdx l frm (k+1)))):=by show _=_;rw[vr.o,iI];rfl
      (refine zaj Mcm Mcm ?_
       repeat(first|go_big_quiet_skip|(go_big_quiet_want;go_big_quiet_op;first|go_big_quiet_on|(apply Exists.intro;refine⟨fun _=> ?_,?_⟩;(fail);go_big_quiet_on)))
       refine wpQuiet_nil ?_
       rintro _ ⟨zq,rfl⟩)
      go_wp2_with fail
      go_round
      case rel=>exact⟨j+1,DX.o,by go_num,by(first|exact HE|(rw[cD];exact HE)),zbc fI.o zq⟩
      case measure=>have:=DX.o;simp only[intOf];omega
     ·have br:(n0.toList==n1.toList)=true:=hs;have iI:zae n1 n0=true:=by rw[zlI];exact hs
      have HE:Hid (R=false):=by show _=_;rw[vr.o,iI];rfl
      (refine zaj Mcm Mcm ?_
       repeat(first|go_big_quiet_skip|(go_big_quiet_want;go_big_quiet_op;first|go_big_quiet_on|(apply Exists.intro;refine⟨fun _=> ?_,?_⟩;(fail);go_big_quiet_on)))
       refine wpQuiet_nil ?_
       rintro _ ⟨zq,rfl⟩)
      go_wp2_with fail
      go_ret
      exact Ret.of (zaP HE.o.symm) (zbc fI.o zq)
    ·have CT: ¬(j:Int)<(k:Int):=Mcl;have hy:=HY.o;rw[clash_end hjk]at hy;obtain⟨b,off,rfl,hb,ah⟩:=xj;have vr:=zHi hy;have i1:wr.cell? ⟨b,off+k*3,none⟩=some (.string (l[k]'aa).name):=ah 0 _ rfl;clear ah hy gA hjk hj au;generalize(l[k]'aa).name=n1 at*;cases hs:zae n1 frm
     ·have br:(n1.toList==frm.toList)=false:=hs;have HE:Hid (R=zdx l frm (k+1)):=by show _=_;rw[vr.o,hs];simp
      go_wp2_with fail
      go_round
      case rel=>exact⟨k+1,aq.o,by go_num,HE.o,fI.o⟩
      case measure=>have:=aq.o;simp only[intOf];omega
     ·have br:(n1.toList==frm.toList)=true:=hs;have HE:Hid (R=false):=by show _=_;rw[vr.o,hs];simp
      go_wp2_with fail
      go_ret
      exact Ret.of (zaP HE.o.symm) fI.o
  ·have ar: ¬(k:Int)<(l.length:Int):=Mcl;have HE:Hid (R=true):=by show _=_;rw[HX.o];unfold zdx;rw[List.drop_of_length_le Mcl];rfl
   clear hB;exact MU
end Go.Proofs.YtckkbkdcdkhglaaGreatDoor
