import Derived.Test.YtbobmplpdmplkaaGreatDoorRF
set_option linter.all false
set_option maxRecDepth 100000
set_option maxHeartbeats 4000000
namespace Go.Proofs.YtbobmplpdmplkaaGreatDoor
open Go.RowKit
attribute [local go_sem] World.cell?_alloc_mark zaf za4 zam za7 zaw zax zay zaz za0 za1 za2
attribute [local go_sem] zan zac
section
open Go.Shelf
def zhs:List Rec->List Rec->Bool
 |_,[]=>false
 |pre,a::r=>pre.any (fun b=>zbF a b)||zhs (pre++[a]) r
theorem zl5:∀(l pre:List Rec),zhs pre l=((l.any fun a=>pre.any fun b=>zbF a b)||zjY l)
 | [],pre=>by simp[zhs,zjY]
 |a::r,pre=>by
  rw[zhs,zl5 r (pre++[a]),zjY,List.any_cons];have h:(r.any fun a'=>(pre++[a]).any fun b=>zbF a' b)=((r.any fun a'=>pre.any fun b=>zbF a' b)||r.any fun y=>zbF y a):=by
   induction r with
   |nil=>rfl
   |cons x r ih=>
    rw[List.any_cons,List.any_cons,List.any_cons,ih,List.any_append,List.any_cons,List.any_nil,Bool.or_false];cases pre.any (fun b=>zbF x b)<;>cases zbF x a<;>cases(r.any fun a'=>pre.any fun b=>zbF a' b)<;>rfl
  rw[h];cases pre.any (fun b=>zbF a b)<;>cases(r.any fun a'=>pre.any fun b=>zbF a' b)<;>cases(r.any fun y=>zbF y a)<;>simp
theorem sl_take5{α:Type}{w:World}{size:Nat}{f:α->List Value}{A:Option Addr}{xs:List α}(h:Sl w size f A xs)(k:Nat):Sl w size f A (xs.take k):=fun hl=>by
 obtain⟨b,off,hA,hb,hc⟩:=h (by rw[List.length_take]at hl;omega);refine⟨b,off,hA,hb,fun j x hx=>hc j x ?_⟩;rw[List.getElem?_take]at hx;split at hx
 ·exact hx
 ·cases hx
theorem conC_any(a b:Rec)(P:Nat)(w:World)(ha:0<=a.kind/\a.kind<=4)(hb:0<=b.kind/\b.kind<=4)(hP:w.heap[P]?=some (recO a)):Calls Tryz.prog 82 #[b.v,.pointer (some ⟨P,0,none⟩)] w (Ret w (.bool (zbF a b))):=by
 have HA:=zHi (fun W=>zmC a b W ha hb);generalize zbF a b=r at*;obtain⟨kd,nm,ot,pl,dy,tl,nu,de⟩:=a;obtain⟨kd2,nm2,ot2,pl2,dy2,tl2,nu2,de2⟩:=b;have hl:=zab hP;have hn:P≠w.heap.size:=Mcy;unfold recO at hP;obtain⟨c0,c1,c2,c3,c4,c5,c6,c7⟩:=cF8 hP;clear hP ha hb;unfold Rec.v at HA⊢;go_enter Tryz.func82,Tryz.ntmps82
 go_wp2_with (go_at_call 83;go_must(refine(HA.o _).mono ?_);rintro e wq ⟨rfl,z,rfl⟩)
 go_ret
 exact Ret.of rfl Bw
theorem zjn(l:List Rec)(A:Option Addr)(c:Nat)(ci tm:Bool)(w:World)(hc:l.length<=c)(hl:l.length<=1000)(hk:∀x∈l,0<=x.kind/\x.kind<=4)(hS:Sl w 8 Rec.cells A l)
 (oC:∀W,Below w.heap.size w W->Calls Tryz.prog 84 #[.slice A l.length c] W (Ret W (.bool ci)))(oX:∀W,Below w.heap.size w W->Calls Tryz.prog 85 #[.slice A l.length c] W (Ret W (.bool tm))):
 Calls Tryz.prog 56 #[.slice A l.length c] w (Ret w (.bool (zjY l||ci||tm))):=by
 have eg:∀args w,(callFunc 82 args).run Tryz.prog w=.ok (.enter 82 args) w:=enters_of Tryz.func82 Mcz rfl;obtain⟨Hv,HS,HK,DR,Eo⟩:=yH5 eg hS hk oC oX;have iL:zjY l=zhs (l.take 0) (l.drop 0):=by rw[List.take_zero,List.drop_zero,zl5];simp
 generalize zjY l=R at*;have HP:=zHi iL;clear hS hk oC oX eg iL;go_enter Tryz.func56,Tryz.ntmps56
 go_wp2_with fail
 go_loopw [7] (fun i wr=>∃k:Nat,k<=l.length/\i=.int .i64 k/\Hid (R=zhs (l.take k) (l.drop k))/\Below w.heap.size w wr) (fun i _=>l.length-(intOf i).toNat)
 case atStart=>exact⟨0,Nat.zero_le _,rfl,HP.o,Below.refl _ _⟩
 case round=>
  obtain⟨k,hk,rfl,HX,hB⟩:=hrel;have HB:=zHi hB;have aG:=hB.size;by_cases ae:k<l.length
  ·have hx:=HX.o;rw[List.drop_eq_getElem_cons ae,zhs,<-List.take_succ_eq_append_getElem ae]at hx;have wF:∀W,Below wr.heap.size wr W->W.heap[wr.heap.size]?=some (recO l[k])->Calls Tryz.prog 81 #[.slice A k c,.func (.func 82) #[] #[.pointer (some ⟨wr.heap.size,0,none⟩)]] W (Ret W (.bool ((l.take k).any fun b=>zbF l[k] b))):=fun W hW hP=>by
    refine cfRec_any 82 _ Hv.o _ A k c (l.take k) W Mdg Mdg ((sl_take5 HS.o k).keep (HB.o.trans (hW.mono aG))) fun x hx W' pD=>?_
    refine(conC_any l[k] x wr.heap.size W' (HK.o _ (List.getElem_mem ae)) (HK.o x (List.mem_of_mem_take hx)) ((pD.block _ (zab hP)).trans hP)).mono ?_;rintro e wq ⟨rfl,z,rfl⟩;exact⟨rfl,pD.trans ((zaq W' z).mono pD.size)⟩
   obtain⟨b,off,hA,hb,ah⟩:=(HS.o.keep hB).at ae;obtain⟨au,t8,ak⟩:=yH3 hx wF ae;generalize l[k]=x at*;generalize((l.take k).any fun b=>zbF x b)=an at*;obtain⟨kd,nm,ot,pl,dy,tl,nu,de⟩:=x;have i0:wr.cell? ⟨b,off+k*8,none⟩=some (.int .i64 kd):=ah 0 _ rfl;have i1:wr.cell? ⟨b,off+k*8+1,none⟩=some (.string nm):=ah 1 _ rfl;have i2:wr.cell? ⟨b,off+k*8+2,none⟩=some (.string ot):=ah 2 _ rfl;have i3:wr.cell? ⟨b,off+k*8+3,none⟩=some (.string pl):=ah 3 _ rfl;have i4:wr.cell? ⟨b,off+k*8+4,none⟩=some (.int .i64 dy):=ah 4 _ rfl;have i5:wr.cell? ⟨b,off+k*8+5,none⟩=some (.int .i64 tl):=ah 5 _ rfl;have i6:wr.cell? ⟨b,off+k*8+6,none⟩=some (.int .i64 nu):=ah 6 _ rfl;have i7:wr.cell? ⟨b,off+k*8+7,none⟩=some (.int .i64 de):=ah 7 _ rfl;have ar:(k:Int)<(l.length:Int):=Mcy;have aQ:(0:Int)<=(k:Int):=Mcy;have fq:(k:Int)<=(c:Int):=Mcy;subst hA;clear ah hx wF HX hB;cases an
   ·go_wp2_with (go_at_call 81;go_must(refine(t8.o _ Bw (zar _ _ _ rfl)).mono ?_);rintro e wq ⟨rfl,z,rfl⟩)
    go_round
    case rel=>exact⟨k+1,ak.o,by go_num,by show _=_;rw[au.o,Bool.false_or],HB.o.trans (Below.mono (B:=wr.heap.size) Bw aG)⟩
    case measure=>have:=ak.o;simp only[intOf];omega
   ·have ck:Hid (R=true):=by show _=_;rw[au.o,Bool.true_or]
    go_wp2_with (go_at_call 81;go_must(refine(t8.o _ Bw (zar _ _ _ rfl)).mono ?_);rintro e wq ⟨rfl,z,rfl⟩)
    exact Max
  ·have ar:¬(k:Int)<(l.length:Int):=Mcy;have hx:=HX.o;rw[List.drop_eq_nil_of_le Mcy,zhs]at hx;have ck:Hid (R=false):=hx;clear hx;have oC:=fun W (hW:Below wr.heap.size wr W)=>DR.o W (hB.trans (hW.mono aG))
   have oX:=fun W (hW:Below wr.heap.size wr W)=>Eo.o W (hB.trans (hW.mono aG))
   obtain⟨uv,ID⟩:=yH2 oC oX;clear oC oX hB DR Eo;cases ci
   ·go_wp2_with (first
     |(go_at_call 84;go_must(refine(uv.o _ Bw).mono ?_);rintro e wq ⟨rfl,z,rfl⟩)
     |(go_at_call 85;go_must(refine(ID.o _ Bw).mono ?_);rintro e wq2 ⟨rfl,z2,rfl⟩))
    exact Max
   ·go_wp2_with (go_at_call 84;go_must(refine(uv.o _ Bw).mono ?_);rintro e wq ⟨rfl,z,rfl⟩)
    exact Max
end
theorem rAbs_any(n:Int)(w:World)(h:n.natAbs<=4611686018427387904):Calls Tryz.prog 162 #[.int .i64 n] w (Ret0 w (.int .i64 (n.natAbs:Int))):=by
 have h0: -4611686018427387904<=n:=Mcy;have h1:n<=4611686018427387904:=Mcy;have hw:IntKind.i64.wrap (-n)= -n:=Mda;clear h;go_enter Tryz.func162,Tryz.ntmps162
 by_cases h:n<0
 ·go_wp2_with fail
  go_ret
  exact⟨by rw[show((n.natAbs:Nat):Int)= -n by omega];first|rfl|(show Ending.returned (Value.int .i64 (max n (-n)))=_;rw[show max n (-n)= -n by omega]),rfl⟩
 ·by_cases h2:n=0
  ·subst h2;exact MaC
  ·go_wp2_with fail
   go_ret
   exact⟨by rw[show((n.natAbs:Nat):Int)=n by omega];first|rfl|(show Ending.returned (Value.int .i64 (max n (-n)))=_;rw[show max n (-n)=n by omega]),rfl⟩
theorem znT(a b:Int)(w:World)(ha:a.natAbs<=4611686018427387904)(hb:b.natAbs<=4611686018427387904):Calls Tryz.prog 134 #[.int .i64 a,.int .i64 b] w (Ret w (.int .i64 (Int.gcd a b))):=by
 go_enter Tryz.func134,Tryz.ntmps134
 go_wp2_with fail
 go_loopw [0,1] (fun x y wr=>∃p q:Int,x=.int .i64 p/\y=.int .i64 q/\p.natAbs<=4611686018427387904/\q.natAbs<=4611686018427387904/\Hid (Int.gcd a b=Int.gcd p q)/\∃z,wr=w.ext z) (fun _ y _=>(intOf y).natAbs)
 case atStart=>exact⟨a,b,rfl,rfl,ha,hb,rfl,zaY (Below.refl _ _)⟩
 case round=>
  obtain⟨p,q,rfl,rfl,hp,hq,HG,z,rfl⟩:=hrel;by_cases hz:q=0
  ·subst hz;have HP:=zHi hp;clear hp hq;go_wp2_with (go_at_call 162;go_must(refine(rAbs_any _ _ HP.o).mono ?_);rintro e wq ⟨rfl,rfl⟩)
   go_ret
   exact Ret.of (zb5 (by rw[HG.o];simp[Int.gcd])) Bw
  ·have fu:(q==0)=false:=by simp[hz]
   have hm:=tmod_lt p q hz;have hG:=zHi (zn2 p q);have uf:IntKind.i64.wrap (p.tmod q)=p.tmod q:=IntWalk.i64_in _ Mcy;go_wp2_with fail
   go_quiet (fail)
   go_wp2_with fail
   all_goals(first
    |(go_round
      case rel=>exact⟨q,p.tmod q,rfl,rfl,hq,by omega,by show _=_;rw[HG.o,hG.o],zaY Bw⟩
      case measure=>simp only[intOf];omega))
theorem zeC(a b:Int)(w:World)(ha:a.natAbs<=4611686018427387904)(ba:0<b)(hb:b<=4611686018427387904):Calls Tryz.prog 186 #[.int .i64 a,.int .i64 b] w (Ret w (zaA (Rat.divInt a b))):=by
 have hg:=zn3 (a:=a) ba;obtain⟨g,HG⟩:∃g:Int,g=(Int.gcd a b:Int):=⟨_,rfl⟩
 have oG:0<g:=Mcy;have si:(g==0)=false:=McD;have e1:a.tdiv g=(Rat.divInt a b).num:=by rw[zfp ba,HG,zef (Int.gcd_dvd_left ..)]
 have e2:b.tdiv g=((Rat.divInt a b).den:Int):=by rw[zee ba,HG,zef (Int.gcd_dvd_right ..)]
 have n1:(a.tdiv g).natAbs<=4611686018427387904:=Nat.le_trans (Int.natAbs_tdiv_le_natAbs _ _) ha;have n2:(b.tdiv g).natAbs<=4611686018427387904:=Nat.le_trans (Int.natAbs_tdiv_le_natAbs _ _) Mcy;have w1:wrap64 (a.tdiv g)=a.tdiv g:=by unfold wrap64;omega
 have w2:wrap64 (b.tdiv g)=b.tdiv g:=by unfold wrap64;omega
 have HA:=zHi ha;have gU:b.natAbs<=4611686018427387904:=Mcy;have JT:¬b<0:=Mcy;obtain⟨HB,E1,E2⟩:=yH3 gU e1 e2;clear ha hb ba hg e1 e2 n1 n2 gU;go_enter Tryz.func186,Tryz.ntmps186
 go_wp2_with (go_at_call 134;refine(znT _ _ _ HA.o HB.o).mono ?_;rintro e w1 ⟨rfl,z1,rfl⟩;rw[<-HG])
 go_region
 go_wp2_with fail
 refine bodyPost_ret (v:=zaA (Rat.divInt a b)) ?_ rfl ?_
 ·refine zbU rfl _ _ w.heap.size _ _ rfl ?_ ?_
  ·rw[<-E1.o];simp[go_sem];rw[<-HG];exact w1
  ·rw[<-E2.o];simp[go_sem];rw[<-HG];exact w2
 ·exact Ret.of rfl Bw
theorem rAddI(a b c d:Int)(w:World)(ha:a.natAbs<=1000000000)(hb:b.natAbs<=1000000000)(hc:c.natAbs<=1000000000)(hd:d.natAbs<=1000000000)(ba:0<b)(ik:0<d)(_h:True):Calls Tryz.prog 163 #[.agg #[.int .i64 a,.int .i64 b],.agg #[.int .i64 c,.int .i64 d]] w (Ret w (zaA (Rat.divInt (a*d+c*b) (b*d)))):=by
 have m1:=zaN ha hd;have m2:=zaN hc hb;have m3:=zaN hb hd;have m4:0<b*d:=Int.mul_pos ba ik;obtain⟨m1,n1⟩:=m1;obtain⟨m2,n2⟩:=m2;obtain⟨m3,n3⟩:=m3;have w1:IntKind.i64.wrap (a*d)=a*d:=IntWalk.i64_in _ Mcy;have w2:IntKind.i64.wrap (c*b)=c*b:=IntWalk.i64_in _ Mcy;have w3:IntKind.i64.wrap (b*d)=b*d:=IntWalk.i64_in _ Mcy;have m5:=zaN ha hc;obtain⟨m5,n5⟩:=m5;have m6:=zaN hb hc;obtain⟨m6,n6⟩:=m6;have w5:IntKind.i64.wrap (a*c)=a*c:=IntWalk.i64_in _ Mcy;have w6:IntKind.i64.wrap (b*c)=b*c:=IntWalk.i64_in _ Mcy;have hs:(a*d+c*b).natAbs<=4611686018427387904:=Mcy;have hl:(b*d)<=4611686018427387904:=Mcy;have h4:0<(b*d):=m4;obtain⟨HS,HL,H4⟩:=yH3 hs hl h4;clear hs hl m4 h4 ha hb hc hd;go_enter Tryz.func163,Tryz.ntmps163
 go_wp2_with (go_at_call 186;go_must(refine(zeC _ _ _ HS.o H4.o HL.o).mono ?_);rintro e w1 ⟨rfl,z1,rfl⟩;simp only[zaA])
 refine bodyPost_ret (v:=zaA (Rat.divInt (a*d+c*b) (b*d))) ?_ rfl ?_
 ·exact Maf
 ·exact Ret.of rfl Bw
theorem znU(p q:Rat)(w:World)(bU:zaI p)(dw:zaI q):Calls Tryz.prog 163 #[zaA p,zaA q] w (Ret w (zaA (p+q))):=by
 rw[zju];exact rAddI _ _ _ _ _ bU.1 (by have:=bU.2;omega) dw.1 (by have:=dw.2;omega) (zbT p) (zbT q) trivial
theorem rSubI(a b c d:Int)(w:World)(ha:a.natAbs<=1000000000)(hb:b.natAbs<=1000000000)(hc:c.natAbs<=1000000000)(hd:d.natAbs<=1000000000)(ba:0<b)(ik:0<d)(_h:True):Calls Tryz.prog 169 #[.agg #[.int .i64 a,.int .i64 b],.agg #[.int .i64 c,.int .i64 d]] w (Ret w (zaA (Rat.divInt (a*d-c*b) (b*d)))):=by
 have m1:=zaN ha hd;have m2:=zaN hc hb;have m3:=zaN hb hd;have m4:0<b*d:=Int.mul_pos ba ik;obtain⟨m1,n1⟩:=m1;obtain⟨m2,n2⟩:=m2;obtain⟨m3,n3⟩:=m3;have w1:IntKind.i64.wrap (a*d)=a*d:=IntWalk.i64_in _ Mcy;have w2:IntKind.i64.wrap (c*b)=c*b:=IntWalk.i64_in _ Mcy;have w3:IntKind.i64.wrap (b*d)=b*d:=IntWalk.i64_in _ Mcy;have m5:=zaN ha hc;obtain⟨m5,n5⟩:=m5;have m6:=zaN hb hc;obtain⟨m6,n6⟩:=m6;have w5:IntKind.i64.wrap (a*c)=a*c:=IntWalk.i64_in _ Mcy;have w6:IntKind.i64.wrap (b*c)=b*c:=IntWalk.i64_in _ Mcy;have hs:(a*d-c*b).natAbs<=4611686018427387904:=Mcy;have hl:(b*d)<=4611686018427387904:=Mcy;have h4:0<(b*d):=m4;obtain⟨HS,HL,H4⟩:=yH3 hs hl h4;clear hs hl m4 h4 ha hb hc hd;go_enter Tryz.func169,Tryz.ntmps169
 go_wp2_with (go_at_call 186;go_must(refine(zeC _ _ _ HS.o H4.o HL.o).mono ?_);rintro e w1 ⟨rfl,z1,rfl⟩;simp only[zaA])
 refine bodyPost_ret (v:=zaA (Rat.divInt (a*d-c*b) (b*d))) ?_ rfl ?_
 ·exact Maf
 ·exact Ret.of rfl Bw
theorem zhI(p q:Rat)(w:World)(bU:zaI p)(dw:zaI q):Calls Tryz.prog 169 #[zaA p,zaA q] w (Ret w (zaA (p-q))):=by
 rw[zjv];exact rSubI _ _ _ _ _ bU.1 (by have:=bU.2;omega) dw.1 (by have:=dw.2;omega) (zbT p) (zbT q) trivial
theorem ziC(w:World):Calls Tryz.prog 41 #[] w (Ret w (.agg #[.int .i64 0,.int .i64 1])):=by
 go_enter Tryz.func41,Tryz.ntmps41
 go_wp2_with fail
 refine bodyPost_ret (v:=.agg #[.int .i64 0,.int .i64 1]) ?_ rfl ?_
 ·exact MbR
 ·exact Ret.of rfl Bw
