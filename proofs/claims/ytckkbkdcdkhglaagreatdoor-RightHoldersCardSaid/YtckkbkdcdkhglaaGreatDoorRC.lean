/- Walks of the reference's parts of deeds: bare, apart. -/
import Derived.Test.YtckkbkdcdkhglaaGreatDoorRB
import Derived.Test.YtckkbkdcdkhglaaGreatDoorO4
set_option linter.unusedSimpArgs false
set_option linter.unusedVariables false
set_option maxRecDepth 100000
set_option maxHeartbeats 4000000
namespace Go.Proofs.YtckkbkdcdkhglaaGreatDoor
open Go.RowKit Go.Shelf
attribute [local go_sem] World.cell?_alloc_mark zag za5 zaq za8 zaw zax zay zaz za0 za1 za2
attribute [local go_sem] zap zad
def recLens (l:List Rec):Prop:= ∀x∈l,x.name.size<=100000/\x.other.size<=100000/\x.place.size<=100000
theorem zh2 (l:List Rec) (A:Option Addr) (n c:Nat) (w:World) (hn:n=l.length) (hc:n<=c) (hz:recLens l) (hS:Sl w 8 Rec.cells A l):Calls Tryz.prog 50 #[.slice A n c] w (Ret w (.int .i64 (zfv l))):=by
 subst hn;have HS:=zHi hS;obtain⟨R,hR⟩: ∃R,R=zfv l:=⟨_,rfl⟩
 rw[<-hR];unfold zfv at hR;by_cases zg:40<l.length
 ·rw[if_pos (by simpa using zg)]at hR;subst hR;have h4:(40:Int)<(l.length:Int):=Mcl;clear hS;go_enter Tryz.func50,Tryz.ntmps50
  exact Mau
 ·rw[if_neg (by simpa using zg)]at hR;have h4: ¬(40:Int)<(l.length:Int):=Mcl;have HR:=zHi hR;clear hS hR;go_enter Tryz.func50,Tryz.ntmps50
  go_wp2_with fail
  go_loopw [11] (fun i wr=> ∃k:Nat,k<=l.length/\i= .int .i64 k/\Hid (R=zgd zct (l.drop k))/\Below w.heap.size w wr) (fun i _=>l.length-(intOf i).toNat)
  case atStart=>exact⟨0,Nat.zero_le _,rfl,by show _=_;rw[HR.o,List.drop_zero],Below.refl _ _⟩
  case round=>
   obtain⟨k,hk,rfl,HX,hB⟩:=hrel;have HB:=zHi hB;by_cases aa:k<l.length
   ·obtain⟨b,off,rfl,hb,ah⟩:=(HS.o.keep hB).at aa;have hx:=HX.o;rw[List.drop_eq_getElem_cons aa,zgd]at hx;obtain⟨z1,z2,z3⟩:=hz l[k] (List.getElem_mem aa);have hck:=fun W=>ziC l[k] W z1 z2 z3
    generalize l[k]=x at*;have au:=zHi hx;have fA:=zHi hck;have aq:=zHi aa;unfold Rec.v at fA;generalize zct x=er at*;obtain⟨kd,nm,ot,pl,dy,tl,nu,de⟩:=x;have i0:wr.cell? ⟨b,off+k*8,none⟩=some (.int .i64 kd):=ah 0 _ rfl;have i1:wr.cell? ⟨b,off+k*8+1,none⟩=some (.string nm):=ah 1 _ rfl;have i2:wr.cell? ⟨b,off+k*8+2,none⟩=some (.string ot):=ah 2 _ rfl;have i3:wr.cell? ⟨b,off+k*8+3,none⟩=some (.string pl):=ah 3 _ rfl;have i4:wr.cell? ⟨b,off+k*8+4,none⟩=some (.int .i64 dy):=ah 4 _ rfl;have i5:wr.cell? ⟨b,off+k*8+5,none⟩=some (.int .i64 tl):=ah 5 _ rfl;have i6:wr.cell? ⟨b,off+k*8+6,none⟩=some (.int .i64 nu):=ah 6 _ rfl;have i7:wr.cell? ⟨b,off+k*8+7,none⟩=some (.int .i64 de):=ah 7 _ rfl;have ar:(k:Int)<(l.length:Int):=Mcl;have aT:(0:Int)<=(k:Int):=Mcl;have fN:(k:Int)<=(c:Int):=Mcl;have aK:=hB.size;clear ah hx hck HX hB;by_cases h0:er=0
    ·subst h0;go_wp2_with (go_at_call 88;go_must(refine(fA.o _).mono ?_);rintro e wq ⟨rfl,z,rfl⟩)
     go_round
     case rel=>exact⟨k+1,aq.o,by go_num,by show _=_;rw[au.o];rfl,HB.o.trans (Below.mono (B:=wr.heap.size) Bw aK)⟩
     case measure=>have:=aq.o;simp only[intOf];omega
    ·have cm:Hid (R=er):=by show _=_;rw[au.o,if_pos Mdm]
     go_wp2_with (go_at_call 88;go_must(refine(fA.o _).mono ?_);rintro e wq ⟨rfl,z,rfl⟩)
     go_ret
     exact Ret.of (zb5 cm.o.symm) (HB.o.trans (Below.mono (B:=wr.heap.size) Bw aK))
   ·have ar: ¬(k:Int)<(l.length:Int):=Mcl;have hx:=HX.o;rw[List.drop_eq_nil_of_le Mcl,zgd]at hx;have cm:Hid (R=0):=hx;clear hx hB;go_wp2_with fail
    go_ret
    exact Ret.of (zb5 cm.o.symm) HB.o
end Go.Proofs.YtckkbkdcdkhglaaGreatDoor
namespace Go.Proofs.YtckkbkdcdkhglaaGreatDoor
open Go.RowKit
attribute [local go_sem] World.cell?_alloc_mark zag za5 zaq za8 zaw zax zay zaz za0 za1 za2
attribute [local go_sem] zap zad
theorem rAbs_any (n:Int) (w:World) (h:n.natAbs<=4611686018427387904):Calls Tryz.prog 155 #[.int .i64 n] w (Ret0 w (.int .i64 (n.natAbs:Int))):=by
 have h0: -4611686018427387904<=n:=Mcl;have h1:n<=4611686018427387904:=Mcl;have hw:IntKind.i64.wrap (-n)= -n:=McX;clear h;go_enter Tryz.func155,Tryz.ntmps155
 by_cases h:n<0
 ·go_wp2_with fail
  go_ret
  exact⟨by rw[show((n.natAbs:Nat):Int)= -n by omega];first|rfl|(show Ending.returned (Value.int .i64 (max n (-n)))=_;rw[show max n (-n)= -n by omega]),rfl⟩
 ·by_cases h2:n=0
  ·subst h2;exact MaH
  ·go_wp2_with fail
   go_ret
   exact⟨by rw[show((n.natAbs:Nat):Int)=n by omega];first|rfl|(show Ending.returned (Value.int .i64 (max n (-n)))=_;rw[show max n (-n)=n by omega]),rfl⟩
theorem znP (a b:Int) (w:World) (ha:a.natAbs<=4611686018427387904) (hb:b.natAbs<=4611686018427387904):Calls Tryz.prog 112 #[.int .i64 a, .int .i64 b] w (Ret w (.int .i64 (Int.gcd a b))):=by
 go_enter Tryz.func112,Tryz.ntmps112
 go_wp2_with fail
 go_loopw [0,1] (fun x y wr=> ∃p q:Int,x= .int .i64 p/\y= .int .i64 q/\p.natAbs<=4611686018427387904/\q.natAbs<=4611686018427387904/\Hid (Int.gcd a b=Int.gcd p q)/\ ∃z,wr=w.ext z) (fun _ y _=>(intOf y).natAbs)
 case atStart=>exact⟨a,b,rfl,rfl,ha,hb,rfl,zbb (Below.refl _ _)⟩
 case round=>
  obtain⟨p,q,rfl,rfl,hp,hq,HG,z,rfl⟩:=hrel;by_cases hz:q=0
  ·subst hz;have HP:=zHi hp;clear hp hq;go_wp2_with (go_at_call 155;go_must(refine(rAbs_any _ _ HP.o).mono ?_);rintro e wq ⟨rfl,rfl⟩)
   go_ret
   exact Ret.of (zb5 (by rw[HG.o];simp[Int.gcd])) Bw
  ·have gR:(q==0)=false:=by simp[hz]
   have hm:=tmod_lt p q hz;have hG:=zHi (zny p q);have ud:IntKind.i64.wrap (p.tmod q)=p.tmod q:=IntWalk.i64_in _ Mcl;go_wp2_with fail
   go_quiet (fail)
   go_wp2_with fail
   all_goals(first
    |(go_round
      case rel=>exact⟨q,p.tmod q,rfl,rfl,hq,by omega,by show _=_;rw[HG.o,hG.o],zbb Bw⟩
      case measure=>simp only[intOf];omega))
theorem zeE (a b:Int) (w:World) (ha:a.natAbs<=4611686018427387904) (ba:0<b) (hb:b<=4611686018427387904):Calls Tryz.prog 80 #[.int .i64 a, .int .i64 b] w (Ret w (za9 (Rat.divInt a b))):=by
 have hg:=znz (a:=a) ba;obtain⟨g,HG⟩: ∃g:Int,g=(Int.gcd a b:Int):=⟨_,rfl⟩
 have oB:0<g:=Mcl;have s7:(g==0)=false:=Mcq;have e1:a.tdiv g=(Rat.divInt a b).num:=by rw[zfu ba,HG,zeh (Int.gcd_dvd_left ..)]
 have e2:b.tdiv g=((Rat.divInt a b).den:Int):=by rw[zeg ba,HG,zeh (Int.gcd_dvd_right ..)]
 have n1:(a.tdiv g).natAbs<=4611686018427387904:=Nat.le_trans (Int.natAbs_tdiv_le_natAbs _ _) ha;have n2:(b.tdiv g).natAbs<=4611686018427387904:=Nat.le_trans (Int.natAbs_tdiv_le_natAbs _ _) Mcl;have w1:wrap64 (a.tdiv g)=a.tdiv g:=by unfold wrap64;omega
 have w2:wrap64 (b.tdiv g)=b.tdiv g:=by unfold wrap64;omega
 have HA:=zHi ha;have gZ:b.natAbs<=4611686018427387904:=Mcl;have Jv: ¬b<0:=Mcl;have HB:=zHi gZ;have E1:=zHi e1;have E2:=zHi e2;clear ha hb ba hg e1 e2 n1 n2 gZ;go_enter Tryz.func80,Tryz.ntmps80
 go_wp2_with (go_at_call 112;refine(znP _ _ _ HA.o HB.o).mono ?_;rintro e w1 ⟨rfl,z1,rfl⟩;rw[<-HG])
 go_region
 go_wp2_with fail
 refine bodyPost_ret (v:=za9 (Rat.divInt a b)) ?_ rfl ?_
 ·refine zbV rfl _ _ w.heap.size _ _ rfl ?_ ?_
  ·rw[<-E1.o];simp[go_sem];rw[<-HG];exact w1
  ·rw[<-E2.o];simp[go_sem];rw[<-HG];exact w2
 ·exact Ret.of rfl Bw
theorem rAddI (a b c d:Int) (w:World) (ha:a.natAbs<=1000000000) (hb:b.natAbs<=1000000000) (hc:c.natAbs<=1000000000) (hd:d.natAbs<=1000000000) (ba:0<b) (iw:0<d) (_h:True):Calls Tryz.prog 79 #[.agg #[.int .i64 a, .int .i64 b], .agg #[.int .i64 c, .int .i64 d]] w (Ret w (za9 (Rat.divInt (a*d+c*b) (b*d)))):=by
 have m1:=zaN ha hd;have m2:=zaN hc hb;have m3:=zaN hb hd;have m4:0<b*d:=Int.mul_pos ba iw;obtain⟨m1,n1⟩:=m1;obtain⟨m2,n2⟩:=m2;obtain⟨m3,n3⟩:=m3;have w1:IntKind.i64.wrap (a*d)=a*d:=IntWalk.i64_in _ Mcl;have w2:IntKind.i64.wrap (c*b)=c*b:=IntWalk.i64_in _ Mcl;have w3:IntKind.i64.wrap (b*d)=b*d:=IntWalk.i64_in _ Mcl;have m5:=zaN ha hc;obtain⟨m5,n5⟩:=m5;have m6:=zaN hb hc;obtain⟨m6,n6⟩:=m6;have w5:IntKind.i64.wrap (a*c)=a*c:=IntWalk.i64_in _ Mcl;have w6:IntKind.i64.wrap (b*c)=b*c:=IntWalk.i64_in _ Mcl;have hs:(a*d+c*b).natAbs<=4611686018427387904:=Mcl;have hl:(b*d)<=4611686018427387904:=Mcl;have h4:0<(b*d):=m4;have HS:=zHi hs;have HL:=zHi hl;have H4:=zHi h4;clear hs hl m4 h4 ha hb hc hd;go_enter Tryz.func79,Tryz.ntmps79
 go_wp2_with (go_at_call 80;go_must(refine(zeE _ _ _ HS.o H4.o HL.o).mono ?_);rintro e w1 ⟨rfl,z1,rfl⟩;simp only[za9])
 refine bodyPost_ret (v:=za9 (Rat.divInt (a*d+c*b) (b*d))) ?_ rfl ?_
 ·exact Mam
 ·exact Ret.of rfl Bw
theorem znQ (p q:Rat) (w:World) (ct:zaK p) (dO:zaK q):Calls Tryz.prog 79 #[za9 p,za9 q] w (Ret w (za9 (p+q))):=by
 rw[zjx];exact rAddI _ _ _ _ _ ct.1 (by have:=ct.2;omega) dO.1 (by have:=dO.2;omega) (zbU p) (zbU q) trivial
theorem rSubI (a b c d:Int) (w:World) (ha:a.natAbs<=1000000000) (hb:b.natAbs<=1000000000) (hc:c.natAbs<=1000000000) (hd:d.natAbs<=1000000000) (ba:0<b) (iw:0<d) (_h:True):Calls Tryz.prog 39 #[.agg #[.int .i64 a, .int .i64 b], .agg #[.int .i64 c, .int .i64 d]] w (Ret w (za9 (Rat.divInt (a*d-c*b) (b*d)))):=by
 have m1:=zaN ha hd;have m2:=zaN hc hb;have m3:=zaN hb hd;have m4:0<b*d:=Int.mul_pos ba iw;obtain⟨m1,n1⟩:=m1;obtain⟨m2,n2⟩:=m2;obtain⟨m3,n3⟩:=m3;have w1:IntKind.i64.wrap (a*d)=a*d:=IntWalk.i64_in _ Mcl;have w2:IntKind.i64.wrap (c*b)=c*b:=IntWalk.i64_in _ Mcl;have w3:IntKind.i64.wrap (b*d)=b*d:=IntWalk.i64_in _ Mcl;have m5:=zaN ha hc;obtain⟨m5,n5⟩:=m5;have m6:=zaN hb hc;obtain⟨m6,n6⟩:=m6;have w5:IntKind.i64.wrap (a*c)=a*c:=IntWalk.i64_in _ Mcl;have w6:IntKind.i64.wrap (b*c)=b*c:=IntWalk.i64_in _ Mcl;have hs:(a*d-c*b).natAbs<=4611686018427387904:=Mcl;have hl:(b*d)<=4611686018427387904:=Mcl;have h4:0<(b*d):=m4;have HS:=zHi hs;have HL:=zHi hl;have H4:=zHi h4;clear hs hl m4 h4 ha hb hc hd;go_enter Tryz.func39,Tryz.ntmps39
 go_wp2_with (go_at_call 80;go_must(refine(zeE _ _ _ HS.o H4.o HL.o).mono ?_);rintro e w1 ⟨rfl,z1,rfl⟩;simp only[za9])
 refine bodyPost_ret (v:=za9 (Rat.divInt (a*d-c*b) (b*d))) ?_ rfl ?_
 ·exact Mam
 ·exact Ret.of rfl Bw
theorem zhL (p q:Rat) (w:World) (ct:zaK p) (dO:zaK q):Calls Tryz.prog 39 #[za9 p,za9 q] w (Ret w (za9 (p-q))):=by
 rw[zjy];exact rSubI _ _ _ _ _ ct.1 (by have:=ct.2;omega) dO.1 (by have:=dO.2;omega) (zbU p) (zbU q) trivial
theorem ziE (w:World):Calls Tryz.prog 78 #[] w (Ret w (.agg #[.int .i64 0, .int .i64 1])):=by
 go_enter Tryz.func78,Tryz.ntmps78
 go_wp2_with fail
 refine bodyPost_ret (v:= .agg #[.int .i64 0, .int .i64 1]) ?_ rfl ?_
 ·exact MbE
 ·exact Ret.of rfl Bw
end Go.Proofs.YtckkbkdcdkhglaaGreatDoor
namespace Go.Proofs.YtckkbkdcdkhglaaGreatDoor
open Go.RowKit Go.Shelf
attribute [local go_sem] World.cell?_alloc_mark zag za5 zaq za8 zaw zax zay zaz za0 za1 za2
attribute [local go_sem] zap zad
def zh3 (p:RPart):Bool:=p.num==0&&p.den==0
theorem rBare_any (l:List RPart) (A:Option Addr) (c:Nat) (w:World) (hl:l.length<=1000000000) (hS:Sl w 3 RPart.cells A l):Calls Tryz.prog 131 #[.slice A l.length c] w (Ret0 w (.bool (l.all zh3))):=by
 have HS:=zHi hS;obtain⟨R,hR⟩: ∃R,R=l.all zh3:=⟨_,rfl⟩
 rw[<-hR];have HR:Hid (R=(l.drop 0).all zh3):=Meb;clear hS hR;go_enter Tryz.func131,Tryz.ntmps131
 go_upto_region 2 with fail
 go_loopw [3] (fun i wr=> ∃k:Nat,k<=l.length/\i= .int .i64 k/\w=wr/\Hid (R=(l.drop k).all zh3)) (fun i _=>l.length-(intOf i).toNat)
 case atStart=>exact⟨0,Nat.zero_le _,rfl,rfl,HR.o⟩
 case round=>
  obtain⟨k,hk,rfl,rfl,HX⟩:=hrel;by_cases aa:k<l.length
  ·obtain⟨b,off,rfl,hb,ah⟩:=HS.o.at aa;have hx:=HX.o;rw[List.drop_eq_getElem_cons aa,List.all_cons]at hx;have au:=zHi hx;have aq:=zHi aa;generalize l[k]=x at*;obtain⟨nm,nu,de⟩:=x;have i1:w.cell? ⟨b,off+k*3+1,none⟩=some (.int .i64 nu):=ah 1 _ rfl;have i2:w.cell? ⟨b,off+k*3+2,none⟩=some (.int .i64 de):=ah 2 _ rfl;have ar:(k:Int)<(l.length:Int):=Mcl;have aT:(0:Int)<=(k:Int):=Mcl;clear ah hx aa;by_cases h1:nu=0
   ·subst h1;by_cases h2:de=0
    ·subst h2;have HE:Hid (R=(l.drop (k+1)).all zh3):=MdC;go_wp2_with fail
     exact MH
    ·have h3:(de==0)=false:=Md8;have HE:Hid (R=false):=by show _=_;rw[au.o];simp[zh3,h3]
     exact Maa
   ·have h3:(nu==0)=false:=McR;have HE:Hid (R=false):=by show _=_;rw[au.o];simp[zh3,h3]
    exact Maa
  ·have ar: ¬(k:Int)<(l.length:Int):=Mcl;have HE:Hid (R=true):=by show _=_;rw[HX.o,List.drop_of_length_le Mcl];rfl
   exact Maa
def zdx (l:List RPart) (frm:ByteArray) (k:Nat):Bool:=zcW (l.drop k) ((l.take k).map (·.name)).reverse&&(l.drop k).all fun p=>!zae p.name frm
def clash (l:List RPart) (x:ByteArray) (j m:Nat):Bool:=((l.take m).drop j).any fun p=>zae x p.name
theorem zo6 {l:List RPart} {frm:ByteArray} {k:Nat} (h:k<l.length):zdx l frm k=(!clash l l[k].name 0 k&&(!zae l[k].name frm&&zdx l frm (k+1))):=by
 unfold zdx clash;rw[List.drop_eq_getElem_cons h,zcW,List.all_cons,List.take_add_one,List.getElem?_eq_getElem h,List.drop_zero];have e:((l.take k).map (·.name)).reverse.any (zae l[k].name)=(l.take k).any fun p=>zae l[k].name p.name:=by
  rw[List.any_reverse,List.any_map];rfl
 rw[e];simp only[Option.toList_some,List.map_append,List.map_cons,List.map_nil,List.reverse_append,List.reverse_cons,List.reverse_nil,List.nil_append,List.singleton_append];cases(l.take k).any fun p=>zae l[k].name p.name<;>cases zae l[k].name frm<;>simp
theorem zo7 {l:List RPart} {x:ByteArray} {j m:Nat} (h:j<m) (hm:m<l.length):clash l x j m=(zae x (l[j]' Mcl).name||clash l x (j+1) m):=by
 unfold clash;have hj:j<(l.take m).length:=Mc6;rw[List.drop_eq_getElem_cons hj,List.any_cons,List.getElem_take]
theorem clash_end {l:List RPart} {x:ByteArray} {j m:Nat} (h: ¬j<m):clash l x j m=false:=by
 unfold clash;rw[List.drop_of_length_le Mc6];rfl
end Go.Proofs.YtckkbkdcdkhglaaGreatDoor
