/- Walk of the reference's sum of the shares of parts. -/
import Derived.Test.YtmfbdfejhdkiaaaGreatDoorA3
import Derived.Test.YtmfbdfejhdkiaaaGreatDoorE5
import Derived.Test.YtmfbdfejhdkiaaaGreatDoorE1
set_option linter.all false
set_option maxRecDepth 100000
set_option maxHeartbeats 4000000
namespace Go.Proofs.YtmfbdfejhdkiaaaGreatDoor
open Go.RowKit
attribute [local go_sem] World.cell?_alloc_mark zae za4 zao za8 zav zaw zax zay zaz za0 za1
section
open Go.Shelf
attribute [local go_sem] zap zac
open Classical in
end
section
open Go.Shelf
attribute [local go_sem] zap zac
theorem elInt:ElTy Tryz.prog 78 3 1 8:=zdC (z:=.int .i64 0) Mcs Mcs rfl Mcu
end
def zC(n:Int):List Value:=[.int .i64 n]
theorem zh7(n:Int):(zC n).length=1:=rfl
theorem zC_one(n:Int):∀u∈zC n,u.oneCell'=true:=by simp[zC,Value.oneCell']
def zeS(ds:List Deed):Int:=(ds.getLast?.map (·.day)).getD 0
theorem zjP{ds:List Deed}{k:Nat}(h:k<ds.length):zeS (ds.take (k+1))=ds[k].day:=by
 have e:ds.take (k+1)=ds.take k++[ds[k]]:=by rw[List.take_add_one,List.getElem?_eq_getElem h];rfl
 unfold zeS;rw[e,List.getLast?_concat];rfl
section
open Go.Shelf
attribute [local go_sem] zap zac
theorem zgM{fn:Func}{p q:Tmp}(h:fn.results= #[.cell p 57,.tmp q])(tmps:Array Value)(w:World)(B:Nat)(x0 x1 e:Value)(hp:tmps.getD p undef=.pointer (some ⟨B,0,none⟩))(hq:tmps.getD q undef=e)
 (hx:w.heap[B]?=some (.cells #[x0,x1] 57)):(results fn tmps).run Tryz.prog w=.ok (.tuple #[.agg #[x0,x1],e]) w:=by
 obtain⟨h0,h1⟩:=cF2 hx;clear hx;rw[Array.getD_eq_getD_getElem?]at hp hq;simp only[results,h];simp[Sem.run_bind,hp,hq];go_simp
theorem zlO{q:Rat}(h0:0<=q)(h1:q<=1)(hd:¬1000000000<(q.den:Int)):zaL q:=by
 have a:=num_le h1;have b:0<=q.num:=Rat.num_nonneg.2 h0;exact⟨by omega,by omega⟩
end
open Go.Shelf
attribute [local go_sem] zap zac
theorem zdq(n:Int)(w:World):Calls Tryz.prog 39 #[.int .i64 n] w (Ret0 w (.bool (zbm n))):=by
 go_enter Tryz.func39,Tryz.ntmps39
 exact Mau
theorem zh8(a b:Int)(w:World):Calls Tryz.prog 40 #[.agg #[.int .i64 a,.int .i64 b]] w (Ret w (.bool (zaA 16 a b))):=by
 go_enter Tryz.func40,Tryz.ntmps40
 by_cases h1:inR b 1 16=true
 ·by_cases h2:inR a 0 b=true
  ·have x1:1<=b/\b<=16:=by simpa[inR]using h1
   have x2:0<=a/\a<=b:=by simpa[inR]using h2
   have g1:a.natAbs<=4611686018427387904:=Mcq;have g2:b.natAbs<=4611686018427387904:=Mcq;obtain⟨G1,G2⟩:=yH2 g1 g2;have hv:zaA 16 a b=((Int.gcd a b:Int)==1):=by
    unfold zaA;simp only[x1.1,x1.2,x2.1,x2.2,decide_true,Bool.true_and];rw[Bool.eq_iff_iff,beq_iff_eq,beq_iff_eq];omega
   have HV:=zHi hv;clear g1 g2 hv x1 x2
   go_wp2_with (first
    |(go_at_call 33;refine(zbY _ _ _ _).mono ?_;rintro e wq ⟨rfl,rfl⟩)
    |(go_at_call 67;refine(znB _ _ _ G1.o G2.o).mono ?_;rintro e w1 ⟨rfl,z1,rfl⟩))
   all_goals go_ret
   all_goals exact Ret.of (zaR (by rw[HV.o])) Bw
  ·have hv:zaA 16 a b=false:=by
    unfold zaA;simp[inR]at h1 h2⊢;omega
   exact Ma0
 ·have hv:zaA 16 a b=false:=by
   unfold zaA;simp[inR]at h1⊢;omega
  exact Ma0
def zdZ(p:RPart):Bool:=zaA 16 p.num p.den&&p.num != 0
def sumR:List RPart->Rat->Rat×Bool
 | [],o=>(o,true)
 |p::l,o=>if zdZ p then sumR l (o+p.rat)else(o,false)
theorem zjQ{k:Nat}{o:Rat}(hk:k<=1000)(h:IsN 720720 o)(h0:0<=o)(h1:o<=(k:Rat)):zaL o:=by
 have hd:=zkf Mcu h;have hn:0<=o.num:=Rat.num_nonneg.2 h0;have h2:=(Rat.le_iff o (k:Rat)).1 h1;have e1:((k:Rat)).num=(k:Int):=Rat.num_natCast k;have e2:((k:Rat)).den=1:=Rat.den_natCast k;rw[e1,e2]at h2;have h3:o.num<=(k:Int)*(o.den:Int):=Mei;have h4:(k:Int)*(o.den:Int)<=1000*720720:=Int.mul_le_mul Mcq Mcq Mcq Mcq;exact⟨by omega,by omega⟩
theorem zoc(l:List RPart)(A:Option Addr)(c:Nat)(w:World)(hl:l.length<=1000)(hS:Sl w 3 RPart.cells A l):Calls Tryz.prog 71 #[.slice A l.length c] w (Ret w (.tuple #[zaD (sumR l 0).1,.bool (sumR l 0).2])):=by
 have HS:=zHi hS;obtain⟨R,hR⟩:=Qd (sumR l 0)
 rw[<-hR];have HR:=zHi hR;clear hS hR;go_enter Tryz.func71,Tryz.ntmps71
 go_upto_region 2 with(go_at_call 115;go_must(refine(zin _).mono ?_);rintro e wq ⟨rfl,z0,rfl⟩)
 obtain⟨OB,mh⟩:=Qd (w.heap.size+1+z0.os.size)
 obtain⟨W0,am⟩:=Qd (((w.alloc (.cells #[.int .i64 0,.int .i64 0] 57)).ext z0).alloc (.cells #[.int .i64 0,.int .i64 1] 57))
 have b0:W0.heap[w.heap.size]?=some (.cells #[.int .i64 0,.int .i64 0] 57):=by rw[am];exact zal (zby (zat _ _ _ rfl))
 have b1:W0.heap[OB]?=some (.cells #[.int .i64 0,.int .i64 1] 57):=by rw[am];exact zat _ _ _ (by rw[mh];simp[zae])
 have aS:Qa w W0:=Mc1;rw[<-am,<-mh];have aj:=zHi aS;have dE:w.heap.size<OB:=Mcq;clear am aS mh;go_upto_region 3 with fail
 go_loopw [5] (fun i wr=>∃(k:Nat) (o:Rat),k<=l.length/\i=.int .i64 k/\Hid (R=sumR (l.drop k) o)/\Hid (IsN 720720 o/\0<=o/\o<=(k:Rat))/\Qa w wr/\wr.heap[w.heap.size]?=some (.cells #[.int .i64 0,.int .i64 0] 57)/\wr.heap[OB]?=some (.cells #[.int .i64 o.num,.int .i64 o.den] 57)) (fun i _=>l.length-(intOf i).toNat)
 case atStart=>exact⟨0,0,Nat.zero_le _,rfl,by rw[List.drop_zero];exact HR.o,zHi ⟨zke _,Rat.le_refl,by simp⟩,aj.o,b0,b1⟩
 case round=>
  obtain⟨k,o,hk,rfl,HX,HN,hB,g0,g1⟩:=hrel;have HB:=zHi hB;have aW:=hB.size;have x0:=zab g0;have x1:=zab g1;obtain⟨c0,c1⟩:=cF2 g1;obtain⟨t0,t1⟩:=cF2 g0;have f0:∀j,wr.frozen? ⟨w.heap.size,j,none⟩=false:=fun j=>by simp[World.frozen?,g0]
  by_cases aa:k<l.length
  ·obtain⟨b,off,rfl,hb,ah⟩:=(HS.o.keep hB).at aa;have hx:=HX.o;rw[List.drop_eq_getElem_cons aa,sumR]at hx;obtain⟨ax,ak⟩:=yH2 hx aa;generalize l[k]=x at*;obtain⟨nm,nu,de⟩:=x;have i1:wr.cell? ⟨b,off+k*3+1,none⟩=some (.int .i64 nu):=ah 1 _ rfl;have i2:wr.cell? ⟨b,off+k*3+2,none⟩=some (.int .i64 de):=ah 2 _ rfl;have ar:(k:Int)<(l.length:Int):=Mcq;have aR:(0:Int)<=(k:Int):=Mcq;have zH:=zHi (fun W=>zh8 nu de W);clear ah hx aa hB;cases bJ:zaA 16 nu de
   ·have HE:Hid (R=(o,false)):=by show _=_;rw[ax.o];simp[zdZ,bJ]
    rw[bJ]at zH;exact MX
   ·rw[bJ]at zH;by_cases hz:nu=0
    ·subst hz;have HE:Hid (R=(o,false)):=by show _=_;rw[ax.o];simp[zdZ]
     exact MX
    ·have nz:(nu==0)=false:=Mdz;have lv:=zbl bJ;have Ee:=zer bJ;have lq:=lv.1;have AZ:=lv.2.1;generalize hq:Rat.divInt nu de=q at*;have HE:Hid (R=sumR (l.drop (k+1)) (o+q)):=by show _=_;rw[ax.o];unfold zdZ RPart.rat;simp only;rw[bJ,hq];simp[hz]
     have hn:=HN.o;have fZ:((k+1:Nat):Rat)=(k:Rat)+1:=Mcv;have kV:Hid (IsN 720720 (o+q)/\0<=o+q/\o+q<=((k+1:Nat):Rat)):=by
      refine zHi ⟨zkc hn.1 Ee,?_,?_⟩
      ·have:=lv.2.2.1;have:=hn.2.1;grind
      ·rw[fZ];have:=lv.2.2.2;have:=hn.2.2;grind
     have qC:zaL o:=zjQ Mcq hn.1 hn.2.1 hn.2.2;have dR:zaL q:=zjQ (k:=1) Mcq Ee lv.2.2.1 (by simpa using lv.2.2.2);have eK:=zHi (fun W=>zkh o q W qC dR);unfold zaD at eK;rw[lq,AZ]at eK;clear lv Ee lq AZ hq hn fZ qC dR bJ;go_upto_region 7 with(go_at_call 40;go_must(refine(zH.o _).mono ?_);rintro e wq ⟨rfl,z,rfl⟩)
     have j1:(wr.ext z).cell? ⟨b,off+k*3+1,none⟩=some (.int .i64 nu):=(za4 _ _ _ _ hb).trans i1;have j2:(wr.ext z).cell? ⟨b,off+k*3+2,none⟩=some (.int .i64 de):=(za4 _ _ _ _ hb).trans i2;have y0:(wr.ext z).heap[w.heap.size]?=_:=zby g0;have y1:(wr.ext z).heap[OB]?=_:=zby g1;have GF:Qa w (wr.ext z):=zaZ HB.o z;clear c0 c1 t0 t1 f0 i1 i2 g0 g1 hb aW x0 x1;generalize wr.ext z=WY at*;have fE:=zHi GF;obtain⟨c0,c1⟩:=cF2 y1;clear GF;refine zaJ 6 (fun bb w'=>bb=true\/(w'.cell? ⟨OB,0,none⟩=some (.int .i64 o.num)/\w'.cell? ⟨OB,1,none⟩=some (.int .i64 o.den)/\w'.cell? ⟨b,off+k*3+1,none⟩=some (.int .i64 nu)/\w'.cell? ⟨b,off+k*3+2,none⟩=some (.int .i64 de))) Mcs (.inr ⟨c0,c1,j1,j2⟩) ?hrest
     case hrest=>
      intro hHeld;refine TkM 0 ?_;refine TkM 1 ?_;refine TkM 2 ?_;refine TkM 3 ?_;refine TkM 4 ?_;refine TkM 5 ?_;refine OnM 6 true fun K hK=>?_
      go_simp
      refine(eK.o _).mono ?_;rintro e w5 ⟨rfl,z5,rfl⟩;have v0:(WY.drew.ext z5).heap[w.heap.size]?=_:=zby (w:=WY.drew) y0;have v1:(WY.drew.ext z5).heap[OB]?=_:=zby (w:=WY.drew) y1;have aq:Qa w (WY.drew.ext z5):=zaZ (zaF fE.o) z5;refine NxM hK fun hHeld=>?_
      clear hK K;generalize WY.drew.ext z5=W5 at*;obtain⟨s0,s1⟩:=cF2 v1;have sf:∀j,W5.frozen? ⟨OB,j,none⟩=false:=fun j=>by simp[World.frozen?,v1]
      refine OnM 7 true fun K hK=>?_
      go_simp
      refine NxM hK fun hHeld=>?_
      clear hK K;refine zaV Mcs ?_ _;clear hHeld;go_wp2_with fail
      go_round
      case rel=>exact⟨k+1,o+q,ak.o,by go_num,HE,kV,zaN (zaN aq Mcw _) Mcw _,J_ne Mcq (J_ne Mcq v0),zeO v1⟩
      case measure=>have:=ak.o;simp only[intOf];omega
  ·have ar:¬(k:Int)<(l.length:Int):=Mcq;have HE:Hid (R=(o,true)):=by show _=_;rw[HX.o,List.drop_of_length_le Mcq];rfl
   clear hB;go_wp2_with fail
   rw[HE.o];refine bodyPost_ret (v:=.tuple #[zaD o,.bool true]) ?_ rfl ?_
   ·exact zgM rfl _ _ w.heap.size _ _ _ rfl rfl (zeO g0)
   ·exact Ret.of rfl (zaN (zaN HB.o Mcv _) Mcv _)
