import Derived.Test.YtbobmplpdmplkaaGreatDoorO6
import Derived.Test.YtbobmplpdmplkaaGreatDoorJK
set_option linter.all false
set_option maxRecDepth 100000
set_option maxHeartbeats 4000000
namespace Go.Proofs.YtbobmplpdmplkaaGreatDoor
open Go.RowKit Go.Shelf
attribute [local go_sem] World.cell?_alloc_mark zaf za4 zam za7 zaw zax zay zaz za0 za1 za2
attribute [local go_sem] zan zac
def intC(n:Nat):List Value:=[.int .i64 (n:Int)]
theorem zgx(n:Nat):(intC n).length=1:=rfl
theorem intC_one(n:Nat):∀u∈intC n,u.oneCell'=true:=by simp[intC,Value.oneCell']
theorem zgy(x:Rec):(Rec.cells x).length=8:=rfl
theorem recC_one(x:Rec):∀u∈Rec.cells x,u.oneCell'=true:=by simp[Rec.cells,Value.oneCell']
theorem elRec:ElTy Tryz.prog 68 67 8 88:=zd4 (z:=.agg #[.int .i64 0,.string ⟨#[]⟩,.string ⟨#[]⟩,.string ⟨#[]⟩,.int .i64 0,.int .i64 0,.int .i64 0,.int .i64 0]) Mcz Mcz rfl McA
theorem of_snoc{l:List Rec}{set:List Nat}{k:Nat}(hk:k<set.length)(hl:set[k]<l.length):ofP l (set.take (k+1))=ofP l (set.take k)++[l[set[k]]]:=by
 unfold ofP;rw[List.take_succ_eq_append_getElem hk,List.filterMap_append];simp[List.getElem?_eq_getElem hl]
theorem of_len(l:List Rec)(set:List Nat):(ofP l set).length<=set.length:=List.length_filterMap_le _ _
theorem sl_rec{w:World}{b:Nat}{x:Rec}{t:TypeId}{fr:Nat×Nat}(h:w.heap[b]?=some (.cells (Rec.cells x).toArray t fr)):Sl w 8 Rec.cells (some ⟨b,0,none⟩) [x]:=fun _=>⟨b,0,rfl,zab h,fun k y hy j u hu=>by
 have hk:k=0:=McK;subst hk;simp only[List.getElem?_cons_zero,Option.some.injEq]at hy;subst hy;simp only[World.cell?,h,Nat.zero_mul,Nat.zero_add,Nat.add_zero]
 simpa using hu⟩
theorem some_any(l:List Rec)(set:List Nat)(A:Option Addr)(c:Nat)(SA:Option Addr)(sc:Nat)(w:World)(hc:l.length<=c)(Gu:set.length<=sc)(aV:set.length<=1000)(aH:∀i∈set,i<l.length)(hS:Sl w 8 Rec.cells A l)(hT:Sl w 1 intC SA set):
 Calls Tryz.prog 57 #[.slice A l.length c,.slice SA set.length sc] w (fun e w'=>∃v,e=.returned v/\OwnS w' w.heap.size 67 8 Rec.cells v (ofP l set)/\Below w.heap.size w w'):=by
 obtain⟨HS,HT,bW⟩:=yH3 hS hT aH;clear hS hT aH;go_enter Tryz.func57,Tryz.ntmps57
 go_wp2_with fail
 go_loopw [5,10] (fun v i wr=>∃k:Nat,k<=set.length/\i=.int .i64 k/\OwnS wr w.heap.size 67 8 Rec.cells v (ofP l (set.take k))/\Below w.heap.size w wr) (fun _ i _=>set.length-(intOf i).toNat)
 case atStart=>exact⟨0,Nat.zero_le _,rfl,OwnS.nil,Below.refl _ _⟩
 case round=>
  obtain⟨k,hk,rfl,aa,hB⟩:=hrel;obtain⟨VA,vc,rfl,_,kB⟩:=aa.sl zgy;obtain⟨HO,HB⟩:=yH2 aa hB;have aG:=hB.size;by_cases ae:k<set.length
  ·obtain⟨b,off,rfl,hb,ah⟩:=(HT.o.keep hB).at ae;have hi:=bW.o set[k] (List.getElem_mem ae);have bL:=of_snoc ae hi;have i0:wr.cell? ⟨b,off+k,none⟩=some (.int .i64 (set[k]:Int)):=McZ;have kp:=of_len l (set.take k);rw[List.length_take]at kp;have cN:=zHi bL;clear bL ah;generalize set[k]=m at*;obtain⟨rb,roff,rfl,xX,oT⟩:=(HS.o.keep hB).at hi;have ak:=zHi ae;generalize l[m]=x at*;generalize ofP l (set.take k)=acc at*;obtain⟨kd,nm,ot,pl,dy,tl,nu,de⟩:=x;have j0:wr.cell? ⟨rb,roff+m*8,none⟩=some (.int .i64 kd):=oT 0 _ rfl;have j1:wr.cell? ⟨rb,roff+m*8+1,none⟩=some (.string nm):=oT 1 _ rfl;have j2:wr.cell? ⟨rb,roff+m*8+2,none⟩=some (.string ot):=oT 2 _ rfl;have j3:wr.cell? ⟨rb,roff+m*8+3,none⟩=some (.string pl):=oT 3 _ rfl;have j4:wr.cell? ⟨rb,roff+m*8+4,none⟩=some (.int .i64 dy):=oT 4 _ rfl;have j5:wr.cell? ⟨rb,roff+m*8+5,none⟩=some (.int .i64 tl):=oT 5 _ rfl;have j6:wr.cell? ⟨rb,roff+m*8+6,none⟩=some (.int .i64 nu):=oT 6 _ rfl;have j7:wr.cell? ⟨rb,roff+m*8+7,none⟩=some (.int .i64 de):=oT 7 _ rfl;have ar:(k:Int)<(set.length:Int):=Mcy;have aQ:(0:Int)<=(k:Int):=Mcy;have fq:(k:Int)<=(sc:Int):=Mcy;have fG:(m:Int)<(l.length:Int):=Mcy;have nK:(0:Int)<=(m:Int):=Mcy;have sB:(m:Int)<=(c:Int):=Mcy;have jJ:acc.length<=1000:=Mcy;clear oT aa hB kp
   go_wp2_with (at_builtin
                go_loud(refine zat (v:=.slice VA acc.length vc) (n:=acc.length) (m:=1) rfl _ _ rfl elRec zgy recC_one rfl (xs:=acc) (ys:=[⟨kd,nm,ot,pl,dy,tl,nu,de⟩]) (HO.o.keep (n:=wr.heap.size) Bw) rfl rfl rfl (sl_rec (zar _ _ _ rfl)) McS Mcy McD ?_)
                intro v3 w3 h1 h2 h3;have ax:=Below.grown (B:=w.heap.size) (a:=w) (HB.o.trans (Below.mono (B:=wr.heap.size) (zad (Below.refl _ _) _) aG)) h2 McD (fun j hj=>(HO.o.ge j hj).1);obtain⟨H1,aD⟩:=yH2 h1 ax
                clear h1 h2 h3 ax)
   go_round
   case rel=>exact⟨k+1,ak.o,by go_num,by rw[cN.o];exact H1.o,aD.o⟩
   case measure=>have:=ak.o;simp only[intOf];omega
  ·have ar:¬(k:Int)<(set.length:Int):=Mcy;have xj:set.take k=set:=List.take_of_length_le Mcy;clear aa;generalize bv:ofP l (set.take k)=xs at*;rw[xj]at bv;subst bv;clear xj;go_wp2_with fail
   go_ret
   exact⟨_,rfl,HO.o,HB.o⟩
def cmpJ(a b:Int):Int:=if a<b then-1 else if b<a then 1 else 0
theorem nanJ_any(n:Int)(w:World):Calls Tryz.prog 115 #[.int .i64 n] w (Ret0 w (.bool false)):=by
 go_enter Tryz.func115,Tryz.ntmps115
 go_wp2
 go_ret
 exact⟨by simp,rfl⟩
theorem cmpJ_any(a b:Int)(w:World):Calls Tryz.prog 80 #[.int .i64 a,.int .i64 b] w (Ret0 w (.int .i64 (cmpJ a b))):=by
 have hX:a<b/\cmpJ a b= -1\/¬a<b/\b<a/\cmpJ a b=1\/¬a<b/\¬b<a/\cmpJ a b=0:=by
  unfold cmpJ;by_cases h:a<b
  ·exact .inl ⟨h,by simp[h]⟩
  ·by_cases h2:b<a
   ·exact .inr (.inl ⟨h,h2,by simp[h,h2]⟩)
   ·exact .inr (.inr ⟨h,h2,by simp[h,h2]⟩)
 rcases hX with⟨h1,hr⟩|⟨h1,h2,hr⟩|⟨h1,h2,hr⟩<;>rw[hr]<;>clear hr<;>
 (go_enter Tryz.func80,Tryz.ntmps80
  go_wp2_with (go_at_call 115;refine(nanJ_any _ _).mono ?_;rintro e wq ⟨rfl,rfl⟩)
  go_ret
  exact⟨rfl,rfl⟩)
def lexC:List Nat->List Nat->Int
 | [],[]=>0
 | [],_::_=> -1
 |_::_,[]=>1
 |a::x,b::y=>if a<b then-1 else if b<a then 1 else lexC x y
theorem zmE(a b:List Nat)(A B:Option Addr)(ac bc:Nat)(w:World)(ha:a.length<=ac)(hb:b.length<=bc)(zK:a.length<=1000)(hS:Sl w 1 intC A a)(hT:Sl w 1 intC B b):
 Calls Tryz.prog 55 #[.slice A a.length ac,.slice B b.length bc] w (Ret0 w (.int .i64 (lexC a b))):=by
 obtain⟨HS,HT⟩:=yH2 hS hT;obtain⟨R,hR⟩:∃R,R=lexC (a.drop 0) (b.drop 0):=⟨_,rfl⟩
 rw[show lexC a b=R from by rw[hR];rfl];have HR:=zHi hR;clear hS hT hR;go_enter Tryz.func55,Tryz.ntmps55
 go_wp2_with fail
 go_loopw [11] (fun i wr=>∃k:Nat,k<=a.length/\k<=b.length/\i=.int .i64 k/\Hid (wr=w)/\Hid (R=lexC (a.drop k) (b.drop k))) (fun i _=>a.length-(intOf i).toNat)
 case atStart=>exact⟨0,Nat.zero_le _,Nat.zero_le _,rfl,rfl,HR.o⟩
 case round=>
  obtain⟨k,hk,pN,rfl,hw,HX⟩:=hrel;have hw:=hw.o;subst hw;have aQ:(0:Int)<=(k:Int):=Mcy;have hkA:(k:Int)<=(ac:Int):=Mcy;have FV:(k:Int)<=(bc:Int):=Mcy;by_cases ae:k<a.length
  ·have ar:(k:Int)<(a.length:Int):=Mcy;obtain⟨b1,o1,rfl,_,c1⟩:=HS.o.at ae;have i0:=c1 0 _ rfl;rw[Nat.mul_one,Nat.add_zero]at i0;by_cases br:k<b.length
   ·have Kw:(k:Int)<(b.length:Int):=Mcy;have xh:¬(b.length:Int)<=(k:Int):=Mcy;obtain⟨b2,o2,rfl,_,c2⟩:=HT.o.at br;have j0:=c2 0 _ rfl;rw[Nat.mul_one,Nat.add_zero]at j0;have hx:=HX.o;rw[List.drop_eq_getElem_cons ae,List.drop_eq_getElem_cons br,lexC]at hx;obtain⟨ak,qz⟩:=yH2 ae br;generalize a[k]=m at*;generalize b[k]=n at*;obtain⟨au,HC⟩:=yH2 hx (fun W=>cmpJ_any m n W);clear hx c1 c2;by_cases h1:m<n
    ·have hc:cmpJ m n= -1:=by unfold cmpJ;rw[if_pos Mcy]
     have ck:Hid (R= -1):=by show _=_;rw[au.o,if_pos h1]
     exact MaR
    ·by_cases h2:n<m
     ·have hc:cmpJ m n=1:=by unfold cmpJ;rw[if_neg Mcy,if_pos Mcy]
      have ck:Hid (R=1):=by show _=_;rw[au.o,if_neg h1,if_pos h2]
      exact MaR
     ·have hc:cmpJ m n=0:=by unfold cmpJ;rw[if_neg Mcy,if_neg Mcy]
      have ck:Hid (R=lexC (a.drop (k+1)) (b.drop (k+1))):=by show _=_;rw[au.o,if_neg h1,if_neg h2]
      rw[hc]at HC;go_wp2_with (go_at_call 80;go_must(refine(HC.o _).mono ?_);rintro e wq ⟨rfl,rfl⟩)
      go_round
      case rel=>exact⟨k+1,ak.o,qz.o,by go_num,by first|exact True.intro|rfl,ck.o⟩
      case measure=>have:=ak.o;simp only[intOf];omega
   ·have xh:(b.length:Int)<=(k:Int):=Mcy;have hx:=HX.o;rw[List.drop_eq_getElem_cons ae,show b.drop k=[]from List.drop_eq_nil_of_le Mcy,lexC]at hx;have ck:Hid (R=1):=hx;clear hx c1;go_wp2_with fail
    exact Ma4
  ·have ar:¬(k:Int)<(a.length:Int):=Mcy;have hx:=HX.o;rw[show a.drop k=[]from List.drop_eq_nil_of_le Mcy]at hx;by_cases br:k<b.length
   ·have cI:(a.length:Int)<(b.length:Int):=Mcy;rw[List.drop_eq_getElem_cons br,lexC]at hx;have ck:Hid (R= -1):=hx;clear hx;go_wp2_with fail
    exact Ma4
   ·have cI:¬(a.length:Int)<(b.length:Int):=Mcy;rw[show b.drop k=[]from List.drop_eq_nil_of_le Mcy,lexC]at hx;have ck:Hid (R=0):=hx;clear hx;go_wp2_with fail
    exact Ma4
