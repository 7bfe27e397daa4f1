/- Walk of the reference's zdW. -/
import Derived.Test.YtckkbkdcdkhglaaGreatDoorO8
import Derived.Test.YtckkbkdcdkhglaaGreatDoorE5
set_option linter.unusedSimpArgs false
set_option linter.unusedVariables false
set_option maxRecDepth 100000
set_option maxHeartbeats 4000000
namespace Go.Proofs.YtckkbkdcdkhglaaGreatDoor
open Go.RowKit
theorem ziL {α:Type} [DecidableEq α]: ∀ {l m:List α},l.Nodup->(∀x∈l,x∈m)->l.length<=m.length
 | [],_,_,_=>Nat.zero_le _
 |x::l,m,hn,hm=>by
  rw[List.nodup_cons]at hn;have hx:=hm x Mco;have:=ziL (l:=l) (m:=m.erase x) hn.2 (fun y hy=>(List.mem_erase_of_ne (fun e=>hn.1 (by rw[<-e];exact hy))).2 (hm y (by simp[hy])));rw[List.length_erase_of_mem hx]at this;have:=List.length_pos_of_mem hx;simp;omega
def zcm (out:Parts) (L:List ByteArray):Prop:= ∀p∈out,p.1∈L
theorem zeF {out:Parts} {fl:Bool} {n:ByteArray} {f:Rat} {L:List ByteArray} (h:zcm out L) (hn:n∈L):zcm (zcP n f (out,fl)).1 L:=fun p hp=>by
 rcases zkq hp with e|h'
 ·rw[e];exact hn
 ·exact h p h'
mutual
def zc7 (L:List ByteArray):List Tree->Prop
 | []=>True
 |t::l=>zfl L t/\zc7 L l
def zfl (L:List ByteArray):Tree->Prop
 | .leaf n=>n∈L
 | .node l=>zc7 L l
end
mutual
theorem zeG {part:Rat} {L:List ByteArray}: ∀ {l:List Tree} {out:Parts} {fl:Bool},zc7 L l->zcm out L->zcm (zbO part l (out,fl)).1 L
 | [],out,fl,_,h=>by rw[zbO];exact h
 |t::l,out,fl,hl,h=>by
  rw[zc7]at hl;rw[zbO];exact zeG (l:=l) (fl:=(zdP part t (out,fl)).2) hl.2 (zoG hl.1 h)
theorem zoG {part:Rat} {L:List ByteArray}: ∀ {t:Tree} {out:Parts} {fl:Bool},zfl L t->zcm out L->zcm (zdP part t (out,fl)).1 L
 | .leaf n,out,fl,hl,h=>by
   rw[zfl]at hl;rw[zdP];exact zeF h hl
 | .node l,out,fl,hl,h=>by
   rw[zfl]at hl;rw[zdP];exact zeG (l:=l) hl h
end
theorem zlL {L:List ByteArray}: ∀ {l:List Tree},(∀t∈l,zfl L t)->zc7 L l
 | [],_=>by rw[zc7];trivial
 |t::l,h=>by
  rw[zc7];exact⟨h t Mco,zlL fun t' ht=>h t' (by simp[ht])⟩
theorem zfm {s:St} {stems:Bool} {frm:ByteArray} {L:List ByteArray} (hL: ∀c∈s.children,c.2∈L): ∀(f:Nat) (n:ByteArray),zc7 L (zb2 s stems frm f n)
 |0,_=>by rw[show zb2 s stems frm 0 _=[]from rfl,zc7];trivial
 |f+1,n=>by
  refine zlL fun t ht=> ?_
  rw[zf7]at ht;obtain⟨c,hc,h1⟩:=List.mem_filterMap.1 ht;unfold zcQ at h1;split at h1
  ·simp only[Option.some.injEq]at h1;rw[<-h1,zfl];exact hL (n,c) (zdr.1 hc)
  ·split at h1
   ·simp only[Option.some.injEq]at h1;rw[<-h1,zfl];exact zfm hL f c
   ·cases h1
theorem zhh {s:St} {frm:ByteArray} {L:List ByteArray}: ∀ {l out:Parts} {fl:Bool} {rest:Rat},(∀p∈l,p.1∈L)->zcm out L->zcm (zdg s frm l (out,fl) rest).1.1 L
 | [],_,_,_,_,h=>h
 |p::l,out,fl,rest,hl,h=>by
  rw[zdg];split
  ·exact zhh (l:=l) (fun q hq=>hl q MdA) (zeF (fl:=fl) h (hl p Mco))
  ·exact zhh (l:=l) (fun q hq=>hl q MdA) h
theorem ziM {s:St} {law:Law} {n:ByteArray} (hG:GoodParts (zcg s law n).1):(zcg s law n).1.length<=(zbu s n).length+s.children.length+1:=by
 let L:=((zbu s n).map (·.1))++(s.children.map (·.2))++[zcn s n]
 have hL:zcm (zcg s law n).1 L:=by
  have h1: ∀p∈zbu s n,p.1∈L:=fun p hp=>List.mem_append_left _ (List.mem_append_left _ (List.mem_map.2 ⟨p,hp,rfl⟩))
  have h2: ∀c∈s.children,c.2∈L:=fun c hc=>List.mem_append_left _ (List.mem_append_right _ (List.mem_map.2 ⟨c,hc,rfl⟩))
  have h3:zcn s n∈L:=List.mem_append_right _ Mco;have h4:=zhh (s:=s) (frm:=n) (fl:=false) (rest:=1) h1 (show zcm [] L from fun p hp=>by cases hp);have h5:=zfm (stems:=law.stems) (frm:=n) h2 (zaW s) n;unfold zcg;generalize zdg s n (zbu s n) ([],false) 1=y at*;obtain⟨⟨o,f⟩,r⟩:=y;simp only;split
  ·exact zeF h4 h3
  ·split
   ·unfold zcz;exact zeG h5 h4
   ·unfold zcz;exact zeG (fl:=_) h5 (zeF (fl:=f) h4 h3)
 have hn:((zcg s law n).1.map (·.1)).Nodup:=by
  rw[List.nodup_iff_pairwise_ne,List.pairwise_map];exact hG.asc.imp fun h=>zcG h
 have:=ziL (m:=L) hn (fun x hx=>by
  obtain⟨p,hp,rfl⟩:=List.mem_map.1 hx
  exact hL p hp)
 simp only[L,List.length_append,List.length_map,List.length_singleton]at this;exact this
theorem zoH (a b:ByteArray):zae a b=zae b a:=by
 rw[Bool.eq_iff_iff,zat,zat];exact⟨Eq.symm,Eq.symm⟩
theorem zjR (fb sh:Bool) (frm:ByteArray): ∀(l seen:List RPart) (L:List ByteArray) (s:Rat),(∀n,L.any (zae n)=seen.any (fun q=>zae q.name n))->
 zcp fb sh frm l seen s=if(zcW l L&&l.all (fun p=>!(zae p.name frm&&fb)))&&(if sh then l.all (fun p=>za6 16 p.num p.den&&p.num != 0)else l.all (fun p=>p.num==0&&p.den==0))then some (if sh then s+sumQ (zao l)else s)else none
 | [],seen,L,s,h=>by
   rw[zcp];cases sh
   ·simp[zcW]
   ·simp[zcW,zao,sumQ,Rat.add_zero]
 |p::l,seen,L,s,h=>by
  have ih:=fun t=>zjR fb sh frm l (seen++[p]) (p.name::L) t (fun n=>by
   rw[List.any_cons,List.any_append,h n,List.any_cons,List.any_nil,Bool.or_false,Bool.or_comm,zoH n])
  have hs:sumQ (zao (p::l))=p.rat+sumQ (zao l):=rfl;rw[zcp,zcW,h p.name,List.all_cons,List.all_cons,List.all_cons,hs,ih,ih];cases h1:seen.any (fun q=>zae q.name p.name)
  ·cases h2:(zae p.name frm&&fb)
   ·simp only[Bool.or_self,Bool.false_eq_true,if_false,Bool.not_false,Bool.true_and];cases sh
    ·simp only[Bool.not_false,if_true,Bool.false_eq_true,if_false];by_cases hz:p.num=0
     ·by_cases hy:p.den=0
      ·simp[hz,hy]
      ·simp[hz,hy]
     ·simp[hz]
    ·simp only[Bool.not_true,if_true,Bool.false_eq_true,if_false];cases h3:za6 16 p.num p.den
     ·simp
     ·by_cases hz:p.num=0
      ·simp[hz]
      ·have e:s+p.rat+sumQ (zao l)=s+(p.rat+sumQ (zao l)):=McO;simp[hz,e]
   ·simp
  ·simp
theorem zoI (s:Rat):decide (s.num<=(s.den:Int))=decide (s<=1):=by
 rw[Bool.eq_iff_iff,decide_eq_true_eq,decide_eq_true_eq,Rat.le_iff];simp
theorem zmU (s:Rat):(s.num==(s.den:Int))=(s==1):=by
 rw[Bool.eq_iff_iff,beq_iff_eq,beq_iff_eq];constructor
 ·intro h;have h1:=Rat.num_divInt_den s;rw[h]at h1;rw[<-h1];have:=s.den_pos;rw[Rat.divInt_self'];omega
 ·intro h;rw[h];rfl
theorem sumOk_eq (fb sh al:Bool) (frm:ByteArray) (l:List RPart) (hf:fb=true\/ ∀p∈l,zae p.name frm=false):zgV sh al (zcp fb sh frm l [] 0)=zcB sh al frm l:=by
 have h0: ∀n:ByteArray,([]:List ByteArray).any (zae n)=([]:List RPart).any (fun q=>zae q.name n):=fun n=>rfl
 rw[zjR fb sh frm l [] [] 0 h0];have JH:l.all (fun p=>!(zae p.name frm&&fb))=l.all (fun p=>!zae p.name frm):=by
  rcases hf with hf|hf
  ·subst hf;simp
  ·rw[Bool.eq_iff_iff,List.all_eq_true,List.all_eq_true];exact⟨fun _ p hp=>by rw[hf p hp];rfl,fun _ p hp=>by rw[hf p hp];rfl⟩
 rw[JH];unfold zcB;cases sh
 ·simp only[Bool.false_eq_true,if_false];split
  ·rename_i h;rw[h];rfl
  ·rename_i h
   rw[Bool.not_eq_true]at h;rw[h];rfl
 ·simp only[if_true];split
  ·rename_i h
   rw[Bool.and_eq_true,Bool.and_eq_true]at h;rw[h.1.1,h.1.2,h.2];simp only[zgV,Bool.not_true,Bool.false_or,Bool.true_and,Rat.zero_add,zoI,zmU]
  ·rename_i h
   rw[Bool.not_eq_true]at h;simp only[zgV];cases h1:zcW l []<;>cases h2:l.all (fun p=>!zae p.name frm)<;>cases h3:l.all (fun p=>za6 16 p.num p.den&&p.num != 0)<;>simp_all
theorem noB_same {a b:ByteArray} (ha:noB a=false) (hb:noB b=true):zae a b=false:=by
 unfold noB at ha hb;unfold zae;cases h:(a.toList==b.toList)
 ·rfl
 ·rw[beq_iff_eq]at h;rw[h,hb]at ha;cases ha
theorem zhR {f:Form} {frm:ByteArray} {l:List RPart} (hf:f.frm=true\/ ∀p∈l,zae p.name frm=false):zhp f frm l=if f.parts then(!l.isEmpty&&(f.shares||l.length==1))&&zcB f.shares f.all frm l else l.isEmpty:=by
 unfold zhp;rw[sumOk_eq _ _ _ _ _ hf];cases f.parts
 ·simp
 ·cases l.isEmpty
  ·cases f.shares
   ·by_cases h:l.length=1
    ·simp[h]
    ·simp[h]
   ·simp
  ·simp
theorem zkG (d:Deed):zdl d=zaI d:=by
 obtain⟨kd,dy,pl,fr,ps,cl,yr⟩:=d;unfold zdl zaI;simp only;split
 ·rfl
 rename_i h1
 split
 ·rfl
 rename_i h2
 split
 ·rfl
 rename_i h3
 have e4:(ps.any fun p=>!zaR p.name)=!ps.all fun p=>zaR p.name:=by rw[List.not_all_eq_any_not]
 rw[e4];split
 ·rfl
 rename_i h4
 have hn: ∀p∈ps,noB p.name=false:=fun p hp=>by
  cases ha:(ps.all fun p=>zaR p.name)
  ·rw[ha]at h4;simp at h4
  ·exact zgh (List.all_eq_true.1 ha p hp)
 simp only[Bool.not_eq_true',Bool.not_eq_false,zfz]at h1;have hk:kd=0\/kd=1\/kd=2\/kd=3\/kd=4\/kd=5\/kd=6\/kd=7\/kd=8:=Mcl;have hg:noB fr=true-> ∀p∈ps,zae p.name fr=false:=fun hb p hp=>noB_same (hn p hp) hb
 clear h1 h2 h3 h4 hn e4;have Ep:(0:Int)=0:=rfl;rcases hk with rfl|rfl|rfl|rfl|rfl|rfl|rfl|rfl|rfl
 all_goals
  simp only[zfF,zfI,Int.toNat_zero,Int.toNat_one,List.getD_cons_zero,show(2:Int).toNat=2 from rfl,show(3:Int).toNat=3 from rfl,show(4:Int).toNat=4 from rfl,show(5:Int).toNat=5 from rfl,show(6:Int).toNat=6 from rfl,show(7:Int).toNat=7 from rfl,show(8:Int).toNat=8 from rfl,List.getD_cons_succ]
 ·cases hb:noB fr
  ·simp
  ·rw[zhR (f:=⟨_,_,_,_,_,_,_,_⟩) (.inr (hg hb))];cases noB pl<;>cases hy:(yr==0)<;>cases hc:(cl==2)<;>simp
 ·exact M9
 ·exact M9
 ·cases hb:noB fr
  ·simp
  ·rw[zhR (f:=⟨_,_,_,_,_,_,_,_⟩) (.inr (hg hb))];cases noB pl<;>cases hy:(yr==0)<;>cases hc:(cl==0)<;>simp_all
 ·exact M9
 ·exact Map
 ·exact Map
 ·exact Map
 ·exact M9
end Go.Proofs.YtckkbkdcdkhglaaGreatDoor
namespace Go.Proofs.YtckkbkdcdkhglaaGreatDoor
open Go.RowKit Go.Shelf
attribute [local go_sem] World.cell?_alloc_mark zag za5 zaq za8 zaw zax zay zaz za0 za1 za2
attribute [local go_sem] zap zad
def cmpJ (a b:Int):Int:=if a<b then-1 else if b<a then 1 else 0
theorem nanJ_any (n:Int) (w:World):Calls Tryz.prog 117 #[.int .i64 n] w (Ret0 w (.bool false)):=by
 go_enter Tryz.func117,Tryz.ntmps117
 go_wp2
 go_ret
 exact⟨by simp,rfl⟩
theorem cmpJ_any (a b:Int) (w:World):Calls Tryz.prog 90 #[.int .i64 a, .int .i64 b] w (Ret0 w (.int .i64 (cmpJ a b))):=by
 have hX:a<b/\cmpJ a b= -1\/ ¬a<b/\b<a/\cmpJ a b=1\/ ¬a<b/\ ¬b<a/\cmpJ a b=0:=by
  unfold cmpJ;by_cases h:a<b
  ·exact .inl ⟨h,by simp[h]⟩
  ·by_cases h2:b<a
   ·exact .inr (.inl ⟨h,h2,by simp[h,h2]⟩)
   ·exact .inr (.inr ⟨h,h2,by simp[h,h2]⟩)
 rcases hX with⟨h1,hr⟩|⟨h1,h2,hr⟩|⟨h1,h2,hr⟩<;>rw[hr]<;>clear hr<;>
 (go_enter Tryz.func90,Tryz.ntmps90
  go_wp2_with (go_at_call 117;refine(nanJ_any _ _).mono ?_;rintro e wq ⟨rfl,rfl⟩)
  go_ret
  exact⟨rfl,rfl⟩)
def lexC:List Nat->List Nat->Int
 | [],[]=>0
 | [],_::_=> -1
 |_::_,[]=>1
 |a::x,b::y=>if a<b then-1 else if b<a then 1 else lexC x y
theorem zmV (a b:List Nat) (A B:Option Addr) (ac bc:Nat) (w:World) (ha:a.length<=ac) (hb:b.length<=bc) (Jo:a.length<=1000) (hS:Sl w 1 intC A a) (hT:Sl w 1 intC B b):
 Calls Tryz.prog 52 #[.slice A a.length ac, .slice B b.length bc] w (Ret0 w (.int .i64 (lexC a b))):=by
 have HS:=zHi hS;have HT:=zHi hT;obtain⟨R,hR⟩: ∃R,R=lexC (a.drop 0) (b.drop 0):=⟨_,rfl⟩
 rw[show lexC a b=R from by rw[hR];rfl];have HR:=zHi hR;clear hS hT hR;go_enter Tryz.func52,Tryz.ntmps52
 go_wp2_with fail
 go_loopw [11] (fun i wr=> ∃k:Nat,k<=a.length/\k<=b.length/\i= .int .i64 k/\Hid (wr=w)/\Hid (R=lexC (a.drop k) (b.drop k))) (fun i _=>a.length-(intOf i).toNat)
 case atStart=>exact⟨0,Nat.zero_le _,Nat.zero_le _,rfl,rfl,HR.o⟩
 case round=>
  obtain⟨k,hk,pF,rfl,hw,HX⟩:=hrel;have hw:=hw.o;subst hw;have aT:(0:Int)<=(k:Int):=Mcl;have hkA:(k:Int)<=(ac:Int):=Mcl;have hkB:(k:Int)<=(bc:Int):=Mcl;by_cases aa:k<a.length
  ·have ar:(k:Int)<(a.length:Int):=Mcl;obtain⟨b1,o1,rfl,_,c1⟩:=HS.o.at aa;have i0:=c1 0 _ rfl;rw[Nat.mul_one,Nat.add_zero]at i0;by_cases bD:k<b.length
   ·have Kb:(k:Int)<(b.length:Int):=Mcl;have xh: ¬(b.length:Int)<=(k:Int):=Mcl;obtain⟨b2,o2,rfl,_,c2⟩:=HT.o.at bD;have j0:=c2 0 _ rfl;rw[Nat.mul_one,Nat.add_zero]at j0;have hx:=HX.o;rw[List.drop_eq_getElem_cons aa,List.drop_eq_getElem_cons bD,lexC]at hx;have aq:=zHi aa;have qu:=zHi bD;generalize a[k]=m at*;generalize b[k]=n at*;have au:=zHi hx;have HC:=zHi (fun W=>cmpJ_any m n W);clear hx c1 c2;by_cases h1:m<n
    ·have hc:cmpJ m n= -1:=by unfold cmpJ;rw[if_pos Mcl]
     have cm:Hid (R= -1):=by show _=_;rw[au.o,if_pos h1]
     exact MaU
    ·by_cases h2:n<m
     ·have hc:cmpJ m n=1:=by unfold cmpJ;rw[if_neg Mcl,if_pos Mcl]
      have cm:Hid (R=1):=by show _=_;rw[au.o,if_neg h1,if_pos h2]
      exact MaU
     ·have hc:cmpJ m n=0:=by unfold cmpJ;rw[if_neg Mcl,if_neg Mcl]
      have cm:Hid (R=lexC (a.drop (k+1)) (b.drop (k+1))):=by show _=_;rw[au.o,if_neg h1,if_neg h2]
      rw[hc]at HC;go_wp2_with (go_at_call 90;go_must(refine(HC.o _).mono ?_);rintro e wq ⟨rfl,rfl⟩)
      go_round
      case rel=>exact⟨k+1,aq.o,qu.o,by go_num,by first|exact True.intro|rfl,cm.o⟩
      case measure=>have:=aq.o;simp only[intOf];omega
   ·have xh:(b.length:Int)<=(k:Int):=Mcl;have hx:=HX.o;rw[List.drop_eq_getElem_cons aa,show b.drop k=[]from List.drop_eq_nil_of_le Mcl,lexC]at hx;have cm:Hid (R=1):=hx;clear hx c1;go_wp2_with fail
    exact Ma5
  ·have ar: ¬(k:Int)<(a.length:Int):=Mcl;have hx:=HX.o;rw[show a.drop k=[]from List.drop_eq_nil_of_le Mcl]at hx;by_cases bD:k<b.length
   ·have cI:(a.length:Int)<(b.length:Int):=Mcl;rw[List.drop_eq_getElem_cons bD,lexC]at hx;have cm:Hid (R= -1):=hx;clear hx;go_wp2_with fail
    exact Ma5
   ·have cI: ¬(a.length:Int)<(b.length:Int):=Mcl;rw[show b.drop k=[]from List.drop_eq_nil_of_le Mcl,lexC]at hx;have cm:Hid (R=0):=hx;clear hx;go_wp2_with fail
    exact Ma5
theorem elInt:ElTy Tryz.prog 54 3 1 8:=zd5 (z:= .int .i64 0) Mcm Mcm rfl Mcn
def TzTab (w:World):Prop:=TabAt 3 Lib.deBruijn64tab w/\3<w.heap.size
theorem TzTab.keep {w W:World} {n:Nat} (h:TzTab w) (hB:Below n w W) (hn:w.heap.size<=n:=by first|exact Nat.le_refl _|omega):TzTab W:=
 ⟨fun j hj=>(zah hB (Nat.lt_of_lt_of_le h.2 hn)).trans (h.1 j hj),Nat.lt_of_lt_of_le h.2 hB.size⟩
theorem tz_any (x:Nat) (hx:x<4096) (w:World) (hT:TzTab w):Calls Tryz.prog 89 #[.int .u64 x] w (Ret0 w (.int .i64 (Lib.ctz 64 x))):=
 (Any7.bits_TrailingZeros tzBits x Mcl w (fun _=>hT.1)).mono fun _ _ h=>⟨h.1,h.2.symm⟩
theorem sl_int {w:World} {b n:Nat} {t:TypeId} {fr:Nat×Nat} (h:w.heap[b]?=some (.cells #[.int .i64 (n:Int)] t fr)):Sl w 1 intC (some ⟨b,0,none⟩) [n]:=fun _=>⟨b,0,rfl,zab h,fun k y hy j u hu=>by
 have hk:k=0:=Mcx;subst hk;simp only[List.getElem?_cons_zero,Option.some.injEq]at hy;subst hy;match j,hu with
 |0,hu=>simp[intC]at hu;simp[World.cell?,h,<-hu]
 |j+1,hu=>simp[intC]at hu⟩
theorem zlM (a b:Nat) (ha:a<4611686018427387904) (hb:b<4611686018427387904):bits .and .i64 (a:Int) (b:Int)=((a &&& b:Nat):Int):=by
 have hx:a &&& b<=a:=Nat.and_le_left;have h1:(BitVec.ofInt 64 (a:Int)).toNat=a:=by
  rw[BitVec.ofInt_natCast,BitVec.toNat_ofNat];exact Nat.mod_eq_of_lt Mcl
 have h2:(BitVec.ofInt 64 (b:Int)).toNat=b:=by
  rw[BitVec.ofInt_natCast,BitVec.toNat_ofNat];exact Nat.mod_eq_of_lt Mcl
 show IntKind.i64.wrap ((BitVec.ofInt 64 (a:Int) &&& BitVec.ofInt 64 (b:Int)).toNat:Int)=_;rw[BitVec.toNat_and,h1,h2,IntKind.wrap_i64];omega
theorem znV (x:Nat) (hx:x<4096) (h0:x≠0):bits .and .i64 (x:Int) ((x:Int)-1)=((x &&& (x-1):Nat):Int):=by
 rw[show((x:Int)-1)=((x-1:Nat):Int) by omega];exact zlM x (x-1) Mcl Mcl
theorem zlN (n set:Nat) (w:World) (hn:n<=12) (hx:set<2^n) (hT:TzTab w):
 Calls Tryz.prog 51 #[.int .i64 set] w (fun e w'=> ∃v,e= .returned v/\OwnS w' w.heap.size 3 1 intC v (zcT n set)/\Below w.heap.size w w'):=by
 have HT:=zHi hT;clear hT;go_enter Tryz.func51,Tryz.ntmps51
 go_wp2_with fail
 go_loopw [0,3] (fun v0 v wr=> ∃(x:Nat) (acc:List Nat),v0= .int .i64 x/\x<2^n/\Hid (zcT n set=acc++zcT n x)/\OwnS wr w.heap.size 3 1 intC v acc/\Below w.heap.size w wr) (fun v0 _ _=>(intOf v0).toNat)
 case atStart=>exact⟨set,[],rfl,hx,rfl,OwnS.nil,Below.refl _ _⟩
 case round=>
  obtain⟨x,acc,rfl,eR,HX,ae,hB⟩:=hrel;obtain⟨VA,vc,rfl,_,kC⟩:=ae.sl zg1;have HO:=zHi ae;have HB:=zHi hB;have nv:x<4096:=Nat.lt_of_lt_of_le eR (Nat.pow_le_pow_right (n:=2) Mcn hn);by_cases h0:x=0
  ·subst h0;have Dz:=HX.o;rw[bits_none,List.append_nil]at Dz;have od:=zHi Dz;clear Dz ae;go_wp2_with fail
   go_ret
   exact⟨_,rfl,by rw[od.o];exact HO.o,HB.o⟩
  ·have ai: ¬(x:Int)=0:=Mcl;have hcv:IntKind.u64.wrap (x:Int)=(x:Int):=by rw[IntKind.wrap_u64];omega
   have Ip:=zHi (fun W (hW:Below wr.heap.size wr W)=>tz_any x nv W ((HT.o.keep HB.o).keep hW));have jM:acc.length<=12:=by
    have h1:=congrArg List.length HX.o;have h2:(zcT n set).length<=n:=by unfold zcT;exact Nat.le_trans (List.length_filter_le _ _) Mco
    rw[List.length_append]at h1;omega
   have aK:=hB.size;clear ae hB;go_upto_region 3 with
    (first
      |(go_at_call 89
        go_must(refine(Ip.o _ Bw).mono ?_)
        rintro e wq ⟨rfl,rfl⟩)
      |(at_builtin
        go_loud(refine zav (v:= .slice VA acc.length vc) (n:=acc.length) (m:=1) rfl _ _ rfl elInt zg1 intC_one rfl (xs:=acc) (ys:=[Lib.ctz 64 x]) (HO.o.keep (n:=wr.heap.size) Bw) rfl rfl rfl (sl_int (zar _ _ _ rfl)) McJ Mcl Mcq ?_)
        intro v3 w3 h1 h2 h3;have av:=Below.grown (B:=w.heap.size) (a:=w) (HB.o.trans (Below.mono (B:=wr.heap.size) (zac (Below.refl _ _) _) aK)) h2 Mcq (fun j hj=>(HO.o.ge j hj).1);have H1:=zHi h1;have aJ:=zHi av
        clear h1 h2 h3 av))
   go_wp2_with fail
   go_round
   case rel=>
    rw[znV x nv h0];refine⟨x &&& (x-1),acc++[Lib.ctz 64 x],rfl,ziy eR,?_,H1.o,aJ.o⟩;show _=_;rw[HX.o,bits_step hn eR h0];simp
   case measure=>
    rw[znV x nv h0];have:=zls h0;simp only[intOf];omega
theorem zmW (l:List Rec) (A:Option Addr) (c:Nat) (w:World) (hc:l.length<=c) (hl:l.length<=1000) (hk: ∀x∈l,x.kind≠2) (hS:Sl w 8 Rec.cells A l):
 Calls Tryz.prog 94 #[.slice A l.length c] w (Ret w (.bool false)):=by
 have da:= @run_makeMap Tryz.prog;have HS:=zHi hS;have HK:=zHi hk;clear hS hk;go_enter Tryz.func94,Tryz.ntmps94
 go_upto_region 3 with fail
 clear da;go_loopw [13] (fun i wr=> ∃k:Nat,k<=l.length/\i= .int .i64 k/\MapS wr w.heap.size ekS (fun v:Value=>v) ([]:List (ByteArray×Value))/\Below w.heap.size w wr) (fun i _=>l.length-(intOf i).toNat)
 case atStart=>exact⟨0,Nat.zero_le _,rfl,MapS.new w,Bw⟩
 case round=>
  obtain⟨k,hk,rfl,hm,hB⟩:=hrel;have HB:=zHi hB;have aK:=hB.size;by_cases aa:k<l.length
  ·obtain⟨b,off,hA,hb,ah⟩:=(HS.o.keep hB).at aa;have cf:=HK.o _ (List.getElem_mem aa);have aq:=zHi aa;generalize l[k]=x at*;obtain⟨kd,nm,ot,pl,dy,tl,nu,de⟩:=x;have i0:wr.cell? ⟨b,off+k*8,none⟩=some (.int .i64 kd):=ah 0 _ rfl;have i1:wr.cell? ⟨b,off+k*8+1,none⟩=some (.string nm):=ah 1 _ rfl;have i2:wr.cell? ⟨b,off+k*8+2,none⟩=some (.string ot):=ah 2 _ rfl;have i3:wr.cell? ⟨b,off+k*8+3,none⟩=some (.string pl):=ah 3 _ rfl;have i4:wr.cell? ⟨b,off+k*8+4,none⟩=some (.int .i64 dy):=ah 4 _ rfl;have i5:wr.cell? ⟨b,off+k*8+5,none⟩=some (.int .i64 tl):=ah 5 _ rfl;have i6:wr.cell? ⟨b,off+k*8+6,none⟩=some (.int .i64 nu):=ah 6 _ rfl;have i7:wr.cell? ⟨b,off+k*8+7,none⟩=some (.int .i64 de):=ah 7 _ rfl;have ar:(k:Int)<(l.length:Int):=Mcl;have aT:(0:Int)<=(k:Int):=Mcl;have fN:(k:Int)<=(c:Int):=Mcl;simp only at cf;have HM:=zHi hm;subst hA;clear ah hm hB aa;go_wp2_with fail
   go_round
   case rel=>exact⟨k+1,aq.o,by go_num,HM.o.below (n:=wr.heap.size) Bw,HB.o.trans (Below.mono (B:=wr.heap.size) Bw aK)⟩
   case measure=>have:=aq.o;simp only[intOf];omega
  ·have ar: ¬(k:Int)<(l.length:Int):=Mcl;obtain⟨W1,rfl⟩: ∃x,x=wr:=⟨_,rfl⟩
   have hIs:w.heap.size<W1.heap.size:=hm.at.lt;obtain⟨Dh,vX⟩:=zj1 (P:=Tryz.prog) hm (t:=83) Tryz.underlying83;generalize hm.choose_spec.choose=cc at*;generalize hm.choose=ce at*;have Ba:=zHi vX;clear vX hB hm aa;go_upto_region 9 with fail
   clear Dh;go_loopg [6] 1 (fun gg v wr=>RangeAt wr w.heap.size W1.heap.size ekS (fun v:Value=>v) ([]:List (ByteArray×Value)) []/\Below W1.heap.size W1 wr/\0<gg)
   case atStart=>exact⟨Ba.o,Bw,by omega⟩
   case round=>
    obtain⟨sy,cE,b9⟩:=hrel;rcases zla (P:=Tryz.prog) sy 0 with⟨h0,hrun⟩|⟨i,p,w',hi,_⟩
    ·have q9:=zHi (HB.o.trans (cE.mono HB.o.size));clear sy h0;go_wp2_with fail
     go_ret
     exact Ret.of rfl (q9.o.trans (Below.mono Bw q9.o.size))
    ·simp at hi
theorem zlO (l:List Rec) (A:Option Addr) (c:Nat) (w:World) (hc:l.length<=c) (hl:l.length<=1000) (hk: ∀x∈l,x.kind≠3) (hS:Sl w 8 Rec.cells A l):
 Calls Tryz.prog 95 #[.slice A l.length c] w (Ret w (.bool false)):=by
 have da:= @run_makeMap Tryz.prog;have HS:=zHi hS;have HK:=zHi hk;clear hS hk;go_enter Tryz.func95,Tryz.ntmps95
 go_upto_region 4 with fail
 clear da;go_loopw [12] (fun i wr=> ∃k:Nat,k<=l.length/\i= .int .i64 k/\Below w.heap.size w wr) (fun i _=>l.length-(intOf i).toNat)
 case atStart=>exact⟨0,Nat.zero_le _,rfl,Bw⟩
 case round=>
  obtain⟨k,hk,rfl,hB⟩:=hrel;have HB:=zHi hB;have aK:=hB.size;by_cases aa:k<l.length
  ·obtain⟨b,off,hA,hb,ah⟩:=(HS.o.keep hB).at aa;have cf:=HK.o _ (List.getElem_mem aa);have aq:=zHi aa;generalize l[k]=x at*;obtain⟨kd,nm,ot,pl,dy,tl,nu,de⟩:=x;have i0:wr.cell? ⟨b,off+k*8,none⟩=some (.int .i64 kd):=ah 0 _ rfl;have i1:wr.cell? ⟨b,off+k*8+1,none⟩=some (.string nm):=ah 1 _ rfl;have i2:wr.cell? ⟨b,off+k*8+2,none⟩=some (.string ot):=ah 2 _ rfl;have i3:wr.cell? ⟨b,off+k*8+3,none⟩=some (.string pl):=ah 3 _ rfl;have i4:wr.cell? ⟨b,off+k*8+4,none⟩=some (.int .i64 dy):=ah 4 _ rfl;have i5:wr.cell? ⟨b,off+k*8+5,none⟩=some (.int .i64 tl):=ah 5 _ rfl;have i6:wr.cell? ⟨b,off+k*8+6,none⟩=some (.int .i64 nu):=ah 6 _ rfl;have i7:wr.cell? ⟨b,off+k*8+7,none⟩=some (.int .i64 de):=ah 7 _ rfl;have ar:(k:Int)<(l.length:Int):=Mcl;have aT:(0:Int)<=(k:Int):=Mcl;have fN:(k:Int)<=(c:Int):=Mcl;simp only at cf;subst hA;clear ah hB aa;obtain⟨WZ,iv⟩: ∃WZ,WZ=(wr.alloc (.cells #[.int .i64 kd, .string nm, .string ot, .string pl, .int .i64 dy, .int .i64 tl, .int .i64 nu, .int .i64 de] 60)).alloc (.cells #[.string pl, .int .i64 dy] 177):=⟨_,rfl⟩
   have z0:WZ.cell? ⟨wr.heap.size,0,none⟩=some (.int .i64 kd):=by rw[iv];simp[go_sem]
   have fx:wr.heap.size+2=WZ.heap.size:=by rw[iv];simp
   have io:Below wr.heap.size wr WZ:=by rw[iv];exact Bw
   have dR:=zHi (HB.o.trans (io.mono aK));go_upto_region 7 with fail
   rw[<-iv];clear iv io i0 i1 i2 i3 i4 i5 i6 i7;go_quiet (fail)
   go_wp2_with fail
   go_round
   case rel=>exact⟨k+1,aq.o,by go_num,zd4 dR.o _⟩
   case measure=>have:=aq.o;simp only[intOf];omega
  ·have ar: ¬(k:Int)<(l.length:Int):=Mcl;clear hB;exact Mby
def zfn (d:Deed):Bool:=!(decide (20<d.place.size)||decide (20<d.frm.size)||decide (10<d.to.length))&&d.to.all fun p=>!decide (20<p.name.size)
def fewP (ls:List Law) (ds:List Deed):Bool:=!(decide (12<ls.length)||decide (14<ds.length))&&ds.all zfn
theorem zoJ {d:Deed} (h:zfn d=true):zdv d:=by
 unfold zfn at h;simp at h;obtain⟨⟨⟨h1,h2⟩,h3⟩,h4⟩:=h;exact⟨by omega,by omega,fun p hp=>by have:=h4 p hp;omega,by omega⟩
theorem znW {ls:List Law} {ds:List Deed} (h:fewP ls ds=true):(∀d∈ds,zdv d)/\ls.length<=12/\ds.length<=14/\(∀d∈ds,d.to.length<=10):=by
 unfold fewP at h;simp at h;obtain⟨⟨h1,h2⟩,h3⟩:=h;refine⟨fun d hd=>zoJ (h3 d hd),h1,h2,fun d hd=> ?_⟩;have:=h3 d hd;unfold zfn at this;simp at this;exact this.1.2
theorem brief_any (d:Deed) (B:Option Addr) (c:Nat) (w:World) (hc:d.to.length<=c) (hS:Sl w 3 RPart.cells B d.to):
 Calls Tryz.prog 24 #[d.v B c] w (Ret w (.bool (zfn d))):=by
 obtain⟨kd,dy,pl,fr,ts,cl,yr⟩:=d;have HS:=zHi hS;obtain⟨R,hR⟩: ∃R,R=zfn ⟨kd,dy,pl,fr,ts,cl,yr⟩:=⟨_,rfl⟩
 rw[<-hR];unfold zfn at hR;unfold Deed.v;simp only at hR hc hS⊢;clear hS;go_enter Tryz.func24,Tryz.ntmps24
 by_cases l1:20<pl.size
 ·have HE:Hid (R=false):=by show _=_;rw[hR,decide_eq_true l1];rfl
  have q1:(20:Int)<(pl.size:Int):=Mcl;exact Man
 have q1: ¬(20:Int)<(pl.size:Int):=Mcl;by_cases l2:20<fr.size
 ·have HE:Hid (R=false):=by show _=_;rw[hR,decide_eq_true l2];simp
  have q2:(20:Int)<(fr.size:Int):=Mcl;exact Man
 have q2: ¬(20:Int)<(fr.size:Int):=Mcl;by_cases l3:10<ts.length
 ·have HE:Hid (R=false):=by show _=_;rw[hR,decide_eq_true l3];simp
  have q3:(10:Int)<(ts.length:Int):=Mcl;exact Man
 have q3: ¬(10:Int)<(ts.length:Int):=Mcl;have uW:Hid (R=(ts.drop 0).all fun p=>!decide (20<p.name.size)):=by
  show _=_;rw[hR,decide_eq_false l1,decide_eq_false l2,decide_eq_false l3,List.drop_zero];rfl
 clear hR;go_upto_region 3 with fail
 have k4:(w.alloc (.cells #[.int .i64 kd, .int .i64 dy, .string pl, .string fr, .slice B ts.length c, .int .i64 cl, .int .i64 yr] 68)).cell? ⟨w.heap.size,4,none⟩=some (.slice B ts.length c):=McN;have hB:Below w.heap.size w (w.alloc (.cells #[.int .i64 kd, .int .i64 dy, .string pl, .string fr, .slice B ts.length c, .int .i64 cl, .int .i64 yr] 68)):=Bw;generalize w.alloc (.cells #[.int .i64 kd, .int .i64 dy, .string pl, .string fr, .slice B ts.length c, .int .i64 cl, .int .i64 yr] 68)=W at*;have jY:=zHi (HS.o.keep hB);have HB:=zHi hB;clear hB HS;go_upto_region 4 with fail
 go_loopw [3] (fun i wr=> ∃k:Nat,k<=ts.length/\i= .int .i64 k/\W=wr/\Hid (R=(ts.drop k).all fun p=>!decide (20<p.name.size))) (fun i _=>ts.length-(intOf i).toNat)
 case atStart=>exact⟨0,Nat.zero_le _,rfl,rfl,uW.o⟩
 case round=>
  obtain⟨k,hk,rfl,rfl,HX⟩:=hrel;by_cases aa:k<ts.length
  ·obtain⟨b,off,rfl,hb,ah⟩:=jY.o.at aa;have hx:=HX.o;rw[List.drop_eq_getElem_cons aa,List.all_cons]at hx;have au:=zHi hx;have aq:=zHi aa;generalize ts[k]=x at*;obtain⟨nm,nu,de⟩:=x;have i0:W.cell? ⟨b,off+k*3,none⟩=some (.string nm):=ah 0 _ rfl;have ar:(k:Int)<(ts.length:Int):=Mcl;have aT:(0:Int)<=(k:Int):=Mcl;clear ah hx aa;by_cases l5:20<nm.size
   ·have HE:Hid (R=false):=by show _=_;rw[au.o];simp[l5]
    have q5:(20:Int)<(nm.size:Int):=Mcl;exact MU
   ·have q5: ¬(20:Int)<(nm.size:Int):=Mcl;have HE:Hid (R=(ts.drop (k+1)).all fun p=>!decide (20<p.name.size)):=by show _=_;rw[au.o];simp[l5]
    go_wp2_with fail
    exact MH
  ·have ar: ¬(k:Int)<(ts.length:Int):=Mcl;have HE:Hid (R=true):=by show _=_;rw[HX.o,List.drop_of_length_le Mcl];rfl
   exact MU
theorem few_any (ls:List Law) (ds:List Deed) (LA:Option Addr) (n nc:Nat) (DA:Option Addr) (m mc:Nat) (w:World) (hR:RightsIn w ls ds LA n nc DA m mc):
 Calls Tryz.prog 6 #[.agg #[.slice LA n nc, .slice DA m mc]] w (Ret w (.bool (fewP ls ds))):=by
 obtain⟨rfl,rfl,xE,so,_,hD⟩:=hR;have HD:=zHi hD;obtain⟨R,hR⟩: ∃R,R=fewP ls ds:=⟨_,rfl⟩
 rw[<-hR];unfold fewP at hR;clear hD;go_enter Tryz.func6,Tryz.ntmps6
 by_cases l1:12<ls.length
 ·have HE:Hid (R=false):=by show _=_;rw[hR,decide_eq_true l1];rfl
  have q1:(12:Int)<(ls.length:Int):=Mcl;exact Man
 have q1: ¬(12:Int)<(ls.length:Int):=Mcl;by_cases l2:14<ds.length
 ·have HE:Hid (R=false):=by show _=_;rw[hR,decide_eq_true l2];simp
  have q2:(14:Int)<(ds.length:Int):=Mcl;exact Man
 have q2: ¬(14:Int)<(ds.length:Int):=Mcl;have uW:Hid (R=(ds.drop 0).all zfn):=by
  show _=_;rw[hR,decide_eq_false l1,decide_eq_false l2,List.drop_zero];rfl
 clear hR;go_upto_region 3 with fail
 have k4:(w.alloc (.cells #[.slice LA ls.length nc, .slice DA ds.length mc] 25)).cell? ⟨w.heap.size,1,none⟩=some (.slice DA ds.length mc):=McN;have hB:Below w.heap.size w (w.alloc (.cells #[.slice LA ls.length nc, .slice DA ds.length mc] 25)):=Bw;have hsz:w.heap.size<(w.alloc (.cells #[.slice LA ls.length nc, .slice DA ds.length mc] 25)).heap.size:=Mco;generalize w.alloc (.cells #[.slice LA ls.length nc, .slice DA ds.length mc] 25)=W at*;have jF:=zHi (HD.o.keep zcf hB);have HB:=zHi hB;clear hB HD;go_upto_region 4 with fail
 go_loopw [3] (fun i wr=> ∃k:Nat,k<=ds.length/\i= .int .i64 k/\Hid (R=(ds.drop k).all zfn)/\Below W.heap.size W wr) (fun i _=>ds.length-(intOf i).toNat)
 case atStart=>exact⟨0,Nat.zero_le _,rfl,uW.o,Below.refl _ _⟩
 case round=>
  obtain⟨k,hk,rfl,HX,ny⟩:=hrel;have j4:wr.cell? ⟨w.heap.size,1,none⟩=some (.slice DA ds.length mc):=(zah ny hsz).trans k4;have zJ:=ny.size;by_cases aa:k<ds.length
  ·obtain⟨b,off,cs,hA,hb,hr,ah⟩:=(jF.o.keep zcf ny).at aa;have hx:=HX.o;rw[List.drop_eq_getElem_cons aa,List.all_cons]at hx;have au:=zHi hx;have aq:=zHi aa;generalize ds[k]=x at*;obtain⟨B,c,hc,rfl,hS⟩:=hr;have yH:=zHi (fun W' (h:Below wr.heap.size wr W')=>brief_any x B c W' hc (hS.keep h));unfold Deed.v at yH;subst hA;have i0:=ah 0 _ rfl;have i1:=ah 1 _ rfl;have i2:=ah 2 _ rfl;have i3:=ah 3 _ rfl;have i4:=ah 4 _ rfl;have i5:=ah 5 _ rfl;have i6:=ah 6 _ rfl;simp only[Nat.add_zero]at i0;have ar:(k:Int)<(ds.length:Int):=Mcl;have aT:(0:Int)<=(k:Int):=Mcl;have aW:=zHi ny;generalize zfn x=q at*;clear ah hx aa hS ny;cases q
   ·have HE:Hid (R=false):=MdC;go_wp2_with (go_at_call 24;go_must(refine(yH.o _ Bw).mono ?_);rintro e wq ⟨rfl,z,rfl⟩)
    go_ret
    exact Ret.of (zaP HE.o.symm) (HB.o.trans ((aW.o.trans (Below.mono (B:=wr.heap.size) Bw zJ)).mono HB.o.size))
   ·have HE:Hid (R=(ds.drop (k+1)).all zfn):=MdC;go_wp2_with (go_at_call 24;go_must(refine(yH.o _ Bw).mono ?_);rintro e wq ⟨rfl,z,rfl⟩)
    go_round
    case rel=>exact⟨k+1,aq.o,by go_num,HE.o,aW.o.trans (Below.mono (B:=wr.heap.size) Bw zJ)⟩
    case measure=>have:=aq.o;simp only[intOf];omega
  ·have ar: ¬(k:Int)<(ds.length:Int):=Mcl;have HE:Hid (R=true):=by show _=_;rw[HX.o,List.drop_of_length_le Mcl];rfl
   have aW:=zHi ny;clear ny;go_wp2_with fail
   go_ret
   exact Ret.of (zaP HE.o.symm) (HB.o.trans (aW.o.mono HB.o.size))
def zg8 (w:World) (xs:Parts) (e:Ending) (w':World):Prop:= ∃v,e= .returned v/\OwnS w' w.heap.size 63 3 zaa v xs/\Below w.heap.size w w'
theorem zdd {w:World} {b:Nat} {t:TypeId} {fr:Nat×Nat} {x:ByteArray×Rat} (h:w.heap[b]?=some (.cells #[.string x.1, .int .i64 x.2.num, .int .i64 x.2.den] t fr)):Sl w 3 zaa (some ⟨b,0,none⟩) [x]:=fun _=>
 ⟨b,0,rfl,zab h,fun k y hk j u hu=>by
   match k,hk with
   |0,hk=>
    obtain rfl:x=y:=by simpa using hk
    simp only[World.cell?,h];match j,hu with
    |0,hu|1,hu|2,hu=>exact hu⟩
theorem zoK {l:Parts} {k:Nat} (h:k<l.length):zaE (l.drop k)=(bigQ l[k].2||zaE (l.drop (k+1))):=by
 rw[List.drop_eq_getElem_cons h];rfl
theorem zdG (l:Parts) (A:Option Addr) (c:Nat) (w:World) (hl:l.length<=1000000000) (hS:Sl w 3 zaa A l):Calls Tryz.prog 44 #[.slice A l.length c] w (Ret0 w (.bool (zaE l))):=by
 have HS:=zHi hS;obtain⟨R,hR⟩: ∃R,R=zaE l:=⟨_,rfl⟩
 rw[<-hR];have HR:=zHi hR;clear hS hR;go_enter Tryz.func44,Tryz.ntmps44
 go_upto_region 2 with fail
 go_loopw [3] (fun i wr=> ∃k:Nat,k<=l.length/\i= .int .i64 k/\w=wr/\Hid (R=zaE (l.drop k))) (fun i _=>l.length-(intOf i).toNat)
 case atStart=>exact⟨0,Nat.zero_le _,rfl,rfl,HR.o⟩
 case round=>
  obtain⟨k,hk,rfl,rfl,HX⟩:=hrel;by_cases aa:k<l.length
  ·obtain⟨b,off,rfl,hb,ah⟩:=HS.o.at aa;have hx:=HX.o;rw[zoK aa]at hx;have au:=zHi hx;have aq:=zHi aa;generalize l[k]=x at*;obtain⟨nm,q⟩:=x;have i2:w.cell? ⟨b,off+k*3+2,none⟩=some (.int .i64 q.den):=ah 2 _ rfl;have ar:(k:Int)<(l.length:Int):=Mcl;have aT:(0:Int)<=(k:Int):=Mcl;clear ah hx aa;by_cases hs:1000000000<(q.den:Int)
   ·have HE:Hid (R=true):=by show _=_;rw[au.o];simp[bigQ,hs]
    exact Maa
   ·have HE:Hid (R=zaE (l.drop (k+1))):=by show _=_;rw[au.o];simp[bigQ,hs]
    go_wp2_with fail
    exact MH
  ·have ar: ¬(k:Int)<(l.length:Int):=Mcl;have HE:Hid (R=false):=by show _=_;rw[HX.o,List.drop_of_length_le Mcl];rfl
   exact Maa
theorem zhx {l:Parts} {n:ByteArray} {k:Nat} (h:k<l.length):zas (l.take (k+1)) n=zas (l.take k) n++(if zae l[k].1 n then[]else[l[k]]):=by
 unfold zas;rw[List.take_add_one,List.getElem?_eq_getElem h,List.filter_append];simp only[Option.toList_some,List.filter_cons,List.filter_nil];cases zae l[k].1 n<;>rfl
theorem zhy (l:Parts) (n:ByteArray) (A:Option Addr) (c:Nat) (w:World) (hl:l.length<=100000) (hS:Sl w 3 zaa A l):Calls Tryz.prog 166 #[.slice A l.length c, .string n] w (zg8 w (zas l n)):=by
 have HS:=zHi hS;unfold zg8;clear hS;go_enter Tryz.func166,Tryz.ntmps166
 go_upto_region 3 with fail
 go_loopw [5,6] (fun v i wr=> ∃k:Nat,k<=l.length/\i= .int .i64 k/\OwnS wr w.heap.size 63 3 zaa v (zas (l.take k) n)/\Below w.heap.size w wr) (fun _ i _=>l.length-(intOf i).toNat)
 case atStart=>exact⟨0,Nat.zero_le _,rfl,OwnS.nil,Below.refl _ _⟩
 case round=>
  obtain⟨k,hk,rfl,ae,hB⟩:=hrel;have aK:=hB.size;have HO:=zHi ae;have HB:=zHi hB;by_cases aa:k<l.length
  ·have am:=zhx (n:=n) aa;have bK:(zas (l.take k) n).length<=100000:=by
    exact MaT
   generalize zas (l.take k) n=xs at*;obtain⟨VA,vc,rfl,_,kC⟩:=ae.sl zan;obtain⟨b,off,rfl,hb,ah⟩:=(HS.o.keep hB).at aa;have aq:=zHi aa;generalize l[k]=x at*;obtain⟨nm,q⟩:=x;have i0:wr.cell? ⟨b,off+k*3,none⟩=some (.string nm):=ah 0 _ rfl;have i1:wr.cell? ⟨b,off+k*3+1,none⟩=some (.int .i64 q.num):=ah 1 _ rfl;have i2:wr.cell? ⟨b,off+k*3+2,none⟩=some (.int .i64 q.den):=ah 2 _ rfl;have ar:(k:Int)<(l.length:Int):=Mcl;have aT:(0:Int)<=(k:Int):=Mcl;have fU:=zHi bK;clear ah aa ae hB bK;cases hs:zae nm n
   ·have aB:Hid (zas (l.take (k+1)) n=xs++[(nm,q)]):=MdV;have br:(nm.toList==n.toList)=false:=hs;clear am hs
    go_wp2_with (at_builtin
                 go_loud(refine zav (v:= .slice VA xs.length vc) (n:=xs.length) (m:=1) rfl _ _ rfl zdO zan zce rfl (xs:=xs) (ys:=[(nm,q)]) (HO.o.keep (n:=wr.heap.size) Bw) rfl rfl rfl (zdd (zar _ _ _ rfl)) McU Mc8 Mcq ?_)
                 intro v3 w3 h1 h2 h3;have av:=Below.grown (B:=w.heap.size) (a:=w) (HB.o.trans (Below.mono (B:=wr.heap.size) (zac (Below.refl _ _) _) aK)) h2 Mcq (fun j hj=>(HO.o.ge j hj).1);have H1:=zHi h1;have aJ:=zHi av
                 clear h1 h2 h3 av)
    exact Maj
   ·have aB:Hid (zas (l.take (k+1)) n=xs):=MdV;have br:(nm.toList==n.toList)=true:=hs;exact MaJ
  ·exact MaO
theorem zlP (a b:ByteArray):zae a b=zae b a:=by rw[Bool.eq_iff_iff,zat,zat];exact⟨Eq.symm,Eq.symm⟩
theorem zd0 (xs:List ByteArray) (s:ByteArray) (A:Option Addr) (c:Nat) (w:World) (hl:xs.length<=100000) (hc:xs.length<=c) (hS:Sl w 1 sC A xs):
 Calls Tryz.prog 34 #[.slice A xs.length c, .string s] w (Ret0 w (.bool (xs.any (zae s)))):=by
 have HS:=zHi hS;obtain⟨R,hR⟩: ∃R,R=(xs.drop 0).any (zae s):=⟨_,rfl⟩
 rw[show xs.any (zae s)=R from by rw[hR];rfl];have HR:=zHi hR;clear hS hR;go_enter Tryz.func34,Tryz.ntmps34
 go_wp2_with fail
 go_loopw [5] (fun i wr=> ∃j:Nat,j<=xs.length/\i= .int .i64 j/\w=wr/\Hid (R=(xs.drop j).any (zae s))) (fun i _=>xs.length-(intOf i).toNat)
 case atStart=>exact⟨0,Nat.zero_le _,rfl,rfl,HR.o⟩
 case round=>
  obtain⟨j,hj,rfl,rfl,HX⟩:=hrel;by_cases aa:j<xs.length
  ·obtain⟨b,off,rfl,hb,ah⟩:=HS.o.at aa;have hx:=HX.o;rw[List.drop_eq_getElem_cons aa,List.any_cons]at hx;have au:=zHi hx;have aq:=zHi aa;generalize xs[j]=x at*;have x0:w.cell? ⟨b,off+j,none⟩=some (.string x):=McM;have bD:(j:Int)<(xs.length:Int):=Mcl;have tQ:(0:Int)<=(j:Int):=Mcl;clear hx ah aa;cases he:(x.toList==s.toList)
   ·have rS:zae s x=false:=by rw[zlP];exact he
    have uy:=zHi rS;clear rS;go_wp2_with fail
    go_round
    case rel=>exact⟨j+1,aq.o,by go_num,by first|exact True.intro|rfl,by show _=_;rw[au.o,uy.o,Bool.false_or]⟩
    case measure=>have:=aq.o;simp only[intOf];omega
   ·have rS:zae s x=true:=by rw[zlP];exact he
    have uy:=zHi rS;clear rS;go_wp2_with fail
    go_ret
    exact⟨by rw[au.o,uy.o,Bool.true_or];rfl,rfl⟩
  ·have pL: ¬((j:Int)<(xs.length:Int)):=Mcl;have hx:=HX.o;rw[List.drop_of_length_le Mcl,List.any_nil]at hx;have au:=zHi hx;clear hx;go_wp2_with fail
   go_ret
   exact⟨by rw[au.o];rfl,rfl⟩
theorem zeH (dd:List ByteArray) (n:ByteArray) (LA CA MA DA WA RA GA:Option Addr) (n0 c0 n1 c1 n2 c2 n3 c3 n4 c4 n5 c5 n6 c6:Nat) (w:World) (hl:dd.length<=100000) (hc:dd.length<=c3) (hS:Sl w 1 sC DA dd):
 Calls Tryz.prog 17 #[.agg #[.slice LA n0 c0, .slice CA n1 c1, .slice MA n2 c2, .slice DA dd.length c3, .slice WA n4 c4, .slice RA n5 c5, .slice GA n6 c6], .string n] w (Ret w (.bool (dd.any (zae n)))):=by
 have qs:=zHi (fun W (h:Below w.heap.size w W)=>zd0 dd n DA c3 W hl hc (hS.keep h));generalize dd.any (zae n)=R at*;clear hS;go_enter Tryz.func17,Tryz.ntmps17
 go_wp2_with (go_at_call 34;go_must(refine(qs.o _ Bw).mono ?_);rintro e wq ⟨rfl,rfl⟩)
 go_ret
 exact Ret.of rfl Bw
def zdh (cs:List (ByteArray×ByteArray)) (n:ByteArray):List ByteArray:=(cs.filter fun c=>zae c.1 n).map (·.2)
theorem kids_snoc {cs:List (ByteArray×ByteArray)} {n:ByteArray} {k:Nat} (h:k<cs.length):zdh (cs.take (k+1)) n=zdh (cs.take k) n++(if zae cs[k].1 n then[cs[k].2]else[]):=by
 unfold zdh;rw[List.take_add_one,List.getElem?_eq_getElem h,List.filter_append,List.map_append];simp only[Option.toList_some,List.filter_cons,List.filter_nil];cases zae cs[k].1 n<;>rfl
def zd1 (w:World) (xs:List ByteArray) (e:Ending) (w':World):Prop:= ∃v,e= .returned v/\OwnS w' w.heap.size 9 1 sC v xs/\Below w.heap.size w w'
theorem zfT {w:World} {b:Nat} {t:TypeId} {fr:Nat×Nat} {x:ByteArray} (h:w.heap[b]?=some (.cells #[.string x] t fr)):Sl w 1 sC (some ⟨b,0,none⟩) [x]:=fun _=>
 ⟨b,0,rfl,zab h,fun k y hk j u hu=>by
   match k,hk with
   |0,hk=>
    obtain rfl:x=y:=by simpa using hk
    simp only[World.cell?,h];match j,hu with
    |0,hu=>exact hu⟩
theorem zg9 (cs:List (ByteArray×ByteArray)) (n:ByteArray) (LA CA MA DA WA RA GA:Option Addr) (n0 c0 n1 c1 n2 c2 n3 c3 n4 c4 n5 c5 n6 c6:Nat) (w:World) (hl:cs.length<=100000) (hS:Sl w 2 zaT CA cs):
 Calls Tryz.prog 81 #[.agg #[.slice LA n0 c0, .slice CA cs.length c1, .slice MA n2 c2, .slice DA n3 c3, .slice WA n4 c4, .slice RA n5 c5, .slice GA n6 c6], .string n] w (zd1 w (zdh cs n)):=by
 have gw:=zHi hS;unfold zd1;clear hS;go_enter Tryz.func81,Tryz.ntmps81
 go_upto_region 1 with fail
 obtain⟨W0,ao⟩: ∃W0,W0=w.alloc (.cells #[.slice LA n0 c0, .slice CA cs.length c1, .slice MA n2 c2, .slice DA n3 c3, .slice WA n4 c4, .slice RA n5 c5, .slice GA n6 c6] 40):=⟨_,rfl⟩
 have b0:W0.heap[w.heap.size]?=some (.cells #[.slice LA n0 c0, .slice CA cs.length c1, .slice MA n2 c2, .slice DA n3 c3, .slice WA n4 c4, .slice RA n5 c5, .slice GA n6 c6] 40):=Mdf;have aI:Below w.heap.size w W0:=McY;rw[<-ao];have ak:=zHi aI;have HS:=zHi (gw.o.keep aI);obtain⟨-,k1⟩:=cF2 b0;have l0:=zab b0;clear ao b0 aI gw;go_upto_region 3 with fail
 go_loopw [5,6] (fun v i wr=> ∃k:Nat,k<=cs.length/\i= .int .i64 k/\OwnS wr W0.heap.size 9 1 sC v (zdh (cs.take k) n)/\Below W0.heap.size W0 wr) (fun _ i _=>cs.length-(intOf i).toNat)
 case atStart=>exact⟨0,Nat.zero_le _,rfl,OwnS.nil,Below.refl _ _⟩
 case round=>
  obtain⟨k,hk,rfl,ae,hB⟩:=hrel;have aK:=hB.size;have HO:=zHi ae;have HB:=zHi hB;have d1:wr.cell? ⟨w.heap.size,1,none⟩=some (.slice CA cs.length c1):=(zah hB l0).trans k1;by_cases aa:k<cs.length
  ·have am:=kids_snoc (n:=n) aa;have bK:(zdh (cs.take k) n).length<=100000:=by
    unfold zdh;rw[List.length_map];exact MaT
   generalize zdh (cs.take k) n=xs at*;obtain⟨VA,vc,rfl,_,kC⟩:=ae.sl zaB;obtain⟨b,off,rfl,hb,ah⟩:=(HS.o.keep hB).at aa;have aq:=zHi aa;generalize cs[k]=x at*;obtain⟨nm,kd⟩:=x;have i0:wr.cell? ⟨b,off+k*2,none⟩=some (.string nm):=ah 0 _ rfl;have i1:wr.cell? ⟨b,off+k*2+1,none⟩=some (.string kd):=ah 1 _ rfl;have ar:(k:Int)<(cs.length:Int):=Mcl;have aT:(0:Int)<=(k:Int):=Mcl;have fU:=zHi bK;clear ah aa ae hB bK;cases hs:zae nm n
   ·have aB:Hid (zdh (cs.take (k+1)) n=xs):=MdV;have br:(nm.toList==n.toList)=false:=hs;exact MaJ
   ·have aB:Hid (zdh (cs.take (k+1)) n=xs++[kd]):=MdV;have br:(nm.toList==n.toList)=true:=hs;clear am hs
    go_wp2_with (at_builtin
                 go_loud(refine zav (v:= .slice VA xs.length vc) (n:=xs.length) (m:=1) rfl _ _ rfl zbK zaB zbJ rfl (xs:=xs) (ys:=[kd]) (HO.o.keep (n:=wr.heap.size) Bw) rfl rfl rfl (zfT (zar _ _ _ rfl)) McU Mc8 Mcq ?_)
                 intro v3 w3 h1 h2 h3;have av:=Below.grown (B:=W0.heap.size) (a:=W0) (HB.o.trans (Below.mono (B:=wr.heap.size) (zac (Below.refl _ _) _) aK)) h2 Mcq (fun j hj=>(HO.o.ge j hj).1);have H1:=zHi h1;have aJ:=zHi av
                 clear h1 h2 h3 av)
    exact Maj
  ·have ar: ¬(k:Int)<(cs.length:Int):=Mcl;rw[List.take_of_length_le Mcl]at HO;clear ae hB;go_wp2_with fail
   go_ret
   exact⟨_,rfl,HO.o.base_le ak.o.size,ak.o.trans (HB.o.mono ak.o.size)⟩
def ixI {α:Type} (p:α->Bool) (l:List α) (k:Nat):Int:=match(l.drop k).findIdx? p with
 |none=> -1
 |some i=>((k+i:Nat):Int)
theorem ixI_step {α:Type} {p:α->Bool} {l:List α} {k:Nat} (h:k<l.length):ixI p l k=if p l[k]then(k:Int)else ixI p l (k+1):=by
 unfold ixI;rw[List.drop_eq_getElem_cons h,List.findIdx?_cons];cases hs:p l[k]
 ·rw[if_neg Mco,if_neg Mco];cases(l.drop (k+1)).findIdx? p with
  |none=>rfl
  |some i=>
   simp only[Option.map_some];omega
 ·rw[if_pos rfl,if_pos rfl];simp
theorem ixI_end {α:Type} {p:α->Bool} {l:List α} {k:Nat} (h: ¬k<l.length):ixI p l k= -1:=by
 unfold ixI;rw[List.drop_of_length_le Mcl];rfl
def zlQ (place:ByteArray) (day:Int) (g:Grave):Bool:=zae g.place place&&zaU g day
def zjp (gs:List Grave) (place:ByteArray) (day:Int):Int:=ixI (zlQ place day) gs 0
theorem znX (s:St) (place:ByteArray) (day:Int):zjp s.graves place day=match zaJ s place day with
 |none=> -1
 |some i=>(i:Int):=by
 unfold zjp ixI zaJ;rw[List.drop_zero];show(match s.graves.findIdx? (zlQ place day)with|none=>(-1:Int)|some i=>((0+i:Nat):Int))=match s.graves.findIdx? (zlQ place day)with|none=>(-1:Int)|some i=>(i:Int)
 cases s.graves.findIdx? (zlQ place day)with
 |none=>rfl
 |some i=>simp
theorem zoL (gs:List Grave) (place:ByteArray) (day:Int) (LA CA MA DA WA RA GA:Option Addr) (n0 c0 n1 c1 n2 c2 n3 c3 n4 c4 n5 c5 n6 c6:Nat) (w:World) (hl:gs.length<=100000) (hS:SlW w 5 zhZ GA gs):
 Calls Tryz.prog 13 #[.agg #[.slice LA n0 c0, .slice CA n1 c1, .slice MA n2 c2, .slice DA n3 c3, .slice WA n4 c4, .slice RA n5 c5, .slice GA gs.length c6], .string place, .int .i64 day] w (Ret w (.int .i64 (zjp gs place day))):=by
 have gw:=zHi hS;obtain⟨R,hR⟩: ∃R,R=zjp gs place day:=⟨_,rfl⟩
 rw[<-hR];have HR:=zHi hR;clear hS hR;go_enter Tryz.func13,Tryz.ntmps13
 go_upto_region 1 with fail
 obtain⟨W0,ao⟩: ∃W0,W0=w.alloc (.cells #[.slice LA n0 c0, .slice CA n1 c1, .slice MA n2 c2, .slice DA n3 c3, .slice WA n4 c4, .slice RA n5 c5, .slice GA gs.length c6] 40):=⟨_,rfl⟩
 have b0:W0.heap[w.heap.size]?=some (.cells #[.slice LA n0 c0, .slice CA n1 c1, .slice MA n2 c2, .slice DA n3 c3, .slice WA n4 c4, .slice RA n5 c5, .slice GA gs.length c6] 40):=Mdf;have aI:Below w.heap.size w W0:=McY;rw[<-ao];have ak:=zHi aI;have HS:=zHi (gw.o.keep zfJ aI);obtain⟨-,-,-,-,-,-,k1⟩:=cF7 b0;have l0:=zab b0;clear ao b0 aI gw;go_upto_region 2 with fail
 go_loopw [7,8] (fun i _ wr=> ∃k:Nat,k<=gs.length/\i= .int .i64 k/\Hid (R=ixI (zlQ place day) gs k)/\Below W0.heap.size W0 wr) (fun i _ _=>gs.length-(intOf i).toNat)
 case atStart=>exact⟨0,Nat.zero_le _,rfl,HR.o,Below.refl _ _⟩
 case round=>
  obtain⟨k,hk,rfl,HX,hB⟩:=hrel;have aK:=hB.size;have HB:=zHi hB;have d1:wr.cell? ⟨w.heap.size,6,none⟩=some (.slice GA gs.length c6):=(zah hB l0).trans k1;by_cases aa:k<gs.length
  ·obtain⟨b,off,cs,hA,hb,hr,ah⟩:=(HS.o.keep zfJ hB).at aa;have hx:=HX.o;rw[ixI_step aa]at hx;have au:=zHi hx;have aq:=zHi aa;generalize gs[k]=x at*;obtain⟨H,hc,D,dc,rfl,_,_⟩:=hr;obtain⟨pl,cl,fi,hd,di⟩:=x;subst hA;have i0:=ah 0 _ rfl;have i1:=ah 1 _ rfl;have i2:=ah 2 _ rfl;have i3:=ah 3 _ rfl;have i4:=ah 4 _ rfl;simp only[Nat.add_zero]at i0 i1 i2 i3 i4;have ar:(k:Int)<(gs.length:Int):=Mcl;have aT:(0:Int)<=(k:Int):=Mcl;clear ah aa hB hx;go_upto_region 5 with fail
   obtain⟨WZ,iv⟩: ∃WZ,WZ=wr.alloc (.cells #[.string pl, .int .i64 cl, .int .i64 fi, .slice H hd.length hc, .slice D di.length dc] 46):=⟨_,rfl⟩
   have a0:WZ.heap[wr.heap.size]?=some (.cells #[.string pl, .int .i64 cl, .int .i64 fi, .slice H hd.length hc, .slice D di.length dc] 46):=by rw[iv];exact zar _ _ _ rfl
   have io:Below W0.heap.size W0 WZ:=by rw[iv];exact zac HB.o _
   rw[<-iv];have dR:=zHi io;obtain⟨p0,-,p2,p3⟩:=cF4 a0;clear iv a0 io i0 i1 i2 i3 i4;cases dD:zae pl place
   ·have br:(pl.toList==place.toList)=false:=dD;exact MN
   ·have br:(pl.toList==place.toList)=true:=dD;by_cases hz:0<hd.length
    ·have j8:(0:Int)<(hd.length:Int):=Mcl;have j9:hd.isEmpty=false:=by cases hd<;>simp_all
     by_cases hf:fi<0
     ·exact Max
     ·by_cases hy:day<fi
      ·exact Max
      ·exact MN
    ·have j8: ¬(0:Int)<(hd.length:Int):=Mcl;have j9:hd.isEmpty=true:=by cases hd<;>simp_all
     exact MN
  ·have ar: ¬(k:Int)<(gs.length:Int):=Mcl;have HE:Hid (R= -1):=by show _=_;rw[HX.o,ixI_end aa]
   clear hB;go_wp2_with fail
   go_ret
   exact Ret.of (zb5 HE.o.symm) (ak.o.trans (HB.o.mono ak.o.size))
theorem zhS (w:World):Calls Tryz.prog 36 #[] w (Ret w (.agg #[.int .i64 1, .int .i64 1])):=by
 go_enter Tryz.func36,Tryz.ntmps36
 go_wp2_with fail
 refine bodyPost_ret (v:= .agg #[.int .i64 1, .int .i64 1]) ?_ rfl ?_
 ·exact MbE
 ·exact Ret.of rfl Bw
theorem rQuoI (a b c d:Int) (w:World) (ha:a.natAbs<=1000000000) (hb:b.natAbs<=1000000000) (hc:c.natAbs<=1000000000) (hd:d.natAbs<=1000000000) (ba:0<b) (iw:0<d) (iP:0<c):Calls Tryz.prog 168 #[.agg #[.int .i64 a, .int .i64 b], .agg #[.int .i64 c, .int .i64 d]] w (Ret w (za9 (Rat.divInt (a*d) (b*c)))):=by
 have m1:=zaN ha hd;have m2:=zaN hc hb;have m3:=zaN hb hd;have m4:0<b*d:=Int.mul_pos ba iw;obtain⟨m1,n1⟩:=m1;obtain⟨m2,n2⟩:=m2;obtain⟨m3,n3⟩:=m3;have w1:IntKind.i64.wrap (a*d)=a*d:=IntWalk.i64_in _ Mcl;have w2:IntKind.i64.wrap (c*b)=c*b:=IntWalk.i64_in _ Mcl;have w3:IntKind.i64.wrap (b*d)=b*d:=IntWalk.i64_in _ Mcl;have m5:=zaN ha hc;obtain⟨m5,n5⟩:=m5;have m6:=zaN hb hc;obtain⟨m6,n6⟩:=m6;have w5:IntKind.i64.wrap (a*c)=a*c:=IntWalk.i64_in _ Mcl;have w6:IntKind.i64.wrap (b*c)=b*c:=IntWalk.i64_in _ Mcl;have hs:(a*d).natAbs<=4611686018427387904:=Mcl;have hl:(b*c)<=4611686018427387904:=Mcl;have h4:0<(b*c):=Int.mul_pos ba iP;have HS:=zHi hs;have HL:=zHi hl;have H4:=zHi h4;clear hs hl m4 h4 ha hb hc hd;go_enter Tryz.func168,Tryz.ntmps168
 go_wp2_with (go_at_call 80;go_must(refine(zeE _ _ _ HS.o H4.o HL.o).mono ?_);rintro e w1 ⟨rfl,z1,rfl⟩;simp only[za9])
 refine bodyPost_ret (v:=za9 (Rat.divInt (a*d) (b*c))) ?_ rfl ?_
 ·exact Mam
 ·exact Ret.of rfl Bw
theorem rQuo_any (p q:Rat) (w:World) (ct:zaK p) (dO:zaK q) (h0:0<q):Calls Tryz.prog 168 #[za9 p,za9 q] w (Ret w (za9 (p/q))):=by
 rw[zjz p q h0];exact rQuoI _ _ _ _ _ ct.1 (by have:=ct.2;omega) dO.1 (by have:=dO.2;omega) (zbU p) (zbU q) Mdv
def renT (n frm:ByteArray) (d:Deed):Bool:=zae d.frm n&&zae (zbh d) frm
def ableR (rd:List Deed) (dd:List ByteArray) (n frm:ByteArray):Bool:=!rd.any (renT n frm)&&(!noB n&&(!zae n frm&&!dd.any (zae n)))
theorem ableR_eq (s:St) (rd:List Deed) (h:s.renounce=rd.map fun d=>(d.frm,zbh d)) (n frm:ByteArray):ableR rd s.dead n frm=zdU s n frm:=by
 unfold ableR zdU zaH;rw[h,List.any_map];show(!rd.any (renT n frm)&&(!noB n&&(!zae n frm&&!s.dead.any (zae n))))=(!noB n&&!zae n frm&&!s.dead.any (zae n)&&!rd.any (renT n frm))
 cases rd.any (renT n frm)<;>cases noB n<;>cases zae n frm<;>cases s.dead.any (zae n)<;>rfl
theorem rAble_any (rd:List Deed) (dd:List ByteArray) (n frm:ByteArray) (LA CA MA DA WA RA GA:Option Addr) (n0 c0 n1 c1 n2 c2 n3 c3 n4 c4 n5 c5 n6 c6:Nat) (w:World) (hl:rd.length<=100000) (nL: ∀d∈rd,d.to≠[]) (hS:SlW w 7 zfC RA rd) (bz:dd.length<=100000) (nD:dd.length<=c3) (hD:Sl w 1 sC DA dd):
 Calls Tryz.prog 37 #[.agg #[.slice LA n0 c0, .slice CA n1 c1, .slice MA n2 c2, .slice DA dd.length c3, .slice WA n4 c4, .slice RA rd.length c5, .slice GA n6 c6], .string n, .string frm] w (Ret w (.bool (ableR rd dd n frm))):=by
 have gw:=zHi hS;have nk:=zHi nL;have ig:=zHi (fun W (h:Below w.heap.size w W)=>zeH dd n LA CA MA DA WA RA GA n0 c0 n1 c1 n2 c2 dd.length c3 n4 c4 rd.length c5 n6 c6 W bz nD (hD.keep h));obtain⟨R,hR⟩: ∃R,R=ableR rd dd n frm:=⟨_,rfl⟩
 rw[<-hR];obtain⟨D,EC⟩: ∃D,D=dd.any (zae n):=⟨_,rfl⟩
 unfold ableR at hR;rw[<-EC]at hR ig;have HR:Hid (R=(!(rd.drop 0).any (renT n frm)&&(!noB n&&(!zae n frm&&!D)))):=Meb;clear hS hR nL hD EC;go_enter Tryz.func37,Tryz.ntmps37
 go_upto_region 1 with fail
 obtain⟨W0,ao⟩: ∃W0,W0=w.alloc (.cells #[.slice LA n0 c0, .slice CA n1 c1, .slice MA n2 c2, .slice DA dd.length c3, .slice WA n4 c4, .slice RA rd.length c5, .slice GA n6 c6] 40):=⟨_,rfl⟩
 have b0:W0.heap[w.heap.size]?=some (.cells #[.slice LA n0 c0, .slice CA n1 c1, .slice MA n2 c2, .slice DA dd.length c3, .slice WA n4 c4, .slice RA rd.length c5, .slice GA n6 c6] 40):=Mdf;have aI:Below w.heap.size w W0:=McY;rw[<-ao];have ak:=zHi aI;have HS:=zHi (gw.o.keep zcf aI);obtain⟨k0,k1,k2,k3,k4,k5,k6⟩:=cF7 b0;clear ao b0 aI gw;go_upto_region 2 with fail
 go_loopw [7] (fun i wr=> ∃k:Nat,k<=rd.length/\i= .int .i64 k/\W0=wr/\Hid (R=(!(rd.drop k).any (renT n frm)&&(!noB n&&(!zae n frm&&!D))))) (fun i _=>rd.length-(intOf i).toNat)
 case atStart=>exact⟨0,Nat.zero_le _,rfl,rfl,HR.o⟩
 case round=>
  obtain⟨k,hk,rfl,rfl,HX⟩:=hrel;by_cases aa:k<rd.length
  ·obtain⟨b,off,cs,rfl,hb,hr,ah⟩:=HS.o.at aa;have hx:=HX.o;rw[List.drop_eq_getElem_cons aa,List.any_cons]at hx;have ai:=nk.o _ (List.getElem_mem aa);have au:=zHi hx;have aq:=zHi aa;generalize rd[k]=x at*;obtain⟨B,c,hc,rfl,hP⟩:=hr;obtain⟨kd,dy,pl,fr,ts,cl,yr⟩:=x;simp only at ai hc hP ah;cases ts with
   |nil=>exact absurd rfl ai
   |cons p ts=>
    obtain⟨tb,tof,rfl,Gi,ub⟩:=hP.at (k:=0) (Nat.succ_pos _);obtain⟨pn,pu,pd⟩:=p;have t0:W0.cell? ⟨tb,tof,none⟩=some (.string pn):=MdD;have fS:zbh ⟨kd,dy,pl,fr,⟨pn,pu,pd⟩::ts,cl,yr⟩=pn:=rfl;have i3:=ah 3 _ rfl;have i4:=ah 4 _ rfl;have ar:(k:Int)<(rd.length:Int):=Mcl;have aT:(0:Int)<=(k:Int):=Mcl;generalize eO:(⟨pn,pu,pd⟩::ts:List RPart).length=ln at*;have jw:(0:Int)<(ln:Int):=by rw[<-eO];simp
    have CW:0<ln:=Mcl;clear ah aa hx ai hP ub eO hc;cases eh:zae fr n
    ·have br:(fr.toList==n.toList)=false:=eh;have HE:Hid (R=(!(rd.drop (k+1)).any (renT n frm)&&(!noB n&&(!zae n frm&&!D)))):=by show _=_;rw[au.o];simp[renT,eh]
     go_wp2_with fail
     exact MH
    ·have br:(fr.toList==n.toList)=true:=eh;cases iI:zae pn frm
     ·have Dn:(pn.toList==frm.toList)=false:=iI;have HE:Hid (R=(!(rd.drop (k+1)).any (renT n frm)&&(!noB n&&(!zae n frm&&!D)))):=by show _=_;rw[au.o];simp[renT,fS,iI]
      go_wp2_with fail
      exact MH
     ·have Dn:(pn.toList==frm.toList)=true:=iI;have HE:Hid (R=false):=by show _=_;rw[au.o];simp[renT,fS,eh,iI]
      exact Ma8
  ·have ar: ¬(k:Int)<(rd.length:Int):=Mcl;have hx:=HX.o;rw[List.drop_of_length_le Mcl]at hx;have au:=zHi hx;clear hx;cases z1:noB n
   ·have y1:n.toList.isEmpty=false:=z1;have w1: ¬n.toList=[]:=by simpa using y1
    cases eh:zae n frm
    ·have br:(n.toList==frm.toList)=false:=eh;have HE:Hid (R=!D):=by show _=_;rw[au.o,z1,eh];simp
     go_wp2_with (go_at_call 17;go_must(refine(ig.o _ Mde).mono ?_);rintro e wq ⟨rfl,z,rfl⟩)
     go_ret
     exact Ret.of (zaP HE.o.symm) (zbc ak.o z)
    ·have br:(n.toList==frm.toList)=true:=eh;have HE:Hid (R=false):=by show _=_;rw[au.o,z1,eh];simp
     exact Ma8
   ·have y1:n.toList.isEmpty=true:=z1;have w1:n.toList=[]:=by simpa using y1
    have HE:Hid (R=false):=by show _=_;rw[au.o,z1];simp
    exact Ma8
def zmX (dd:List ByteArray) (p:RPart):Bool:=dd.any (zae p.name)
theorem zkH (l:List RPart) (A:Option Addr) (c:Nat) (dd:List ByteArray) (LA CA MA DA WA RA GA:Option Addr) (n0 c0 n1 c1 n2 c2 n3 c3 n4 c4 n5 c5 n6 c6:Nat) (w:World) (hl:l.length<=1000000) (hS:Sl w 3 RPart.cells A l) (bz:dd.length<=100000) (nD:dd.length<=c3) (hD:Sl w 1 sC DA dd):
 Calls Tryz.prog 163 #[.agg #[.slice LA n0 c0, .slice CA n1 c1, .slice MA n2 c2, .slice DA dd.length c3, .slice WA n4 c4, .slice RA n5 c5, .slice GA n6 c6], .slice A l.length c] w (Ret w (.bool (l.any (zmX dd)))):=by
 have gw:=zHi hS;have ig:=zHi (fun x W (h:Below w.heap.size w W)=>zeH dd x LA CA MA DA WA RA GA n0 c0 n1 c1 n2 c2 dd.length c3 n4 c4 n5 c5 n6 c6 W bz nD (hD.keep h));obtain⟨R,hR⟩: ∃R,R=l.any (zmX dd):=⟨_,rfl⟩
 rw[<-hR];have HR:Hid (R=(l.drop 0).any (zmX dd)):=Meb;clear hS hD hR;go_enter Tryz.func163,Tryz.ntmps163
 go_upto_region 1 with fail
 obtain⟨W0,ao⟩: ∃W0,W0=w.alloc (.cells #[.slice LA n0 c0, .slice CA n1 c1, .slice MA n2 c2, .slice DA dd.length c3, .slice WA n4 c4, .slice RA n5 c5, .slice GA n6 c6] 40):=⟨_,rfl⟩
 have b0:W0.heap[w.heap.size]?=some (.cells #[.slice LA n0 c0, .slice CA n1 c1, .slice MA n2 c2, .slice DA dd.length c3, .slice WA n4 c4, .slice RA n5 c5, .slice GA n6 c6] 40):=Mdf;have aI:Below w.heap.size w W0:=McY;rw[<-ao];have ak:=zHi aI;have HS:=zHi (gw.o.keep aI);have lY:=aI.size;have l0:=zab b0
 have HC:=zHi (fun(W':World) (h:Below W0.heap.size W0 W')=>(show W'.cell? ⟨w.heap.size,0,none⟩=some (.slice LA n0 c0)/\W'.cell? ⟨w.heap.size,1,none⟩=some (.slice CA n1 c1)/\W'.cell? ⟨w.heap.size,2,none⟩=some (.slice MA n2 c2)/\W'.cell? ⟨w.heap.size,3,none⟩=some (.slice DA dd.length c3)/\W'.cell? ⟨w.heap.size,4,none⟩=some (.slice WA n4 c4)/\W'.cell? ⟨w.heap.size,5,none⟩=some (.slice RA n5 c5)/\W'.cell? ⟨w.heap.size,6,none⟩=some (.slice GA n6 c6) from by
  refine⟨?_,?_,?_,?_,?_,?_,?_⟩<;>(refine(zah h l0).trans ?_;simp only[World.cell?,b0];rfl)))
 clear ao b0 aI gw;go_upto_region 2 with fail
 go_loopw [5] (fun i wr=> ∃k:Nat,k<=l.length/\i= .int .i64 k/\Hid (R=(l.drop k).any (zmX dd))/\Below W0.heap.size W0 wr) (fun i _=>l.length-(intOf i).toNat)
 case atStart=>exact⟨0,Nat.zero_le _,rfl,HR.o,Below.refl _ _⟩
 case round=>
  obtain⟨k,hk,rfl,HX,hB⟩:=hrel;have HB:=zHi hB;have aK:=hB.size;have cx:w.heap.size<wr.heap.size:=Mcl;obtain⟨d0,d1,d2,d3,d4,d5,d6⟩:=HC.o _ hB;by_cases aa:k<l.length
  ·obtain⟨b,off,rfl,hb,ah⟩:=(HS.o.keep hB).at aa;have hx:=HX.o;rw[List.drop_eq_getElem_cons aa,List.any_cons]at hx;have au:=zHi hx;have aq:=zHi aa;generalize l[k]=x at*;obtain⟨nm,nu,de⟩:=x;have i0:wr.cell? ⟨b,off+k*3,none⟩=some (.string nm):=ah 0 _ rfl;have ar:(k:Int)<(l.length:Int):=Mcl;have aT:(0:Int)<=(k:Int):=Mcl;have vn:=zHi (ak.o.trans (hB.mono lY));have gn:=zHi (fun W (h:Below wr.heap.size wr W)=>ig.o nm W (vn.o.trans (h.mono vn.o.size)));clear ah hx aa hB;cases hd:dd.any (zae nm)
   ·have HE:Hid (R=(l.drop (k+1)).any (zmX dd)):=by show _=_;rw[au.o];unfold zmX;rw[hd];rfl
    rw[hd]at gn;clear hd;go_upto_region 4 with fail
    (refine zaj Mcm Mcm ?_
     repeat(first|go_big_quiet_skip|(go_big_quiet_want;go_big_quiet_op;first|go_big_quiet_on|(apply Exists.intro;refine⟨fun _=> ?_,?_⟩;(go_at_call 17;exact quietx (gn.o _ Bw));go_big_quiet_on)))
     refine wpQuiet_nil ?_
     rintro _ ⟨zq,rfl⟩)
    go_wp2_with fail
    go_round
    case rel=>exact⟨k+1,aq.o,by go_num,HE.o,zbc HB.o zq⟩
    case measure=>have:=aq.o;simp only[intOf];omega
   ·have HE:Hid (R=true):=by show _=_;rw[au.o];unfold zmX;rw[hd];rfl
    rw[hd]at gn;clear hd;go_upto_region 4 with fail
    (refine zaj Mcm Mcm ?_
     repeat(first|go_big_quiet_skip|(go_big_quiet_want;go_big_quiet_op;first|go_big_quiet_on|(apply Exists.intro;refine⟨fun _=> ?_,?_⟩;(go_at_call 17;exact quietx (gn.o _ Bw));go_big_quiet_on)))
     refine wpQuiet_nil ?_
     rintro _ ⟨zq,rfl⟩)
    go_wp2_with fail
    go_ret
    exact Ret.of (zaP HE.o.symm) (zbc vn.o zq)
  ·have ar: ¬(k:Int)<(l.length:Int):=Mcl;have HE:Hid (R=false):=by show _=_;rw[HX.o,List.drop_of_length_le Mcl];rfl
   clear hB;go_wp2_with fail
   go_ret
   exact Ret.of (zaP HE.o.symm) (ak.o.trans (HB.o.mono lY))
end Go.Proofs.YtckkbkdcdkhglaaGreatDoor
