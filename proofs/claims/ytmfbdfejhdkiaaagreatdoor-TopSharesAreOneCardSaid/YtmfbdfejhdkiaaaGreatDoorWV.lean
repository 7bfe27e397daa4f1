/- Sorts of a row of one's own in place: texts, numbers. -/
import Derived.Test.YtmfbdfejhdkiaaaGreatDoorOD
import Derived.Test.YtmfbdfejhdkiaaaGreatDoorEI
import Derived.Shelf.SortG.Plain
import Derived.Shelf.SortG.SortNone
set_option linter.all false
set_option maxRecDepth 100000
set_option maxHeartbeats 4000000
namespace Go.Proofs.YtmfbdfejhdkiaaaGreatDoor
open Go.RowKit Go.Shelf
attribute [local go_sem] World.cell?_alloc_mark zae za4 zao za8 zav zaw zax zay zaz za0 za1
section
attribute [local go_sem] zap zac
def zhC(p:RPart):Bool:=p.num==0&&p.den==0
theorem rBare_any(l:List RPart)(A:Option Addr)(c:Nat)(w:World)(hl:l.length<=1000000000)(hS:Sl w 3 RPart.cells A l):Calls Tryz.prog 70 #[.slice A l.length c] w (Ret0 w (.bool (l.all zhC))):=by
 have HS:=zHi hS;obtain⟨R,hR⟩:=Qd (l.all zhC)
 rw[<-hR];have HR:Hid (R=(l.drop 0).all zhC):=Mej;clear hS hR;go_enter Tryz.func70,Tryz.ntmps70
 go_upto_region 2 with fail
 go_loopw [3] (fun i wr=>∃k:Nat,k<=l.length/\i=.int .i64 k/\w=wr/\Hid (R=(l.drop k).all zhC)) (fun i _=>l.length-(intOf i).toNat)
 case atStart=>exact⟨0,Nat.zero_le _,rfl,rfl,HR.o⟩
 case round=>
  obtain⟨k,hk,rfl,rfl,HX⟩:=hrel;by_cases aa:k<l.length
  ·obtain⟨b,off,rfl,hb,ah⟩:=HS.o.at aa;have hx:=HX.o;rw[List.drop_eq_getElem_cons aa,List.all_cons]at hx;obtain⟨ax,ak⟩:=yH2 hx aa;generalize l[k]=x at*;obtain⟨nm,nu,de⟩:=x;have i1:w.cell? ⟨b,off+k*3+1,none⟩=some (.int .i64 nu):=ah 1 _ rfl;have i2:w.cell? ⟨b,off+k*3+2,none⟩=some (.int .i64 de):=ah 2 _ rfl;have ar:(k:Int)<(l.length:Int):=Mcq;have aR:(0:Int)<=(k:Int):=Mcq;clear ah hx aa;by_cases h1:nu=0
   ·subst h1;by_cases h2:de=0
    ·subst h2;have HE:Hid (R=(l.drop (k+1)).all zhC):=MdH;go_wp2_with fail
     exact MJ
    ·have h3:(de==0)=false:=Mei;have HE:Hid (R=false):=by show _=_;rw[ax.o];simp[zhC,h3]
     exact M6
   ·have h3:(nu==0)=false:=McZ;have HE:Hid (R=false):=by show _=_;rw[ax.o];simp[zhC,h3]
    exact M6
  ·have ar:¬(k:Int)<(l.length:Int):=Mcq;have HE:Hid (R=true):=by show _=_;rw[HX.o,List.drop_of_length_le Mcq];rfl
   exact M6
def zd8(l:List RPart)(frm:ByteArray)(k:Nat):Bool:=zda (l.drop k) ((l.take k).map (·.name)).reverse&&(l.drop k).all fun p=>!zaf p.name frm
def clash(l:List RPart)(x:ByteArray)(j m:Nat):Bool:=((l.take m).drop j).any fun p=>zaf x p.name
theorem zoO{l:List RPart}{frm:ByteArray}{k:Nat}(h:k<l.length):zd8 l frm k=(!clash l l[k].name 0 k&&(!zaf l[k].name frm&&zd8 l frm (k+1))):=by
 unfold zd8 clash;rw[List.drop_eq_getElem_cons h,zda,List.all_cons,List.take_add_one,List.getElem?_eq_getElem h,List.drop_zero];have e:((l.take k).map (·.name)).reverse.any (zaf l[k].name)=(l.take k).any fun p=>zaf l[k].name p.name:=by
  rw[List.any_reverse,List.any_map];rfl
 rw[e];simp only[Option.toList_some,List.map_append,List.map_cons,List.map_nil,List.reverse_append,List.reverse_cons,List.reverse_nil,List.nil_append,List.singleton_append];cases(l.take k).any fun p=>zaf l[k].name p.name<;>cases zaf l[k].name frm<;>simp
theorem zoP{l:List RPart}{x:ByteArray}{j m:Nat}(h:j<m)(hm:m<l.length):clash l x j m=(zaf x (l[j]' Mcq).name||clash l x (j+1) m):=by
 unfold clash;have hj:j<(l.take m).length:=Mdm;rw[List.drop_eq_getElem_cons hj,List.any_cons,List.getElem_take]
theorem clash_end{l:List RPart}{x:ByteArray}{j m:Nat}(h:¬j<m):clash l x j m=false:=by
 unfold clash;rw[List.drop_of_length_le Mdm];rfl
theorem zlR(a b:ByteArray):zaf a b=zaf b a:=by rw[Bool.eq_iff_iff,za3,za3];exact⟨Eq.symm,Eq.symm⟩
theorem zoQ(l:List RPart)(frm:ByteArray)(A:Option Addr)(c:Nat)(w:World)(hl:l.length<=1000000)(hS:Sl w 3 RPart.cells A l):Calls Tryz.prog 69 #[.slice A l.length c,.string frm] w (Ret w (.bool (zd8 l frm 0))):=by
 have HS:=zHi hS;obtain⟨R,hR⟩:=Qd (zd8 l frm 0)
 rw[<-hR];have HR:=zHi hR;clear hS hR;go_enter Tryz.func69,Tryz.ntmps69
 go_upto_region 2 with fail
 go_loopw [5,6] (fun i _ wr=>∃k:Nat,k<=l.length/\i=.int .i64 k/\Hid (R=zd8 l frm k)/\Qa w wr) (fun i _ _=>l.length-(intOf i).toNat)
 case atStart=>exact⟨0,Nat.zero_le _,rfl,HR.o,Qb⟩
 case round=>
  obtain⟨k,hk,rfl,HX,hB⟩:=hrel;obtain⟨WR,mn⟩:=Qd wr
  subst mn;have HB:=zHi hB;by_cases aa:k<l.length
  ·have hx:=HX.o;rw[zoO aa]at hx;obtain⟨ax,ak⟩:=yH2 hx aa;have ar:(k:Int)<(l.length:Int):=Mcq;have aR:(0:Int)<=(k:Int):=Mcq;clear hx hB;go_upto_region 5 with fail
   go_loopw [6] (fun v6 wr=>∃j:Nat,j<=k/\v6=.int .i64 j/\Hid (R=(!clash l (l[k]'aa).name j k&&(!zaf (l[k]'aa).name frm&&zd8 l frm (k+1))))/\Qa w wr) (fun v6 _=>k-(intOf v6).toNat)
   case atStart=>exact⟨0,Nat.zero_le _,rfl,ax.o,HB.o⟩
   case round=>
    obtain⟨j,hj,rfl,HY,gB⟩:=hrel;have fE:=zHi gB;have pI:=gB.size;have Hr:=(HS.o.keep gB).at aa;by_cases jX:j<k
    ·have bM:j<l.length:=Mcq;have hy:=HY.o;rw[zoP jX aa]at hy;obtain⟨b,off,hA,hb,ah⟩:=Hr;obtain⟨b2,off2,m9,_,xg⟩:=(HS.o.keep gB).at bM;obtain⟨rfl,rfl⟩:b=b2/\off=off2:=by rw[hA]at m9;simpa using m9
     have i1:wr.cell? ⟨b,off+k*3,none⟩=some (.string (l[k]'aa).name):=ah 0 _ rfl;have i0:wr.cell? ⟨b,off+j*3,none⟩=some (.string (l[j]'bM).name):=xg 0 _ rfl;obtain⟨oD,Fj⟩:=yH2 hy jX;have Eg:(j:Int)<(k:Int):=Mcq;have sW:(0:Int)<=(j:Int):=Mcq;have LF:(j:Int)<(l.length:Int):=Mcq;clear ah xg m9 hy gB;subst hA;go_upto_region 7 with fail
     generalize bD:(l[k]'aa).name=n1 at*;generalize(l[j]'bM).name=n0 at*;cases hs:zaf n0 n1
     ·have bk:(n0.toList==n1.toList)=false:=hs;have eA:zaf n1 n0=false:=by rw[zlR];exact hs
      have HE:Hid (R=(!clash l n1 (j+1) k&&(!zaf n1 frm&&zd8 l frm (k+1)))):=by show _=_;rw[oD.o,eA];rfl
      (refine zam Mcs Mcs ?_
       repeat(first|go_big_quiet_skip|(go_big_quiet_want;go_big_quiet_op;first|go_big_quiet_on|(apply Exists.intro;refine⟨fun _=>?_,?_⟩;(fail);go_big_quiet_on)))
       refine wpQuiet_nil ?_
       rintro _ ⟨zq,rfl⟩)
      go_wp2_with fail
      go_round
      case rel=>exact⟨j+1,Fj.o,by go_num,by(first|exact HE|(rw[bD];exact HE)),zaZ fE.o zq⟩
      case measure=>have:=Fj.o;simp only[intOf];omega
     ·have bk:(n0.toList==n1.toList)=true:=hs;have eA:zaf n1 n0=true:=by rw[zlR];exact hs
      have HE:Hid (R=false):=by show _=_;rw[oD.o,eA];rfl
      (refine zam Mcs Mcs ?_
       repeat(first|go_big_quiet_skip|(go_big_quiet_want;go_big_quiet_op;first|go_big_quiet_on|(apply Exists.intro;refine⟨fun _=>?_,?_⟩;(fail);go_big_quiet_on)))
       refine wpQuiet_nil ?_
       rintro _ ⟨zq,rfl⟩)
      go_wp2_with fail
      go_ret
      exact Ret.of (zaR HE.o.symm) (zaZ fE.o zq)
    ·have Eg:¬(j:Int)<(k:Int):=Mcq;have hy:=HY.o;rw[clash_end jX]at hy;obtain⟨b,off,rfl,hb,ah⟩:=Hr;have oD:=zHi hy;have i1:wr.cell? ⟨b,off+k*3,none⟩=some (.string (l[k]'aa).name):=ah 0 _ rfl;clear ah hy gB jX hj ax;generalize(l[k]'aa).name=n1 at*;cases hs:zaf n1 frm
     ·have bk:(n1.toList==frm.toList)=false:=hs;have HE:Hid (R=zd8 l frm (k+1)):=by show _=_;rw[oD.o,hs];simp
      go_wp2_with fail
      go_round
      case rel=>exact⟨k+1,ak.o,by go_num,HE.o,fE.o⟩
      case measure=>have:=ak.o;simp only[intOf];omega
     ·have bk:(n1.toList==frm.toList)=true:=hs;have HE:Hid (R=false):=by show _=_;rw[oD.o,hs];simp
      go_wp2_with fail
      go_ret
      exact Ret.of (zaR HE.o.symm) fE.o
  ·have ar:¬(k:Int)<(l.length:Int):=Mcq;have HE:Hid (R=true):=by show _=_;rw[HX.o];unfold zd8;rw[List.drop_of_length_le Mcq];rfl
   clear hB;exact MV
section
variable {W w:World} {b:Nat} {t:TypeId} {fr:Nat×Nat} {a0 a1 a2 a3 a4 a5 a6:Value}
theorem zbj(h:W.heap[b]?=some (.cells #[a0,a1] t fr)):W.cell? ⟨b,0,none⟩=some a0/\W.cell? ⟨b,1,none⟩=some a1:=by
 simp only[World.cell?,h];exact⟨rfl,rfl⟩
theorem zeg(h:W.heap[b]?=some (.cells #[a0,a1,a2,a3,a4] t fr)):W.cell? ⟨b,0,none⟩=some a0/\W.cell? ⟨b,1,none⟩=some a1/\W.cell? ⟨b,2,none⟩=some a2/\W.cell? ⟨b,3,none⟩=some a3/\W.cell? ⟨b,4,none⟩=some a4:=by
 simp only[World.cell?,h];exact⟨rfl,rfl,rfl,rfl,rfl⟩
theorem cells6(h:W.heap[b]?=some (.cells #[a0,a1,a2,a3,a4,a5] t fr)):W.cell? ⟨b,0,none⟩=some a0/\W.cell? ⟨b,1,none⟩=some a1/\W.cell? ⟨b,2,none⟩=some a2/\W.cell? ⟨b,3,none⟩=some a3/\W.cell? ⟨b,4,none⟩=some a4/\W.cell? ⟨b,5,none⟩=some a5:=by
 simp only[World.cell?,h];exact⟨rfl,rfl,rfl,rfl,rfl,rfl⟩
theorem zaK(h:W.heap[b]?=some (.cells #[a0,a1,a2,a3,a4,a5,a6] t fr)):W.cell? ⟨b,0,none⟩=some a0/\W.cell? ⟨b,1,none⟩=some a1/\W.cell? ⟨b,2,none⟩=some a2/\W.cell? ⟨b,3,none⟩=some a3/\W.cell? ⟨b,4,none⟩=some a4/\W.cell? ⟨b,5,none⟩=some a5/\W.cell? ⟨b,6,none⟩=some a6:=by
 simp only[World.cell?,h];exact⟨rfl,rfl,rfl,rfl,rfl,rfl,rfl⟩
theorem frz{cs:Array Value}(h:W.heap[b]?=some (.cells cs t (0,0))):∀j,W.frozen? ⟨b,j,none⟩=false:=fun j=>by simp[World.frozen?,h]
theorem boxed{o:Obj}(h:w.alloc o=W):W.heap[w.heap.size]?=some o/\Qa w W:=by
 subst h;exact⟨zat _ _ _ rfl,zad Qb _⟩
end
theorem ziM{α:Type}{W:World}{base size n c:Nat}{e:TypeId}{f:α->List Value}{A:Option Addr}{xs:List α}(ae:∀x,(f x).length=size)(h:OwnS W base e size f (.slice A n c) xs):Sl W size f A xs/\xs.length<=c:=by
 obtain⟨A',c',he,h1,h2⟩:=h.sl ae;simp only[Value.slice.injEq]at he;obtain⟨rfl,_,rfl⟩:=he;exact⟨h1,h2⟩
structure Fld where
 p:Int
 f:Int
 n:Int
 s:Int
 c:Int
 y:Int
def fldP(k:Int):Fld:=if k=0 then⟨1,0,2,1,1,1⟩else if k=1 then⟨1,1,2,1,0,0⟩else if k=2 then⟨1,1,0,0,0,0⟩else if k=3 then⟨1,0,0,0,0,1⟩else if k=4 then⟨0,1,2,1,0,0⟩else if k=8 then⟨0,1,0,0,0,0⟩else⟨0,1,1,0,0,0⟩
theorem zoR(k:Int):zkJ k=sixV (fldP k).p (fldP k).f (fldP k).n (fldP k).s (fldP k).c (fldP k).y:=by
 unfold zkJ fldP;repeat' split
 all_goals rfl
structure FldOk (x:Fld):Prop where
 p:x.p=0\/x.p=1
 f:x.f=0\/x.f=1
 n:x.n=0\/x.n=1\/x.n=2
 s:x.s=0\/x.s=1
 c:x.c=0\/x.c=1
 y:x.y=0\/x.y=1
theorem fld_ok(k:Int):FldOk (fldP k):=by
 unfold fldP;repeat' split
 all_goals exact⟨by decide,by decide,by decide,by decide,by decide,by decide⟩
def fm1(pl fr:ByteArray)(p f:Int)(ap:Bool):Bool:=(!noB pl) != (p==1)||(!noB fr) != (f==1)||!ap
def fm2(n:Int)(m:Nat):Bool:=n==0&&decide (0<m)||n==1&&m != 1||n==2&&m==0
def fm3(c y cl yr kd:Int):Bool:=c==0&&cl != 0||y==0&&yr != 0||kd==3&&yr==0
def fm5(kd cl yr:Int)(q:Rat):Bool:=kd != 0||q==1&&(cl != 2||decide (0<yr))
def zfv(d:Deed):Bool:=
 if fm1 d.place d.frm (fldP d.kind).p (fldP d.kind).f (zd8 d.to d.frm 0)then false else
 if fm2 (fldP d.kind).n d.to.length then false else
 if fm3 (fldP d.kind).c (fldP d.kind).y d.cls d.years d.kind then false else
 if(fldP d.kind).s==0 then d.to.all zhC else
 if !(sumR d.to 0).2||decide ((sumR d.to 0).1.den<(sumR d.to 0).1.num)then false else fm5 d.kind d.cls d.years (sumR d.to 0).1
theorem zmY:∀(l:List RPart) (o:Rat),(sumR l o).2=l.all zdZ/\(l.all zdZ=true->(sumR l o).1=o+sumQ (zan l))
 | [],o=>⟨rfl,fun _=>by show o=o+0;grind⟩
 |p::l,o=>by
  unfold sumR;cases h:zdZ p
  ·rw[if_neg Mcv];exact⟨by rw[List.all_cons,h];rfl,fun h2=>by rw[List.all_cons,h]at h2;cases h2⟩
  ·rw[if_pos rfl,List.all_cons,h,Bool.true_and];have ih:=zmY l (o+p.rat);refine⟨ih.1,fun h2=>?_⟩;rw[ih.2 h2];show _=o+(p.rat+sumQ (zan l));grind
theorem zoS(l:List RPart)(frm:ByteArray):zd8 l frm 0=(zda l []&&l.all fun p=>!zaf p.name frm):=rfl
theorem one_le{q:Rat}:decide ((q.den:Int)<q.num)=!decide (q<=1):=by
 have h:=Rat.le_iff q 1;have e:(q<=1)↔ ¬(q.den:Int)<q.num:=by rw[h];simp
 by_cases h1:q<=1
 ·rw[decide_eq_true h1,decide_eq_false (e.1 h1)];rfl
 ·rw[decide_eq_false h1,decide_eq_true (Classical.not_not.1 (fun h2=>h1 (e.2 h2)))];rfl
theorem parts_sum(all:Bool)(frm:ByteArray)(l:List RPart):zcA true all frm l=(zd8 l frm 0&&((sumR l 0).2&&decide ((sumR l 0).1<=1)&&(!all||(sumR l 0).1==1))):=by
 have h:=zmY l 0;rw[zoS,h.1];unfold zcA;rw[if_pos rfl];show(_&&(l.all zdZ&&_&&_))=_;cases ha:l.all zdZ
 ·simp
 ·rw[h.2 ha,Rat.zero_add]
theorem zoT(all:Bool)(frm:ByteArray)(l:List RPart):zcA false all frm l=(zd8 l frm 0&&l.all zhC):=rfl
theorem len_empty(l:List RPart):(l.length==0)=l.isEmpty:=by cases l<;>rfl
theorem zoU{d:Deed}(hk:0<=d.kind/\d.kind<=8)(hy:0<=d.years):zfv d=zfW d:=by
 obtain⟨kd,dy,pl,fr,ts,cl,yr⟩:=d;have iz:kd=0\/kd=1\/kd=2\/kd=3\/kd=4\/kd=5\/kd=6\/kd=7\/kd=8:=by simp only at hk;omega
 unfold zfv zfW fm1 fm2 fm3 fm5;simp only[parts_sum,zoT,one_le]at hy⊢;have LN:ts.isEmpty=true->zd8 ts fr 0=true/\ts.all zhC=true:=by cases ts with
  |nil=>exact fun _=>⟨rfl,rfl⟩
  |cons=>exact fun h=>by cases h
 generalize zd8 ts fr 0=ap at*;generalize(sumR ts 0).2=s2;generalize(sumR ts 0).1=q;generalize ts.all zhC=bt at*;have bu:=len_empty ts;have qk:decide (0<ts.length)=!ts.isEmpty:=by cases ts<;>simp
 have nS:(ts.length==1)=true->ts.isEmpty=false:=by cases ts<;>simp
 have Hs:(ts.length != 1)=!(ts.length==1):=rfl;rw[qk,Hs,bu];generalize ts.isEmpty=em at*;generalize(ts.length==1)=on at*;generalize noB pl=np;generalize noB fr=nf;have hy:decide (0<yr)=!(yr==0):=by rw[Bool.eq_iff_iff];simp;omega
 have uN:(yr != 0)=!(yr==0):=rfl;have ah:(cl != 0)=!(cl==0):=rfl;have jT:(cl != 2)=!(cl==2):=rfl;rw[hy,uN,ah,jT];generalize(yr==0)=y0;generalize(cl==0)=c0;generalize(cl==2)=c2;generalize decide (q<=1)=q1;generalize(q==1)=q2;clear bu qk Hs hy uN ah jT hk;rcases iz with rfl|rfl|rfl|rfl|rfl|rfl|rfl|rfl|rfl<;>(clear q;simp[fldP])<;>(cases em<;>cases ap<;>simp at LN⊢ <;>cases on<;>simp at nS⊢ <;>cases y0<;>cases c0<;>cases s2<;>cases q1<;>cases q2<;>simp_all)
theorem zmZ(d:Deed)(B:Option Addr)(c:Nat)(w:World)(hl:d.to.length<=1000)(hS:Sl w 3 RPart.cells B d.to):Calls Tryz.prog 41 #[d.v B c] w (Ret w (.bool (zfv d))):=by
 obtain⟨R,hR⟩:=Qd (zfv d)
 rw[<-hR];obtain⟨kd,dy,pl,fr,ts,cl,yr⟩:=d;have HS:=zHi hS;unfold zfv at hR;have f9:=zoR kd;have kB:=fld_ok kd;simp only at hR hl hS;obtain⟨FP,G8⟩:=Qd (fldP kd)
 rw[<-G8]at hR f9 kB;clear G8;obtain⟨fp,ff,fn,fs,fc,fy⟩:=FP;obtain⟨tR,zE⟩:=yH2 kB (fun W=>zmW kd W);rw[f9]at zE;simp only at zE hR;unfold sixV at zE;have nO:=fun W (h:Qa w W)=>zoQ ts fr B c W Mcq (HS.o.keep h)
 have cU:=fun W (h:Qa w W)=>zoc ts B c W hl (HS.o.keep h)
 have GE:=fun W (h:Qa w W)=>rBare_any ts B c W Mcq (HS.o.keep h)
 generalize zd8 ts fr 0=ap at*;generalize sumR ts 0=sq at*;generalize ts.all zhC=bt at*;obtain⟨q,s2⟩:=sq;unfold zaD at cU;obtain⟨HR,pP,qL⟩:=yH3 hR cU GE;unfold Deed.v;clear hR hS f9 kB cU GE;go_enter Tryz.func41,Tryz.ntmps41
 go_upto_region 2 with(go_at_call 68;go_must(refine(zE.o _).mono ?_);rintro e wq ⟨rfl,z0,rfl⟩)
 obtain⟨F,hF⟩:=Qd (w.heap.size+1+z0.os.size)
 obtain⟨W0,am⟩:=Qd (((w.alloc (.cells #[.int .i64 kd,.int .i64 dy,.string pl,.string fr,.slice B ts.length c,.int .i64 cl,.int .i64 yr] 28)).ext z0).alloc (.cells #[.int .i64 fp,.int .i64 ff,.int .i64 fn,.int .i64 fs,.int .i64 fc,.int .i64 fy] 121))
 have g0:W0.heap[w.heap.size]?=some (.cells #[.int .i64 kd,.int .i64 dy,.string pl,.string fr,.slice B ts.length c,.int .i64 cl,.int .i64 yr] 28):=by rw[am];exact zal (zby (zat _ _ _ rfl))
 have g1:W0.heap[F]?=some (.cells #[.int .i64 fp,.int .i64 ff,.int .i64 fn,.int .i64 fs,.int .i64 fc,.int .i64 fy] 121):=by rw[am];exact zat _ _ _ (by rw[hF];simp[zae])
 have hB:Qa w W0:=Mc1;rw[<-am,<-hF];clear am hF;have F1:=zHi (fun W (h:Qa W0 W)=>nO W (hB.trans (h.mono hB.size)));clear nO;have HB:=zHi hB;obtain⟨d0,d1,d2,d3,d4,d5,d6⟩:=zaK g0;obtain⟨e0,e1,e2,e3,e4,e5⟩:=cells6 g1;have l0:=zab g0;have l1:=zab g1;clear hB;go_cut [32]from 6 to 32 (fun v wc=>v=.bool (fm1 pl fr fp ff ap)/\Qa w wc/\wc.heap[w.heap.size]?=some (.cells #[.int .i64 kd,.int .i64 dy,.string pl,.string fr,.slice B ts.length c,.int .i64 cl,.int .i64 yr] 28)/\wc.heap[F]?=some (.cells #[.int .i64 fp,.int .i64 ff,.int .i64 fn,.int .i64 fs,.int .i64 fc,.int .i64 fy] 121))
 case first=>
  cases ep:(fp==1)<;>cases ef:(ff==1)<;>cases z1:noB pl<;>cases z2:noB fr
  all_goals(
   first
    |(have w1:¬pl.toList=[]:=by simpa using(show pl.toList.isEmpty=false from z1))
    |(have w1:pl.toList=[]:=by simpa using(show pl.toList.isEmpty=true from z1))
   first
    |(have w2:¬fr.toList=[]:=by simpa using(show fr.toList.isEmpty=false from z2))
    |(have w2:fr.toList=[]:=by simpa using(show fr.toList.isEmpty=true from z2))
   go_wp2_with (go_at_call 69;go_must(refine(F1.o _ Bw).mono ?_);rintro e wq ⟨rfl,z,rfl⟩)
   go_meet
   exact⟨zaR (by simp[fm1, *]),by first|exact HB.o|exact zaZ HB.o z,by first|exact g0|exact zby g0,by first|exact g1|exact zby g1⟩)
 case rest=>
  obtain⟨rfl,hB,g0,g1⟩:=hcut;clear F1 d0 d1 d2 d3 d4 d5 d6 e0 e1 e2 e3 e4 e5 l0 l1 HB;have HB:=zHi hB;obtain⟨d0,d1,d2,d3,d4,d5,d6⟩:=zaK g0;obtain⟨e0,e1,e2,e3,e4,e5⟩:=cells6 g1;have l0:=zab g0;have l1:=zab g1;clear hB;cases gn:fm1 pl fr fp ff ap
  ·have bA:=HR.o;rw[gn,if_neg Mcv]at bA;have HR:=zHi bA;clear bA gn;go_upto_region 4 with fail
   go_cut [63]from 33 to 63 (fun v w4=>v=.bool (fm2 fn ts.length)/\wc=w4)
   case first=>
    rcases tR.o.n with h|h|h
    ·simp only at h;subst h;by_cases h1:0<ts.length
     ·have h2:(0:Int)<(ts.length:Int):=Mcq;exact MU
     ·have h2:¬(0:Int)<(ts.length:Int):=Mcq;exact MU
    ·simp only at h;subst h;by_cases h1:ts.length=1
     ·have h2:((ts.length:Int) != 1)=false:=by rw[h1];rfl
      have h3:(ts.length != 1)=false:=McZ;exact MU
     ·have h2:((ts.length:Int) != 1)=true:=by
       have:(ts.length:Int)≠1:=by omega
       simpa using this
      have h3:(ts.length != 1)=true:=McZ;exact MU
    ·simp only at h;subst h;by_cases h1:ts.length=0
     ·have h2:((ts.length:Int)==0)=true:=McZ;have h3:(ts.length==0)=true:=McZ;exact MU
     ·have h2:((ts.length:Int)==0)=false:=McZ;have h3:(ts.length==0)=false:=McZ;exact MU
   case rest=>
    obtain⟨rfl,rfl⟩:=hcut;cases cW:fm2 fn ts.length
    ·have bA:=HR.o;rw[cW,if_neg Mcv]at bA;have HR:=zHi bA;clear bA cW;go_upto_region 6 with fail
     go_cut [91]from 64 to 91 (fun v w4=>v=.bool (fm3 fc fy cl yr kd)/\wc=w4)
     case first=>
      cases ec:(fc==0)<;>cases ey:(fy==0)<;>cases ecl:(cl==0)<;>cases eyr:(yr==0)<;>cases ek:(kd==3)
      all_goals(
       have ecl2:(cl != 0)=!(cl==0):=rfl;have eyr2:(yr != 0)=!(yr==0):=rfl;simp only[ecl,eyr,Bool.not_true,Bool.not_false]at ecl2 eyr2;go_wp2_with fail
       go_meet
       exact⟨zaR (by simp[fm3, *]),by first|exact True.intro|rfl⟩)
     case rest=>
      obtain⟨rfl,rfl⟩:=hcut;cases qG:fm3 fc fy cl yr kd
      ·have bA:=HR.o;rw[qG,if_neg Mcv]at bA;have HR:=zHi bA;clear bA qG;go_upto_region 8 with fail
       rcases tR.o.s with h|h
       ·simp only at h;subst h;have HE:Hid (R=bt):=by show _=_;rw[HR.o];rfl
        go_wp2_with (go_at_call 70;go_must(refine(qL.o _ HB.o).mono ?_);rintro e wq ⟨rfl,rfl⟩)
        go_ret
        exact Ret.of (zaR HE.o.symm) HB.o
       ·simp only at h;subst h;have bA:Hid (R=if !s2||decide ((q.den:Int)<q.num)then false else fm5 kd cl yr q):=by show _=_;rw[HR.o];rfl
        go_upto_region 11 with(go_at_call 71;go_must(refine(pP.o _ HB.o).mono ?_);rintro e wq ⟨rfl,z1,rfl⟩)
        obtain⟨Q,hQ⟩:=Qd (wc.heap.size+z1.os.size)
        obtain⟨W3,bo⟩:=Qd ((wc.ext z1).alloc (.cells #[.int .i64 q.num,.int .i64 q.den] 57))
        have g3:W3.heap[Q]?=some (.cells #[.int .i64 q.num,.int .i64 q.den] 57):=by rw[bo];exact zat _ _ _ (by rw[hQ];simp[zae])
        have g2:W3.heap[w.heap.size]?=some (.cells #[.int .i64 kd,.int .i64 dy,.string pl,.string fr,.slice B ts.length c,.int .i64 cl,.int .i64 yr] 28):=by rw[bo];exact zal (zby g0)
        have aJ:Hid (Qa w W3):=by show Below _ _ _;rw[bo];exact zad (zaZ HB.o z1) _
        rw[<-bo,<-hQ];clear bo hQ d0 d1 d2 d3 d4 d5 d6 e0 e1 e2 e3 e4 e5 l0 l1 g0 g1;obtain⟨d0,d1,d2,d3,d4,d5,d6⟩:=zaK g2;obtain⟨q0,q1⟩:=zbj g3;have l2:=zab g2;have l3:=zab g3;cases s2
        ·have HE:Hid (R=false):=by show _=_;rw[bA.o];rfl
         have HB:=aJ;exact MV
        ·by_cases hq:(q.den:Int)<q.num
         ·have HE:Hid (R=false):=by show _=_;rw[bA.o,if_pos MdE]
          have HB:=aJ;exact MV
         ·have HE:Hid (R=fm5 kd cl yr q):=by show _=_;rw[bA.o,if_neg MdE]
          go_upto_region 13 with fail
          by_cases k0:kd=0
          ·subst k0;by_cases u1:q.num=1
           ·by_cases u2:(q.den:Int)=1
            ·have bS:q.den=1:=Mcq;have cN:q=1:=Rat.ext (by rw[u1];rfl) (by rw[bS];rfl);subst cN;cases k2:(cl != 2)
             ·cases k3:decide (0<yr)
              ·exact Mu
              ·exact Mu
             ·exact Mu
            ·have cN:(q==1)=false:=by simp;rintro rfl;exact u2 rfl
             have u3:((q.den:Int)==1)=false:=by simpa using u2
             exact Mu
           ·have cN:(q==1)=false:=by simp;rintro rfl;exact u1 rfl
            have u3:(q.num==1)=false:=by simpa using u1
            exact Mu
          ·have k1:(kd != 0)=true:=by simpa using k0
           exact Mu
      ·have HE:Hid (R=false):=by show _=_;rw[HR.o,qG];rfl
       exact MV
    ·have HE:Hid (R=false):=by show _=_;rw[HR.o,cW];rfl
     exact MV
  ·have HE:Hid (R=false):=by show _=_;rw[HR.o,gn];rfl
   exact MV
theorem zjp(ls:List Law)(A:Option Addr)(n c:Nat)(w:World)(hn:n=ls.length)(hS:Sl w 4 Law.cells A ls):Calls Tryz.prog 16 #[.slice A n c] w (Ret w (.int .i64 (za9 ls))):=by
 subst hn;go_enter Tryz.func16,Tryz.ntmps16
 by_cases FM:10<ls.length
 ·exact Ma1
 have hx:decide ((10:Int)<(ls.length:Int))=false:=Mcw;go_wp2_with fail
 have hT:za9 ls=zeX (ls.drop 0) (befP ls 0):=by rw[za9,if_neg Mcw];rfl
 go_loopw [3] (fun i wr=>∃k:Nat,k<=ls.length/\i=.int .i64 k/\za9 ls=zeX (ls.drop k) (befP ls k)/\∃z,wr=w.ext z) (fun i _=>ls.length-(intOf i).toNat)
 case atStart=>exact⟨0,Nat.zero_le _,rfl,hT,zaU Qb⟩
 case round=>
  obtain⟨k,hk,rfl,hf,z,rfl⟩:=hrel;clear hT hx;by_cases aa:k<ls.length
  ·rw[List.drop_eq_getElem_cons aa,zeX]at hf;obtain⟨b,off,rfl,hb,hc⟩:=hS.at aa;have h0:w.cell? ⟨b,off+k*4,none⟩=some (.int .i64 ls[k].frm):=hc 0 _ rfl;have h1:w.cell? ⟨b,off+k*4+1,none⟩=some (.bool ls[k].stems):=hc 1 _ rfl;have h2:w.cell? ⟨b,off+k*4+2,none⟩=some (.int .i64 ls[k].num):=hc 2 _ rfl;have h3:w.cell? ⟨b,off+k*4+3,none⟩=some (.int .i64 ls[k].den):=hc 3 _ rfl;have HF:=zHi hf;have jz:(k:Int)<(ls.length:Int):=Mcq;have iF:0<k->w.cell? ⟨b,off+(k-1)*4,none⟩=some (.int .i64 (ls[k-1]' Mcq).frm):=fun aR=>by
    exact Mbz
   have HP:=zHi iF;have HB:befP ls (k+1)=some ls[k].frm:=zhF ls aa;have HB:=zHi HB;clear hc hf hS iF
   go_upto_region 10 with(first
    |(go_at_call 39;refine(zdq _ _).mono ?_;intro e wq hq;rcases Ret0.bools hq with⟨rfl,⟨hb,rfl⟩|⟨hb,rfl⟩⟩<;>clear hq)
    |(go_at_call 40;refine(zh8 _ _ _).mono ?_;intro e wq hq;rcases Ret.bools hq with⟨zq,rfl,⟨hb,rfl⟩|⟨hb,rfl⟩⟩<;>clear hq))
   all_goals first
    |(go_ret
      exact Ret.of (zcd MdY) Bw)
    |skip
   rcases Nat.eq_zero_or_pos k with aR|aR
   ·have hd:decide ((k:Int)>0)=false:=Mcw;have i8:befP ls k=none:=by rw[befP,if_pos aR]
    go_quiet (fail)
    go_wp2_with fail
    go_round
    case rel=>subst aR;exact⟨1,by omega,rfl,by rw[HF.o,HB.o];simp[zhx, *],zaU Bw⟩
    case measure=>simp[intOf];omega
   ·have hd:decide ((k:Int)>0)=true:=Mcw;have qF:IntKind.i64.wrap ((k:Int)-1)=(k:Int)-1:=IntWalk.i64_in _ Mcq;have iD:0<=(k:Int)-1:=Mcq;have dA:((k:Int)-1).toNat=k-1:=Mcq;have cA:(k:Int)-1<(ls.length:Int):=Mcq;have hp:=HP.o aR;have aW:befP ls k=some (ls[k-1]' Mcq).frm:=by have:=zhF ls (k:=k-1) Mcq;rwa [Nat.sub_add_cancel aR]at this
    go_quiet (fail)
    go_wp2_with fail
    all_goals first
     |(go_ret
       exact Ret.of (zcd MdY) Bw)
     |(go_round
       case rel=>exact⟨k+1,by omega,by go_num,by rw[HF.o,HB.o];simp[zhx, *],zaU Bw⟩
       case measure=>simp[intOf];omega)
  ·exact MaB
theorem zoV(ls:List Law)(A:Option Addr)(c:Nat)(day:Int)(w:World)(hl:ls.length<=10)(hS:Sl w 4 Law.cells A ls):Calls Tryz.prog 158 #[.slice A ls.length c,.int .i64 day] w (Ret w (zbc ls day).v):=by
 go_enter Tryz.func158,Tryz.ntmps158
 go_upto_region 3 with(go_at_call 115;go_must(refine(zin _).mono ?_);rintro e wq ⟨rfl,z,rfl⟩)
 obtain⟨L,hL⟩:=Qd (w.heap.size+1+z.os.size)
 have Ah:w.heap.size<L:=Mcq;rw[<-hL];have HL:=zHi hL;clear hL;go_loopw [6] (fun i wr=>∃k:Nat,k<=ls.length/\i=.int .i64 k/\∃x:Law,x=zbc (ls.take k) day/\Qa w wr/\L+1<=wr.heap.size/\wr.heap[w.heap.size]?=some (.cells #[.int .i64 0,.bool false,.int .i64 0,.int .i64 0] 72)/\wr.heap[L]?=some (.cells #[.int .i64 x.frm,.bool x.stems,.int .i64 x.num,.int .i64 x.den] 72)) (fun i _=>ls.length-(intOf i).toNat)
 case atStart=>
  refine⟨0,Nat.zero_le _,rfl,zms,rfl,?_,?_,?_,?_⟩
  ·exact Bw
  ·rw[HL.o];simp[zae]
  ·exact zal (zby (zat _ _ _ rfl))
  ·exact zat _ _ _ (by rw[HL.o];simp[zae])
 case round=>
  obtain⟨k,hk,rfl,x,hx,hB,hsz,g0,g1⟩:=hrel;have c0:wr.cell? ⟨L,0,none⟩=some (.int .i64 x.frm):=Mct;have c1:wr.cell? ⟨L,1,none⟩=some (.bool x.stems):=Mct;have c2:wr.cell? ⟨L,2,none⟩=some (.int .i64 x.num):=Mct;have c3:wr.cell? ⟨L,3,none⟩=some (.int .i64 x.den):=Mct;have d0:wr.cell? ⟨w.heap.size,0,none⟩=some (.int .i64 0):=Mcr;have d1:wr.cell? ⟨w.heap.size,1,none⟩=some (.bool false):=Mcr;have d2:wr.cell? ⟨w.heap.size,2,none⟩=some (.int .i64 0):=Mcr;have d3:wr.cell? ⟨w.heap.size,3,none⟩=some (.int .i64 0):=Mcr;have f0:wr.frozen? ⟨w.heap.size,0,none⟩=false:=McE;have f1:wr.frozen? ⟨L,0,none⟩=false:=McF;have e1:wr.frozen? ⟨L,1,none⟩=false:=McF;have e2:wr.frozen? ⟨L,2,none⟩=false:=McF;have e3:wr.frozen? ⟨L,3,none⟩=false:=McF;have m1:wr.frozen? ⟨w.heap.size,1,none⟩=false:=McE;have m2:wr.frozen? ⟨w.heap.size,2,none⟩=false:=McE;have m3:wr.frozen? ⟨w.heap.size,3,none⟩=false:=McE;have ee:L<wr.heap.size:=Mcq;have aw:w.heap.size<wr.heap.size:=Mcq;have bk:L≠wr.heap.size:=Mcq;by_cases aa:k<ls.length
  ·obtain⟨b,off,rfl,hb,hc⟩:=(hS.keep hB).at aa;have h0:wr.cell? ⟨b,off+k*4,none⟩=some (.int .i64 ls[k].frm):=hc 0 _ rfl;have h1:wr.cell? ⟨b,off+k*4+1,none⟩=some (.bool ls[k].stems):=hc 1 _ rfl;have h2:wr.cell? ⟨b,off+k*4+2,none⟩=some (.int .i64 ls[k].num):=hc 2 _ rfl;have h3:wr.cell? ⟨b,off+k*4+3,none⟩=some (.int .i64 ls[k].den):=hc 3 _ rfl;clear hc hS;go_wp2_with fail
   ·refine⟨⟨k+1,by omega,by go_num,ls[k],by rw[zf3 ls day aa,if_pos (by simp;assumption)],?_,?_,?_,?_⟩,by simp[intOf];omega⟩
    ·exact zaN (zaN (zaN (zaN hB McH _) McH _) McH _) McH _
    ·first|omega|(simp;omega)
    ·exact((zaN (zaN (zaN (zaN (Below.refl L wr) McH _) McH _) McH _) McH _).block w.heap.size Mcq).trans g0
    ·exact zn8 g1
   ·exact⟨⟨k+1,by omega,by go_num,zbc (ls.take k) day,by rw[zf3 ls day aa,if_neg (by simp;assumption)],hB,hsz,g0,by simpa[hx]using g1⟩,by simp[intOf];omega⟩
  ·go_wp2_with fail
   have sX:ls.take k=ls:=List.take_of_length_le Mcq;have g4:=zn8 (a:=.int .i64 (zbc ls day).frm) (b:=.bool (zbc ls day).stems) (c:=.int .i64 (zbc ls day).num) (d:=.int .i64 (zbc ls day).den) g0;rw[sX];refine bodyPost_ret (v:=(zbc ls day).v) ?_ rfl ?_
   ·refine zif rfl _ _ w.heap.size _ rfl ?_ ?_ ?_ ?_<;>simp[World.cell?,g4]
   ·exact Ret.of rfl (zaN (zaN (zaN (zaN hB McH _) McH _) McH _) McH _)
end
structure PartsOk (l:Parts):Prop where
 good:GoodParts l
 small:zaG l=false
 one:l=[]\/sumQ l=1
theorem PartsOk.nil:PartsOk []:=⟨zdt,rfl,.inl rfl⟩
theorem ziN{laws:List Law}{ds:List Deed}{names:List ByteArray}{day:Int}(h:zct laws ds names day=0):(zco laws ds 200000).2.2=0/\zbm day=true:=by
 unfold zct at h;split at h
 ·rename_i h1
  rw[h]at h1;simp at h1
 ·rename_i h1
  refine⟨by simpa using h1,?_⟩;split at h
  ·cases h
  ·split at h
   ·cases h
   ·rename_i h2
    simpa using h2
theorem zna{laws:List Law}{ds:List Deed}{names:List ByteArray}{day:Int}(h:zct laws ds names day=0):∃last,GoodSt (zaB laws ds day).1 last:=by
 have bc:=on_laws h;obtain⟨h1,h2⟩:=ziN h;have h0:0<=day:=by
  unfold zbm inR at h2;simp at h2;omega
 obtain⟨b,_,hg⟩:=zl5 (laws:=laws) (upto:=day) bc (ds:=ds) (s:=zbb) (k:=0) (last:=0) (zdT 0) h0;refine⟨b,?_⟩;rw[<-(zfE h1 day).1];unfold zco;rw[if_neg Mef];exact hg
theorem zoW{s:St}{last:Int}(h:GoodSt s last)(place:ByteArray)(day:Int):PartsOk (zbW s place day):=by
 unfold zbW;cases hx:zaS s place day with
 |none=>exact PartsOk.nil
 |some i=>
  obtain⟨g,hg,_,_⟩:=zch hx;have e:s.graves.getD i zjj=g:=by rw[List.getD_eq_getElem?_getD,hg];rfl
  have k:=h.graves g (List.mem_of_getElem? hg);simp only[e];exact⟨k.good,k.small,k.one⟩
theorem zjS{M:Rat}:∀ {l:Parts},(∀p∈l,0<p.2/\((p.2.den:Int):Rat)<=M)->(l.length:Rat)<=M*sumQ l
 | [],_=>by simp[sumQ]
 |p::l,h=>by
  have ih:=zjS (l:=l) fun q hq=>h q (List.mem_cons_of_mem _ hq)
  obtain⟨h0,h1⟩:=h p List.mem_cons_self;have hn:=num_pos h0;have hd:((p.2.den:Int):Rat)≠0:=by
   intro e;have k:(p.2.den:Int)=0:=by exact_mod_cast e
   have:=p.2.den_pos;omega
  have e0:p.2=(p.2.num:Rat)/((p.2.den:Int):Rat):=by rw[<-Rat.divInt_eq_div];exact(Rat.num_divInt_den p.2).symm
  have e1:((1:Int):Rat)<=(p.2.num:Rat):=Rat.intCast_le_intCast.2 hn;have e1':(1:Rat)<=(p.2.num:Rat):=e1;have e:p.2*((p.2.den:Int):Rat)=(p.2.num:Rat):=by
   generalize((p.2.den:Int):Rat)=y at*;generalize(p.2.num:Rat)=x at*;rw[e0];grind
  have e3:p.2*((p.2.den:Int):Rat)<=p.2*M:=Rat.mul_le_mul_of_nonneg_left h1 McN;rw[List.length_cons,sumQ];have e4:((l.length+1:Nat):Rat)=(l.length:Rat)+1:=Mcv;rw[e4];generalize(l.length:Rat)=L at*;generalize sumQ l=S at*;generalize((p.2.den:Int):Rat)=y at*;generalize(p.2.num:Rat)=x at*;grind
theorem PartsOk.parts{l:Parts}(h:PartsOk l):(∀p∈l,0<p.2/\p.2<=1/\(p.2.den:Int)<=1000000000)/\sumQ l<=1/\l.length<=1000000000:=by
 have hs:sumQ l<=1:=by
  rcases h.one with e|e
  ·rw[e,sumQ];decide
  ·rw[e];exact Rat.le_refl
 have hp:=part_le h.good.pos hs;have hd:=not_large h.small;refine⟨fun p hm=>⟨h.good.pos p hm,hp p hm,hd p hm⟩,hs,?_⟩;obtain⟨M,hM⟩:∃M:Int,M=1000000000:=⟨_,rfl⟩
 have k:=zjS (M:=(M:Rat)) (l:=l) fun p hm=>⟨h.good.pos p hm,Rat.intCast_le_intCast.2 (by rw[hM];exact hd p hm)⟩
 have Kn:(0:Rat)<=(M:Rat):=by
  have:((0:Int):Rat)<=(M:Rat):=Rat.intCast_le_intCast.2 Mcq;exact this
 have k1:(M:Rat)*sumQ l<=(M:Rat)*1:=Rat.mul_le_mul_of_nonneg_left hs Kn;have k2:(((l.length:Int)):Rat)<=(M:Rat):=by
  rw[Rat.intCast_natCast];grind
 have k3:=Rat.intCast_le_intCast.1 k2;omega
open Go.Sort
theorem own_put{α β:Type}[Inhabited β]{e:TypeId}{f:α->List Value}{enc:β->Value}{w:World}{base g o cap n:Nat}{cur:Array Value}{d:Array β}{L:List α}{os:Array Obj}(hg:w.heap[g]?=some (.cells cur e (0,0)))(hb:base<=g)(hc:L.length<=cap)(hm:cap<=maxLen)(hs:o+cap*1<=cur.size)(hd:d.size=L.length)(hf:L.flatMap f=d.toList.map enc):
 OwnS (Sort.grow (putRow enc (Sort.ahead w n) g o d) os) base e 1 f (.slice (some ⟨g,o,none⟩) L.length cap) L:=by
 have hl:=zab hg;refine .inr ⟨g,o,cap,putCells enc o d cur,rfl,hb,?_,hc,hm,by unfold putCells;rw[Array.size_mapIdx];exact hs,?_⟩
 ·exact MaJ
 ·intro j u hu;rw[hf,List.getElem?_map]at hu;cases hj:d.toList[j]? with
  |none=>rw[hj]at hu;cases hu
  |some x=>
   rw[hj]at hu;have bM:j<d.size:=by have:=(List.getElem?_eq_some_iff.1 hj).1;simpa using this
   have hx:d[j]! =x:=by
    rw[getElem!_pos d j bM];have:=(List.getElem?_eq_some_iff.1 hj).2;simpa using this
   exact MaG
theorem zlS{β:Type}[Inhabited β]{enc:β->Value}{w:World}{g o n:Nat}(d:Array β)(os:Array Obj):w.grownBy (Sort.grow (putRow enc (Sort.ahead w n) g o d) os) (some g):=by
 refine⟨rfl,rfl,rfl,?_,fun k hk ag=>?_⟩
 ·exact Ma8
 ·have Ho:¬g=k:=fun e=>ag (by rw[e])
  exact MaK
theorem zlT{α β:Type}[Inhabited β]{e:TypeId}{f:α->List Value}{enc:β->Value}{w:World}{g o:Nat}{cur:Array Value}{d:Array β}{L:List α}(hg:w.heap[g]?=some (.cells cur e (0,0)))(hf:L.flatMap f=d.toList.map enc)(hx:∀j u,(L.flatMap f)[j]?=some u->cur[o+j]?=some u):Sort.Holds enc w g o d:=fun j hj=>by
 have h1:=hx j (enc d[j]!) (by rw[hf,List.getElem?_map,List.getElem?_eq_getElem MdI,getElem!_pos d j hj];rfl);exact⟨by simp only[World.cell?,hg];exact h1,by simp[World.frozen?,hg]⟩
theorem zd9{w w0 W:World}{v:Value}{base:Nat}(h:w0.heap.size<=base)(hv:∀g,za6 v=some g->base<=g)(hg:w.grownBy W (za6 v))(hB:Qa w0 w):Qa w0 W:=
 hB.trans ⟨hg.os,hg.tape,hg.output,hg.size,fun k hk=>hg.block k (Nat.lt_of_lt_of_le hk hB.size) fun e=>by have:=hv k e.symm;omega⟩
theorem zlU:∀l:List Int,l.flatMap zC=l.map (Value.int .i64)
 | []=>rfl
 |b::l=>by rw[List.flatMap_cons,zlU l];rfl
theorem sortZ_any(v:Value)(xs:List Int)(base:Nat)(w:World)(ac:OwnS w base 3 1 zC v xs)(hl:xs.length<=1000000000):
 Calls Tryz.prog 28 #[v] w (fun e w'=>e=.returned (.tuple #[])/\∃L,L.Perm xs/\(L.Pairwise fun a b=>a<=b)/\OwnS w' base 3 1 zC v L/\w.grownBy w' (za6 v)):=by
 rcases ac with⟨rfl,rfl⟩|⟨g,o,cap,cur,rfl,hb,hg,hc,hm,hs,hx⟩
 ·have ba:=AnyG.slices_Sort_int_none srtInt none 0 w;change Calls Tryz.prog 28 _ _ _ at ba;refine ba.mono ?_;rintro e wq ⟨rfl,rfl⟩;exact⟨rfl,[],List.Perm.refl _,List.Pairwise.nil,OwnS.nil,zc3 _ _⟩
 ·have ba:=AnyG.slices_Sort_int srtInt g o cap xs w (zlT (f:=zC) (L:=xs) hg (zlU xs) hx) (zab hg) Mcq;change Calls Tryz.prog 28 _ _ _ at ba;refine ba.mono ?_;rintro e wq ⟨rfl,n,os,rfl⟩;have hp:(xs.mergeSort fun x y=>decide (x<=y)).Perm xs:=List.mergeSort_perm _ _;have qC:(xs.mergeSort fun x y=>decide (x<=y)).Pairwise fun a b=>decide (a<=b)=true:=List.pairwise_mergeSort (le:=fun a b=>decide (a<=b)) (fun a b c h1 h2=>by simp only[decide_eq_true_eq]at*;omega) (fun a b=>by simp only[Bool.or_eq_true,decide_eq_true_eq];omega) xs
  generalize(xs.mergeSort fun x y=>decide (x<=y))=ts at*;have bT:ts.length=xs.length:=hp.length_eq;refine⟨rfl,ts,hp,qC.imp fun {a b} h=>by simpa using h,by rw[<-bT];exact own_put hg hb Mcq hm hs Mcv (zlU ts),zlS _ _⟩
