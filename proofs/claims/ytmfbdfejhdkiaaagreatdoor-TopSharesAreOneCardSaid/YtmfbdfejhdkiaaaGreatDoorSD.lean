/- Walk of slices.Equal at parts; the days of tenures are days. -/
import Derived.Test.YtmfbdfejhdkiaaaGreatDoorOT
import Derived.Test.YtmfbdfejhdkiaaaGreatDoorXX
set_option linter.all false
set_option maxRecDepth 100000
set_option maxHeartbeats 4000000
namespace Go.Proofs.YtmfbdfejhdkiaaaGreatDoor
open Go.RowKit Go.Shelf
attribute [local go_sem] World.cell?_alloc_mark zae za4 zao za8 zav zaw zax zay zaz za0 za1
attribute [local go_sem] zap zac
theorem zoh{laws:List Law}{upto:Int}:∀ {ds:List Deed} {s told:St} {k:Nat} {last:Int},(zau laws upto ds s told k last).2.2=0->∀d∈ds,OkD d
 | [],_,_,_,_,_=>by simp
 |d::l,s,told,k,last,h=>by
  rw[zau]at h;split at h
  ·rename_i hc
   rw[h]at hc;simp at hc
  ·rename_i hc
   intro x hx;rcases List.mem_cons.1 hx with e|e
   ·rw[e];exact zcP (zcr Mdt).1
   ·exact zoh h x e
theorem on_deeds{laws:List Law}{ds:List Deed}{names:List ByteArray}{day:Int}(h:zct laws ds names day=0):∀d∈ds,OkD d:=by
 have h1:=(on_told h).1;unfold zaB at h1;rw[if_neg (by simp[on_laws h])]at h1;exact zoh h1
theorem day_in{n:Int}(h:0<=n/\n<=200000):zbm n=true:=by
 unfold zbm inR;simpa using h
theorem on_day{laws:List Law}{ds:List Deed}{names:List ByteArray}{day d:Int}(h:zct laws ds names day=0)(hd:zbm d=true):zct laws ds [] d=0:=by
 have h1:=(ziN h).1;unfold zct;rw[if_neg (by simp[h1]),if_neg Mcv,if_neg (by simp[hd])]
theorem days_ok{laws:List Law}{ds:List Deed}{names:List ByteArray}{day:Int}(h:zct laws ds names day=0)(place:ByteArray):∀x∈zeT laws ds place ds,zbm x=true:=by
 intro x hx;obtain⟨d,hd,hx⟩:=List.mem_flatMap.1 hx;have hk:=(on_deeds h d hd).day;rcases List.mem_cons.1 hx with e|e
 ·rw[e];exact day_in hk
 ·unfold zec at e;obtain⟨g,hg,rfl⟩:=List.mem_map.1 e;obtain⟨h1,h2⟩:=List.mem_filter.1 hg;simp only[Bool.and_eq_true,decide_eq_true_eq]at h2;have hT:=(on_told (on_day h (day_in hk))).2;exact day_in ⟨h2.2,(hT.few.held g h1).2.2⟩
def EqPost(w:World)(xs ys:Parts)(e:Ending)(w':World):Prop:= ∃r:Bool,e=.returned (.bool r)/\(r=true↔xs=ys)/\∃z,w'=w.ext z
theorem zkQ(xs ys:Parts)(P Q:Option Addr)(pc qc:Nat)(w:World)(hp:Sl w 3 zaa P xs)(hq:Sl w 3 zaa Q ys)(hl:xs.length<=100000)(nS:ys.length<=100000):
 Calls Tryz.prog 32 #[.slice P xs.length pc,.slice Q ys.length qc] w (EqPost w xs ys):=by
 by_cases hn:xs.length=ys.length;rotate_left 1
 ·have bD:¬(xs.length:Int)=(ys.length:Int):=Mcq;have HN:=zHi hn;clear hn hp hq;go_enter Tryz.func32,Tryz.ntmps32
  go_wp2_with fail
  go_ret
  exact⟨false,rfl,Iff.intro (fun h=>by cases h) (fun h=>absurd (congrArg List.length h) HN.o),zaU Qb⟩
 have HN:=zHi hn;rw[<-hn];clear hn nS;go_enter Tryz.func32,Tryz.ntmps32
 go_wp2_with fail
 go_loopw [13] (fun i wr=>∃j:Nat,j<=xs.length/\i=.int .i64 j/\Hid (xs.take j=ys.take j)/\∃z,wr=w.ext z) (fun i _=>xs.length-(intOf i).toNat)
 case atStart=>exact⟨0,Nat.zero_le _,rfl,rfl,zaU Qb⟩
 case round=>
  obtain⟨j,hj,rfl,HT,z,rfl⟩:=hrel;by_cases aa:j<xs.length
  ·have ph:j<ys.length:=MeA;obtain⟨b,off,rfl,hb,hc⟩:=hp.at aa;obtain⟨b',off',rfl,cI,aI⟩:=hq.at ph;have cA:(j:Int)<(xs.length:Int):=Mcq;have sW:(0:Int)<=(j:Int):=Mcq;have gn:xs.take (j+1)=xs.take j++[xs[j]]:=List.take_succ_eq_append_getElem aa;have Be:ys.take (j+1)=ys.take j++[ys[j]]:=List.take_succ_eq_append_getElem ph;have cW:xs[j]?=some xs[j]:=List.getElem?_eq_getElem aa;have Iu:ys[j]?=some ys[j]:=List.getElem?_eq_getElem ph;generalize xs[j]=x at*;generalize ys[j]=y at*;obtain⟨iQ,JO,ax,oD⟩:=yH4 gn Be cW Iu;obtain⟨x0,x1⟩:=x;obtain⟨y0,y1⟩:=y;have i0:w.cell? ⟨b,off+j*3,none⟩=some (.string x0):=hc 0 _ rfl;have k0:w.cell? ⟨b',off'+j*3,none⟩=some (.string y0):=aI 0 _ rfl;have i1:w.cell? ⟨b,off+j*3+1,none⟩=some (.int .i64 x1.num):=hc 1 _ rfl;have k1:w.cell? ⟨b',off'+j*3+1,none⟩=some (.int .i64 y1.num):=aI 1 _ rfl;have i2:w.cell? ⟨b,off+j*3+2,none⟩=some (.int .i64 x1.den):=hc 2 _ rfl;have k2:w.cell? ⟨b',off'+j*3+2,none⟩=some (.int .i64 y1.den):=aI 2 _ rfl;clear hc aI gn Be cW Iu ph;by_cases kO:x0=y0/\x1=y1
   ·obtain⟨rfl,rfl⟩:=kO;go_upto_region 6 with fail
    (refine zam Mcs Mcs ?_
     repeat(first|go_big_quiet_skip|(go_big_quiet_want;go_big_quiet_op;first|go_big_quiet_on|(apply Exists.intro;refine⟨fun _=>?_,?_⟩;(fail);go_big_quiet_on)))
     refine wpQuiet_nil ?_
     rintro _ ⟨zq,rfl⟩)
    go_wp2_with fail
    go_roundw
    case rel=>exact⟨j+1,by omega,by go_num,by show _=_;rw[iQ.o,JO.o,HT.o],zaU Bw⟩
    case measure=>simp[intOf];omega
   ·have HXY:=zHi kO;by_cases e0:x0=y0
    ·subst e0;by_cases e1:x1.num=y1.num
     ·have e2:¬(x1.den:Int)=(y1.den:Int):=fun h=>kO ⟨rfl,Rat.ext e1 Mcq⟩
      have iJ:=zHi e2;rw[<-e1]at k1;clear kO e1;go_upto_region 6 with fail
      (refine zam Mcs Mcs ?_
       repeat(first|go_big_quiet_skip|(go_big_quiet_want;go_big_quiet_op;first|go_big_quiet_on|(apply Exists.intro;refine⟨fun _=>?_,?_⟩;(fail);go_big_quiet_on)))
       refine wpQuiet_nil ?_
       rintro _ ⟨zq,rfl⟩)
      go_wp2_with fail
      go_ret
      refine⟨false,rfl,Iff.intro (fun h=>by cases h) (fun h=>?_),zaU Bw⟩;exfalso
      have h1:=ax.o;rw[h,oD.o]at h1;simp only[Option.some.injEq,Prod.mk.injEq]at h1;exact iJ.o (by rw[h1.2])
     ·have ve:=zHi e1;clear kO;go_upto_region 6 with fail
      (refine zam Mcs Mcs ?_
       repeat(first|go_big_quiet_skip|(go_big_quiet_want;go_big_quiet_op;first|go_big_quiet_on|(apply Exists.intro;refine⟨fun _=>?_,?_⟩;(fail);go_big_quiet_on)))
       refine wpQuiet_nil ?_
       rintro _ ⟨zq,rfl⟩)
      go_wp2_with fail
      go_ret
      refine⟨false,rfl,Iff.intro (fun h=>by cases h) (fun h=>?_),zaU Bw⟩;exfalso
      have h1:=ax.o;rw[h,oD.o]at h1;simp only[Option.some.injEq,Prod.mk.injEq]at h1;exact ve.o (by rw[h1.2])
    ·have qV:=zHi e0;have hs:(x0.toList==y0.toList)=false:=zci.2 e0;clear kO e0;go_upto_region 6 with fail
     (refine zam Mcs Mcs ?_
      repeat(first|go_big_quiet_skip|(go_big_quiet_want;go_big_quiet_op;first|go_big_quiet_on|(apply Exists.intro;refine⟨fun _=>?_,?_⟩;(fail);go_big_quiet_on)))
      refine wpQuiet_nil ?_
      rintro _ ⟨zq,rfl⟩)
     go_wp2_with fail
     go_ret
     refine⟨false,rfl,Iff.intro (fun h=>by cases h) (fun h=>?_),zaU Bw⟩;exfalso
     have h1:=ax.o;rw[h,oD.o]at h1;simp only[Option.some.injEq,Prod.mk.injEq]at h1;exact qV.o h1.1.symm
  ·have AR:¬((j:Int)<(xs.length:Int)):=Mcq;have g9:=HT.o;rw[List.take_of_length_le Mcq,List.take_of_length_le MeA]at g9;have eu:=zHi g9;clear g9;go_wp2_with fail
   go_ret
   exact⟨true,rfl,Iff.intro (fun _=>eu.o) (fun _=>rfl),zaU Bw⟩
