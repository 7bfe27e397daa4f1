import Derived.Test.YtogklihlgindkaaGreatDoorOT
import Derived.Test.YtogklihlgindkaaGreatDoorXX
set_option linter.all false
set_option maxRecDepth 100000
set_option maxHeartbeats 4000000
namespace Go.Proofs.YtogklihlgindkaaGreatDoor
open Go.RowKit Go.Shelf
attribute [local go_sem] World.cell?_alloc_mark zaf za3 zam za6 zat zau zav zaw zax zay zaz
attribute [local go_sem] zao zac
def zoD{laws:List Law}{upto:Int}:∀ {ds:List Deed} {s told:St} {k:Nat} {last:Int},(zaR laws upto ds s told k last).2.2=0->∀d∈ds,OkD d
 | [],_,_,_,_,_=>by simp
 |d::l,s,told,k,last,h=>by
  rw[zaR]at h;split at h
  ·rename_i hc
   rw[h]at hc;simp at hc
  ·rename_i hc
   intro x hx;rcases List.mem_cons.1 hx with e|e
   ·rw[e];exact ze8 (zdH MdY).1
   ·exact zoD h x e
variable{laws:List Law}{ds:List Deed}{names:List ByteArray}{day:Int}
def zlh(h:zce laws ds names day=0):∀d∈ds,OkD d:=by
 have h1:=(zle h).1;unfold zaI at h1;rw[if_neg (by simp[on_laws h])]at h1;exact zoD h1
def zjs{n:Int}(h:0<=n/\n<=200000):zba n=true:=by
 unfold zba inR;simpa using h
def on_day{d:Int}(h:zce laws ds names day=0)(hd:zba d=true):zce laws ds [] d=0:=by
 have h1:=(znG h).1;unfold zce;rw[if_neg (by simp[h1]),if_neg McV,if_neg (by simp[hd])]
def days_ok(h:zce laws ds names day=0)(place:ByteArray):∀x∈zel laws ds place ds,zba x=true:=by
 intro x hx;obtain⟨d,hd,hx⟩:=List.mem_flatMap.1 hx;have hk:=(zlh h d hd).day;rcases List.mem_cons.1 hx with e|e
 ·rw[e];exact zjs hk
 ·unfold zek at e;obtain⟨g,hg,rfl⟩:=List.mem_map.1 e;obtain⟨h1,h2⟩:=List.mem_filter.1 hg;simp only[Bool.and_eq_true,decide_eq_true_eq]at h2;have hT:=(zle (on_day h (zjs hk))).2;exact zjs ⟨h2.2,(hT.few.held g h1).2.2⟩
def zoE(w:World)(xs ys:Parts)(e:Ending)(w':World):Prop:= ∃r:Bool,e=.returned (.bool r)/\(r=true↔xs=ys)/\∃z,w'=w.ext z
def zli(xs ys:Parts)(P Q:Option Addr)(pc qc:Nat)(w:World)(hp:Sl w 3 zaa P xs)(hq:Sl w 3 zaa Q ys)(hl:xs.length<=100000)(lO:ys.length<=100000):
 Calls Tryz.prog 24 #[.slice P xs.length pc,.slice Q ys.length qc] w (zoE w xs ys):=by
 by_cases hn:xs.length=ys.length;rotate_left 1
 ·have cu:¬(xs.length:Int)=(ys.length:Int):=McS;have HN:=zHi hn;clear hn hp hq;go_enter Tryz.func24,Tryz.ntmps24
  exact Mbn
 have HN:=zHi hn;rw[<-hn];clear hn lO;go_enter Tryz.func24,Tryz.ntmps24
 go_wp2_with fail
 go_loopw [13] (λi wr=>∃j:Nat,j<=xs.length/\i=.int .i64 j/\Hid (xs.take j=ys.take j)/\∃z,wr=w.ext z) (λi _=>xs.length-(intOf i).toNat)
 case atStart=>exact⟨0,Nat.zero_le _,rfl,rfl,zaP Qb⟩
 case round=>
  obtain⟨j,hj,rfl,HT,z,rfl⟩:=hrel;by_cases ae:j<xs.length
  ·have dF:j<ys.length:=MeE;obtain⟨b,off,rfl,hb,hc⟩:=hp.at ae;obtain⟨b',off',rfl,cA,aE⟩:=hq.at dF;have bu:(j:Int)<(xs.length:Int):=McS;have oh:(0:Int)<=(j:Int):=McS;have gD:xs.take (j+1)=xs.take j++[xs[j]]:=List.take_succ_eq_append_getElem ae;have tG:ys.take (j+1)=ys.take j++[ys[j]]:=List.take_succ_eq_append_getElem dF;have cP:xs[j]?=some xs[j]:=List.getElem?_eq_getElem ae;have qG:ys[j]?=some ys[j]:=List.getElem?_eq_getElem dF;generalize xs[j]=x at*;generalize ys[j]=y at*;obtain⟨kE,FH,aw,kG⟩:=yH4 gD tG cP qG;obtain⟨x0,x1⟩:=x;obtain⟨y0,y1⟩:=y;have i0:w.cell? ⟨b,off+j*3,none⟩=some (.string x0):=hc 0 _ rfl;have k0:w.cell? ⟨b',off'+j*3,none⟩=some (.string y0):=aE 0 _ rfl;have i1:w.cell? ⟨b,off+j*3+1,none⟩=some (.int .i64 x1.num):=hc 1 _ rfl;have k1:w.cell? ⟨b',off'+j*3+1,none⟩=some (.int .i64 y1.num):=aE 1 _ rfl;have i2:w.cell? ⟨b,off+j*3+2,none⟩=some (.int .i64 x1.den):=hc 2 _ rfl;have k2:w.cell? ⟨b',off'+j*3+2,none⟩=some (.int .i64 y1.den):=aE 2 _ rfl;clear hc aE gD tG cP qG dF;by_cases fE:x0=y0/\x1=y1
   ·obtain⟨rfl,rfl⟩:=fE;go_upto_region 6 with fail
    exact M6
   ·have wj:=zHi fE;by_cases e0:x0=y0
    ·subst e0;by_cases e1:x1.num=y1.num
     ·have e2:¬(x1.den:Int)=(y1.den:Int):=λh=>fE ⟨rfl,Rat.ext e1 McS⟩
      have kx:=zHi e2;rw[<-e1]at k1;clear fE e1;go_upto_region 6 with fail
      exact MR
     ·have tP:=zHi e1;clear fE;go_upto_region 6 with fail
      exact MQ
    ·have pQ:=zHi e0;have hs:(x0.toList==y0.toList)=false:=zcd.2 e0;clear fE e0;go_upto_region 6 with fail
     exact MS
  ·exact Mah
