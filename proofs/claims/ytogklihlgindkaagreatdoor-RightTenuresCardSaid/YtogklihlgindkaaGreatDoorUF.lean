import Derived.Test.YtogklihlgindkaaGreatDoorEG
import Derived.Test.YtogklihlgindkaaGreatDoorEI
set_option linter.all false
set_option maxRecDepth 100000
set_option maxHeartbeats 4000000
namespace Go.Proofs.YtogklihlgindkaaGreatDoor
open Go.RowKit Go.Shelf
attribute [local go_sem] World.cell?_alloc_mark zaf za3 zam za6 zat zau zav zaw zax zay zaz
attribute [local go_sem] zao zac
variable{fn:Func}{p:Tmp}
def zmn(h:fn.results= #[.cell p 55])(tmps:Array Value)(w:World)(B:Nat)(x0 x1 x2:Value)(hp:tmps.getD p undef=.pointer (some ⟨B,0,none⟩))
 (hx:w.heap[B]?=some (.cells #[x0,x1,x2] 55)):(results fn tmps).run Tryz.prog w=.ok (.agg #[x0,x1,x2]) w:=by
 obtain⟨h0,h1,h2⟩:=cF3 hx;exact Mbo
def zj5(h:fn.results= #[.cell p 25])(tmps:Array Value)(w:World)(B:Nat)(x0 x1:Value)(hp:tmps.getD p undef=.pointer (some ⟨B,0,none⟩))
 (hx:w.heap[B]?=some (.cells #[x0,x1] 25)):(results fn tmps).run Tryz.prog w=.ok (.agg #[x0,x1]) w:=by
 obtain⟨h0,h1⟩:=cF2 hx;exact Mbo
def zmo(n:ByteArray)(a b:Int)(w:World):Calls Tryz.prog 15 #[.string n,.int .i64 a,.int .i64 b] w (Ret w (.agg #[.string n,.int .i64 a,.int .i64 b])):=by
 go_enter Tryz.func15,Tryz.ntmps15
 go_wp2_with fail
 refine bodyPost_ret (v:=.agg #[.string n,.int .i64 a,.int .i64 b]) ?_ rfl ?_
 ·exact zmn rfl _ _ w.heap.size _ _ _ rfl (zas _ _ _ rfl)
 ·exact Ret.of rfl Bw
def FamPost(w:World)(e:Ending)(w':World):Prop:=
 ∃LA DA,e=.returned (.agg #[.slice LA 2 2,.slice DA 5 5])/\RightsIn w' zcl zbI LA 2 2 DA 5 5/\Qa w w'
variable{α:Type}{w:World}{size:Nat}{f:α->List Value}{xs:List α}
def zef{b:Nat}{t:TypeId}{fr:Nat×Nat}{cs:Array Value}(ag:∀x,(f x).length=size)(h:w.heap[b]?=some (.cells cs t fr))(hc:xs.flatMap f=cs.toList):Sl w size f (some ⟨b,0,none⟩) xs:=λ_=>
 ⟨b,0,rfl,zab h,λk x hk j u hu=>by
   have:=zeU f size ag xs k x hk j u hu;rw[hc]at this;simp only[World.cell?,h,Nat.zero_add]
   simpa using this⟩
def deedC(k d:Int)(p f:ByteArray)(s:Value)(c y:Int):List Value:=[.int .i64 k,.int .i64 d,.string p,.string f,s,.int .i64 c,.int .i64 y]
def zo8(p0 p1 p2 p3:Nat):List Value:=
 deedC 6 0 n0 nAnn (.slice (some ⟨p0,0,none⟩) 1 1) 0 0++(deedC 6 0 n0 nAnn (.slice (some ⟨p1,0,none⟩) 1 1) 0 0++(deedC 7 0 n0 nAnn (.slice (some ⟨p2,0,none⟩) 1 1) 0 0++(deedC 0 100 nA1 n0 (.slice (some ⟨p3,0,none⟩) 1 1) 1 0++deedC 8 200 n0 nAnn (.slice none 0 0) 0 0)))
def fam_slw{W:World}{D p0 p1 p2 p3:Nat}{f0 f1 f2 f3 fd:Nat×Nat}
 (h0:W.heap[p0]?=some (.cells #[.string nBob,.int .i64 0,.int .i64 0] 55 f0))(h1:W.heap[p1]?=some (.cells #[.string nCat,.int .i64 0,.int .i64 0] 55 f1))
 (h2:W.heap[p2]?=some (.cells #[.string nDan,.int .i64 0,.int .i64 0] 55 f2))(h3:W.heap[p3]?=some (.cells #[.string nAnn,.int .i64 1,.int .i64 1] 55 f3))
 (hd:W.heap[D]?=some (.cells (zo8 p0 p1 p2 p3).toArray 60 fd)):SlW W 7 zfG (some ⟨D,0,none⟩) zbI:=λ_=>by
 refine⟨D,0,rfl,zab hd,λk x hk=>?_⟩;have bo:∀j,W.cell? ⟨D,j,none⟩=(zo8 p0 p1 p2 p3)[j]?:=λj=>by simp only[World.cell?,hd];simp
 match k,hk with
 |0,hk=>
  obtain rfl:famD 0=x:=by simpa[zbI]using hk
  exact⟨_,⟨_,1,Qc,rfl,zef (λ_=>rfl) h0 rfl⟩,λj u hu=>by
   rw[bo];match j,hu with
   |0,hu|1,hu|2,hu|3,hu|4,hu|5,hu|6,hu=>exact hu⟩
 |1,hk=>
  obtain rfl:famD 1=x:=by simpa[zbI]using hk
  exact⟨_,⟨_,1,Qc,rfl,zef (λ_=>rfl) h1 rfl⟩,λj u hu=>by
   rw[bo];match j,hu with
   |0,hu|1,hu|2,hu|3,hu|4,hu|5,hu|6,hu=>exact hu⟩
 |2,hk=>
  obtain rfl:famD 2=x:=by simpa[zbI]using hk
  exact⟨_,⟨_,1,Qc,rfl,zef (λ_=>rfl) h2 rfl⟩,λj u hu=>by
   rw[bo];match j,hu with
   |0,hu|1,hu|2,hu|3,hu|4,hu|5,hu|6,hu=>exact hu⟩
 |3,hk=>
  obtain rfl:famD 3=x:=by simpa[zbI]using hk
  exact⟨_,⟨_,1,Qc,rfl,zef (λ_=>rfl) h3 rfl⟩,λj u hu=>by
   rw[bo];match j,hu with
   |0,hu|1,hu|2,hu|3,hu|4,hu|5,hu|6,hu=>exact hu⟩
 |4,hk=>
  obtain rfl:famD 4=x:=by simpa[zbI]using hk
  exact⟨_,⟨none,0,Qc,rfl,Sl.nil⟩,λj u hu=>by
   rw[bo];match j,hu with
   |0,hu|1,hu|2,hu|3,hu|4,hu|5,hu|6,hu=>exact hu⟩
 |k+5,hk=>simp[zbI]at hk
def zke(w:World):Calls Tryz.prog 12 #[] w (FamPost w):=by
 go_enter Tryz.func12,Tryz.ntmps12
 go_wp2_with (go_at_call 15;go_must(refine(zmo _ _ _ _).mono ?_);rintro e wq ⟨rfl,z,rfl⟩)
 refine bodyPost_ret (v:=.agg #[.slice (some ⟨w.heap.size+1,0,none⟩) 2 2,.slice (some ⟨w.heap.size+1+1+1+1+1+z.os.size+1,0,none⟩) 5 5]) ?_ rfl ?_
 ·refine zj5 rfl _ _ w.heap.size _ _ rfl ?_;exact Ma7
 ·refine⟨_,_,rfl,⟨rfl,rfl,by decide,by decide,?h1,?h2⟩,Bw⟩
  case h1=>
   refine zef (t:=94) (fr:=(0,0)) (cs:= #[.int .i64 0,.bool false,.int .i64 1,.int .i64 4,.int .i64 50000,.bool true,.int .i64 1,.int .i64 2]) (λ_=>rfl) ?_ rfl;exact Ma7
  case h2=>
   refine fam_slw (p0:=w.heap.size+1+1) (p1:=w.heap.size+1+1+1) (p2:=w.heap.size+1+1+1+1) (p3:=w.heap.size+1+1+1+1+1+z.os.size) (f0:=(0,0)) (f1:=(0,0)) (f2:=(0,0)) (f3:=(0,0)) (fd:=(0,0)) ?_ ?_ ?_ ?_ ?_
   ·exact M7
   ·exact M7
   ·exact M7
   ·exact M7
   ·exact M7
def sl_same{β:Type}{g:β->List Value}{A:Option Addr}{ys:List β}(h:Sl w size f A xs)(he:xs.map f=ys.map g):Sl w size g A ys:=λhl=>by
 have ag:xs.length=ys.length:=by simpa using congrArg List.length he
 obtain⟨b,off,hA,hb,hc⟩:=h McS;refine⟨b,off,hA,hb,λk y hy j u hu=>?_⟩;have hk:=(List.getElem?_eq_some_iff.1 hy).1;have h1:=congrArg (λl=>l[k]?) he;simp only[List.getElem?_map,hy,List.getElem?_eq_getElem (show k<xs.length by omega),Option.map_some,Option.some.injEq]at h1;exact hc k _ (List.getElem?_eq_getElem McS) j u (by rw[h1];exact hu)
def zkX(xs:List RPart)(P Q:Option Addr)(pc qc:Nat)(w:World)(hp:Sl w 3 RPart.cells P xs)(hq:Sl w 3 RPart.cells Q xs)(hl:xs.length<=100000)(pD:xs.length<=pc)(EC:xs.length<=qc):
 Calls Tryz.prog 10 #[.slice P xs.length pc,.slice Q xs.length qc] w (Ret w (.bool true)):=by
 exact Mx
def zmp(xs:List Nat)(P Q:Option Addr)(pc qc:Nat)(w:World)(hp:Sl w 1 intC P xs)(hq:Sl w 1 intC Q xs)(hl:xs.length<=100000)(pD:xs.length<=pc)(EC:xs.length<=qc):
 Calls Tryz.prog 16 #[.slice P xs.length pc,.slice Q xs.length qc] w (Ret w (.bool true)):=by
 go_enter Tryz.func16,Tryz.ntmps16
 go_wp2_with fail
 go_loopw [5] (λi wr=>∃j:Nat,j<=xs.length/\i=.int .i64 j/\∃z,wr=w.ext z) (λi _=>xs.length-(intOf i).toNat)
 case atStart=>exact⟨0,Nat.zero_le _,rfl,zaP Qb⟩
 case round=>
  obtain⟨j,hj,rfl,z,rfl⟩:=hrel;by_cases ae:j<xs.length
  ·obtain⟨b,off,rfl,hb,hc⟩:=hp.at ae;obtain⟨b',off',rfl,cA,aE⟩:=hq.at ae;have bu:(j:Int)<(xs.length:Int):=McS;have oh:(0:Int)<=(j:Int):=McS;generalize xs[j]=x at*;have x0:w.cell? ⟨b,off+j,none⟩=some (.int .i64 (x:Int)):=Md1;have y0:w.cell? ⟨b',off'+j,none⟩=some (.int .i64 (x:Int)):=by have:=aE 0 _ rfl;simpa using this
   exact Mcl
  ·have kP:¬((j:Int)<(xs.length:Int)):=McS;exact Maz
