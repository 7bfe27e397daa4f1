/- Walks of the reference's CopyInts, Of, less, CheckSet. -/
import Derived.Test.YtmfbdfejhdkiaaaGreatDoorEG
import Derived.Test.YtmfbdfejhdkiaaaGreatDoorEI
import Derived.Test.YtmfbdfejhdkiaaaGreatDoorOD
set_option linter.all false
set_option maxRecDepth 100000
set_option maxHeartbeats 4000000
namespace Go.Proofs.YtmfbdfejhdkiaaaGreatDoor
open Go.RowKit Go.Shelf
attribute [local go_sem] World.cell?_alloc_mark zae za4 zao za8 zav zaw zax zay zaz za0 za1
attribute [local go_sem] zap zac
theorem zlV{fn:Func}{p:Tmp}(h:fn.results= #[.cell p 59])(tmps:Array Value)(w:World)(B:Nat)(x0 x1 x2:Value)(hp:tmps.getD p undef=.pointer (some ⟨B,0,none⟩))
 (hx:w.heap[B]?=some (.cells #[x0,x1,x2] 59)):(results fn tmps).run Tryz.prog w=.ok (.agg #[x0,x1,x2]) w:=by
 obtain⟨h0,h1,h2⟩:=cF3 hx;exact Mbl
theorem zjq{fn:Func}{p:Tmp}(h:fn.results= #[.cell p 25])(tmps:Array Value)(w:World)(B:Nat)(x0 x1:Value)(hp:tmps.getD p undef=.pointer (some ⟨B,0,none⟩))
 (hx:w.heap[B]?=some (.cells #[x0,x1] 25)):(results fn tmps).run Tryz.prog w=.ok (.agg #[x0,x1]) w:=by
 obtain⟨h0,h1⟩:=cF2 hx;exact Mbl
theorem part5_any(n:ByteArray)(a b:Int)(w:World):Calls Tryz.prog 35 #[.string n,.int .i64 a,.int .i64 b] w (Ret w (.agg #[.string n,.int .i64 a,.int .i64 b])):=by
 go_enter Tryz.func35,Tryz.ntmps35
 go_wp2_with fail
 refine bodyPost_ret (v:=.agg #[.string n,.int .i64 a,.int .i64 b]) ?_ rfl ?_
 ·exact zlV rfl _ _ w.heap.size _ _ _ rfl (zat _ _ _ rfl)
 ·exact Ret.of rfl Bw
def FamPost(w:World)(e:Ending)(w':World):Prop:=
 ∃LA DA,e=.returned (.agg #[.slice LA 2 2,.slice DA 5 5])/\RightsIn w' zcB zcc LA 2 2 DA 5 5/\Qa w w'
theorem zgN{α:Type}{w:World}{b size:Nat}{f:α->List Value}{t:TypeId}{fr:Nat×Nat}{cs:Array Value}{xs:List α}(ae:∀x,(f x).length=size)(h:w.heap[b]?=some (.cells cs t fr))(hc:xs.flatMap f=cs.toList):Sl w size f (some ⟨b,0,none⟩) xs:=fun _=>
 ⟨b,0,rfl,zab h,fun k x hk j u hu=>by
   have:=zeW f size ae xs k x hk j u hu;rw[hc]at this;simp only[World.cell?,h,Nat.zero_add]
   simpa using this⟩
def deedC(k d:Int)(p f:ByteArray)(s:Value)(c y:Int):List Value:=[.int .i64 k,.int .i64 d,.string p,.string f,s,.int .i64 c,.int .i64 y]
def zod(p0 p1 p2 p3:Nat):List Value:=
 deedC 6 0 n0 nAnn (.slice (some ⟨p0,0,none⟩) 1 1) 0 0++(deedC 6 0 n0 nAnn (.slice (some ⟨p1,0,none⟩) 1 1) 0 0++(deedC 7 0 n0 nAnn (.slice (some ⟨p2,0,none⟩) 1 1) 0 0++(deedC 0 100 nA1 n0 (.slice (some ⟨p3,0,none⟩) 1 1) 1 0++deedC 8 200 n0 nAnn (.slice none 0 0) 0 0)))
theorem fam_slw{W:World}{D p0 p1 p2 p3:Nat}{f0 f1 f2 f3 fd:Nat×Nat}
 (h0:W.heap[p0]?=some (.cells #[.string nBob,.int .i64 0,.int .i64 0] 59 f0))(h1:W.heap[p1]?=some (.cells #[.string nCat,.int .i64 0,.int .i64 0] 59 f1))
 (h2:W.heap[p2]?=some (.cells #[.string nDan,.int .i64 0,.int .i64 0] 59 f2))(h3:W.heap[p3]?=some (.cells #[.string nAnn,.int .i64 1,.int .i64 1] 59 f3))
 (hd:W.heap[D]?=some (.cells (zod p0 p1 p2 p3).toArray 28 fd)):SlW W 7 zfL (some ⟨D,0,none⟩) zcc:=fun _=>by
 refine⟨D,0,rfl,zab hd,fun k x hk=>?_⟩;have bi:∀j,W.cell? ⟨D,j,none⟩=(zod p0 p1 p2 p3)[j]?:=fun j=>by simp only[World.cell?,hd];simp
 match k,hk with
 |0,hk=>
  obtain rfl:famD 0=x:=by simpa[zcc]using hk
  exact⟨_,⟨_,1,Qc,rfl,zgN (fun _=>rfl) h0 rfl⟩,fun j u hu=>by
   rw[bi];match j,hu with
   |0,hu|1,hu|2,hu|3,hu|4,hu|5,hu|6,hu=>exact hu⟩
 |1,hk=>
  obtain rfl:famD 1=x:=by simpa[zcc]using hk
  exact⟨_,⟨_,1,Qc,rfl,zgN (fun _=>rfl) h1 rfl⟩,fun j u hu=>by
   rw[bi];match j,hu with
   |0,hu|1,hu|2,hu|3,hu|4,hu|5,hu|6,hu=>exact hu⟩
 |2,hk=>
  obtain rfl:famD 2=x:=by simpa[zcc]using hk
  exact⟨_,⟨_,1,Qc,rfl,zgN (fun _=>rfl) h2 rfl⟩,fun j u hu=>by
   rw[bi];match j,hu with
   |0,hu|1,hu|2,hu|3,hu|4,hu|5,hu|6,hu=>exact hu⟩
 |3,hk=>
  obtain rfl:famD 3=x:=by simpa[zcc]using hk
  exact⟨_,⟨_,1,Qc,rfl,zgN (fun _=>rfl) h3 rfl⟩,fun j u hu=>by
   rw[bi];match j,hu with
   |0,hu|1,hu|2,hu|3,hu|4,hu|5,hu|6,hu=>exact hu⟩
 |4,hk=>
  obtain rfl:famD 4=x:=by simpa[zcc]using hk
  exact⟨_,⟨none,0,Qc,rfl,Sl.nil⟩,fun j u hu=>by
   rw[bi];match j,hu with
   |0,hu|1,hu|2,hu|3,hu|4,hu|5,hu|6,hu=>exact hu⟩
 |k+5,hk=>simp[zcc]at hk
theorem zoX(w:World):Calls Tryz.prog 13 #[] w (FamPost w):=by
 go_enter Tryz.func13,Tryz.ntmps13
 go_wp2_with (go_at_call 35;go_must(refine(part5_any _ _ _ _).mono ?_);rintro e wq ⟨rfl,z,rfl⟩)
 refine bodyPost_ret (v:=.agg #[.slice (some ⟨w.heap.size+1,0,none⟩) 2 2,.slice (some ⟨w.heap.size+1+1+1+1+1+z.os.size+1,0,none⟩) 5 5]) ?_ rfl ?_
 ·refine zjq rfl _ _ w.heap.size _ _ rfl ?_;exact MaT
 ·refine⟨_,_,rfl,⟨rfl,rfl,by decide,by decide,?h1,?h2⟩,Bw⟩
  case h1=>
   refine zgN (t:=72) (fr:=(0,0)) (cs:= #[.int .i64 0,.bool false,.int .i64 1,.int .i64 4,.int .i64 50000,.bool true,.int .i64 1,.int .i64 2]) (fun _=>rfl) ?_ rfl;exact MaT
  case h2=>
   refine fam_slw (p0:=w.heap.size+1+1) (p1:=w.heap.size+1+1+1) (p2:=w.heap.size+1+1+1+1) (p3:=w.heap.size+1+1+1+1+1+z.os.size) (f0:=(0,0)) (f1:=(0,0)) (f2:=(0,0)) (f3:=(0,0)) (fd:=(0,0)) ?_ ?_ ?_ ?_ ?_
   ·exact M0
   ·exact M0
   ·exact M0
   ·exact M0
   ·exact M0
theorem sl_same{α β:Type}{w:World}{size:Nat}{f:α->List Value}{g:β->List Value}{A:Option Addr}{xs:List α}{ys:List β}(h:Sl w size f A xs)(he:xs.map f=ys.map g):Sl w size g A ys:=fun hl=>by
 have ae:xs.length=ys.length:=by simpa using congrArg List.length he
 obtain⟨b,off,hA,hb,hc⟩:=h Mcq;refine⟨b,off,hA,hb,fun k y hy j u hu=>?_⟩;have hk:=(List.getElem?_eq_some_iff.1 hy).1;have h1:=congrArg (fun l=>l[k]?) he;simp only[List.getElem?_map,hy,List.getElem?_eq_getElem (show k<xs.length by omega),Option.map_some,Option.some.injEq]at h1;exact hc k _ (List.getElem?_eq_getElem Mcq) j u (by rw[h1];exact hu)
