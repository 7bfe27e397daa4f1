/- Slices that come in as data; the wrap of a row that lists variables. -/
import Derived.Shelf.SlicesQ.IndexFunc
import Derived.Shelf.SlicesE.IndexFunc
import Derived.Test.YtmfbdfejhdkiaaaGreatDoorJ0
import Derived.Shelf.Small.Strs
import Derived.Shelf.SlicesE.Clone
import Derived.Shelf.SlicesE.Index
import Derived.Shelf.SlicesQ.Contains
import Derived.Shelf.Spec.TrailingZeros
import Derived.Test.YtmfbdfejhdkiaaaGreatDoorChecked
import Derived.LaidMore
import Derived.Lay
import Derived.Stop.Joined
import Derived.Stop.LaidErr
set_option linter.all false
set_option maxRecDepth 100000
set_option maxHeartbeats 4000000
namespace Go.Proofs.YtmfbdfejhdkiaaaGreatDoor
open Go.RowKit
section
open Go.Shelf
def zom:Go.Shelf.Ren:=⟨fun|8=>47|6=>83|n=>n,fun|22=>26|23=>59|25=>105|4=>4|3=>3|0=>0|n=>n,fun|n=>n⟩
theorem cfPart:Go.Proofs.SlLaysH0.n8 Tryz.prog zom:= {
 mixed:=by kernel_rfl
 f6:=⟨Tryz.f83.name,by decide,Tryz.func83.trans (congrArg some (by kernel_rfl))⟩
 f8:=⟨Tryz.f47.name,by decide,Tryz.func47.trans (congrArg some (by kernel_rfl))⟩
 t0:=Tryz.underlying0
 a0:=Tryz.isAgg0
 z0:=Tryz.sizeOf0
 v0:=Tryz.zeroValue0
 t3:=Tryz.underlying3
 a3:=Tryz.isAgg3
 z3:=Tryz.sizeOf3
 v3:=Tryz.zeroValue3
 t4:=Tryz.underlying4
 a4:=Tryz.isAgg4
 z4:=Tryz.sizeOf4
 v4:=Tryz.zeroValue4
 t22:=Tryz.underlying26
 a22:=Tryz.isAgg26
 z22:=Tryz.sizeOf26
 v22:=Tryz.zeroValue26
 t25:=Tryz.underlying105
 a25:=Tryz.isAgg105
 z25:=Tryz.sizeOf105
 v25:=Tryz.zeroValue105}
def zon:Go.Shelf.Ren:=⟨fun|106=>145|213=>167|265=>187|n=>n,fun|9=>9|3=>3|n=>n,fun|n=>n⟩
theorem cmpStr:Go.Proofs.Lays.n106 Tryz.prog zon:= {
 mixed:=by kernel_rfl
 f106:=Tryz.func145.trans (congrArg some (by kernel_rfl))
 f213:=Tryz.func167.trans (congrArg some (by kernel_rfl))
 f265:=Tryz.func187.trans (congrArg some (by kernel_rfl))
 t3:=Tryz.underlying3
 a3:=Tryz.isAgg3
 z3:=Tryz.sizeOf3
 v3:=Tryz.zeroValue3
 t9:=Tryz.underlying9
 a9:=Tryz.isAgg9
 z9:=Tryz.sizeOf9
 v9:=Tryz.zeroValue9}
def coStr_ren:Go.Shelf.Ren:=⟨fun|31=>98|29=>147|n=>n,fun|22=>32|23=>9|4=>4|3=>3|0=>0|n=>n,fun|n=>n⟩
theorem coStr:Go.Proofs.SlLaysE.n31 Tryz.prog coStr_ren:= {
 mixed:=by kernel_rfl
 f29:=⟨Tryz.f147.name,by decide,Tryz.func147.trans (congrArg some (by kernel_rfl))⟩
 f31:=⟨Tryz.f98.name,by decide,Tryz.func98.trans (congrArg some (by kernel_rfl))⟩
 t0:=Tryz.underlying0
 a0:=Tryz.isAgg0
 z0:=Tryz.sizeOf0
 v0:=Tryz.zeroValue0
 t3:=Tryz.underlying3
 a3:=Tryz.isAgg3
 z3:=Tryz.sizeOf3
 v3:=Tryz.zeroValue3
 t4:=Tryz.underlying4
 a4:=Tryz.isAgg4
 z4:=Tryz.sizeOf4
 v4:=Tryz.zeroValue4
 t22:=Tryz.underlying32
 a22:=Tryz.isAgg32
 z22:=Tryz.sizeOf32
 v22:=Tryz.zeroValue32
 a23:=Tryz.isAgg9
 z23:=Tryz.sizeOf9}
end
theorem za3{a b:ByteArray}:zaf a b=true↔a=b:=by
 unfold zaf;rw[beq_iff_eq,ByteArray.toList_eq,ByteArray.toList_eq];constructor
 ·intro h;exact ByteArray.ext (Array.ext' h)
 ·intro h;rw[h]
theorem zce(a:ByteArray):zaf a a=true:=za3.2 rfl
theorem zci{a b:ByteArray}:zaf a b=false↔a≠b:=by rw[<-Bool.not_eq_true,za3]
theorem zf1{l:List ByteArray}{n:ByteArray}:l.any (zaf n)=true↔n∈l:=by
 rw[List.any_eq_true];constructor
 ·rintro⟨x,hx,h⟩;rw[za3.1 h];exact hx
 ·intro h;exact⟨n,h,zce n⟩
theorem zdw{s:St}{n c:ByteArray}:c∈zaj s n↔(n,c)∈s.children:=by
 unfold zaj;rw[List.mem_map];constructor
 ·rintro⟨p,hp,rfl⟩;rw[List.mem_filter,za3]at hp;rw[<-hp.2];exact hp.1
 ·intro h;exact⟨(n,c),List.mem_filter.2 ⟨h,zce n⟩,rfl⟩
theorem zic{s:St}{n:ByteArray}{out:ByteArray->Prop}(h0:∀c∈zaj s n,out c)(h1:∀x,out x->∀c∈zaj s x,out c){x:ByteArray}(h:Desc s n x):out x:=by
 unfold Desc at h;induction h with
 |single h=>exact h0 _ h
 |tail _ h ih=>exact h1 _ ih _ h
theorem zid{s:St}{n x c:ByteArray}(h:Desc s n x)(hc:c∈zaj s x):Desc s n c:=Relation.TransGen.tail h hc
theorem zf2{s:St}{n c:ByteArray}(hc:c∈zaj s n):Desc s n c:=Relation.TransGen.single hc
theorem zha{s:St}{a b c:ByteArray}(h:Desc s a b)(k:Desc s b c):Desc s a c:=by
 unfold Desc at*;induction k with
 |single h'=>exact Relation.TransGen.tail h h'
 |tail _ h' ih=>exact Relation.TransGen.tail ih h'
theorem zie{s:St}{n x:ByteArray}(h0:zaj s n=[]):¬Desc s n x:=fun h=>zic (out:=fun _=>False) (by rw[h0];simp) (fun _ h=>h.elim) h
open Go.ChangeShapes Go.WideShapes Go.ChangeAt Go.Deep
theorem zmu{α:Type}{Q:Nat->α->Prop}:∀n:Nat,(∀i,i<n->∃x,Q i x)->∃l:List α,l.length=n/\∀(i:Nat) (x:α),l[i]?=some x->Q i x
 |0,_=>⟨[],rfl,fun i x h=>by simp at h⟩
 |n+1,h=>by
  obtain⟨l,hl,hq⟩:=zmu n (fun i hi=>h i (by omega));obtain⟨x,hx⟩:=h n (by omega);refine⟨l++[x],by simp[hl],fun i y hy=>?_⟩;by_cases hi:i<n
  ·rw[List.getElem?_append_left (by omega)]at hy;exact hq i y hy
  ·by_cases he:i=n
   ·subst he;rw[List.getElem?_append_right (by omega),hl]at hy;simp at hy;subst hy;exact hx
   ·rw[List.getElem?_append_right (by omega)]at hy;have:i-l.length≠0:=by omega
    obtain⟨m,hm⟩:=Nat.exists_eq_succ_of_ne_zero this;rw[hm]at hy;simp at hy
section
variable {H:Type} {enc:TypeId×Value->H} {P:Program} {w:World} {base:Nat} {spare:Nat->Bool} {held:Bool}
theorem zj2{α:Type}{f:α->List Value}{size:Nat}(hsz:0<size)(ae:∀x,(f x).length=size){t e:TypeId}{fuel:Nat}{cs:List Value}{x:DataW H×List MemPlace}(ht:P.underlying t=some (.slice e))(hC:P.cellsOf e=size)
 (mI:∀(n:Nat) (cs:List Value) (y:DataW H×List MemPlace),DataW.trod enc P w base spare held n e cs=some y->∃s:α,cs=f s)(h:DataW.trod enc P w base spare held fuel t cs=some x):
 ∃(A:Option Addr) (n c:Nat) (xs:List α),cs=[.slice A n c]/\n=xs.length/\Sl w size f A xs/\xs.length<=c/\c<=maxLen:=by
 rcases open_slice ht h with⟨rfl,_⟩|⟨a,len,cap,m,n,D,Pl,rfl,_,hl,hm,fC,_,hi⟩
 ·exact⟨none,0,0,[],rfl,rfl,Sl.nil,Qc,Nat.zero_le _⟩
 ·have bu:len<=m:=by rw[fC];split<;>omega
  obtain⟨l,fM,hq⟩:=zmu (Q:=fun i (s:α)=>∀j,j<size->w.cell? ((a.add (i*size)).add j)=(f s)[j]?) len (fun i fg=>by
   obtain⟨cs',hc,hr⟩:=hi i (by omega);obtain⟨s,rfl⟩:=mI _ _ _ hr;rw[hC]at hc
   exact⟨s,(World.cells?_some hc).2.2⟩)
  refine⟨some a,len,cap,l,rfl,fM.symm,fun hp=>?_,by omega,hm⟩;have h0:0<l.length:=hp;have hx:=hq 0 l[0] (List.getElem?_eq_getElem h0) 0 hsz;have hv:∃v,(f l[0])[0]?=some v:=⟨_,List.getElem?_eq_getElem (by rw[ae];exact hsz)⟩
  obtain⟨v,hv⟩:=hv;rw[hv]at hx;have ck:=World.cell?_spot hx;have cJ:=World.block_lt_of_cell? _ _ hx;obtain⟨b,off,spot⟩:=a;have tz:spot=none:=by simpa[Addr.add]using ck
  subst tz;refine⟨b,off,rfl,by simpa[Addr.add]using cJ,fun k y hy j u hu=>?_⟩;have hj:j<size:=by have:=(List.getElem?_eq_some_iff.1 hu).1;rw[ae]at this;exact this
  have:=hq k y hy j hj;rw[hu]at this;rw[<-this];congr 1
  unfold Addr.add;split<;>split<;>simp_all<;>omega
end
theorem zkZ{H:Type}{enc:TypeId×Value->H}{a:Assume}{C:Checked}{os:Os}{f:FuncId}{fn:Func}{s:ChangeSpec}{conds:List PathCond}{apart fresh handsOn again:Bool}{X:World->Array Value->Prop}
 (hX:∀(w w':World) (args:Array Value),w.heap=w'.heap->X w args->X w' args)
 (own:ownKnob C.prog.godebug=none)(started:os.Started)(noInit:C.prog.inits.idxOf? f=none)(DX:C.prog.funcs[f]?=some fn)
 (witness:∃(w:World) (tape:Tape) (i:Input),w.os=os/\(w.forCall tape i).Shaped C.prog/\i.vars=[]/\Input.okWide C.prog (w.forCall tape i) .any w.heap.size f i/\
   ((s.pre enc C.prog fn conds apart (w.forCall tape i).memory i.args/\X (w.forCall tape i).memory i.args)/\sizedMet enc C.prog fn (OpenSpec.ofChange s) apart (w.forCall tape i).memory i.args)/\a.holds C.prog (lone (Frame.enter C.prog f i.args .normal) [] (w.forCall tape i)))
 (contract:∀(W:World) (base:Nat) (args:Array Value) (ds gs:List (DataW H)) (before:List MemPlace),
   (∀(j:Nat) t v,fn.params[j]?=some t->args[j]?=some v->Value.okWide C.prog W .any base t v)->
   DataW.Whole enc C.prog fn.params.toList s.vars apart W args.toList ds gs before->X W args->W.ShapedOpen C.prog->
   Calls C.prog f args W fun e W'=>∃v,e=.returned v/\s.post enc C.prog fn apart fresh handsOn again W args v W'):
 ReturnsInHanded a C os f .any (fun w args=>(s.pre enc C.prog fn conds apart w args/\X w args)/\sizedMet enc C.prog fn (OpenSpec.ofChange s) apart w args) (s.post enc C.prog fn apart fresh handsOn again):=by
 refine returnsInHanded_of_calls own started noInit witness fun w tape i _ bJ _ bs kJ _=>?_
 obtain⟨_,_,_,fn',DY,_,_,_,_,jH⟩:=bs;obtain rfl:fn'=fn:=Option.some.inj (DY.symm.trans DX);obtain⟨⟨⟨ds,gs,before,hw,_⟩,hx⟩,_⟩:=kJ;refine(contract (w.forCall tape i) w.heap.size i.args ds gs before jH (DataW.Whole.of_heap (w':=w.forCall tape i) (by rfl) hw) (hX _ _ _ (by rfl) hx) bJ).mono fun e W' h=>?_
 obtain⟨v,rfl,hp⟩:=h;exact ChangeSpec.post_blind hp
theorem own_knob:ownKnob Tryz.prog.godebug=none:=by kernel_rfl
theorem zn7:laidOutB Tryz.prog=true:=by kernel_rfl
