/- Words for worlds that have only grown, and for slices that read as lists of records. -/
import Derived.Deep.RegionHeld
import Derived.WalkLawsBesides
import Derived.WalkSpells
import Derived.BigQuiet
import Derived.Lib.Hide
set_option linter.all false
set_option maxRecDepth 100000
set_option maxHeartbeats 4000000
namespace Go.Proofs.YtmfbdfejhdkiaaaGreatDoor
open Go.RowKit
abbrev Qa(w W:World):Prop:=Below w.heap.size w W
theorem Qb{n:Nat}{w:World}:Below n w w:=Below.refl n w
theorem Qc{n:Nat}:n<=n:=Nat.le_refl n
theorem Qd{α:Sort _}(a:α):∃x,x=a:=⟨a,rfl⟩
structure Ez where
 os:Array Obj
 d:Nat
instance:Nonempty Ez:=⟨⟨#[],0⟩⟩
def _root_.Go.World.ext(w:World)(z:Ez):World:= {w with heap:=w.heap++z.os,drawn:=z.d}
theorem zae(w:World)(z:Ez):(w.ext z).heap.size=w.heap.size+z.os.size:=by simp[World.ext]
theorem zcL(w:World)(z:Ez)(k:Nat)(h:k<w.heap.size):(w.ext z).heap[k]?=w.heap[k]?:=by
 simp[World.ext,Array.getElem?_append,h]
theorem za4(w:World)(z:Ez)(b o:Nat)(h:b<w.heap.size):(w.ext z).cell? ⟨b,o,none⟩=w.cell? ⟨b,o,none⟩:=
 World.cell?_of_block (w:=w) (zcL w z b h)
theorem zao(w:World)(z:Ez)(b o:Nat)(h:b<w.heap.size):(w.ext z).frozen? ⟨b,o,none⟩=w.frozen? ⟨b,o,none⟩:=
 World.frozen?_of_block (w:=w) (zcL w z b h)
theorem zaU{w w':World}(h:Qa w w'):∃z,w'=w.ext z:=by
 refine⟨⟨w'.heap.extract w.heap.size w'.heap.size,w'.drawn⟩,?_⟩;have hh:w'.heap=w.heap++w'.heap.extract w.heap.size w'.heap.size:=by
  apply Array.ext_getElem?;intro i;by_cases hi:i<w.heap.size
  ·rw[h.block i hi];simp[Array.getElem?_append,hi]
  ·simp only[Array.getElem?_append,hi,if_false,Array.getElem?_extract];have:=h.size;by_cases h2:i<w'.heap.size
   ·simp only[Nat.min_self];rw[if_pos (by omega)];congr 1;omega
   ·rw[Array.getElem?_eq_none (by omega),if_neg (by omega)]
 cases w';simp only[World.ext];have h1:=h.os;have h2:=h.tape;have h3:=h.output;simp only at h1 h2 h3 hh;rw[<-hh,h1,h2,h3]
theorem zaq(w:World)(z:Ez):Qa w (w.ext z):=
 ⟨rfl,rfl,rfl,by rw[zae];omega,fun k hk=>zcL w z k hk⟩
theorem za8{a b c:Nat}(h:a<b):a<b+c:=by omega
theorem zav{a b c0 c1:Nat}(h:a<b):a<b+c0+c1:=by omega
theorem zaw{a b c0 c1 c2:Nat}(h:a<b):a<b+c0+c1+c2:=by omega
theorem zax{a b c0 c1 c2 c3:Nat}(h:a<b):a<b+c0+c1+c2+c3:=by omega
theorem zay{a b c0 c1 c2 c3 c4:Nat}(h:a<b):a<b+c0+c1+c2+c3+c4:=by omega
theorem zaz{a b c0 c1 c2 c3 c4 c5:Nat}(h:a<b):a<b+c0+c1+c2+c3+c4+c5:=by omega
theorem za0{a b c0 c1 c2 c3 c4 c5 c6:Nat}(h:a<b):a<b+c0+c1+c2+c3+c4+c5+c6:=by omega
theorem za1{a b c0 c1 c2 c3 c4 c5 c6 c7:Nat}(h:a<b):a<b+c0+c1+c2+c3+c4+c5+c6+c7:=by omega
section
variable {n:Nat} {w W:World}
theorem zad(h:Below n w W)(o:Obj)(hn:n<=w.heap.size:=by first|exact Qc|omega):Below n w (W.alloc o):=h.alloc (Nat.le_trans hn h.size) o
theorem zaF(h:Below n w W):Below n w W.drew:=h.drew
theorem zeh(h:Below n w W)(k:Nat):Below n w (W.drewN k):=⟨h.os,h.tape,h.output,h.size,h.block⟩
theorem zaN(h:Below n w W){p:Addr}(hp:n<=p.block)(u:Value):Below n w (W.setCell p u):=h.setCell hp u
theorem zaZ(h:Below n w W)(z:Ez)(hn:n<=w.heap.size:=by first|exact Qc|omega):Below n w (W.ext z):=
 h.trans ((zaq W z).mono (Nat.le_trans hn h.size))
end
theorem zbo{a b c:World}{row:Option Nat}(h:a.grownBy b row)(k:b.grownBy c row):a.grownBy c row:=
 ⟨k.os.trans h.os,k.tape.trans h.tape,k.output.trans h.output,Nat.le_trans h.size k.size,fun i hi ag=>(k.block i (Nat.lt_of_lt_of_le hi h.size) ag).trans (h.block i hi ag)⟩
theorem zbp{n:Nat}{w W W':World}{g:Nat}(h:Below n w W)(k:W.grownBy W' (some g))(hg:n<=g)(hn:n<=w.heap.size:=by first|exact Qc|omega):Below n w W':=
 h.grown k (Nat.le_trans hn h.size) (fun j hj=>by cases hj;exact hg)
theorem zkU{a b:World}{row:Option Nat}(h:a.grownBy b row)(z:Ez):a.grownBy (b.ext z) row:=
 ⟨h.os,h.tape,h.output,Nat.le_trans h.size (by rw[zae];omega),fun i hi ag=>(zcL _ _ _ (Nat.lt_of_lt_of_le hi h.size)).trans (h.block i hi ag)⟩
theorem zcv{a b:World}{row:Option Nat}(h:a.grownBy b row)(o:Obj):a.grownBy (b.alloc o) row:=zbo h (World.grownBy_alloc b o row)
def Ret(w:World)(v:Value)(e:Ending)(w':World):Prop:=e=.returned v/\∃z,w'=w.ext z
def Ret0(w:World)(v:Value)(e:Ending)(w':World):Prop:=e=.returned v/\w=w'
theorem Ret.of{w w':World}{v v':Value}(h:v'=v)(hb:Qa w w'):Ret w v (.returned v') w':=⟨by rw[h],zaU hb⟩
theorem Ret.bools{w w':World}{b:Bool}{e:Ending}(h:Ret w (.bool b) e w'):∃z,w'=w.ext z/\((b=true/\e=.returned (.bool true))\/(b=false/\e=.returned (.bool false))):=by
 obtain⟨he,z,hz⟩:=h;cases b
 ·exact⟨z,hz,.inr ⟨rfl,he⟩⟩
 ·exact⟨z,hz,.inl ⟨rfl,he⟩⟩
theorem Ret0.bools{w w':World}{b:Bool}{e:Ending}(h:Ret0 w (.bool b) e w'):w=w'/\((b=true/\e=.returned (.bool true))\/(b=false/\e=.returned (.bool false))):=by
 obtain⟨he,hz⟩:=h;cases b
 ·exact⟨hz,.inr ⟨rfl,he⟩⟩
 ·exact⟨hz,.inl ⟨rfl,he⟩⟩
theorem zcd{k:IntKind}{a b:Int}(h:a=b):Value.int k a=Value.int k b:=by rw[h]
theorem zn1{a b:Bool}(h:a=true↔b=true):Ending.returned (Value.bool a)=Ending.returned (Value.bool b):=by rw[Bool.eq_iff_iff.2 h]
theorem zaR{a b:Bool}(h:a=b):Value.bool a=Value.bool b:=by rw[h]
def Ez.and(z z':Ez):Ez:=⟨z.os++z'.os,z'.d⟩
theorem zeV(w:World)(z z':Ez):(w.ext z).ext z'=w.ext (z.and z'):=by simp[World.ext,Ez.and]
theorem zam{P:Program}{id:Nat}{Q:Exit->Act->World->Prop}{a:Act}{w:World}{l:List Oper}(hm:P.follows .mixedOrders=true)(hB:Region.lexB .any l.toArray=true)
 (h:wpQuiet P l.toArray (fun w'=>∃z,w'=w.ext z) (fun a'=>∀w',(∃z,w'=w.ext z)->Q .normal a' w') l a):(Code.region id l.toArray true).wp P Q a w:=
 wp_region_quiet (C:=fun w'=>∃z,w'=w.ext z) hm hB ⟨⟨#[],w.drawn+1⟩,by simp[World.ext]⟩ (by simpa using h)
theorem quietx{P:Program}{f:FuncId}{args:Array Value}{w:World}{z:Ez}{v:Value}(h:Calls P f args (w.ext z) (Ret (w.ext z) v)):
 Calls P f args (w.ext z) fun e w''=>e=.returned v/\∃z',w''=w.ext z':=
 h.mono fun _ _ ⟨he,z',hw⟩=>⟨he,z.and z',by rw[hw,zeV]⟩
theorem zjZ{P:Program}{f:FuncId}{args:Array Value}{w:World}{z:Ez}{v:Value}(h:Calls P f args (w.ext z) (Ret0 (w.ext z) v)):
 Calls P f args (w.ext z) fun e w''=>e=.returned v/\∃z',w''=w.ext z':=
 h.mono fun _ _ ⟨he,hw⟩=>⟨he,z,hw.symm⟩
theorem zap(w:World)(z:Ez)(b o:Nat)(v:Value)(h:b<w.heap.size):(w.ext z).setCell ⟨b,o,none⟩ v=(w.setCell ⟨b,o,none⟩ v).ext z:=by
 have hm:∀f:Obj->Obj,(w.heap++z.os).modify b f=w.heap.modify b f++z.os:=fun f=>by
  apply Array.ext_getElem?;intro i;simp only[Array.getElem?_modify,Array.getElem?_append,Array.size_modify];by_cases hi:i<w.heap.size
  ·simp[hi]
  ·by_cases hb:b=i
   ·omega
   ·simp[hi,hb]
 simp only[World.setCell,World.ext,hm]
theorem zac(w:World)(x:Obj)(b o:Nat)(v:Value)(h:b<w.heap.size):(w.alloc x).setCell ⟨b,o,none⟩ v=(w.setCell ⟨b,o,none⟩ v).alloc x:=by
 have hm:∀f:Obj->Obj,(w.heap.push x).modify b f=(w.heap.modify b f).push x:=fun f=>by
  apply Array.ext_getElem?;intro i;simp only[Array.getElem?_modify,Array.getElem?_push,Array.size_modify];by_cases hi:i=w.heap.size
  ·have hb:¬b=i:=by omega
   simp[hi]at hb⊢;intro bC;omega
  ·by_cases hb:b=i<;>simp[hi,hb]
 show({w with heap:=(w.heap.push x).modify b _}:World)= {w with heap:=(w.heap.modify b _).push x}
 rw[hm]
def Sl{α:Type}(w:World)(size:Nat)(cells:α->List Value)(A:Option Addr)(xs:List α):Prop:=
 0<xs.length->∃b off,A=some ⟨b,off,none⟩/\b<w.heap.size/\∀k (x:α),xs[k]?=some x->∀j u,(cells x)[j]?=some u->w.cell? ⟨b,off+k*size+j,none⟩=some u
section
variable {α:Type} {w W:World} {size:Nat} {cells:α->List Value} {A:Option Addr} {xs:List α}
theorem Sl.keep(h:Sl w size cells A xs){n:Nat}(hb:Below n w W)(hn:w.heap.size<=n:=by first|exact Qc|omega):Sl W size cells A xs:=fun hl=>by
 obtain⟨b,off,hA,aa,hc⟩:=h hl;exact⟨b,off,hA,Nat.lt_of_lt_of_le aa hb.size,fun k x hx j u hu=>(hb.cell (p:=⟨b,_,none⟩) (Nat.lt_of_lt_of_le aa hn)).trans (hc k x hx j u hu)⟩
theorem Sl.at{k:Nat}(h:Sl w size cells A xs)(hk:k<xs.length):∃b off,A=some ⟨b,off,none⟩/\b<w.heap.size/\∀j u,(cells xs[k])[j]?=some u->w.cell? ⟨b,off+k*size+j,none⟩=some u:=by
 obtain⟨b,off,hA,aa,hc⟩:=h (by omega);exact⟨b,off,hA,aa,fun j u hu=>hc k _ (List.getElem?_eq_getElem hk) j u hu⟩
theorem Sl.take(h:Sl w size cells A xs)(k:Nat):Sl w size cells A (xs.take k):=fun hl=>by
 obtain⟨b,off,hA,aa,hc⟩:=h (by simp at hl;omega);refine⟨b,off,hA,aa,fun j x hx=>hc j x ?_⟩;rw[List.getElem?_take]at hx;split at hx
 ·exact hx
 ·cases hx
theorem Sl.nil:Sl w size cells A ([]:List α):=fun h=>absurd h (by simp)
end
theorem Bw{n:Nat}{w W:World}(h:Below n w W:=by
 repeat(first|exact B_refl|exact Qb|assumption|with_reducible refine zad ?_ _|with_reducible refine zaZ ?_ _|with_reducible refine zaF ?_|with_reducible refine zeh ?_ _|with_reducible refine zaN ?_ (by simp;omega) _)):Below n w W:=h
theorem TkH{P:Program}{ops:Array Oper}{Q:Exit->Act->World->Prop}{md:Region.Mode}{S:World->Prop}(i:Nat){oi:Oper}{v:Value}{fuel:Nat}{listed:Array Bool}{a a':Act}{w:World}(h:wpAnyH P md ops Q S fuel (listed.setIfInBounds i true) a' w)(hi:ops[i]?=some oi:=by exact List.getElem?_toArray.trans rfl)
 (hs:Region.noSelect ops=true:=by kernel_rfl)(hf:Region.free md ops listed i=true:=by kernel_rfl)(hr:(Region.ready md ops listed).contains i=true:=by kernel_rfl)
 (hQ:∀c a w,Q (.panic c) (a.put oi.dst v) w->Q (.panic c) a w:=by exact fun _ _ _ h=>h)(hy:YieldsIf P ops S oi v a:=by(refine Or.inl ⟨by rfl,?_⟩;intro w uk;(try dsimp only at uk);go_simp;first|done|with_reducible rfl))(hS:S w:=by assumption)
 (ha:a.put oi.dst v=a':=by((try simp only[Act.put,List.setIfInBounds_toArray,List.set_cons_zero,List.set_cons_succ]);rfl)):wpAnyH P md ops Q S (fuel+1) listed a w:=
 wpAnyH_take hi hs hf hr hQ hy hS (ha▸h)
theorem NxM{K G:Act->World->Prop}{T:World->Prop}{a a':Act}{w:World}(hK:Shut (∀a w,T w->(T w->G a w)->K a w))(k:T w->G a' w)(h:T w:=by((try dsimp only);exact .inl rfl))(ha:a=a':=by((try simp only[Act.put,List.setIfInBounds_toArray,List.set_cons_zero,List.set_cons_succ]);rfl)):K a w:=hK.out _ _ h fun q=>ha▸k q
theorem OnH{P:Program}{ops:Array Oper}{Q:Exit->Act->World->Prop}{md:Region.Mode}{S:World->Prop}(i:Nat){o:Oper}{fuel:Nat}{listed:Array Bool}{a:Act}{w:World}(h:∀K':Act->World->Prop,Shut (∀a w,S w->(S w->wpAnyH P md ops Q S fuel (listed.setIfInBounds i true) a w)->K' a w)->if Region.wanted o (yielded ops a.tmps)=true then Oper.wp P o a w K' Q else K' (a.put o.dst undef) w)
 (hr:Region.ready md ops listed=[i]:=by kernel_rfl)(ho:ops[i]?=some o:=by exact List.getElem?_toArray.trans rfl):wpAnyH P md ops Q S (fuel+1) listed a w:=wpAnyH_ready (rs:=[i]) hr (by simp) (AllReadyH.cons ho h AllReadyH.nil)
theorem cF1{W:World}{b:Nat}{a0:Value}{r:List Value}{t:TypeId}{f:Nat×Nat}(h:W.heap[b]?=some (.cells (a0::r).toArray t f)):W.cell? ⟨b,0,none⟩=some a0:=by
 simp only[World.cell?,h];exact rfl
theorem cF2{W:World}{b:Nat}{a0 a1:Value}{r:List Value}{t:TypeId}{f:Nat×Nat}(h:W.heap[b]?=some (.cells (a0::a1::r).toArray t f)):W.cell? ⟨b,0,none⟩=some a0/\W.cell? ⟨b,1,none⟩=some a1:=by
 simp only[World.cell?,h];exact⟨rfl,rfl⟩
theorem cF3{W:World}{b:Nat}{a0 a1 a2:Value}{r:List Value}{t:TypeId}{f:Nat×Nat}(h:W.heap[b]?=some (.cells (a0::a1::a2::r).toArray t f)):W.cell? ⟨b,0,none⟩=some a0/\W.cell? ⟨b,1,none⟩=some a1/\W.cell? ⟨b,2,none⟩=some a2:=by
 simp only[World.cell?,h];exact⟨rfl,rfl,rfl⟩
theorem cF4{W:World}{b:Nat}{a0 a1 a2 a3:Value}{r:List Value}{t:TypeId}{f:Nat×Nat}(h:W.heap[b]?=some (.cells (a0::a1::a2::a3::r).toArray t f)):W.cell? ⟨b,0,none⟩=some a0/\W.cell? ⟨b,1,none⟩=some a1/\W.cell? ⟨b,2,none⟩=some a2/\W.cell? ⟨b,3,none⟩=some a3:=by
 simp only[World.cell?,h];exact⟨rfl,rfl,rfl,rfl⟩
theorem cF5{W:World}{b:Nat}{a0 a1 a2 a3 a4:Value}{r:List Value}{t:TypeId}{f:Nat×Nat}(h:W.heap[b]?=some (.cells (a0::a1::a2::a3::a4::r).toArray t f)):W.cell? ⟨b,0,none⟩=some a0/\W.cell? ⟨b,1,none⟩=some a1/\W.cell? ⟨b,2,none⟩=some a2/\W.cell? ⟨b,3,none⟩=some a3/\W.cell? ⟨b,4,none⟩=some a4:=by
 simp only[World.cell?,h];exact⟨rfl,rfl,rfl,rfl,rfl⟩
theorem cF6{W:World}{b:Nat}{a0 a1 a2 a3 a4 a5:Value}{r:List Value}{t:TypeId}{f:Nat×Nat}(h:W.heap[b]?=some (.cells (a0::a1::a2::a3::a4::a5::r).toArray t f)):W.cell? ⟨b,0,none⟩=some a0/\W.cell? ⟨b,1,none⟩=some a1/\W.cell? ⟨b,2,none⟩=some a2/\W.cell? ⟨b,3,none⟩=some a3/\W.cell? ⟨b,4,none⟩=some a4/\W.cell? ⟨b,5,none⟩=some a5:=by
 simp only[World.cell?,h];exact⟨rfl,rfl,rfl,rfl,rfl,rfl⟩
theorem cF7{W:World}{b:Nat}{a0 a1 a2 a3 a4 a5 a6:Value}{r:List Value}{t:TypeId}{f:Nat×Nat}(h:W.heap[b]?=some (.cells (a0::a1::a2::a3::a4::a5::a6::r).toArray t f)):W.cell? ⟨b,0,none⟩=some a0/\W.cell? ⟨b,1,none⟩=some a1/\W.cell? ⟨b,2,none⟩=some a2/\W.cell? ⟨b,3,none⟩=some a3/\W.cell? ⟨b,4,none⟩=some a4/\W.cell? ⟨b,5,none⟩=some a5/\W.cell? ⟨b,6,none⟩=some a6:=by
 simp only[World.cell?,h];exact⟨rfl,rfl,rfl,rfl,rfl,rfl,rfl⟩
theorem cF8{W:World}{b:Nat}{a0 a1 a2 a3 a4 a5 a6 a7:Value}{r:List Value}{t:TypeId}{f:Nat×Nat}(h:W.heap[b]?=some (.cells (a0::a1::a2::a3::a4::a5::a6::a7::r).toArray t f)):W.cell? ⟨b,0,none⟩=some a0/\W.cell? ⟨b,1,none⟩=some a1/\W.cell? ⟨b,2,none⟩=some a2/\W.cell? ⟨b,3,none⟩=some a3/\W.cell? ⟨b,4,none⟩=some a4/\W.cell? ⟨b,5,none⟩=some a5/\W.cell? ⟨b,6,none⟩=some a6/\W.cell? ⟨b,7,none⟩=some a7:=by
 simp only[World.cell?,h];exact⟨rfl,rfl,rfl,rfl,rfl,rfl,rfl,rfl⟩
theorem cF9{W:World}{b:Nat}{a0 a1 a2 a3 a4 a5 a6 a7 a8:Value}{r:List Value}{t:TypeId}{f:Nat×Nat}(h:W.heap[b]?=some (.cells (a0::a1::a2::a3::a4::a5::a6::a7::a8::r).toArray t f)):W.cell? ⟨b,0,none⟩=some a0/\W.cell? ⟨b,1,none⟩=some a1/\W.cell? ⟨b,2,none⟩=some a2/\W.cell? ⟨b,3,none⟩=some a3/\W.cell? ⟨b,4,none⟩=some a4/\W.cell? ⟨b,5,none⟩=some a5/\W.cell? ⟨b,6,none⟩=some a6/\W.cell? ⟨b,7,none⟩=some a7/\W.cell? ⟨b,8,none⟩=some a8:=by
 simp only[World.cell?,h];exact⟨rfl,rfl,rfl,rfl,rfl,rfl,rfl,rfl,rfl⟩
theorem cF10{W:World}{b:Nat}{a0 a1 a2 a3 a4 a5 a6 a7 a8 a9:Value}{r:List Value}{t:TypeId}{f:Nat×Nat}(h:W.heap[b]?=some (.cells (a0::a1::a2::a3::a4::a5::a6::a7::a8::a9::r).toArray t f)):W.cell? ⟨b,0,none⟩=some a0/\W.cell? ⟨b,1,none⟩=some a1/\W.cell? ⟨b,2,none⟩=some a2/\W.cell? ⟨b,3,none⟩=some a3/\W.cell? ⟨b,4,none⟩=some a4/\W.cell? ⟨b,5,none⟩=some a5/\W.cell? ⟨b,6,none⟩=some a6/\W.cell? ⟨b,7,none⟩=some a7/\W.cell? ⟨b,8,none⟩=some a8/\W.cell? ⟨b,9,none⟩=some a9:=by
 simp only[World.cell?,h];exact⟨rfl,rfl,rfl,rfl,rfl,rfl,rfl,rfl,rfl,rfl⟩
theorem cF11{W:World}{b:Nat}{a0 a1 a2 a3 a4 a5 a6 a7 a8 a9 a10:Value}{r:List Value}{t:TypeId}{f:Nat×Nat}(h:W.heap[b]?=some (.cells (a0::a1::a2::a3::a4::a5::a6::a7::a8::a9::a10::r).toArray t f)):W.cell? ⟨b,0,none⟩=some a0/\W.cell? ⟨b,1,none⟩=some a1/\W.cell? ⟨b,2,none⟩=some a2/\W.cell? ⟨b,3,none⟩=some a3/\W.cell? ⟨b,4,none⟩=some a4/\W.cell? ⟨b,5,none⟩=some a5/\W.cell? ⟨b,6,none⟩=some a6/\W.cell? ⟨b,7,none⟩=some a7/\W.cell? ⟨b,8,none⟩=some a8/\W.cell? ⟨b,9,none⟩=some a9/\W.cell? ⟨b,10,none⟩=some a10:=by
 simp only[World.cell?,h];exact⟨rfl,rfl,rfl,rfl,rfl,rfl,rfl,rfl,rfl,rfl,rfl⟩
theorem cF12{W:World}{b:Nat}{a0 a1 a2 a3 a4 a5 a6 a7 a8 a9 a10 a11:Value}{r:List Value}{t:TypeId}{f:Nat×Nat}(h:W.heap[b]?=some (.cells (a0::a1::a2::a3::a4::a5::a6::a7::a8::a9::a10::a11::r).toArray t f)):W.cell? ⟨b,0,none⟩=some a0/\W.cell? ⟨b,1,none⟩=some a1/\W.cell? ⟨b,2,none⟩=some a2/\W.cell? ⟨b,3,none⟩=some a3/\W.cell? ⟨b,4,none⟩=some a4/\W.cell? ⟨b,5,none⟩=some a5/\W.cell? ⟨b,6,none⟩=some a6/\W.cell? ⟨b,7,none⟩=some a7/\W.cell? ⟨b,8,none⟩=some a8/\W.cell? ⟨b,9,none⟩=some a9/\W.cell? ⟨b,10,none⟩=some a10/\W.cell? ⟨b,11,none⟩=some a11:=by
 simp only[World.cell?,h];exact⟨rfl,rfl,rfl,rfl,rfl,rfl,rfl,rfl,rfl,rfl,rfl,rfl⟩
theorem yH2{p0 p1:Prop}(h0:p0)(h1:p1):Go.RowKit.Hid p0/\Go.RowKit.Hid p1:=⟨h0,h1⟩
theorem yH3{p0 p1 p2:Prop}(h0:p0)(h1:p1)(h2:p2):Go.RowKit.Hid p0/\Go.RowKit.Hid p1/\Go.RowKit.Hid p2:=⟨h0,h1,h2⟩
theorem yH4{p0 p1 p2 p3:Prop}(h0:p0)(h1:p1)(h2:p2)(h3:p3):Go.RowKit.Hid p0/\Go.RowKit.Hid p1/\Go.RowKit.Hid p2/\Go.RowKit.Hid p3:=⟨h0,h1,h2,h3⟩
theorem yH5{p0 p1 p2 p3 p4:Prop}(h0:p0)(h1:p1)(h2:p2)(h3:p3)(h4:p4):Go.RowKit.Hid p0/\Go.RowKit.Hid p1/\Go.RowKit.Hid p2/\Go.RowKit.Hid p3/\Go.RowKit.Hid p4:=⟨h0,h1,h2,h3,h4⟩
theorem yH6{p0 p1 p2 p3 p4 p5:Prop}(h0:p0)(h1:p1)(h2:p2)(h3:p3)(h4:p4)(h5:p5):Go.RowKit.Hid p0/\Go.RowKit.Hid p1/\Go.RowKit.Hid p2/\Go.RowKit.Hid p3/\Go.RowKit.Hid p4/\Go.RowKit.Hid p5:=⟨h0,h1,h2,h3,h4,h5⟩
theorem yH7{p0 p1 p2 p3 p4 p5 p6:Prop}(h0:p0)(h1:p1)(h2:p2)(h3:p3)(h4:p4)(h5:p5)(h6:p6):Go.RowKit.Hid p0/\Go.RowKit.Hid p1/\Go.RowKit.Hid p2/\Go.RowKit.Hid p3/\Go.RowKit.Hid p4/\Go.RowKit.Hid p5/\Go.RowKit.Hid p6:=⟨h0,h1,h2,h3,h4,h5,h6⟩
theorem yH8{p0 p1 p2 p3 p4 p5 p6 p7:Prop}(h0:p0)(h1:p1)(h2:p2)(h3:p3)(h4:p4)(h5:p5)(h6:p6)(h7:p7):Go.RowKit.Hid p0/\Go.RowKit.Hid p1/\Go.RowKit.Hid p2/\Go.RowKit.Hid p3/\Go.RowKit.Hid p4/\Go.RowKit.Hid p5/\Go.RowKit.Hid p6/\Go.RowKit.Hid p7:=⟨h0,h1,h2,h3,h4,h5,h6,h7⟩
theorem zHi{p:Prop}(h:p):Go.RowKit.Hid p:=h
theorem _root_.Go.RowKit.Hid.o{p:Prop}(h:Go.RowKit.Hid p):p:=h
