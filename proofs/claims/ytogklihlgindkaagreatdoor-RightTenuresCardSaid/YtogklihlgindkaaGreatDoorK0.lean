import Derived.Deep.RegionHeld
import Derived.WalkLawsBesides
import Derived.WalkSpells
import Derived.BigQuiet
import Derived.Lib.Hide
set_option linter.all false
set_option maxRecDepth 100000
set_option maxHeartbeats 4000000
namespace Go.Proofs.YtogklihlgindkaaGreatDoor
open Go.RowKit
abbrev Qa(w W:World):Prop:=Below w.heap.size w W
theorem Qb{n:Nat}{w:World}:Below n w w:=Below.refl n w
theorem Qc{n:Nat}:n<=n:=Nat.le_refl n
def Qd{α:Sort _}(a:α):∃x,x=a:=⟨a,rfl⟩
structure Ez where
 os:Array Obj
 d:Nat
instance:Nonempty Ez:=⟨⟨#[],0⟩⟩
def _root_.Go.World.ext(w:World)(z:Ez):World:= {w with heap:=w.heap++z.os,drawn:=z.d}
def zaf(w:World)(z:Ez):(w.ext z).heap.size=w.heap.size+z.os.size:=by simp[World.ext]
def zcL(w:World)(z:Ez)(k:Nat)(h:k<w.heap.size):(w.ext z).heap[k]?=w.heap[k]?:=by
 simp[World.ext,Array.getElem?_append,h]
def za3(w:World)(z:Ez)(b o:Nat)(h:b<w.heap.size):(w.ext z).cell? ⟨b,o,none⟩=w.cell? ⟨b,o,none⟩:=
 World.cell?_of_block (w:=w) (zcL w z b h)
def zam(w:World)(z:Ez)(b o:Nat)(h:b<w.heap.size):(w.ext z).frozen? ⟨b,o,none⟩=w.frozen? ⟨b,o,none⟩:=
 World.frozen?_of_block (w:=w) (zcL w z b h)
variable{w w':World}
def zaP(h:Qa w w'):∃z,w'=w.ext z:=by
 refine⟨⟨w'.heap.extract w.heap.size w'.heap.size,w'.drawn⟩,?_⟩;have hh:w'.heap=w.heap++w'.heap.extract w.heap.size w'.heap.size:=by
  apply Array.ext_getElem?;intro i;by_cases hi:i<w.heap.size
  ·rw[h.block i hi];simp[Array.getElem?_append,hi]
  ·simp only[Array.getElem?_append,hi,if_false,Array.getElem?_extract];have:=h.size;by_cases h2:i<w'.heap.size
   ·simp only[Nat.min_self];rw[if_pos (by omega)];congr 1;omega
   ·rw[Array.getElem?_eq_none (by omega),if_neg (by omega)]
 cases w';simp only[World.ext];have h1:=h.os;have h2:=h.tape;have h3:=h.output;simp only at h1 h2 h3 hh;rw[<-hh,h1,h2,h3]
def zan(w:World)(z:Ez):Qa w (w.ext z):=
 ⟨rfl,rfl,rfl,by rw[zaf];omega,λk hk=>zcL w z k hk⟩
variable{a b:Nat}
def za6{c:Nat}(h:a<b):a<b+c:=by omega
variable{c0 c1:Nat}
def zat(h:a<b):a<b+c0+c1:=by omega
variable{c2:Nat}
def zau(h:a<b):a<b+c0+c1+c2:=by omega
variable{c3:Nat}
def zav(h:a<b):a<b+c0+c1+c2+c3:=by omega
variable{c4:Nat}
def zaw(h:a<b):a<b+c0+c1+c2+c3+c4:=by omega
variable{c5:Nat}
def zax(h:a<b):a<b+c0+c1+c2+c3+c4+c5:=by omega
variable{c6:Nat}
def zay(h:a<b):a<b+c0+c1+c2+c3+c4+c5+c6:=by omega
def zaz{c7:Nat}(h:a<b):a<b+c0+c1+c2+c3+c4+c5+c6+c7:=by omega
section
variable {n:Nat} {w W:World}
def zad(h:Below n w W)(o:Obj)(hn:n<=w.heap.size:=by first|exact Qc|omega):Below n w (W.alloc o):=h.alloc (Nat.le_trans hn h.size) o
def zaF(h:Below n w W):Below n w W.drew:=h.drew
def zcD(h:Below n w W)(k:Nat):Below n w (W.drewN k):=⟨h.os,h.tape,h.output,h.size,h.block⟩
def zaS(h:Below n w W){p:Addr}(hp:n<=p.block)(u:Value):Below n w (W.setCell p u):=h.setCell hp u
def zb2(h:Below n w W)(z:Ez)(hn:n<=w.heap.size:=by first|exact Qc|omega):Below n w (W.ext z):=
 h.trans ((zan W z).mono (Nat.le_trans hn h.size))
end
variable{row:Option Nat}
def zbm{a b c:World}(h:a.grownBy b row)(k:b.grownBy c row):a.grownBy c row:=
 ⟨k.os.trans h.os,k.tape.trans h.tape,k.output.trans h.output,Nat.le_trans h.size k.size,λi hi ai=>(k.block i (Nat.lt_of_lt_of_le hi h.size) ai).trans (h.block i hi ai)⟩
variable{W:World}
def zaV{n:Nat}{W':World}{g:Nat}(h:Below n w W)(k:W.grownBy W' (some g))(hg:n<=g)(hn:n<=w.heap.size:=by first|exact Qc|omega):Below n w W':=
 h.grown k (Nat.le_trans hn h.size) (λj hj=>by cases hj;exact hg)
def zlm{a b:World}(h:a.grownBy b row)(z:Ez):a.grownBy (b.ext z) row:=
 ⟨h.os,h.tape,h.output,Nat.le_trans h.size (by rw[zaf];omega),λi hi ai=>(zcL _ _ _ (Nat.lt_of_lt_of_le hi h.size)).trans (h.block i hi ai)⟩
def zct{a b:World}(h:a.grownBy b row)(o:Obj):a.grownBy (b.alloc o) row:=zbm h (World.grownBy_alloc b o row)
def Ret(w:World)(v:Value)(e:Ending)(w':World):Prop:=e=.returned v/\∃z,w'=w.ext z
def Ret0(w:World)(v:Value)(e:Ending)(w':World):Prop:=e=.returned v/\w=w'
variable{v:Value}
def Ret.of{v':Value}(h:v'=v)(hb:Qa w w'):Ret w v (.returned v') w':=⟨by rw[h],zaP hb⟩
variable{e:Ending}
def Ret.bools{b:Bool}(h:Ret w (.bool b) e w'):∃z,w'=w.ext z/\((b=true/\e=.returned (.bool true))\/(b=false/\e=.returned (.bool false))):=by
 obtain⟨he,z,hz⟩:=h;cases b
 ·exact⟨z,hz,.inr ⟨rfl,he⟩⟩
 ·exact⟨z,hz,.inl ⟨rfl,he⟩⟩
def Ret0.bools{b:Bool}(h:Ret0 w (.bool b) e w'):w=w'/\((b=true/\e=.returned (.bool true))\/(b=false/\e=.returned (.bool false))):=by
 obtain⟨he,hz⟩:=h;cases b
 ·exact⟨hz,.inr ⟨rfl,he⟩⟩
 ·exact⟨hz,.inl ⟨rfl,he⟩⟩
def zb7{k:IntKind}{a b:Int}(h:a=b):Value.int k a=Value.int k b:=by rw[h]
def znW{a b:Bool}(h:a=true↔b=true):Ending.returned (Value.bool a)=Ending.returned (Value.bool b):=by rw[Bool.eq_iff_iff.2 h]
def zaT{a b:Bool}(h:a=b):Value.bool a=Value.bool b:=by rw[h]
def Ez.and(z z':Ez):Ez:=⟨z.os++z'.os,z'.d⟩
def zie(w:World)(z z':Ez):(w.ext z).ext z'=w.ext (z.and z'):=by simp[World.ext,Ez.and]
variable{P:Program}{Q:Exit->Act->World->Prop}
def zag{id:Nat}{a:Act}{l:List Oper}(hm:P.follows .mixedOrders=true)(hB:Region.lexB .any l.toArray=true)
 (h:wpQuiet P l.toArray (λw'=>∃z,w'=w.ext z) (λa'=>∀w',(∃z,w'=w.ext z)->Q .normal a' w') l a):(Code.region id l.toArray true).wp P Q a w:=
 wp_region_quiet (C:=λw'=>∃z,w'=w.ext z) hm hB ⟨⟨#[],w.drawn+1⟩,by simp[World.ext]⟩ (by simpa using h)
variable{args:Array Value}{z:Ez}
def quietx{f:FuncId}(h:Calls P f args (w.ext z) (Ret (w.ext z) v)):
 Calls P f args (w.ext z) λe w''=>e=.returned v/\∃z',w''=w.ext z':=
 h.mono λ_ _ ⟨he,z',hw⟩=>⟨he,z.and z',by rw[hw,zie]⟩
def zif{f:FuncId}(h:Calls P f args (w.ext z) (Ret0 (w.ext z) v)):
 Calls P f args (w.ext z) λe w''=>e=.returned v/\∃z',w''=w.ext z':=
 h.mono λ_ _ ⟨he,hw⟩=>⟨he,z,hw.symm⟩
def zao(w:World)(z:Ez)(b o:Nat)(v:Value)(h:b<w.heap.size):(w.ext z).setCell ⟨b,o,none⟩ v=(w.setCell ⟨b,o,none⟩ v).ext z:=by
 have hm:∀f:Obj->Obj,(w.heap++z.os).modify b f=w.heap.modify b f++z.os:=λf=>by
  apply Array.ext_getElem?;intro i;simp only[Array.getElem?_modify,Array.getElem?_append,Array.size_modify];by_cases hi:i<w.heap.size
  ·simp[hi]
  ·by_cases hb:b=i
   ·omega
   ·simp[hi,hb]
 simp only[World.setCell,World.ext,hm]
def zac(w:World)(x:Obj)(b o:Nat)(v:Value)(h:b<w.heap.size):(w.alloc x).setCell ⟨b,o,none⟩ v=(w.setCell ⟨b,o,none⟩ v).alloc x:=by
 have hm:∀f:Obj->Obj,(w.heap.push x).modify b f=(w.heap.modify b f).push x:=λf=>by
  apply Array.ext_getElem?;intro i;simp only[Array.getElem?_modify,Array.getElem?_push,Array.size_modify];by_cases hi:i=w.heap.size
  ·have hb:¬b=i:=by omega
   simp[hi]at hb⊢;intro bM;omega
  ·by_cases hb:b=i<;>simp[hi,hb]
 show({w with heap:=(w.heap.push x).modify b _}:World)= {w with heap:=(w.heap.modify b _).push x}
 rw[hm]
def Sl{α:Type}(w:World)(size:Nat)(cells:α->List Value)(A:Option Addr)(xs:List α):Prop:=
 0<xs.length->∃b off,A=some ⟨b,off,none⟩/\b<w.heap.size/\∀k (x:α),xs[k]?=some x->∀j u,(cells x)[j]?=some u->w.cell? ⟨b,off+k*size+j,none⟩=some u
section
variable {α:Type} {w W:World} {size:Nat} {cells:α->List Value} {A:Option Addr} {xs:List α}
def Sl.keep(h:Sl w size cells A xs){n:Nat}(hb:Below n w W)(hn:w.heap.size<=n:=by first|exact Qc|omega):Sl W size cells A xs:=λhl=>by
 obtain⟨b,off,hA,ae,hc⟩:=h hl;exact⟨b,off,hA,Nat.lt_of_lt_of_le ae hb.size,λk x hx j u hu=>(hb.cell (p:=⟨b,_,none⟩) (Nat.lt_of_lt_of_le ae hn)).trans (hc k x hx j u hu)⟩
def Sl.at{k:Nat}(h:Sl w size cells A xs)(hk:k<xs.length):∃b off,A=some ⟨b,off,none⟩/\b<w.heap.size/\∀j u,(cells xs[k])[j]?=some u->w.cell? ⟨b,off+k*size+j,none⟩=some u:=by
 obtain⟨b,off,hA,ae,hc⟩:=h (by omega);exact⟨b,off,hA,ae,λj u hu=>hc k _ (List.getElem?_eq_getElem hk) j u hu⟩
def Sl.take(h:Sl w size cells A xs)(k:Nat):Sl w size cells A (xs.take k):=λhl=>by
 obtain⟨b,off,hA,ae,hc⟩:=h (by simp at hl;omega);refine⟨b,off,hA,ae,λj x hx=>hc j x ?_⟩;rw[List.getElem?_take]at hx;split at hx
 ·exact hx
 ·cases hx
def Sl.nil:Sl w size cells A ([]:List α):=λh=>absurd h (by simp)
end
def Bw{n:Nat}{w W:World}(h:Below n w W:=by
 repeat(first|exact B_refl|exact Qb|assumption|with_reducible refine zad ?_ _|with_reducible refine zb2 ?_ _|with_reducible refine zaF ?_|with_reducible refine zcD ?_ _|with_reducible refine zaS ?_ (by simp;omega) _)):Below n w W:=h
variable{ops:Array Oper}{md:Region.Mode}{S:World->Prop}{fuel:Nat}{listed:Array Bool}{a':Act}
def TkH(i:Nat){oi:Oper}{a:Act}(h:wpAnyH P md ops Q S fuel (listed.setIfInBounds i true) a' w)(hi:ops[i]?=some oi:=by exact List.getElem?_toArray.trans rfl)
 (hs:Region.noSelect ops=true:=by kernel_rfl)(hf:Region.free md ops listed i=true:=by kernel_rfl)(hr:(Region.ready md ops listed).contains i=true:=by kernel_rfl)
 (hQ:∀c a w,Q (.panic c) (a.put oi.dst v) w->Q (.panic c) a w:=by exact λ_ _ _ h=>h)(hy:YieldsIf P ops S oi v a:=by(refine Or.inl ⟨by rfl,?_⟩;intro w ut;(try dsimp only at ut);go_simp;first|done|with_reducible rfl))(hS:S w:=by assumption)
 (ha:a.put oi.dst v=a':=by((try simp only[Act.put,List.setIfInBounds_toArray,List.set_cons_zero,List.set_cons_succ]);rfl)):wpAnyH P md ops Q S (fuel+1) listed a w:=
 wpAnyH_take hi hs hf hr hQ hy hS (ha▸h)
def NxM{K G:Act->World->Prop}{T:World->Prop}{a:Act}(hK:Shut (∀a w,T w->(T w->G a w)->K a w))(k:T w->G a' w)(h:T w:=by((try dsimp only);exact .inl rfl))(ha:a=a':=by((try simp only[Act.put,List.setIfInBounds_toArray,List.set_cons_zero,List.set_cons_succ]);rfl)):K a w:=hK.out _ _ h λq=>ha▸k q
def OnH(i:Nat){o:Oper}{a:Act}(h:∀K':Act->World->Prop,Shut (∀a w,S w->(S w->wpAnyH P md ops Q S fuel (listed.setIfInBounds i true) a w)->K' a w)->if Region.wanted o (yielded ops a.tmps)=true then Oper.wp P o a w K' Q else K' (a.put o.dst undef) w)
 (hr:Region.ready md ops listed=[i]:=by kernel_rfl)(ho:ops[i]?=some o:=by exact List.getElem?_toArray.trans rfl):wpAnyH P md ops Q S (fuel+1) listed a w:=wpAnyH_ready (rs:=[i]) hr (by simp) (AllReadyH.cons ho h AllReadyH.nil)
variable{a0:Value}{r:List Value}{t:TypeId}{f:Nat×Nat}
def cF1(h:W.heap[b]?=some (.cells (a0::r).toArray t f)):W.cell? ⟨b,0,none⟩=some a0:=by
 simp only[World.cell?,h];exact rfl
variable{a1:Value}
def cF2(h:W.heap[b]?=some (.cells (a0::a1::r).toArray t f)):W.cell? ⟨b,0,none⟩=some a0/\W.cell? ⟨b,1,none⟩=some a1:=by
 simp only[World.cell?,h];exact⟨rfl,rfl⟩
variable{a2:Value}
def cF3(h:W.heap[b]?=some (.cells (a0::a1::a2::r).toArray t f)):W.cell? ⟨b,0,none⟩=some a0/\W.cell? ⟨b,1,none⟩=some a1/\W.cell? ⟨b,2,none⟩=some a2:=by
 simp only[World.cell?,h];exact⟨rfl,rfl,rfl⟩
variable{a3:Value}
def cF4(h:W.heap[b]?=some (.cells (a0::a1::a2::a3::r).toArray t f)):W.cell? ⟨b,0,none⟩=some a0/\W.cell? ⟨b,1,none⟩=some a1/\W.cell? ⟨b,2,none⟩=some a2/\W.cell? ⟨b,3,none⟩=some a3:=by
 simp only[World.cell?,h];exact⟨rfl,rfl,rfl,rfl⟩
variable{a4:Value}
def cF5(h:W.heap[b]?=some (.cells (a0::a1::a2::a3::a4::r).toArray t f)):W.cell? ⟨b,0,none⟩=some a0/\W.cell? ⟨b,1,none⟩=some a1/\W.cell? ⟨b,2,none⟩=some a2/\W.cell? ⟨b,3,none⟩=some a3/\W.cell? ⟨b,4,none⟩=some a4:=by
 simp only[World.cell?,h];exact⟨rfl,rfl,rfl,rfl,rfl⟩
variable{a5:Value}
def cF6(h:W.heap[b]?=some (.cells (a0::a1::a2::a3::a4::a5::r).toArray t f)):W.cell? ⟨b,0,none⟩=some a0/\W.cell? ⟨b,1,none⟩=some a1/\W.cell? ⟨b,2,none⟩=some a2/\W.cell? ⟨b,3,none⟩=some a3/\W.cell? ⟨b,4,none⟩=some a4/\W.cell? ⟨b,5,none⟩=some a5:=by
 simp only[World.cell?,h];exact⟨rfl,rfl,rfl,rfl,rfl,rfl⟩
variable{a6:Value}
def cF7(h:W.heap[b]?=some (.cells (a0::a1::a2::a3::a4::a5::a6::r).toArray t f)):W.cell? ⟨b,0,none⟩=some a0/\W.cell? ⟨b,1,none⟩=some a1/\W.cell? ⟨b,2,none⟩=some a2/\W.cell? ⟨b,3,none⟩=some a3/\W.cell? ⟨b,4,none⟩=some a4/\W.cell? ⟨b,5,none⟩=some a5/\W.cell? ⟨b,6,none⟩=some a6:=by
 simp only[World.cell?,h];exact⟨rfl,rfl,rfl,rfl,rfl,rfl,rfl⟩
variable{a7:Value}
def cF8(h:W.heap[b]?=some (.cells (a0::a1::a2::a3::a4::a5::a6::a7::r).toArray t f)):W.cell? ⟨b,0,none⟩=some a0/\W.cell? ⟨b,1,none⟩=some a1/\W.cell? ⟨b,2,none⟩=some a2/\W.cell? ⟨b,3,none⟩=some a3/\W.cell? ⟨b,4,none⟩=some a4/\W.cell? ⟨b,5,none⟩=some a5/\W.cell? ⟨b,6,none⟩=some a6/\W.cell? ⟨b,7,none⟩=some a7:=by
 simp only[World.cell?,h];exact⟨rfl,rfl,rfl,rfl,rfl,rfl,rfl,rfl⟩
variable{a8:Value}
def cF9(h:W.heap[b]?=some (.cells (a0::a1::a2::a3::a4::a5::a6::a7::a8::r).toArray t f)):W.cell? ⟨b,0,none⟩=some a0/\W.cell? ⟨b,1,none⟩=some a1/\W.cell? ⟨b,2,none⟩=some a2/\W.cell? ⟨b,3,none⟩=some a3/\W.cell? ⟨b,4,none⟩=some a4/\W.cell? ⟨b,5,none⟩=some a5/\W.cell? ⟨b,6,none⟩=some a6/\W.cell? ⟨b,7,none⟩=some a7/\W.cell? ⟨b,8,none⟩=some a8:=by
 simp only[World.cell?,h];exact⟨rfl,rfl,rfl,rfl,rfl,rfl,rfl,rfl,rfl⟩
variable{a9:Value}
def cF10(h:W.heap[b]?=some (.cells (a0::a1::a2::a3::a4::a5::a6::a7::a8::a9::r).toArray t f)):W.cell? ⟨b,0,none⟩=some a0/\W.cell? ⟨b,1,none⟩=some a1/\W.cell? ⟨b,2,none⟩=some a2/\W.cell? ⟨b,3,none⟩=some a3/\W.cell? ⟨b,4,none⟩=some a4/\W.cell? ⟨b,5,none⟩=some a5/\W.cell? ⟨b,6,none⟩=some a6/\W.cell? ⟨b,7,none⟩=some a7/\W.cell? ⟨b,8,none⟩=some a8/\W.cell? ⟨b,9,none⟩=some a9:=by
 simp only[World.cell?,h];exact⟨rfl,rfl,rfl,rfl,rfl,rfl,rfl,rfl,rfl,rfl⟩
variable{a10:Value}
def cF11(h:W.heap[b]?=some (.cells (a0::a1::a2::a3::a4::a5::a6::a7::a8::a9::a10::r).toArray t f)):W.cell? ⟨b,0,none⟩=some a0/\W.cell? ⟨b,1,none⟩=some a1/\W.cell? ⟨b,2,none⟩=some a2/\W.cell? ⟨b,3,none⟩=some a3/\W.cell? ⟨b,4,none⟩=some a4/\W.cell? ⟨b,5,none⟩=some a5/\W.cell? ⟨b,6,none⟩=some a6/\W.cell? ⟨b,7,none⟩=some a7/\W.cell? ⟨b,8,none⟩=some a8/\W.cell? ⟨b,9,none⟩=some a9/\W.cell? ⟨b,10,none⟩=some a10:=by
 simp only[World.cell?,h];exact⟨rfl,rfl,rfl,rfl,rfl,rfl,rfl,rfl,rfl,rfl,rfl⟩
def cF12{a11:Value}(h:W.heap[b]?=some (.cells (a0::a1::a2::a3::a4::a5::a6::a7::a8::a9::a10::a11::r).toArray t f)):W.cell? ⟨b,0,none⟩=some a0/\W.cell? ⟨b,1,none⟩=some a1/\W.cell? ⟨b,2,none⟩=some a2/\W.cell? ⟨b,3,none⟩=some a3/\W.cell? ⟨b,4,none⟩=some a4/\W.cell? ⟨b,5,none⟩=some a5/\W.cell? ⟨b,6,none⟩=some a6/\W.cell? ⟨b,7,none⟩=some a7/\W.cell? ⟨b,8,none⟩=some a8/\W.cell? ⟨b,9,none⟩=some a9/\W.cell? ⟨b,10,none⟩=some a10/\W.cell? ⟨b,11,none⟩=some a11:=by
 simp only[World.cell?,h];exact⟨rfl,rfl,rfl,rfl,rfl,rfl,rfl,rfl,rfl,rfl,rfl,rfl⟩
variable{p0 p1:Prop}
def yH2(h0:p0)(h1:p1):Go.RowKit.Hid p0/\Go.RowKit.Hid p1:=⟨h0,h1⟩
variable{p2:Prop}
def yH3(h0:p0)(h1:p1)(h2:p2):Go.RowKit.Hid p0/\Go.RowKit.Hid p1/\Go.RowKit.Hid p2:=⟨h0,h1,h2⟩
variable{p3:Prop}
def yH4(h0:p0)(h1:p1)(h2:p2)(h3:p3):Go.RowKit.Hid p0/\Go.RowKit.Hid p1/\Go.RowKit.Hid p2/\Go.RowKit.Hid p3:=⟨h0,h1,h2,h3⟩
variable{p4:Prop}
def yH5(h0:p0)(h1:p1)(h2:p2)(h3:p3)(h4:p4):Go.RowKit.Hid p0/\Go.RowKit.Hid p1/\Go.RowKit.Hid p2/\Go.RowKit.Hid p3/\Go.RowKit.Hid p4:=⟨h0,h1,h2,h3,h4⟩
variable{p5:Prop}
def yH6(h0:p0)(h1:p1)(h2:p2)(h3:p3)(h4:p4)(h5:p5):Go.RowKit.Hid p0/\Go.RowKit.Hid p1/\Go.RowKit.Hid p2/\Go.RowKit.Hid p3/\Go.RowKit.Hid p4/\Go.RowKit.Hid p5:=⟨h0,h1,h2,h3,h4,h5⟩
variable{p6:Prop}
def yH7(h0:p0)(h1:p1)(h2:p2)(h3:p3)(h4:p4)(h5:p5)(h6:p6):Go.RowKit.Hid p0/\Go.RowKit.Hid p1/\Go.RowKit.Hid p2/\Go.RowKit.Hid p3/\Go.RowKit.Hid p4/\Go.RowKit.Hid p5/\Go.RowKit.Hid p6:=⟨h0,h1,h2,h3,h4,h5,h6⟩
def yH8{p7:Prop}(h0:p0)(h1:p1)(h2:p2)(h3:p3)(h4:p4)(h5:p5)(h6:p6)(h7:p7):Go.RowKit.Hid p0/\Go.RowKit.Hid p1/\Go.RowKit.Hid p2/\Go.RowKit.Hid p3/\Go.RowKit.Hid p4/\Go.RowKit.Hid p5/\Go.RowKit.Hid p6/\Go.RowKit.Hid p7:=⟨h0,h1,h2,h3,h4,h5,h6,h7⟩
variable{p:Prop}
def zHi(h:p):Go.RowKit.Hid p:=h
def _root_.Go.RowKit.Hid.o(h:Go.RowKit.Hid p):p:=h
