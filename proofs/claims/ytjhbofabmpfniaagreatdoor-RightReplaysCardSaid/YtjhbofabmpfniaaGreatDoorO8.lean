/- Walks of chapter 5's law: deeds and rights in memory of their own. -/
import Derived.Test.YtjhbofabmpfniaaGreatDoorO7
import Derived.Test.YtjhbofabmpfniaaGreatDoorJQ
set_option linter.unusedSimpArgs false
set_option linter.unusedVariables false
set_option maxRecDepth 100000
set_option maxHeartbeats 4000000
namespace Go.Proofs.YtjhbofabmpfniaaGreatDoor
open Go.RowKit
theorem zlC (l:Parts) (h: ∀p∈l,0<p.2) (k:Nat):sumQ (l.take k)<=sumQ l:=by
 induction l generalizing k with
 |nil=>simp
 |cons p l ih=>
  cases k with
  |zero=>
   have h1:0<=sumQ l:=by
    have:=ih (fun q hq=>h q MdF) 0;simpa[sumQ]using this
   have:=h p Mcq;rw[List.take_zero,sumQ,sumQ];grind
  |succ k=>
   have:=ih (fun q hq=>h q MdF) k;rw[List.take_succ_cons,sumQ,sumQ];grind
structure WillInv (y:(Parts×Bool)×Rat):Prop where
 flag:y.1.2=false
 bd:Bd y.1.1 (1-y.2)
 isN:IsN 720720 y.2
 nn:0<=y.2
 le:y.2<=1
 small:zaI y.2
theorem zk8 {s:St} {frm:ByteArray} {l:Parts} (hw:WillOk l) (k:Nat):WillInv (zdh s frm (l.take k) ([],false) 1):=by
 have hp: ∀p∈l.take k,0<p.2:=fun p hp=>hw.pos p (List.mem_of_mem_take hp)
 have hN: ∀p∈l.take k,IsN 720720 p.2:=fun p hp=>hw.isN p (List.mem_of_mem_take hp)
 have h1:=zgx (s:=s) (frm:=frm) (rest:=1) hp hN zd7 Mcq;obtain⟨g1,g2,g3,g4,g5⟩:=zil (s:=s) (frm:=frm) (out:=[]) (rest:=1) hp hN (Rat.le_trans (zlC l hw.pos k) hw.le) zd7 Mcq (zgY _);rw[h1];have gs:zaF (zcp s frm (l.take k) [] 1).1=false:=zc4 Mcp Mcp g2;have hn:=zbp (fun p hp=>by have:=g1.pos p hp;grind) (l:=(zcp s frm (l.take k) [] 1).1);have aw:sumQ ([]:Parts)=0:=rfl;rw[aw]at g5;have bN:(zcp s frm (l.take k) [] 1).2<=1:=McP;exact⟨rfl,⟨g1,gs,by grind⟩,g3,g4,bN,zcc g4 bN (zev Mcp Mcp g3)⟩
theorem zlD {α:Type} {p q:α->Bool}: ∀ {l:List α},(∀x∈l,p x=true->q x=true)->(∃x∈l,q x=true/\p x=false)->(l.filter p).length<(l.filter q).length
 | [],_,h=>by obtain⟨x,hx,_⟩:=h;cases hx
 |y::l,h1,h2=>by
  have bN: ∀ {l:List α},(∀x∈l,p x=true->q x=true)->(l.filter p).length<=(l.filter q).length:=by
   intro l;induction l with
   |nil=>intro _;simp
   |cons z l ih=>
    intro h;have:=ih (fun x hx=>h x (by simp[hx]));cases hp:p z
    ·cases hq:q z<;>simp[hp,hq]<;>omega
    ·have hq:=h z Mcq hp;simp[hp,hq];omega
  have hl:=bN (l:=l) (fun x hx=>h1 x (by simp[hx]));obtain⟨x,hx,h3,h4⟩:=h2;rcases List.mem_cons.1 hx with rfl|hx
  ·simp[h3,h4];omega
  ·have:=zlD (l:=l) (fun x hx=>h1 x (by simp[hx])) ⟨x,hx,h3,h4⟩;cases hp:p y
   ·cases hq:q y<;>simp[hp,hq]<;>omega
   ·have hq:=h1 y Mcq hp;simp[hp,hq];omega
open Classical in
noncomputable def zlE (s:St) (n:ByteArray):Nat:=(s.children.filter fun e=>decide (e.1=n\/Desc s n e.1)).length
theorem zmV {s:St} (ha: ∀a,¬Desc s a a) {n c:ByteArray} (hc:c∈zai s n):zlE s c<zlE s n:=by
 unfold zlE;have hd:=zf5 hc;refine zlD (fun e _ h=> ?_) ⟨(n,c),zdt.1 hc,by simp,?_⟩
 ·simp only[decide_eq_true_eq]at h⊢;rcases h with h|h
  ·right;rw[h];exact hd
  ·right;exact zgU hd h
 ·simp only[decide_eq_false_iff_not,not_or];refine⟨fun e=> ?_,fun h=> ?_⟩
  ·have JT:Desc s n n:=by
    have:=hd;rw[<-show n=c from e]at this;exact this
   exact ha n JT
  ·exact ha n (zgU hd h)
theorem deep_of {s:St} (ha: ∀a,¬Desc s a a): ∀(f:Nat) (n:ByteArray),zlE s n<f->Deep s f n
 |0,_,h=>by omega
 |f+1,n,h=>fun c hc=>deep_of ha f c (by have:=zmV ha hc;omega)
theorem zk9 {s:St} (ha: ∀a,¬Desc s a a) (n:ByteArray):Deep s (zaW s) n:=deep_of ha _ n (by
 unfold zaW zlE
 exact Nat.lt_succ_of_le (List.length_filter_le _ _))
theorem part_big {q:Rat} (h0:0<q) (hb:bigQ q=false):1<=(1000000000:Rat)*q:=by
 unfold bigQ at hb;have hd:(q.den:Int)<=1000000000:=by simpa using hb
 have hz:((q.den:Int):Rat)≠0:=ratI (by have:=q.den_pos;omega);have h1:q=q.num/((q.den:Int):Rat):=by rw[<-Rat.divInt_eq_div,Rat.num_divInt_den]
 have pi:q*((q.den:Int):Rat)=q.num:=by
  have:=Rat.div_mul_cancel (a:=(q.num:Rat)) hz;rw[<-h1]at this;exact this
 have hq:0<q.num:=Mdz;have h2:((1:Int):Rat)<=(q.num:Rat):=Rat.intCast_le_intCast.2 hq;have h3:((q.den:Int):Rat)<=((1000000000:Int):Rat):=Rat.intCast_le_intCast.2 hd;have h4:=Rat.mul_le_mul_of_nonneg_left h3 (show(0:Rat)<=q by grind);rw[pi]at h4;have e1:((1:Int):Rat)=1:=rfl;have e2:((1000000000:Int):Rat)=1000000000:=rfl;rw[e1]at h2;rw[e2]at h4;grind
theorem zlF: ∀ {l:Parts},(∀p∈l,0<p.2)->zaF l=false->(l.length:Rat)<=1000000000*sumQ l
 | [],_,_=>by
   have:((([]:Parts).length:Nat):Rat)=0:=rfl;rw[this,sumQ];grind
 |p::l,h1,h2=>by
  unfold zaF at h2;rw[List.any_cons,Bool.or_eq_false_iff]at h2;have h3:=part_big (h1 p Mcq) h2.1;have h4:=zlF (l:=l) (fun q hq=>h1 q MdF) h2.2;rw[List.length_cons,zg5,sumQ];grind
theorem Bd.len {out:Parts} {t:Rat} (h:Bd out t) (ht:t<=1):out.length<=1000000000:=by
 have h1:=zlF h.good.pos h.small;have h2:=h.le;have h3:((out.length:Int):Rat)<=((1000000000:Int):Rat):=by
  have e2:((1000000000:Int):Rat)=1000000000:=rfl;rw[e2,Rat.intCast_natCast];grind
 have:=Rat.intCast_le_intCast.1 h3;omega
end Go.Proofs.YtjhbofabmpfniaaGreatDoor
namespace Go.Proofs.YtjhbofabmpfniaaGreatDoor
open Go.RowKit Go.Shelf
attribute [local go_sem] World.cell?_alloc_mark zae za3 zam za6 zas zat zau zav zaw zax zay
attribute [local go_sem] zaj zac
def cmpJ (a b:Int):Int:=if a<b then-1 else if b<a then 1 else 0
theorem nanJ_any (n:Int) (w:World):Calls Tryz.prog 229 #[.int .i64 n] w (Ret0 w (.bool false)):=by
 go_enter Tryz.func229,Tryz.ntmps229
 go_wp2
 go_ret
 exact⟨by simp,rfl⟩
theorem cmpJ_any (a b:Int) (w:World):Calls Tryz.prog 165 #[.int .i64 a, .int .i64 b] w (Ret0 w (.int .i64 (cmpJ a b))):=by
 have hX:a<b/\cmpJ a b= -1\/ ¬a<b/\b<a/\cmpJ a b=1\/ ¬a<b/\ ¬b<a/\cmpJ a b=0:=by
  unfold cmpJ;by_cases h:a<b
  ·exact .inl ⟨h,by simp[h]⟩
  ·by_cases h2:b<a
   ·exact .inr (.inl ⟨h,h2,by simp[h,h2]⟩)
   ·exact .inr (.inr ⟨h,h2,by simp[h,h2]⟩)
 rcases hX with⟨h1,hr⟩|⟨h1,h2,hr⟩|⟨h1,h2,hr⟩<;>rw[hr]<;>clear hr<;>
 (go_enter Tryz.func165,Tryz.ntmps165
  go_wp2_with (go_at_call 229;refine(nanJ_any _ _).mono ?_;rintro e wq ⟨rfl,rfl⟩)
  go_ret
  exact⟨rfl,rfl⟩)
def lexC:List Nat->List Nat->Int
 | [],[]=>0
 | [],_::_=> -1
 |_::_,[]=>1
 |a::x,b::y=>if a<b then-1 else if b<a then 1 else lexC x y
theorem zmW (a b:List Nat) (A B:Option Addr) (ac bc:Nat) (w:World) (ha:a.length<=ac) (hb:b.length<=bc) (JF:a.length<=1000) (hS:Sl w 1 intC A a) (hT:Sl w 1 intC B b):
 Calls Tryz.prog 120 #[.slice A a.length ac, .slice B b.length bc] w (Ret0 w (.int .i64 (lexC a b))):=by
 have HS:=zHi hS;have HT:=zHi hT;obtain⟨R,hR⟩: ∃R,R=lexC (a.drop 0) (b.drop 0):=⟨_,rfl⟩
 rw[show lexC a b=R from by rw[hR];rfl];have HR:=zHi hR;clear hS hT hR;go_enter Tryz.func120,Tryz.ntmps120
 go_wp2_with fail
 go_loopw [11] (fun i wr=> ∃k:Nat,k<=a.length/\k<=b.length/\i= .int .i64 k/\Hid (wr=w)/\Hid (R=lexC (a.drop k) (b.drop k))) (fun i _=>a.length-(intOf i).toNat)
 case atStart=>exact⟨0,Nat.zero_le _,Nat.zero_le _,rfl,rfl,HR.o⟩
 case round=>
  obtain⟨k,hk,pH,rfl,hw,HX⟩:=hrel;have hw:=hw.o;subst hw;have aT:(0:Int)<=(k:Int):=Mcn;have hkA:(k:Int)<=(ac:Int):=Mcn;have hkB:(k:Int)<=(bc:Int):=Mcn;by_cases aa:k<a.length
  ·have ar:(k:Int)<(a.length:Int):=Mcn;obtain⟨b1,o1,rfl,_,c1⟩:=HS.o.at aa;have i0:=c1 0 _ rfl;rw[Nat.mul_one,Nat.add_zero]at i0;by_cases bE:k<b.length
   ·have Ku:(k:Int)<(b.length:Int):=Mcn;have xe: ¬(b.length:Int)<=(k:Int):=Mcn;obtain⟨b2,o2,rfl,_,c2⟩:=HT.o.at bE;have j0:=c2 0 _ rfl;rw[Nat.mul_one,Nat.add_zero]at j0;have hx:=HX.o;rw[List.drop_eq_getElem_cons aa,List.drop_eq_getElem_cons bE,lexC]at hx;have am:=zHi aa;have qB:=zHi bE;generalize a[k]=m at*;generalize b[k]=n at*;have av:=zHi hx;have HC:=zHi (fun W=>cmpJ_any m n W);clear hx c1 c2;by_cases h1:m<n
    ·have hc:cmpJ m n= -1:=by unfold cmpJ;rw[if_pos Mcn]
     have bz:Hid (R= -1):=by show _=_;rw[av.o,if_pos h1]
     exact MaT
    ·by_cases h2:n<m
     ·have hc:cmpJ m n=1:=by unfold cmpJ;rw[if_neg Mcn,if_pos Mcn]
      have bz:Hid (R=1):=by show _=_;rw[av.o,if_neg h1,if_pos h2]
      exact MaT
     ·have hc:cmpJ m n=0:=by unfold cmpJ;rw[if_neg Mcn,if_neg Mcn]
      have bz:Hid (R=lexC (a.drop (k+1)) (b.drop (k+1))):=by show _=_;rw[av.o,if_neg h1,if_neg h2]
      rw[hc]at HC;go_wp2_with (go_at_call 165;go_must(refine(HC.o _).mono ?_);rintro e wq ⟨rfl,rfl⟩)
      go_round
      case rel=>exact⟨k+1,am.o,qB.o,by go_num,by first|exact True.intro|rfl,bz.o⟩
      case measure=>have:=am.o;simp only[intOf];omega
   ·have xe:(b.length:Int)<=(k:Int):=Mcn;have hx:=HX.o;rw[List.drop_eq_getElem_cons aa,show b.drop k=[]from List.drop_eq_nil_of_le Mcn,lexC]at hx;have bz:Hid (R=1):=hx;clear hx c1;go_wp2_with fail
    exact Ma4
  ·have ar: ¬(k:Int)<(a.length:Int):=Mcn;have hx:=HX.o;rw[show a.drop k=[]from List.drop_eq_nil_of_le Mcn]at hx;by_cases bE:k<b.length
   ·have cG:(a.length:Int)<(b.length:Int):=Mcn;rw[List.drop_eq_getElem_cons bE,lexC]at hx;have bz:Hid (R= -1):=hx;clear hx;go_wp2_with fail
    exact Ma4
   ·have cG: ¬(a.length:Int)<(b.length:Int):=Mcn;rw[show b.drop k=[]from List.drop_eq_nil_of_le Mcn,lexC]at hx;have bz:Hid (R=0):=hx;clear hx;go_wp2_with fail
    exact Ma4
structure DV where
 d:Deed
 B:Option Addr
 c:Nat
def DV.cells (x:DV):List Value:=[.int .i64 x.d.kind, .int .i64 x.d.day, .string x.d.place, .string x.d.frm, .slice x.B x.d.to.length x.c, .int .i64 x.d.cls, .int .i64 x.d.years]
theorem zb0 (x:DV):x.cells.length=7:=rfl
theorem zeV (x:DV): ∀u∈x.cells,u.oneCell'=true:=by simp[DV.cells,Value.oneCell']
theorem zjP (x:RPart):x.cells.length=3:=rfl
theorem rp_one (x:RPart): ∀u∈x.cells,u.oneCell'=true:=by simp[RPart.cells,Value.oneCell']
theorem lw_one (x:Law): ∀u∈x.cells,u.oneCell'=true:=by simp[Law.cells,Value.oneCell']
theorem elRPart:ElTy Tryz.prog 39 75 3 32:=zd6 (z:= .agg #[.string ⟨#[]⟩, .int .i64 0, .int .i64 0]) Mco Mco rfl Mcp
theorem elLaw:ElTy Tryz.prog 22 130 4 32:=zd6 (z:= .agg #[.int .i64 0, .bool false, .int .i64 0, .int .i64 0]) Mco Mco rfl Mcp
theorem zeW:ElTy Tryz.prog 23 52 7 88:=zd6 (z:= .agg #[.int .i64 0, .int .i64 0, .string ⟨#[]⟩, .string ⟨#[]⟩, .slice none 0 0, .int .i64 0, .int .i64 0]) Mco Mco rfl Mcp
theorem made_part (W:World):OwnS (W.alloc (.cells #[] 75)) W.heap.size 75 3 RPart.cells (.slice (some ⟨W.heap.size,0,none⟩) 0 0) []:=
 OwnS.of_own zjP (World.ownsRow_made W #[] 0 (Nat.le_refl _) (Nat.zero_le _) Mcq)
theorem made_law (W:World):OwnS (W.alloc (.cells #[] 130)) W.heap.size 130 4 Law.cells (.slice (some ⟨W.heap.size,0,none⟩) 0 0) []:=
 OwnS.of_own (fun _=>rfl) (World.ownsRow_made W #[] 0 (Nat.le_refl _) (Nat.zero_le _) Mcq)
theorem zc0 {w:World} {g:Nat} {z0 z1 z2 z3 z4 z5 z6 a b c d e f h':Value} {t:TypeId} {fr:Nat×Nat} (h:w.heap[g]?=some (.cells #[z0,z1,z2,z3,z4,z5,z6] t fr)):
 (((((((w.setCell ⟨g,0,none⟩ a).setCell ⟨g,1,none⟩ b).setCell ⟨g,2,none⟩ c).setCell ⟨g,3,none⟩ d).setCell ⟨g,4,none⟩ e).setCell ⟨g,5,none⟩ f).setCell ⟨g,6,none⟩ h').heap[g]?=some (.cells #[a,b,c,d,e,f,h'] t fr):=by
 have:=Joins.block_setCell (i:=6) (Joins.block_setCell (i:=5) (Joins.block_setCell (i:=4) (Joins.block_setCell (i:=3) (Joins.block_setCell (i:=2) (Joins.block_setCell (i:=1) (Joins.block_setCell (i:=0) h a) b) c) d) e) f) h';simpa using this
theorem zlG {fn:Func} {p:Tmp} (h:fn.results= #[.cell p 52]) (tmps:Array Value) (w:World) (B:Nat) (x0 x1 x2 x3 x4 x5 x6:Value) (hp:tmps.getD p undef= .pointer (some ⟨B,0,none⟩))
 (hx:w.heap[B]?=some (.cells #[x0,x1,x2,x3,x4,x5,x6] 52)):(results fn tmps).run Tryz.prog w= .ok (.agg #[x0,x1,x2,x3,x4,x5,x6]) w:=by
 obtain⟨h0,h1,h2,h3,h4,h5,h6⟩:=cF7 hx;exact Ma5
def zhT (w:World) (d:Deed) (e:Ending) (w':World):Prop:=
 ∃B c,e= .returned (d.v B c)/\d.to.length<=c/\Ro w' 75 RPart.cells B d.to/\Below w.heap.size w w'
theorem deed_any (d:Deed) (B:Option Addr) (c:Nat) (w:World) (hl:d.to.length<=100000) (hS:Sl w 3 RPart.cells B d.to):Calls Tryz.prog 35 #[d.v B c] w (zhT w d):=by
 obtain⟨kd,dy,pl,fr,ts,cl,yr⟩:=d;have HS:=zHi hS;unfold zhT Deed.v;simp only at hl hS⊢;clear hS;go_enter Tryz.func35,Tryz.ntmps35
 go_upto_region 1 with fail
 obtain⟨W1,aM⟩: ∃W1,W1=(w.alloc (.cells #[.int .i64 kd, .int .i64 dy, .string pl, .string fr, .slice B ts.length c, .int .i64 cl, .int .i64 yr] 52)).alloc (.cells #[.int .i64 0, .int .i64 0, .string ⟨#[]⟩, .string ⟨#[]⟩, .slice none 0 0, .int .i64 0, .int .i64 0] 52):=⟨_,rfl⟩
 have b0:W1.heap[w.heap.size]?=some (.cells #[.int .i64 kd, .int .i64 dy, .string pl, .string fr, .slice B ts.length c, .int .i64 cl, .int .i64 yr] 52):=MdK;have r0:W1.heap[w.heap.size+1]?=some (.cells #[.int .i64 0, .int .i64 0, .string ⟨#[]⟩, .string ⟨#[]⟩, .slice none 0 0, .int .i64 0, .int .i64 0] 52):=by rw[aM];exact zar _ _ _ Mcq
 have bY:Below w.heap.size w W1:=Md3;rw[<-aM];have aA:=zHi bY;clear aM bY;have l0:=zab b0;have l1:=zab r0;obtain⟨-,-,-,-,c4⟩:=cF5 b0;have aU:w.heap.size+1+1<=W1.heap.size:=Mcn;have cM:=zHi aU;clear aU
 go_upto_region 2 with(at_builtin
                       go_loud(refine za1 (v:= .slice (some ⟨W1.heap.size,0,none⟩) 0 0) (n:=0) (m:=ts.length) rfl _ _ rfl elRPart zjP rp_one rfl (xs:=[]) (ys:=ts) (made_part W1) rfl rfl rfl (HS.o.keep (aA.o.trans (Below.mono (B:=W1.heap.size) Bw aA.o.size))) McW Mcn Mcq ?_)
                       intro v2 w2 h1 h2 h3;rw[List.nil_append]at h1;have e1:w2.heap[w.heap.size]?=_:=(h2.block w.heap.size Mcr MdD).trans (zal b0);have e2:w2.heap[w.heap.size+1]?=_:=(h2.block (w.heap.size+1) Mcr MdD).trans (zal r0);have bn:Below W1.heap.size W1 w2:=Below.grown (zad (Below.refl _ _) _) h2 Mcq Mc1;obtain⟨A2,c2,rfl,cr,s2⟩:=h1.ro;have f4:w2.frozen? ⟨w.heap.size,4,none⟩=false:=by simp[World.frozen?,e1]
                       obtain⟨-,-,-,-,k4⟩:=cF5 e1
                       clear h1 h2 h3)
 exact Mu
theorem own_neC {α:Type} {W:World} {base:Nat} {e t:TypeId} {size:Nat} {f:α->List Value} {v:Value} {xs:List α} {T:Nat} {cs:Array Value} {fr:Nat×Nat} (h:OwnS W base e size f v xs) (hT:W.heap[T]?=some (.cells cs t fr)) (ai:t≠e):zaA v≠some T:=by
 exact M4
theorem zhU {α β:Type} {W W':World} {base size:Nat} {e e':TypeId} {f:α->List Value} {g:β->List Value} {v:Value} {A:Option Addr} {xs:List α} {ys:List β} (h:Ro W e' f A xs) (ae:OwnS W base e size g v ys) (hg:W.grownBy W' (zaA v)) (ai:e'≠e):Ro W' e' f A xs:=
 h.same fun b cur fr hb _=>hg.block b (zab hb) (Ne.symm (own_neC ae hb ai))
theorem zfr {α:Type} {w:World} {b size:Nat} {f:α->List Value} {t:TypeId} {fr:Nat×Nat} {cs:Array Value} {xs:List α} (ag: ∀x,(f x).length=size) (h:w.heap[b]?=some (.cells cs t fr)) (hc:xs.flatMap f=cs.toList):Sl w size f (some ⟨b,0,none⟩) xs:=fun _=>
 ⟨b,0,rfl,zab h,fun k x hk j u hu=>by
   have:=zeY f size ag xs k x hk j u hu;rw[hc]at this;simp only[World.cell?,h,Nat.zero_add]
   simpa using this⟩
theorem ziI {fn:Func} {p:Tmp} (h:fn.results= #[.cell p 25]) (tmps:Array Value) (w:World) (B:Nat) (x0 x1:Value) (hp:tmps.getD p undef= .pointer (some ⟨B,0,none⟩))
 (hx:w.heap[B]?=some (.cells #[x0,x1] 25)):(results fn tmps).run Tryz.prog w= .ok (.agg #[x0,x1]) w:=by
 obtain⟨h0,h1⟩:=cF2 hx;exact Ma5
theorem slw_of {W:World} {A:Option Addr} {xs:List DV} {ds:List Deed} (h:Sl W 7 DV.cells A xs) (hm:xs.map (·.d)=ds) (hp: ∀x∈xs,x.d.to.length<=x.c/\Sl W 3 RPart.cells x.B x.d.to):SlW W 7 zfc A ds:=fun hl=>by
 subst hm;obtain⟨b,off,hA,hb,hc⟩:=h (by simpa using hl);refine⟨b,off,hA,hb,fun k x hk=> ?_⟩;rw[List.getElem?_map]at hk;obtain⟨y,hy,rfl⟩:=Option.map_eq_some_iff.1 hk;have:=hp y (List.mem_of_getElem? hy);exact⟨y.cells,⟨y.B,y.c,this.1,rfl,this.2⟩,fun j u hu=>hc k y hy j u hu⟩
end Go.Proofs.YtjhbofabmpfniaaGreatDoor
