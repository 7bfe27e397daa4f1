import Derived.Test.YtbobmplpdmplkaaGreatDoorRB
import Derived.Test.YtbobmplpdmplkaaGreatDoorJH
set_option linter.all false
set_option maxRecDepth 100000
set_option maxHeartbeats 4000000
namespace Go.Proofs.YtbobmplpdmplkaaGreatDoor
open Go.RowKit
attribute [local go_sem] World.cell?_alloc_mark zaf za4 zam za7 zaw zax zay zaz za0 za1 za2
attribute [local go_sem] zan zac
theorem zf1{out:Parts}{t f:Rat}{n:ByteArray}{fl:Bool}(h:Bd out t)(hf:0<=f):Bd (zcR n f (out,fl)).1 (t+f):=h.set n hf
theorem Bd.up6{out:Parts}{t u:Rat}(h:Bd out t)(hu:t<=u):Bd out u:=⟨h.good,h.small,Rat.le_trans h.le hu⟩
theorem zku{part:Rat}(hp:0<=part)(n:Nat):zbg (part*(1/(n:Rat)))*(n:Rat)<=part:=by
 have h1:=zgV (ze7 hp n);by_cases hn:n=0
 ·subst hn;have:((0:Nat):Rat)=0:=rfl;rw[this,Rat.mul_zero];exact hp
 ·have tZ:(n:Rat)≠0:=by
   have:=ratI (n:=(n:Int)) Mcy;rwa [Rat.intCast_natCast]at this
  have h2:part*(1/(n:Rat))*(n:Rat)=part:=by
   rw[zkm];exact Rat.div_mul_cancel tZ
  have h3:=Rat.mul_le_mul_of_nonneg_right h1 (Rat.natCast_nonneg (a:=n));rw[h2]at h3;exact h3
theorem zgu(n:Nat):((n+1:Nat):Rat)=(n:Rat)+1:=by
 rw[Rat.natCast_add];rfl
mutual
theorem zhG{part:Rat}(hp:0<=part):∀ {l:List Tree} {out:Parts} {fl:Bool} {t:Rat},Bd out t->Bd (zbL part l (out,fl)).1 (t+part*(l.length:Rat))
 | [],out,fl,t,h=>by
   rw[zbL];have e:((([]:List Tree).length:Nat):Rat)=0:=rfl;rw[e,Rat.mul_zero,Rat.add_zero];exact h
 |x::l,out,fl,t,h=>by
  rw[zbL];have h1:=zhG hp (l:=l) (fl:=(zdM part x (out,fl)).2) (tree_bd hp (t':=x) (fl:=fl) h);rw[List.length_cons,zgu];exact h1.up6 Mc0
theorem tree_bd{part:Rat}(hp:0<=part):∀ {t':Tree} {out:Parts} {fl:Bool} {t:Rat},Bd out t->Bd (zdM part t' (out,fl)).1 (t+part)
 | .leaf n,out,fl,t,h=>by
   rw[zdM];exact zf1 h hp
 | .node l,out,fl,t,h=>by
   rw[zdM];have h1:=zhG (zcu (ze7 hp l.length)) (l:=l) (fl:=fl||bigQ (part*(1/(l.length:Rat)))) h;have h2:=zku hp l.length;exact h1.up6 Mc0
end
def WideN:Nat->List Tree->Prop
 |0,l=>l=[]
 |f+1,l=>l.length<=1000/\∀l',Tree.node l'∈l->WideN f l'
theorem zjD{s:St}{stems:Bool}{frm:ByteArray}(hl:s.children.length<=1000):∀(f:Nat) (n:ByteArray),WideN f (zb2 s stems frm f n)
 |0,_=>rfl
 |f+1,n=>by
  refine⟨?_,fun l' hm=>?_⟩
  ·unfold zb2;refine Nat.le_trans (List.length_filterMap_le _ _) ?_;exact Mbg
  ·unfold zb2 at hm;obtain⟨c,_,hc⟩:=List.mem_filterMap.1 hm;split at hc
   ·simp at hc
   ·split at hc
    ·simp only[Option.some.injEq,Tree.node.injEq]at hc;rw[<-hc];exact zjD hl f c
    ·cases hc
theorem zhH{n:Nat}(h:0<n):((1:Rat)/(n:Rat)).num=1/\(((1:Rat)/(n:Rat)).den:Int)=n/\0<=(1:Rat)/(n:Rat)/\(1:Rat)/(n:Rat)<=1:=by
 have hs:za8 (n:Int) 1 (n:Int)=true:=by
  unfold za8;simp;omega
 have:=zbm hs;rw[Rat.divInt_eq_div,Rat.intCast_natCast]at this;exact this
theorem zlw{n:Nat}(h:0<n)(h1:n<=1000):zaI ((1:Rat)/(n:Rat)):=by
 obtain⟨h2,h3,h4,h5⟩:=zhH h;exact zbZ h4 h5 (by unfold bigQ;rw[h3];simp;omega)
theorem part_ok{q:Rat}(h0:0<=q)(h1:q<=1){n:Nat}(hn:0<n):0<=zbg (q*(1/(n:Rat)))/\zbg (q*(1/(n:Rat)))<=1/\zaI (zbg (q*(1/(n:Rat))))/\zbg (q*(1/(n:Rat)))*(n:Rat)<=q:=by
 have h2:=zcu (ze7 h0 n);have h3:=zku h0 n;have h4:zbg (q*(1/(n:Rat)))<=zbg (q*(1/(n:Rat)))*(n:Rat):=by
  have h5:(1:Rat)<=(n:Rat):=by
   have:((1:Nat):Rat)<=(n:Rat):=Rat.natCast_le_natCast.2 hn;exact this
  have:=Rat.mul_le_mul_of_nonneg_left h5 h2;rwa [Rat.mul_one]at this
 have h6:zbg (q*(1/(n:Rat)))<=1:=Rat.le_trans h4 (Rat.le_trans h3 h1);exact⟨h2,h6,zbZ h2 h6 (zgk _),h3⟩
theorem take_le{part:Rat}(hp:0<=part){k n:Nat}(h:k<=n):part*(k:Rat)<=part*(n:Rat):=
 Rat.mul_le_mul_of_nonneg_left (Rat.natCast_le_natCast.2 h) hp
theorem zmD(part:Rat)(l:List Tree)(x:Parts×Bool){k:Nat}(h:k<l.length):zbL part (l.take (k+1)) x=zdM part l[k] (zbL part (l.take k) x):=by
 rw[List.take_succ_eq_append_getElem h,zgl,zbL,zbL]
open Go.Shelf
def recLens(l:List Rec):Prop:= ∀x∈l,x.name.size<=100000/\x.other.size<=100000/\x.place.size<=100000
theorem zh1(l:List Rec)(A:Option Addr)(n c:Nat)(w:World)(hn:n=l.length)(hc:n<=c)(hz:recLens l)(hS:Sl w 8 Rec.cells A l):Calls Tryz.prog 53 #[.slice A n c] w (Ret w (.int .i64 (zfq l))):=by
 subst hn;have HS:=zHi hS;obtain⟨R,hR⟩:∃R,R=zfq l:=⟨_,rfl⟩
 rw[<-hR];unfold zfq at hR;by_cases zg:40<l.length
 ·rw[if_pos (by simpa using zg)]at hR;subst hR;have h4:(40:Int)<(l.length:Int):=Mcy;clear hS;go_enter Tryz.func53,Tryz.ntmps53
  exact Man
 ·rw[if_neg (by simpa using zg)]at hR;have h4:¬(40:Int)<(l.length:Int):=Mcy;have HR:=zHi hR;clear hS hR;go_enter Tryz.func53,Tryz.ntmps53
  go_wp2_with fail
  go_loopw [11] (fun i wr=>∃k:Nat,k<=l.length/\i=.int .i64 k/\Hid (R=zfY zcs (l.drop k))/\Below w.heap.size w wr) (fun i _=>l.length-(intOf i).toNat)
  case atStart=>exact⟨0,Nat.zero_le _,rfl,by show _=_;rw[HR.o,List.drop_zero],Below.refl _ _⟩
  case round=>
   obtain⟨k,hk,rfl,HX,hB⟩:=hrel;have HB:=zHi hB;by_cases ae:k<l.length
   ·obtain⟨b,off,rfl,hb,ah⟩:=(HS.o.keep hB).at ae;have hx:=HX.o;rw[List.drop_eq_getElem_cons ae,zfY]at hx;obtain⟨z1,z2,z3⟩:=hz l[k] (List.getElem_mem ae);have hck:=fun W=>zi6 l[k] W z1 z2 z3
    generalize l[k]=x at*;obtain⟨au,iC,ak⟩:=yH3 hx hck ae;unfold Rec.v at iC;generalize zcs x=er at*;obtain⟨kd,nm,ot,pl,dy,tl,nu,de⟩:=x;have i0:wr.cell? ⟨b,off+k*8,none⟩=some (.int .i64 kd):=ah 0 _ rfl;have i1:wr.cell? ⟨b,off+k*8+1,none⟩=some (.string nm):=ah 1 _ rfl;have i2:wr.cell? ⟨b,off+k*8+2,none⟩=some (.string ot):=ah 2 _ rfl;have i3:wr.cell? ⟨b,off+k*8+3,none⟩=some (.string pl):=ah 3 _ rfl;have i4:wr.cell? ⟨b,off+k*8+4,none⟩=some (.int .i64 dy):=ah 4 _ rfl;have i5:wr.cell? ⟨b,off+k*8+5,none⟩=some (.int .i64 tl):=ah 5 _ rfl;have i6:wr.cell? ⟨b,off+k*8+6,none⟩=some (.int .i64 nu):=ah 6 _ rfl;have i7:wr.cell? ⟨b,off+k*8+7,none⟩=some (.int .i64 de):=ah 7 _ rfl;have ar:(k:Int)<(l.length:Int):=Mcy;have aQ:(0:Int)<=(k:Int):=Mcy;have fq:(k:Int)<=(c:Int):=Mcy;have aG:=hB.size;clear ah hx hck HX hB;by_cases h0:er=0
    ·subst h0;go_wp2_with (go_at_call 78;go_must(refine(iC.o _).mono ?_);rintro e wq ⟨rfl,z,rfl⟩)
     go_round
     case rel=>exact⟨k+1,ak.o,by go_num,by show _=_;rw[au.o];rfl,HB.o.trans (Below.mono (B:=wr.heap.size) Bw aG)⟩
     case measure=>have:=ak.o;simp only[intOf];omega
    ·have ck:Hid (R=er):=by show _=_;rw[au.o,if_pos MdC]
     go_wp2_with (go_at_call 78;go_must(refine(iC.o _).mono ?_);rintro e wq ⟨rfl,z,rfl⟩)
     go_ret
     exact Ret.of (zb5 ck.o.symm) (HB.o.trans (Below.mono (B:=wr.heap.size) Bw aG))
   ·have ar:¬(k:Int)<(l.length:Int):=Mcy;have hx:=HX.o;rw[List.drop_eq_nil_of_le Mcy,zfY]at hx;have ck:Hid (R=0):=hx;clear hx hB;go_wp2_with fail
    go_ret
    exact Ret.of (zb5 ck.o.symm) HB.o
structure DV where
 d:Deed
 B:Option Addr
 c:Nat
def DV.cells(x:DV):List Value:=[.int .i64 x.d.kind,.int .i64 x.d.day,.string x.d.place,.string x.d.frm,.slice x.B x.d.to.length x.c,.int .i64 x.d.cls,.int .i64 x.d.years]
theorem zcf(x:DV):x.cells.length=7:=rfl
theorem zgv(x:DV):∀u∈x.cells,u.oneCell'=true:=by simp[DV.cells,Value.oneCell']
theorem rp_len(x:RPart):x.cells.length=3:=rfl
theorem rp_one(x:RPart):∀u∈x.cells,u.oneCell'=true:=by simp[RPart.cells,Value.oneCell']
theorem lw_one(x:Law):∀u∈x.cells,u.oneCell'=true:=by simp[Law.cells,Value.oneCell']
theorem elRPart:ElTy Tryz.prog 48 71 3 32:=zd4 (z:=.agg #[.string ⟨#[]⟩,.int .i64 0,.int .i64 0]) Mcz Mcz rfl McA
theorem elLaw:ElTy Tryz.prog 22 109 4 32:=zd4 (z:=.agg #[.int .i64 0,.bool false,.int .i64 0,.int .i64 0]) Mcz Mcz rfl McA
theorem zgw:ElTy Tryz.prog 23 76 7 88:=zd4 (z:=.agg #[.int .i64 0,.int .i64 0,.string ⟨#[]⟩,.string ⟨#[]⟩,.slice none 0 0,.int .i64 0,.int .i64 0]) Mcz Mcz rfl McA
theorem made_part(W:World):OwnS (W.alloc (.cells #[] 71)) W.heap.size 71 3 RPart.cells (.slice (some ⟨W.heap.size,0,none⟩) 0 0) []:=
 OwnS.of_own rp_len (World.ownsRow_made W #[] 0 (Nat.le_refl _) (Nat.zero_le _) McB)
theorem made_law(W:World):OwnS (W.alloc (.cells #[] 109)) W.heap.size 109 4 Law.cells (.slice (some ⟨W.heap.size,0,none⟩) 0 0) []:=
 OwnS.of_own (fun _=>rfl) (World.ownsRow_made W #[] 0 (Nat.le_refl _) (Nat.zero_le _) McB)
theorem zcy{w:World}{g:Nat}{z0 z1 z2 z3 z4 z5 z6 a b c d e f h':Value}{t:TypeId}{fr:Nat×Nat}(h:w.heap[g]?=some (.cells #[z0,z1,z2,z3,z4,z5,z6] t fr)):
 (((((((w.setCell ⟨g,0,none⟩ a).setCell ⟨g,1,none⟩ b).setCell ⟨g,2,none⟩ c).setCell ⟨g,3,none⟩ d).setCell ⟨g,4,none⟩ e).setCell ⟨g,5,none⟩ f).setCell ⟨g,6,none⟩ h').heap[g]?=some (.cells #[a,b,c,d,e,f,h'] t fr):=by
 have:=Joins.block_setCell (i:=6) (Joins.block_setCell (i:=5) (Joins.block_setCell (i:=4) (Joins.block_setCell (i:=3) (Joins.block_setCell (i:=2) (Joins.block_setCell (i:=1) (Joins.block_setCell (i:=0) h a) b) c) d) e) f) h';simpa using this
theorem zlx{fn:Func}{p:Tmp}(h:fn.results= #[.cell p 76])(tmps:Array Value)(w:World)(B:Nat)(x0 x1 x2 x3 x4 x5 x6:Value)(hp:tmps.getD p undef=.pointer (some ⟨B,0,none⟩))
 (hx:w.heap[B]?=some (.cells #[x0,x1,x2,x3,x4,x5,x6] 76)):(results fn tmps).run Tryz.prog w=.ok (.agg #[x0,x1,x2,x3,x4,x5,x6]) w:=by
 obtain⟨h0,h1,h2,h3,h4,h5,h6⟩:=cF7 hx;exact Ma5
def znO(w:World)(d:Deed)(e:Ending)(w':World):Prop:=
 ∃B c,e=.returned (d.v B c)/\d.to.length<=c/\Ro w' 71 RPart.cells B d.to/\Below w.heap.size w w'
theorem deed_any(d:Deed)(B:Option Addr)(c:Nat)(w:World)(hl:d.to.length<=100000)(hS:Sl w 3 RPart.cells B d.to):Calls Tryz.prog 33 #[d.v B c] w (znO w d):=by
 obtain⟨kd,dy,pl,fr,ts,cl,yr⟩:=d;have HS:=zHi hS;unfold znO Deed.v;simp only at hl hS⊢;clear hS;go_enter Tryz.func33,Tryz.ntmps33
 go_upto_region 1 with fail
 obtain⟨W1,aT⟩:∃W1,W1=(w.alloc (.cells #[.int .i64 kd,.int .i64 dy,.string pl,.string fr,.slice B ts.length c,.int .i64 cl,.int .i64 yr] 76)).alloc (.cells #[.int .i64 0,.int .i64 0,.string ⟨#[]⟩,.string ⟨#[]⟩,.slice none 0 0,.int .i64 0,.int .i64 0] 76):=⟨_,rfl⟩
 have b0:W1.heap[w.heap.size]?=some (.cells #[.int .i64 kd,.int .i64 dy,.string pl,.string fr,.slice B ts.length c,.int .i64 cl,.int .i64 yr] 76):=by rw[aT];exact zal (zar _ _ _ rfl)
 have r0:W1.heap[w.heap.size+1]?=some (.cells #[.int .i64 0,.int .i64 0,.string ⟨#[]⟩,.string ⟨#[]⟩,.slice none 0 0,.int .i64 0,.int .i64 0] 76):=by rw[aT];exact zar _ _ _ McB
 have cu:Below w.heap.size w W1:=by rw[aT];exact Bw
 rw[<-aT];have aA:=zHi cu;clear aT cu;have l0:=zab b0;have l1:=zab r0;obtain⟨-,-,-,-,c4⟩:=cF5 b0;have bz:w.heap.size+1+1<=W1.heap.size:=Mcy;have ew:=zHi bz;clear bz
 go_upto_region 2 with(at_builtin
                       go_loud(refine zat (v:=.slice (some ⟨W1.heap.size,0,none⟩) 0 0) (n:=0) (m:=ts.length) rfl _ _ rfl elRPart rp_len rp_one rfl (xs:=[]) (ys:=ts) (made_part W1) rfl rfl rfl (HS.o.keep (aA.o.trans (Below.mono (B:=W1.heap.size) Bw aA.o.size))) Mc6 Mcy McB ?_)
                       intro v2 w2 h1 h2 h3;rw[List.nil_append]at h1;have e1:w2.heap[w.heap.size]?=_:=(h2.block w.heap.size McD MdL).trans (zal b0);have e2:w2.heap[w.heap.size+1]?=_:=(h2.block (w.heap.size+1) McD MdL).trans (zal r0);have bs:Below W1.heap.size W1 w2:=Below.grown (zad (Below.refl _ _) _) h2 McB Mdc;obtain⟨A2,c2,rfl,cx,s2⟩:=h1.ro;have f4:w2.frozen? ⟨w.heap.size,4,none⟩=false:=by simp[World.frozen?,e1]
                       obtain⟨-,-,-,-,k4⟩:=cF5 e1
                       clear h1 h2 h3)
 have qF:=zHi (cx);obtain⟨W3,aY⟩:∃W3,W3=w2.setCell ⟨w.heap.size,4,none⟩ (.slice A2 ts.length c2):=⟨_,rfl⟩
 have b3:W3.heap[w.heap.size]?=some (.cells #[.int .i64 kd,.int .i64 dy,.string pl,.string fr,.slice A2 ts.length c2,.int .i64 cl,.int .i64 yr] 76):=by
  rw[aY];have:=Joins.block_setCell (i:=4) e1 (.slice A2 ts.length c2);simpa using this
 have r3:W3.heap[w.heap.size+1]?=some (.cells #[.int .i64 0,.int .i64 0,.string ⟨#[]⟩,.string ⟨#[]⟩,.slice none 0 0,.int .i64 0,.int .i64 0] 76):=by rw[aY];exact J_ne Mcy e2
 have s3:Ro W3 71 RPart.cells A2 ts:=by rw[aY];exact s2.kept (zav _ _ _ _) e1 McA
 have dS:Below w.heap.size w W3:=by rw[aY];exact zaP (aA.o.trans (bs.mono aA.o.size)) McB _
 rw[<-aY];obtain⟨S3,aD⟩:=yH2 s3 dS;clear aY dS s3 s2 e1 e2 f4 k4 bs b0 r0 c4 l0 l1;obtain⟨g0,g1,g2,g3,g4,g5,g6⟩:=cF7 b3;obtain⟨t0,t1,t2,t3,t4,t5,t6⟩:=cF7 r3;have f0:∀j,W3.frozen? ⟨w.heap.size+1,j,none⟩=false:=fun j=>by simp[World.frozen?,r3]
 go_wp2_with fail
 refine bodyPost_ret (v:=.agg #[.int .i64 kd,.int .i64 dy,.string pl,.string fr,.slice A2 ts.length c2,.int .i64 cl,.int .i64 yr]) ?_ rfl ?_
 ·exact zlx rfl _ _ (w.heap.size+1) _ _ _ _ _ _ _ rfl (zcy r3)
 ·exact⟨A2,c2,rfl,cx,(((((((S3.o.kept (zav _ _ _ _) r3 McA).kept (zav _ _ _ _) (Joins.block_setCell (i:=0) r3 _) McA).kept (zav _ _ _ _) (Joins.block_setCell (i:=1) (Joins.block_setCell (i:=0) r3 _) _) McA).kept (zav _ _ _ _) (Joins.block_setCell (i:=2) (Joins.block_setCell (i:=1) (Joins.block_setCell (i:=0) r3 _) _) _) McA).kept (zav _ _ _ _) (Joins.block_setCell (i:=3) (Joins.block_setCell (i:=2) (Joins.block_setCell (i:=1) (Joins.block_setCell (i:=0) r3 _) _) _) _) McA).kept (zav _ _ _ _) (Joins.block_setCell (i:=4) (Joins.block_setCell (i:=3) (Joins.block_setCell (i:=2) (Joins.block_setCell (i:=1) (Joins.block_setCell (i:=0) r3 _) _) _) _) _) McA).kept (zav _ _ _ _) (Joins.block_setCell (i:=5) (Joins.block_setCell (i:=4) (Joins.block_setCell (i:=3) (Joins.block_setCell (i:=2) (Joins.block_setCell (i:=1) (Joins.block_setCell (i:=0) r3 _) _) _) _) _) _) McA),zaP (zaP (zaP (zaP (zaP (zaP (zaP aD.o McB _) McB _) McB _) McB _) McB _) McB _) McB _⟩
theorem own_neC{α:Type}{W:World}{base:Nat}{e t:TypeId}{size:Nat}{f:α->List Value}{v:Value}{xs:List α}{T:Nat}{cs:Array Value}{fr:Nat×Nat}(h:OwnS W base e size f v xs)(hT:W.heap[T]?=some (.cells cs t fr))(ai:t≠e):za5 v≠some T:=by
 exact MY
theorem znP{α β:Type}{W W':World}{base size:Nat}{e e':TypeId}{f:α->List Value}{g:β->List Value}{v:Value}{A:Option Addr}{xs:List α}{ys:List β}(h:Ro W e' f A xs)(aa:OwnS W base e size g v ys)(hg:W.grownBy W' (za5 v))(ai:e'≠e):Ro W' e' f A xs:=
 h.same fun b cur fr hb _=>hg.block b (zab hb) (Ne.symm (own_neC aa hb ai))
theorem zi7{α:Type}{w:World}{b size:Nat}{f:α->List Value}{t:TypeId}{fr:Nat×Nat}{cs:Array Value}{xs:List α}(ag:∀x,(f x).length=size)(h:w.heap[b]?=some (.cells cs t fr))(hc:xs.flatMap f=cs.toList):Sl w size f (some ⟨b,0,none⟩) xs:=fun _=>
 ⟨b,0,rfl,zab h,fun k x hk j u hu=>by
   have:=zeO f size ag xs k x hk j u hu;rw[hc]at this;simp only[World.cell?,h,Nat.zero_add]
   simpa using this⟩
theorem zi8{fn:Func}{p:Tmp}(h:fn.results= #[.cell p 25])(tmps:Array Value)(w:World)(B:Nat)(x0 x1:Value)(hp:tmps.getD p undef=.pointer (some ⟨B,0,none⟩))
 (hx:w.heap[B]?=some (.cells #[x0,x1] 25)):(results fn tmps).run Tryz.prog w=.ok (.agg #[x0,x1]) w:=by
 obtain⟨h0,h1⟩:=cF2 hx;exact Ma5
theorem slw_of{W:World}{A:Option Addr}{xs:List DV}{ds:List Deed}(h:Sl W 7 DV.cells A xs)(hm:xs.map (·.d)=ds)(hp:∀x∈xs,x.d.to.length<=x.c/\Sl W 3 RPart.cells x.B x.d.to):SlW W 7 zf9 A ds:=fun hl=>by
 subst hm;obtain⟨b,off,hA,hb,hc⟩:=h (by simpa using hl);refine⟨b,off,hA,hb,fun k x hk=>?_⟩;rw[List.getElem?_map]at hk;obtain⟨y,hy,rfl⟩:=Option.map_eq_some_iff.1 hk;have:=hp y (List.mem_of_getElem? hy);exact⟨y.cells,⟨y.B,y.c,this.1,rfl,this.2⟩,fun j u hu=>hc k y hy j u hu⟩
