import Derived.Test.YtcfheecahnnhjaaGreatDoorRB
import Derived.Test.YtcfheecahnnhjaaGreatDoorJH
set_option linter.all false
set_option maxRecDepth 100000
set_option maxHeartbeats 4000000
namespace Go.Proofs.YtcfheecahnnhjaaGreatDoor
open Go.RowKit Go.Shelf
attribute [local go_sem] World.cell?_alloc_mark zag za4 zar zaB zaw zax zay zaz za0 za1 za2
attribute [local go_sem] zas zad
def recLens(l:List Rec):Prop:= ∀x∈l,x.name.size<=100000/\x.other.size<=100000/\x.place.size<=100000
theorem zh7(l:List Rec)(A:Option Addr)(n c:Nat)(w:World)(hn:n=l.length)(hc:n<=c)(hz:recLens l)(hS:Sl w 8 Rec.cells A l):Calls Tryz.prog 42 #[.slice A n c] w (Ret w (.int .i64 (zfx l))):=by
 subst hn;have HS:=zHi hS;obtain⟨R,hR⟩:∃R,R=zfx l:=⟨_,rfl⟩
 rw[<-hR];unfold zfx at hR;by_cases zX:40<l.length
 ·rw[if_pos (by simpa using zX)]at hR;subst hR;have h4:(40:Int)<(l.length:Int):=Mcu;clear hS;go_enter Tryz.func42,Tryz.ntmps42
  exact Mao
 ·rw[if_neg (by simpa using zX)]at hR;have h4:¬(40:Int)<(l.length:Int):=Mcu;have HR:=zHi hR;clear hS hR;go_enter Tryz.func42,Tryz.ntmps42
  go_wp2_with fail
  go_loopw [11] (fun i wr=>∃k:Nat,k<=l.length/\i=.int .i64 k/\Hid (R=zge zcx (l.drop k))/\Below w.heap.size w wr) (fun i _=>l.length-(intOf i).toNat)
  case atStart=>exact⟨0,Nat.zero_le _,rfl,by show _=_;rw[HR.o,List.drop_zero],Below.refl _ _⟩
  case round=>
   obtain⟨k,hk,rfl,HX,hB⟩:=hrel;have HB:=zHi hB;by_cases ae:k<l.length
   ·obtain⟨b,off,rfl,hb,ah⟩:=(HS.o.keep hB).at ae;have hx:=HX.o;rw[List.drop_eq_getElem_cons ae,zge]at hx;obtain⟨z1,z2,z3⟩:=hz l[k] (List.getElem_mem ae);have hck:=fun W=>ziC l[k] W z1 z2 z3
    generalize l[k]=x at*;obtain⟨av,lH,am⟩:=yH3 hx hck ae;unfold Rec.v at lH;generalize zcx x=er at*;obtain⟨kd,nm,ot,pl,dy,tl,nu,de⟩:=x;have i0:wr.cell? ⟨b,off+k*8,none⟩=some (.int .i64 kd):=ah 0 _ rfl;have i1:wr.cell? ⟨b,off+k*8+1,none⟩=some (.string nm):=ah 1 _ rfl;have i2:wr.cell? ⟨b,off+k*8+2,none⟩=some (.string ot):=ah 2 _ rfl;have i3:wr.cell? ⟨b,off+k*8+3,none⟩=some (.string pl):=ah 3 _ rfl;have i4:wr.cell? ⟨b,off+k*8+4,none⟩=some (.int .i64 dy):=ah 4 _ rfl;have i5:wr.cell? ⟨b,off+k*8+5,none⟩=some (.int .i64 tl):=ah 5 _ rfl;have i6:wr.cell? ⟨b,off+k*8+6,none⟩=some (.int .i64 nu):=ah 6 _ rfl;have i7:wr.cell? ⟨b,off+k*8+7,none⟩=some (.int .i64 de):=ah 7 _ rfl;have ar:(k:Int)<(l.length:Int):=Mcu;have aT:(0:Int)<=(k:Int):=Mcu;have fu:(k:Int)<=(c:Int):=Mcu;have aI:=hB.size;clear ah hx hck HX hB;by_cases h0:er=0
    ·subst h0;go_wp2_with (go_at_call 67;go_must(refine(lH.o _).mono ?_);rintro e wq ⟨rfl,z,rfl⟩)
     go_round
     case rel=>exact⟨k+1,am.o,by go_num,by show _=_;rw[av.o];rfl,HB.o.trans (Below.mono (B:=wr.heap.size) Bw aI)⟩
     case measure=>have:=am.o;simp only[intOf];omega
    ·have cn:Hid (R=er):=by show _=_;rw[av.o,if_pos MdA]
     go_wp2_with (go_at_call 67;go_must(refine(lH.o _).mono ?_);rintro e wq ⟨rfl,z,rfl⟩)
     go_ret
     exact Ret.of (zbB cn.o.symm) (HB.o.trans (Below.mono (B:=wr.heap.size) Bw aI))
   ·have ar:¬(k:Int)<(l.length:Int):=Mcu;have hx:=HX.o;rw[List.drop_eq_nil_of_le Mcu,zge]at hx;have cn:Hid (R=0):=hx;clear hx hB;go_wp2_with fail
    go_ret
    exact Ret.of (zbB cn.o.symm) HB.o
structure DV where
 d:Deed
 B:Option Addr
 c:Nat
def DV.cells(x:DV):List Value:=[.int .i64 x.d.kind,.int .i64 x.d.day,.string x.d.place,.string x.d.frm,.slice x.B x.d.to.length x.c,.int .i64 x.d.cls,.int .i64 x.d.years]
theorem zck(x:DV):x.cells.length=7:=rfl
theorem zgv(x:DV):∀u∈x.cells,u.oneCell'=true:=by simp[DV.cells,Value.oneCell']
theorem rp_len(x:RPart):x.cells.length=3:=rfl
theorem rp_one(x:RPart):∀u∈x.cells,u.oneCell'=true:=by simp[RPart.cells,Value.oneCell']
theorem lw_one(x:Law):∀u∈x.cells,u.oneCell'=true:=by simp[Law.cells,Value.oneCell']
theorem elRPart:ElTy Tryz.prog 48 64 3 32:=zdA (z:=.agg #[.string ⟨#[]⟩,.int .i64 0,.int .i64 0]) Mcv Mcv rfl Mcw
theorem elLaw:ElTy Tryz.prog 22 100 4 32:=zdA (z:=.agg #[.int .i64 0,.bool false,.int .i64 0,.int .i64 0]) Mcv Mcv rfl Mcw
theorem zgw:ElTy Tryz.prog 23 69 7 88:=zdA (z:=.agg #[.int .i64 0,.int .i64 0,.string ⟨#[]⟩,.string ⟨#[]⟩,.slice none 0 0,.int .i64 0,.int .i64 0]) Mcv Mcv rfl Mcw
theorem made_part(W:World):OwnS (W.alloc (.cells #[] 64)) W.heap.size 64 3 RPart.cells (.slice (some ⟨W.heap.size,0,none⟩) 0 0) []:=
 OwnS.of_own rp_len (World.ownsRow_made W #[] 0 (Nat.le_refl _) (Nat.zero_le _) Mcx)
theorem made_law(W:World):OwnS (W.alloc (.cells #[] 100)) W.heap.size 100 4 Law.cells (.slice (some ⟨W.heap.size,0,none⟩) 0 0) []:=
 OwnS.of_own (fun _=>rfl) (World.ownsRow_made W #[] 0 (Nat.le_refl _) (Nat.zero_le _) Mcx)
theorem zc2{w:World}{g:Nat}{z0 z1 z2 z3 z4 z5 z6 a b c d e f h':Value}{t:TypeId}{fr:Nat×Nat}(h:w.heap[g]?=some (.cells #[z0,z1,z2,z3,z4,z5,z6] t fr)):
 (((((((w.setCell ⟨g,0,none⟩ a).setCell ⟨g,1,none⟩ b).setCell ⟨g,2,none⟩ c).setCell ⟨g,3,none⟩ d).setCell ⟨g,4,none⟩ e).setCell ⟨g,5,none⟩ f).setCell ⟨g,6,none⟩ h').heap[g]?=some (.cells #[a,b,c,d,e,f,h'] t fr):=by
 have:=Joins.block_setCell (i:=6) (Joins.block_setCell (i:=5) (Joins.block_setCell (i:=4) (Joins.block_setCell (i:=3) (Joins.block_setCell (i:=2) (Joins.block_setCell (i:=1) (Joins.block_setCell (i:=0) h a) b) c) d) e) f) h';simpa using this
theorem zl3{fn:Func}{p:Tmp}(h:fn.results= #[.cell p 69])(tmps:Array Value)(w:World)(B:Nat)(x0 x1 x2 x3 x4 x5 x6:Value)(hp:tmps.getD p undef=.pointer (some ⟨B,0,none⟩))
 (hx:w.heap[B]?=some (.cells #[x0,x1,x2,x3,x4,x5,x6] 69)):(results fn tmps).run Tryz.prog w=.ok (.agg #[x0,x1,x2,x3,x4,x5,x6]) w:=by
 obtain⟨h0,h1,h2,h3,h4,h5,h6⟩:=cF7 hx;exact Ma5
def znW(w:World)(d:Deed)(e:Ending)(w':World):Prop:=
 ∃B c,e=.returned (d.v B c)/\d.to.length<=c/\Ro w' 64 RPart.cells B d.to/\Below w.heap.size w w'
theorem deed_any(d:Deed)(B:Option Addr)(c:Nat)(w:World)(hl:d.to.length<=100000)(hS:Sl w 3 RPart.cells B d.to):Calls Tryz.prog 26 #[d.v B c] w (znW w d):=by
 obtain⟨kd,dy,pl,fr,ts,cl,yr⟩:=d;have HS:=zHi hS;unfold znW Deed.v;simp only at hl hS⊢;clear hS;go_enter Tryz.func26,Tryz.ntmps26
 go_upto_region 1 with fail
 obtain⟨W1,aV⟩:∃W1,W1=(w.alloc (.cells #[.int .i64 kd,.int .i64 dy,.string pl,.string fr,.slice B ts.length c,.int .i64 cl,.int .i64 yr] 69)).alloc (.cells #[.int .i64 0,.int .i64 0,.string ⟨#[]⟩,.string ⟨#[]⟩,.slice none 0 0,.int .i64 0,.int .i64 0] 69):=⟨_,rfl⟩
 have b0:W1.heap[w.heap.size]?=some (.cells #[.int .i64 kd,.int .i64 dy,.string pl,.string fr,.slice B ts.length c,.int .i64 cl,.int .i64 yr] 69):=by rw[aV];exact zal (zaq _ _ _ rfl)
 have r0:W1.heap[w.heap.size+1]?=some (.cells #[.int .i64 0,.int .i64 0,.string ⟨#[]⟩,.string ⟨#[]⟩,.slice none 0 0,.int .i64 0,.int .i64 0] 69):=by rw[aV];exact zaq _ _ _ Mcx
 have cA:Below w.heap.size w W1:=by rw[aV];exact Bw
 rw[<-aV];have aC:=zHi cA;clear aV cA;have l0:=zab b0;have l1:=zab r0;obtain⟨-,-,-,-,c4⟩:=cF5 b0;have bp:w.heap.size+1+1<=W1.heap.size:=Mcu;have eB:=zHi bp;clear bp
 go_upto_region 2 with(at_builtin
                       go_loud(refine zat (v:=.slice (some ⟨W1.heap.size,0,none⟩) 0 0) (n:=0) (m:=ts.length) rfl _ _ rfl elRPart rp_len rp_one rfl (xs:=[]) (ys:=ts) (made_part W1) rfl rfl rfl (HS.o.keep (aC.o.trans (Below.mono (B:=W1.heap.size) Bw aC.o.size))) Mc3 Mcu Mcx ?_)
                       intro v2 w2 h1 h2 h3;rw[List.nil_append]at h1;have e1:w2.heap[w.heap.size]?=_:=(h2.block w.heap.size Mcz MdF).trans (zal b0);have e2:w2.heap[w.heap.size+1]?=_:=(h2.block (w.heap.size+1) Mcz MdF).trans (zal r0);have bs:Below W1.heap.size W1 w2:=Below.grown (zac (Below.refl _ _) _) h2 Mcx Mc8;obtain⟨A2,c2,rfl,cD,s2⟩:=h1.ro;have f4:w2.frozen? ⟨w.heap.size,4,none⟩=false:=by simp[World.frozen?,e1]
                       obtain⟨-,-,-,-,k4⟩:=cF5 e1
                       clear h1 h2 h3)
 have qQ:=zHi (cD);obtain⟨W3,be⟩:∃W3,W3=w2.setCell ⟨w.heap.size,4,none⟩ (.slice A2 ts.length c2):=⟨_,rfl⟩
 have b3:W3.heap[w.heap.size]?=some (.cells #[.int .i64 kd,.int .i64 dy,.string pl,.string fr,.slice A2 ts.length c2,.int .i64 cl,.int .i64 yr] 69):=by
  rw[be];have:=Joins.block_setCell (i:=4) e1 (.slice A2 ts.length c2);simpa using this
 have r3:W3.heap[w.heap.size+1]?=some (.cells #[.int .i64 0,.int .i64 0,.string ⟨#[]⟩,.string ⟨#[]⟩,.slice none 0 0,.int .i64 0,.int .i64 0] 69):=by rw[be];exact J_ne Mcu e2
 have s3:Ro W3 64 RPart.cells A2 ts:=by rw[be];exact s2.kept (zav _ _ _ _) e1 Mcw
 have cV:Below w.heap.size w W3:=by rw[be];exact zaM (aC.o.trans (bs.mono aC.o.size)) Mcx _
 rw[<-be];obtain⟨S3,aH⟩:=yH2 s3 cV;clear be cV s3 s2 e1 e2 f4 k4 bs b0 r0 c4 l0 l1;obtain⟨g0,g1,g2,g3,g4,g5,g6⟩:=cF7 b3;obtain⟨t0,t1,t2,t3,t4,t5,t6⟩:=cF7 r3;have f0:∀j,W3.frozen? ⟨w.heap.size+1,j,none⟩=false:=fun j=>by simp[World.frozen?,r3]
 go_wp2_with fail
 refine bodyPost_ret (v:=.agg #[.int .i64 kd,.int .i64 dy,.string pl,.string fr,.slice A2 ts.length c2,.int .i64 cl,.int .i64 yr]) ?_ rfl ?_
 ·exact zl3 rfl _ _ (w.heap.size+1) _ _ _ _ _ _ _ rfl (zc2 r3)
 ·exact⟨A2,c2,rfl,cD,(((((((S3.o.kept (zav _ _ _ _) r3 Mcw).kept (zav _ _ _ _) (Joins.block_setCell (i:=0) r3 _) Mcw).kept (zav _ _ _ _) (Joins.block_setCell (i:=1) (Joins.block_setCell (i:=0) r3 _) _) Mcw).kept (zav _ _ _ _) (Joins.block_setCell (i:=2) (Joins.block_setCell (i:=1) (Joins.block_setCell (i:=0) r3 _) _) _) Mcw).kept (zav _ _ _ _) (Joins.block_setCell (i:=3) (Joins.block_setCell (i:=2) (Joins.block_setCell (i:=1) (Joins.block_setCell (i:=0) r3 _) _) _) _) Mcw).kept (zav _ _ _ _) (Joins.block_setCell (i:=4) (Joins.block_setCell (i:=3) (Joins.block_setCell (i:=2) (Joins.block_setCell (i:=1) (Joins.block_setCell (i:=0) r3 _) _) _) _) _) Mcw).kept (zav _ _ _ _) (Joins.block_setCell (i:=5) (Joins.block_setCell (i:=4) (Joins.block_setCell (i:=3) (Joins.block_setCell (i:=2) (Joins.block_setCell (i:=1) (Joins.block_setCell (i:=0) r3 _) _) _) _) _) _) Mcw),zaM (zaM (zaM (zaM (zaM (zaM (zaM aH.o Mcx _) Mcx _) Mcx _) Mcx _) Mcx _) Mcx _) Mcx _⟩
theorem own_neC{α:Type}{W:World}{base:Nat}{e t:TypeId}{size:Nat}{f:α->List Value}{v:Value}{xs:List α}{T:Nat}{cs:Array Value}{fr:Nat×Nat}(h:OwnS W base e size f v xs)(hT:W.heap[T]?=some (.cells cs t fr))(ai:t≠e):za5 v≠some T:=by
 exact MX
theorem znX{α β:Type}{W W':World}{base size:Nat}{e e':TypeId}{f:α->List Value}{g:β->List Value}{v:Value}{A:Option Addr}{xs:List α}{ys:List β}(h:Ro W e' f A xs)(aa:OwnS W base e size g v ys)(hg:W.grownBy W' (za5 v))(ai:e'≠e):Ro W' e' f A xs:=
 h.same fun b cur fr hb _=>hg.block b (zab hb) (Ne.symm (own_neC aa hb ai))
theorem ziD{α:Type}{w:World}{b size:Nat}{f:α->List Value}{t:TypeId}{fr:Nat×Nat}{cs:Array Value}{xs:List α}(ag:∀x,(f x).length=size)(h:w.heap[b]?=some (.cells cs t fr))(hc:xs.flatMap f=cs.toList):Sl w size f (some ⟨b,0,none⟩) xs:=fun _=>
 ⟨b,0,rfl,zab h,fun k x hk j u hu=>by
   have:=zeX f size ag xs k x hk j u hu;rw[hc]at this;simp only[World.cell?,h,Nat.zero_add]
   simpa using this⟩
theorem ziE{fn:Func}{p:Tmp}(h:fn.results= #[.cell p 25])(tmps:Array Value)(w:World)(B:Nat)(x0 x1:Value)(hp:tmps.getD p undef=.pointer (some ⟨B,0,none⟩))
 (hx:w.heap[B]?=some (.cells #[x0,x1] 25)):(results fn tmps).run Tryz.prog w=.ok (.agg #[x0,x1]) w:=by
 obtain⟨h0,h1⟩:=cF2 hx;exact Ma5
theorem slw_of{W:World}{A:Option Addr}{xs:List DV}{ds:List Deed}(h:Sl W 7 DV.cells A xs)(hm:xs.map (·.d)=ds)(hp:∀x∈xs,x.d.to.length<=x.c/\Sl W 3 RPart.cells x.B x.d.to):SlW W 7 zfE A ds:=fun hl=>by
 subst hm;obtain⟨b,off,hA,hb,hc⟩:=h (by simpa using hl);refine⟨b,off,hA,hb,fun k x hk=>?_⟩;rw[List.getElem?_map]at hk;obtain⟨y,hy,rfl⟩:=Option.map_eq_some_iff.1 hk;have:=hp y (List.mem_of_getElem? hy);exact⟨y.cells,⟨y.B,y.c,this.1,rfl,this.2⟩,fun j u hu=>hc k y hy j u hu⟩
def zh8(p:RPart):Bool:=p.num==0&&p.den==0
theorem rBare_any(l:List RPart)(A:Option Addr)(c:Nat)(w:World)(hl:l.length<=1000000000)(hS:Sl w 3 RPart.cells A l):Calls Tryz.prog 125 #[.slice A l.length c] w (Ret0 w (.bool (l.all zh8))):=by
 have HS:=zHi hS;obtain⟨R,hR⟩:∃R,R=l.all zh8:=⟨_,rfl⟩
 rw[<-hR];have HR:Hid (R=(l.drop 0).all zh8):=Mej;clear hS hR;go_enter Tryz.func125,Tryz.ntmps125
 go_upto_region 2 with fail
 go_loopw [3] (fun i wr=>∃k:Nat,k<=l.length/\i=.int .i64 k/\w=wr/\Hid (R=(l.drop k).all zh8)) (fun i _=>l.length-(intOf i).toNat)
 case atStart=>exact⟨0,Nat.zero_le _,rfl,rfl,HR.o⟩
 case round=>
  obtain⟨k,hk,rfl,rfl,HX⟩:=hrel;by_cases ae:k<l.length
  ·obtain⟨b,off,rfl,hb,ah⟩:=HS.o.at ae;have hx:=HX.o;rw[List.drop_eq_getElem_cons ae,List.all_cons]at hx;obtain⟨av,am⟩:=yH2 hx ae;generalize l[k]=x at*;obtain⟨nm,nu,de⟩:=x;have i1:w.cell? ⟨b,off+k*3+1,none⟩=some (.int .i64 nu):=ah 1 _ rfl;have i2:w.cell? ⟨b,off+k*3+2,none⟩=some (.int .i64 de):=ah 2 _ rfl;have ar:(k:Int)<(l.length:Int):=Mcu;have aT:(0:Int)<=(k:Int):=Mcu;clear ah hx ae;by_cases h1:nu=0
   ·subst h1;by_cases h2:de=0
    ·subst h2;have HE:Hid (R=(l.drop (k+1)).all zh8):=MdJ;go_wp2_with fail
     exact MI
    ·have h3:(de==0)=false:=Meg;have HE:Hid (R=false):=by show _=_;rw[av.o];simp[zh8,h3]
     exact M0
   ·have h3:(nu==0)=false:=Mc1;have HE:Hid (R=false):=by show _=_;rw[av.o];simp[zh8,h3]
    exact M0
  ·have ar:¬(k:Int)<(l.length:Int):=Mcu;have HE:Hid (R=true):=by show _=_;rw[HX.o,List.drop_of_length_le Mcu];rfl
   exact M0
def zd4(l:List RPart)(frm:ByteArray)(k:Nat):Bool:=zde (l.drop k) ((l.take k).map (·.name)).reverse&&(l.drop k).all fun p=>!zae p.name frm
def clash(l:List RPart)(x:ByteArray)(j m:Nat):Bool:=((l.take m).drop j).any fun p=>zae x p.name
theorem zoD{l:List RPart}{frm:ByteArray}{k:Nat}(h:k<l.length):zd4 l frm k=(!clash l l[k].name 0 k&&(!zae l[k].name frm&&zd4 l frm (k+1))):=by
 unfold zd4 clash;rw[List.drop_eq_getElem_cons h,zde,List.all_cons,List.take_add_one,List.getElem?_eq_getElem h,List.drop_zero];have e:((l.take k).map (·.name)).reverse.any (zae l[k].name)=(l.take k).any fun p=>zae l[k].name p.name:=by
  rw[List.any_reverse,List.any_map];rfl
 rw[e];simp only[Option.toList_some,List.map_append,List.map_cons,List.map_nil,List.reverse_append,List.reverse_cons,List.reverse_nil,List.nil_append,List.singleton_append];cases(l.take k).any fun p=>zae l[k].name p.name<;>cases zae l[k].name frm<;>simp
theorem zoE{l:List RPart}{x:ByteArray}{j m:Nat}(h:j<m)(hm:m<l.length):clash l x j m=(zae x (l[j]' Mcu).name||clash l x (j+1) m):=by
 unfold clash;have hj:j<(l.take m).length:=Mdd;rw[List.drop_eq_getElem_cons hj,List.any_cons,List.getElem_take]
theorem clash_end{l:List RPart}{x:ByteArray}{j m:Nat}(h:¬j<m):clash l x j m=false:=by
 unfold clash;rw[List.drop_of_length_le Mdd];rfl
