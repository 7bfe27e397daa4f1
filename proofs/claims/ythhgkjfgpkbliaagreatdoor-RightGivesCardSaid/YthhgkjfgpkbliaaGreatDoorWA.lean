import Derived.Test.YthhgkjfgpkbliaaGreatDoorJH
import Derived.Test.YthhgkjfgpkbliaaGreatDoorR9
set_option linter.all false
set_option maxRecDepth 100000
set_option maxHeartbeats 4000000
namespace Go.Proofs.YthhgkjfgpkbliaaGreatDoor
open Go.RowKit Go.Shelf
attribute [local go_sem] World.cell?_alloc_mark zae zav zai zaw zam zan zao zap zaq zar zas
attribute [local go_sem] zah zac
structure DV where
 d:Deed
 B:Option Addr
 c:Nat
def DV.cells(x:DV):List Value:=[.int .i64 x.d.kind,.int .i64 x.d.day,.string x.d.place,.string x.d.frm,.slice x.B x.d.to.length x.c,.int .i64 x.d.cls,.int .i64 x.d.years]
theorem zcN(x:DV):x.cells.length=7:=rfl
theorem zlF(x:DV):∀u∈x.cells,u.oneCell'=true:=by simp[DV.cells,Value.oneCell']
theorem zio(x:RPart):x.cells.length=3:=rfl
theorem rp_one(x:RPart):∀u∈x.cells,u.oneCell'=true:=by simp[RPart.cells,Value.oneCell']
theorem lw_one(x:Law):∀u∈x.cells,u.oneCell'=true:=by simp[Law.cells,Value.oneCell']
theorem elRPart:ElTy Tryz.prog 26 59 3 32:=zcZ (z:=.agg #[.string ⟨#[]⟩,.int .i64 0,.int .i64 0]) MbE MbE rfl MbD
theorem elLaw:ElTy Tryz.prog 22 96 4 32:=zcZ (z:=.agg #[.int .i64 0,.bool false,.int .i64 0,.int .i64 0]) MbE MbE rfl MbD
theorem zlG:ElTy Tryz.prog 23 28 7 88:=zcZ (z:=.agg #[.int .i64 0,.int .i64 0,.string ⟨#[]⟩,.string ⟨#[]⟩,.slice none 0 0,.int .i64 0,.int .i64 0]) MbE MbE rfl MbD
theorem made_part(W:World):OwnS (W.alloc (.cells #[] 59)) W.heap.size 59 3 RPart.cells (.slice (some ⟨W.heap.size,0,none⟩) 0 0) []:=
 OwnS.of_own zio (World.ownsRow_made W #[] 0 (Nat.le_refl _) (Nat.zero_le _) MbF)
theorem made_law(W:World):OwnS (W.alloc (.cells #[] 96)) W.heap.size 96 4 Law.cells (.slice (some ⟨W.heap.size,0,none⟩) 0 0) []:=
 OwnS.of_own (fun _=>rfl) (World.ownsRow_made W #[] 0 (Nat.le_refl _) (Nat.zero_le _) MbF)
theorem J_set7{w:World}{g:Nat}{z0 z1 z2 z3 z4 z5 z6 a b c d e f h':Value}{t:TypeId}{fr:Nat×Nat}(h:w.heap[g]?=some (.cells #[z0,z1,z2,z3,z4,z5,z6] t fr)):
 (((((((w.setCell ⟨g,0,none⟩ a).setCell ⟨g,1,none⟩ b).setCell ⟨g,2,none⟩ c).setCell ⟨g,3,none⟩ d).setCell ⟨g,4,none⟩ e).setCell ⟨g,5,none⟩ f).setCell ⟨g,6,none⟩ h').heap[g]?=some (.cells #[a,b,c,d,e,f,h'] t fr):=by
 have:=Joins.block_setCell (i:=6) (Joins.block_setCell (i:=5) (Joins.block_setCell (i:=4) (Joins.block_setCell (i:=3) (Joins.block_setCell (i:=2) (Joins.block_setCell (i:=1) (Joins.block_setCell (i:=0) h a) b) c) d) e) f) h';simpa using this
theorem zjA{fn:Func}{p:Tmp}(h:fn.results= #[.cell p 28])(tmps:Array Value)(w:World)(B:Nat)(x0 x1 x2 x3 x4 x5 x6:Value)(hp:tmps.getD p undef=.pointer (some ⟨B,0,none⟩))
 (hx:w.heap[B]?=some (.cells #[x0,x1,x2,x3,x4,x5,x6] 28)):(results fn tmps).run Tryz.prog w=.ok (.agg #[x0,x1,x2,x3,x4,x5,x6]) w:=by
 obtain⟨h0,h1,h2,h3,h4,h5,h6⟩:=cF7 hx;exact MaK
def zg5(w:World)(d:Deed)(e:Ending)(w':World):Prop:=
 ∃B c,e=.returned (d.v B c)/\d.to.length<=c/\Ro w' 59 RPart.cells B d.to/\Below w.heap.size w w'
theorem deed_any(d:Deed)(B:Option Addr)(c:Nat)(w:World)(hl:d.to.length<=100000)(hS:Sl w 3 RPart.cells B d.to):Calls Tryz.prog 55 #[d.v B c] w (zg5 w d):=by
 obtain⟨kd,dy,pl,fr,ts,cl,yr⟩:=d;have HS:=zHi hS;unfold zg5 Deed.v;simp only at hl hS⊢;clear hS;go_enter Tryz.func55,Tryz.ntmps55
 go_upto_region 1 with fail
 obtain⟨W1,aV⟩:∃W1,W1=(w.alloc (.cells #[.int .i64 kd,.int .i64 dy,.string pl,.string fr,.slice B ts.length c,.int .i64 cl,.int .i64 yr] 28)).alloc (.cells #[.int .i64 0,.int .i64 0,.string ⟨#[]⟩,.string ⟨#[]⟩,.slice none 0 0,.int .i64 0,.int .i64 0] 28):=⟨_,rfl⟩
 have b0:W1.heap[w.heap.size]?=some (.cells #[.int .i64 kd,.int .i64 dy,.string pl,.string fr,.slice B ts.length c,.int .i64 cl,.int .i64 yr] 28):=Mcl;have r0:W1.heap[w.heap.size+1]?=some (.cells #[.int .i64 0,.int .i64 0,.string ⟨#[]⟩,.string ⟨#[]⟩,.slice none 0 0,.int .i64 0,.int .i64 0] 28):=by rw[aV];exact za3 _ _ _ MbF
 have bo:Below w.heap.size w W1:=Mcz;rw[<-aV];have bl:=zHi bo;clear aV bo;have l0:=zad b0;have l1:=zad r0;obtain⟨-,-,-,-,c4⟩:=cF5 b0;have aG:w.heap.size+1+1<=W1.heap.size:=MbC;have cQ:=zHi aG;clear aG
 go_upto_region 2 with(at_builtin
                       go_loud(refine zaG (v:=.slice (some ⟨W1.heap.size,0,none⟩) 0 0) (n:=0) (m:=ts.length) rfl _ _ rfl elRPart zio rp_one rfl (xs:=[]) (ys:=ts) (made_part W1) rfl rfl rfl (HS.o.keep (bl.o.trans (Below.mono (B:=W1.heap.size) Bw bl.o.size))) (by simp only[maxLen];omega) MbC MbF ?_)
                       intro v2 w2 h1 h2 h3;rw[List.nil_append]at h1;have e1:w2.heap[w.heap.size]?=_:=(h2.block w.heap.size MbH (by simp[za1];omega)).trans (zal b0);have e2:w2.heap[w.heap.size+1]?=_:=(h2.block (w.heap.size+1) MbH (by simp[za1];omega)).trans (zal r0);have cw:Below W1.heap.size W1 w2:=Below.grown (zau (Below.refl _ _) _) h2 MbF (by intro j hj;simp[za1]at hj;omega);obtain⟨A2,c2,rfl,bY,s2⟩:=h1.ro;have f4:w2.frozen? ⟨w.heap.size,4,none⟩=false:=by simp[World.frozen?,e1]
                       obtain⟨-,-,-,-,k4⟩:=cF5 e1
                       clear h1 h2 h3)
 exact Mj
theorem own_neC{α:Type}{W:World}{base:Nat}{e t:TypeId}{size:Nat}{f:α->List Value}{v:Value}{xs:List α}{T:Nat}{cs:Array Value}{fr:Nat×Nat}(h:OwnS W base e size f v xs)(hT:W.heap[T]?=some (.cells cs t fr))(ag:t≠e):za1 v≠some T:=by
 exact MG
theorem zg6{α β:Type}{W W':World}{base size:Nat}{e e':TypeId}{f:α->List Value}{g:β->List Value}{v:Value}{A:Option Addr}{xs:List α}{ys:List β}(h:Ro W e' f A xs)(ae:OwnS W base e size g v ys)(hg:W.grownBy W' (za1 v))(ag:e'≠e):Ro W' e' f A xs:=
 h.same fun b cur fr hb _=>hg.block b (zad hb) (Ne.symm (own_neC ae hb ag))
theorem zhw{α:Type}{w:World}{b size:Nat}{f:α->List Value}{t:TypeId}{fr:Nat×Nat}{cs:Array Value}{xs:List α}(af:∀x,(f x).length=size)(h:w.heap[b]?=some (.cells cs t fr))(hc:xs.flatMap f=cs.toList):Sl w size f (some ⟨b,0,none⟩) xs:=fun _=>
 ⟨b,0,rfl,zad h,fun k x hk j u hu=>by
   have:=zeF f size af xs k x hk j u hu;rw[hc]at this;simp only[World.cell?,h,Nat.zero_add]
   simpa using this⟩
theorem zhx{fn:Func}{p:Tmp}(h:fn.results= #[.cell p 25])(tmps:Array Value)(w:World)(B:Nat)(x0 x1:Value)(hp:tmps.getD p undef=.pointer (some ⟨B,0,none⟩))
 (hx:w.heap[B]?=some (.cells #[x0,x1] 25)):(results fn tmps).run Tryz.prog w=.ok (.agg #[x0,x1]) w:=by
 obtain⟨h0,h1⟩:=cF2 hx;exact MaK
theorem slw_of{W:World}{A:Option Addr}{xs:List DV}{ds:List Deed}(h:Sl W 7 DV.cells A xs)(hm:xs.map (·.d)=ds)(hp:∀x∈xs,x.d.to.length<=x.c/\Sl W 3 RPart.cells x.B x.d.to):SlW W 7 zjh A ds:=fun hl=>by
 subst hm;obtain⟨b,off,hA,hb,hc⟩:=h (by simpa using hl);refine⟨b,off,hA,hb,fun k x hk=>?_⟩;rw[List.getElem?_map]at hk;obtain⟨y,hy,rfl⟩:=Option.map_eq_some_iff.1 hk;have:=hp y (List.mem_of_getElem? hy);exact⟨y.cells,⟨y.B,y.c,this.1,rfl,this.2⟩,fun j u hu=>hc k y hy j u hu⟩
def zlH(w:World)(ls:List Law)(ds:List Deed)(e:Ending)(w':World):Prop:=
 ∃A nc B mc,e=.returned (.agg #[.slice A ls.length nc,.slice B ds.length mc])/\RightsIn w' ls ds A ls.length nc B ds.length mc/\Below w.heap.size w w'
def CopyOwn(w:World)(ls:List Law)(ds:List Deed)(e:Ending)(w':World):Prop:=
 ∃A nc B mc base xs,e=.returned (.agg #[.slice A ls.length nc,.slice B ds.length mc])/\ls.length<=nc/\Ro w' 96 Law.cells A ls/\xs.map DV.d=ds/\(∀x∈xs,x.d.to.length<=x.c/\Ro w' 59 RPart.cells x.B x.d.to)/\OwnS w' base 28 7 DV.cells (.slice B ds.length mc) xs/\w.heap.size<=base/\base<=w'.heap.size/\Below w.heap.size w w'
theorem zkO(ls:List Law)(ds:List Deed)(LA:Option Addr)(n nc:Nat)(DA:Option Addr)(m mc:Nat)(w:World)(hR:RightsIn w ls ds LA n nc DA m mc)(hl:ls.length<=1000)(hd:ds.length<=1000)(ht:∀d∈ds,d.to.length<=100000):
 Calls Tryz.prog 17 #[.agg #[.slice LA n nc,.slice DA m mc]] w (CopyOwn w ls ds):=by
 obtain⟨rfl,rfl,qP,mI,dg,i8⟩:=hR;obtain⟨bM,fN,HT⟩:=yH3 dg i8 ht;clear dg i8 ht;go_enter Tryz.func17,Tryz.ntmps17
 go_upto_region 1 with fail
 obtain⟨W1,aV⟩:∃W1,W1=(w.alloc (.cells #[.slice LA ls.length nc,.slice DA ds.length mc] 25)).alloc (.cells #[.slice none 0 0,.slice none 0 0] 25):=⟨_,rfl⟩
 have b0:W1.heap[w.heap.size]?=some (.cells #[.slice LA ls.length nc,.slice DA ds.length mc] 25):=Mcl;have r0:W1.heap[w.heap.size+1]?=some (.cells #[.slice none 0 0,.slice none 0 0] 25):=by rw[aV];exact za3 _ _ _ MbF
 have bo:Below w.heap.size w W1:=Mcz;rw[<-aV];have bl:=zHi bo;clear aV bo;have l0:=zad b0;have l1:=zad r0;obtain c0:=cF1 b0
 go_upto_region 2 with(at_builtin
                       go_loud(refine zaG (v:=.slice (some ⟨W1.heap.size,0,none⟩) 0 0) (n:=0) (m:=ls.length) rfl _ _ rfl elLaw (fun _=>rfl) lw_one rfl (xs:=[]) (ys:=ls) (made_law W1) rfl rfl rfl (bM.o.keep (bl.o.trans (Below.mono (B:=W1.heap.size) Bw bl.o.size))) (by simp only[maxLen];omega) MbC MbF ?_)
                       intro v2 w2 h1 h2 h3;rw[List.nil_append]at h1;have e1:w2.heap[w.heap.size]?=_:=(h2.block w.heap.size MbH (by simp[za1];omega)).trans (zal b0);have e2:w2.heap[w.heap.size+1]?=_:=(h2.block (w.heap.size+1) MbH (by simp[za1];omega)).trans (zal r0);have cw:Below W1.heap.size W1 w2:=Below.grown (zau (Below.refl _ _) _) h2 MbF (by intro j hj;simp[za1]at hj;omega);obtain⟨A2,c2,rfl,bY,s2⟩:=h1.ro
                       clear h1 h2 h3)
 obtain⟨S2,b9⟩:=yH2 s2 (bl.o.trans (cw.mono bl.o.size));have bk:=b9.o.size;have m0:=zad e1;have m1:=zad e2;clear s2 cw bl b0 r0 c0 l0 l1 bM;obtain⟨OB,iT⟩:∃OB,OB=w2.heap.size:=⟨_,rfl⟩
 have lR:Below OB w2 (w2.alloc (.cells #[.slice A2 ls.length c2,.slice none 0 0] 25)):=by rw[iT];exact Bw
 have o3:(w2.alloc (.cells #[.slice A2 ls.length c2,.slice none 0 0] 25)).heap[OB]?=some (.cells #[.slice A2 ls.length c2,.slice none 0 0] 25):=za3 _ _ _ iT;go_upto_region 3 with fail
 rw[<-iT];have rZ:=zHi iT;go_loopw [4] (fun i wr=>∃(k:Nat) (xs:List DV) (v:Value),k<=ds.length/\i=.int .i64 k/\Hid (xs.map (·.d)=ds.take k)/\Hid (∀x∈xs,x.d.to.length<=x.c/\Ro wr 59 RPart.cells x.B x.d.to)/\OwnS wr (OB+1) 28 7 DV.cells v xs/\wr.heap[OB]?=some (.cells #[.slice A2 ls.length c2,v] 25)/\Below OB w2 wr) (fun i _=>ds.length-(intOf i).toNat)
 case atStart=>exact⟨0,[],.slice none 0 0,Nat.zero_le _,rfl,zHi MbF,zHi MbF,OwnS.nil,o3,lR⟩
 case round=>
  obtain⟨k,xs,v,hk,rfl,HM,HP,ae,ho,hB⟩:=hrel;have kK:=zad ho;have lT:Below w.heap.size w wr:=b9.o.trans (hB.mono MbC);have aS:=lT.size;have b1:wr.heap[w.heap.size]?=some (.cells #[.slice LA ls.length nc,.slice DA ds.length mc] 25):=(hB.block _ MbC).trans e1;have r1:wr.heap[w.heap.size+1]?=some (.cells #[.slice none 0 0,.slice none 0 0] 25):=(hB.block _ MbC).trans e2;obtain⟨-,p2⟩:=cF2 b1;obtain⟨VA,vc,rfl,_,mX⟩:=ae.sl zcN;have bv:xs.length=k:=by
   have:=congrArg List.length HM.o;simp at this;omega
  by_cases aa:k<ds.length
  ·obtain⟨b,off,cs,hA,hb,hr,ah⟩:=(fN.o.keep zcX lT).at aa;have aD:ds.take (k+1)=ds.take k++[ds[k]]:=by rw[List.take_add_one,List.getElem?_eq_getElem aa];rfl
   have bG:=HT.o _ (List.getElem_mem aa);have aq:=zHi aa;generalize ds[k]=x at*;obtain⟨B,c,hc,rfl,hS⟩:=hr;have gE:=zHi (fun W' (h:Below wr.heap.size wr W')=>deed_any x B c W' bG (hS.keep h));unfold Deed.v at gE;subst hA;obtain⟨-,p1⟩:=cF2 ho;rw[bv]at p1;have i0:=ah 0 _ rfl;have i1:=ah 1 _ rfl;have i2:=ah 2 _ rfl;have i3:=ah 3 _ rfl;have i4:=ah 4 _ rfl;have i5:=ah 5 _ rfl;have i6:=ah 6 _ rfl;simp only[Nat.add_zero]at i0;have ao:(k:Int)<(ds.length:Int):=MbC;have bf:(0:Int)<=(k:Int):=MbC;obtain⟨cR,nz,eO,ua,HB⟩:=yH5 aD bv ae ho hB;have Dh:w.heap.size<wr.heap.size:=MbC
   have cC:=zHi (fun(w':World) (h:Below wr.heap.size wr w')=>(show w'.cell? ⟨OB,1,none⟩=some (.slice VA k vc)/\w'.cell? ⟨w.heap.size,1,none⟩=some (.slice (some ⟨b,off,none⟩) ds.length mc)/\w'.cell? ⟨b,off+k*7,none⟩=some (.int .i64 x.kind)/\w'.cell? ⟨b,off+k*7+1,none⟩=some (.int .i64 x.day)/\w'.cell? ⟨b,off+k*7+2,none⟩=some (.string x.place)/\w'.cell? ⟨b,off+k*7+3,none⟩=some (.string x.frm)/\w'.cell? ⟨b,off+k*7+4,none⟩=some (.slice B x.to.length c)/\w'.cell? ⟨b,off+k*7+5,none⟩=some (.int .i64 x.cls)/\w'.cell? ⟨b,off+k*7+6,none⟩=some (.int .i64 x.years) from
    ⟨(za4 h kK).trans p1,(za4 h Dh).trans p2,(za4 h hb).trans i0,(za4 h hb).trans i1,(za4 h hb).trans i2,(za4 h hb).trans i3,(za4 h hb).trans i4,(za4 h hb).trans i5,(za4 h hb).trans i6⟩))
   clear ah aa hS ae ho hB aD bv bG iT;go_upto_region 5 with fail
   refine zbS 9 (fun bb w'=>bb=true\/(w'.cell? ⟨OB,1,none⟩=some (.slice VA k vc)/\w'.cell? ⟨w.heap.size,1,none⟩=some (.slice (some ⟨b,off,none⟩) ds.length mc)/\w'.cell? ⟨b,off+k*7,none⟩=some (.int .i64 x.kind)/\w'.cell? ⟨b,off+k*7+1,none⟩=some (.int .i64 x.day)/\w'.cell? ⟨b,off+k*7+2,none⟩=some (.string x.place)/\w'.cell? ⟨b,off+k*7+3,none⟩=some (.string x.frm)/\w'.cell? ⟨b,off+k*7+4,none⟩=some (.slice B x.to.length c)/\w'.cell? ⟨b,off+k*7+5,none⟩=some (.int .i64 x.cls)/\w'.cell? ⟨b,off+k*7+6,none⟩=some (.int .i64 x.years))) MbE (.inr (cC.o _ (zaI (Below.refl _ _)))) ?hrest
   case hrest=>
    intro hHeld;refine TkM 0 ?_;refine TkM 1 ?_;refine TkM 2 ?_;refine TkM 3 ?_;refine TkM 4 ?_;refine TkM 5 ?_;refine TkM 6 ?_;refine OnM 7 false fun K hK=>?_
    go_simp
    refine(gE.o _ (zaI (Below.refl _ _))).mono ?_;rintro e w5 ⟨B5,c5,rfl,nL,ro5,bx⟩;unfold Deed.v;have gn:Below wr.heap.size wr w5:=(zaI (Below.refl _ _):Below wr.heap.size wr wr.drew).trans bx;refine NxM hK (fun hHeld=>?_) (.inr (cC.o _ gn));clear hK K;refine OnM 8 false fun K hK=>?_
    go_simp
    have aY:Below wr.heap.size wr (w5.alloc (.cells #[.int .i64 x.kind,.int .i64 x.day,.string x.place,.string x.frm,.slice B5 x.to.length c5,.int .i64 x.cls,.int .i64 x.years] 28)):=zau gn _;have n6:(w5.alloc (.cells #[.int .i64 x.kind,.int .i64 x.day,.string x.place,.string x.frm,.slice B5 x.to.length c5,.int .i64 x.cls,.int .i64 x.years] 28)).heap[w5.heap.size]?=some (.cells #[.int .i64 x.kind,.int .i64 x.day,.string x.place,.string x.frm,.slice B5 x.to.length c5,.int .i64 x.cls,.int .i64 x.years] 28):=za3 _ _ _ rfl;have ro6:Ro (w5.alloc (.cells #[.int .i64 x.kind,.int .i64 x.day,.string x.place,.string x.frm,.slice B5 x.to.length c5,.int .i64 x.cls,.int .i64 x.years] 28)) 59 RPart.cells B5 x.to:=ro5.keep (n:=w5.heap.size) (zau (Below.refl _ _) _);refine NxM hK (fun hHeld=>?_) (.inr (cC.o _ aY));clear hK K;refine OnM 9 true fun K hK=>?_
    generalize w5.alloc (.cells #[.int .i64 x.kind,.int .i64 x.day,.string x.place,.string x.frm,.slice B5 x.to.length c5,.int .i64 x.cls,.int .i64 x.years] 28)=W6 at*;have ow6:=eO.o.keep aY;refine zaV (v:=.slice VA k vc) (n:=k) (m:=1) rfl _ _ rfl zlG zcN zlF rfl (xs:=xs) (ys:=[⟨x,B5,c5⟩]) (by have:=ow6;rw[nz.o]at this;exact this) nz.o rfl rfl (zhw zcN n6 (by simp[DV.cells])) (by simp only[maxLen];omega) MbC (by have:=aY.size;omega) ?_;intro v7 w7 h1 h2 h3;obtain⟨A7,c7,kT,_,_⟩:=h1.sl zcN;rw[List.length_append]at kT;subst kT;have ow7:OwnS W6 (OB+1) 28 7 DV.cells (.slice VA k vc) xs:=by have:=ow6;rw[nz.o]at this;exact this
    have o7:w7.heap[OB]?=some (.cells #[.slice A2 ls.length c2,.slice VA xs.length vc] 25):=(h2.block OB (by have:=aY.size;omega) (fun e=>by have:=ow7.ge _ e.symm;omega)).trans ((aY.block OB kK).trans ua.o);have ro7:Ro w7 59 RPart.cells B5 x.to:=zg6 ro6 ow7 h2 MbD;have rs7:∀y∈xs,y.d.to.length<=y.c/\Ro w7 59 RPart.cells y.B y.d.to:=fun y hy=>⟨(HP.o y hy).1,zg6 ((HP.o y hy).2.keep aY) ow7 h2 MbD⟩
    have aW:Below OB w2 w7:=Below.grown (HB.o.trans (aY.mono MbC)) h2 (by have:=HB.o.size;have:=aY.size;omega) (fun j hj=>by have:=ow7.ge _ hj;omega);have f7:w7.frozen? ⟨OB,1,none⟩=false:=by simp[World.frozen?,o7]
    obtain⟨-,t7⟩:=cF2 o7;refine NxM hK fun hHeld=>?_
    clear hK K;refine OnM 10 true fun K hK=>?_
    go_simp
    refine NxM hK fun hHeld=>?_
    clear hK K;refine OnM 11 true fun K hK=>?_
    go_simp
    refine NxM hK fun hHeld=>?_
    clear hK K;refine zcF MbE ?_ _;clear hHeld;go_wp2_with fail
    go_round
    case rel=>
     refine⟨k+1,xs++[⟨x,B5,c5⟩],_,aq.o,by go_num,zHi (by rw[List.map_append,HM.o,cR.o];rfl),zHi (fun y hy=>?_),h1.grown (zay _ _ _ _) (.inr fun e=>by have:=h1.ge _ e;omega),?_,zaU aW (Nat.le_refl _) _⟩
     ·exact M4
     ·have:=Joins.block_setCell (i:=1) o7 (.slice A7 (xs.length+[(⟨x,B5,c5⟩:DV)].length) c7);simpa using this
    case measure=>have:=aq.o;simp only[intOf];omega
  ·have ao:¬(k:Int)<(ds.length:Int):=MbC;have nS:xs.map (·.d)=ds:=by rw[HM.o,List.take_of_length_le MbC]
   have bQ:xs.length=ds.length:=by rw[<-nS,List.length_map]
   obtain⟨-,p1⟩:=cF2 ho;obtain p0:=cF1 ho;obtain⟨t0,t1⟩:=cF2 r1;have f0:∀j,wr.frozen? ⟨w.heap.size+1,j,none⟩=false:=fun j=>by simp[World.frozen?,r1]
   rw[bQ]at p1;obtain⟨tX,jZ,eO,HB,aM⟩:=yH5 nS bQ ae hB lT;clear nS bQ ae hB lT aa bv ho iT;go_wp2_with fail
   refine bodyPost_ret (v:=.agg #[.slice A2 ls.length c2,.slice VA ds.length vc]) ?_ rfl ?_
   ·exact zhx rfl _ _ (w.heap.size+1) _ _ rfl (zga r1)
   ·have rr:=Joins.block_setCell (i:=0) r1 (.slice A2 ls.length c2);have fD:∀ {α:Type} {e:TypeId} {f:α->List Value} {A:Option Addr} {ys:List α},e≠25->Ro wr e f A ys->Ro ((wr.setCell ⟨w.heap.size+1,0,none⟩ (.slice A2 ls.length c2)).setCell ⟨w.heap.size+1,1,none⟩ (.slice VA ds.length vc)) e f A ys:=fun ag h=>
     (h.kept (zay _ _ _ _) r1 (fun e=>ag e.symm)).kept (zay _ _ _ _) rr (fun e=>ag e.symm)
    have hrs:=zga (a:=.slice A2 ls.length c2) (b:=.slice VA ds.length vc) r1;refine⟨A2,c2,VA,vc,OB+1,xs,rfl,bY,fD MbD (S2.o.keep (n:=OB) HB.o (by have:=rZ.o;omega)),tX.o,fun y hy=>⟨(HP.o y hy).1,fD MbD (HP.o y hy).2⟩,?_,by have:=rZ.o;omega,by simp;omega,zaU (zaU aM.o MbF _) MbF _⟩;have ho:=eO.o;rw[jZ.o]at ho;have h1:=ho.grown (zay wr (w.heap.size+1) 0 (.slice A2 ls.length c2)) (.inr fun e=>by have:=ho.ge _ e;have:=rZ.o;omega);exact h1.grown (zay _ (w.heap.size+1) 1 (.slice VA ds.length vc)) (.inr fun e=>by have:=ho.ge _ e;have:=rZ.o;omega)
theorem zm2(ls:List Law)(ds:List Deed)(LA:Option Addr)(n nc:Nat)(DA:Option Addr)(m mc:Nat)(w:World)(hR:RightsIn w ls ds LA n nc DA m mc)(hl:ls.length<=1000)(hd:ds.length<=1000)(ht:∀d∈ds,d.to.length<=100000):
 Calls Tryz.prog 17 #[.agg #[.slice LA n nc,.slice DA m mc]] w (zlH w ls ds):=by
 refine(zkO ls ds LA n nc DA m mc w hR hl hd ht).mono ?_;rintro e w' ⟨A,a,D,c,b,xs,rfl,ha,hL,hm,hp,ho,hb,_,hB⟩;obtain⟨D',c',he,hx,hc⟩:=ho.sl zcN;simp only[Value.slice.injEq]at he;obtain⟨rfl,_,rfl⟩:=he;have hk:xs.length=ds.length:=by rw[<-hm,List.length_map]
 exact⟨A,a,D,c,rfl,⟨rfl,rfl,ha,by omega,hL.sl fun _=>rfl,slw_of hx hm fun y hy=>⟨(hp y hy).1,(hp y hy).2.sl zio⟩⟩,hB⟩
theorem rMulI(a b c d:Int)(w:World)(ha:a.natAbs<=1000000000)(hb:b.natAbs<=1000000000)(hc:c.natAbs<=1000000000)(hd:d.natAbs<=1000000000)(ax:0<b)(gv:0<d)(_h:True):Calls Tryz.prog 20 #[.agg #[.int .i64 a,.int .i64 b],.agg #[.int .i64 c,.int .i64 d]] w (Ret w (za9 (Rat.divInt (a*c) (b*d)))):=by
 have m1:=zaP ha hd;have m2:=zaP hc hb;have m3:=zaP hb hd;have m4:0<b*d:=Int.mul_pos ax gv;obtain⟨m1,n1⟩:=m1;obtain⟨m2,n2⟩:=m2;obtain⟨m3,n3⟩:=m3;have w1:IntKind.i64.wrap (a*d)=a*d:=IntWalk.i64_in _ MbC;have w2:IntKind.i64.wrap (c*b)=c*b:=IntWalk.i64_in _ MbC;have w3:IntKind.i64.wrap (b*d)=b*d:=IntWalk.i64_in _ MbC;have m5:=zaP ha hc;obtain⟨m5,n5⟩:=m5;have m6:=zaP hb hc;obtain⟨m6,n6⟩:=m6;have w5:IntKind.i64.wrap (a*c)=a*c:=IntWalk.i64_in _ MbC;have w6:IntKind.i64.wrap (b*c)=b*c:=IntWalk.i64_in _ MbC;have hs:(a*c).natAbs<=4611686018427387904:=MbC;have hl:(b*d)<=4611686018427387904:=MbC;have h4:0<(b*d):=m4;obtain⟨HS,HL,H4⟩:=yH3 hs hl h4;clear hs hl m4 h4 ha hb hc hd;go_enter Tryz.func20,Tryz.ntmps20
 go_wp2_with (go_at_call 58;go_must(refine(zhh _ _ _ HS.o H4.o HL.o).mono ?_);rintro e w1 ⟨rfl,z1,rfl⟩;simp only[za9])
 refine bodyPost_ret (v:=za9 (Rat.divInt (a*c) (b*d))) ?_ rfl ?_
 ·exact Max
 ·exact Ret.of rfl Bw
theorem zlI(p q:Rat)(w:World)(cf:zaD p)(eH:zaD q):Calls Tryz.prog 20 #[za9 p,za9 q] w (Ret w (za9 (p*q))):=by
 rw[zf9];exact rMulI _ _ _ _ _ cf.1 (by have:=cf.2;omega) eH.1 (by have:=eH.2;omega) (zci p) (zci q) trivial
def zgn(l:Parts)(n:ByteArray)(k:Nat):Int:=match(l.drop k).findIdx? fun p=>zag p.1 n with
 |none=> -1
 |some i=>((k+i:Nat):Int)
theorem zm3{l:Parts}{n:ByteArray}{k:Nat}(h:k<l.length):zgn l n k=if zag l[k].1 n then(k:Int)else zgn l n (k+1):=by
 unfold zgn;rw[List.drop_eq_getElem_cons h,List.findIdx?_cons];cases hs:zag l[k].1 n
 ·rw[if_neg MbF,if_neg MbF];cases(l.drop (k+1)).findIdx? fun p=>zag p.1 n with
  |none=>rfl
  |some i=>
   simp only[Option.map_some];omega
 ·rw[if_pos rfl,if_pos rfl];simp
theorem partI_end{l:Parts}{n:ByteArray}{k:Nat}(h:¬k<l.length):zgn l n k= -1:=by
 unfold zgn;rw[List.drop_of_length_le MbC];rfl
theorem zkP(l:Parts)(n:ByteArray):(zgn l n 0= -1/\zab l n=0)\/∃(i:Nat) (h:i<l.length),zgn l n 0=(i:Int)/\zab l n=l[i].2:=by
 unfold zgn zab;rw[List.drop_zero];cases hx:l.findIdx? fun p=>zag p.1 n with
 |none=>
  refine .inl ⟨rfl,?_⟩;rw[List.findIdx?_eq_none_iff]at hx;have:l.find? (fun p=>zag p.1 n)=none:=by
   rw[List.find?_eq_none];intro p hp;rw[hx p hp];simp
  rw[this];rfl
 |some i=>
  rw[List.findIdx?_eq_some_iff_getElem]at hx;obtain⟨hi,h1,h2⟩:=hx;refine .inr ⟨i,hi,by simp,?_⟩;have:l.find? (fun p=>zag p.1 n)=some l[i]:=by
   rw[List.find?_eq_some_iff_getElem];exact⟨h1,i,hi,rfl,fun j hj=>by simpa using h2 j hj⟩
  rw[this];rfl
theorem rPart_any(l:Parts)(n:ByteArray)(A:Option Addr)(c:Nat)(w:World)(hl:l.length<=1000000000)(hS:Sl w 3 zaa A l):Calls Tryz.prog 56 #[.slice A l.length c,.string n] w (Ret0 w (.int .i64 (zgn l n 0))):=by
 have HS:=zHi hS;obtain⟨R,hR⟩:∃R,R=zgn l n 0:=⟨_,rfl⟩
 rw[<-hR];have HR:=zHi hR;clear hS hR;go_enter Tryz.func56,Tryz.ntmps56
 go_upto_region 2 with fail
 go_loopw [5] (fun i wr=>∃k:Nat,k<=l.length/\i=.int .i64 k/\w=wr/\Hid (R=zgn l n k)) (fun i _=>l.length-(intOf i).toNat)
 case atStart=>exact⟨0,Nat.zero_le _,rfl,rfl,HR.o⟩
 case round=>
  obtain⟨k,hk,rfl,rfl,HX⟩:=hrel;by_cases aa:k<l.length
  ·obtain⟨b,off,rfl,hb,ah⟩:=HS.o.at aa;have hx:=HX.o;rw[zm3 aa]at hx;obtain⟨aK,aq⟩:=yH2 hx aa;generalize l[k]=x at*;obtain⟨nm,q⟩:=x;have i0:w.cell? ⟨b,off+k*3,none⟩=some (.string nm):=ah 0 _ rfl;have ao:(k:Int)<(l.length:Int):=MbC;have bf:(0:Int)<=(k:Int):=MbC;clear ah hx aa;cases hs:zag nm n
   ·have HE:Hid (R=zgn l n (k+1)):=by show _=_;rw[aK.o,hs];rfl
    have bk:(nm.toList==n.toList)=false:=hs;exact Mah
   ·have HE:Hid (R=(k:Int)):=by show _=_;rw[aK.o,hs];rfl
    have bk:(nm.toList==n.toList)=true:=hs;go_wp2_with fail
    go_ret
    exact⟨by rw[HE.o];rfl,rfl⟩
  ·have ao:¬(k:Int)<(l.length:Int):=MbC;have HE:Hid (R= -1):=by show _=_;rw[HX.o,partI_end aa]
   go_wp2_with fail
   go_ret
   exact⟨by rw[HE.o];rfl,rfl⟩
theorem zdp(l:Parts)(n:ByteArray)(A:Option Addr)(c:Nat)(w:World)(hl:l.length<=1000000000)(hS:Sl w 3 zaa A l):Calls Tryz.prog 18 #[.slice A l.length c,.string n] w (Ret w (za9 (zab l n))):=by
 have HP:=zHi (fun W (h:Below w.heap.size w W)=>rPart_any l n A c W hl (hS.keep h));rcases zkP l n with⟨h1,h2⟩|⟨i,hi,h1,h2⟩
 ·rw[h1]at HP;rw[h2];clear hS;go_enter Tryz.func18,Tryz.ntmps18
  go_wp2_with (first
   |(go_at_call 56;go_must(refine(HP.o _ Bw).mono ?_);rintro e wq ⟨rfl,rfl⟩)
   |(go_at_call 57;go_must(refine(rZero_any _).mono ?_);rintro e wq ⟨rfl,z,rfl⟩))
  refine bodyPost_ret (v:=za9 0) ?_ rfl ?_
  ·exact Mbv
  ·exact Ret.of rfl Bw
 ·rw[h1]at HP;rw[h2];obtain⟨b,off,rfl,hb,ah⟩:=hS.at hi;generalize l[i]=x at*;obtain⟨nm,q⟩:=x;have i1:w.cell? ⟨b,off+i*3+1,none⟩=some (.int .i64 q.num):=ah 1 _ rfl;have i2:w.cell? ⟨b,off+i*3+2,none⟩=some (.int .i64 q.den):=ah 2 _ rfl;have ao:(i:Int)<(l.length:Int):=MbC;have bf:(0:Int)<=(i:Int):=MbC;clear hS ah h1 h2;go_enter Tryz.func18,Tryz.ntmps18
  go_wp2_with (go_at_call 56;go_must(refine(HP.o _ Bw).mono ?_);rintro e wq ⟨rfl,rfl⟩)
  refine bodyPost_ret (v:=za9 q) ?_ rfl ?_
  ·exact Mbv
  ·exact Ret.of rfl Bw
def zep(d:Deed):Bool:=!(decide (20<d.place.size)||decide (20<d.frm.size)||decide (10<d.to.length))&&d.to.all fun p=>!decide (20<p.name.size)
def fewP(ls:List Law)(ds:List Deed):Bool:=!(decide (12<ls.length)||decide (14<ds.length))&&ds.all zep
theorem zm4{d:Deed}(h:zep d=true):zdi d:=by
 unfold zep at h;simp at h;obtain⟨⟨⟨h1,h2⟩,h3⟩,h4⟩:=h;exact⟨by omega,by omega,fun p hp=>by have:=h4 p hp;omega,by omega⟩
theorem few_lens{ls:List Law}{ds:List Deed}(h:fewP ls ds=true):(∀d∈ds,zdi d)/\ls.length<=12/\ds.length<=14/\(∀d∈ds,d.to.length<=10):=by
 unfold fewP at h;simp at h;obtain⟨⟨h1,h2⟩,h3⟩:=h;refine⟨fun d hd=>zm4 (h3 d hd),h1,h2,fun d hd=>?_⟩;have:=h3 d hd;unfold zep at this;simp at this;exact this.1.2
theorem brief_any(d:Deed)(B:Option Addr)(c:Nat)(w:World)(hc:d.to.length<=c)(hS:Sl w 3 RPart.cells B d.to):
 Calls Tryz.prog 32 #[d.v B c] w (Ret w (.bool (zep d))):=by
 obtain⟨kd,dy,pl,fr,ts,cl,yr⟩:=d;have HS:=zHi hS;obtain⟨R,hR⟩:∃R,R=zep ⟨kd,dy,pl,fr,ts,cl,yr⟩:=⟨_,rfl⟩
 rw[<-hR];unfold zep at hR;unfold Deed.v;simp only at hR hc hS⊢;clear hS;go_enter Tryz.func32,Tryz.ntmps32
 by_cases l1:20<pl.size
 ·have HE:Hid (R=false):=by show _=_;rw[hR,decide_eq_true l1];rfl
  have q1:(20:Int)<(pl.size:Int):=MbC;exact MV
 have q1:¬(20:Int)<(pl.size:Int):=MbC;by_cases l2:20<fr.size
 ·have HE:Hid (R=false):=by show _=_;rw[hR,decide_eq_true l2];simp
  have q2:(20:Int)<(fr.size:Int):=MbC;exact MV
 have q2:¬(20:Int)<(fr.size:Int):=MbC;by_cases l3:10<ts.length
 ·have HE:Hid (R=false):=by show _=_;rw[hR,decide_eq_true l3];simp
  have q3:(10:Int)<(ts.length:Int):=MbC;exact MV
 have q3:¬(10:Int)<(ts.length:Int):=MbC;have ue:Hid (R=(ts.drop 0).all fun p=>!decide (20<p.name.size)):=by
  show _=_;rw[hR,decide_eq_false l1,decide_eq_false l2,decide_eq_false l3,List.drop_zero];rfl
 clear hR;go_upto_region 3 with fail
 have k4:(w.alloc (.cells #[.int .i64 kd,.int .i64 dy,.string pl,.string fr,.slice B ts.length c,.int .i64 cl,.int .i64 yr] 28)).cell? ⟨w.heap.size,4,none⟩=some (.slice B ts.length c):=MbQ;have hB:Below w.heap.size w (w.alloc (.cells #[.int .i64 kd,.int .i64 dy,.string pl,.string fr,.slice B ts.length c,.int .i64 cl,.int .i64 yr] 28)):=Bw;generalize w.alloc (.cells #[.int .i64 kd,.int .i64 dy,.string pl,.string fr,.slice B ts.length c,.int .i64 cl,.int .i64 yr] 28)=W at*;obtain⟨sb,HB⟩:=yH2 (HS.o.keep hB) hB;clear hB HS;go_upto_region 4 with fail
 go_loopw [3] (fun i wr=>∃k:Nat,k<=ts.length/\i=.int .i64 k/\W=wr/\Hid (R=(ts.drop k).all fun p=>!decide (20<p.name.size))) (fun i _=>ts.length-(intOf i).toNat)
 case atStart=>exact⟨0,Nat.zero_le _,rfl,rfl,ue.o⟩
 case round=>
  obtain⟨k,hk,rfl,rfl,HX⟩:=hrel;by_cases aa:k<ts.length
  ·obtain⟨b,off,rfl,hb,ah⟩:=sb.o.at aa;have hx:=HX.o;rw[List.drop_eq_getElem_cons aa,List.all_cons]at hx;obtain⟨aK,aq⟩:=yH2 hx aa;generalize ts[k]=x at*;obtain⟨nm,nu,de⟩:=x;have i0:W.cell? ⟨b,off+k*3,none⟩=some (.string nm):=ah 0 _ rfl;have ao:(k:Int)<(ts.length:Int):=MbC;have bf:(0:Int)<=(k:Int):=MbC;clear ah hx aa;by_cases l5:20<nm.size
   ·have HE:Hid (R=false):=by show _=_;rw[aK.o];simp[l5]
    have q5:(20:Int)<(nm.size:Int):=MbC;go_wp2_with fail
    go_ret
    exact Ret.of (zaW HE.o.symm) HB.o
   ·have q5:¬(20:Int)<(nm.size:Int):=MbC;have HE:Hid (R=(ts.drop (k+1)).all fun p=>!decide (20<p.name.size)):=by show _=_;rw[aK.o];simp[l5]
    exact Mah
  ·have ao:¬(k:Int)<(ts.length:Int):=MbC;have HE:Hid (R=true):=by show _=_;rw[HX.o,List.drop_of_length_le MbC];rfl
   go_wp2_with fail
   go_ret
   exact Ret.of (zaW HE.o.symm) HB.o
theorem few_any(ls:List Law)(ds:List Deed)(LA:Option Addr)(n nc:Nat)(DA:Option Addr)(m mc:Nat)(w:World)(hR:RightsIn w ls ds LA n nc DA m mc):
 Calls Tryz.prog 8 #[.agg #[.slice LA n nc,.slice DA m mc]] w (Ret w (.bool (fewP ls ds))):=by
 obtain⟨rfl,rfl,qP,mI,_,hD⟩:=hR;have HD:=zHi hD;obtain⟨R,hR⟩:∃R,R=fewP ls ds:=⟨_,rfl⟩
 rw[<-hR];unfold fewP at hR;clear hD;go_enter Tryz.func8,Tryz.ntmps8
 by_cases l1:12<ls.length
 ·have HE:Hid (R=false):=by show _=_;rw[hR,decide_eq_true l1];rfl
  have q1:(12:Int)<(ls.length:Int):=MbC;exact MV
 have q1:¬(12:Int)<(ls.length:Int):=MbC;by_cases l2:14<ds.length
 ·have HE:Hid (R=false):=by show _=_;rw[hR,decide_eq_true l2];simp
  have q2:(14:Int)<(ds.length:Int):=MbC;exact MV
 have q2:¬(14:Int)<(ds.length:Int):=MbC;have ue:Hid (R=(ds.drop 0).all zep):=by
  show _=_;rw[hR,decide_eq_false l1,decide_eq_false l2,List.drop_zero];rfl
 clear hR;go_upto_region 3 with fail
 have k4:(w.alloc (.cells #[.slice LA ls.length nc,.slice DA ds.length mc] 25)).cell? ⟨w.heap.size,1,none⟩=some (.slice DA ds.length mc):=MbQ;have hB:Below w.heap.size w (w.alloc (.cells #[.slice LA ls.length nc,.slice DA ds.length mc] 25)):=Bw;have hsz:w.heap.size<(w.alloc (.cells #[.slice LA ls.length nc,.slice DA ds.length mc] 25)).heap.size:=MbF;generalize w.alloc (.cells #[.slice LA ls.length nc,.slice DA ds.length mc] 25)=W at*;obtain⟨gD,HB⟩:=yH2 (HD.o.keep zcX hB) hB;clear hB HD;go_upto_region 4 with fail
 go_loopw [3] (fun i wr=>∃k:Nat,k<=ds.length/\i=.int .i64 k/\Hid (R=(ds.drop k).all zep)/\Below W.heap.size W wr) (fun i _=>ds.length-(intOf i).toNat)
 case atStart=>exact⟨0,Nat.zero_le _,rfl,ue.o,Below.refl _ _⟩
 case round=>
  obtain⟨k,hk,rfl,HX,iS⟩:=hrel;have j4:wr.cell? ⟨w.heap.size,1,none⟩=some (.slice DA ds.length mc):=(za4 iS hsz).trans k4;have sJ:=iS.size;by_cases aa:k<ds.length
  ·obtain⟨b,off,cs,hA,hb,hr,ah⟩:=(gD.o.keep zcX iS).at aa;have hx:=HX.o;rw[List.drop_eq_getElem_cons aa,List.all_cons]at hx;obtain⟨aK,aq⟩:=yH2 hx aa;generalize ds[k]=x at*;obtain⟨B,c,hc,rfl,hS⟩:=hr;have tF:=zHi (fun W' (h:Below wr.heap.size wr W')=>brief_any x B c W' hc (hS.keep h));unfold Deed.v at tF;subst hA;have i0:=ah 0 _ rfl;have i1:=ah 1 _ rfl;have i2:=ah 2 _ rfl;have i3:=ah 3 _ rfl;have i4:=ah 4 _ rfl;have i5:=ah 5 _ rfl;have i6:=ah 6 _ rfl;simp only[Nat.add_zero]at i0;have ao:(k:Int)<(ds.length:Int):=MbC;have bf:(0:Int)<=(k:Int):=MbC;have aM:=zHi iS;generalize zep x=q at*;clear ah hx aa hS iS;cases q
   ·have HE:Hid (R=false):=by show _=_;rw[aK.o];rfl
    go_wp2_with (go_at_call 32;go_must(refine(tF.o _ Bw).mono ?_);rintro e wq ⟨rfl,z,rfl⟩)
    go_ret
    exact Ret.of (zaW HE.o.symm) (HB.o.trans ((aM.o.trans (Below.mono (B:=wr.heap.size) Bw sJ)).mono HB.o.size))
   ·have HE:Hid (R=(ds.drop (k+1)).all zep):=by show _=_;rw[aK.o];rfl
    go_wp2_with (go_at_call 32;go_must(refine(tF.o _ Bw).mono ?_);rintro e wq ⟨rfl,z,rfl⟩)
    go_round
    case rel=>exact⟨k+1,aq.o,by go_num,HE.o,aM.o.trans (Below.mono (B:=wr.heap.size) Bw sJ)⟩
    case measure=>have:=aq.o;simp only[intOf];omega
  ·have ao:¬(k:Int)<(ds.length:Int):=MbC;have HE:Hid (R=true):=by show _=_;rw[HX.o,List.drop_of_length_le MbC];rfl
   have aM:=zHi iS;clear iS;go_wp2_with fail
   go_ret
   exact Ret.of (zaW HE.o.symm) (HB.o.trans (aM.o.mono HB.o.size))
