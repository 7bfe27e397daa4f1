import Derived.Test.YtogklihlgindkaaGreatDoorE4
import Derived.Test.YtogklihlgindkaaGreatDoorRB
import Derived.Test.YtogklihlgindkaaGreatDoorJN
set_option linter.all false
set_option maxRecDepth 100000
set_option maxHeartbeats 4000000
namespace Go.Proofs.YtogklihlgindkaaGreatDoor
open Go.RowKit
attribute [local go_sem] World.cell?_alloc_mark zaf za3 zam za6 zat zau zav zaw zax zay zaz
attribute [local go_sem] zao zac
variable{out:Parts}{n:ByteArray}
def zfA{t f:Rat}{fl:Bool}(h:Bd out t)(hf:0<=f):Bd (zcT n f (out,fl)).1 (t+f):=h.set n hf
def Bd.up6{t u:Rat}(h:Bd out t)(hu:t<=u):Bd out u:=⟨h.good,h.small,Rat.le_trans h.le hu⟩
variable{part:Rat}
def zkC(hp:0<=part)(n:Nat):zbi (part*(1/(n:Rat)))*(n:Rat)<=part:=by
 have h1:=zhe (zeB hp n);by_cases hn:n=0
 ·subst hn;have:((0:Nat):Rat)=0:=rfl;rw[this,Rat.mul_zero];exact hp
 ·have oo:(n:Rat)≠0:=by
   have:=ratI (n:=(n:Int)) McS;rwa [Rat.intCast_natCast]at this
  have h2:part*(1/(n:Rat))*(n:Rat)=part:=by
   rw[zk7];exact Rat.div_mul_cancel oo
  have h3:=Rat.mul_le_mul_of_nonneg_right h1 (Rat.natCast_nonneg (a:=n));rw[h2]at h3;exact h3
def zg2(n:Nat):((n+1:Nat):Rat)=(n:Rat)+1:=by
 rw[Rat.natCast_add];rfl
mutual
def zhV{part:Rat}(hp:0<=part):∀ {l:List Tree} {out:Parts} {fl:Bool} {t:Rat},Bd out t->Bd (zbM part l (out,fl)).1 (t+part*(l.length:Rat))
 | [],out,fl,t,h=>by
   rw[zbM];have e:((([]:List Tree).length:Nat):Rat)=0:=rfl;rw[e,Rat.mul_zero,Rat.add_zero];exact h
 |x::l,out,fl,t,h=>by
  rw[zbM];have h1:=zhV hp (l:=l) (fl:=(zdS part x (out,fl)).2) (tree_bd hp (t':=x) (fl:=fl) h);rw[List.length_cons,zg2];exact h1.up6 Mdl
def tree_bd{part:Rat}(hp:0<=part):∀ {t':Tree} {out:Parts} {fl:Bool} {t:Rat},Bd out t->Bd (zdS part t' (out,fl)).1 (t+part)
 | .leaf n,out,fl,t,h=>by
   rw[zdS];exact zfA h hp
 | .node l,out,fl,t,h=>by
   rw[zdS];have h1:=zhV (zcw (zeB hp l.length)) (l:=l) (fl:=fl||bigQ (part*(1/(l.length:Rat)))) h;have h2:=zkC hp l.length;exact h1.up6 Mdl
end
def WideN:Nat->List Tree->Prop
 |0,l=>l=[]
 |f+1,l=>l.length<=1000/\∀l',Tree.node l'∈l->WideN f l'
def zjW{s:St}{stems:Bool}{frm:ByteArray}(hl:s.children.length<=1000):∀(f:Nat) (n:ByteArray),WideN f (zb6 s stems frm f n)
 |0,_=>rfl
 |f+1,n=>by
  refine⟨?_,λl' hm=>?_⟩
  ·unfold zb6;refine Nat.le_trans (List.length_filterMap_le _ _) ?_;exact Mby
  ·unfold zb6 at hm;obtain⟨c,_,hc⟩:=List.mem_filterMap.1 hm;split at hc
   ·simp at hc
   ·split at hc
    ·simp only[Option.some.injEq,Tree.node.injEq]at hc;rw[<-hc];exact zjW hl f c
    ·cases hc
def zhW{n:Nat}(h:0<n):((1:Rat)/(n:Rat)).num=1/\(((1:Rat)/(n:Rat)).den:Int)=n/\0<=(1:Rat)/(n:Rat)/\(1:Rat)/(n:Rat)<=1:=by
 have hs:za8 (n:Int) 1 (n:Int)=true:=by
  unfold za8;simp;omega
 have:=zbl hs;rw[Rat.divInt_eq_div,Rat.intCast_natCast]at this;exact this
def zlJ{n:Nat}(h:0<n)(h1:n<=1000):zaJ ((1:Rat)/(n:Rat)):=by
 obtain⟨h2,h3,h4,h5⟩:=zhW h;exact zca h4 h5 (by unfold bigQ;rw[h3];simp;omega)
def part_ok{q:Rat}(h0:0<=q)(h1:q<=1){n:Nat}(hn:0<n):0<=zbi (q*(1/(n:Rat)))/\zbi (q*(1/(n:Rat)))<=1/\zaJ (zbi (q*(1/(n:Rat))))/\zbi (q*(1/(n:Rat)))*(n:Rat)<=q:=by
 have h2:=zcw (zeB h0 n);have h3:=zkC h0 n;have h4:zbi (q*(1/(n:Rat)))<=zbi (q*(1/(n:Rat)))*(n:Rat):=by
  have h5:(1:Rat)<=(n:Rat):=by
   have:((1:Nat):Rat)<=(n:Rat):=Rat.natCast_le_natCast.2 hn;exact this
  have:=Rat.mul_le_mul_of_nonneg_left h5 h2;rwa [Rat.mul_one]at this
 have h6:zbi (q*(1/(n:Rat)))<=1:=Rat.le_trans h4 (Rat.le_trans h3 h1);exact⟨h2,h6,zca h2 h6 (zgn _),h3⟩
variable{k:Nat}
def take_le(hp:0<=part){n:Nat}(h:k<=n):part*(k:Rat)<=part*(n:Rat):=
 Rat.mul_le_mul_of_nonneg_left (Rat.natCast_le_natCast.2 h) hp
def znj(part:Rat)(l:List Tree)(x:Parts×Bool)(h:k<l.length):zbM part (l.take (k+1)) x=zdS part l[k] (zbM part (l.take k) x):=by
 rw[List.take_succ_eq_append_getElem h,zgt,zbM,zbM]
open Go.Shelf
def recLens(l:List Rec):Prop:= ∀x∈l,x.name.size<=100000/\x.other.size<=100000/\x.place.size<=100000
def zhD(l:List Rec)(A:Option Addr)(n c:Nat)(w:World)(hn:n=l.length)(hc:n<=c)(hz:recLens l)(hS:Sl w 8 Rec.cells A l):Calls Tryz.prog 36 #[.slice A n c] w (Ret w (.int .i64 (zf0 l))):=by
 subst hn;have HS:=zHi hS;obtain⟨R,hR⟩:=Qd (zf0 l)
 rw[<-hR];unfold zf0 at hR;by_cases Ak:40<l.length
 ·rw[if_pos (by simpa using Ak)]at hR;subst hR;have h4:(40:Int)<(l.length:Int):=McS;clear hS;go_enter Tryz.func36,Tryz.ntmps36
  exact Maz
 ·rw[if_neg (by simpa using Ak)]at hR;have h4:¬(40:Int)<(l.length:Int):=McS;have HR:=zHi hR;clear hS hR;go_enter Tryz.func36,Tryz.ntmps36
  go_wp2_with fail
  go_loopw [11] (λi wr=>∃k:Nat,k<=l.length/\i=.int .i64 k/\Hid (R=zgi zcu (l.drop k))/\Qa w wr) (λi _=>l.length-(intOf i).toNat)
  case atStart=>exact⟨0,Nat.zero_le _,rfl,by show _=_;rw[HR.o,List.drop_zero],Qb⟩
  case round=>
   obtain⟨k,hk,rfl,HX,hB⟩:=hrel;have HB:=zHi hB;by_cases ae:k<l.length
   ·obtain⟨b,off,rfl,hb,ah⟩:=(HS.o.keep hB).at ae;have hx:=HX.o;rw[List.drop_eq_getElem_cons ae,zgi]at hx;obtain⟨z1,z2,z3⟩:=hz l[k] (List.getElem_mem ae);have hck:=λW=>ziM l[k] W z1 z2 z3
    generalize l[k]=x at*;obtain⟨aw,jq,aj⟩:=yH3 hx hck ae;unfold Rec.v at jq;generalize zcu x=er at*;obtain⟨kd,nm,ot,pl,dy,tl,nu,de⟩:=x;have i0:wr.cell? ⟨b,off+k*8,none⟩=some (.int .i64 kd):=ah 0 _ rfl;have i1:wr.cell? ⟨b,off+k*8+1,none⟩=some (.string nm):=ah 1 _ rfl;have i2:wr.cell? ⟨b,off+k*8+2,none⟩=some (.string ot):=ah 2 _ rfl;have i3:wr.cell? ⟨b,off+k*8+3,none⟩=some (.string pl):=ah 3 _ rfl;have i4:wr.cell? ⟨b,off+k*8+4,none⟩=some (.int .i64 dy):=ah 4 _ rfl;have i5:wr.cell? ⟨b,off+k*8+5,none⟩=some (.int .i64 tl):=ah 5 _ rfl;have i6:wr.cell? ⟨b,off+k*8+6,none⟩=some (.int .i64 nu):=ah 6 _ rfl;have i7:wr.cell? ⟨b,off+k*8+7,none⟩=some (.int .i64 de):=ah 7 _ rfl;have au:(k:Int)<(l.length:Int):=McS;have aR:(0:Int)<=(k:Int):=McS;have fZ:(k:Int)<=(c:Int):=McS;have aM:=hB.size;clear ah hx hck HX hB;by_cases h0:er=0
    ·subst h0;go_wp2_with (go_at_call 65;go_must(refine(jq.o _).mono ?_);rintro e wq ⟨rfl,z,rfl⟩)
     go_round
     case rel=>exact⟨k+1,aj.o,by go_num,by show _=_;rw[aw.o];rfl,HB.o.trans (Below.mono (B:=wr.heap.size) Bw aM)⟩
     case measure=>have:=aj.o;simp only[intOf];omega
    ·have cn:Hid (R=er):=by show _=_;rw[aw.o,if_pos MdX]
     go_wp2_with (go_at_call 65;go_must(refine(jq.o _).mono ?_);rintro e wq ⟨rfl,z,rfl⟩)
     go_ret
     exact Ret.of (zb7 cn.o.symm) (HB.o.trans (Below.mono (B:=wr.heap.size) Bw aM))
   ·have au:¬(k:Int)<(l.length:Int):=McS;have hx:=HX.o;rw[List.drop_eq_nil_of_le McS,zgi]at hx;have cn:Hid (R=0):=hx;clear hx hB;go_wp2_with fail
    go_ret
    exact Ret.of (zb7 cn.o.symm) HB.o
def intC(n:Nat):List Value:=[.int .i64 (n:Int)]
def zg3(n:Nat):(intC n).length=1:=rfl
def intC_one(n:Nat):∀u∈intC n,u.oneCell'=true:=by simp[intC,Value.oneCell']
def zg4(x:Rec):(Rec.cells x).length=8:=rfl
def recC_one(x:Rec):∀u∈Rec.cells x,u.oneCell'=true:=by simp[Rec.cells,Value.oneCell']
def elRec:ElTy Tryz.prog 53 52 8 88:=zdm (z:=.agg #[.int .i64 0,.string ⟨#[]⟩,.string ⟨#[]⟩,.string ⟨#[]⟩,.int .i64 0,.int .i64 0,.int .i64 0,.int .i64 0]) McT McT rfl McU
def of_snoc{l:List Rec}{set:List Nat}(hk:k<set.length)(hl:set[k]<l.length):ofP l (set.take (k+1))=ofP l (set.take k)++[l[set[k]]]:=by
 unfold ofP;rw[List.take_succ_eq_append_getElem hk,List.filterMap_append];simp[List.getElem?_eq_getElem hl]
def of_len(l:List Rec)(set:List Nat):(ofP l set).length<=set.length:=List.length_filterMap_le _ _
variable{w:World}{b:Nat}{t:TypeId}{fr:Nat×Nat}
def sl_rec{x:Rec}(h:w.heap[b]?=some (.cells (Rec.cells x).toArray t fr)):Sl w 8 Rec.cells (some ⟨b,0,none⟩) [x]:=λ_=>⟨b,0,rfl,zab h,λk y hy j u hu=>by
 have hk:k=0:=Mc2;subst hk;simp only[List.getElem?_cons_zero,Option.some.injEq]at hy;subst hy;simp only[World.cell?,h,Nat.zero_mul,Nat.zero_add,Nat.add_zero]
 simpa using hu⟩
def some_any(l:List Rec)(set:List Nat)(A:Option Addr)(c:Nat)(SA:Option Addr)(sc:Nat)(w:World)(hc:l.length<=c)(bY:set.length<=sc)(aZ:set.length<=1000)(aQ:∀i∈set,i<l.length)(hS:Sl w 8 Rec.cells A l)(hT:Sl w 1 intC SA set):
 Calls Tryz.prog 40 #[.slice A l.length c,.slice SA set.length sc] w (λe w'=>∃v,e=.returned v/\OwnS w' w.heap.size 52 8 Rec.cells v (ofP l set)/\Qa w w'):=by
 obtain⟨HS,HT,bI⟩:=yH3 hS hT aQ;clear hS hT aQ;go_enter Tryz.func40,Tryz.ntmps40
 go_wp2_with fail
 go_loopw [5,10] (λv i wr=>∃k:Nat,k<=set.length/\i=.int .i64 k/\OwnS wr w.heap.size 52 8 Rec.cells v (ofP l (set.take k))/\Qa w wr) (λ_ i _=>set.length-(intOf i).toNat)
 case atStart=>exact⟨0,Nat.zero_le _,rfl,OwnS.nil,Qb⟩
 case round=>
  obtain⟨k,hk,rfl,aa,hB⟩:=hrel;obtain⟨VA,vc,rfl,_,gu⟩:=aa.sl zg4;obtain⟨HO,HB⟩:=yH2 aa hB;have aM:=hB.size;by_cases ae:k<set.length
  ·obtain⟨b,off,rfl,hb,ah⟩:=(HT.o.keep hB).at ae;have hi:=bI.o set[k] (List.getElem_mem ae);have bC:=of_snoc ae hi;have i0:wr.cell? ⟨b,off+k,none⟩=some (.int .i64 (set[k]:Int)):=Mdk;have kQ:=of_len l (set.take k);rw[List.length_take]at kQ;have cM:=zHi bC;clear bC ah;generalize set[k]=m at*;obtain⟨rb,roff,rfl,yV,pE⟩:=(HS.o.keep hB).at hi;have aj:=zHi ae;generalize l[m]=x at*;generalize ofP l (set.take k)=acc at*;obtain⟨kd,nm,ot,pl,dy,tl,nu,de⟩:=x;have j0:wr.cell? ⟨rb,roff+m*8,none⟩=some (.int .i64 kd):=pE 0 _ rfl;have j1:wr.cell? ⟨rb,roff+m*8+1,none⟩=some (.string nm):=pE 1 _ rfl;have j2:wr.cell? ⟨rb,roff+m*8+2,none⟩=some (.string ot):=pE 2 _ rfl;have j3:wr.cell? ⟨rb,roff+m*8+3,none⟩=some (.string pl):=pE 3 _ rfl;have j4:wr.cell? ⟨rb,roff+m*8+4,none⟩=some (.int .i64 dy):=pE 4 _ rfl;have j5:wr.cell? ⟨rb,roff+m*8+5,none⟩=some (.int .i64 tl):=pE 5 _ rfl;have j6:wr.cell? ⟨rb,roff+m*8+6,none⟩=some (.int .i64 nu):=pE 6 _ rfl;have j7:wr.cell? ⟨rb,roff+m*8+7,none⟩=some (.int .i64 de):=pE 7 _ rfl;have au:(k:Int)<(set.length:Int):=McS;have aR:(0:Int)<=(k:Int):=McS;have fZ:(k:Int)<=(sc:Int):=McS;have iw:(m:Int)<(l.length:Int):=McS;have nv:(0:Int)<=(m:Int):=McS;have te:(m:Int)<=(c:Int):=McS;have fV:acc.length<=1000:=McS;clear pE aa hB kQ
   go_wp2_with (at_builtin
                go_loud(refine zar (v:=.slice VA acc.length vc) (n:=acc.length) (m:=1) rfl _ _ rfl elRec zg4 recC_one rfl (xs:=acc) (ys:=[⟨kd,nm,ot,pl,dy,tl,nu,de⟩]) (HO.o.keep (n:=wr.heap.size) Bw) rfl rfl rfl (sl_rec (zas _ _ _ rfl)) Mc8 McS McX ?_)
                intro v3 w3 h1 h2 h3;have ax:=Below.grown (B:=w.heap.size) (a:=w) (HB.o.trans (Below.mono (B:=wr.heap.size) (zad Qb _) aM)) h2 McX (λj hj=>(HO.o.ge j hj).1);obtain⟨H1,aG⟩:=yH2 h1 ax
                clear h1 h2 h3 ax)
   go_round
   case rel=>exact⟨k+1,aj.o,by go_num,by rw[cM.o];exact H1.o,aG.o⟩
   case measure=>have:=aj.o;simp only[intOf];omega
  ·have au:¬(k:Int)<(set.length:Int):=McS;have xW:set.take k=set:=List.take_of_length_le McS;clear aa;generalize br:ofP l (set.take k)=xs at*;rw[xW]at br;subst br;clear xW;go_wp2_with fail
   go_ret
   exact⟨_,rfl,HO.o,HB.o⟩
structure DV where
 d:Deed
 B:Option Addr
 c:Nat
def DV.cells(x:DV):List Value:=[.int .i64 x.d.kind,.int .i64 x.d.day,.string x.d.place,.string x.d.frm,.slice x.B x.d.to.length x.c,.int .i64 x.d.cls,.int .i64 x.d.years]
def zch(x:DV):x.cells.length=7:=rfl
def zg5(x:DV):∀u∈x.cells,u.oneCell'=true:=by simp[DV.cells,Value.oneCell']
def rp_len(x:RPart):x.cells.length=3:=rfl
def rp_one(x:RPart):∀u∈x.cells,u.oneCell'=true:=by simp[RPart.cells,Value.oneCell']
def lw_one(x:Law):∀u∈x.cells,u.oneCell'=true:=by simp[Law.cells,Value.oneCell']
def elRPart:ElTy Tryz.prog 36 55 3 32:=zdm (z:=.agg #[.string ⟨#[]⟩,.int .i64 0,.int .i64 0]) McT McT rfl McU
def elLaw:ElTy Tryz.prog 22 94 4 32:=zdm (z:=.agg #[.int .i64 0,.bool false,.int .i64 0,.int .i64 0]) McT McT rfl McU
def zg6:ElTy Tryz.prog 23 60 7 88:=zdm (z:=.agg #[.int .i64 0,.int .i64 0,.string ⟨#[]⟩,.string ⟨#[]⟩,.slice none 0 0,.int .i64 0,.int .i64 0]) McT McT rfl McU
def made_part(W:World):OwnS (W.alloc (.cells #[] 55)) W.heap.size 55 3 RPart.cells (.slice (some ⟨W.heap.size,0,none⟩) 0 0) []:=
 OwnS.of_own rp_len (World.ownsRow_made W #[] 0 Qc (Nat.zero_le _) McV)
def made_law(W:World):OwnS (W.alloc (.cells #[] 94)) W.heap.size 94 4 Law.cells (.slice (some ⟨W.heap.size,0,none⟩) 0 0) []:=
 OwnS.of_own (λ_=>rfl) (World.ownsRow_made W #[] 0 Qc (Nat.zero_le _) McV)
def zc0{g:Nat}{z0 z1 z2 z3 z4 z5 z6 a b c d e f h':Value}(h:w.heap[g]?=some (.cells #[z0,z1,z2,z3,z4,z5,z6] t fr)):
 (((((((w.setCell ⟨g,0,none⟩ a).setCell ⟨g,1,none⟩ b).setCell ⟨g,2,none⟩ c).setCell ⟨g,3,none⟩ d).setCell ⟨g,4,none⟩ e).setCell ⟨g,5,none⟩ f).setCell ⟨g,6,none⟩ h').heap[g]?=some (.cells #[a,b,c,d,e,f,h'] t fr):=by
 have:=Joins.block_setCell (i:=6) (Joins.block_setCell (i:=5) (Joins.block_setCell (i:=4) (Joins.block_setCell (i:=3) (Joins.block_setCell (i:=2) (Joins.block_setCell (i:=1) (Joins.block_setCell (i:=0) h a) b) c) d) e) f) h';simpa using this
variable{fn:Func}{p:Tmp}
def zlK(h:fn.results= #[.cell p 60])(tmps:Array Value)(w:World)(B:Nat)(x0 x1 x2 x3 x4 x5 x6:Value)(hp:tmps.getD p undef=.pointer (some ⟨B,0,none⟩))
 (hx:w.heap[B]?=some (.cells #[x0,x1,x2,x3,x4,x5,x6] 60)):(results fn tmps).run Tryz.prog w=.ok (.agg #[x0,x1,x2,x3,x4,x5,x6]) w:=by
 obtain⟨h0,h1,h2,h3,h4,h5,h6⟩:=cF7 hx;exact Mbo
def zox(w:World)(d:Deed)(e:Ending)(w':World):Prop:=
 ∃B c,e=.returned (d.v B c)/\d.to.length<=c/\Ro w' 55 RPart.cells B d.to/\Qa w w'
def deed_any(d:Deed)(B:Option Addr)(c:Nat)(w:World)(hl:d.to.length<=100000)(hS:Sl w 3 RPart.cells B d.to):Calls Tryz.prog 25 #[d.v B c] w (zox w d):=by
 obtain⟨kd,dy,pl,fr,ts,cl,yr⟩:=d;have HS:=zHi hS;unfold zox Deed.v;simp only at hl hS⊢;clear hS;go_enter Tryz.func25,Tryz.ntmps25
 go_upto_region 1 with fail
 obtain⟨W1,aX⟩:=Qd ((w.alloc (.cells #[.int .i64 kd,.int .i64 dy,.string pl,.string fr,.slice B ts.length c,.int .i64 cl,.int .i64 yr] 60)).alloc (.cells #[.int .i64 0,.int .i64 0,.string ⟨#[]⟩,.string ⟨#[]⟩,.slice none 0 0,.int .i64 0,.int .i64 0] 60))
 have b0:W1.heap[w.heap.size]?=some (.cells #[.int .i64 kd,.int .i64 dy,.string pl,.string fr,.slice B ts.length c,.int .i64 cl,.int .i64 yr] 60):=by rw[aX];exact zal (zas _ _ _ rfl)
 have r0:W1.heap[w.heap.size+1]?=some (.cells #[.int .i64 0,.int .i64 0,.string ⟨#[]⟩,.string ⟨#[]⟩,.slice none 0 0,.int .i64 0,.int .i64 0] 60):=by rw[aX];exact zas _ _ _ McV
 have cV:Qa w W1:=by rw[aX];exact Bw
 rw[<-aX];have aL:=zHi cV;clear aX cV;have l0:=zab b0;have l1:=zab r0;obtain⟨-,-,-,-,c4⟩:=cF5 b0;have bH:w.heap.size+1+1<=W1.heap.size:=McS;have eM:=zHi bH;clear bH
 go_upto_region 2 with(at_builtin
                       go_loud(refine zar (v:=.slice (some ⟨W1.heap.size,0,none⟩) 0 0) (n:=0) (m:=ts.length) rfl _ _ rfl elRPart rp_len rp_one rfl (xs:=[]) (ys:=ts) (made_part W1) rfl rfl rfl (HS.o.keep (aL.o.trans (Below.mono (B:=W1.heap.size) Bw aL.o.size))) Mdf McS McV ?_)
                       intro v2 w2 h1 h2 h3;rw[List.nil_append]at h1;have e1:w2.heap[w.heap.size]?=_:=(h2.block w.heap.size McX Md5).trans (zal b0);have e2:w2.heap[w.heap.size+1]?=_:=(h2.block (w.heap.size+1) McX Md5).trans (zal r0);have bM:Qa W1 w2:=Below.grown (zad Qb _) h2 McV Mdx;obtain⟨A2,c2,rfl,cD,s2⟩:=h1.ro;have f4:w2.frozen? ⟨w.heap.size,4,none⟩=false:=by simp[World.frozen?,e1]
                       obtain⟨-,-,-,-,k4⟩:=cF5 e1
                       clear h1 h2 h3)
 have kf:=zHi (cD);obtain⟨W3,bv⟩:=Qd (w2.setCell ⟨w.heap.size,4,none⟩ (.slice A2 ts.length c2))
 have b3:W3.heap[w.heap.size]?=some (.cells #[.int .i64 kd,.int .i64 dy,.string pl,.string fr,.slice A2 ts.length c2,.int .i64 cl,.int .i64 yr] 60):=by
  rw[bv];have:=Joins.block_setCell (i:=4) e1 (.slice A2 ts.length c2);simpa using this
 have r3:W3.heap[w.heap.size+1]?=some (.cells #[.int .i64 0,.int .i64 0,.string ⟨#[]⟩,.string ⟨#[]⟩,.slice none 0 0,.int .i64 0,.int .i64 0] 60):=by rw[bv];exact J_ne McS e2
 have s3:Ro W3 55 RPart.cells A2 ts:=by rw[bv];exact s2.kept (za1 _ _ _ _) e1 McU
 have fg:Qa w W3:=by rw[bv];exact zaS (aL.o.trans (bM.mono aL.o.size)) McV _
 rw[<-bv];obtain⟨S3,aG⟩:=yH2 s3 fg;clear bv fg s3 s2 e1 e2 f4 k4 bM b0 r0 c4 l0 l1;obtain⟨g0,g1,g2,g3,g4,g5,g6⟩:=cF7 b3;obtain⟨t0,t1,t2,t3,t4,t5,t6⟩:=cF7 r3;have f0:∀j,W3.frozen? ⟨w.heap.size+1,j,none⟩=false:=λj=>by simp[World.frozen?,r3]
 go_wp2_with fail
 refine bodyPost_ret (v:=.agg #[.int .i64 kd,.int .i64 dy,.string pl,.string fr,.slice A2 ts.length c2,.int .i64 cl,.int .i64 yr]) ?_ rfl ?_
 ·exact zlK rfl _ _ (w.heap.size+1) _ _ _ _ _ _ _ rfl (zc0 r3)
 ·exact⟨A2,c2,rfl,cD,(((((((S3.o.kept (za1 _ _ _ _) r3 McU).kept (za1 _ _ _ _) (Joins.block_setCell (i:=0) r3 _) McU).kept (za1 _ _ _ _) (Joins.block_setCell (i:=1) (Joins.block_setCell (i:=0) r3 _) _) McU).kept (za1 _ _ _ _) (Joins.block_setCell (i:=2) (Joins.block_setCell (i:=1) (Joins.block_setCell (i:=0) r3 _) _) _) McU).kept (za1 _ _ _ _) (Joins.block_setCell (i:=3) (Joins.block_setCell (i:=2) (Joins.block_setCell (i:=1) (Joins.block_setCell (i:=0) r3 _) _) _) _) McU).kept (za1 _ _ _ _) (Joins.block_setCell (i:=4) (Joins.block_setCell (i:=3) (Joins.block_setCell (i:=2) (Joins.block_setCell (i:=1) (Joins.block_setCell (i:=0) r3 _) _) _) _) _) McU).kept (za1 _ _ _ _) (Joins.block_setCell (i:=5) (Joins.block_setCell (i:=4) (Joins.block_setCell (i:=3) (Joins.block_setCell (i:=2) (Joins.block_setCell (i:=1) (Joins.block_setCell (i:=0) r3 _) _) _) _) _) _) McU),zaS (zaS (zaS (zaS (zaS (zaS (zaS aG.o McV _) McV _) McV _) McV _) McV _) McV _) McV _⟩
variable{α:Type}{W:World}{base:Nat}{e:TypeId}{size:Nat}{f:α->List Value}{v:Value}{xs:List α}{cs:Array Value}
def own_neC{T:Nat}(h:OwnS W base e size f v xs)(hT:W.heap[T]?=some (.cells cs t fr))(ai:t≠e):za4 v≠some T:=by
 exact M8
variable{A:Option Addr}
def zoy{β:Type}{W':World}{e':TypeId}{g:β->List Value}{ys:List β}(h:Ro W e' f A xs)(aa:OwnS W base e size g v ys)(hg:W.grownBy W' (za4 v))(ai:e'≠e):Ro W' e' f A xs:=
 h.same λb cur fr hb _=>hg.block b (zab hb) (Ne.symm (own_neC aa hb ai))
def ziN(ag:∀x,(f x).length=size)(h:w.heap[b]?=some (.cells cs t fr))(hc:xs.flatMap f=cs.toList):Sl w size f (some ⟨b,0,none⟩) xs:=λ_=>
 ⟨b,0,rfl,zab h,λk x hk j u hu=>by
   have:=zeU f size ag xs k x hk j u hu;rw[hc]at this;simp only[World.cell?,h,Nat.zero_add]
   simpa using this⟩
def ziO(h:fn.results= #[.cell p 25])(tmps:Array Value)(w:World)(B:Nat)(x0 x1:Value)(hp:tmps.getD p undef=.pointer (some ⟨B,0,none⟩))
 (hx:w.heap[B]?=some (.cells #[x0,x1] 25)):(results fn tmps).run Tryz.prog w=.ok (.agg #[x0,x1]) w:=by
 obtain⟨h0,h1⟩:=cF2 hx;exact Mbo
def slw_of{xs:List DV}{ds:List Deed}(h:Sl W 7 DV.cells A xs)(hm:xs.map (·.d)=ds)(hp:∀x∈xs,x.d.to.length<=x.c/\Sl W 3 RPart.cells x.B x.d.to):SlW W 7 zfG A ds:=λhl=>by
 subst hm;obtain⟨b,off,hA,hb,hc⟩:=h (by simpa using hl);refine⟨b,off,hA,hb,λk x hk=>?_⟩;rw[List.getElem?_map]at hk;obtain⟨y,hy,rfl⟩:=Option.map_eq_some_iff.1 hk;have:=hp y (List.mem_of_getElem? hy);exact⟨y.cells,⟨y.B,y.c,this.1,rfl,this.2⟩,λj u hu=>hc k y hy j u hu⟩
def zg7(w:World)(xs:Parts)(e:Ending)(w':World):Prop:= ∃v,e=.returned v/\OwnS w' w.heap.size 55 3 zaa v xs/\Qa w w'
def zdf{x:ByteArray×Rat}(h:w.heap[b]?=some (.cells #[.string x.1,.int .i64 x.2.num,.int .i64 x.2.den] t fr)):Sl w 3 zaa (some ⟨b,0,none⟩) [x]:=λ_=>
 ⟨b,0,rfl,zab h,λk y hk j u hu=>by
   match k,hk with
   |0,hk=>
    obtain rfl:x=y:=by simpa using hk
    simp only[World.cell?,h];match j,hu with
    |0,hu|1,hu|2,hu=>exact hu⟩
variable{l:Parts}
def zpi(h:k<l.length):zaE (l.drop k)=(bigQ l[k].2||zaE (l.drop (k+1))):=by
 rw[List.drop_eq_getElem_cons h];rfl
def zdJ(l:Parts)(A:Option Addr)(c:Nat)(w:World)(hl:l.length<=1000000000)(hS:Sl w 3 zaa A l):Calls Tryz.prog 165 #[.slice A l.length c] w (Ret0 w (.bool (zaE l))):=by
 have HS:=zHi hS;obtain⟨R,hR⟩:=Qd (zaE l)
 rw[<-hR];have HR:=zHi hR;clear hS hR;go_enter Tryz.func165,Tryz.ntmps165
 go_upto_region 2 with fail
 go_loopw [3] (λi wr=>∃k:Nat,k<=l.length/\i=.int .i64 k/\w=wr/\Hid (R=zaE (l.drop k))) (λi _=>l.length-(intOf i).toNat)
 case atStart=>exact⟨0,Nat.zero_le _,rfl,rfl,HR.o⟩
 case round=>
  obtain⟨k,hk,rfl,rfl,HX⟩:=hrel;by_cases ae:k<l.length
  ·obtain⟨b,off,rfl,hb,ah⟩:=HS.o.at ae;have hx:=HX.o;rw[zpi ae]at hx;obtain⟨aw,aj⟩:=yH2 hx ae;generalize l[k]=x at*;obtain⟨nm,q⟩:=x;have i2:w.cell? ⟨b,off+k*3+2,none⟩=some (.int .i64 q.den):=ah 2 _ rfl;have au:(k:Int)<(l.length:Int):=McS;have aR:(0:Int)<=(k:Int):=McS;clear ah hx ae;by_cases hs:1000000000<(q.den:Int)
   ·have HE:Hid (R=true):=by show _=_;rw[aw.o];simp[bigQ,hs]
    exact Mac
   ·have HE:Hid (R=zaE (l.drop (k+1))):=by show _=_;rw[aw.o];simp[bigQ,hs]
    go_wp2_with fail
    exact ML
  ·have au:¬(k:Int)<(l.length:Int):=McS;have HE:Hid (R=false):=by show _=_;rw[HX.o,List.drop_of_length_le McS];rfl
   exact Mac
def zh4(h:k<l.length):za0 (l.take (k+1)) n=za0 (l.take k) n++(if zae l[k].1 n then[]else[l[k]]):=by
 unfold za0;rw[List.take_add_one,List.getElem?_eq_getElem h,List.filter_append];simp only[Option.toList_some,List.filter_cons,List.filter_nil];cases zae l[k].1 n<;>rfl
def zh5(l:Parts)(n:ByteArray)(A:Option Addr)(c:Nat)(w:World)(hl:l.length<=100000)(hS:Sl w 3 zaa A l):Calls Tryz.prog 162 #[.slice A l.length c,.string n] w (zg7 w (za0 l n)):=by
 have HS:=zHi hS;unfold zg7;clear hS;go_enter Tryz.func162,Tryz.ntmps162
 go_upto_region 3 with fail
 go_loopw [5,6] (λv i wr=>∃k:Nat,k<=l.length/\i=.int .i64 k/\OwnS wr w.heap.size 55 3 zaa v (za0 (l.take k) n)/\Qa w wr) (λ_ i _=>l.length-(intOf i).toNat)
 case atStart=>exact⟨0,Nat.zero_le _,rfl,OwnS.nil,Qb⟩
 case round=>
  obtain⟨k,hk,rfl,aa,hB⟩:=hrel;have aM:=hB.size;obtain⟨HO,HB⟩:=yH2 aa hB;by_cases ae:k<l.length
  ·have aq:=zh4 (n:=n) ae;have bx:(za0 (l.take k) n).length<=100000:=by
    exact Ma9
   generalize za0 (l.take k) n=xs at*;obtain⟨VA,vc,rfl,_,gu⟩:=aa.sl zak;obtain⟨b,off,rfl,hb,ah⟩:=(HS.o.keep hB).at ae;have aj:=zHi ae;generalize l[k]=x at*;obtain⟨nm,q⟩:=x;have i0:wr.cell? ⟨b,off+k*3,none⟩=some (.string nm):=ah 0 _ rfl;have i1:wr.cell? ⟨b,off+k*3+1,none⟩=some (.int .i64 q.num):=ah 1 _ rfl;have i2:wr.cell? ⟨b,off+k*3+2,none⟩=some (.int .i64 q.den):=ah 2 _ rfl;have au:(k:Int)<(l.length:Int):=McS;have aR:(0:Int)<=(k:Int):=McS;have dw:=zHi bx;clear ah ae aa hB bx;cases hs:zae nm n
   ·have aK:Hid (za0 (l.take (k+1)) n=xs++[(nm,q)]):=Meq;have bi:(nm.toList==n.toList)=false:=hs;clear aq hs
    go_wp2_with (at_builtin
                 go_loud(refine zar (v:=.slice VA xs.length vc) (n:=xs.length) (m:=1) rfl _ _ rfl zdR zak zcc rfl (xs:=xs) (ys:=[(nm,q)]) (HO.o.keep (n:=wr.heap.size) Bw) rfl rfl rfl (zdf (zas _ _ _ rfl)) Mdr Mdw McX ?_)
                 intro v3 w3 h1 h2 h3;have ax:=Below.grown (B:=w.heap.size) (a:=w) (HB.o.trans (Below.mono (B:=wr.heap.size) (zad Qb _) aM)) h2 McX (λj hj=>(HO.o.ge j hj).1);obtain⟨H1,aG⟩:=yH2 h1 ax
                 clear h1 h2 h3 ax)
    exact Mao
   ·have aK:Hid (za0 (l.take (k+1)) n=xs):=Meq;have bi:(nm.toList==n.toList)=true:=hs;exact MaW
  ·exact Ma2
def zoz(w:World)(ls:List Law)(ds:List Deed)(e:Ending)(w':World):Prop:=
 ∃A nc B mc,e=.returned (.agg #[.slice A ls.length nc,.slice B ds.length mc])/\RightsIn w' ls ds A ls.length nc B ds.length mc/\Qa w w'
def CopyOwn(w:World)(ls:List Law)(ds:List Deed)(e:Ending)(w':World):Prop:=
 ∃A nc B mc base xs,e=.returned (.agg #[.slice A ls.length nc,.slice B ds.length mc])/\ls.length<=nc/\Ro w' 94 Law.cells A ls/\xs.map DV.d=ds/\(∀x∈xs,x.d.to.length<=x.c/\Ro w' 55 RPart.cells x.B x.d.to)/\OwnS w' base 60 7 DV.cells (.slice B ds.length mc) xs/\w.heap.size<=base/\base<=w'.heap.size/\Qa w w'
def znk(ls:List Law)(ds:List Deed)(LA:Option Addr)(n nc:Nat)(DA:Option Addr)(m mc:Nat)(w:World)(hR:RightsIn w ls ds LA n nc DA m mc)(hl:ls.length<=1000)(hd:ds.length<=1000)(ht:∀d∈ds,d.to.length<=100000):
 Calls Tryz.prog 7 #[.agg #[.slice LA n nc,.slice DA m mc]] w (CopyOwn w ls ds):=by
 obtain⟨rfl,rfl,yx,te,fT,gV⟩:=hR;obtain⟨eL,eW,HT⟩:=yH3 fT gV ht;clear fT gV ht;go_enter Tryz.func7,Tryz.ntmps7
 go_upto_region 1 with fail
 obtain⟨W1,aX⟩:=Qd ((w.alloc (.cells #[.slice LA ls.length nc,.slice DA ds.length mc] 25)).alloc (.cells #[.slice none 0 0,.slice none 0 0] 25))
 have b0:W1.heap[w.heap.size]?=some (.cells #[.slice LA ls.length nc,.slice DA ds.length mc] 25):=by rw[aX];exact zal (zas _ _ _ rfl)
 have r0:W1.heap[w.heap.size+1]?=some (.cells #[.slice none 0 0,.slice none 0 0] 25):=by rw[aX];exact zas _ _ _ McV
 have cV:Qa w W1:=by rw[aX];exact Bw
 rw[<-aX];have aL:=zHi cV;clear aX cV;have l0:=zab b0;have l1:=zab r0;obtain c0:=cF1 b0
 go_upto_region 2 with(at_builtin
                       go_loud(refine zar (v:=.slice (some ⟨W1.heap.size,0,none⟩) 0 0) (n:=0) (m:=ls.length) rfl _ _ rfl elLaw (λ_=>rfl) lw_one rfl (xs:=[]) (ys:=ls) (made_law W1) rfl rfl rfl (eL.o.keep (aL.o.trans (Below.mono (B:=W1.heap.size) Bw aL.o.size))) Mdf McS McV ?_)
                       intro v2 w2 h1 h2 h3;rw[List.nil_append]at h1;have e1:w2.heap[w.heap.size]?=_:=(h2.block w.heap.size McX Md5).trans (zal b0);have e2:w2.heap[w.heap.size+1]?=_:=(h2.block (w.heap.size+1) McX Md5).trans (zal r0);have bM:Qa W1 w2:=Below.grown (zad Qb _) h2 McV Mdx;obtain⟨A2,c2,rfl,cD,s2⟩:=h1.ro
                       clear h1 h2 h3)
 obtain⟨S2,aN⟩:=yH2 s2 (aL.o.trans (bM.mono aL.o.size));have bi:=aN.o.size;have m0:=zab e1;have m1:=zab e2;clear s2 bM aL b0 r0 c0 l0 l1 eL;obtain⟨OB,kh⟩:=Qd w2.heap.size
 have rR:Below OB w2 (w2.alloc (.cells #[.slice A2 ls.length c2,.slice none 0 0] 25)):=by rw[kh];exact Bw
 have o3:(w2.alloc (.cells #[.slice A2 ls.length c2,.slice none 0 0] 25)).heap[OB]?=some (.cells #[.slice A2 ls.length c2,.slice none 0 0] 25):=zas _ _ _ kh;go_upto_region 3 with fail
 rw[<-kh];have zZ:=zHi kh;go_loopw [4] (λi wr=>∃(k:Nat) (xs:List DV) (v:Value),k<=ds.length/\i=.int .i64 k/\Hid (xs.map (·.d)=ds.take k)/\Hid (∀x∈xs,x.d.to.length<=x.c/\Ro wr 55 RPart.cells x.B x.d.to)/\OwnS wr (OB+1) 60 7 DV.cells v xs/\wr.heap[OB]?=some (.cells #[.slice A2 ls.length c2,v] 25)/\Below OB w2 wr) (λi _=>ds.length-(intOf i).toNat)
 case atStart=>exact⟨0,[],.slice none 0 0,Nat.zero_le _,rfl,zHi McV,zHi McV,OwnS.nil,o3,rR⟩
 case round=>
  obtain⟨k,xs,v,hk,rfl,HM,HP,aa,ho,hB⟩:=hrel;have kQ:=zab ho;have fK:Qa w wr:=aN.o.trans (hB.mono McS);have aM:=fK.size;have b1:wr.heap[w.heap.size]?=some (.cells #[.slice LA ls.length nc,.slice DA ds.length mc] 25):=(hB.block _ McS).trans e1;have r1:wr.heap[w.heap.size+1]?=some (.cells #[.slice none 0 0,.slice none 0 0] 25):=(hB.block _ McS).trans e2;obtain⟨-,p2⟩:=cF2 b1;obtain⟨VA,vc,rfl,_,gu⟩:=aa.sl zch;have bx:xs.length=k:=by
   have:=congrArg List.length HM.o;simp at this;omega
  by_cases ae:k<ds.length
  ·obtain⟨b,off,cs,hA,hb,hr,ah⟩:=(eW.o.keep zbS fK).at ae;have fD:ds.take (k+1)=ds.take k++[ds[k]]:=by rw[List.take_add_one,List.getElem?_eq_getElem ae];rfl
   have cF:=HT.o _ (List.getElem_mem ae);have aj:=zHi ae;generalize ds[k]=x at*;obtain⟨B,c,hc,rfl,hS⟩:=hr;have mn:=zHi (λW' (h:Qa wr W')=>deed_any x B c W' cF (hS.keep h));unfold Deed.v at mn;subst hA;obtain⟨-,p1⟩:=cF2 ho;rw[bx]at p1;have i0:=ah 0 _ rfl;have i1:=ah 1 _ rfl;have i2:=ah 2 _ rfl;have i3:=ah 3 _ rfl;have i4:=ah 4 _ rfl;have i5:=ah 5 _ rfl;have i6:=ah 6 _ rfl;simp only[Nat.add_zero]at i0;have au:(k:Int)<(ds.length:Int):=McS;have aR:(0:Int)<=(k:Int):=McS;obtain⟨jx,dw,cR,Jm,HB⟩:=yH5 fD bx aa ho hB;have qE:w.heap.size<wr.heap.size:=McS
   have aJ:=zHi (λ(w':World) (h:Qa wr w')=>(show w'.cell? ⟨OB,1,none⟩=some (.slice VA k vc)/\w'.cell? ⟨w.heap.size,1,none⟩=some (.slice (some ⟨b,off,none⟩) ds.length mc)/\w'.cell? ⟨b,off+k*7,none⟩=some (.int .i64 x.kind)/\w'.cell? ⟨b,off+k*7+1,none⟩=some (.int .i64 x.day)/\w'.cell? ⟨b,off+k*7+2,none⟩=some (.string x.place)/\w'.cell? ⟨b,off+k*7+3,none⟩=some (.string x.frm)/\w'.cell? ⟨b,off+k*7+4,none⟩=some (.slice B x.to.length c)/\w'.cell? ⟨b,off+k*7+5,none⟩=some (.int .i64 x.cls)/\w'.cell? ⟨b,off+k*7+6,none⟩=some (.int .i64 x.years) from
    ⟨(zai h kQ).trans p1,(zai h qE).trans p2,(zai h hb).trans i0,(zai h hb).trans i1,(zai h hb).trans i2,(zai h hb).trans i3,(zai h hb).trans i4,(zai h hb).trans i5,(zai h hb).trans i6⟩))
   clear ah ae hS aa ho hB fD bx cF kh;go_upto_region 5 with fail
   refine za9 9 (λbb w'=>bb=true\/(w'.cell? ⟨OB,1,none⟩=some (.slice VA k vc)/\w'.cell? ⟨w.heap.size,1,none⟩=some (.slice (some ⟨b,off,none⟩) ds.length mc)/\w'.cell? ⟨b,off+k*7,none⟩=some (.int .i64 x.kind)/\w'.cell? ⟨b,off+k*7+1,none⟩=some (.int .i64 x.day)/\w'.cell? ⟨b,off+k*7+2,none⟩=some (.string x.place)/\w'.cell? ⟨b,off+k*7+3,none⟩=some (.string x.frm)/\w'.cell? ⟨b,off+k*7+4,none⟩=some (.slice B x.to.length c)/\w'.cell? ⟨b,off+k*7+5,none⟩=some (.int .i64 x.cls)/\w'.cell? ⟨b,off+k*7+6,none⟩=some (.int .i64 x.years))) McT (.inr (aJ.o _ (zaF Qb))) ?hrest
   case hrest=>
    intro hHeld;refine TkM 0 ?_;refine TkM 1 ?_;refine TkM 2 ?_;refine TkM 3 ?_;refine TkM 4 ?_;refine TkM 5 ?_;refine TkM 6 ?_;refine OnM 7 false λK hK=>?_
    go_simp
    refine(mn.o _ (zaF Qb)).mono ?_;rintro e w5 ⟨B5,c5,rfl,oa,ro5,ar⟩;unfold Deed.v;have cq:Qa wr w5:=(zaF Qb:Qa wr wr.drew).trans ar;refine NxM hK (λhHeld=>?_) (.inr (aJ.o _ cq));clear hK K;refine OnM 8 false λK hK=>?_
    go_simp
    have aS:Qa wr (w5.alloc (.cells #[.int .i64 x.kind,.int .i64 x.day,.string x.place,.string x.frm,.slice B5 x.to.length c5,.int .i64 x.cls,.int .i64 x.years] 60)):=zad cq _;have n6:(w5.alloc (.cells #[.int .i64 x.kind,.int .i64 x.day,.string x.place,.string x.frm,.slice B5 x.to.length c5,.int .i64 x.cls,.int .i64 x.years] 60)).heap[w5.heap.size]?=some (.cells #[.int .i64 x.kind,.int .i64 x.day,.string x.place,.string x.frm,.slice B5 x.to.length c5,.int .i64 x.cls,.int .i64 x.years] 60):=zas _ _ _ rfl;have ro6:Ro (w5.alloc (.cells #[.int .i64 x.kind,.int .i64 x.day,.string x.place,.string x.frm,.slice B5 x.to.length c5,.int .i64 x.cls,.int .i64 x.years] 60)) 55 RPart.cells B5 x.to:=ro5.keep (n:=w5.heap.size) (zad Qb _);refine NxM hK (λhHeld=>?_) (.inr (aJ.o _ aS));clear hK K;refine OnM 9 true λK hK=>?_
    generalize w5.alloc (.cells #[.int .i64 x.kind,.int .i64 x.day,.string x.place,.string x.frm,.slice B5 x.to.length c5,.int .i64 x.cls,.int .i64 x.years] 60)=W6 at*;have ow6:=cR.o.keep aS;refine zap (v:=.slice VA k vc) (n:=k) (m:=1) rfl _ _ rfl zg6 zch zg5 rfl (xs:=xs) (ys:=[⟨x,B5,c5⟩]) (by have:=ow6;rw[dw.o]at this;exact this) dw.o rfl rfl (ziN zch n6 (by simp[DV.cells])) Mdf McS Md6 ?_;intro v7 w7 h1 h2 h3;obtain⟨A7,c7,kU,_,_⟩:=h1.sl zch;rw[List.length_append]at kU;subst kU;have ow7:OwnS W6 (OB+1) 60 7 DV.cells (.slice VA k vc) xs:=by have:=ow6;rw[dw.o]at this;exact this
    have o7:w7.heap[OB]?=some (.cells #[.slice A2 ls.length c2,.slice VA xs.length vc] 25):=(h2.block OB Md6 (λe=>by have:=ow7.ge _ e.symm;omega)).trans ((aS.block OB kQ).trans Jm.o);have ro7:Ro w7 55 RPart.cells B5 x.to:=zoy ro6 ow7 h2 McU;have rs7:∀y∈xs,y.d.to.length<=y.c/\Ro w7 55 RPart.cells y.B y.d.to:=λy hy=>⟨(HP.o y hy).1,zoy ((HP.o y hy).2.keep aS) ow7 h2 McU⟩
    have bj:Below OB w2 w7:=Below.grown (HB.o.trans (aS.mono McS)) h2 (by have:=HB.o.size;have:=aS.size;omega) (λj hj=>by have:=ow7.ge _ hj;omega);have f7:w7.frozen? ⟨OB,1,none⟩=false:=by simp[World.frozen?,o7]
    obtain⟨-,t7⟩:=cF2 o7;refine NxM hK λhHeld=>?_
    clear hK K;refine OnM 10 true λK hK=>?_
    go_simp
    refine NxM hK λhHeld=>?_
    clear hK K;refine OnM 11 true λK hK=>?_
    go_simp
    refine NxM hK λhHeld=>?_
    clear hK K;refine zaO McT ?_ _;clear hHeld;go_wp2_with fail
    go_round
    case rel=>
     refine⟨k+1,xs++[⟨x,B5,c5⟩],_,aj.o,by go_num,zHi (by rw[List.map_append,HM.o,jx.o];rfl),zHi (λy hy=>?_),h1.grown (za1 _ _ _ _) (.inr λe=>by have:=h1.ge _ e;omega),?_,zaS bj Qc _⟩
     ·rcases List.mem_append.1 hy with hy|hy
      ·exact⟨(rs7 y hy).1,(rs7 y hy).2.kept (za1 _ _ _ _) o7 McU⟩
      ·obtain rfl:=List.mem_singleton.1 hy;exact⟨oa,ro7.kept (za1 _ _ _ _) o7 McU⟩
     ·have:=Joins.block_setCell (i:=1) o7 (.slice A7 (xs.length+[(⟨x,B5,c5⟩:DV)].length) c7);simpa using this
    case measure=>have:=aj.o;simp only[intOf];omega
  ·have au:¬(k:Int)<(ds.length:Int):=McS;have Ep:xs.map (·.d)=ds:=by rw[HM.o,List.take_of_length_le McS]
   have ck:xs.length=ds.length:=by rw[<-Ep,List.length_map]
   obtain⟨-,p1⟩:=cF2 ho;obtain p0:=cF1 ho;obtain⟨t0,t1⟩:=cF2 r1;have f0:∀j,wr.frozen? ⟨w.heap.size+1,j,none⟩=false:=λj=>by simp[World.frozen?,r1]
   rw[ck]at p1;obtain⟨Je,ky,cR,HB,bk⟩:=yH5 Ep ck aa hB fK;clear Ep ck aa hB fK ae bx ho kh;go_wp2_with fail
   refine bodyPost_ret (v:=.agg #[.slice A2 ls.length c2,.slice VA ds.length vc]) ?_ rfl ?_
   ·exact ziO rfl _ _ (w.heap.size+1) _ _ rfl (zer r1)
   ·have rr:=Joins.block_setCell (i:=0) r1 (.slice A2 ls.length c2);have sV:∀ {α:Type} {e:TypeId} {f:α->List Value} {A:Option Addr} {ys:List α},e≠25->Ro wr e f A ys->Ro ((wr.setCell ⟨w.heap.size+1,0,none⟩ (.slice A2 ls.length c2)).setCell ⟨w.heap.size+1,1,none⟩ (.slice VA ds.length vc)) e f A ys:=λai h=>
     (h.kept (za1 _ _ _ _) r1 (λe=>ai e.symm)).kept (za1 _ _ _ _) rr (λe=>ai e.symm)
    have Ba:=zer (a:=.slice A2 ls.length c2) (b:=.slice VA ds.length vc) r1;refine⟨A2,c2,VA,vc,OB+1,xs,rfl,cD,sV McU (S2.o.keep (n:=OB) HB.o (by have:=zZ.o;omega)),Je.o,λy hy=>⟨(HP.o y hy).1,sV McU (HP.o y hy).2⟩,?_,by have:=zZ.o;omega,by simp;omega,zaS (zaS bk.o McV _) McV _⟩;have ho:=cR.o;rw[ky.o]at ho;have h1:=ho.grown (za1 wr (w.heap.size+1) 0 (.slice A2 ls.length c2)) (.inr λe=>by have:=ho.ge _ e;have:=zZ.o;omega);exact h1.grown (za1 _ (w.heap.size+1) 1 (.slice VA ds.length vc)) (.inr λe=>by have:=ho.ge _ e;have:=zZ.o;omega)
def zpj(ls:List Law)(ds:List Deed)(LA:Option Addr)(n nc:Nat)(DA:Option Addr)(m mc:Nat)(w:World)(hR:RightsIn w ls ds LA n nc DA m mc)(hl:ls.length<=1000)(hd:ds.length<=1000)(ht:∀d∈ds,d.to.length<=100000):
 Calls Tryz.prog 7 #[.agg #[.slice LA n nc,.slice DA m mc]] w (zoz w ls ds):=by
 refine(znk ls ds LA n nc DA m mc w hR hl hd ht).mono ?_;rintro e w' ⟨A,a,D,c,b,xs,rfl,ha,hL,hm,hp,ho,hb,_,hB⟩;obtain⟨D',c',he,hx,hc⟩:=ho.sl zch;simp only[Value.slice.injEq]at he;obtain⟨rfl,_,rfl⟩:=he;have hk:xs.length=ds.length:=Mez;exact⟨A,a,D,c,rfl,⟨rfl,rfl,ha,by omega,hL.sl λ_=>rfl,slw_of hx hm λy hy=>⟨(hp y hy).1,(hp y hy).2.sl rp_len⟩⟩,hB⟩
