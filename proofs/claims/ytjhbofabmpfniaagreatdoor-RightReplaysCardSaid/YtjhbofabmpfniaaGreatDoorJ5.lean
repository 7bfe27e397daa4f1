/- Walk of chapter 5's form.right: whether the parts of a deed are so. -/
import Derived.Test.YtjhbofabmpfniaaGreatDoorJ4
import Derived.Test.YtjhbofabmpfniaaGreatDoorJS
set_option linter.unusedSimpArgs false
set_option linter.unusedVariables false
set_option maxRecDepth 100000
set_option maxHeartbeats 4000000
namespace Go.Proofs.YtjhbofabmpfniaaGreatDoor
open Go.RowKit Go.Shelf
attribute [local go_sem] World.cell?_alloc_mark zae za3 zam za6 zas zat zau zav zaw zax zay
theorem zj5 {α:Type} (xs:List α) (p:α->Bool):(xs.attach.any fun x=>p x.1)=xs.any p:=by
 rw[Bool.eq_iff_iff];simp
def zff {α:Type} (g:Nat) (lb:Array Value) (v:α->Value) (p:α->Bool) (xs:List α) (w:World):Prop:=
 ∀x∈xs,∀W,Below w.heap.size w W->Calls Tryz.prog g (#[v x]++lb) W fun e w'=>e= .returned (.bool (p x))/\Below w.heap.size w w'
theorem sl_get {α:Type} {w:World} {k:Nat} {f:α->List Value} {b off:Nat} {xs:List α} (hS: ∀j (x:α),xs[j]?=some x-> ∀i u,(f x)[i]?=some u->w.cell? ⟨b,off+j*k+i,none⟩=some u) [Inhabited {x // x∈xs}]:
 ∀j,j<xs.attach.length-> ∀i v,(f (xs.attach[j]!).1)[i]?=some v->w.cell? ⟨b,off+j*k+i,none⟩=some v:=fun j hj i v hi=>by
 have hl:j<xs.length:=Mev;have e:(xs.attach[j]!).1=xs[j]:=by rw[getElem!_pos xs.attach j hj];simp
 rw[e]at hi;exact hS j _ (List.getElem?_eq_getElem hl) i v hi
theorem ifnilPart (A:Option Addr) (c:Nat) (fv:Value) (w:World):Calls Tryz.prog 163 #[.slice A 0 c,fv] w (Ret0 w (.int .i64 (-1))):=by
 go_enter Tryz.func163,Tryz.ntmps163
 exact Mca
theorem cfnilPart (A:Option Addr) (c:Nat) (fv:Value) (w:World):Calls Tryz.prog 135 #[.slice A 0 c,fv] w (Ret0 w (.bool false)):=by
 go_enter Tryz.func135,Tryz.ntmps135
 go_wp2_with (go_at_call 163;refine(ifnilPart _ _ _ _).mono ?_;rintro e wq ⟨rfl,rfl⟩)
 go_ret
 exact⟨rfl,rfl⟩
theorem zcP (g:Nat) (lb:Array Value) (eg: ∀args w,(callFunc g args).run Tryz.prog w= .ok (.enter g args) w) (p:RPart->Bool) (A:Option Addr) (n c:Nat) (xs:List RPart) (w:World) (hn:n=xs.length) (hl:xs.length<=100000)
 (hS:Sl w 3 RPart.cells A xs) (hp:zff g lb (fun x=> .agg (RPart.cells x).toArray) p xs w):Calls Tryz.prog 135 #[.slice A n c, .func (.func g) #[] lb] w (Ret w (.bool (xs.any p))):=by
 subst hn;by_cases h0:xs.length=0
 ·have hx:xs=[]:=List.eq_nil_of_length_eq_zero h0;subst hx;refine(cfnilPart _ _ _ _).mono ?_;rintro e wq ⟨rfl,rfl⟩;exact Ret.of rfl (Below.refl _ _)
 ·obtain⟨b,off,rfl,hb,hc⟩:=hS Mcn;haveI:Inhabited {x // x∈xs}:=⟨⟨xs[0]' Mcn,List.getElem_mem _⟩⟩
  have bC:=AnyQ.slices_ContainsFunc cfPart 3 Tryz.isAgg75 Tryz.sizeOf75 (fun x: {x // x∈xs}=>RPart.cells x.1) (fun _=>rfl) (fun x=>p x.1) g lb eg b off xs.length c xs.attach w
   (fun W x hB=>hp x.1 x.2 W hB) Mcq Mcn hb (sl_get hc)
  rw[List.take_of_length_le Mcq,zj5]at bC;change Calls Tryz.prog 135 _ _ _ at bC;exact Mbf
theorem ifnilRec (A:Option Addr) (c:Nat) (fv:Value) (w:World):Calls Tryz.prog 232 #[.slice A 0 c,fv] w (Ret0 w (.int .i64 (-1))):=by
 go_enter Tryz.func232,Tryz.ntmps232
 exact Mca
theorem cfnilRec (A:Option Addr) (c:Nat) (fv:Value) (w:World):Calls Tryz.prog 170 #[.slice A 0 c,fv] w (Ret0 w (.bool false)):=by
 go_enter Tryz.func170,Tryz.ntmps170
 go_wp2_with (go_at_call 232;refine(ifnilRec _ _ _ _).mono ?_;rintro e wq ⟨rfl,rfl⟩)
 go_ret
 exact⟨rfl,rfl⟩
theorem cfRec_any (g:Nat) (lb:Array Value) (eg: ∀args w,(callFunc g args).run Tryz.prog w= .ok (.enter g args) w) (p:Rec->Bool) (A:Option Addr) (n c:Nat) (xs:List Rec) (w:World) (hn:n=xs.length) (hl:xs.length<=100000)
 (hS:Sl w 8 Rec.cells A xs) (hp:zff g lb (fun x=> .agg (Rec.cells x).toArray) p xs w):Calls Tryz.prog 170 #[.slice A n c, .func (.func g) #[] lb] w (Ret w (.bool (xs.any p))):=by
 subst hn;by_cases h0:xs.length=0
 ·have hx:xs=[]:=List.eq_nil_of_length_eq_zero h0;subst hx;refine(cfnilRec _ _ _ _).mono ?_;rintro e wq ⟨rfl,rfl⟩;exact Ret.of rfl (Below.refl _ _)
 ·obtain⟨b,off,rfl,hb,hc⟩:=hS Mcn;haveI:Inhabited {x // x∈xs}:=⟨⟨xs[0]' Mcn,List.getElem_mem _⟩⟩
  have bC:=AnyQ.slices_ContainsFunc cfRec 8 Tryz.isAgg105 Tryz.sizeOf105 (fun x: {x // x∈xs}=>Rec.cells x.1) (fun _=>rfl) (fun x=>p x.1) g lb eg b off xs.length c xs.attach w
   (fun W x hB=>hp x.1 x.2 W hB) Mcq Mcn hb (sl_get hc)
  rw[List.take_of_length_le Mcq,zj5]at bC;change Calls Tryz.prog 170 _ _ _ at bC;exact Mbf
end Go.Proofs.YtjhbofabmpfniaaGreatDoor
namespace Go.Proofs.YtjhbofabmpfniaaGreatDoor
open Go.RowKit
attribute [local go_sem] World.cell?_alloc_mark zae za3 zam za6 zas zat zau zav zaw zax zay
attribute [local go_sem] zaj zac
structure Form where
 word:ByteArray
 place:Bool
 frm:Bool
 cls:Bool
 years:Bool
 all:Bool
 parts:Bool
 shares:Bool
def Form.cells (f:Form):List Value:=[.string f.word, .bool f.place, .bool f.frm, .bool f.cls, .bool f.years, .bool f.all, .bool f.parts, .bool f.shares]
def zfP:List Form:=[⟨⟨#[103,114,97,110,116]⟩,true,false,true,true,true,true,true⟩,⟨⟨#[116,114,97,110,115,102,101,114]⟩,true,true,false,false,false,true,true⟩,⟨⟨#[115,117,114,114,101,110,100,101,114]⟩,true,true,false,false,false,false,false⟩,⟨⟨#[114,101,110,101,119,97,108]⟩,true,false,false,true,false,false,false⟩,⟨⟨#[119,105,108,108]⟩,false,true,false,false,false,true,true⟩,⟨⟨#[114,101,110,111,117,110,99,101]⟩,false,true,false,false,false,true,false⟩,⟨⟨#[99,104,105,108,100]⟩,false,true,false,false,false,true,false⟩,⟨⟨#[109,97,114,114,105,97,103,101]⟩,false,true,false,false,false,true,false⟩,⟨⟨#[100,101,97,116,104]⟩,false,true,false,false,false,false,false⟩]
def zco (frmB shares:Bool) (frm:ByteArray):List RPart->List RPart->Rat->Option Rat
 | [],_,s=>some s
 |p::l,seen,s=>
  if seen.any (fun q=>zaf q.name p.name)||(zaf p.name frm&&frmB)then none else
  if !shares then(if p.num != 0||p.den != 0 then none else zco frmB shares frm l (seen++[p]) s)else
  if !za9 16 p.num p.den||p.num==0 then none else zco frmB shares frm l (seen++[p]) (s+p.rat)
def zha (shares all:Bool):Option Rat->Bool
 |none=>false
 |some s=>!shares||(decide (s.num<=s.den)&&(!all||s.num==(s.den:Int)))
def zhs (f:Form) (frm:ByteArray) (ps:List RPart):Bool:=
 if !f.parts then ps.isEmpty else if ps.isEmpty||(!f.shares&&ps.length != 1)then false else zha f.shares f.all (zco f.frm f.shares frm ps [] 0)
def Fits (r:Rat):Prop:= ∃n:Int,r=Rat.divInt n 720720
theorem fits_zero:Fits 0:=⟨0,by simp⟩
theorem fits_one:Fits 1:=⟨720720,by rw[Rat.divInt_eq_div];grind⟩
theorem Fits.add {p q:Rat} (hp:Fits p) (hq:Fits q):Fits (p+q):=by
 obtain⟨a,rfl⟩:=hp;obtain⟨b,rfl⟩:=hq;exact⟨a+b,by rw[Rat.divInt_eq_div,Rat.divInt_eq_div,Rat.divInt_eq_div,Rat.intCast_add];grind⟩
theorem Fits.sub {p q:Rat} (hp:Fits p) (hq:Fits q):Fits (p-q):=by
 obtain⟨a,rfl⟩:=hp;obtain⟨b,rfl⟩:=hq;exact⟨a-b,by rw[Rat.divInt_eq_div,Rat.divInt_eq_div,Rat.divInt_eq_div,Rat.intCast_sub];grind⟩
theorem zeq {a b:Int} (h:za9 16 a b=true):Fits (Rat.divInt a b):=by
 unfold za9 at h;simp only[Bool.and_eq_true,decide_eq_true_eq]at h;obtain⟨⟨⟨h1,h2⟩,_⟩,_⟩:=h;have hd:b*(720720/b)=720720:=by
  have:b=1\/b=2\/b=3\/b=4\/b=5\/b=6\/b=7\/b=8\/b=9\/b=10\/b=11\/b=12\/b=13\/b=14\/b=15\/b=16:=by omega
  rcases this with rfl|rfl|rfl|rfl|rfl|rfl|rfl|rfl|rfl|rfl|rfl|rfl|rfl|rfl|rfl|rfl<;>decide
 generalize 720720/b=q at hd;have hk:q≠0:=fun e=>by rw[e]at hd;omega
 exact⟨a*q,by rw[<-hd,Rat.divInt_mul_right hk]⟩
theorem Fits.small {r:Rat} (h:Fits r) (h0: -1000<=r) (h1:r<=1000):zaI r:=by
 obtain⟨n,rfl⟩:=h;have hb:(0:Int)<720720:=Mcp;have hd:((Rat.divInt n 720720).den:Int)<=720720:=by
  rw[zek hb];exact Int.ediv_le_self _ Mcp
 have cB:(n:Rat)<=720720000:=by rw[Rat.divInt_eq_div]at h1;grind
 have tS: -720720000<=(n:Rat):=by rw[Rat.divInt_eq_div]at h0;grind
 have KJ:n<=720720000:=by
  have:(n:Rat)<=((720720000:Int):Rat):=cB;exact Rat.intCast_le_intCast.1 this
 have KI: -720720000<=n:=by
  have:((-720720000:Int):Rat)<=(n:Rat):=tS;exact Rat.intCast_le_intCast.1 this
 refine⟨?_,by omega⟩;rw[zf1 hb,<-zel (Int.gcd_dvd_left ..)];exact Nat.le_trans (Int.natAbs_tdiv_le_natAbs _ _) Mcn
end Go.Proofs.YtjhbofabmpfniaaGreatDoor
