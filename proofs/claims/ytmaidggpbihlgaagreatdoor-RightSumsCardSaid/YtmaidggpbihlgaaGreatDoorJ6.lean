/- Walk of chapter 5's form.right. -/
import Derived.Test.YtmaidggpbihlgaaGreatDoorJ4
import Derived.Test.YtmaidggpbihlgaaGreatDoorJS
set_option linter.unusedSimpArgs false
set_option linter.unusedVariables false
namespace Go.Proofs.YtmaidggpbihlgaaGreatDoor
open Go.RowKit Go.Shelf
attribute [local go_sem] World.cell?_alloc_mark ext_size ext_cell ext_frozen lt_add_r lt_add_r2 lt_add_r3 lt_add_r4 lt_add_r5 lt_add_r6 lt_add_r7 lt_add_r8
theorem attach_any {α:Type} (xs:List α) (p:α->Bool):(xs.attach.any fun x=>p x.1)=xs.any p:=by
 rw[Bool.eq_iff_iff]
 simp
def GivesOn {α:Type} (g:Nat) (lb:Array Value) (v:α->Value) (p:α->Bool) (xs:List α) (w:World):Prop:=
 ∀x∈xs,∀W,Below w.heap.size w W->Calls Tryz.prog g (#[v x]++lb) W fun e w'=>e= .returned (.bool (p x))/\Below w.heap.size w w'
theorem sl_get {α:Type} {w:World} {k:Nat} {f:α->List Value} {b off:Nat} {xs:List α} (hS: ∀j (x:α),xs[j]?=some x-> ∀i u,(f x)[i]?=some u->w.cell? ⟨b,off+j*k+i,none⟩=some u) [Inhabited {x // x∈xs}]:
 ∀j,j<xs.attach.length-> ∀i v,(f (xs.attach[j]!).1)[i]?=some v->w.cell? ⟨b,off+j*k+i,none⟩=some v:=fun j hj i v hi=>by
 have hl:j<xs.length:=by simpa using hj
 have e:(xs.attach[j]!).1=xs[j]:=by rw[getElem!_pos xs.attach j hj];simp
 rw[e]at hi
 exact hS j _ (List.getElem?_eq_getElem hl) i v hi
set_option maxRecDepth 100000 in
set_option maxHeartbeats 2000000 in
theorem ifnilPart (A:Option Addr) (c:Nat) (fv:Value) (w:World):Calls Tryz.prog 126 #[.slice A 0 c,fv] w (Ret0 w (.int .i64 (-1))):=by
 go_enter Tryz.func126,Tryz.ntmps126
 go_wp2_with fail
 go_loop [5,8] (fun a b=>b= .int .i64 0) (fun _ _=>0)
 case atStart=>rfl
 case round=>
  obtain rfl:=hrel
  go_wp2_with fail
  go_ret
  exact⟨rfl,rfl⟩
set_option maxRecDepth 100000 in
set_option maxHeartbeats 2000000 in
theorem cfnilPart (A:Option Addr) (c:Nat) (fv:Value) (w:World):Calls Tryz.prog 78 #[.slice A 0 c,fv] w (Ret0 w (.bool false)):=by
 go_enter Tryz.func78,Tryz.ntmps78
 go_wp2_with (go_at_call 126;refine(ifnilPart _ _ _ _).mono ?_;rintro e wq ⟨rfl,rfl⟩)
 go_ret
 exact⟨rfl,rfl⟩
theorem cfPart_any (g:Nat) (lb:Array Value) (eg: ∀args w,(callFunc g args).run Tryz.prog w= .ok (.enter g args) w) (p:RPart->Bool) (A:Option Addr) (n c:Nat) (xs:List RPart) (w:World) (hn:n=xs.length) (hl:xs.length<=100000)
 (hS:Sl w 3 RPart.cells A xs) (hp:GivesOn g lb (fun x=> .agg (RPart.cells x).toArray) p xs w):Calls Tryz.prog 78 #[.slice A n c, .func (.func g) #[] lb] w (Ret w (.bool (xs.any p))):=by
 subst hn
 by_cases h0:xs.length=0
 ·have hx:xs=[]:=List.eq_nil_of_length_eq_zero h0
  subst hx
  refine(cfnilPart _ _ _ _).mono ?_
  rintro e wq ⟨rfl,rfl⟩
  exact Ret.of rfl (Below.refl _ _)
 ·obtain⟨b,off,rfl,hb,hc⟩:=hS (by omega)
  haveI:Inhabited {x // x∈xs}:=⟨⟨xs[0]'(by omega),List.getElem_mem _⟩⟩
  have hcon:=AnyQ.slices_ContainsFunc cfPart 3 Tryz.isAgg49 Tryz.sizeOf49 (fun x: {x // x∈xs}=>RPart.cells x.1) (fun _=>rfl) (fun x=>p x.1) g lb eg b off xs.length c xs.attach w
   (fun W x hB=>hp x.1 x.2 W hB) (by simp) (by omega) hb (sl_get hc)
  rw[List.take_of_length_le (by simp),attach_any]at hcon
  change Calls Tryz.prog 78 _ _ _ at hcon
  refine hcon.mono ?_
  rintro e wq ⟨rfl,hB⟩
  exact Ret.of rfl hB
set_option maxRecDepth 100000 in
set_option maxHeartbeats 2000000 in
theorem ifnilRec (A:Option Addr) (c:Nat) (fv:Value) (w:World):Calls Tryz.prog 140 #[.slice A 0 c,fv] w (Ret0 w (.int .i64 (-1))):=by
 go_enter Tryz.func140,Tryz.ntmps140
 go_wp2_with fail
 go_loop [5,8] (fun a b=>b= .int .i64 0) (fun _ _=>0)
 case atStart=>rfl
 case round=>
  obtain rfl:=hrel
  go_wp2_with fail
  go_ret
  exact⟨rfl,rfl⟩
set_option maxRecDepth 100000 in
set_option maxHeartbeats 2000000 in
theorem cfnilRec (A:Option Addr) (c:Nat) (fv:Value) (w:World):Calls Tryz.prog 96 #[.slice A 0 c,fv] w (Ret0 w (.bool false)):=by
 go_enter Tryz.func96,Tryz.ntmps96
 go_wp2_with (go_at_call 140;refine(ifnilRec _ _ _ _).mono ?_;rintro e wq ⟨rfl,rfl⟩)
 go_ret
 exact⟨rfl,rfl⟩
theorem cfRec_any (g:Nat) (lb:Array Value) (eg: ∀args w,(callFunc g args).run Tryz.prog w= .ok (.enter g args) w) (p:Rec->Bool) (A:Option Addr) (n c:Nat) (xs:List Rec) (w:World) (hn:n=xs.length) (hl:xs.length<=100000)
 (hS:Sl w 8 Rec.cells A xs) (hp:GivesOn g lb (fun x=> .agg (Rec.cells x).toArray) p xs w):Calls Tryz.prog 96 #[.slice A n c, .func (.func g) #[] lb] w (Ret w (.bool (xs.any p))):=by
 subst hn
 by_cases h0:xs.length=0
 ·have hx:xs=[]:=List.eq_nil_of_length_eq_zero h0
  subst hx
  refine(cfnilRec _ _ _ _).mono ?_
  rintro e wq ⟨rfl,rfl⟩
  exact Ret.of rfl (Below.refl _ _)
 ·obtain⟨b,off,rfl,hb,hc⟩:=hS (by omega)
  haveI:Inhabited {x // x∈xs}:=⟨⟨xs[0]'(by omega),List.getElem_mem _⟩⟩
  have hcon:=AnyQ.slices_ContainsFunc cfRec 8 Tryz.isAgg67 Tryz.sizeOf67 (fun x: {x // x∈xs}=>Rec.cells x.1) (fun _=>rfl) (fun x=>p x.1) g lb eg b off xs.length c xs.attach w
   (fun W x hB=>hp x.1 x.2 W hB) (by simp) (by omega) hb (sl_get hc)
  rw[List.take_of_length_le (by simp),attach_any]at hcon
  change Calls Tryz.prog 96 _ _ _ at hcon
  refine hcon.mono ?_
  rintro e wq ⟨rfl,hB⟩
  exact Ret.of rfl hB
end Go.Proofs.YtmaidggpbihlgaaGreatDoor
namespace Go.Proofs.YtmaidggpbihlgaaGreatDoor
open Go.RowKit
attribute [local go_sem] World.cell?_alloc_mark ext_size ext_cell ext_frozen lt_add_r lt_add_r2 lt_add_r3 lt_add_r4 lt_add_r5 lt_add_r6 lt_add_r7 lt_add_r8
attribute [local go_sem] ext_setCell alloc_setCell_lt
structure Form where
 word:ByteArray
 place:Bool
 frm:Bool
 cls:Bool
 years:Bool
 all:Bool
 parts:Bool
 shares:Bool
def Form.cells (f:Form):List Value:=[.string f.word, .bool f.place, .bool f.frm, .bool f.cls, .bool f.years, .bool f.all, .bool f.parts, .bool f.shares]
def formsL:List Form:=[⟨⟨#[103,114,97,110,116]⟩,true,false,true,true,true,true,true⟩,⟨⟨#[116,114,97,110,115,102,101,114]⟩,true,true,false,false,false,true,true⟩,⟨⟨#[115,117,114,114,101,110,100,101,114]⟩,true,true,false,false,false,false,false⟩,⟨⟨#[114,101,110,101,119,97,108]⟩,true,false,false,true,false,false,false⟩,⟨⟨#[119,105,108,108]⟩,false,true,false,false,false,true,true⟩,⟨⟨#[114,101,110,111,117,110,99,101]⟩,false,true,false,false,false,true,false⟩,⟨⟨#[99,104,105,108,100]⟩,false,true,false,false,false,true,false⟩,⟨⟨#[109,97,114,114,105,97,103,101]⟩,false,true,false,false,false,true,false⟩,⟨⟨#[100,101,97,116,104]⟩,false,true,false,false,false,false,false⟩]
def partsGo (frmB shares:Bool) (frm:ByteArray):List RPart->List RPart->Rat->Option Rat
 | [],_,s=>some s
 |p::l,seen,s=>
  if seen.any (fun q=>sameB q.name p.name)||(sameB p.name frm&&frmB)then none else
  if !shares then(if p.num != 0||p.den != 0 then none else partsGo frmB shares frm l (seen++[p]) s)else
  if !isShareP 16 p.num p.den||p.num==0 then none else partsGo frmB shares frm l (seen++[p]) (s+p.rat)
def sumOk (shares all:Bool):Option Rat->Bool
 |none=>false
 |some s=>!shares||(decide (s.num<=s.den)&&(!all||s.num==(s.den:Int)))
def rightF (f:Form) (frm:ByteArray) (ps:List RPart):Bool:=
 if !f.parts then ps.isEmpty else if ps.isEmpty||(!f.shares&&ps.length != 1)then false else sumOk f.shares f.all (partsGo f.frm f.shares frm ps [] 0)
def Fits (r:Rat):Prop:= ∃n:Int,r=Rat.divInt n 720720
theorem fits_zero:Fits 0:=⟨0,by simp⟩
theorem fits_one:Fits 1:=⟨720720,by rw[Rat.divInt_eq_div];grind⟩
theorem Fits.add {p q:Rat} (hp:Fits p) (hq:Fits q):Fits (p+q):=by
 obtain⟨a,rfl⟩:=hp
 obtain⟨b,rfl⟩:=hq
 exact⟨a+b,by rw[Rat.divInt_eq_div,Rat.divInt_eq_div,Rat.divInt_eq_div,Rat.intCast_add];grind⟩
theorem Fits.sub {p q:Rat} (hp:Fits p) (hq:Fits q):Fits (p-q):=by
 obtain⟨a,rfl⟩:=hp
 obtain⟨b,rfl⟩:=hq
 exact⟨a-b,by rw[Rat.divInt_eq_div,Rat.divInt_eq_div,Rat.divInt_eq_div,Rat.intCast_sub];grind⟩
theorem fits_share {a b:Int} (h:isShareP 16 a b=true):Fits (Rat.divInt a b):=by
 unfold isShareP at h
 simp only[Bool.and_eq_true,decide_eq_true_eq]at h
 obtain⟨⟨⟨h1,h2⟩,_⟩,_⟩:=h
 have hd:b*(720720/b)=720720:=by
  have:b=1\/b=2\/b=3\/b=4\/b=5\/b=6\/b=7\/b=8\/b=9\/b=10\/b=11\/b=12\/b=13\/b=14\/b=15\/b=16:=by omega
  rcases this with rfl|rfl|rfl|rfl|rfl|rfl|rfl|rfl|rfl|rfl|rfl|rfl|rfl|rfl|rfl|rfl<;>decide
 generalize 720720/b=q at hd
 have hk:q≠0:=fun e=>by rw[e]at hd;omega
 exact⟨a*q,by rw[<-hd,Rat.divInt_mul_right hk]⟩
theorem Fits.small {r:Rat} (h:Fits r) (h0: -1000<=r) (h1:r<=1000):small5 r:=by
 obtain⟨n,rfl⟩:=h
 have hb:(0:Int)<720720:=by decide
 have hd:((Rat.divInt n 720720).den:Int)<=720720:=by
  rw[divInt_den hb]
  exact Int.ediv_le_self _ (by decide)
 have hn1:(n:Rat)<=720720000:=by rw[Rat.divInt_eq_div]at h1;grind
 have hn0: -720720000<=(n:Rat):=by rw[Rat.divInt_eq_div]at h0;grind
 have hn1':n<=720720000:=by
  have:(n:Rat)<=((720720000:Int):Rat):=hn1
  exact Rat.intCast_le_intCast.1 this
 have hn0': -720720000<=n:=by
  have:((-720720000:Int):Rat)<=(n:Rat):=hn0
  exact Rat.intCast_le_intCast.1 this
 refine⟨?_,by omega⟩
 rw[divInt_num hb,<-tdiv_exact (Int.gcd_dvd_left ..)]
 exact Nat.le_trans (Int.natAbs_tdiv_le_natAbs _ _) (by omega)
end Go.Proofs.YtmaidggpbihlgaaGreatDoor
namespace Go.Proofs.YtmaidggpbihlgaaGreatDoor
open Go.RowKit
attribute [local go_sem] World.cell?_alloc_mark ext_size ext_cell ext_frozen lt_add_r lt_add_r2 lt_add_r3 lt_add_r4 lt_add_r5 lt_add_r6 lt_add_r7 lt_add_r8
attribute [local go_sem] ext_setCell alloc_setCell_lt
theorem sameB_t {a b:ByteArray} (h:a.toList=b.toList):sameB a b=true:=by simp[sameB,h]
theorem sameB_f {a b:ByteArray} (h: ¬a.toList=b.toList):sameB a b=false:=by simp[sameB,h]
theorem J_ext {w:World} {z:Ez} {x:Obj} {k:Nat} (h:w.heap[k]?=some x):(w.ext z).heap[k]?=some x:=(ext_heap_lt w z k (blk_lt h)).trans h
theorem J_ne {w:World} {b o:Nat} {v:Value} {x:Obj} {k:Nat} (hne:k≠b) (h:w.heap[k]?=some x):(w.setCell ⟨b,o,none⟩ v).heap[k]?=some x:=by
 have hb: ¬b=k:=fun e=>hne e.symm
 simp[World.setCell,Array.getElem?_modify,hb,h]
theorem J_set2 {w:World} {g:Nat} {z0 z1 a b:Value} {t:TypeId} {fr:Nat×Nat} (h:w.heap[g]?=some (.cells #[z0,z1] t fr)):((w.setCell ⟨g,0,none⟩ a).setCell ⟨g,1,none⟩ b).heap[g]?=some (.cells #[a,b] t fr):=by
 have:=Joins.block_setCell (i:=1) (Joins.block_setCell (i:=0) h a) b
 simpa using this
set_option maxRecDepth 100000 in
set_option maxHeartbeats 2000000 in
theorem frc_any (B:Nat) (nm:ByteArray) (q:RPart) (W:World) (hB:B<W.heap.size) (hc:W.cell? ⟨B,0,none⟩=some (.string nm)):
 Calls Tryz.prog 127 #[.agg #[.string q.name, .int .i64 q.num, .int .i64 q.den], .pointer (some ⟨B,0,none⟩)] W (Ret W (.bool (sameB q.name nm))):=by
 have hne:B≠W.heap.size:=by omega
 go_enter Tryz.func127,Tryz.ntmps127
 go_wp2_with fail
 go_ret
 exact Ret.of rfl Bw
theorem frc_gives (B:Nat) (nm:ByteArray) (xs:List RPart) (w:World) (hB:B<w.heap.size) (hc:w.cell? ⟨B,0,none⟩=some (.string nm)):
 GivesOn 127 #[.pointer (some ⟨B,0,none⟩)] (fun x=> .agg (RPart.cells x).toArray) (fun q=>sameB q.name nm) xs w:=fun x _ W hW=>by
 refine(frc_any B nm x W (Nat.lt_of_lt_of_le hB hW.size) ((hW.cell (p:=⟨B,0,none⟩) hB).trans hc)).mono ?_
 rintro e wq ⟨rfl,z,rfl⟩
 exact⟨rfl,hW.trans ((below_ext W z).mono hW.size)⟩
theorem cast_le {k:Nat} {s:Rat} (h:s<=((k:Int):Rat)) (hk:k<=1000):s<=1000:=by
 have h2:((k:Int):Rat)<=((1000:Int):Rat):=Rat.intCast_le_intCast.2 (by omega)
 exact Rat.le_trans h h2
theorem sum_pos {s:Rat} {a b:Int} (h:0<=s) (hs:isShareP 16 a b=true):0<=s+Rat.divInt a b:=by
 have:=(share_rat hs).2.2.1
 grind
theorem sum_up {k:Nat} {s:Rat} {a b:Int} (h:s<=((k:Int):Rat)) (hs:isShareP 16 a b=true):s+Rat.divInt a b<=(((k+1:Nat):Int):Rat):=by
 have h1:=(share_rat hs).2.2.2
 have h2:(((k+1:Nat):Int):Rat)=((k:Int):Rat)+1:=by
  rw[show((k+1:Nat):Int)=(k:Int)+1 by omega,Rat.intCast_add]
  rfl
 rw[h2]
 grind
theorem natUp (k:Nat):((k:Int):Rat)<=(((k+1:Nat):Int):Rat):=Rat.intCast_le_intCast.2 (by omega)
theorem addS_any (s:Rat) (a b:Int) (W:World) (hs:small5 s) (h:isShareP 16 a b=true):Calls Tryz.prog 128 #[.agg #[.int .i64 s.num, .int .i64 s.den], .agg #[.int .i64 a, .int .i64 b]] W (Ret W (fracV (s+Rat.divInt a b))):=by
 obtain⟨h1,h2,h3,h4⟩:=share_rat h
 have:=add5_any s (Rat.divInt a b) W hs ((fits_share h).small (Rat.le_trans (by decide) h3) (Rat.le_trans h4 (by decide)))
 unfold fracV at this⊢
 rw[h1,h2]at this
 exact this
set_option maxRecDepth 100000 in
set_option maxHeartbeats 2000000 in
theorem formRight_any (f:Form) (dk dd:Int) (pl frm:ByteArray) (cl yr:Int) (ps:List RPart) (B:Option Addr) (n c:Nat) (w:World) (hn:n=ps.length) (hl:ps.length<=8) (hcap:ps.length<=c) (hS:Sl w 3 RPart.cells B ps):
 Calls Tryz.prog 80 #[.agg #[.string f.word, .bool f.place, .bool f.frm, .bool f.cls, .bool f.years, .bool f.all, .bool f.parts, .bool f.shares], .agg #[.int .i64 dk, .int .i64 dd, .string pl, .string frm, .slice B n c, .int .i64 cl, .int .i64 yr]] w (Ret w (.bool (rightF f frm ps))):=by
 subst hn
 obtain⟨word,fp,ff,fc,fy,fa,fpt,fs⟩:=f
 have eg: ∀args w,(callFunc 127 args).run Tryz.prog w= .ok (.enter 127 args) w:=enters_of Tryz.func127 (by kernel_rfl) rfl
 generalize hR:rightF ⟨word,fp,ff,fc,fy,fa,fpt,fs⟩ frm ps=R
 have HR:=Lib.hid hR
 clear hR
 go_enter Tryz.func80,Tryz.ntmps80
 cases fpt
 ·go_wp2_with fail
  go_ret
  refine Ret.of (bool_eq ?_) Bw
  rw[<-HR.out]
  cases ps<;>simp[rightF];omega
 ·cases ps with
  |nil=>
   go_wp2_with fail
   go_ret
   exact Ret.of (bool_eq (by rw[<-HR.out];rfl)) Bw
  |cons p0 pr=>
   generalize hps:p0::pr=ps at*
   have hpos:0<ps.length:=by rw[<-hps];simp
   clear hps p0 pr
   have hz:((ps.length:Int)==0)=false:=by rw[beq_eq_false_iff_ne];omega
   by_cases h1:fs=false/\ps.length≠1
   ·obtain⟨rfl,h1⟩:=h1
    have hz1:((ps.length:Int)==1)=false:=by rw[beq_eq_false_iff_ne];omega
    go_wp2_with fail
    go_ret
    exact Ret.of (bool_eq (by rw[<-HR.out];simp[rightF,h1])) Bw
   ·have hX:R=sumOk fs fa (partsGo ff fs frm (ps.drop 0) (ps.take 0) 0):=by
     rw[<-HR.out]
     have:(ps.isEmpty||(!fs&&ps.length != 1))=false:=by
      cases fs
      ·simp at h1;simp[h1];intro h;rw[h]at hpos;simp at hpos
      ·simp;intro h;rw[h]at hpos;simp at hpos
     simp only[rightF,Bool.not_true,Bool.false_eq_true,if_false,this]
     rfl
    have hg1:fs=false->((ps.length:Int) != 1)=false:=fun h=>by simp at h1;simp[h1 h]
    clear HR h1
    have HX:=Lib.hid hX
    clear hX
    have HL:=Lib.hid hl
    cases ff
    ·cases fs
     ·have hz1:=hg1 rfl
      clear hg1
      go_wp2_with fail
      go_loopw [35] (fun i wr=> ∃k:Nat,k<=ps.length/\i= .int .i64 k/\ ∃s:Rat,Hid (R=sumOk false fa (partsGo false false frm (ps.drop k) (ps.take k) s))/\Fits s/\0<=s/\s<=(k:Int)/\Below w.heap.size w wr/\w.heap.size+3<=wr.heap.size/\
       wr.heap[w.heap.size]?=some (.cells #[.string word, .bool fp, .bool false, .bool fc, .bool fy, .bool fa, .bool true, .bool false] 144)/\
       wr.heap[w.heap.size+1]?=some (.cells #[.int .i64 dk, .int .i64 dd, .string pl, .string frm, .slice B ps.length c, .int .i64 cl, .int .i64 yr] 56)/\
       wr.heap[w.heap.size+2]?=some (.cells #[.int .i64 s.num, .int .i64 s.den] 45)) (fun i _=>ps.length-(intOf i).toNat)
      case atStart=>
       refine⟨0,Nat.zero_le _,rfl,0,HX,fits_zero,Rat.le_refl,Rat.le_refl,?_,?_,?_,?_,?_⟩
       ·exact Bw
       ·simp
       ·exact J_alloc (J_alloc (J_new _ _ _ rfl))
       ·exact J_alloc (J_new _ _ _ (by simp))
       ·exact J_new _ _ _ (by simp)
      case round=>
       clear hz1
       obtain⟨k,hk,rfl,s,hx,hfit,hs0,hsk,hB,hsz,g0,g1,g2⟩:=hrel
       have a0:wr.cell? ⟨w.heap.size,2,none⟩=some (.bool false):=by simp[World.cell?,g0]
       have a1:wr.cell? ⟨w.heap.size,5,none⟩=some (.bool fa):=by simp[World.cell?,g0]
       have a2:wr.cell? ⟨w.heap.size,7,none⟩=some (.bool false):=by simp[World.cell?,g0]
       have b0:wr.cell? ⟨w.heap.size+1,3,none⟩=some (.string frm):=by simp[World.cell?,g1]
       have b1:wr.cell? ⟨w.heap.size+1,4,none⟩=some (.slice B ps.length c):=by simp[World.cell?,g1]
       have c0:wr.cell? ⟨w.heap.size+2,0,none⟩=some (.int .i64 s.num):=by simp[World.cell?,g2]
       have c1:wr.cell? ⟨w.heap.size+2,1,none⟩=some (.int .i64 s.den):=by simp[World.cell?,g2]
       have d0:wr.frozen? ⟨w.heap.size+2,0,none⟩=false:=by simp[World.frozen?,g2]
       have d1:wr.frozen? ⟨w.heap.size+2,1,none⟩=false:=by simp[World.frozen?,g2]
       have e0:w.heap.size<wr.heap.size:=by omega
       have e1:w.heap.size+1<wr.heap.size:=by omega
       have e2:w.heap.size+2<wr.heap.size:=by omega
       have e3:w.heap.size+2≠wr.heap.size:=by omega
       by_cases hlt:k<ps.length
       ·rw[List.drop_eq_getElem_cons hlt]at hx
        obtain⟨b,off,rfl,hb,hc⟩:=(hS.keep hB).at hlt
        have hSk:=(hS.keep hB).take k
        generalize hp:ps[k]=p at*
        obtain⟨pn,pu,pd⟩:=p
        have h0:wr.cell? ⟨b,off+k*3,none⟩=some (.string pn):=hc 0 _ rfl
        have h1:wr.cell? ⟨b,off+k*3+1,none⟩=some (.int .i64 pu):=hc 1 _ rfl
        have h2:wr.cell? ⟨b,off+k*3+2,none⟩=some (.int .i64 pd):=hc 2 _ rfl
        have HP:=Lib.hid hp
        have HF:=Lib.hid hfit
        have H0:=Lib.hid hs0
        have HK:=Lib.hid hsk
        have HS:=Lib.hid hSk
        have HX:=Lib.hid hx
        have HH:=Lib.hid (show ps.length<=100000 by omega)
        have hkc:(k:Int)<=(c:Int):=by omega
        have hk0:(0:Int)<=(k:Int):=by omega
        have hkn:(k:Int)<(ps.length:Int):=by omega
        have htl:(ps.take k).length=k:=by rw[List.length_take];omega
        have HT:=Lib.hid htl
        clear hc hS hSk hp hfit hs0 hsk hx htl
        go_upto_region 10 with(go_at_call 78
                               refine(cfPart_any _ _ eg (fun q=>sameB q.name pn) _ k _ (ps.take k) _ HT.out.symm (by rw[HT.out];have:=HH.out;omega) (HS.out.keep (n:=wr.heap.size) Bw) (frc_gives _ pn _ _ (by simp) (by simp[go_sem]))).mono ?_
                               intro e wq hq;rcases Ret.bools hq with⟨zq,rfl,⟨hb,rfl⟩|⟨hb,rfl⟩⟩<;>clear hq)
        all_goals go_wp2_with (first
         |(go_at_call 101;refine(isFraction5_any _ _ _).mono ?_;intro e wq hq;rcases Ret.bools hq with⟨zq,rfl,⟨hb,rfl⟩|⟨hb,rfl⟩⟩<;>clear hq)
         |(go_at_call 128;refine(addS_any s pu pd _ (HF.out.small (Rat.le_trans (by decide) H0.out) (cast_le HK.out (by omega))) (by assumption)).mono ?_;rintro e w1 ⟨rfl,z1,rfl⟩;simp only[fracV]))
        all_goals first
         |(go_ret
           exact Ret.of (bool_eq (by rw[HX.out];simp[partsGo,sumOk,sameB_t,sameB_f, *])) Bw)
         |(go_round
           case rel=>
            refine⟨k+1,by omega,by go_num,s,(by rw[HX.out,List.take_succ_eq_append_getElem hlt,HP.out];simp[partsGo,RPart.rat,sameB_t,sameB_f, *]:_=_),HF.out,H0.out,Rat.le_trans HK.out (natUp k),Bw,by simp[ext_size];omega,by repeat(first|assumption|with_reducible refine J_alloc ?_|with_reducible refine J_ext ?_|with_reducible refine J_ne (by omega) ?_),by repeat(first|assumption|with_reducible refine J_alloc ?_|with_reducible refine J_ext ?_|with_reducible refine J_ne (by omega) ?_),?_⟩
            repeat(first|assumption|with_reducible refine J_alloc ?_|with_reducible refine J_ext ?_|with_reducible refine J_ne (by omega) ?_)
           case measure=>simp[intOf];omega)
       ·rw[List.drop_eq_nil_of_le (by omega)]at hx
        have HX:=Lib.hid hx
        clear hx hfit hs0 hsk
        have hkn: ¬(k:Int)<(ps.length:Int):=by omega
        go_wp2_with fail
        all_goals go_ret
        all_goals exact Ret.of (bool_eq (by rw[HX.out];first|(simp[partsGo,sumOk, *];done)|(simp[partsGo,sumOk, *];omega))) Bw
     ·clear hg1
      go_wp2_with fail
      go_loopw [35] (fun i wr=> ∃k:Nat,k<=ps.length/\i= .int .i64 k/\ ∃s:Rat,Hid (R=sumOk true fa (partsGo false true frm (ps.drop k) (ps.take k) s))/\Fits s/\0<=s/\s<=(k:Int)/\Below w.heap.size w wr/\w.heap.size+3<=wr.heap.size/\
       wr.heap[w.heap.size]?=some (.cells #[.string word, .bool fp, .bool false, .bool fc, .bool fy, .bool fa, .bool true, .bool true] 144)/\
       wr.heap[w.heap.size+1]?=some (.cells #[.int .i64 dk, .int .i64 dd, .string pl, .string frm, .slice B ps.length c, .int .i64 cl, .int .i64 yr] 56)/\
       wr.heap[w.heap.size+2]?=some (.cells #[.int .i64 s.num, .int .i64 s.den] 45)) (fun i _=>ps.length-(intOf i).toNat)
      case atStart=>
       refine⟨0,Nat.zero_le _,rfl,0,HX,fits_zero,Rat.le_refl,Rat.le_refl,?_,?_,?_,?_,?_⟩
       ·exact Bw
       ·simp
       ·exact J_alloc (J_alloc (J_new _ _ _ rfl))
       ·exact J_alloc (J_new _ _ _ (by simp))
       ·exact J_new _ _ _ (by simp)
      case round=>
       skip
       obtain⟨k,hk,rfl,s,hx,hfit,hs0,hsk,hB,hsz,g0,g1,g2⟩:=hrel
       have a0:wr.cell? ⟨w.heap.size,2,none⟩=some (.bool false):=by simp[World.cell?,g0]
       have a1:wr.cell? ⟨w.heap.size,5,none⟩=some (.bool fa):=by simp[World.cell?,g0]
       have a2:wr.cell? ⟨w.heap.size,7,none⟩=some (.bool true):=by simp[World.cell?,g0]
       have b0:wr.cell? ⟨w.heap.size+1,3,none⟩=some (.string frm):=by simp[World.cell?,g1]
       have b1:wr.cell? ⟨w.heap.size+1,4,none⟩=some (.slice B ps.length c):=by simp[World.cell?,g1]
       have c0:wr.cell? ⟨w.heap.size+2,0,none⟩=some (.int .i64 s.num):=by simp[World.cell?,g2]
       have c1:wr.cell? ⟨w.heap.size+2,1,none⟩=some (.int .i64 s.den):=by simp[World.cell?,g2]
       have d0:wr.frozen? ⟨w.heap.size+2,0,none⟩=false:=by simp[World.frozen?,g2]
       have d1:wr.frozen? ⟨w.heap.size+2,1,none⟩=false:=by simp[World.frozen?,g2]
       have e0:w.heap.size<wr.heap.size:=by omega
       have e1:w.heap.size+1<wr.heap.size:=by omega
       have e2:w.heap.size+2<wr.heap.size:=by omega
       have e3:w.heap.size+2≠wr.heap.size:=by omega
       by_cases hlt:k<ps.length
       ·rw[List.drop_eq_getElem_cons hlt]at hx
        obtain⟨b,off,rfl,hb,hc⟩:=(hS.keep hB).at hlt
        have hSk:=(hS.keep hB).take k
        generalize hp:ps[k]=p at*
        obtain⟨pn,pu,pd⟩:=p
        have h0:wr.cell? ⟨b,off+k*3,none⟩=some (.string pn):=hc 0 _ rfl
        have h1:wr.cell? ⟨b,off+k*3+1,none⟩=some (.int .i64 pu):=hc 1 _ rfl
        have h2:wr.cell? ⟨b,off+k*3+2,none⟩=some (.int .i64 pd):=hc 2 _ rfl
        have HP:=Lib.hid hp
        have HF:=Lib.hid hfit
        have H0:=Lib.hid hs0
        have HK:=Lib.hid hsk
        have HS:=Lib.hid hSk
        have HX:=Lib.hid hx
        have HH:=Lib.hid (show ps.length<=100000 by omega)
        have hkc:(k:Int)<=(c:Int):=by omega
        have hk0:(0:Int)<=(k:Int):=by omega
        have hkn:(k:Int)<(ps.length:Int):=by omega
        have htl:(ps.take k).length=k:=by rw[List.length_take];omega
        have HT:=Lib.hid htl
        clear hc hS hSk hp hfit hs0 hsk hx htl
        go_upto_region 10 with(go_at_call 78
                               refine(cfPart_any _ _ eg (fun q=>sameB q.name pn) _ k _ (ps.take k) _ HT.out.symm (by rw[HT.out];have:=HH.out;omega) (HS.out.keep (n:=wr.heap.size) Bw) (frc_gives _ pn _ _ (by simp) (by simp[go_sem]))).mono ?_
                               intro e wq hq;rcases Ret.bools hq with⟨zq,rfl,⟨hb,rfl⟩|⟨hb,rfl⟩⟩<;>clear hq)
        all_goals go_wp2_with (first
         |(go_at_call 101;refine(isFraction5_any _ _ _).mono ?_;intro e wq hq;rcases Ret.bools hq with⟨zq,rfl,⟨hb,rfl⟩|⟨hb,rfl⟩⟩<;>clear hq)
         |(go_at_call 128;refine(addS_any s pu pd _ (HF.out.small (Rat.le_trans (by decide) H0.out) (cast_le HK.out (by omega))) (by assumption)).mono ?_;rintro e w1 ⟨rfl,z1,rfl⟩;simp only[fracV]))
        all_goals first
         |(go_ret
           exact Ret.of (bool_eq (by rw[HX.out];simp[partsGo,sumOk,sameB_t,sameB_f, *])) Bw)
         |(go_round
           case rel=>
            refine⟨k+1,by omega,by go_num,s+Rat.divInt pu pd,(by rw[HX.out,List.take_succ_eq_append_getElem hlt,HP.out];simp[partsGo,RPart.rat,sameB_t,sameB_f, *]:_=_),HF.out.add (fits_share (by assumption)),sum_pos H0.out (by assumption),sum_up HK.out (by assumption),Bw,by simp[ext_size];omega,by repeat(first|assumption|with_reducible refine J_alloc ?_|with_reducible refine J_ext ?_|with_reducible refine J_ne (by omega) ?_),by repeat(first|assumption|with_reducible refine J_alloc ?_|with_reducible refine J_ext ?_|with_reducible refine J_ne (by omega) ?_),?_⟩
            (repeat(first|with_reducible refine J_alloc ?_|with_reducible refine J_ext ?_));exact J_set2 g2
           case measure=>simp[intOf];omega)
       ·rw[List.drop_eq_nil_of_le (by omega)]at hx
        have HX:=Lib.hid hx
        clear hx hfit hs0 hsk
        have hkn: ¬(k:Int)<(ps.length:Int):=by omega
        go_wp2_with fail
        all_goals go_ret
        all_goals exact Ret.of (bool_eq (by rw[HX.out];first|(simp[partsGo,sumOk, *];done)|(simp[partsGo,sumOk, *];omega))) Bw
    ·cases fs
     ·have hz1:=hg1 rfl
      clear hg1
      go_wp2_with fail
      go_loopw [35] (fun i wr=> ∃k:Nat,k<=ps.length/\i= .int .i64 k/\ ∃s:Rat,Hid (R=sumOk false fa (partsGo true false frm (ps.drop k) (ps.take k) s))/\Fits s/\0<=s/\s<=(k:Int)/\Below w.heap.size w wr/\w.heap.size+3<=wr.heap.size/\
       wr.heap[w.heap.size]?=some (.cells #[.string word, .bool fp, .bool true, .bool fc, .bool fy, .bool fa, .bool true, .bool false] 144)/\
       wr.heap[w.heap.size+1]?=some (.cells #[.int .i64 dk, .int .i64 dd, .string pl, .string frm, .slice B ps.length c, .int .i64 cl, .int .i64 yr] 56)/\
       wr.heap[w.heap.size+2]?=some (.cells #[.int .i64 s.num, .int .i64 s.den] 45)) (fun i _=>ps.length-(intOf i).toNat)
      case atStart=>
       refine⟨0,Nat.zero_le _,rfl,0,HX,fits_zero,Rat.le_refl,Rat.le_refl,?_,?_,?_,?_,?_⟩
       ·exact Bw
       ·simp
       ·exact J_alloc (J_alloc (J_new _ _ _ rfl))
       ·exact J_alloc (J_new _ _ _ (by simp))
       ·exact J_new _ _ _ (by simp)
      case round=>
       clear hz1
       obtain⟨k,hk,rfl,s,hx,hfit,hs0,hsk,hB,hsz,g0,g1,g2⟩:=hrel
       have a0:wr.cell? ⟨w.heap.size,2,none⟩=some (.bool true):=by simp[World.cell?,g0]
       have a1:wr.cell? ⟨w.heap.size,5,none⟩=some (.bool fa):=by simp[World.cell?,g0]
       have a2:wr.cell? ⟨w.heap.size,7,none⟩=some (.bool false):=by simp[World.cell?,g0]
       have b0:wr.cell? ⟨w.heap.size+1,3,none⟩=some (.string frm):=by simp[World.cell?,g1]
       have b1:wr.cell? ⟨w.heap.size+1,4,none⟩=some (.slice B ps.length c):=by simp[World.cell?,g1]
       have c0:wr.cell? ⟨w.heap.size+2,0,none⟩=some (.int .i64 s.num):=by simp[World.cell?,g2]
       have c1:wr.cell? ⟨w.heap.size+2,1,none⟩=some (.int .i64 s.den):=by simp[World.cell?,g2]
       have d0:wr.frozen? ⟨w.heap.size+2,0,none⟩=false:=by simp[World.frozen?,g2]
       have d1:wr.frozen? ⟨w.heap.size+2,1,none⟩=false:=by simp[World.frozen?,g2]
       have e0:w.heap.size<wr.heap.size:=by omega
       have e1:w.heap.size+1<wr.heap.size:=by omega
       have e2:w.heap.size+2<wr.heap.size:=by omega
       have e3:w.heap.size+2≠wr.heap.size:=by omega
       by_cases hlt:k<ps.length
       ·rw[List.drop_eq_getElem_cons hlt]at hx
        obtain⟨b,off,rfl,hb,hc⟩:=(hS.keep hB).at hlt
        have hSk:=(hS.keep hB).take k
        generalize hp:ps[k]=p at*
        obtain⟨pn,pu,pd⟩:=p
        have h0:wr.cell? ⟨b,off+k*3,none⟩=some (.string pn):=hc 0 _ rfl
        have h1:wr.cell? ⟨b,off+k*3+1,none⟩=some (.int .i64 pu):=hc 1 _ rfl
        have h2:wr.cell? ⟨b,off+k*3+2,none⟩=some (.int .i64 pd):=hc 2 _ rfl
        have HP:=Lib.hid hp
        have HF:=Lib.hid hfit
        have H0:=Lib.hid hs0
        have HK:=Lib.hid hsk
        have HS:=Lib.hid hSk
        have HX:=Lib.hid hx
        have HH:=Lib.hid (show ps.length<=100000 by omega)
        have hkc:(k:Int)<=(c:Int):=by omega
        have hk0:(0:Int)<=(k:Int):=by omega
        have hkn:(k:Int)<(ps.length:Int):=by omega
        have htl:(ps.take k).length=k:=by rw[List.length_take];omega
        have HT:=Lib.hid htl
        clear hc hS hSk hp hfit hs0 hsk hx htl
        go_upto_region 10 with(go_at_call 78
                               refine(cfPart_any _ _ eg (fun q=>sameB q.name pn) _ k _ (ps.take k) _ HT.out.symm (by rw[HT.out];have:=HH.out;omega) (HS.out.keep (n:=wr.heap.size) Bw) (frc_gives _ pn _ _ (by simp) (by simp[go_sem]))).mono ?_
                               intro e wq hq;rcases Ret.bools hq with⟨zq,rfl,⟨hb,rfl⟩|⟨hb,rfl⟩⟩<;>clear hq)
        all_goals go_wp2_with (first
         |(go_at_call 101;refine(isFraction5_any _ _ _).mono ?_;intro e wq hq;rcases Ret.bools hq with⟨zq,rfl,⟨hb,rfl⟩|⟨hb,rfl⟩⟩<;>clear hq)
         |(go_at_call 128;refine(addS_any s pu pd _ (HF.out.small (Rat.le_trans (by decide) H0.out) (cast_le HK.out (by omega))) (by assumption)).mono ?_;rintro e w1 ⟨rfl,z1,rfl⟩;simp only[fracV]))
        all_goals first
         |(go_ret
           exact Ret.of (bool_eq (by rw[HX.out];simp[partsGo,sumOk,sameB_t,sameB_f, *])) Bw)
         |(go_round
           case rel=>
            refine⟨k+1,by omega,by go_num,s,(by rw[HX.out,List.take_succ_eq_append_getElem hlt,HP.out];simp[partsGo,RPart.rat,sameB_t,sameB_f, *]:_=_),HF.out,H0.out,Rat.le_trans HK.out (natUp k),Bw,by simp[ext_size];omega,by repeat(first|assumption|with_reducible refine J_alloc ?_|with_reducible refine J_ext ?_|with_reducible refine J_ne (by omega) ?_),by repeat(first|assumption|with_reducible refine J_alloc ?_|with_reducible refine J_ext ?_|with_reducible refine J_ne (by omega) ?_),?_⟩
            repeat(first|assumption|with_reducible refine J_alloc ?_|with_reducible refine J_ext ?_|with_reducible refine J_ne (by omega) ?_)
           case measure=>simp[intOf];omega)
       ·rw[List.drop_eq_nil_of_le (by omega)]at hx
        have HX:=Lib.hid hx
        clear hx hfit hs0 hsk
        have hkn: ¬(k:Int)<(ps.length:Int):=by omega
        go_wp2_with fail
        all_goals go_ret
        all_goals exact Ret.of (bool_eq (by rw[HX.out];first|(simp[partsGo,sumOk, *];done)|(simp[partsGo,sumOk, *];omega))) Bw
     ·clear hg1
      go_wp2_with fail
      go_loopw [35] (fun i wr=> ∃k:Nat,k<=ps.length/\i= .int .i64 k/\ ∃s:Rat,Hid (R=sumOk true fa (partsGo true true frm (ps.drop k) (ps.take k) s))/\Fits s/\0<=s/\s<=(k:Int)/\Below w.heap.size w wr/\w.heap.size+3<=wr.heap.size/\
       wr.heap[w.heap.size]?=some (.cells #[.string word, .bool fp, .bool true, .bool fc, .bool fy, .bool fa, .bool true, .bool true] 144)/\
       wr.heap[w.heap.size+1]?=some (.cells #[.int .i64 dk, .int .i64 dd, .string pl, .string frm, .slice B ps.length c, .int .i64 cl, .int .i64 yr] 56)/\
       wr.heap[w.heap.size+2]?=some (.cells #[.int .i64 s.num, .int .i64 s.den] 45)) (fun i _=>ps.length-(intOf i).toNat)
      case atStart=>
       refine⟨0,Nat.zero_le _,rfl,0,HX,fits_zero,Rat.le_refl,Rat.le_refl,?_,?_,?_,?_,?_⟩
       ·exact Bw
       ·simp
       ·exact J_alloc (J_alloc (J_new _ _ _ rfl))
       ·exact J_alloc (J_new _ _ _ (by simp))
       ·exact J_new _ _ _ (by simp)
      case round=>
       skip
       obtain⟨k,hk,rfl,s,hx,hfit,hs0,hsk,hB,hsz,g0,g1,g2⟩:=hrel
       have a0:wr.cell? ⟨w.heap.size,2,none⟩=some (.bool true):=by simp[World.cell?,g0]
       have a1:wr.cell? ⟨w.heap.size,5,none⟩=some (.bool fa):=by simp[World.cell?,g0]
       have a2:wr.cell? ⟨w.heap.size,7,none⟩=some (.bool true):=by simp[World.cell?,g0]
       have b0:wr.cell? ⟨w.heap.size+1,3,none⟩=some (.string frm):=by simp[World.cell?,g1]
       have b1:wr.cell? ⟨w.heap.size+1,4,none⟩=some (.slice B ps.length c):=by simp[World.cell?,g1]
       have c0:wr.cell? ⟨w.heap.size+2,0,none⟩=some (.int .i64 s.num):=by simp[World.cell?,g2]
       have c1:wr.cell? ⟨w.heap.size+2,1,none⟩=some (.int .i64 s.den):=by simp[World.cell?,g2]
       have d0:wr.frozen? ⟨w.heap.size+2,0,none⟩=false:=by simp[World.frozen?,g2]
       have d1:wr.frozen? ⟨w.heap.size+2,1,none⟩=false:=by simp[World.frozen?,g2]
       have e0:w.heap.size<wr.heap.size:=by omega
       have e1:w.heap.size+1<wr.heap.size:=by omega
       have e2:w.heap.size+2<wr.heap.size:=by omega
       have e3:w.heap.size+2≠wr.heap.size:=by omega
       by_cases hlt:k<ps.length
       ·rw[List.drop_eq_getElem_cons hlt]at hx
        obtain⟨b,off,rfl,hb,hc⟩:=(hS.keep hB).at hlt
        have hSk:=(hS.keep hB).take k
        generalize hp:ps[k]=p at*
        obtain⟨pn,pu,pd⟩:=p
        have h0:wr.cell? ⟨b,off+k*3,none⟩=some (.string pn):=hc 0 _ rfl
        have h1:wr.cell? ⟨b,off+k*3+1,none⟩=some (.int .i64 pu):=hc 1 _ rfl
        have h2:wr.cell? ⟨b,off+k*3+2,none⟩=some (.int .i64 pd):=hc 2 _ rfl
        have HP:=Lib.hid hp
        have HF:=Lib.hid hfit
        have H0:=Lib.hid hs0
        have HK:=Lib.hid hsk
        have HS:=Lib.hid hSk
        have HX:=Lib.hid hx
        have HH:=Lib.hid (show ps.length<=100000 by omega)
        have hkc:(k:Int)<=(c:Int):=by omega
        have hk0:(0:Int)<=(k:Int):=by omega
        have hkn:(k:Int)<(ps.length:Int):=by omega
        have htl:(ps.take k).length=k:=by rw[List.length_take];omega
        have HT:=Lib.hid htl
        clear hc hS hSk hp hfit hs0 hsk hx htl
        go_upto_region 10 with(go_at_call 78
                               refine(cfPart_any _ _ eg (fun q=>sameB q.name pn) _ k _ (ps.take k) _ HT.out.symm (by rw[HT.out];have:=HH.out;omega) (HS.out.keep (n:=wr.heap.size) Bw) (frc_gives _ pn _ _ (by simp) (by simp[go_sem]))).mono ?_
                               intro e wq hq;rcases Ret.bools hq with⟨zq,rfl,⟨hb,rfl⟩|⟨hb,rfl⟩⟩<;>clear hq)
        all_goals go_wp2_with (first
         |(go_at_call 101;refine(isFraction5_any _ _ _).mono ?_;intro e wq hq;rcases Ret.bools hq with⟨zq,rfl,⟨hb,rfl⟩|⟨hb,rfl⟩⟩<;>clear hq)
         |(go_at_call 128;refine(addS_any s pu pd _ (HF.out.small (Rat.le_trans (by decide) H0.out) (cast_le HK.out (by omega))) (by assumption)).mono ?_;rintro e w1 ⟨rfl,z1,rfl⟩;simp only[fracV]))
        all_goals first
         |(go_ret
           exact Ret.of (bool_eq (by rw[HX.out];simp[partsGo,sumOk,sameB_t,sameB_f, *])) Bw)
         |(go_round
           case rel=>
            refine⟨k+1,by omega,by go_num,s+Rat.divInt pu pd,(by rw[HX.out,List.take_succ_eq_append_getElem hlt,HP.out];simp[partsGo,RPart.rat,sameB_t,sameB_f, *]:_=_),HF.out.add (fits_share (by assumption)),sum_pos H0.out (by assumption),sum_up HK.out (by assumption),Bw,by simp[ext_size];omega,by repeat(first|assumption|with_reducible refine J_alloc ?_|with_reducible refine J_ext ?_|with_reducible refine J_ne (by omega) ?_),by repeat(first|assumption|with_reducible refine J_alloc ?_|with_reducible refine J_ext ?_|with_reducible refine J_ne (by omega) ?_),?_⟩
            (repeat(first|with_reducible refine J_alloc ?_|with_reducible refine J_ext ?_));exact J_set2 g2
           case measure=>simp[intOf];omega)
       ·rw[List.drop_eq_nil_of_le (by omega)]at hx
        have HX:=Lib.hid hx
        clear hx hfit hs0 hsk
        have hkn: ¬(k:Int)<(ps.length:Int):=by omega
        go_wp2_with fail
        all_goals go_ret
        all_goals exact Ret.of (bool_eq (by rw[HX.out];first|(simp[partsGo,sumOk, *];done)|(simp[partsGo,sumOk, *];omega))) Bw
end Go.Proofs.YtmaidggpbihlgaaGreatDoor
