import Derived.Test.YthhgkjfgpkbliaaGreatDoorJ4
import Derived.Test.YthhgkjfgpkbliaaGreatDoorJL
set_option linter.all false
set_option maxRecDepth 100000
set_option maxHeartbeats 4000000
namespace Go.Proofs.YthhgkjfgpkbliaaGreatDoor
open Go.RowKit
attribute [local go_sem] World.cell?_alloc_mark zae zav zai zaw zam zan zao zap zaq zar zas
section
open Go.Shelf
theorem zhY{α:Type}(xs:List α)(p:α->Bool):(xs.attach.any fun x=>p x.1)=xs.any p:=by
 rw[Bool.eq_iff_iff];simp
def zea{α:Type}(g:Nat)(lb:Array Value)(v:α->Value)(p:α->Bool)(xs:List α)(w:World):Prop:=
 ∀x∈xs,∀W,Below w.heap.size w W->Calls Tryz.prog g (#[v x]++lb) W fun e w'=>e=.returned (.bool (p x))/\Below w.heap.size w w'
theorem sl_get{α:Type}{w:World}{k:Nat}{f:α->List Value}{b off:Nat}{xs:List α}(hS:∀j (x:α),xs[j]?=some x->∀i u,(f x)[i]?=some u->w.cell? ⟨b,off+j*k+i,none⟩=some u)[Inhabited {x // x∈xs}]:
 ∀j,j<xs.attach.length->∀i v,(f (xs.attach[j]!).1)[i]?=some v->w.cell? ⟨b,off+j*k+i,none⟩=some v:=fun j hj i v hi=>by
 have hl:j<xs.length:=McR;have e:(xs.attach[j]!).1=xs[j]:=by rw[getElem!_pos xs.attach j hj];simp
 rw[e]at hi;exact hS j _ (List.getElem?_eq_getElem hl) i v hi
theorem ifnilPart(A:Option Addr)(c:Nat)(fv:Value)(w:World):Calls Tryz.prog 118 #[.slice A 0 c,fv] w (Ret0 w (.int .i64 (-1))):=by
 go_enter Tryz.func118,Tryz.ntmps118
 exact Mal
theorem cfnilPart(A:Option Addr)(c:Nat)(fv:Value)(w:World):Calls Tryz.prog 93 #[.slice A 0 c,fv] w (Ret0 w (.bool false)):=by
 go_enter Tryz.func93,Tryz.ntmps93
 go_wp2_with (go_at_call 118;refine(ifnilPart _ _ _ _).mono ?_;rintro e wq ⟨rfl,rfl⟩)
 go_ret
 exact⟨rfl,rfl⟩
theorem zcv(g:Nat)(lb:Array Value)(eg:∀args w,(callFunc g args).run Tryz.prog w=.ok (.enter g args) w)(p:RPart->Bool)(A:Option Addr)(n c:Nat)(xs:List RPart)(w:World)(hn:n=xs.length)(hl:xs.length<=100000)
 (hS:Sl w 3 RPart.cells A xs)(hp:zea g lb (fun x=> .agg (RPart.cells x).toArray) p xs w):Calls Tryz.prog 93 #[.slice A n c,.func (.func g) #[] lb] w (Ret w (.bool (xs.any p))):=by
 subst hn;by_cases h0:xs.length=0
 ·have hx:xs=[]:=List.eq_nil_of_length_eq_zero h0;subst hx;refine(cfnilPart _ _ _ _).mono ?_;rintro e wq ⟨rfl,rfl⟩;exact Ret.of rfl (Below.refl _ _)
 ·obtain⟨b,off,rfl,hb,hc⟩:=hS MbC;haveI:Inhabited {x // x∈xs}:=⟨⟨xs[0]' MbC,List.getElem_mem _⟩⟩
  have aH:=AnyQ.slices_ContainsFunc cfPart 3 Tryz.isAgg59 Tryz.sizeOf59 (fun x: {x // x∈xs}=>RPart.cells x.1) (fun _=>rfl) (fun x=>p x.1) g lb eg b off xs.length c xs.attach w
   (fun W x hB=>hp x.1 x.2 W hB) MbF MbC hb (sl_get hc)
  rw[List.take_of_length_le MbF,zhY]at aH;change Calls Tryz.prog 93 _ _ _ at aH;exact MaG
theorem ifnilRec(A:Option Addr)(c:Nat)(fv:Value)(w:World):Calls Tryz.prog 218 #[.slice A 0 c,fv] w (Ret0 w (.int .i64 (-1))):=by
 go_enter Tryz.func218,Tryz.ntmps218
 exact Mal
theorem cfnilRec(A:Option Addr)(c:Nat)(fv:Value)(w:World):Calls Tryz.prog 168 #[.slice A 0 c,fv] w (Ret0 w (.bool false)):=by
 go_enter Tryz.func168,Tryz.ntmps168
 go_wp2_with (go_at_call 218;refine(ifnilRec _ _ _ _).mono ?_;rintro e wq ⟨rfl,rfl⟩)
 go_ret
 exact⟨rfl,rfl⟩
theorem cfRec_any(g:Nat)(lb:Array Value)(eg:∀args w,(callFunc g args).run Tryz.prog w=.ok (.enter g args) w)(p:Rec->Bool)(A:Option Addr)(n c:Nat)(xs:List Rec)(w:World)(hn:n=xs.length)(hl:xs.length<=100000)
 (hS:Sl w 8 Rec.cells A xs)(hp:zea g lb (fun x=> .agg (Rec.cells x).toArray) p xs w):Calls Tryz.prog 168 #[.slice A n c,.func (.func g) #[] lb] w (Ret w (.bool (xs.any p))):=by
 subst hn;by_cases h0:xs.length=0
 ·have hx:xs=[]:=List.eq_nil_of_length_eq_zero h0;subst hx;refine(cfnilRec _ _ _ _).mono ?_;rintro e wq ⟨rfl,rfl⟩;exact Ret.of rfl (Below.refl _ _)
 ·obtain⟨b,off,rfl,hb,hc⟩:=hS MbC;haveI:Inhabited {x // x∈xs}:=⟨⟨xs[0]' MbC,List.getElem_mem _⟩⟩
  have aH:=AnyQ.slices_ContainsFunc cfRec 8 Tryz.isAgg123 Tryz.sizeOf123 (fun x: {x // x∈xs}=>Rec.cells x.1) (fun _=>rfl) (fun x=>p x.1) g lb eg b off xs.length c xs.attach w
   (fun W x hB=>hp x.1 x.2 W hB) MbF MbC hb (sl_get hc)
  rw[List.take_of_length_le MbF,zhY]at aH;change Calls Tryz.prog 168 _ _ _ at aH;exact MaG
end
attribute [local go_sem] zah zac
structure Form where
 word:ByteArray
 place:Bool
 frm:Bool
 cls:Bool
 years:Bool
 all:Bool
 parts:Bool
 shares:Bool
def Form.cells(f:Form):List Value:=[.string f.word,.bool f.place,.bool f.frm,.bool f.cls,.bool f.years,.bool f.all,.bool f.parts,.bool f.shares]
def zeC:List Form:=[⟨⟨#[103,114,97,110,116]⟩,true,false,true,true,true,true,true⟩,⟨⟨#[116,114,97,110,115,102,101,114]⟩,true,true,false,false,false,true,true⟩,⟨⟨#[115,117,114,114,101,110,100,101,114]⟩,true,true,false,false,false,false,false⟩,⟨⟨#[114,101,110,101,119,97,108]⟩,true,false,false,true,false,false,false⟩,⟨⟨#[119,105,108,108]⟩,false,true,false,false,false,true,true⟩,⟨⟨#[114,101,110,111,117,110,99,101]⟩,false,true,false,false,false,true,false⟩,⟨⟨#[99,104,105,108,100]⟩,false,true,false,false,false,true,false⟩,⟨⟨#[109,97,114,114,105,97,103,101]⟩,false,true,false,false,false,true,false⟩,⟨⟨#[100,101,97,116,104]⟩,false,true,false,false,false,false,false⟩]
def zbT(frmB shares:Bool)(frm:ByteArray):List RPart->List RPart->Rat->Option Rat
 | [],_,s=>some s
 |p::l,seen,s=>
  if seen.any (fun q=>zag q.name p.name)||(zag p.name frm&&frmB)then none else
  if !shares then(if p.num != 0||p.den != 0 then none else zbT frmB shares frm l (seen++[p]) s)else
  if !za2 16 p.num p.den||p.num==0 then none else zbT frmB shares frm l (seen++[p]) (s+p.rat)
def zfC(shares all:Bool):Option Rat->Bool
 |none=>false
 |some s=>!shares||(decide (s.num<=s.den)&&(!all||s.num==(s.den:Int)))
def zfZ(f:Form)(frm:ByteArray)(ps:List RPart):Bool:=
 if !f.parts then ps.isEmpty else if ps.isEmpty||(!f.shares&&ps.length != 1)then false else zfC f.shares f.all (zbT f.frm f.shares frm ps [] 0)
def Fits(r:Rat):Prop:= ∃n:Int,r=Rat.divInt n 720720
theorem fits_zero:Fits 0:=⟨0,by simp⟩
theorem fits_one:Fits 1:=⟨720720,by rw[Rat.divInt_eq_div];grind⟩
theorem Fits.add{p q:Rat}(hp:Fits p)(hq:Fits q):Fits (p+q):=by
 obtain⟨a,rfl⟩:=hp;obtain⟨b,rfl⟩:=hq;exact⟨a+b,by rw[Rat.divInt_eq_div,Rat.divInt_eq_div,Rat.divInt_eq_div,Rat.intCast_add];grind⟩
theorem Fits.sub{p q:Rat}(hp:Fits p)(hq:Fits q):Fits (p-q):=by
 obtain⟨a,rfl⟩:=hp;obtain⟨b,rfl⟩:=hq;exact⟨a-b,by rw[Rat.divInt_eq_div,Rat.divInt_eq_div,Rat.divInt_eq_div,Rat.intCast_sub];grind⟩
theorem zd4{a b:Int}(h:za2 16 a b=true):Fits (Rat.divInt a b):=by
 unfold za2 at h;simp only[Bool.and_eq_true,decide_eq_true_eq]at h;obtain⟨⟨⟨h1,h2⟩,_⟩,_⟩:=h;have hd:b*(720720/b)=720720:=by
  have:b=1\/b=2\/b=3\/b=4\/b=5\/b=6\/b=7\/b=8\/b=9\/b=10\/b=11\/b=12\/b=13\/b=14\/b=15\/b=16:=by omega
  rcases this with rfl|rfl|rfl|rfl|rfl|rfl|rfl|rfl|rfl|rfl|rfl|rfl|rfl|rfl|rfl|rfl<;>decide
 generalize 720720/b=q at hd;have hk:q≠0:=fun e=>by rw[e]at hd;omega
 exact⟨a*q,by rw[<-hd,Rat.divInt_mul_right hk]⟩
theorem Fits.small{r:Rat}(h:Fits r)(h0: -1000<=r)(h1:r<=1000):zaD r:=by
 obtain⟨n,rfl⟩:=h;have hb:(0:Int)<720720:=MbD;have hd:((Rat.divInt n 720720).den:Int)<=720720:=by
  rw[zd0 hb];exact Int.ediv_le_self _ MbD
 have cY:(n:Rat)<=720720000:=by rw[Rat.divInt_eq_div]at h1;grind
 have tg: -720720000<=(n:Rat):=by rw[Rat.divInt_eq_div]at h0;grind
 have CK:n<=720720000:=by
  have:(n:Rat)<=((720720000:Int):Rat):=cY;exact Rat.intCast_le_intCast.1 this
 have CJ: -720720000<=n:=by
  have:((-720720000:Int):Rat)<=(n:Rat):=tg;exact Rat.intCast_le_intCast.1 this
 refine⟨?_,by omega⟩;rw[zeu hb,<-zd1 (Int.gcd_dvd_left ..)];exact Nat.le_trans (Int.natAbs_tdiv_le_natAbs _ _) MbC
theorem zdu{a b:ByteArray}(h:a.toList=b.toList):zag a b=true:=by simp[zag,h]
theorem zdH{a b:ByteArray}(h:¬a.toList=b.toList):zag a b=false:=by simp[zag,h]
theorem zbZ{w:World}{z:Ez}{x:Obj}{k:Nat}(h:w.heap[k]?=some x):(w.ext z).heap[k]?=some x:=(zbJ w z k (zad h)).trans h
theorem J_ne{w:World}{b o:Nat}{v:Value}{x:Obj}{k:Nat}(ag:k≠b)(h:w.heap[k]?=some x):(w.setCell ⟨b,o,none⟩ v).heap[k]?=some x:=by
 have hb:¬b=k:=fun e=>ag e.symm
 simp[World.setCell,Array.getElem?_modify,hb,h]
theorem zga{w:World}{g:Nat}{z0 z1 a b:Value}{t:TypeId}{fr:Nat×Nat}(h:w.heap[g]?=some (.cells #[z0,z1] t fr)):((w.setCell ⟨g,0,none⟩ a).setCell ⟨g,1,none⟩ b).heap[g]?=some (.cells #[a,b] t fr):=by
 exact Ma7
theorem frc_any(B:Nat)(nm:ByteArray)(q:RPart)(W:World)(hB:B<W.heap.size)(hc:W.cell? ⟨B,0,none⟩=some (.string nm)):
 Calls Tryz.prog 142 #[.agg #[.string q.name,.int .i64 q.num,.int .i64 q.den],.pointer (some ⟨B,0,none⟩)] W (Ret W (.bool (zag q.name nm))):=by
 have ag:B≠W.heap.size:=MbC;go_enter Tryz.func142,Tryz.ntmps142
 exact Mac
theorem zjj(B:Nat)(nm:ByteArray)(xs:List RPart)(w:World)(hB:B<w.heap.size)(hc:w.cell? ⟨B,0,none⟩=some (.string nm)):
 zea 142 #[.pointer (some ⟨B,0,none⟩)] (fun x=> .agg (RPart.cells x).toArray) (fun q=>zag q.name nm) xs w:=fun x _ W hW=>by
 refine(frc_any B nm x W (Nat.lt_of_lt_of_le hB hW.size) ((hW.cell (p:=⟨B,0,none⟩) hB).trans hc)).mono ?_;exact Mas
theorem cast_le{k:Nat}{s:Rat}(h:s<=((k:Int):Rat))(hk:k<=1000):s<=1000:=by
 have h2:((k:Int):Rat)<=((1000:Int):Rat):=Rat.intCast_le_intCast.2 MbC;exact Rat.le_trans h h2
theorem sum_pos{s:Rat}{a b:Int}(h:0<=s)(hs:za2 16 a b=true):0<=s+Rat.divInt a b:=by
 have:=(zbo hs).2.2.1;grind
theorem sum_up{k:Nat}{s:Rat}{a b:Int}(h:s<=((k:Int):Rat))(hs:za2 16 a b=true):s+Rat.divInt a b<=(((k+1:Nat):Int):Rat):=by
 have h1:=(zbo hs).2.2.2;have h2:(((k+1:Nat):Int):Rat)=((k:Int):Rat)+1:=by
  rw[show((k+1:Nat):Int)=(k:Int)+1 by omega,Rat.intCast_add];rfl
 rw[h2];grind
theorem natUp(k:Nat):((k:Int):Rat)<=(((k+1:Nat):Int):Rat):=Rat.intCast_le_intCast.2 MbC
theorem zlv(s:Rat)(a b:Int)(W:World)(hs:zaD s)(h:za2 16 a b=true):Calls Tryz.prog 122 #[.agg #[.int .i64 s.num,.int .i64 s.den],.agg #[.int .i64 a,.int .i64 b]] W (Ret W (za9 (s+Rat.divInt a b))):=by
 obtain⟨h1,h2,h3,h4⟩:=zbo h;have:=zlt s (Rat.divInt a b) W hs ((zd4 h).small (Rat.le_trans MbD h3) (Rat.le_trans h4 MbD));unfold za9 at this⊢;rw[h1,h2]at this;exact this
theorem zcT(f:Form)(dk dd:Int)(pl frm:ByteArray)(cl yr:Int)(ps:List RPart)(B:Option Addr)(n c:Nat)(w:World)(hn:n=ps.length)(hl:ps.length<=8)(aj:ps.length<=c)(hS:Sl w 3 RPart.cells B ps):
 Calls Tryz.prog 95 #[.agg #[.string f.word,.bool f.place,.bool f.frm,.bool f.cls,.bool f.years,.bool f.all,.bool f.parts,.bool f.shares],.agg #[.int .i64 dk,.int .i64 dd,.string pl,.string frm,.slice B n c,.int .i64 cl,.int .i64 yr]] w (Ret w (.bool (zfZ f frm ps))):=by
 subst hn;obtain⟨word,fp,ff,fc,fy,fa,fpt,fs⟩:=f;have eg:∀args w,(callFunc 142 args).run Tryz.prog w=.ok (.enter 142 args) w:=enters_of Tryz.func142 MbE rfl;generalize hR:zfZ ⟨word,fp,ff,fc,fy,fa,fpt,fs⟩ frm ps=R;have HR:=zHi hR;clear hR;go_enter Tryz.func95,Tryz.ntmps95
 cases fpt
 ·go_wp2_with fail
  go_ret
  refine Ret.of (zaW ?_) Bw;rw[<-HR.o];cases ps<;>simp[zfZ];omega
 ·cases ps with
  |nil=>
   go_wp2_with fail
   go_ret
   exact Ret.of (zaW (by rw[<-HR.o];rfl)) Bw
  |cons p0 pr=>
   generalize dq:p0::pr=ps at*;have bz:0<ps.length:=by rw[<-dq];simp
   clear dq p0 pr;have hz:((ps.length:Int)==0)=false:=McL;by_cases h1:fs=false/\ps.length≠1
   ·obtain⟨rfl,h1⟩:=h1;have fL:((ps.length:Int)==1)=false:=McL;go_wp2_with fail
    go_ret
    exact Ret.of (zaW (by rw[<-HR.o];simp[zfZ,h1])) Bw
   ·have hX:R=zfC fs fa (zbT ff fs frm (ps.drop 0) (ps.take 0) 0):=by
     rw[<-HR.o];have:(ps.isEmpty||(!fs&&ps.length != 1))=false:=by
      cases fs
      ·simp at h1;simp[h1];intro h;rw[h]at bz;simp at bz
      ·simp;intro h;rw[h]at bz;simp at bz
     simp only[zfZ,Bool.not_true,Bool.false_eq_true,if_false,this];rfl
    have bn:fs=false->((ps.length:Int) != 1)=false:=fun h=>by simp at h1;simp[h1 h]
    clear HR h1;have HX:=zHi hX;clear hX;have HL:=zHi hl;cases ff
    ·cases fs
     ·have fL:=bn rfl;clear bn;go_wp2_with fail
      go_loopw [35] (fun i wr=>∃k:Nat,k<=ps.length/\i=.int .i64 k/\∃s:Rat,Hid (R=zfC false fa (zbT false false frm (ps.drop k) (ps.take k) s))/\Fits s/\0<=s/\s<=(k:Int)/\Below w.heap.size w wr/\w.heap.size+3<=wr.heap.size/\
       wr.heap[w.heap.size]?=some (.cells #[.string word,.bool fp,.bool false,.bool fc,.bool fy,.bool fa,.bool true,.bool false] 156)/\
       wr.heap[w.heap.size+1]?=some (.cells #[.int .i64 dk,.int .i64 dd,.string pl,.string frm,.slice B ps.length c,.int .i64 cl,.int .i64 yr] 28)/\
       wr.heap[w.heap.size+2]?=some (.cells #[.int .i64 s.num,.int .i64 s.den] 54)) (fun i _=>ps.length-(intOf i).toNat)
      case atStart=>
       exact Mr
      case round=>
       clear fL;obtain⟨k,hk,rfl,s,hx,bP,eF,kS,hB,hsz,g0,g1,g2⟩:=hrel;have a0:wr.cell? ⟨w.heap.size,2,none⟩=some (.bool false):=MbG;exact Mh
     ·clear bn;go_wp2_with fail
      go_loopw [35] (fun i wr=>∃k:Nat,k<=ps.length/\i=.int .i64 k/\∃s:Rat,Hid (R=zfC true fa (zbT false true frm (ps.drop k) (ps.take k) s))/\Fits s/\0<=s/\s<=(k:Int)/\Below w.heap.size w wr/\w.heap.size+3<=wr.heap.size/\
       wr.heap[w.heap.size]?=some (.cells #[.string word,.bool fp,.bool false,.bool fc,.bool fy,.bool fa,.bool true,.bool true] 156)/\
       wr.heap[w.heap.size+1]?=some (.cells #[.int .i64 dk,.int .i64 dd,.string pl,.string frm,.slice B ps.length c,.int .i64 cl,.int .i64 yr] 28)/\
       wr.heap[w.heap.size+2]?=some (.cells #[.int .i64 s.num,.int .i64 s.den] 54)) (fun i _=>ps.length-(intOf i).toNat)
      case atStart=>
       exact Mr
      case round=>
       skip
       obtain⟨k,hk,rfl,s,hx,bP,eF,kS,hB,hsz,g0,g1,g2⟩:=hrel;have a0:wr.cell? ⟨w.heap.size,2,none⟩=some (.bool false):=MbG;exact Mg
    ·cases fs
     ·have fL:=bn rfl;clear bn;go_wp2_with fail
      go_loopw [35] (fun i wr=>∃k:Nat,k<=ps.length/\i=.int .i64 k/\∃s:Rat,Hid (R=zfC false fa (zbT true false frm (ps.drop k) (ps.take k) s))/\Fits s/\0<=s/\s<=(k:Int)/\Below w.heap.size w wr/\w.heap.size+3<=wr.heap.size/\
       wr.heap[w.heap.size]?=some (.cells #[.string word,.bool fp,.bool true,.bool fc,.bool fy,.bool fa,.bool true,.bool false] 156)/\
       wr.heap[w.heap.size+1]?=some (.cells #[.int .i64 dk,.int .i64 dd,.string pl,.string frm,.slice B ps.length c,.int .i64 cl,.int .i64 yr] 28)/\
       wr.heap[w.heap.size+2]?=some (.cells #[.int .i64 s.num,.int .i64 s.den] 54)) (fun i _=>ps.length-(intOf i).toNat)
      case atStart=>
       exact Mr
      case round=>
       clear fL;obtain⟨k,hk,rfl,s,hx,bP,eF,kS,hB,hsz,g0,g1,g2⟩:=hrel;have a0:wr.cell? ⟨w.heap.size,2,none⟩=some (.bool true):=MbG;exact Mh
     ·clear bn;go_wp2_with fail
      go_loopw [35] (fun i wr=>∃k:Nat,k<=ps.length/\i=.int .i64 k/\∃s:Rat,Hid (R=zfC true fa (zbT true true frm (ps.drop k) (ps.take k) s))/\Fits s/\0<=s/\s<=(k:Int)/\Below w.heap.size w wr/\w.heap.size+3<=wr.heap.size/\
       wr.heap[w.heap.size]?=some (.cells #[.string word,.bool fp,.bool true,.bool fc,.bool fy,.bool fa,.bool true,.bool true] 156)/\
       wr.heap[w.heap.size+1]?=some (.cells #[.int .i64 dk,.int .i64 dd,.string pl,.string frm,.slice B ps.length c,.int .i64 cl,.int .i64 yr] 28)/\
       wr.heap[w.heap.size+2]?=some (.cells #[.int .i64 s.num,.int .i64 s.den] 54)) (fun i _=>ps.length-(intOf i).toNat)
      case atStart=>
       exact Mr
      case round=>
       skip
       obtain⟨k,hk,rfl,s,hx,bP,eF,kS,hB,hsz,g0,g1,g2⟩:=hrel;have a0:wr.cell? ⟨w.heap.size,2,none⟩=some (.bool true):=MbG;exact Mg
