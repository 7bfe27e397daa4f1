/- Walk of chapter 5's form.right. -/
import Derived.Test.YtmfbdfejhdkiaaaGreatDoorMM
import Derived.Test.YtmfbdfejhdkiaaaGreatDoorJ2
import Derived.Test.YtmfbdfejhdkiaaaGreatDoorDK
set_option linter.all false
set_option maxRecDepth 100000
set_option maxHeartbeats 4000000
namespace Go.Proofs.YtmfbdfejhdkiaaaGreatDoor
open Go.RowKit
attribute [local go_sem] World.cell?_alloc_mark zae za4 zao za8 zav zaw zax zay zaz za0 za1
section
attribute [local go_sem] zap zac
def befP(ls:List Law)(k:Nat):Option Int:=if k=0 then none else(ls[k-1]?).map (·.frm)
theorem zhF(ls:List Law){k:Nat}(h:k<ls.length):befP ls (k+1)=some ls[k].frm:=by
 rw[befP,if_neg Mcq];simp[h]
theorem zfP(ls:List Law)(A:Option Addr)(n c:Nat)(w:World)(hn:n=ls.length)(hS:Sl w 4 Law.cells A ls):Calls Tryz.prog 44 #[.slice A n c] w (Ret w (.int .i64 (za9 ls))):=by
 subst hn;go_enter Tryz.func44,Tryz.ntmps44
 by_cases FM:10<ls.length
 ·exact Ma1
 have hx:decide ((10:Int)<(ls.length:Int))=false:=Mcw;go_wp2_with fail
 have hT:za9 ls=zeX (ls.drop 0) (befP ls 0):=by rw[za9,if_neg Mcw];rfl
 go_loopw [2,10] (fun u i wr=>u=.int .i64 0/\∃k:Nat,k<=ls.length/\i=.int .i64 k/\za9 ls=zeX (ls.drop k) (befP ls k)/\∃z,wr=w.ext z) (fun _ i _=>ls.length-(intOf i).toNat)
 case atStart=>exact⟨rfl,0,Nat.zero_le _,rfl,hT,zaU Qb⟩
 case round=>
  obtain⟨rfl,k,hk,rfl,hf,z,rfl⟩:=hrel;clear hT hx;by_cases aa:k<ls.length
  ·rw[List.drop_eq_getElem_cons aa,zeX]at hf;obtain⟨b,off,rfl,hb,hc⟩:=hS.at aa;have h0:w.cell? ⟨b,off+k*4,none⟩=some (.int .i64 ls[k].frm):=hc 0 _ rfl;have h1:w.cell? ⟨b,off+k*4+1,none⟩=some (.bool ls[k].stems):=hc 1 _ rfl;have h2:w.cell? ⟨b,off+k*4+2,none⟩=some (.int .i64 ls[k].num):=hc 2 _ rfl;have h3:w.cell? ⟨b,off+k*4+3,none⟩=some (.int .i64 ls[k].den):=hc 3 _ rfl;have HF:=zHi hf;have jz:(k:Int)<(ls.length:Int):=Mcq;have iF:0<k->w.cell? ⟨b,off+(k-1)*4,none⟩=some (.int .i64 (ls[k-1]' Mcq).frm):=fun aR=>by
    exact Mbz
   have HP:=zHi iF;have HB:befP ls (k+1)=some ls[k].frm:=zhF ls aa;have HB:=zHi HB;clear hc hf hS iF
   go_upto_region 10 with(first
    |(go_at_call 30;refine(zbQ _ _).mono ?_;intro e wq hq;rcases Ret0.bools hq with⟨rfl,⟨hb,rfl⟩|⟨hb,rfl⟩⟩<;>clear hq)
    |(go_at_call 82;refine(zdS _ _ _).mono ?_;intro e wq hq;rcases Ret.bools hq with⟨zq,rfl,⟨hb,rfl⟩|⟨hb,rfl⟩⟩<;>clear hq))
   all_goals first
    |(go_ret
      exact Ret.of (zcd MdY) Bw)
    |skip
   rcases Nat.eq_zero_or_pos k with aR|aR
   ·have hd:decide ((k:Int)>0)=false:=Mcw;have i8:befP ls k=none:=by rw[befP,if_pos aR]
    go_quiet (fail)
    go_wp2_with fail
    go_round
    case rel=>subst aR;exact⟨rfl,1,by omega,rfl,by rw[HF.o,HB.o];simp[zhx, *],zaU Bw⟩
    case measure=>simp[intOf];omega
   ·have hd:decide ((k:Int)>0)=true:=Mcw;have qF:IntKind.i64.wrap ((k:Int)-1)=(k:Int)-1:=IntWalk.i64_in _ Mcq;have iD:0<=(k:Int)-1:=Mcq;have dA:((k:Int)-1).toNat=k-1:=Mcq;have cA:(k:Int)-1<(ls.length:Int):=Mcq;have hp:=HP.o aR;have aW:befP ls k=some (ls[k-1]' Mcq).frm:=by have:=zhF ls (k:=k-1) Mcq;rwa [Nat.sub_add_cancel aR]at this
    go_quiet (fail)
    go_wp2_with fail
    all_goals first
     |(go_ret
       exact Ret.of (zcd MdY) Bw)
     |(go_round
       case rel=>exact⟨rfl,k+1,by omega,by go_num,by rw[HF.o,HB.o];simp[zhx, *],zaU Bw⟩
       case measure=>simp[intOf];omega)
  ·exact MaB
def Law.v(x:Law):Value:=.agg #[.int .i64 x.frm,.bool x.stems,.int .i64 x.num,.int .i64 x.den]
theorem zif{fn:Func}{p:Tmp}(h:fn.results= #[.cell p 72])(tmps:Array Value)(w:World)(B:Nat)(x:Law)(hp:tmps.getD p undef=.pointer (some ⟨B,0,none⟩))
 (h0:w.cell? ⟨B,0,none⟩=some (.int .i64 x.frm))(h1:w.cell? ⟨B,1,none⟩=some (.bool x.stems))(h2:w.cell? ⟨B,2,none⟩=some (.int .i64 x.num))(h3:w.cell? ⟨B,3,none⟩=some (.int .i64 x.den)):(results fn tmps).run Tryz.prog w=.ok x.v w:=by
 rw[zdL h,hp];unfold Law.v;go_simp
theorem zf3(ls:List Law)(day:Int){k:Nat}(h:k<ls.length):zbc (ls.take (k+1)) day=if decide (ls[k].frm<=day)then ls[k]else zbc (ls.take k) day:=by
 rw[List.take_succ_eq_append_getElem h];unfold zbc;rw[List.filter_append];by_cases hc:ls[k].frm<=day<;>simp[hc]
theorem zat(w:World)(o:Obj)(k:Nat)(h:k=w.heap.size):(w.alloc o).heap[k]?=some o:=by rw[h];exact heap_alloc_new w o
theorem zal{w:World}{o x:Obj}{k:Nat}(h:w.heap[k]?=some x):(w.alloc o).heap[k]?=some x:=(Below.heap_alloc w o k (zab h)).trans h
theorem zn8{w:World}{g:Nat}{z0 z1 z2 z3 a b c d:Value}{t:TypeId}{fr:Nat×Nat}(h:w.heap[g]?=some (.cells #[z0,z1,z2,z3] t fr)):
 ((((w.setCell ⟨g,0,none⟩ a).setCell ⟨g,1,none⟩ b).setCell ⟨g,2,none⟩ c).setCell ⟨g,3,none⟩ d).heap[g]?=some (.cells #[a,b,c,d] t fr):=by
 have:=Joins.block_setCell (i:=3) (Joins.block_setCell (i:=2) (Joins.block_setCell (i:=1) (Joins.block_setCell (i:=0) h a) b) c) d;simpa using this
theorem zoo(ls:List Law)(A:Option Addr)(c:Nat)(day:Int)(w:World)(hl:ls.length<=10)(hS:Sl w 4 Law.cells A ls):Calls Tryz.prog 95 #[.slice A ls.length c,.int .i64 day] w (Ret w (zbc ls day).v):=by
 go_enter Tryz.func95,Tryz.ntmps95
 go_wp2_with fail
 go_loopw [12] (fun i wr=>∃k:Nat,k<=ls.length/\i=.int .i64 k/\∃x:Law,x=zbc (ls.take k) day/\Qa w wr/\w.heap.size+2<=wr.heap.size/\wr.heap[w.heap.size]?=some (.cells #[.int .i64 0,.bool false,.int .i64 0,.int .i64 0] 72)/\wr.heap[w.heap.size+1]?=some (.cells #[.int .i64 x.frm,.bool x.stems,.int .i64 x.num,.int .i64 x.den] 72)) (fun i _=>ls.length-(intOf i).toNat)
 case atStart=>
  refine⟨0,Nat.zero_le _,rfl,zms,rfl,?_,?_,?_,?_⟩
  ·exact Bw
  ·simp
  ·exact zal (zat _ _ _ rfl)
  ·exact zat _ _ _ Mcv
 case round=>
  obtain⟨k,hk,rfl,x,hx,hB,hsz,g0,g1⟩:=hrel;have c0:wr.cell? ⟨w.heap.size+1,0,none⟩=some (.int .i64 x.frm):=Mct;have c1:wr.cell? ⟨w.heap.size+1,1,none⟩=some (.bool x.stems):=Mct;have c2:wr.cell? ⟨w.heap.size+1,2,none⟩=some (.int .i64 x.num):=Mct;have c3:wr.cell? ⟨w.heap.size+1,3,none⟩=some (.int .i64 x.den):=Mct;have d0:wr.cell? ⟨w.heap.size,0,none⟩=some (.int .i64 0):=Mcr;have d1:wr.cell? ⟨w.heap.size,1,none⟩=some (.bool false):=Mcr;have d2:wr.cell? ⟨w.heap.size,2,none⟩=some (.int .i64 0):=Mcr;have d3:wr.cell? ⟨w.heap.size,3,none⟩=some (.int .i64 0):=Mcr;have f0:wr.frozen? ⟨w.heap.size,0,none⟩=false:=McE;have f1:wr.frozen? ⟨w.heap.size+1,0,none⟩=false:=McF;have e1:wr.frozen? ⟨w.heap.size+1,1,none⟩=false:=McF;have e2:wr.frozen? ⟨w.heap.size+1,2,none⟩=false:=McF;have e3:wr.frozen? ⟨w.heap.size+1,3,none⟩=false:=McF;have m1:wr.frozen? ⟨w.heap.size,1,none⟩=false:=McE;have m2:wr.frozen? ⟨w.heap.size,2,none⟩=false:=McE;have m3:wr.frozen? ⟨w.heap.size,3,none⟩=false:=McE;have ee:w.heap.size+1<wr.heap.size:=Mcq;have aw:w.heap.size<wr.heap.size:=Mcq;have bk:w.heap.size+1≠wr.heap.size:=Mcq;by_cases aa:k<ls.length
  ·obtain⟨b,off,rfl,hb,hc⟩:=(hS.keep hB).at aa;have h0:wr.cell? ⟨b,off+k*4,none⟩=some (.int .i64 ls[k].frm):=hc 0 _ rfl;have h1:wr.cell? ⟨b,off+k*4+1,none⟩=some (.bool ls[k].stems):=hc 1 _ rfl;have h2:wr.cell? ⟨b,off+k*4+2,none⟩=some (.int .i64 ls[k].num):=hc 2 _ rfl;have h3:wr.cell? ⟨b,off+k*4+3,none⟩=some (.int .i64 ls[k].den):=hc 3 _ rfl;clear hc hS;go_wp2_with fail
   ·refine⟨⟨k+1,by omega,by go_num,ls[k],by rw[zf3 ls day aa,if_pos (by simp;assumption)],?_,?_,?_,?_⟩,by simp[intOf];omega⟩
    ·exact zad (zaN (zaN (zaN (zaN hB Mcv _) Mcv _) Mcv _) Mcv _) _
    ·simp;omega
    ·exact zal (((zaN (zaN (zaN (zaN (Below.refl (w.heap.size+1) wr) Mcv _) Mcv _) Mcv _) Mcv _).block w.heap.size Mcq).trans g0)
    ·exact zal (zn8 g1)
   ·refine⟨⟨k+1,by omega,by go_num,zbc (ls.take k) day,by rw[zf3 ls day aa,if_neg (by simp;assumption)],?_,?_,?_,?_⟩,by simp[intOf];omega⟩
    ·exact zad hB _
    ·simp;omega
    ·exact zal g0
    ·exact zal (by simpa[hx]using g1)
  ·go_wp2_with fail
   have sX:ls.take k=ls:=List.take_of_length_le Mcq;have g4:=zn8 (a:=.int .i64 (zbc ls day).frm) (b:=.bool (zbc ls day).stems) (c:=.int .i64 (zbc ls day).num) (d:=.int .i64 (zbc ls day).den) g0;rw[sX];refine bodyPost_ret (v:=(zbc ls day).v) ?_ rfl ?_
   ·refine zif rfl _ _ w.heap.size _ rfl ?_ ?_ ?_ ?_<;>simp[World.cell?,g4]
   ·exact Ret.of rfl (zaN (zaN (zaN (zaN hB Mcv _) Mcv _) Mcv _) Mcv _)
end
section
open Go.Shelf
theorem zop{α:Type}(xs:List α)(p:α->Bool):(xs.attach.any fun x=>p x.1)=xs.any p:=by
 rw[Bool.eq_iff_iff];simp
def zeZ{α:Type}(g:Nat)(lb:Array Value)(v:α->Value)(p:α->Bool)(xs:List α)(w:World):Prop:=
 ∀x∈xs,∀W,Qa w W->Calls Tryz.prog g (#[v x]++lb) W fun e w'=>e=.returned (.bool (p x))/\Qa w w'
theorem sl_get{α:Type}{w:World}{k:Nat}{f:α->List Value}{b off:Nat}{xs:List α}(hS:∀j (x:α),xs[j]?=some x->∀i u,(f x)[i]?=some u->w.cell? ⟨b,off+j*k+i,none⟩=some u)[Inhabited {x // x∈xs}]:
 ∀j,j<xs.attach.length->∀i v,(f (xs.attach[j]!).1)[i]?=some v->w.cell? ⟨b,off+j*k+i,none⟩=some v:=fun j hj i v hi=>by
 have hl:j<xs.length:=MdI;have e:(xs.attach[j]!).1=xs[j]:=by rw[getElem!_pos xs.attach j hj];simp
 rw[e]at hi;exact hS j _ (List.getElem?_eq_getElem hl) i v hi
theorem ifnilPart(A:Option Addr)(c:Nat)(fv:Value)(w:World):Calls Tryz.prog 83 #[.slice A 0 c,fv] w (Ret0 w (.int .i64 (-1))):=by
 go_enter Tryz.func83,Tryz.ntmps83
 go_wp2_with fail
 go_loop [5,8] (fun a b=>b=.int .i64 0) (fun _ _=>0)
 case atStart=>rfl
 case round=>
  obtain rfl:=hrel;go_wp2_with fail
  go_ret
  exact⟨rfl,rfl⟩
theorem cfnilPart(A:Option Addr)(c:Nat)(fv:Value)(w:World):Calls Tryz.prog 47 #[.slice A 0 c,fv] w (Ret0 w (.bool false)):=by
 go_enter Tryz.func47,Tryz.ntmps47
 go_wp2_with (go_at_call 83;refine(ifnilPart _ _ _ _).mono ?_;rintro e wq ⟨rfl,rfl⟩)
 go_ret
 exact⟨rfl,rfl⟩
theorem zcf(g:Nat)(lb:Array Value)(eg:∀args w,(callFunc g args).run Tryz.prog w=.ok (.enter g args) w)(p:RPart->Bool)(A:Option Addr)(n c:Nat)(xs:List RPart)(w:World)(hn:n=xs.length)(hl:xs.length<=100000)
 (hS:Sl w 3 RPart.cells A xs)(hp:zeZ g lb (fun x=> .agg (RPart.cells x).toArray) p xs w):Calls Tryz.prog 47 #[.slice A n c,.func (.func g) #[] lb] w (Ret w (.bool (xs.any p))):=by
 subst hn;by_cases h0:xs.length=0
 ·have hx:xs=[]:=List.eq_nil_of_length_eq_zero h0;subst hx;refine(cfnilPart _ _ _ _).mono ?_;rintro e wq ⟨rfl,rfl⟩;exact Ret.of rfl Qb
 ·obtain⟨b,off,rfl,hb,hc⟩:=hS Mcq;haveI:Inhabited {x // x∈xs}:=⟨⟨xs[0]' Mcq,List.getElem_mem _⟩⟩
  have ba:=AnyQ.slices_ContainsFunc cfPart 3 Tryz.isAgg59 Tryz.sizeOf59 (fun x: {x // x∈xs}=>RPart.cells x.1) (fun _=>rfl) (fun x=>p x.1) g lb eg b off xs.length c xs.attach w
   (fun W x hB=>hp x.1 x.2 W hB) Mcv Mcq hb (sl_get hc)
  rw[List.take_of_length_le Mcv,zop]at ba;change Calls Tryz.prog 47 _ _ _ at ba;refine ba.mono ?_;rintro e wq ⟨rfl,hB⟩;exact Ret.of rfl hB
end
attribute [local go_sem] zap zac
structure Form where
 word:ByteArray
 place:Bool
 frm:Bool
 cls:Bool
 years:Bool
 all:Bool
 parts:Bool
 shares:Bool
def Form.cells(f:Form):List Value:=[.string f.word,.bool f.place,.bool f.frm,.bool f.cls,.bool f.years,.bool f.all,.bool f.parts,.bool f.shares]
def zed:List Form:=[⟨⟨#[103,114,97,110,116]⟩,true,false,true,true,true,true,true⟩,⟨⟨#[116,114,97,110,115,102,101,114]⟩,true,true,false,false,false,true,true⟩,⟨⟨#[115,117,114,114,101,110,100,101,114]⟩,true,true,false,false,false,false,false⟩,⟨⟨#[114,101,110,101,119,97,108]⟩,true,false,false,true,false,false,false⟩,⟨⟨#[119,105,108,108]⟩,false,true,false,false,false,true,true⟩,⟨⟨#[114,101,110,111,117,110,99,101]⟩,false,true,false,false,false,true,false⟩,⟨⟨#[99,104,105,108,100]⟩,false,true,false,false,false,true,false⟩,⟨⟨#[109,97,114,114,105,97,103,101]⟩,false,true,false,false,false,true,false⟩,⟨⟨#[100,101,97,116,104]⟩,false,true,false,false,false,false,false⟩]
def zcs(frmB shares:Bool)(frm:ByteArray):List RPart->List RPart->Rat->Option Rat
 | [],_,s=>some s
 |p::l,seen,s=>
  if seen.any (fun q=>zaf q.name p.name)||(zaf p.name frm&&frmB)then none else
  if !shares then(if p.num != 0||p.den != 0 then none else zcs frmB shares frm l (seen++[p]) s)else
  if !zaA 16 p.num p.den||p.num==0 then none else zcs frmB shares frm l (seen++[p]) (s+p.rat)
def zhb(shares all:Bool):Option Rat->Bool
 |none=>false
 |some s=>!shares||(decide (s.num<=s.den)&&(!all||s.num==(s.den:Int)))
def zhy(f:Form)(frm:ByteArray)(ps:List RPart):Bool:=
 if !f.parts then ps.isEmpty else if ps.isEmpty||(!f.shares&&ps.length != 1)then false else zhb f.shares f.all (zcs f.frm f.shares frm ps [] 0)
def Fits(r:Rat):Prop:= ∃n:Int,r=Rat.divInt n 720720
theorem fits_zero:Fits 0:=⟨0,by simp⟩
theorem fits_one:Fits 1:=⟨720720,by rw[Rat.divInt_eq_div];grind⟩
theorem Fits.add{p q:Rat}(hp:Fits p)(hq:Fits q):Fits (p+q):=by
 obtain⟨a,rfl⟩:=hp;obtain⟨b,rfl⟩:=hq;exact⟨a+b,by rw[Rat.divInt_eq_div,Rat.divInt_eq_div,Rat.divInt_eq_div,Rat.intCast_add];grind⟩
theorem Fits.sub{p q:Rat}(hp:Fits p)(hq:Fits q):Fits (p-q):=by
 obtain⟨a,rfl⟩:=hp;obtain⟨b,rfl⟩:=hq;exact⟨a-b,by rw[Rat.divInt_eq_div,Rat.divInt_eq_div,Rat.divInt_eq_div,Rat.intCast_sub];grind⟩
theorem zeq{a b:Int}(h:zaA 16 a b=true):Fits (Rat.divInt a b):=by
 unfold zaA at h;simp only[Bool.and_eq_true,decide_eq_true_eq]at h;obtain⟨⟨⟨h1,h2⟩,_⟩,_⟩:=h;have hd:b*(720720/b)=720720:=by
  have:b=1\/b=2\/b=3\/b=4\/b=5\/b=6\/b=7\/b=8\/b=9\/b=10\/b=11\/b=12\/b=13\/b=14\/b=15\/b=16:=by omega
  rcases this with rfl|rfl|rfl|rfl|rfl|rfl|rfl|rfl|rfl|rfl|rfl|rfl|rfl|rfl|rfl|rfl<;>decide
 generalize 720720/b=q at hd;have hk:q≠0:=fun e=>by rw[e]at hd;omega
 exact⟨a*q,by rw[<-hd,Rat.divInt_mul_right hk]⟩
theorem Fits.small{r:Rat}(h:Fits r)(h0: -1000<=r)(h1:r<=1000):zaL r:=by
 obtain⟨n,rfl⟩:=h;have hb:(0:Int)<720720:=Mcu;have hd:((Rat.divInt n 720720).den:Int)<=720720:=by
  rw[zem hb];exact Int.ediv_le_self _ Mcu
 have bD:(n:Rat)<=720720000:=by rw[Rat.divInt_eq_div]at h1;grind
 have ka: -720720000<=(n:Rat):=by rw[Rat.divInt_eq_div]at h0;grind
 have LX:n<=720720000:=by
  have:(n:Rat)<=((720720000:Int):Rat):=bD;exact Rat.intCast_le_intCast.1 this
 have LW: -720720000<=n:=by
  have:((-720720000:Int):Rat)<=(n:Rat):=ka;exact Rat.intCast_le_intCast.1 this
 refine⟨?_,by omega⟩;rw[zf0 hb,<-zen (Int.gcd_dvd_left ..)];exact Nat.le_trans (Int.natAbs_tdiv_le_natAbs _ _) Mcq
theorem zei{a b:ByteArray}(h:a.toList=b.toList):zaf a b=true:=by simp[zaf,h]
theorem ze3{a b:ByteArray}(h:¬a.toList=b.toList):zaf a b=false:=by simp[zaf,h]
theorem zby{w:World}{z:Ez}{x:Obj}{k:Nat}(h:w.heap[k]?=some x):(w.ext z).heap[k]?=some x:=(zcL w z k (zab h)).trans h
theorem J_ne{w:World}{b o:Nat}{v:Value}{x:Obj}{k:Nat}(ag:k≠b)(h:w.heap[k]?=some x):(w.setCell ⟨b,o,none⟩ v).heap[k]?=some x:=by
 have hb:¬b=k:=fun e=>ag e.symm
 simp[World.setCell,Array.getElem?_modify,hb,h]
theorem zeO{w:World}{g:Nat}{z0 z1 a b:Value}{t:TypeId}{fr:Nat×Nat}(h:w.heap[g]?=some (.cells #[z0,z1] t fr)):((w.setCell ⟨g,0,none⟩ a).setCell ⟨g,1,none⟩ b).heap[g]?=some (.cells #[a,b] t fr):=by
 exact MbM
theorem frc_any(B:Nat)(nm:ByteArray)(q:RPart)(W:World)(hB:B<W.heap.size)(hc:W.cell? ⟨B,0,none⟩=some (.string nm)):
 Calls Tryz.prog 84 #[.agg #[.string q.name,.int .i64 q.num,.int .i64 q.den],.pointer (some ⟨B,0,none⟩)] W (Ret W (.bool (zaf q.name nm))):=by
 have ag:B≠W.heap.size:=Mcq;go_enter Tryz.func84,Tryz.ntmps84
 exact MbK
theorem zla(B:Nat)(nm:ByteArray)(xs:List RPart)(w:World)(hB:B<w.heap.size)(hc:w.cell? ⟨B,0,none⟩=some (.string nm)):
 zeZ 84 #[.pointer (some ⟨B,0,none⟩)] (fun x=> .agg (RPart.cells x).toArray) (fun q=>zaf q.name nm) xs w:=fun x _ W hW=>by
 refine(frc_any B nm x W (Nat.lt_of_lt_of_le hB hW.size) ((hW.cell (p:=⟨B,0,none⟩) hB).trans hc)).mono ?_;exact May
theorem cast_le{k:Nat}{s:Rat}(h:s<=((k:Int):Rat))(hk:k<=1000):s<=1000:=by
 have h2:((k:Int):Rat)<=((1000:Int):Rat):=Rat.intCast_le_intCast.2 Mcq;exact Rat.le_trans h h2
theorem sum_pos{s:Rat}{a b:Int}(h:0<=s)(hs:zaA 16 a b=true):0<=s+Rat.divInt a b:=by
 have:=(zbl hs).2.2.1;grind
theorem sum_up{k:Nat}{s:Rat}{a b:Int}(h:s<=((k:Int):Rat))(hs:zaA 16 a b=true):s+Rat.divInt a b<=(((k+1:Nat):Int):Rat):=by
 have h1:=(zbl hs).2.2.2;have h2:(((k+1:Nat):Int):Rat)=((k:Int):Rat)+1:=by
  rw[show((k+1:Nat):Int)=(k:Int)+1 by omega,Rat.intCast_add];rfl
 rw[h2];grind
theorem natUp(k:Nat):((k:Int):Rat)<=(((k+1:Nat):Int):Rat):=Rat.intCast_le_intCast.2 Mcq
theorem zn9(s:Rat)(a b:Int)(W:World)(hs:zaL s)(h:zaA 16 a b=true):Calls Tryz.prog 85 #[.agg #[.int .i64 s.num,.int .i64 s.den],.agg #[.int .i64 a,.int .i64 b]] W (Ret W (zaD (s+Rat.divInt a b))):=by
 obtain⟨h1,h2,h3,h4⟩:=zbl h;have:=zn6 s (Rat.divInt a b) W hs ((zeq h).small (Rat.le_trans Mcu h3) (Rat.le_trans h4 Mcu));unfold zaD at this⊢;rw[h1,h2]at this;exact this
theorem zbT(f:Form)(dk dd:Int)(pl frm:ByteArray)(cl yr:Int)(ps:List RPart)(B:Option Addr)(n c:Nat)(w:World)(hn:n=ps.length)(hl:ps.length<=8)(ao:ps.length<=c)(hS:Sl w 3 RPart.cells B ps):
 Calls Tryz.prog 49 #[.agg #[.string f.word,.bool f.place,.bool f.frm,.bool f.cls,.bool f.years,.bool f.all,.bool f.parts,.bool f.shares],.agg #[.int .i64 dk,.int .i64 dd,.string pl,.string frm,.slice B n c,.int .i64 cl,.int .i64 yr]] w (Ret w (.bool (zhy f frm ps))):=by
 subst hn;obtain⟨word,fp,ff,fc,fy,fa,fpt,fs⟩:=f;have eg:∀args w,(callFunc 84 args).run Tryz.prog w=.ok (.enter 84 args) w:=enters_of Tryz.func84 Mcs rfl;generalize hR:zhy ⟨word,fp,ff,fc,fy,fa,fpt,fs⟩ frm ps=R;have HR:=zHi hR;clear hR;go_enter Tryz.func49,Tryz.ntmps49
 cases fpt
 ·go_wp2_with fail
  go_ret
  refine Ret.of (zaR ?_) Bw;rw[<-HR.o];cases ps<;>simp[zhy];omega
 ·cases ps with
  |nil=>
   go_wp2_with fail
   go_ret
   exact Ret.of (zaR (by rw[<-HR.o];rfl)) Bw
  |cons p0 pr=>
   generalize cT:p0::pr=ps at*;have cS:0<ps.length:=by rw[<-cT];simp
   clear cT p0 pr;have hz:((ps.length:Int)==0)=false:=Mep;by_cases h1:fs=false/\ps.length≠1
   ·obtain⟨rfl,h1⟩:=h1;have ny:((ps.length:Int)==1)=false:=Mep;go_wp2_with fail
    go_ret
    exact Ret.of (zaR (by rw[<-HR.o];simp[zhy,h1])) Bw
   ·have hX:R=zhb fs fa (zcs ff fs frm (ps.drop 0) (ps.take 0) 0):=by
     rw[<-HR.o];have:(ps.isEmpty||(!fs&&ps.length != 1))=false:=by
      cases fs
      ·simp at h1;simp[h1];intro h;rw[h]at cS;simp at cS
      ·simp;intro h;rw[h]at cS;simp at cS
     simp only[zhy,Bool.not_true,Bool.false_eq_true,if_false,this];rfl
    have cK:fs=false->((ps.length:Int) != 1)=false:=fun h=>by simp at h1;simp[h1 h]
    clear HR h1;have HX:=zHi hX;clear hX;have HL:=zHi hl;cases ff
    ·cases fs
     ·have ny:=cK rfl;clear cK;go_wp2_with fail
      go_loopw [35] (fun i wr=>∃k:Nat,k<=ps.length/\i=.int .i64 k/\∃s:Rat,Hid (R=zhb false fa (zcs false false frm (ps.drop k) (ps.take k) s))/\Fits s/\0<=s/\s<=(k:Int)/\Qa w wr/\w.heap.size+3<=wr.heap.size/\
       wr.heap[w.heap.size]?=some (.cells #[.string word,.bool fp,.bool false,.bool fc,.bool fy,.bool fa,.bool true,.bool false] 107)/\
       wr.heap[w.heap.size+1]?=some (.cells #[.int .i64 dk,.int .i64 dd,.string pl,.string frm,.slice B ps.length c,.int .i64 cl,.int .i64 yr] 28)/\
       wr.heap[w.heap.size+2]?=some (.cells #[.int .i64 s.num,.int .i64 s.den] 57)) (fun i _=>ps.length-(intOf i).toNat)
      case atStart=>
       exact MK
      case round=>
       clear ny;obtain⟨k,hk,rfl,s,hx,dN,aw,kK,hB,hsz,g0,g1,g2⟩:=hrel;have a0:wr.cell? ⟨w.heap.size,2,none⟩=some (.bool false):=Mcr;exact Ml
     ·clear cK;go_wp2_with fail
      go_loopw [35] (fun i wr=>∃k:Nat,k<=ps.length/\i=.int .i64 k/\∃s:Rat,Hid (R=zhb true fa (zcs false true frm (ps.drop k) (ps.take k) s))/\Fits s/\0<=s/\s<=(k:Int)/\Qa w wr/\w.heap.size+3<=wr.heap.size/\
       wr.heap[w.heap.size]?=some (.cells #[.string word,.bool fp,.bool false,.bool fc,.bool fy,.bool fa,.bool true,.bool true] 107)/\
       wr.heap[w.heap.size+1]?=some (.cells #[.int .i64 dk,.int .i64 dd,.string pl,.string frm,.slice B ps.length c,.int .i64 cl,.int .i64 yr] 28)/\
       wr.heap[w.heap.size+2]?=some (.cells #[.int .i64 s.num,.int .i64 s.den] 57)) (fun i _=>ps.length-(intOf i).toNat)
      case atStart=>
       exact MK
      case round=>
       skip
       obtain⟨k,hk,rfl,s,hx,dN,aw,kK,hB,hsz,g0,g1,g2⟩:=hrel;have a0:wr.cell? ⟨w.heap.size,2,none⟩=some (.bool false):=Mcr;exact Mk
    ·cases fs
     ·have ny:=cK rfl;clear cK;go_wp2_with fail
      go_loopw [35] (fun i wr=>∃k:Nat,k<=ps.length/\i=.int .i64 k/\∃s:Rat,Hid (R=zhb false fa (zcs true false frm (ps.drop k) (ps.take k) s))/\Fits s/\0<=s/\s<=(k:Int)/\Qa w wr/\w.heap.size+3<=wr.heap.size/\
       wr.heap[w.heap.size]?=some (.cells #[.string word,.bool fp,.bool true,.bool fc,.bool fy,.bool fa,.bool true,.bool false] 107)/\
       wr.heap[w.heap.size+1]?=some (.cells #[.int .i64 dk,.int .i64 dd,.string pl,.string frm,.slice B ps.length c,.int .i64 cl,.int .i64 yr] 28)/\
       wr.heap[w.heap.size+2]?=some (.cells #[.int .i64 s.num,.int .i64 s.den] 57)) (fun i _=>ps.length-(intOf i).toNat)
      case atStart=>
       exact MK
      case round=>
       clear ny;obtain⟨k,hk,rfl,s,hx,dN,aw,kK,hB,hsz,g0,g1,g2⟩:=hrel;have a0:wr.cell? ⟨w.heap.size,2,none⟩=some (.bool true):=Mcr;exact Ml
     ·clear cK;go_wp2_with fail
      go_loopw [35] (fun i wr=>∃k:Nat,k<=ps.length/\i=.int .i64 k/\∃s:Rat,Hid (R=zhb true fa (zcs true true frm (ps.drop k) (ps.take k) s))/\Fits s/\0<=s/\s<=(k:Int)/\Qa w wr/\w.heap.size+3<=wr.heap.size/\
       wr.heap[w.heap.size]?=some (.cells #[.string word,.bool fp,.bool true,.bool fc,.bool fy,.bool fa,.bool true,.bool true] 107)/\
       wr.heap[w.heap.size+1]?=some (.cells #[.int .i64 dk,.int .i64 dd,.string pl,.string frm,.slice B ps.length c,.int .i64 cl,.int .i64 yr] 28)/\
       wr.heap[w.heap.size+2]?=some (.cells #[.int .i64 s.num,.int .i64 s.den] 57)) (fun i _=>ps.length-(intOf i).toNat)
      case atStart=>
       exact MK
      case round=>
       skip
       obtain⟨k,hk,rfl,s,hx,dN,aw,kK,hB,hsz,g0,g1,g2⟩:=hrel;have a0:wr.cell? ⟨w.heap.size,2,none⟩=some (.bool true):=Mcr;exact Mk
