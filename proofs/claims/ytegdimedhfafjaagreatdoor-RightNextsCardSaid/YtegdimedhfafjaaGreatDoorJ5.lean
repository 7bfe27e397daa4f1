import Derived.Test.YtegdimedhfafjaaGreatDoorMM
import Derived.Test.YtegdimedhfafjaaGreatDoorJ2
import Derived.Test.YtegdimedhfafjaaGreatDoorDK
set_option linter.all false
set_option maxRecDepth 100000
set_option maxHeartbeats 4000000
namespace Go.Proofs.YtegdimedhfafjaaGreatDoor
open Go.RowKit
attribute [local go_sem] World.cell?_alloc_mark zaf za5 zao za8 zav zaw zax zay zaz za0 za1
section
attribute [local go_sem] zaq zad
def befP(ls:List Law)(k:Nat):Option Int:=if k=0 then none else(ls[k-1]?).map (·.frm)
theorem zh9(ls:List Law){k:Nat}(h:k<ls.length):befP ls (k+1)=some ls[k].frm:=by
 rw[befP,if_neg Mcm];simp[h]
theorem zfL(ls:List Law)(A:Option Addr)(n c:Nat)(w:World)(hn:n=ls.length)(hS:Sl w 4 Law.cells A ls):Calls Tryz.prog 44 #[.slice A n c] w (Ret w (.int .i64 (zaA ls))):=by
 subst hn;go_enter Tryz.func44,Tryz.ntmps44
 by_cases F6:10<ls.length
 ·exact MaU
 have hx:decide ((10:Int)<(ls.length:Int))=false:=Mcr;go_wp2_with fail
 have hT:zaA ls=zeW (ls.drop 0) (befP ls 0):=by rw[zaA,if_neg Mcr];rfl
 go_loopw [2,10] (fun u i wr=>u=.int .i64 0/\∃k:Nat,k<=ls.length/\i=.int .i64 k/\zaA ls=zeW (ls.drop k) (befP ls k)/\∃z,wr=w.ext z) (fun _ i _=>ls.length-(intOf i).toNat)
 case atStart=>exact⟨rfl,0,Nat.zero_le _,rfl,hT,zaV (Below.refl _ _)⟩
 case round=>
  obtain⟨rfl,k,hk,rfl,hf,z,rfl⟩:=hrel;clear hT hx;by_cases aa:k<ls.length
  ·rw[List.drop_eq_getElem_cons aa,zeW]at hf;obtain⟨b,off,rfl,hb,hc⟩:=hS.at aa;have h0:w.cell? ⟨b,off+k*4,none⟩=some (.int .i64 ls[k].frm):=hc 0 _ rfl;have h1:w.cell? ⟨b,off+k*4+1,none⟩=some (.bool ls[k].stems):=hc 1 _ rfl;have h2:w.cell? ⟨b,off+k*4+2,none⟩=some (.int .i64 ls[k].num):=hc 2 _ rfl;have h3:w.cell? ⟨b,off+k*4+3,none⟩=some (.int .i64 ls[k].den):=hc 3 _ rfl;have HF:=zHi hf;have jB:(k:Int)<(ls.length:Int):=Mcm;have iG:0<k->w.cell? ⟨b,off+(k-1)*4,none⟩=some (.int .i64 (ls[k-1]' Mcm).frm):=fun aP=>by
    exact Mbu
   have HP:=zHi iG;have HB:befP ls (k+1)=some ls[k].frm:=zh9 ls aa;have HB:=zHi HB;clear hc hf hS iG
   go_upto_region 10 with(first
    |(go_at_call 46;refine(zcI _ _).mono ?_;intro e wq hq;rcases Ret0.bools hq with⟨rfl,⟨hb,rfl⟩|⟨hb,rfl⟩⟩<;>clear hq)
    |(go_at_call 80;refine(zdM _ _ _).mono ?_;intro e wq hq;rcases Ret.bools hq with⟨zq,rfl,⟨hb,rfl⟩|⟨hb,rfl⟩⟩<;>clear hq))
   all_goals first
    |(go_ret
      exact Ret.of (zbC MdZ) Bw)
    |skip
   rcases Nat.eq_zero_or_pos k with aP|aP
   ·have hd:decide ((k:Int)>0)=false:=Mcr;have hJ:befP ls k=none:=by rw[befP,if_pos aP]
    go_quiet (fail)
    go_wp2_with fail
    go_round
    case rel=>subst aP;exact⟨rfl,1,by omega,rfl,by rw[HF.o,HB.o];simp[zhp, *],zaV Bw⟩
    case measure=>simp[intOf];omega
   ·have hd:decide ((k:Int)>0)=true:=Mcr;have qm:IntKind.i64.wrap ((k:Int)-1)=(k:Int)-1:=IntWalk.i64_in _ Mcm;have ia:0<=(k:Int)-1:=Mcm;have fK:((k:Int)-1).toNat=k-1:=Mcm;have br:(k:Int)-1<(ls.length:Int):=Mcm;have hp:=HP.o aP;have aE:befP ls k=some (ls[k-1]' Mcm).frm:=by have:=zh9 ls (k:=k-1) Mcm;rwa [Nat.sub_add_cancel aP]at this
    go_quiet (fail)
    go_wp2_with fail
    all_goals first
     |(go_ret
       exact Ret.of (zbC MdZ) Bw)
     |(go_round
       case rel=>exact⟨rfl,k+1,by omega,by go_num,by rw[HF.o,HB.o];simp[zhp, *],zaV Bw⟩
       case measure=>simp[intOf];omega)
  ·exact Max
def Law.v(x:Law):Value:=.agg #[.int .i64 x.frm,.bool x.stems,.int .i64 x.num,.int .i64 x.den]
theorem zid{fn:Func}{p:Tmp}(h:fn.results= #[.cell p 72])(tmps:Array Value)(w:World)(B:Nat)(x:Law)(hp:tmps.getD p undef=.pointer (some ⟨B,0,none⟩))
 (h0:w.cell? ⟨B,0,none⟩=some (.int .i64 x.frm))(h1:w.cell? ⟨B,1,none⟩=some (.bool x.stems))(h2:w.cell? ⟨B,2,none⟩=some (.int .i64 x.num))(h3:w.cell? ⟨B,3,none⟩=some (.int .i64 x.den)):(results fn tmps).run Tryz.prog w=.ok x.v w:=by
 rw[zdD h,hp];unfold Law.v;go_simp
theorem zf0(ls:List Law)(day:Int){k:Nat}(h:k<ls.length):zbb (ls.take (k+1)) day=if decide (ls[k].frm<=day)then ls[k]else zbb (ls.take k) day:=by
 rw[List.take_succ_eq_append_getElem h];unfold zbb;rw[List.filter_append];by_cases hc:ls[k].frm<=day<;>simp[hc]
theorem zas(w:World)(o:Obj)(k:Nat)(h:k=w.heap.size):(w.alloc o).heap[k]?=some o:=by rw[h];exact heap_alloc_new w o
theorem zak{w:World}{o x:Obj}{k:Nat}(h:w.heap[k]?=some x):(w.alloc o).heap[k]?=some x:=(Below.heap_alloc w o k (zab h)).trans h
theorem znB{w:World}{g:Nat}{z0 z1 z2 z3 a b c d:Value}{t:TypeId}{fr:Nat×Nat}(h:w.heap[g]?=some (.cells #[z0,z1,z2,z3] t fr)):
 ((((w.setCell ⟨g,0,none⟩ a).setCell ⟨g,1,none⟩ b).setCell ⟨g,2,none⟩ c).setCell ⟨g,3,none⟩ d).heap[g]?=some (.cells #[a,b,c,d] t fr):=by
 have:=Joins.block_setCell (i:=3) (Joins.block_setCell (i:=2) (Joins.block_setCell (i:=1) (Joins.block_setCell (i:=0) h a) b) c) d;simpa using this
theorem zot(ls:List Law)(A:Option Addr)(c:Nat)(day:Int)(w:World)(hl:ls.length<=10)(hS:Sl w 4 Law.cells A ls):Calls Tryz.prog 93 #[.slice A ls.length c,.int .i64 day] w (Ret w (zbb ls day).v):=by
 go_enter Tryz.func93,Tryz.ntmps93
 go_wp2_with fail
 go_loopw [12] (fun i wr=>∃k:Nat,k<=ls.length/\i=.int .i64 k/\∃x:Law,x=zbb (ls.take k) day/\Below w.heap.size w wr/\w.heap.size+2<=wr.heap.size/\wr.heap[w.heap.size]?=some (.cells #[.int .i64 0,.bool false,.int .i64 0,.int .i64 0] 72)/\wr.heap[w.heap.size+1]?=some (.cells #[.int .i64 x.frm,.bool x.stems,.int .i64 x.num,.int .i64 x.den] 72)) (fun i _=>ls.length-(intOf i).toNat)
 case atStart=>
  refine⟨0,Nat.zero_le _,rfl,zmw,rfl,?_,?_,?_,?_⟩
  ·exact Bw
  ·simp
  ·exact zak (zas _ _ _ rfl)
  ·exact zas _ _ _ Mcp
 case round=>
  obtain⟨k,hk,rfl,x,hx,hB,hsz,g0,g1⟩:=hrel;have c0:wr.cell? ⟨w.heap.size+1,0,none⟩=some (.int .i64 x.frm):=Mcs;have c1:wr.cell? ⟨w.heap.size+1,1,none⟩=some (.bool x.stems):=Mcs;have c2:wr.cell? ⟨w.heap.size+1,2,none⟩=some (.int .i64 x.num):=Mcs;have c3:wr.cell? ⟨w.heap.size+1,3,none⟩=some (.int .i64 x.den):=Mcs;have d0:wr.cell? ⟨w.heap.size,0,none⟩=some (.int .i64 0):=Mcq;have d1:wr.cell? ⟨w.heap.size,1,none⟩=some (.bool false):=Mcq;have d2:wr.cell? ⟨w.heap.size,2,none⟩=some (.int .i64 0):=Mcq;have d3:wr.cell? ⟨w.heap.size,3,none⟩=some (.int .i64 0):=Mcq;have f0:wr.frozen? ⟨w.heap.size,0,none⟩=false:=Mcz;have f1:wr.frozen? ⟨w.heap.size+1,0,none⟩=false:=McA;have e1:wr.frozen? ⟨w.heap.size+1,1,none⟩=false:=McA;have e2:wr.frozen? ⟨w.heap.size+1,2,none⟩=false:=McA;have e3:wr.frozen? ⟨w.heap.size+1,3,none⟩=false:=McA;have m1:wr.frozen? ⟨w.heap.size,1,none⟩=false:=Mcz;have m2:wr.frozen? ⟨w.heap.size,2,none⟩=false:=Mcz;have m3:wr.frozen? ⟨w.heap.size,3,none⟩=false:=Mcz;have dq:w.heap.size+1<wr.heap.size:=Mcm;have ay:w.heap.size<wr.heap.size:=Mcm;have bo:w.heap.size+1≠wr.heap.size:=Mcm;by_cases aa:k<ls.length
  ·obtain⟨b,off,rfl,hb,hc⟩:=(hS.keep hB).at aa;have h0:wr.cell? ⟨b,off+k*4,none⟩=some (.int .i64 ls[k].frm):=hc 0 _ rfl;have h1:wr.cell? ⟨b,off+k*4+1,none⟩=some (.bool ls[k].stems):=hc 1 _ rfl;have h2:wr.cell? ⟨b,off+k*4+2,none⟩=some (.int .i64 ls[k].num):=hc 2 _ rfl;have h3:wr.cell? ⟨b,off+k*4+3,none⟩=some (.int .i64 ls[k].den):=hc 3 _ rfl;clear hc hS;go_wp2_with fail
   ·refine⟨⟨k+1,by omega,by go_num,ls[k],by rw[zf0 ls day aa,if_pos (by simp;assumption)],?_,?_,?_,?_⟩,by simp[intOf];omega⟩
    ·exact zac (zaL (zaL (zaL (zaL hB Mcp _) Mcp _) Mcp _) Mcp _) _
    ·simp;omega
    ·exact zak (((zaL (zaL (zaL (zaL (Below.refl (w.heap.size+1) wr) Mcp _) Mcp _) Mcp _) Mcp _).block w.heap.size Mcm).trans g0)
    ·exact zak (znB g1)
   ·refine⟨⟨k+1,by omega,by go_num,zbb (ls.take k) day,by rw[zf0 ls day aa,if_neg (by simp;assumption)],?_,?_,?_,?_⟩,by simp[intOf];omega⟩
    ·exact zac hB _
    ·simp;omega
    ·exact zak g0
    ·exact zak (by simpa[hx]using g1)
  ·go_wp2_with fail
   have pU:ls.take k=ls:=List.take_of_length_le Mcm;have g4:=znB (a:=.int .i64 (zbb ls day).frm) (b:=.bool (zbb ls day).stems) (c:=.int .i64 (zbb ls day).num) (d:=.int .i64 (zbb ls day).den) g0;rw[pU];refine bodyPost_ret (v:=(zbb ls day).v) ?_ rfl ?_
   ·refine zid rfl _ _ w.heap.size _ rfl ?_ ?_ ?_ ?_<;>simp[World.cell?,g4]
   ·exact Ret.of rfl (zaL (zaL (zaL (zaL hB Mcp _) Mcp _) Mcp _) Mcp _)
end
section
open Go.Shelf
theorem zjz{α:Type}(xs:List α)(p:α->Bool):(xs.attach.any fun x=>p x.1)=xs.any p:=by
 rw[Bool.eq_iff_iff];simp
def zeY{α:Type}(g:Nat)(lb:Array Value)(v:α->Value)(p:α->Bool)(xs:List α)(w:World):Prop:=
 ∀x∈xs,∀W,Below w.heap.size w W->Calls Tryz.prog g (#[v x]++lb) W fun e w'=>e=.returned (.bool (p x))/\Below w.heap.size w w'
theorem sl_get{α:Type}{w:World}{k:Nat}{f:α->List Value}{b off:Nat}{xs:List α}(hS:∀j (x:α),xs[j]?=some x->∀i u,(f x)[i]?=some u->w.cell? ⟨b,off+j*k+i,none⟩=some u)[Inhabited {x // x∈xs}]:
 ∀j,j<xs.attach.length->∀i v,(f (xs.attach[j]!).1)[i]?=some v->w.cell? ⟨b,off+j*k+i,none⟩=some v:=fun j hj i v hi=>by
 have hl:j<xs.length:=Meu;have e:(xs.attach[j]!).1=xs[j]:=by rw[getElem!_pos xs.attach j hj];simp
 rw[e]at hi;exact hS j _ (List.getElem?_eq_getElem hl) i v hi
theorem ifnilPart(A:Option Addr)(c:Nat)(fv:Value)(w:World):Calls Tryz.prog 81 #[.slice A 0 c,fv] w (Ret0 w (.int .i64 (-1))):=by
 go_enter Tryz.func81,Tryz.ntmps81
 exact Mca
theorem cfnilPart(A:Option Addr)(c:Nat)(fv:Value)(w:World):Calls Tryz.prog 48 #[.slice A 0 c,fv] w (Ret0 w (.bool false)):=by
 go_enter Tryz.func48,Tryz.ntmps48
 go_wp2_with (go_at_call 81;refine(ifnilPart _ _ _ _).mono ?_;rintro e wq ⟨rfl,rfl⟩)
 go_ret
 exact⟨rfl,rfl⟩
theorem zcJ(g:Nat)(lb:Array Value)(eg:∀args w,(callFunc g args).run Tryz.prog w=.ok (.enter g args) w)(p:RPart->Bool)(A:Option Addr)(n c:Nat)(xs:List RPart)(w:World)(hn:n=xs.length)(hl:xs.length<=100000)
 (hS:Sl w 3 RPart.cells A xs)(hp:zeY g lb (fun x=> .agg (RPart.cells x).toArray) p xs w):Calls Tryz.prog 48 #[.slice A n c,.func (.func g) #[] lb] w (Ret w (.bool (xs.any p))):=by
 subst hn;by_cases h0:xs.length=0
 ·have hx:xs=[]:=List.eq_nil_of_length_eq_zero h0;subst hx;refine(cfnilPart _ _ _ _).mono ?_;rintro e wq ⟨rfl,rfl⟩;exact Ret.of rfl (Below.refl _ _)
 ·obtain⟨b,off,rfl,hb,hc⟩:=hS Mcm;haveI:Inhabited {x // x∈xs}:=⟨⟨xs[0]' Mcm,List.getElem_mem _⟩⟩
  have bz:=AnyQ.slices_ContainsFunc cfPart 3 Tryz.isAgg62 Tryz.sizeOf62 (fun x: {x // x∈xs}=>RPart.cells x.1) (fun _=>rfl) (fun x=>p x.1) g lb eg b off xs.length c xs.attach w
   (fun W x hB=>hp x.1 x.2 W hB) Mcp Mcm hb (sl_get hc)
  rw[List.take_of_length_le Mcp,zjz]at bz;change Calls Tryz.prog 48 _ _ _ at bz;exact Mbc
theorem ifnilRec(A:Option Addr)(c:Nat)(fv:Value)(w:World):Calls Tryz.prog 119 #[.slice A 0 c,fv] w (Ret0 w (.int .i64 (-1))):=by
 go_enter Tryz.func119,Tryz.ntmps119
 exact Mca
theorem cfnilRec(A:Option Addr)(c:Nat)(fv:Value)(w:World):Calls Tryz.prog 75 #[.slice A 0 c,fv] w (Ret0 w (.bool false)):=by
 go_enter Tryz.func75,Tryz.ntmps75
 go_wp2_with (go_at_call 119;refine(ifnilRec _ _ _ _).mono ?_;rintro e wq ⟨rfl,rfl⟩)
 go_ret
 exact⟨rfl,rfl⟩
theorem cfRec_any(g:Nat)(lb:Array Value)(eg:∀args w,(callFunc g args).run Tryz.prog w=.ok (.enter g args) w)(p:Rec->Bool)(A:Option Addr)(n c:Nat)(xs:List Rec)(w:World)(hn:n=xs.length)(hl:xs.length<=100000)
 (hS:Sl w 8 Rec.cells A xs)(hp:zeY g lb (fun x=> .agg (Rec.cells x).toArray) p xs w):Calls Tryz.prog 75 #[.slice A n c,.func (.func g) #[] lb] w (Ret w (.bool (xs.any p))):=by
 subst hn;by_cases h0:xs.length=0
 ·have hx:xs=[]:=List.eq_nil_of_length_eq_zero h0;subst hx;refine(cfnilRec _ _ _ _).mono ?_;rintro e wq ⟨rfl,rfl⟩;exact Ret.of rfl (Below.refl _ _)
 ·obtain⟨b,off,rfl,hb,hc⟩:=hS Mcm;haveI:Inhabited {x // x∈xs}:=⟨⟨xs[0]' Mcm,List.getElem_mem _⟩⟩
  have bz:=AnyQ.slices_ContainsFunc cfRec 8 Tryz.isAgg58 Tryz.sizeOf58 (fun x: {x // x∈xs}=>Rec.cells x.1) (fun _=>rfl) (fun x=>p x.1) g lb eg b off xs.length c xs.attach w
   (fun W x hB=>hp x.1 x.2 W hB) Mcp Mcm hb (sl_get hc)
  rw[List.take_of_length_le Mcp,zjz]at bz;change Calls Tryz.prog 75 _ _ _ at bz;exact Mbc
end
attribute [local go_sem] zaq zad
structure Form where
 word:ByteArray
 place:Bool
 frm:Bool
 cls:Bool
 years:Bool
 all:Bool
 parts:Bool
 shares:Bool
def Form.cells(f:Form):List Value:=[.string f.word,.bool f.place,.bool f.frm,.bool f.cls,.bool f.years,.bool f.all,.bool f.parts,.bool f.shares]
def zfM:List Form:=[⟨⟨#[103,114,97,110,116]⟩,true,false,true,true,true,true,true⟩,⟨⟨#[116,114,97,110,115,102,101,114]⟩,true,true,false,false,false,true,true⟩,⟨⟨#[115,117,114,114,101,110,100,101,114]⟩,true,true,false,false,false,false,false⟩,⟨⟨#[114,101,110,101,119,97,108]⟩,true,false,false,true,false,false,false⟩,⟨⟨#[119,105,108,108]⟩,false,true,false,false,false,true,true⟩,⟨⟨#[114,101,110,111,117,110,99,101]⟩,false,true,false,false,false,true,false⟩,⟨⟨#[99,104,105,108,100]⟩,false,true,false,false,false,true,false⟩,⟨⟨#[109,97,114,114,105,97,103,101]⟩,false,true,false,false,false,true,false⟩,⟨⟨#[100,101,97,116,104]⟩,false,true,false,false,false,false,false⟩]
def zcn(frmB shares:Bool)(frm:ByteArray):List RPart->List RPart->Rat->Option Rat
 | [],_,s=>some s
 |p::l,seen,s=>
  if seen.any (fun q=>zae q.name p.name)||(zae p.name frm&&frmB)then none else
  if !shares then(if p.num != 0||p.den != 0 then none else zcn frmB shares frm l (seen++[p]) s)else
  if !za9 16 p.num p.den||p.num==0 then none else zcn frmB shares frm l (seen++[p]) (s+p.rat)
def zgU(shares all:Bool):Option Rat->Bool
 |none=>false
 |some s=>!shares||(decide (s.num<=s.den)&&(!all||s.num==(s.den:Int)))
def zhq(f:Form)(frm:ByteArray)(ps:List RPart):Bool:=
 if !f.parts then ps.isEmpty else if ps.isEmpty||(!f.shares&&ps.length != 1)then false else zgU f.shares f.all (zcn f.frm f.shares frm ps [] 0)
def Fits(r:Rat):Prop:= ∃n:Int,r=Rat.divInt n 720720
theorem fits_zero:Fits 0:=⟨0,by simp⟩
theorem fits_one:Fits 1:=⟨720720,by rw[Rat.divInt_eq_div];grind⟩
theorem Fits.add{p q:Rat}(hp:Fits p)(hq:Fits q):Fits (p+q):=by
 obtain⟨a,rfl⟩:=hp;obtain⟨b,rfl⟩:=hq;exact⟨a+b,by rw[Rat.divInt_eq_div,Rat.divInt_eq_div,Rat.divInt_eq_div,Rat.intCast_add];grind⟩
theorem Fits.sub{p q:Rat}(hp:Fits p)(hq:Fits q):Fits (p-q):=by
 obtain⟨a,rfl⟩:=hp;obtain⟨b,rfl⟩:=hq;exact⟨a-b,by rw[Rat.divInt_eq_div,Rat.divInt_eq_div,Rat.divInt_eq_div,Rat.intCast_sub];grind⟩
theorem zen{a b:Int}(h:za9 16 a b=true):Fits (Rat.divInt a b):=by
 unfold za9 at h;simp only[Bool.and_eq_true,decide_eq_true_eq]at h;obtain⟨⟨⟨h1,h2⟩,_⟩,_⟩:=h;have hd:b*(720720/b)=720720:=by
  have:b=1\/b=2\/b=3\/b=4\/b=5\/b=6\/b=7\/b=8\/b=9\/b=10\/b=11\/b=12\/b=13\/b=14\/b=15\/b=16:=by omega
  rcases this with rfl|rfl|rfl|rfl|rfl|rfl|rfl|rfl|rfl|rfl|rfl|rfl|rfl|rfl|rfl|rfl<;>decide
 generalize 720720/b=q at hd;have hk:q≠0:=fun e=>by rw[e]at hd;omega
 exact⟨a*q,by rw[<-hd,Rat.divInt_mul_right hk]⟩
theorem Fits.small{r:Rat}(h:Fits r)(h0: -1000<=r)(h1:r<=1000):zaJ r:=by
 obtain⟨n,rfl⟩:=h;have hb:(0:Int)<720720:=Mco;have hd:((Rat.divInt n 720720).den:Int)<=720720:=by
  rw[zei hb];exact Int.ediv_le_self _ Mco
 have cA:(n:Rat)<=720720000:=by rw[Rat.divInt_eq_div]at h1;grind
 have ui: -720720000<=(n:Rat):=by rw[Rat.divInt_eq_div]at h0;grind
 have Lg:n<=720720000:=by
  have:(n:Rat)<=((720720000:Int):Rat):=cA;exact Rat.intCast_le_intCast.1 this
 have Lf: -720720000<=n:=by
  have:((-720720000:Int):Rat)<=(n:Rat):=ui;exact Rat.intCast_le_intCast.1 this
 refine⟨?_,by omega⟩;rw[zfw hb,<-zej (Int.gcd_dvd_left ..)];exact Nat.le_trans (Int.natAbs_tdiv_le_natAbs _ _) Mcm
