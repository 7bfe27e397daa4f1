import Derived.Test.YtogklihlgindkaaGreatDoorMM
import Derived.Test.YtogklihlgindkaaGreatDoorJ2
import Derived.Test.YtogklihlgindkaaGreatDoorJL
set_option linter.all false
set_option maxRecDepth 100000
set_option maxHeartbeats 4000000
namespace Go.Proofs.YtogklihlgindkaaGreatDoor
open Go.RowKit
attribute [local go_sem] World.cell?_alloc_mark zaf za3 zam za6 zat zau zav zaw zax zay zaz
section
attribute [local go_sem] zao zac
def befP(ls:List Law)(k:Nat):Option Int:=if k=0 then none else(ls[k-1]?).map (·.frm)
def zhJ(ls:List Law){k:Nat}(h:k<ls.length):befP ls (k+1)=some ls[k].frm:=by
 rw[befP,if_neg McS];simp[h]
def zjx(ls:List Law)(A:Option Addr)(n c:Nat)(w:World)(hn:n=ls.length)(hS:Sl w 4 Law.cells A ls):Calls Tryz.prog 46 #[.slice A n c] w (Ret w (.int .i64 (zaC ls))):=by
 subst hn;go_enter Tryz.func46,Tryz.ntmps46
 by_cases FM:10<ls.length
 ·exact Mbf
 have hx:decide ((10:Int)<(ls.length:Int))=false:=McX;go_wp2_with fail
 have hT:zaC ls=zeV (ls.drop 0) (befP ls 0):=by rw[zaC,if_neg McX];rfl
 go_loopw [2,10] (λu i wr=>u=.int .i64 0/\∃k:Nat,k<=ls.length/\i=.int .i64 k/\zaC ls=zeV (ls.drop k) (befP ls k)/\∃z,wr=w.ext z) (λ_ i _=>ls.length-(intOf i).toNat)
 case atStart=>exact⟨rfl,0,Nat.zero_le _,rfl,hT,zaP Qb⟩
 case round=>
  obtain⟨rfl,k,hk,rfl,hf,z,rfl⟩:=hrel;clear hT hx;by_cases ae:k<ls.length
  ·rw[List.drop_eq_getElem_cons ae,zeV]at hf;obtain⟨b,off,rfl,hb,hc⟩:=hS.at ae;have h0:w.cell? ⟨b,off+k*4,none⟩=some (.int .i64 ls[k].frm):=hc 0 _ rfl;have h1:w.cell? ⟨b,off+k*4+1,none⟩=some (.bool ls[k].stems):=hc 1 _ rfl;have h2:w.cell? ⟨b,off+k*4+2,none⟩=some (.int .i64 ls[k].num):=hc 2 _ rfl;have h3:w.cell? ⟨b,off+k*4+3,none⟩=some (.int .i64 ls[k].den):=hc 3 _ rfl;have HF:=zHi hf;have jL:(k:Int)<(ls.length:Int):=McS;have iU:0<k->w.cell? ⟨b,off+(k-1)*4,none⟩=some (.int .i64 (ls[k-1]' McS).frm):=λaR=>by
    exact MbT
   have HP:=zHi iU;have HB:befP ls (k+1)=some ls[k].frm:=zhJ ls ae;have HB:=zHi HB;clear hc hf hS iU
   go_upto_region 10 with(first
    |(go_at_call 22;refine(zc7 _ _).mono ?_;intro e wq hq;rcases Ret0.bools hq with⟨rfl,⟨hb,rfl⟩|⟨hb,rfl⟩⟩<;>clear hq)
    |(go_at_call 74;refine(zdO _ _ _).mono ?_;intro e wq hq;rcases Ret.bools hq with⟨zq,rfl,⟨hb,rfl⟩|⟨hb,rfl⟩⟩<;>clear hq))
   all_goals first
    |(go_ret
      exact Ret.of (zb7 Men) Bw)
    |skip
   rcases Nat.eq_zero_or_pos k with aR|aR
   ·have hd:decide ((k:Int)>0)=false:=McX;have ip:befP ls k=none:=by rw[befP,if_pos aR]
    go_quiet (fail)
    go_wp2_with fail
    go_round
    case rel=>subst aR;exact⟨rfl,1,by omega,rfl,by rw[HF.o,HB.o];simp[zhx, *],zaP Bw⟩
    case measure=>simp[intOf];omega
   ·have hd:decide ((k:Int)>0)=true:=McX;have uO:IntKind.i64.wrap ((k:Int)-1)=(k:Int)-1:=IntWalk.i64_in _ McS;have ix:0<=(k:Int)-1:=McS;have dU:((k:Int)-1).toNat=k-1:=McS;have bu:(k:Int)-1<(ls.length:Int):=McS;have hp:=HP.o aR;have aM:befP ls k=some (ls[k-1]' McS).frm:=by have:=zhJ ls (k:=k-1) McS;rwa [Nat.sub_add_cancel aR]at this
    go_quiet (fail)
    go_wp2_with fail
    all_goals first
     |(go_ret
       exact Ret.of (zb7 Men) Bw)
     |(go_round
       case rel=>exact⟨rfl,k+1,by omega,by go_num,by rw[HF.o,HB.o];simp[zhx, *],zaP Bw⟩
       case measure=>simp[intOf];omega)
  ·exact MaF
def Law.v(x:Law):Value:=.agg #[.int .i64 x.frm,.bool x.stems,.int .i64 x.num,.int .i64 x.den]
def zio{fn:Func}{p:Tmp}(h:fn.results= #[.cell p 94])(tmps:Array Value)(w:World)(B:Nat)(x:Law)(hp:tmps.getD p undef=.pointer (some ⟨B,0,none⟩))
 (h0:w.cell? ⟨B,0,none⟩=some (.int .i64 x.frm))(h1:w.cell? ⟨B,1,none⟩=some (.bool x.stems))(h2:w.cell? ⟨B,2,none⟩=some (.int .i64 x.num))(h3:w.cell? ⟨B,3,none⟩=some (.int .i64 x.den)):(results fn tmps).run Tryz.prog w=.ok x.v w:=by
 rw[zdF h,hp];unfold Law.v;go_simp
def zf3(ls:List Law)(day:Int){k:Nat}(h:k<ls.length):zbc (ls.take (k+1)) day=if decide (ls[k].frm<=day)then ls[k]else zbc (ls.take k) day:=by
 rw[List.take_succ_eq_append_getElem h];unfold zbc;rw[List.filter_append];by_cases hc:ls[k].frm<=day<;>simp[hc]
def zas(w:World)(o:Obj)(k:Nat)(h:k=w.heap.size):(w.alloc o).heap[k]?=some o:=by rw[h];exact heap_alloc_new w o
def zal{w:World}{o x:Obj}{k:Nat}(h:w.heap[k]?=some x):(w.alloc o).heap[k]?=some x:=(Below.heap_alloc w o k (zab h)).trans h
def zob{w:World}{g:Nat}{z0 z1 z2 z3 a b c d:Value}{t:TypeId}{fr:Nat×Nat}(h:w.heap[g]?=some (.cells #[z0,z1,z2,z3] t fr)):
 ((((w.setCell ⟨g,0,none⟩ a).setCell ⟨g,1,none⟩ b).setCell ⟨g,2,none⟩ c).setCell ⟨g,3,none⟩ d).heap[g]?=some (.cells #[a,b,c,d] t fr):=by
 have:=Joins.block_setCell (i:=3) (Joins.block_setCell (i:=2) (Joins.block_setCell (i:=1) (Joins.block_setCell (i:=0) h a) b) c) d;simpa using this
def zoO(ls:List Law)(A:Option Addr)(c:Nat)(day:Int)(w:World)(hl:ls.length<=10)(hS:Sl w 4 Law.cells A ls):Calls Tryz.prog 117 #[.slice A ls.length c,.int .i64 day] w (Ret w (zbc ls day).v):=by
 go_enter Tryz.func117,Tryz.ntmps117
 go_wp2_with fail
 go_loopw [12] (λi wr=>∃k:Nat,k<=ls.length/\i=.int .i64 k/\∃x:Law,x=zbc (ls.take k) day/\Qa w wr/\w.heap.size+2<=wr.heap.size/\wr.heap[w.heap.size]?=some (.cells #[.int .i64 0,.bool false,.int .i64 0,.int .i64 0] 94)/\wr.heap[w.heap.size+1]?=some (.cells #[.int .i64 x.frm,.bool x.stems,.int .i64 x.num,.int .i64 x.den] 94)) (λi _=>ls.length-(intOf i).toNat)
 case atStart=>
  refine⟨0,Nat.zero_le _,rfl,zmH,rfl,?_,?_,?_,?_⟩
  ·exact Bw
  ·simp
  ·exact zal (zas _ _ _ rfl)
  ·exact zas _ _ _ McV
 case round=>
  obtain⟨k,hk,rfl,x,hx,hB,hsz,g0,g1⟩:=hrel;have c0:wr.cell? ⟨w.heap.size+1,0,none⟩=some (.int .i64 x.frm):=McY;have c1:wr.cell? ⟨w.heap.size+1,1,none⟩=some (.bool x.stems):=McY;have c2:wr.cell? ⟨w.heap.size+1,2,none⟩=some (.int .i64 x.num):=McY;have c3:wr.cell? ⟨w.heap.size+1,3,none⟩=some (.int .i64 x.den):=McY;have d0:wr.cell? ⟨w.heap.size,0,none⟩=some (.int .i64 0):=McW;have d1:wr.cell? ⟨w.heap.size,1,none⟩=some (.bool false):=McW;have d2:wr.cell? ⟨w.heap.size,2,none⟩=some (.int .i64 0):=McW;have d3:wr.cell? ⟨w.heap.size,3,none⟩=some (.int .i64 0):=McW;have f0:wr.frozen? ⟨w.heap.size,0,none⟩=false:=Mc5;have f1:wr.frozen? ⟨w.heap.size+1,0,none⟩=false:=Mc6;have e1:wr.frozen? ⟨w.heap.size+1,1,none⟩=false:=Mc6;have e2:wr.frozen? ⟨w.heap.size+1,2,none⟩=false:=Mc6;have e3:wr.frozen? ⟨w.heap.size+1,3,none⟩=false:=Mc6;have m1:wr.frozen? ⟨w.heap.size,1,none⟩=false:=Mc5;have m2:wr.frozen? ⟨w.heap.size,2,none⟩=false:=Mc5;have m3:wr.frozen? ⟨w.heap.size,3,none⟩=false:=Mc5;have eo:w.heap.size+1<wr.heap.size:=McS;have ay:w.heap.size<wr.heap.size:=McS;have bi:w.heap.size+1≠wr.heap.size:=McS;by_cases ae:k<ls.length
  ·obtain⟨b,off,rfl,hb,hc⟩:=(hS.keep hB).at ae;have h0:wr.cell? ⟨b,off+k*4,none⟩=some (.int .i64 ls[k].frm):=hc 0 _ rfl;have h1:wr.cell? ⟨b,off+k*4+1,none⟩=some (.bool ls[k].stems):=hc 1 _ rfl;have h2:wr.cell? ⟨b,off+k*4+2,none⟩=some (.int .i64 ls[k].num):=hc 2 _ rfl;have h3:wr.cell? ⟨b,off+k*4+3,none⟩=some (.int .i64 ls[k].den):=hc 3 _ rfl;clear hc hS;go_wp2_with fail
   ·refine⟨⟨k+1,by omega,by go_num,ls[k],by rw[zf3 ls day ae,if_pos (by simp;assumption)],?_,?_,?_,?_⟩,by simp[intOf];omega⟩
    ·exact zad (zaS (zaS (zaS (zaS hB McV _) McV _) McV _) McV _) _
    ·simp;omega
    ·exact zal (((zaS (zaS (zaS (zaS (Below.refl (w.heap.size+1) wr) McV _) McV _) McV _) McV _).block w.heap.size McS).trans g0)
    ·exact zal (zob g1)
   ·refine⟨⟨k+1,by omega,by go_num,zbc (ls.take k) day,by rw[zf3 ls day ae,if_neg (by simp;assumption)],?_,?_,?_,?_⟩,by simp[intOf];omega⟩
    ·exact zad hB _
    ·simp;omega
    ·exact zal g0
    ·exact zal (by simpa[hx]using g1)
  ·go_wp2_with fail
   have ol:ls.take k=ls:=List.take_of_length_le McS;have g4:=zob (a:=.int .i64 (zbc ls day).frm) (b:=.bool (zbc ls day).stems) (c:=.int .i64 (zbc ls day).num) (d:=.int .i64 (zbc ls day).den) g0;rw[ol];refine bodyPost_ret (v:=(zbc ls day).v) ?_ rfl ?_
   ·refine zio rfl _ _ w.heap.size _ rfl ?_ ?_ ?_ ?_<;>simp[World.cell?,g4]
   ·exact Ret.of rfl (zaS (zaS (zaS (zaS hB McV _) McV _) McV _) McV _)
end
section
open Go.Shelf
def zjG{α:Type}(xs:List α)(p:α->Bool):(xs.attach.any λx=>p x.1)=xs.any p:=by
 rw[Bool.eq_iff_iff];simp
def zeY{α:Type}(g:Nat)(lb:Array Value)(v:α->Value)(p:α->Bool)(xs:List α)(w:World):Prop:=
 ∀x∈xs,∀W,Qa w W->Calls Tryz.prog g (#[v x]++lb) W λe w'=>e=.returned (.bool (p x))/\Qa w w'
def sl_get{α:Type}{w:World}{k:Nat}{f:α->List Value}{b off:Nat}{xs:List α}(hS:∀j (x:α),xs[j]?=some x->∀i u,(f x)[i]?=some u->w.cell? ⟨b,off+j*k+i,none⟩=some u)[Inhabited {x // x∈xs}]:
 ∀j,j<xs.attach.length->∀i v,(f (xs.attach[j]!).1)[i]?=some v->w.cell? ⟨b,off+j*k+i,none⟩=some v:=λj hj i v hi=>by
 have hl:j<xs.length:=Meb;have e:(xs.attach[j]!).1=xs[j]:=by rw[getElem!_pos xs.attach j hj];simp
 rw[e]at hi;exact hS j _ (List.getElem?_eq_getElem hl) i v hi
def ifnilPart(A:Option Addr)(c:Nat)(fv:Value)(w:World):Calls Tryz.prog 97 #[.slice A 0 c,fv] w (Ret0 w (.int .i64 (-1))):=by
 go_enter Tryz.func97,Tryz.ntmps97
 exact McD
def cfnilPart(A:Option Addr)(c:Nat)(fv:Value)(w:World):Calls Tryz.prog 60 #[.slice A 0 c,fv] w (Ret0 w (.bool false)):=by
 go_enter Tryz.func60,Tryz.ntmps60
 go_wp2_with (go_at_call 97;refine(ifnilPart _ _ _ _).mono ?_;rintro e wq ⟨rfl,rfl⟩)
 go_ret
 exact⟨rfl,rfl⟩
def zcS(g:Nat)(lb:Array Value)(eg:∀args w,(callFunc g args).run Tryz.prog w=.ok (.enter g args) w)(p:RPart->Bool)(A:Option Addr)(n c:Nat)(xs:List RPart)(w:World)(hn:n=xs.length)(hl:xs.length<=100000)
 (hS:Sl w 3 RPart.cells A xs)(hp:zeY g lb (λx=> .agg (RPart.cells x).toArray) p xs w):Calls Tryz.prog 60 #[.slice A n c,.func (.func g) #[] lb] w (Ret w (.bool (xs.any p))):=by
 subst hn;by_cases h0:xs.length=0
 ·have hx:xs=[]:=List.eq_nil_of_length_eq_zero h0;subst hx;refine(cfnilPart _ _ _ _).mono ?_;rintro e wq ⟨rfl,rfl⟩;exact Ret.of rfl Qb
 ·obtain⟨b,off,rfl,hb,hc⟩:=hS McS;haveI:Inhabited {x // x∈xs}:=⟨⟨xs[0]' McS,List.getElem_mem _⟩⟩
  have aT:=AnyQ.slices_ContainsFunc cfPart 3 Tryz.isAgg55 Tryz.sizeOf55 (λx: {x // x∈xs}=>RPart.cells x.1) (λ_=>rfl) (λx=>p x.1) g lb eg b off xs.length c xs.attach w
   (λW x hB=>hp x.1 x.2 W hB) McV McS hb (sl_get hc)
  rw[List.take_of_length_le McV,zjG]at aT;change Calls Tryz.prog 60 _ _ _ at aT;exact MbA
def ifnilRec(A:Option Addr)(c:Nat)(fv:Value)(w:World):Calls Tryz.prog 103 #[.slice A 0 c,fv] w (Ret0 w (.int .i64 (-1))):=by
 go_enter Tryz.func103,Tryz.ntmps103
 exact McD
def cfnilRec(A:Option Addr)(c:Nat)(fv:Value)(w:World):Calls Tryz.prog 68 #[.slice A 0 c,fv] w (Ret0 w (.bool false)):=by
 go_enter Tryz.func68,Tryz.ntmps68
 go_wp2_with (go_at_call 103;refine(ifnilRec _ _ _ _).mono ?_;rintro e wq ⟨rfl,rfl⟩)
 go_ret
 exact⟨rfl,rfl⟩
def cfRec_any(g:Nat)(lb:Array Value)(eg:∀args w,(callFunc g args).run Tryz.prog w=.ok (.enter g args) w)(p:Rec->Bool)(A:Option Addr)(n c:Nat)(xs:List Rec)(w:World)(hn:n=xs.length)(hl:xs.length<=100000)
 (hS:Sl w 8 Rec.cells A xs)(hp:zeY g lb (λx=> .agg (Rec.cells x).toArray) p xs w):Calls Tryz.prog 68 #[.slice A n c,.func (.func g) #[] lb] w (Ret w (.bool (xs.any p))):=by
 subst hn;by_cases h0:xs.length=0
 ·have hx:xs=[]:=List.eq_nil_of_length_eq_zero h0;subst hx;refine(cfnilRec _ _ _ _).mono ?_;rintro e wq ⟨rfl,rfl⟩;exact Ret.of rfl Qb
 ·obtain⟨b,off,rfl,hb,hc⟩:=hS McS;haveI:Inhabited {x // x∈xs}:=⟨⟨xs[0]' McS,List.getElem_mem _⟩⟩
  have aT:=AnyQ.slices_ContainsFunc cfRec 8 Tryz.isAgg52 Tryz.sizeOf52 (λx: {x // x∈xs}=>Rec.cells x.1) (λ_=>rfl) (λx=>p x.1) g lb eg b off xs.length c xs.attach w
   (λW x hB=>hp x.1 x.2 W hB) McV McS hb (sl_get hc)
  rw[List.take_of_length_le McV,zjG]at aT;change Calls Tryz.prog 68 _ _ _ at aT;exact MbA
end
attribute [local go_sem] zao zac
structure Form where
 word:ByteArray
 place:Bool
 frm:Bool
 cls:Bool
 years:Bool
 all:Bool
 parts:Bool
 shares:Bool
def Form.cells(f:Form):List Value:=[.string f.word,.bool f.place,.bool f.frm,.bool f.cls,.bool f.years,.bool f.all,.bool f.parts,.bool f.shares]
def zfK:List Form:=[⟨⟨#[103,114,97,110,116]⟩,true,false,true,true,true,true,true⟩,⟨⟨#[116,114,97,110,115,102,101,114]⟩,true,true,false,false,false,true,true⟩,⟨⟨#[115,117,114,114,101,110,100,101,114]⟩,true,true,false,false,false,false,false⟩,⟨⟨#[114,101,110,101,119,97,108]⟩,true,false,false,true,false,false,false⟩,⟨⟨#[119,105,108,108]⟩,false,true,false,false,false,true,true⟩,⟨⟨#[114,101,110,111,117,110,99,101]⟩,false,true,false,false,false,true,false⟩,⟨⟨#[99,104,105,108,100]⟩,false,true,false,false,false,true,false⟩,⟨⟨#[109,97,114,114,105,97,103,101]⟩,false,true,false,false,false,true,false⟩,⟨⟨#[100,101,97,116,104]⟩,false,true,false,false,false,false,false⟩]
def zcp(frmB shares:Bool)(frm:ByteArray):List RPart->List RPart->Rat->Option Rat
 | [],_,s=>some s
 |p::l,seen,s=>
  if seen.any (λq=>zae q.name p.name)||(zae p.name frm&&frmB)then none else
  if !shares then(if p.num != 0||p.den != 0 then none else zcp frmB shares frm l (seen++[p]) s)else
  if !za8 16 p.num p.den||p.num==0 then none else zcp frmB shares frm l (seen++[p]) (s+p.rat)
def zgW(shares all:Bool):Option Rat->Bool
 |none=>false
 |some s=>!shares||(decide (s.num<=s.den)&&(!all||s.num==(s.den:Int)))
def zhy(f:Form)(frm:ByteArray)(ps:List RPart):Bool:=
 if !f.parts then ps.isEmpty else if ps.isEmpty||(!f.shares&&ps.length != 1)then false else zgW f.shares f.all (zcp f.frm f.shares frm ps [] 0)
def Fits(r:Rat):Prop:= ∃n:Int,r=Rat.divInt n 720720
def fits_zero:Fits 0:=⟨0,by simp⟩
def fits_one:Fits 1:=⟨720720,by rw[Rat.divInt_eq_div];grind⟩
variable{p q:Rat}
def Fits.add(hp:Fits p)(hq:Fits q):Fits (p+q):=by
 obtain⟨a,rfl⟩:=hp;obtain⟨b,rfl⟩:=hq;exact⟨a+b,by rw[Rat.divInt_eq_div,Rat.divInt_eq_div,Rat.divInt_eq_div,Rat.intCast_add];grind⟩
def Fits.sub(hp:Fits p)(hq:Fits q):Fits (p-q):=by
 obtain⟨a,rfl⟩:=hp;obtain⟨b,rfl⟩:=hq;exact⟨a-b,by rw[Rat.divInt_eq_div,Rat.divInt_eq_div,Rat.divInt_eq_div,Rat.intCast_sub];grind⟩
def zeq{a b:Int}(h:za8 16 a b=true):Fits (Rat.divInt a b):=by
 unfold za8 at h;simp only[Bool.and_eq_true,decide_eq_true_eq]at h;obtain⟨⟨⟨h1,h2⟩,_⟩,_⟩:=h;have hd:b*(720720/b)=720720:=by
  have:b=1\/b=2\/b=3\/b=4\/b=5\/b=6\/b=7\/b=8\/b=9\/b=10\/b=11\/b=12\/b=13\/b=14\/b=15\/b=16:=by omega
  rcases this with rfl|rfl|rfl|rfl|rfl|rfl|rfl|rfl|rfl|rfl|rfl|rfl|rfl|rfl|rfl|rfl<;>decide
 generalize 720720/b=q at hd;have hk:q≠0:=λe=>by rw[e]at hd;omega
 exact⟨a*q,by rw[<-hd,Rat.divInt_mul_right hk]⟩
def Fits.small{r:Rat}(h:Fits r)(h0: -1000<=r)(h1:r<=1000):zaJ r:=by
 obtain⟨n,rfl⟩:=h;have hb:(0:Int)<720720:=McU;have hd:((Rat.divInt n 720720).den:Int)<=720720:=by
  rw[zem hb];exact Int.ediv_le_self _ McU
 have cu:(n:Rat)<=720720000:=by rw[Rat.divInt_eq_div]at h1;grind
 have oo: -720720000<=(n:Rat):=by rw[Rat.divInt_eq_div]at h0;grind
 have LJ:n<=720720000:=by
  have:(n:Rat)<=((720720000:Int):Rat):=cu;exact Rat.intCast_le_intCast.1 this
 have LI: -720720000<=n:=by
  have:((-720720000:Int):Rat)<=(n:Rat):=oo;exact Rat.intCast_le_intCast.1 this
 refine⟨?_,by omega⟩;rw[zfz hb,<-zen (Int.gcd_dvd_left ..)];exact Nat.le_trans (Int.natAbs_tdiv_le_natAbs _ _) McS
