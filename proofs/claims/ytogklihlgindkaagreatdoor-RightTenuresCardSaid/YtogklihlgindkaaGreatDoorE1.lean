import Derived.Test.YtogklihlgindkaaGreatDoorJR
import Derived.Test.YtogklihlgindkaaGreatDoorOA
set_option linter.all false
set_option maxRecDepth 100000
set_option maxHeartbeats 4000000
namespace Go.Proofs.YtogklihlgindkaaGreatDoor
open Go.RowKit Go.Shelf
attribute [local go_sem] World.cell?_alloc_mark zaf za3 zam za6 zat zau zav zaw zax zay zaz
section
open Go.Sort
abbrev PQ:=ByteArray×Rat
instance:Inhabited PQ:=⟨(⟨#[]⟩,0)⟩
def zfY(x y:PQ):Int:=cmpN x.1 y.1
def zg9(x y:PQ):ltOf zfY x y=zbn x.1 y.1:=zof _ _
def part_swo:Sort.SWO (ltOf zfY) where
 irrefl x:=by rw[zg9];exact zeZ _
 trans x y z h1 h2:=by rw[zg9]at*;exact zb5 h1 h2
 ntrans x y z h1 h2:=by
  rw[zg9]at*;cases h:zbn x.1 z.1
  ·rfl
  ·exfalso
   rcases zdx y.1 z.1 with h3|h3|h3
   ·rw[h2]at h3;cases h3
   ·rw[h3,h]at h1;cases h1
   ·rw[zb5 h h3]at h1;cases h1
def perm_upP{d d':Array PQ}(hp:Sort.PermIn 0 d.size d d')(hs:Sort.SortedIn (ltOf zfY) 0 d.size d'):d'.toList.Perm d.toList/\UpP d'.toList:=by
 obtain⟨hsz,_,qw⟩:=hp;have e1:d'.extract 0 d.size=d':=by rw[<-hsz];exact Array.extract_size
 rw[e1,Array.extract_size]at qw;refine⟨qw,List.pairwise_iff_getElem.2 λi j hi hj ed=>?_⟩;have Le:i<d'.size:=by simpa using hi
 have sS:j<d'.size:=Meb;have:=hs i j (Nat.zero_le _) ed McS;rw[zg9,getElem!_pos d' j sS,getElem!_pos d' i Le]at this;simpa using this
def zlY(d:Array PQ){k j:Nat}{x:PQ}{u:Value}(hk:d.toList[k]?=some x)(hj:(zaa x)[j]?=some u):k*3+j<(Sort.flatK zaa 3 d).size/\(Sort.flatK zaa 3 d)[k*3+j]! =u:=by
 have Ed:j<3:=by have:=(List.getElem?_eq_some_iff.1 hj).1;rw[zak]at this;exact this
 have ck:k<d.size:=by have:=(List.getElem?_eq_some_iff.1 hk).1;simpa using this
 have ae:k*3+j<d.size*3:=McS;refine⟨by rw[Sort.size_flatK];exact ae,?_⟩;rw[Sort.get_flatK _ _ _ _ ae,show(k*3+j)/3=k by omega,show(k*3+j)%3=j by omega];have:d[k]! =x:=by
  rw[getElem!_pos d k ck];have:=(List.getElem?_eq_some_iff.1 hk).2;simpa using this
 rw[this,List.getElem!_eq_getElem?_getD,hj];rfl
def zpq{w:World}{base g o cap:Nat}{cur:Array Value}{xs:Parts}(hg:w.heap[g]?=some (.cells cur 55 (0,0)))(hx:∀j u,(xs.flatMap zaa)[j]?=some u->cur[o+j]?=some u):Sort.HoldsK zaa 3 w g o xs.toArray:=λj hj=>by
 rw[Sort.size_flatK]at hj;have sS:j<xs.length*3:=Meb;have ae:j/3<xs.length:=McS;have gD:xs[j/3]?=some xs[j/3]:=List.getElem?_eq_getElem ae;have hu:(zaa xs[j/3])[j%3]?=some ((zaa xs[j/3])[j%3]' MeD):=List.getElem?_eq_getElem _;obtain⟨_,h2⟩:=zlY xs.toArray (k:=j/3) (x:=xs[j/3]) (show xs.toArray.toList[j/3]?=_ from gD) hu;have hc:=hx (j/3*3+j%3) _ (zeU zaa 3 zak xs _ _ gD _ _ hu);have e:j/3*3+j%3=j:=McS;rw[e]at h2 hc;refine⟨?_,?_⟩
 ·rw[h2];simp only[World.cell?,hg];exact hc
 ·simp[World.frozen?,hg]
def sort_heap{w:World}{g o n cap:Nat}{cur:Array Value}{d:Array PQ}{os:Array Obj}(hg:w.heap[g]?=some (.cells cur 55 (0,0)))(aA:o+cap*3<=cur.size):∃cur',(sortWorldK zaa 3 w g o n d os).heap[g]?=some (.cells cur' 55 (0,0))/\o+cap*3<=cur'.size:=by
 have hl:=zab hg;refine⟨putCells id o (flatK zaa 3 d) cur,?_,by unfold putCells;rw[Array.size_mapIdx];exact aA⟩;exact MaP
def znr{w W:World}{g o n:Nat}{dk:Array PQ}{os:Array Obj}(hg:w.heap.size<=g)(hB:Qa w W):Qa w (sortWorldK zaa 3 W g o n dk os):=by
 refine hB.trans ⟨rfl,rfl,rfl,?_,λk hk=>?_⟩
 ·exact Mbs
 ·have hs:=hB.size;show((Sort.mapBlock _ _ _).heap++os)[k]?=_;rw[Array.getElem?_append_left Mem];simp only[Sort.mapBlock,Sort.ahead];rw[Array.getElem?_modify,if_neg McS]
def zpr(x y:PQ)(W:World):Calls Tryz.prog 151 #[.agg (zaa x).toArray,.agg (zaa y).toArray] W λe w'=>e=.returned (.int .i64 (zfY x y))/\∃q os',w'=Go.Sort.grow (W.drewN q) os':=by
 obtain⟨a0,a1⟩:=x;obtain⟨b0,b1⟩:=y;have hc:=λW'=>zl0 a0 b0 W'
 have hl:zfY (a0,a1) (b0,b1)=cmpN a0 b0:=rfl;rw[hl];generalize cmpN a0 b0=r at hc⊢;simp only[zaa];go_enter Tryz.func151,Tryz.ntmps151
 go_wp2_with (go_at_call 152;refine(hc _).mono ?_;rintro e wq ⟨rfl,rfl⟩)
 go_ret
 exact⟨rfl,0,_,by rw[alloc_eq_grow,alloc_eq_grow,grow_grow];rfl⟩
def sortP0(g off cap:Nat)(d:Array PQ)(w:World)(hH:Sort.HoldsK zaa 3 w g off d)(hg:g<w.heap.size)(hsz:d.size<=1000000000):
 Calls Tryz.prog 150 #[.slice (some ⟨g,off,none⟩) d.size cap,.func (.func 151) #[] #[]] w λe w'=>
  e=.returned (.tuple #[])/\∃d' n os,Sort.PermIn 0 d.size d d'/\Sort.SortedIn (ltOf zfY) 0 d.size d'/\w'=sortWorldK zaa 3 w g off n d' os:=by
 have eg:∀args w,(callFunc 151 args).run Tryz.prog w=.ok (.enter 151 args) w:=enters_of Tryz.func151 McT rfl;have aT:=AnyQ.slices_SortFunc zou 3 Tryz.isAgg55 Tryz.sizeOf55 zaa zak zcc zfY part_swo 151 #[] g off cap d w eg (λ_ _ _ _ x y=>by simpa using zpr x y _) hH hg McS;change Calls Tryz.prog 150 _ _ _ at aT;exact aT
def zps(fv:Value)(w:World):Calls Tryz.prog 150 #[.slice none 0 0,fv] w λe w'=>e=.returned (.tuple #[])/\w'=w:=by
 have aT:=AnyF.slices_SortFunc_none zou none 0 fv w;change Calls Tryz.prog 150 _ _ _ at aT;exact aT
def sortP_any(v:Value)(ls:Parts)(base:Nat)(w:World)(aa:OwnS w base 55 3 zaa v ls)(hl:ls.length<=1000000000):
 Calls Tryz.prog 150 #[v,.func (.func 151) #[] #[]] w λe w'=>e=.returned (.tuple #[])/\∃L,L.Perm ls/\UpP L/\OwnS w' base 55 3 zaa v L/\(∀w0:World,Qa w0 w->w0.heap.size<=base->Qa w0 w')/\w.grownBy w' (za4 v):=by
 rcases aa with⟨rfl,rfl⟩|⟨g,o,cap,cur,rfl,hb,hg,hc,hm,hs,hx⟩
 ·refine(zps _ _).mono ?_;rintro e wq ⟨rfl,rfl⟩;exact⟨rfl,[],List.Perm.refl _,List.Pairwise.nil,OwnS.nil,λw0 h _=>h,zc6 _ _⟩
 ·have bQ:=zab hg;have hH:=zpq (base:=base) (cap:=cap) hg hx;have h:=sortP0 g o cap ls.toArray w hH bQ (by simpa using hl);have e:ls.toArray.size=ls.length:=McV;rw[e]at h;refine h.mono ?_;rintro e wq ⟨rfl,d',n,os,hp,qB,rfl⟩;obtain⟨h1,h2⟩:=perm_upP (by rw[e];exact hp) (by rw[e];exact qB);have pY:d'.toList.Perm ls:=h1;have ag:d'.toList.length=ls.length:=pY.length_eq;obtain⟨cur',cr,dQ⟩:=sort_heap (n:=n) (d:=d') (os:=os) hg hs;have wB:=holdsK_sortWorldK zaa 3 w g o n ls.toArray d' os bQ hH (by simpa using ag);refine⟨rfl,d'.toList,pY,h2,.inr ⟨g,o,cap,cur',by rw[ag],hb,cr,by omega,hm,dQ,?_⟩,λw0 h ba=>znr McS h,?_⟩
  ·intro j u hu;have cO:j<d'.toList.length*3:=by
    have:=(List.getElem?_eq_some_iff.1 hu).1;rw[ze2 zaa 3 zak]at this;exact this
   have hk:d'.toList[j/3]?=some (d'.toList[j/3]' McS):=List.getElem?_eq_getElem _;have Ed:j%3<3:=Nat.mod_lt _ McU;have hv:(zaa (d'.toList[j/3]' McS))[j%3]?=some ((zaa (d'.toList[j/3]' McS))[j%3]'(by rw[zak];exact Ed)):=List.getElem?_eq_getElem _;obtain⟨q1,q2⟩:=zlY d' hk hv;have q3:=zeU zaa 3 zak d'.toList _ _ hk _ _ hv;have e3:j/3*3+j%3=j:=McS;rw[e3]at q1 q2 q3;have q4:=(wB j q1).1;rw[q2]at q4;rw[q3]at hu;simp only[World.cell?,cr]at q4;rw[<-hu];exact q4
  ·refine⟨rfl,rfl,rfl,?_,λk hk ai=>?_⟩
   ·exact Mbs
   ·have Ht:¬g=k:=λe=>ai (by simp[za4,e])
    exact MaQ
end
attribute [local go_sem] zao zac
variable{base:Nat}{W:World}{r:Nat}
def look_will{B:List Nat}{d c p wl:Nat}{mv:Value}{s:St}(h:PplAt base W B d c p wl r mv s)(n:ByteArray):
 ∃A cc,(∀W',Qa W W'->(Instr.lookup 69 (.map (some wl)) (.string n) false).run Tryz.prog W'=.ok (.slice A (zbv s n).length cc) W')/\Ro W 55 zaa A (zbv s n):=by
 obtain⟨m,k1,k2⟩:=h.wills;have hl:=λW' (hB:Qa W W')=>zb4 mapSP (k1.below hB).at n
 rcases k2 n with⟨h1,h2⟩|⟨A,cc,h1,h2⟩
 ·rw[h1]at hl;refine⟨none,0,λW' hB=>?_,by rw[h2];exact Ro.nil⟩;rw[h2];exact hl W' hB
 ·rw[h1]at hl;exact⟨A,cc,hl,h2⟩
def noB_nil{s:ByteArray}(h:noB s=true):s=⟨#[]⟩:=by
 unfold noB at h;have h1:s.toList=(⟨#[]⟩:ByteArray).toList:=by rw[List.isEmpty_iff.1 h,ByteArray.toList_eq]
 have h2:zae s ⟨#[]⟩=true:=by unfold zae;rw[h1];simp
 exact za2.1 h2
variable{w W':World}{C:Nat}
def two_gr{m:Nat}(h:w.grownBy W (some C))(hm:w.heap.size<=m)(t:Two2 W W' C m):w.grownBy W' (some C):=
 have b:=t.below 0 (Nat.zero_le _) (Nat.zero_le _) (Nat.zero_le _);⟨b.os.trans h.os,b.tape.trans h.tape,b.output.trans h.output,Nat.le_trans h.size t.size,λk hk ai=>(t.others k (Nat.lt_of_lt_of_le hk h.size) (λe=>ai (by rw[e])) McS).trans (h.block k hk ai)⟩
variable{n:Nat}{row:Option Nat}
def zkL(h:w.grownBy W row)(hb:Below n W W')(hn:w.heap.size<=n):w.grownBy W' row:=
 ⟨hb.os.trans h.os,hb.tape.trans h.tape,hb.output.trans h.output,Nat.le_trans h.size hb.size,λk hk ai=>(hb.block k McS).trans (h.block k hk ai)⟩
structure EstN (w:World) (h C m L R:Nat):Prop where
 gc:C<w.heap.size
 gh:w.heap.size<=h
 gm:w.heap.size<=m
 gl:w.heap.size<=L
 gr:w.heap.size<=R
 hm:h≠m
 hl:h≠L
 hr:h≠R
 ml:m≠L
 mr:m≠R
 lr:L≠R
variable{rest:Rat}{law:Law}
def own_any(hs:zaJ rest)(fx:za8 16 law.num law.den=true):
 IntKind.i64.wrap (rest.num*law.num)=rest.num*law.num/\IntKind.i64.wrap ((rest.den:Int)*law.den)=(rest.den:Int)*law.den/\
 ∀W:World,Calls Tryz.prog 139 #[.int .i64 (rest.num*law.num),.int .i64 ((rest.den:Int)*law.den)] W (Ret W (zaA (rest*Rat.divInt law.num law.den))):=by
 obtain⟨h1,h2,_,_⟩:=zbl fx;have hd:=fx;unfold za8 at hd;simp only[Bool.and_eq_true,decide_eq_true_eq]at hd;have zf:(rest.den:Int)<=1000000000:=by have:=hs.2;omega
 have ft:0<(rest.den:Int):=by have:=rest.den_pos;omega
 obtain⟨m1,n1⟩:=zaQ hs.1 (show law.num.natAbs<=1000000000 by omega);obtain⟨m2,n2⟩:=zaQ (show(rest.den:Int).natAbs<=1000000000 by omega) (show law.den.natAbs<=1000000000 by omega);have m4:0<(rest.den:Int)*law.den:=Int.mul_pos ft McS;refine⟨IntWalk.i64_in _ McS,IntWalk.i64_in _ McS,λW=>?_⟩;have e:rest*Rat.divInt law.num law.den=Rat.divInt (rest.num*law.num) ((rest.den:Int)*law.den):=by
  rw[zgS,h1,h2]
 rw[e];exact zdN _ _ W McS m4 McS
def own_ok(hN:IsN 720720 rest)(h0:0<=rest)(h1:rest<=1)(fx:za8 16 law.num law.den=true):
 0<=rest*Rat.divInt law.num law.den/\rest*Rat.divInt law.num law.den<=rest/\zaJ (rest*Rat.divInt law.num law.den)/\zaJ (rest-rest*Rat.divInt law.num law.den):=by
 obtain⟨⟨ld,ld0,ld1,l1⟩,l2,l3⟩:=isN_law fx;generalize Rat.divInt law.num law.den=la at*;have ji:0<=rest*la:=Rat.mul_nonneg h0 l2;have lR:rest*la<=rest:=by
  have:=Rat.mul_nonneg h0 (show 0<=1-la by grind);grind
 have hn:=zku hN l1;refine⟨ji,lR,zca ji Mdl (zex McS McS hn),zca Mdl Mdl (zex (n:=720720*ld) McS McS (zgZ (zlt hN) hn))⟩
variable{l:List Tree}{q:Rat}
def zgA{t:Rat}{out:Parts}{fl:Bool}(h0:0<=q)(h:Bd out t):Bd (zcy l q (out,fl)).1 (t+q):=by
 rw[zcy];have h1:=zhV (zcw (zeB h0 l.length)) (l:=l) (fl:=fl||bigQ (q*(1/(l.length:Rat)))) h;exact h1.up6 (by have:=zkC h0 l.length;grind)
variable{v:Value}
def zia{P o k:Nat}(h:k≠P):(W.setCell ⟨P,o,none⟩ v).heap[k]?=W.heap[k]?:=by
 have hb:¬P=k:=λe=>h e.symm
 simp[World.setCell,Array.getElem?_modify,hb]
def row_gr(h:w.grownBy W (some C))(k:W.grownBy W' row)(hr:∀j,row=some j->w.heap.size<=j):w.grownBy W' (some C):=
 ⟨k.os.trans h.os,k.tape.trans h.tape,k.output.trans h.output,Nat.le_trans h.size k.size,λi hi ai=>(k.block i (Nat.lt_of_lt_of_le hi h.size) (λe=>by have:=hr i e.symm;omega)).trans (h.block i hi ai)⟩
def zkM{f:Bool}(h:MarkAt W C f)(k:W.grownBy W' row)(hr:∀j,row=some j->j≠C):MarkAt W' C f:=(k.block C (zab h) (λe=>hr C e.symm rfl)).trans h
variable{j:Nat}
def ziS{α:Type}{e:TypeId}{size:Nat}{f:α->List Value}{xs:List α}(h:OwnS W base e size f v xs)(hj:za4 v=some j):∃cur,W.heap[j]?=some (.cells cur e (0,0)):=by
 rcases h with⟨rfl,_⟩|⟨g,o,c,cur,rfl,_,hg,_⟩
 ·cases hj
 ·simp only[za4,Option.some.injEq]at hj;subst hj;exact⟨cur,hg⟩
def ziT{b:Nat}{K V:Type}{ek:K->Value}{ev:V->Value}{m left:List (K×V)}(h:RangeAt W b r ek ev m left){cur:Array Value}{t:TypeId}{fr:Nat×Nat}(hj:W.heap[j]?=some (.cells cur t fr)):j≠b/\j≠r:=by
 obtain⟨es,clock,since,seen,c0,h1,_,_,_,h5,_⟩:=h;refine⟨λe=>?_,λe=>?_⟩
 ·subst e;rw[h1]at hj;simp at hj
 ·subst e;rw[h5]at hj;simp at hj
def zo3:0<q↔0<q.num:=by rw[Rat.lt_iff];simp
def W_two(w:World)(o1 o2:Obj):Qa w ((w.alloc o1).alloc o2):=zad (zad Qb _) _
def LK(W W':World):Prop:= ∀(k:Nat) (cur:Array Value) (fr:Nat×Nat),W.heap[k]?=some (.cells cur 225 fr)->W'.heap[k]?=W.heap[k]?
variable{a b:World}
def LK.trans{c:World}(h:LK a b)(k:LK b c):LK a c:=λi cur fr hi=>(k i cur fr ((h i cur fr hi).trans hi)).trans (h i cur fr hi)
def LK.below(h:Below n a b)(hn:a.heap.size<=n:=by first|exact Qc|omega):LK a b:=λi cur fr hi=>h.block i (Nat.lt_of_lt_of_le (Array.getElem?_eq_some_iff.1 hi).1 hn)
def LK.put{R:Nat}{q0:Rat}(h:W.heap[R]?=some (zbs q0)):LK W ((W.setCell ⟨R,0,none⟩ (.int .i64 q.num)).setCell ⟨R,1,none⟩ (.int .i64 q.den)):=λi cur fr hi=>by
 have ai:i≠R:=by
  intro e;subst e;rw[h]at hi;simp[zbs]at hi
 rw[zia ai,zia ai]
variable{es:List Ln}
def LK.items{Q:Nat->Prop}{f:Nat}(h:LK W W')(k:ItemsN W Q f es l):ItemsN W' Q f es l:=k.same h
def LK.ro{A:Option Addr}(h:LK W W')(k:Ro W 225 lnC A es):Ro W' 225 lnC A es:=k.same (λb cur fr hx _=>h b cur fr hx)
def zlZ(law:Law):Obj:=.cells #[.int .i64 law.frm,.bool law.stems,.int .i64 law.num,.int .i64 law.den] 94
structure EstSt (w W:World) (b h C m L R:Nat) (law:Law) (n:ByteArray) (x:Parts×Bool) (rest:Rat):Prop where
 heir:HeirAt W h b law n C m
 lawB:W.heap[L]?=some (zlZ law)
 restB:W.heap[R]?=some (zbs rest)
 has:HasAt W m x.1
 mark:MarkAt W C x.2
 gr:w.grownBy W (some C)
section
variable {w W W':World} {b h C m L R:Nat} {law:Law} {n:ByteArray} {x y:Parts×Bool} {rest q:Rat}
def EstSt.keep{k:Nat}(e:EstSt w W b h C m L R law n x rest)(hB:Below k W W')(hk:W.heap.size<=k:=by first|exact Qc|omega):EstSt w W' b h C m L R law n x rest:=
 ⟨e.heir.keep hB hk,(hB.block L (Nat.lt_of_lt_of_le (zab e.lawB) hk)).trans e.lawB,(hB.block R (Nat.lt_of_lt_of_le (zab e.restB) hk)).trans e.restB,e.has.keep hB hk,e.mark.keep hB (Nat.lt_of_lt_of_le (zab e.mark) hk),zkL e.gr hB (Nat.le_trans e.gr.size hk)⟩
def EstSt.two(hn:EstN w h C m L R)(e:EstSt w W b h C m L R law n x rest)(t:Two2 W W' C m)(h1:HasAt W' m y.1)(h2:MarkAt W' C y.2):EstSt w W' b h C m L R law n y rest:=by
 have c1:=hn.gc;have c2:=hn.gh;have c3:=hn.gm;have c4:=hn.gl;have c5:=hn.gr
 have d1:=hn.hm;have d2:=hn.ml;have d3:=hn.mr
 exact⟨(t.others h (zab e.heir) McS d1).trans e.heir,(t.others L (zab e.lawB) McS (λz=>d2 z.symm)).trans e.lawB,(t.others R (zab e.restB) McS (λz=>d3 z.symm)).trans e.restB,h1,h2,two_gr e.gr c3 t⟩
def EstSt.put(hn:EstN w h C m L R)(e:EstSt w W b h C m L R law n x rest)(q:Rat):EstSt w ((W.setCell ⟨R,0,none⟩ (.int .i64 q.num)).setCell ⟨R,1,none⟩ (.int .i64 q.den)) b h C m L R law n x q:=by
 have c1:=hn.gc;have c5:=hn.gr
 have d1:=hn.hr;have d2:=hn.lr;have d3:=hn.mr
 have hs:∀k,k≠R->((W.setCell ⟨R,0,none⟩ (.int .i64 q.num)).setCell ⟨R,1,none⟩ (.int .i64 q.den)).heap[k]?=W.heap[k]?:=λk hk=>(zia hk).trans (zia hk)
 refine⟨(hs h d1).trans e.heir,(hs L d2).trans e.lawB,zer e.restB,e.has.block (hs m d3),(hs C McS).trans e.mark,?_⟩;exact⟨e.gr.os,e.gr.tape,e.gr.output,by simpa using e.gr.size,λk hk ai=>(hs k McS).trans (e.gr.block k hk ai)⟩
end
def zpt(base b C:Nat)(s:St)(last:Int)(law:Law)(n:ByteArray)(w:World)(s7:∀W,w.grownBy W (some C)->PeoAt base W b s)(hG:GoodSt s last)(hM:MarkAt w C false)(cf:s.children.length<=1000)(gn:s.marriages.length<=1000)(cK:(zbv s n).length<=1000)(fx:za8 16 law.num law.den=true):
 Calls Tryz.prog 116 #[.pointer (some ⟨b,0,none⟩),law.v,.string n,.pointer (some ⟨C,0,none⟩)] w λe w'=>∃v,e=.returned v/\OwnS w' w.heap.size 55 3 zaa v (zcj s law n).1/\MarkAt w' C (zcj s law n).2/\w.grownBy w' (some C):=by
 have Kr:=s7 w (zc6 _ _);have uq:∀(W:World),w.grownBy W (some C)->PeoAt base W b s:=s7;obtain⟨B,d,c,p,wl,r,mv,tv,la,co,jU,zA⟩:=Kr;have hb:=zab jU;unfold WldC at jU;obtain⟨-,-,-,-,c4⟩:=cF5 jU;obtain⟨WA,wcap,fN,Gx⟩:=look_will zA n;have zB:=hG.wills n;have lV:∀q∈zbv s n,noB q.1=false:=by
  intro q hq;unfold zbv at hq;cases hf:s.wills.reverse.find? (λx=>zae x.1 n)with
  |none=>rw[hf]at hq;simp at hq
  |some x=>
   rw[hf]at hq;exact hG.willNames x (by simpa using List.mem_of_find?_eq_some hf) q (by simpa using hq)
 have wv:=zab hM;obtain⟨HM,kf,HP,mF,FC,HG⟩:=yH6 hM Gx uq zB lV hG
 have q9:zcj s law n=(let y:=zdj s n (zbv s n) ([],false) 1
  let sp:=zco s n
  let lines:=zb6 s law.stems n (zaX s) n
  if lines.isEmpty then zcT sp y.2 y.1 else
  if noB sp then zcy lines y.2 y.1 else
  zcy lines (y.2-y.2*Rat.divInt law.num law.den) (zcT sp (y.2*Rat.divInt law.num law.den) y.1)):=rfl
 have tQ:=zHi q9;have dE:∀W',Qa w W'->(Instr.lookup 69 (.map (some wl)) (.string n) false).run Tryz.prog W'=.ok (.slice WA (zbv s n).length wcap) W':=fN;generalize zcj s law n=EF at*;generalize jV:zbv s n=ws at*;have Cr:=zHi jV;clear jV q9 jU zA fN Gx zB lV hG hM uq s7;unfold Law.v;go_enter Tryz.func116,Tryz.ntmps116
 have dj:= @run_makeMap Tryz.prog;have qo:=dE ((((w.alloc (zlZ law)).alloc (.map #[] 0)).alloc (.cells #[.pointer (some ⟨b,0,none⟩),.int .i64 law.frm,.bool law.stems,.int .i64 law.num,.int .i64 law.den,.string n,.pointer (some ⟨C,0,none⟩),.map (some (w.heap.size+1))] 199)).alloc (.cells #[.int .i64 1,.int .i64 1] 50)) Bw;unfold zlZ at qo;go_upto_block 0 with fail
 have hN:EstN w (w.heap.size+1+1) C (w.heap.size+1) w.heap.size (w.heap.size+1+1+1):=⟨wv,by omega,by omega,by omega,by omega,by omega,by omega,by omega,by omega,by omega,by omega⟩
 have HN:=zHi hN;have hC0:C≠w.heap.size:=McS;clear hN dE qo dj;go_cut [12,34]from 35 (λ_ _ wc=>EstSt w wc b (w.heap.size+1+1) C (w.heap.size+1) w.heap.size (w.heap.size+1+1+1) law n (zdj s n ws ([],false) 1).1 (zdj s n ws ([],false) 1).2)
 case first=>
  go_wp2_with fail
  go_loopw [34] (λi wr=>∃(k:Nat) (x:Parts×Bool) (rest:Rat),k<=ws.length/\i=.int .i64 k/\Hid ((x,rest)=zdj s n (ws.take k) ([],false) 1)/\EstSt w wr b (w.heap.size+1+1) C (w.heap.size+1) w.heap.size (w.heap.size+1+1+1) law n x rest) (λi _=>ws.length-(intOf i).toNat)
  case atStart=>
   refine⟨0,([],false),1,Nat.zero_le _,rfl,rfl,?_,?_,?_,?_,?_,?_⟩
   ·exact zal (zas _ _ _ McV)
   ·exact zal (zal (zal (zas _ _ _ rfl)))
   ·exact zas _ _ _ McV
   ·refine⟨[],?_,by simp,λnm=> .inl ⟨rfl,rfl⟩⟩;have h0:MapS ((w.alloc (.cells #[.int .i64 law.frm,.bool law.stems,.int .i64 law.num,.int .i64 law.den] 94)).alloc (.map #[] 0)) (w.alloc (.cells #[.int .i64 law.frm,.bool law.stems,.int .i64 law.num,.int .i64 law.den] 94)).heap.size ekS (λv:Value=>v) ([]:List (ByteArray×Value)):=MapS.new _;rw[World.size_alloc]at h0;exact h0.below (n:=w.heap.size+1+1) (zad (zad Qb _ McV) _ McV) McV
   ·exact((((HM.o.alloc _).alloc _).alloc _).alloc _)
   ·exact zct (zct (zct (zct (zc6 _ _) _) _) _) _
  case round=>
   obtain⟨k,x,rest,hk,rfl,HX,aq⟩:=hrel;have yV:=aq.restB;have dD:=aq.gr;have aK:=zHi aq;have r0:wr.cell? ⟨w.heap.size+1+1+1,0,none⟩=some (.int .i64 rest.num):=by simp only[World.cell?,yV,zbs];rfl
   have r1:wr.cell? ⟨w.heap.size+1+1+1,1,none⟩=some (.int .i64 rest.den):=by simp only[World.cell?,yV,zbs];rfl
   have nY:=zab yV;have CZ:w.heap.size+1+1+1≠wr.heap.size:=McS;have ej:=kf.o.kept dD HM.o McU;clear aq yV;by_cases ae:k<ws.length
   ·obtain⟨b',off,rfl,cA,hc⟩:=(Ro.sl zak ej).at ae;have bC:=will_snoc s n ws ([],false) 1 ae;have jK:=zkJ (s:=s) (frm:=n) mF.o k;rw[<-HX.o]at bC jK;have bm:ws[k]∈ws:=List.getElem_mem ae;have d9:=mF.o.pos _ bm;have xR:=mF.o.isN _ bm;have dl:=FC.o _ bm;have Ia:ws[k].2<=1:=Rat.le_trans (zgX (l:=ws) (λq hq=>by have:=mF.o.pos q hq;grind) _ bm) mF.o.le;generalize ws[k]=pt at*;obtain⟨pn,pq⟩:=pt;have i0:wr.cell? ⟨b',off+k*3,none⟩=some (.string pn):=hc 0 _ rfl;have i1:wr.cell? ⟨b',off+k*3+1,none⟩=some (.int .i64 pq.num):=hc 1 _ rfl;have i2:wr.cell? ⟨b',off+k*3+2,none⟩=some (.int .i64 pq.den):=hc 2 _ rfl;have uI:zaJ pq:=zca (by simp only at d9;grind) Ia (zex McU McU xR);have au:(k:Int)<(ws.length:Int):=McS;have aR:(0:Int)<=(k:Int):=McS;have bL:zdY s pn n=ziL s pn n:=by rw[able_q,dl];rfl
    simp only[bL]at bC;obtain⟨cM,my,jZ⟩:=yH3 bC jK (λW hW=>HP.o W (zkL dD hW (n:=wr.heap.size) dD.size));clear hc bC jK bm d9 xR dl Ia bL ej;have fP:=zHi (λW (hW:Qa wr W)=>zkB base b (w.heap.size+1+1) C (w.heap.size+1) s law n pn W (jZ.o W hW) (aK.o.keep hW).heir);generalize ziL s pn n=ab at*;cases ab
    ·go_wp2_with (go_at_call 146;refine(fP.o _ Bw).mono ?_;rintro e wq ⟨rfl,z,rfl⟩)
     go_round
     case rel=>exact⟨k+1,x,rest,by omega,by go_num,by show _=_;simpa using cM.o.symm,aK.o.keep (k:=wr.heap.size) Bw⟩
     case measure=>simp[intOf];omega
    ·go_wp2_with (first
      |(go_at_call 146;refine(fP.o _ Bw).mono ?_;rintro e wq ⟨rfl,z,rfl⟩)
      |(go_at_call 147
        go_loud(refine(zg1 b (w.heap.size+1+1) C (w.heap.size+1) law n pn pq x.1 x.2 _ (aK.o.keep (k:=wr.heap.size) Bw).heir (aK.o.keep (k:=wr.heap.size) Bw).mark (aK.o.keep (k:=wr.heap.size) Bw).has McS McS McS my.o.bd.good (my.o.bd.share (by have:=my.o.nn;grind) pn) uI).mono ?_)
        rintro e wq ⟨rfl,g1,g2,g3⟩;have df:=(aK.o.keep (W':=(wr.alloc (.cells #[.string pn,.int .i64 pq.num,.int .i64 pq.den] 55)).ext z) (k:=wr.heap.size) Bw).two HN.o g3 g1 g2;have hp:wq.heap[wr.heap.size]?=some (.cells #[.string pn,.int .i64 pq.num,.int .i64 pq.den] 55):=(g3.others _ Mc1 McS McS).trans (zbF (zas _ _ _ rfl));have f9:=zHi df;have q0:wq.cell? ⟨w.heap.size+1+1+1,0,none⟩=some (.int .i64 rest.num):=by simp only[World.cell?,df.restB,zbs];rfl
        have q1:wq.cell? ⟨w.heap.size+1+1+1,1,none⟩=some (.int .i64 rest.den):=by simp only[World.cell?,df.restB,zbs];rfl
        have f0:wq.frozen? ⟨w.heap.size+1+1+1,0,none⟩=false:=by simp only[World.frozen?,df.restB,zbs];rfl
        have f1:wq.frozen? ⟨w.heap.size+1+1+1,1,none⟩=false:=by simp only[World.frozen?,df.restB,zbs];rfl
        obtain⟨-,p1,p2⟩:=cF3 hp;have Kv:=zab df.restB
        clear df hp g1 g2 g3)
      |(go_at_call 111;refine(zhI rest pq _ my.o.small uI).mono ?_;rintro e wq2 ⟨rfl,z2,rfl⟩;simp only[zaA]))
     go_round
     case rel=>exact⟨k+1,zcT pn pq x,rest-pq,by omega,by go_num,by show _=_;simpa using cM.o.symm,(f9.o.put HN.o (rest-pq)).keep (zan _ z2)⟩
     case measure=>simp[intOf];omega
   ·have au:¬(k:Int)<(ws.length:Int):=McS;rw[List.take_of_length_le McS]at HX;go_wp2_with fail
    go_meet
    rw[<-HX.o];exact aK.o
 case rest=>
  have jK:=zkJ (s:=s) (frm:=n) mF.o ws.length;rw[List.take_of_length_le Qc]at jK;generalize zdj s n ws ([],false) 1=y at*;obtain⟨x,rest⟩:=y;have my:=zHi jK;have dD:=hcut.gr;obtain⟨aK,jZ⟩:=yH2 hcut (λW hW=>HP.o W (zkL dD hW (n:=wc.heap.size) dD.size));clear jK hcut kf mF FC;obtain⟨dh,jw⟩:=yH2 (λW (hW:Qa wc W)=>zlI base b (w.heap.size+1+1) C (w.heap.size+1) s law n (λc hc=>(HG.o.kids c hc).2) cf (zaX s) n W (jZ.o W hW) (aK.o.keep hW).heir (zkK HG.o.acyc n)) (λW (hW:Qa wc W)=>zjT base b s n W (jZ.o W hW) McS);generalize cw:zaK s n=sp at*
  go_upto_region 11 with(first
   |(go_at_call 148;refine(dh.o _ Bw).mono ?_;rintro e wq ⟨v,es,rfl,o1,o2,o3,o4⟩;obtain⟨VA,vc,rfl,_,gu⟩:=o1.sl zjV;obtain⟨gy,cT⟩:=yH2 o1 o2;clear o1 o2)
   |(go_at_call 118;refine(jw.o _ Bw).mono ?_;rintro e wq2 ⟨rfl,z,rfl⟩))
  have cA:b<wc.heap.size:=Nat.lt_of_lt_of_le hb dD.size;have bl:=o3.size;have fP:=zHi (λW (hW:Qa wq W)=>zkB base b (w.heap.size+1+1) C (w.heap.size+1) s law n sp W (jZ.o W (o3.trans (hW.mono bl))) (aK.o.keep (o3.trans (hW.mono bl))).heir);have ze:zco s n=if(!noB sp&&ziL s sp n)=true then sp else⟨#[]⟩:=by unfold zco;rw[cw,able_q]
  generalize zco s n=hs at*;generalize ziL s sp n=ab at*;go_cut [59,60,61,62,63,64,65,66]from 67 (λ_ _ _ _ _ _ _ v66 W=>v66=.bool (!noB sp&&!ab)/\∃z,W=wq.ext z)
  case first=>
   cases ab;all_goals(go_wp2_with (go_at_call 146;refine(fP.o _ Bw).mono ?_;rintro e wq2 ⟨rfl,z2,rfl⟩))
   all_goals go_meet
   all_goals exact⟨zaT (by first|(simp[noB, *];done)|(rw[Bool.eq_iff_iff];simp[noB];simp[*];done)),zaP Bw⟩
  case rest=>
   obtain⟨rfl,z2,rfl⟩:=hcut;go_upto_if 66 with fail
   go_cut [14,66]from 67 (λv14 _ W=>v14=.string hs/\W=wq.ext z2)
   case first=>
    cases dl:noB sp
    ·cases ab
     ·exact MbO
     ·exact MbO
    ·cases ab;all_goals go_wp2_with fail
     all_goals go_meet
     all_goals rw[dl]at ze
     all_goals have bC:sp=⟨#[]⟩:=noB_nil dl
     all_goals exact⟨by rw[ze,bC];rfl,rfl⟩
   case rest=>
    obtain⟨rfl,rfl⟩:=hcut;have eP:Qa wq (wq.ext z2):=zan _ _;have ax:Qa wc (wq.ext z2):=o3.trans (eP.mono bl);have zo:=aK.o.keep ax;obtain⟨vL,oJ⟩:=yH2 (gy.o.keep (n:=wq.heap.size) eP) (cT.o.keep (n:=wq.heap.size) eP);generalize wq.ext z2=W3 at*;have D7:=vL.o.ro;obtain⟨VA2,vc2,Ik,_,nY⟩:=D7;simp only[Value.slice.injEq]at Ik;obtain⟨rfl,_,rfl⟩:=Ik;obtain⟨Cd,bO⟩:=yH2 nY zo;clear zo nY eP ax gy cT aK fP dh jw o3 bl ze cw;have rT:=tQ.o;have vD:=zHi oJ.o.len;go_upto_block 2 with fail
    go_cut [15]from 67 (λ_ W=>∃rest',EstSt w W b (w.heap.size+1+1) C (w.heap.size+1) w.heap.size (w.heap.size+1+1+1) law n EF rest'/\Bd EF.1 1)
    case first=>
     have r0:W3.cell? ⟨w.heap.size+1+1+1,0,none⟩=some (.int .i64 rest.num):=by simp only[World.cell?,bO.o.restB,zbs];rfl
     have r1:W3.cell? ⟨w.heap.size+1+1+1,1,none⟩=some (.int .i64 rest.den):=by simp only[World.cell?,bO.o.restB,zbs];rfl
     have l2:W3.cell? ⟨w.heap.size,2,none⟩=some (.int .i64 law.num):=by simp only[World.cell?,bO.o.lawB,zlZ];rfl
     have l3:W3.cell? ⟨w.heap.size,3,none⟩=some (.int .i64 law.den):=by simp only[World.cell?,bO.o.lawB,zlZ];rfl
     have nY:=zab bO.o.restB;have um:=zab bO.o.lawB;have ix:=my.o.nn;have bG:=my.o.le;have dJ:=my.o.small;obtain⟨dp,qU⟩:=yH2 my.o.bd rT;have wG:=zjW (s:=s) (stems:=law.stems) (frm:=n) cf (zaX s) n;generalize zb6 s law.stems n (zaX s) n=tr at*;have rI:=zHi wG;clear rT wG tQ;by_cases he:es.length=0
     ·have KZ:(((es.length:Nat):Int)==0)=true:=by rw[he];rfl
      have N6:tr=[]:=List.eq_nil_of_length_eq_zero (by have:=vD.o;omega);clear he;go_wp2_with (go_at_call 147;refine(zg1 b (w.heap.size+1+1) C (w.heap.size+1) law n hs rest x.1 x.2 _ bO.o.heir bO.o.mark bO.o.has McS McS McS dp.o.good (dp.o.share Mdl hs) dJ).mono ?_;rintro e w6 ⟨rfl,g1,g2,g3⟩)
      go_meet
      have h1:=qU.o;rw[N6]at h1;rw[h1];exact⟨rest,bO.o.two HN.o g3 g1 g2,(zfA (fl:=x.2) dp.o ix).up6 Mdl⟩
     ·have KZ:(((es.length:Nat):Int)==0)=false:=by simpa using he
      have ai:tr≠[]:=λe=>he (by have:=vD.o;rw[e]at this;exact this)
      have gC:tr.isEmpty=false:=by cases tr with|nil=>exact absurd rfl ai|cons _ _=>rfl
      have fF:=zHi ai;clear ai he;cases dl:noB hs
      ·have tg:hs.toList.isEmpty=false:=dl;have Es:(!hs.toList.isEmpty)=true:=by rw[tg];rfl
       have gW:=qU.o;rw[gC,dl]at gW;simp only[Bool.false_eq_true,if_false]at gW;have qV:=zHi gW;obtain⟨ow1,ow2,ow3⟩:=own_any dJ fx;obtain⟨oo1,oo2,oo3,oo4⟩:=own_ok my.o.isN ix bG fx;generalize Rat.divInt law.num law.den=la at*;generalize aa:rest*la=own at*;have cR:=zHi ow3;clear gW ow3 aa gC dl
       go_wp2_with (first
        |(go_at_call 139;refine(cR.o _).mono ?_;rintro e w5 ⟨rfl,z5,rfl⟩;simp only[zaA])
        |(go_at_call 147
          refine(zg1 b (w.heap.size+1+1) C (w.heap.size+1) law n hs own x.1 x.2 _ (bO.o.keep (k:=W3.heap.size) Bw).heir (bO.o.keep (k:=W3.heap.size) Bw).mark (bO.o.keep (k:=W3.heap.size) Bw).has McS McS McS dp.o.good (dp.o.share Mdl hs) oo3).mono ?_;rintro e w6 ⟨rfl,g1,g2,g3⟩;have iW:=(bO.o.keep (W':=(W3.ext z5).alloc (.cells #[.int .i64 own.num,.int .i64 own.den] 50)) (k:=W3.heap.size) Bw).two HN.o g3 g1 g2;have oM:=zHi iW;have hO:w6.heap[(W3.ext z5).heap.size]?=some (zbs own):=(g3.others _ McV Mc1 Mc1).trans (zas _ _ _ rfl);have q0:w6.cell? ⟨w.heap.size+1+1+1,0,none⟩=some (.int .i64 rest.num):=by simp only[World.cell?,iW.restB,zbs];rfl
          have q1:w6.cell? ⟨w.heap.size+1+1+1,1,none⟩=some (.int .i64 rest.den):=by simp only[World.cell?,iW.restB,zbs];rfl
          have f0:w6.frozen? ⟨w.heap.size+1+1+1,0,none⟩=false:=by simp only[World.frozen?,iW.restB,zbs];rfl
          have f1:w6.frozen? ⟨w.heap.size+1+1+1,1,none⟩=false:=by simp only[World.frozen?,iW.restB,zbs];rfl
          have o0:w6.cell? ⟨W3.heap.size+z5.os.size,0,none⟩=some (.int .i64 own.num):=by simp only[<-zaf,World.cell?,hO,zbs];rfl
          have o1:w6.cell? ⟨W3.heap.size+z5.os.size,1,none⟩=some (.int .i64 own.den):=by simp only[<-zaf,World.cell?,hO,zbs];rfl
          have Kv:=zab iW.restB;go_loud(have Gl:=(LK.below (a:=W3) (n:=W3.heap.size) (b:=(W3.ext z5).alloc (.cells #[.int .i64 own.num,.int .i64 own.den] 50)) Bw).trans (zkI g3 (bO.o.keep (k:=W3.heap.size) Bw).mark (bO.o.keep (k:=W3.heap.size) Bw).has))
          go_loud(have iB:=zHi (((Gl.trans (LK.put (q:=rest-own) iW.restB)))))
          clear iW hO g1 g2 g3 Gl)
        |(go_at_call 111;refine(zhI rest own _ dJ oo3).mono ?_;rintro e w7 ⟨rfl,z7,rfl⟩;simp only[zaA])
        |(go_at_call 149
          refine(zhm b (w.heap.size+1+1) C (w.heap.size+1) law n McS McS McS (zaX s) es tr _ VA es.length vc (rest-own) (1-rest+own) (zcT hs own x).1 (zcT hs own x).2 _ ((iB.o.trans (LK.below (zan _ z7))).items oJ.o) rI.o ((iB.o.trans (LK.below (zan _ z7))).ro Cd.o) fF.o vD.o ((oM.o.put HN.o (rest-own)).keep (zan _ z7)).heir ((oM.o.put HN.o (rest-own)).keep (zan _ z7)).mark ((oM.o.put HN.o (rest-own)).keep (zan _ z7)).has Mdl Mdl oo4 (zfA (fl:=x.2) dp.o oo1) Mdl).mono ?_;rintro e w8 ⟨rfl,g1,g2,g3⟩;have nL:=((oM.o.put HN.o (rest-own)).keep (zan _ z7)).two HN.o g3 g1 g2;have rD:=zHi nL
          clear nL g1 g2 g3))
       go_meet
       rw[qV.o];exact⟨rest-own,rD.o,(zgA (fl:=(zcT hs own x).2) (show 0<=rest-own by grind) (zfA (n:=hs) (fl:=x.2) dp.o oo1)).up6 Mdl⟩
      ·have tg:hs.toList.isEmpty=true:=dl;have Es:(!hs.toList.isEmpty)=false:=by rw[tg];rfl
       have gW:=qU.o;rw[gC,dl]at gW;simp only[Bool.false_eq_true,if_false,if_true]at gW;have qV:=zHi gW;clear gW gC dl
       go_wp2_with (go_at_call 149
                    refine(zhm b (w.heap.size+1+1) C (w.heap.size+1) law n McS McS McS (zaX s) es tr _ VA es.length vc rest (1-rest) x.1 x.2 _ oJ.o rI.o Cd.o fF.o vD.o bO.o.heir bO.o.mark bO.o.has ix bG dJ dp.o Mdl).mono ?_;rintro e w8 ⟨rfl,g1,g2,g3⟩;have nL:=bO.o.two HN.o g3 g1 g2;have rD:=zHi nL
                    clear nL g1 g2 g3)
       go_meet
       rw[qV.o];exact⟨rest,rD.o,(zgA (fl:=x.2) ix dp.o).up6 Mdl⟩
    case rest=>
     obtain⟨rest',aq,dA⟩:=hcut;have dp:=zHi dA;have Aw:=aq.heir;have Ay:=aq.mark;have CK:=aq.gr;have GD:=aq.has;have hh8:=zab Aw;clear aq dA rT tQ vD Cd vL oJ jZ my bO;obtain⟨W8,rfl⟩:∃x,x=wc:=⟨_,rfl⟩
     have AY:=GD.lt;obtain⟨mm,dG,cY,iP⟩:=GD;unfold HeirAt at Aw;obtain⟨-,-,-,-,-,-,-,e7⟩:=cF8 Aw;obtain⟨EG,wR⟩:=zjF (P:=Tryz.prog) dG (t:=197) Tryz.underlying197;generalize dG.choose_spec.choose=cc at*;generalize dG.choose=ce at*;have JZ:∀j cur,W8.heap[j]?=some (.cells cur 55 (0,0))->j≠C:=λj cur hj e=>by
      subst e;unfold MarkAt at Ay;rw[Ay]at hj;simp at hj
     obtain⟨Jd,IV,r9,li⟩:=yH4 Ay CK iP cY;have hs8:=CK.size;have Cc:=zHi wR;clear Ay CK iP cY wR JZ dG Aw;go_upto_block 6 with fail
     generalize hI:W8.heap.size=I at*;generalize AZ:w.heap.size+1=mb at*;obtain⟨BY,J2⟩:=yH2 AZ hI;clear EG;go_wp2_with fail
     go_loopg [16] (mm.length+1) (λgg v wr=>∃done left,Hid ((done++left).Perm mm)/\RangeAt wr mb I ekS (λv:Value=>v) mm left/\OwnS wr w.heap.size 55 3 zaa v (colP EF.1 done)/\MarkAt wr C EF.2/\w.grownBy wr (some C)/\left.length<gg/\I<wr.heap.size)
     case atStart=>
      refine⟨[],mm,List.Perm.refl _,Cc.o,OwnS.nil,?_,?_,by omega,by simp;omega⟩
      ·exact Jd.o.alloc _
      ·exact zct IV.o _
     case round=>
      obtain⟨done,left,HP,tq,aa,hm,hg,bh,hIl⟩:=hrel;obtain⟨cl,bp⟩:=Qd (colP EF.1 done)
      rw[<-bp]at aa;have cQ:=zHi bp;clear bp;obtain⟨VC,vcc,rfl,_,Nc⟩:=aa.sl zak;have CG:∀j,za4 (.slice VC cl.length vcc)=some j->w.heap.size<=j/\j<wr.heap.size:=λj hj=>aa.ge j hj
      rcases zlp (P:=Tryz.prog) tq 0 with⟨h0,hrun⟩|⟨i,p,w',hi,hrun,hra',hgr',hsz,hent⟩
      ·have CP:=HP.o;rw[h0,List.append_nil]at CP;have qf:cl.Perm EF.1:=by
        rw[cQ.o];exact(CP.filterMap (zlL EF.1)).trans (zo0 dp.o.good li.o r9.o)
       have cX:cl.length<=1000000000:=by rw[qf.length_eq];exact dp.o.len Rat.le_refl
       obtain⟨cG,IK,HO,HM,ez,tM⟩:=yH6 cX qf aa hm hg CG;clear CP qf aa hm hg CG tq h0 cX;go_wp2_with (go_at_call 150;refine(sortP_any (.slice VC cl.length vcc) cl w.heap.size _ HO.o cG.o).mono ?_;rintro e wq ⟨rfl,L,s1,s2,s3,s4,s5⟩)
       go_ret
       have hL:L=EF.1:=zlM dp.o.good (s1.trans IK.o) s2;rw[hL]at s3;exact⟨_,rfl,s3,zkM HM.o s5 (λj hj=>by have:=tM.o j hj;omega),row_gr ez.o s5 (λj hj=>(tM.o j hj).1)⟩
      ·obtain⟨pn,pv⟩:=p;have ie:(pn,pv)∈mm:=HP.o.mem_iff.1 (List.mem_append_right _ (List.mem_of_getElem? hi));have LT:pv=zaA (zah EF.1 pn):=by
        have h1:=zhT li.o ie;rcases r9.o pn with⟨h2,_⟩|h2
        ·rw[h2]at h1;cases h1
        ·rw[h2]at h1;simpa using h1.symm
       subst LT;have GZ:zlL EF.1 (pn,zaA (zah EF.1 pn))=if 0<zah EF.1 pn then some (pn,zah EF.1 pn)else none:=rfl;have ft:=done_perm HP.o hi;have aY:=colP_snoc EF.1 done (pn,zaA (zah EF.1 pn));rw[<-cQ.o,GZ]at aY;obtain⟨kw,ew⟩:=yH2 ft aY;have cI:cl.length<=1000000000:=by
        have h1:(colP EF.1 (done++left)).Perm EF.1:=(HP.o.filterMap (zlL EF.1)).trans (zo0 dp.o.good li.o r9.o);have h2:=h1.length_eq;unfold colP at h2;rw[List.filterMap_append,List.length_append]at h2;have h3:=dp.o.len Rat.le_refl;have h4:=cQ.o;unfold colP at h4;rw[<-h4]at h2;omega
       have hel:(left.eraseIdx i).length+1=left.length:=by
        have:=(List.getElem?_eq_some_iff.1 hi).1;rw[List.length_eraseIdx_of_lt this];omega
       clear ft aY GZ ie hi;generalize zah EF.1 pn=q at*;have If:(Instr.next (.pointer (some ⟨I,0,none⟩)) false 0).run Tryz.prog wr=.ok (.tuple #[.bool true,.string pn,.agg #[.int .i64 q.num,.int .i64 q.den]]) w':=hrun;have Hf:(Instr.entry (.pointer (some ⟨I,0,none⟩))).run Tryz.prog w'=.ok (.tuple #[.string pn,.agg #[.int .i64 q.num,.int .i64 q.den]]) w':=hent;have yA:∀j,some I=some j->w.heap.size<=j:=λj hj=>by have:=J2.o;simp at hj;omega
       have fB:=aa.grown hgr' (by
        cases hb:za4 (.slice VC cl.length vcc)with
        |none=>exact .inl rfl
        |some j=>
         right
         intro e;obtain⟨cur,mV⟩:=ziS aa hb
         exact(ziT tq mV).2 Mee)
       have Hz:=zkM hm hgr' (λj hj=>by have:=yA j hj;omega);have cr:=row_gr hg hgr' yA;have xh:∀j,za4 (.slice VC cl.length vcc)=some j->w.heap.size<=j/\j≠mb/\j≠I:=λj hj=>by
        obtain⟨cur,mV⟩:=ziS fB hj;exact⟨(fB.ge j hj).1,ziT hra' mV⟩
       obtain⟨pN,Co,vR,HO,HM,ez⟩:=yH6 xh hsz hra' fB Hz cr;have Kf:I<w'.heap.size:=McS;have jV:w.heap.size<=w'.heap.size:=cr.size;clear tq hra' aa fB hm Hz hg cr hrun hent hgr' CG hsz xh;by_cases hq:0<q.num
       ·have jG:=ew.o;rw[if_pos (zo3.2 hq)]at jG;have qO:=zHi jG;clear jG;go_wp2_with (at_builtin;go_loud(refine zar (v:=.slice VC cl.length vcc) (n:=cl.length) (m:=1) rfl _ _ rfl zdR zak zcc rfl (HO.o.keep (n:=w'.heap.size) Bw) rfl rfl rfl (sl_part (p:=(pn,q)) (zas _ _ _ McV)) Mc8 McS McX ?_);intro v3 w3 h1 h2 h3)
        have R1:=(vR.o.below (n:=w'.heap.size) (W_two w' _ _)).grown h2 (λe=>(pN.o mb e.symm).2.1 rfl) (λe=>(pN.o I e.symm).2.2 rfl);have M1:=zkM ((HM.o.alloc _).alloc _) h2 (λj hj=>by have:=pN.o j hj;omega);have G1:=row_gr (zct (zct ez.o _) _) h2 (λj hj=>(pN.o j hj).1);have S1:=h2.size;simp only[World.size_alloc]at S1;go_roundg (gk-1)
        case measure=>omega
        case rel=>exact⟨done++[(pn,zaA q)],left.eraseIdx i,kw.o,R1,by rw[qO.o];exact h1,M1,G1,by omega,by omega⟩
       ·have jG:=ew.o;rw[if_neg (λh=>hq (zo3.1 h))]at jG;have qO:=zHi jG;clear jG;go_wp2_with fail
        go_roundg (gk-1)
        case measure=>omega
        case rel=>exact⟨done++[(pn,zaA q)],left.eraseIdx i,kw.o,vR.o.below (n:=w'.heap.size) Bw,by rw[qO.o];simpa using HO.o.keep (n:=w'.heap.size) Bw,HM.o.alloc _,zct ez.o _,by omega,by simp;omega⟩
