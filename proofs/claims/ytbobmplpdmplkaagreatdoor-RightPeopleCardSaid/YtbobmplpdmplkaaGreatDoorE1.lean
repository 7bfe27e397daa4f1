import Derived.Test.YtbobmplpdmplkaaGreatDoorRM
import Derived.Test.YtbobmplpdmplkaaGreatDoorJR
import Derived.Test.YtbobmplpdmplkaaGreatDoorE2
set_option linter.all false
set_option maxRecDepth 100000
set_option maxHeartbeats 4000000
namespace Go.Proofs.YtbobmplpdmplkaaGreatDoor
open Go.RowKit Go.Shelf
attribute [local go_sem] World.cell?_alloc_mark zaf za4 zam za7 zaw zax zay zaz za0 za1 za2
section
open Go.Sort
abbrev PQ:=ByteArray×Rat
instance:Inhabited PQ:=⟨(⟨#[]⟩,0)⟩
def zfP(x y:PQ):Int:=cmpN x.1 y.1
theorem zg4(x y:PQ):ltOf zfP x y=zbh x.1 y.1:=zn8 _ _
theorem part_swo:Sort.SWO (ltOf zfP) where
 irrefl x:=by rw[zg4];exact zeR _
 trans x y z h1 h2:=by rw[zg4]at*;exact zb1 h1 h2
 ntrans x y z h1 h2:=by
  rw[zg4]at*;cases h:zbh x.1 z.1
  ·rfl
  ·exfalso
   rcases zda y.1 z.1 with h3|h3|h3
   ·rw[h2]at h3;cases h3
   ·rw[h3,h]at h1;cases h1
   ·rw[zb1 h h3]at h1;cases h1
theorem perm_upP{d d':Array PQ}(hp:Sort.PermIn 0 d.size d d')(hs:Sort.SortedIn (ltOf zfP) 0 d.size d'):d'.toList.Perm d.toList/\UpP d'.toList:=by
 obtain⟨hsz,_,pU⟩:=hp;have e1:d'.extract 0 d.size=d':=by rw[<-hsz];exact Array.extract_size
 rw[e1,Array.extract_size]at pU;refine⟨pU,List.pairwise_iff_getElem.2 fun i j hi hj cU=>?_⟩;have Kk:i<d'.size:=by simpa using hi
 have sj:j<d'.size:=Meg;have:=hs i j (Nat.zero_le _) cU Mcy;rw[zg4,getElem!_pos d' j sj,getElem!_pos d' i Kk]at this;simpa using this
theorem zlH(d:Array PQ){k j:Nat}{x:PQ}{u:Value}(hk:d.toList[k]?=some x)(hj:(zaa x)[j]?=some u):k*3+j<(Sort.flatK zaa 3 d).size/\(Sort.flatK zaa 3 d)[k*3+j]! =u:=by
 have CU:j<3:=by have:=(List.getElem?_eq_some_iff.1 hj).1;rw[zap]at this;exact this
 have bS:k<d.size:=by have:=(List.getElem?_eq_some_iff.1 hk).1;simpa using this
 have ae:k*3+j<d.size*3:=Mcy;refine⟨by rw[Sort.size_flatK];exact ae,?_⟩;rw[Sort.get_flatK _ _ _ _ ae,show(k*3+j)/3=k by omega,show(k*3+j)%3=j by omega];have:d[k]! =x:=by
  rw[getElem!_pos d k bS];have:=(List.getElem?_eq_some_iff.1 hk).2;simpa using this
 rw[this,List.getElem!_eq_getElem?_getD,hj];rfl
theorem zoJ{w:World}{base g o cap:Nat}{cur:Array Value}{xs:Parts}(hg:w.heap[g]?=some (.cells cur 71 (0,0)))(hx:∀j u,(xs.flatMap zaa)[j]?=some u->cur[o+j]?=some u):Sort.HoldsK zaa 3 w g o xs.toArray:=fun j hj=>by
 rw[Sort.size_flatK]at hj;have sj:j<xs.length*3:=Meg;have ae:j/3<xs.length:=Mcy;have jO:xs[j/3]?=some xs[j/3]:=List.getElem?_eq_getElem ae;have hu:(zaa xs[j/3])[j%3]?=some ((zaa xs[j/3])[j%3]' Mee):=List.getElem?_eq_getElem _;obtain⟨_,h2⟩:=zlH xs.toArray (k:=j/3) (x:=xs[j/3]) (show xs.toArray.toList[j/3]?=_ from jO) hu;have hc:=hx (j/3*3+j%3) _ (zeO zaa 3 zap xs _ _ jO _ _ hu);have e:j/3*3+j%3=j:=Mcy;rw[e]at h2 hc;refine⟨?_,?_⟩
 ·rw[h2];simp only[World.cell?,hg];exact hc
 ·simp[World.frozen?,hg]
theorem sort_heap{w:World}{g o n cap:Nat}{cur:Array Value}{d:Array PQ}{os:Array Obj}(hg:w.heap[g]?=some (.cells cur 71 (0,0)))(ay:o+cap*3<=cur.size):∃cur',(sortWorldK zaa 3 w g o n d os).heap[g]?=some (.cells cur' 71 (0,0))/\o+cap*3<=cur'.size:=by
 have hl:=zab hg;refine⟨putCells id o (flatK zaa 3 d) cur,?_,by unfold putCells;rw[Array.size_mapIdx];exact ay⟩;exact Maz
theorem zmO{w W:World}{g o n:Nat}{dk:Array PQ}{os:Array Obj}(hg:w.heap.size<=g)(hB:Below w.heap.size w W):Below w.heap.size w (sortWorldK zaa 3 W g o n dk os):=by
 refine hB.trans ⟨rfl,rfl,rfl,?_,fun k hk=>?_⟩
 ·exact Ma9
 ·have hs:=hB.size;show((Sort.mapBlock _ _ _).heap++os)[k]?=_;rw[Array.getElem?_append_left Md2];simp only[Sort.mapBlock,Sort.ahead];rw[Array.getElem?_modify,if_neg Mcy]
theorem zoK(x y:PQ)(W:World):Calls Tryz.prog 185 #[.agg (zaa x).toArray,.agg (zaa y).toArray] W fun e w'=>e=.returned (.int .i64 (zfP x y))/\∃q os',w'=Go.Sort.grow (W.drewN q) os':=by
 obtain⟨a0,a1⟩:=x;obtain⟨b0,b1⟩:=y;have hc:=fun W'=>zlh a0 b0 W'
 have hl:zfP (a0,a1) (b0,b1)=cmpN a0 b0:=rfl;rw[hl];generalize cmpN a0 b0=r at hc⊢;simp only[zaa];go_enter Tryz.func185,Tryz.ntmps185
 go_wp2_with (go_at_call 94;refine(hc _).mono ?_;rintro e wq ⟨rfl,rfl⟩)
 go_ret
 exact⟨rfl,0,_,by rw[alloc_eq_grow,alloc_eq_grow,grow_grow];rfl⟩
theorem sortP0(g off cap:Nat)(d:Array PQ)(w:World)(hH:Sort.HoldsK zaa 3 w g off d)(hg:g<w.heap.size)(hsz:d.size<=1000000000):
 Calls Tryz.prog 184 #[.slice (some ⟨g,off,none⟩) d.size cap,.func (.func 185) #[] #[]] w fun e w'=>
  e=.returned (.tuple #[])/\∃d' n os,Sort.PermIn 0 d.size d d'/\Sort.SortedIn (ltOf zfP) 0 d.size d'/\w'=sortWorldK zaa 3 w g off n d' os:=by
 have eg:∀args w,(callFunc 185 args).run Tryz.prog w=.ok (.enter 185 args) w:=enters_of Tryz.func185 Mcz rfl;have aZ:=AnyQ.slices_SortFunc znV 3 Tryz.isAgg71 Tryz.sizeOf71 zaa zap zcb zfP part_swo 185 #[] g off cap d w eg (fun _ _ _ _ x y=>by simpa using zoK x y _) hH hg Mcy;change Calls Tryz.prog 184 _ _ _ at aZ;exact aZ
theorem zoL(fv:Value)(w:World):Calls Tryz.prog 184 #[.slice none 0 0,fv] w fun e w'=>e=.returned (.tuple #[])/\w'=w:=by
 have aZ:=AnyF.slices_SortFunc_none znV none 0 fv w;change Calls Tryz.prog 184 _ _ _ at aZ;exact aZ
theorem sortP_any(v:Value)(ls:Parts)(base:Nat)(w:World)(aa:OwnS w base 71 3 zaa v ls)(hl:ls.length<=1000000000):
 Calls Tryz.prog 184 #[v,.func (.func 185) #[] #[]] w fun e w'=>e=.returned (.tuple #[])/\∃L,L.Perm ls/\UpP L/\OwnS w' base 71 3 zaa v L/\(∀w0:World,Below w0.heap.size w0 w->w0.heap.size<=base->Below w0.heap.size w0 w')/\w.grownBy w' (za5 v):=by
 rcases aa with⟨rfl,rfl⟩|⟨g,o,cap,cur,rfl,hb,hg,hc,hm,hs,hx⟩
 ·refine(zoL _ _).mono ?_;rintro e wq ⟨rfl,rfl⟩;exact⟨rfl,[],List.Perm.refl _,List.Pairwise.nil,OwnS.nil,fun w0 h _=>h,zdk _ _⟩
 ·have cz:=zab hg;have hH:=zoJ (base:=base) (cap:=cap) hg hx;have h:=sortP0 g o cap ls.toArray w hH cz (by simpa using hl);have e:ls.toArray.size=ls.length:=McB;rw[e]at h;refine h.mono ?_;rintro e wq ⟨rfl,d',n,os,hp,q8,rfl⟩;obtain⟨h1,h2⟩:=perm_upP (by rw[e];exact hp) (by rw[e];exact q8);have pw:d'.toList.Perm ls:=h1;have ag:d'.toList.length=ls.length:=pw.length_eq;obtain⟨cur',fB,eD⟩:=sort_heap (n:=n) (d:=d') (os:=os) hg hs;have vJ:=holdsK_sortWorldK zaa 3 w g o n ls.toArray d' os cz hH (by simpa using ag);refine⟨rfl,d'.toList,pw,h2,.inr ⟨g,o,cap,cur',by rw[ag],hb,fB,by omega,hm,eD,?_⟩,fun w0 h ba=>zmO Mcy h,?_⟩
  ·intro j u hu;have cQ:j<d'.toList.length*3:=by
    have:=(List.getElem?_eq_some_iff.1 hu).1;rw[zfW zaa 3 zap]at this;exact this
   have hk:d'.toList[j/3]?=some (d'.toList[j/3]' Mcy):=List.getElem?_eq_getElem _;have CU:j%3<3:=Nat.mod_lt _ McA;have hv:(zaa (d'.toList[j/3]' Mcy))[j%3]?=some ((zaa (d'.toList[j/3]' Mcy))[j%3]'(by rw[zap];exact CU)):=List.getElem?_eq_getElem _;obtain⟨q1,q2⟩:=zlH d' hk hv;have q3:=zeO zaa 3 zap d'.toList _ _ hk _ _ hv;have e3:j/3*3+j%3=j:=Mcy;rw[e3]at q1 q2 q3;have q4:=(vJ j q1).1;rw[q2]at q4;rw[q3]at hu;simp only[World.cell?,fB]at q4;rw[<-hu];exact q4
  ·refine⟨rfl,rfl,rfl,?_,fun k hk ai=>?_⟩
   ·exact Ma9
   ·have FX:¬g=k:=fun e=>ai (by simp[za5,e])
    exact MaA
end
attribute [local go_sem] zan zac
theorem look_will{base:Nat}{W:World}{B:List Nat}{d c p wl r:Nat}{mv:Value}{s:St}(h:PplAt base W B d c p wl r mv s)(n:ByteArray):
 ∃A cc,(∀W',Below W.heap.size W W'->(Instr.lookup 86 (.map (some wl)) (.string n) false).run Tryz.prog W'=.ok (.slice A (zbw s n).length cc) W')/\Ro W 71 zaa A (zbw s n):=by
 obtain⟨m,k1,k2⟩:=h.wills;have hl:=fun W' (hB:Below W.heap.size W W')=>zbk mapSP (k1.below hB).at n
 rcases k2 n with⟨h1,h2⟩|⟨A,cc,h1,h2⟩
 ·rw[h1]at hl;refine⟨none,0,fun W' hB=>?_,by rw[h2];exact Ro.nil⟩;rw[h2];exact hl W' hB
 ·rw[h1]at hl;exact⟨A,cc,hl,h2⟩
theorem noB_nil{s:ByteArray}(h:noB s=true):s=⟨#[]⟩:=by
 unfold noB at h;have h1:s.toList=(⟨#[]⟩:ByteArray).toList:=by rw[List.isEmpty_iff.1 h,ByteArray.toList_eq]
 have h2:zae s ⟨#[]⟩=true:=by unfold zae;rw[h1];simp
 exact zau.1 h2
theorem two_gr{w W W':World}{C m:Nat}(h:w.grownBy W (some C))(hm:w.heap.size<=m)(t:Two2 W W' C m):w.grownBy W' (some C):=
 have b:=t.below 0 (Nat.zero_le _) (Nat.zero_le _) (Nat.zero_le _);⟨b.os.trans h.os,b.tape.trans h.tape,b.output.trans h.output,Nat.le_trans h.size t.size,fun k hk ai=>(t.others k (Nat.lt_of_lt_of_le hk h.size) (fun e=>ai (by rw[e])) Mcy).trans (h.block k hk ai)⟩
theorem zk5{w W W':World}{n:Nat}{row:Option Nat}(h:w.grownBy W row)(hb:Below n W W')(hn:w.heap.size<=n):w.grownBy W' row:=
 ⟨hb.os.trans h.os,hb.tape.trans h.tape,hb.output.trans h.output,Nat.le_trans h.size hb.size,fun k hk ai=>(hb.block k Mcy).trans (h.block k hk ai)⟩
structure EstN (w:World) (h C m L R:Nat):Prop where
 gc:C<w.heap.size
 gh:w.heap.size<=h
 gm:w.heap.size<=m
 gl:w.heap.size<=L
 gr:w.heap.size<=R
 hm:h≠m
 hl:h≠L
 hr:h≠R
 ml:m≠L
 mr:m≠R
 lr:L≠R
theorem own_any{rest:Rat}{law:Law}(hs:zaI rest)(eX:za8 16 law.num law.den=true):
 IntKind.i64.wrap (rest.num*law.num)=rest.num*law.num/\IntKind.i64.wrap ((rest.den:Int)*law.den)=(rest.den:Int)*law.den/\
 ∀W:World,Calls Tryz.prog 174 #[.int .i64 (rest.num*law.num),.int .i64 ((rest.den:Int)*law.den)] W (Ret W (zaA (rest*Rat.divInt law.num law.den))):=by
 obtain⟨h1,h2,_,_⟩:=zbm eX;have hd:=eX;unfold za8 at hd;simp only[Bool.and_eq_true,decide_eq_true_eq]at hd;have ye:(rest.den:Int)<=1000000000:=by have:=hs.2;omega
 have eR:0<(rest.den:Int):=by have:=rest.den_pos;omega
 obtain⟨m1,n1⟩:=zaN hs.1 (show law.num.natAbs<=1000000000 by omega);obtain⟨m2,n2⟩:=zaN (show(rest.den:Int).natAbs<=1000000000 by omega) (show law.den.natAbs<=1000000000 by omega);have m4:0<(rest.den:Int)*law.den:=Int.mul_pos eR Mcy;refine⟨IntWalk.i64_in _ Mcy,IntWalk.i64_in _ Mcy,fun W=>?_⟩;have e:rest*Rat.divInt law.num law.den=Rat.divInt (rest.num*law.num) ((rest.den:Int)*law.den):=by
  rw[zgI,h1,h2]
 rw[e];exact zdI _ _ W Mcy m4 Mcy
theorem own_ok{rest:Rat}{law:Law}(hN:IsN 720720 rest)(h0:0<=rest)(h1:rest<=1)(eX:za8 16 law.num law.den=true):
 0<=rest*Rat.divInt law.num law.den/\rest*Rat.divInt law.num law.den<=rest/\zaI (rest*Rat.divInt law.num law.den)/\zaI (rest-rest*Rat.divInt law.num law.den):=by
 obtain⟨⟨ld,ld0,ld1,l1⟩,l2,l3⟩:=isN_law eX;generalize Rat.divInt law.num law.den=la at*;have iJ:0<=rest*la:=Rat.mul_nonneg h0 l2;have l9:rest*la<=rest:=by
  have:=Rat.mul_nonneg h0 (show 0<=1-la by grind);grind
 have hn:=zkc hN l1;refine⟨iJ,l9,zbZ iJ Mc0 (zeo Mcy Mcy hn),zbZ Mc0 Mc0 (zeo (n:=720720*ld) Mcy Mcy (zgQ (zkY hN) hn))⟩
theorem zg5{l:List Tree}{q t:Rat}{out:Parts}{fl:Bool}(h0:0<=q)(h:Bd out t):Bd (zcw l q (out,fl)).1 (t+q):=by
 rw[zcw];have h1:=zhG (zcu (ze7 h0 l.length)) (l:=l) (fl:=fl||bigQ (q*(1/(l.length:Rat)))) h;exact h1.up6 (by have:=zku h0 l.length;grind)
theorem zhL{W:World}{P o k:Nat}{v:Value}(h:k≠P):(W.setCell ⟨P,o,none⟩ v).heap[k]?=W.heap[k]?:=by
 have hb:¬P=k:=fun e=>h e.symm
 simp[World.setCell,Array.getElem?_modify,hb]
theorem row_gr{w W W':World}{C:Nat}{row:Option Nat}(h:w.grownBy W (some C))(k:W.grownBy W' row)(hr:∀j,row=some j->w.heap.size<=j):w.grownBy W' (some C):=
 ⟨k.os.trans h.os,k.tape.trans h.tape,k.output.trans h.output,Nat.le_trans h.size k.size,fun i hi ai=>(k.block i (Nat.lt_of_lt_of_le hi h.size) (fun e=>by have:=hr i e.symm;omega)).trans (h.block i hi ai)⟩
theorem zk6{W W':World}{C:Nat}{f:Bool}{row:Option Nat}(h:MarkAt W C f)(k:W.grownBy W' row)(hr:∀j,row=some j->j≠C):MarkAt W' C f:=(k.block C (zab h) (fun e=>hr C e.symm rfl)).trans h
theorem ziI{α:Type}{W:World}{base:Nat}{e:TypeId}{size:Nat}{f:α->List Value}{v:Value}{xs:List α}(h:OwnS W base e size f v xs){j:Nat}(hj:za5 v=some j):∃cur,W.heap[j]?=some (.cells cur e (0,0)):=by
 rcases h with⟨rfl,_⟩|⟨g,o,c,cur,rfl,_,hg,_⟩
 ·cases hj
 ·simp only[za5,Option.some.injEq]at hj;subst hj;exact⟨cur,hg⟩
theorem zdP{W:World}{b r:Nat}{K V:Type}{ek:K->Value}{ev:V->Value}{m left:List (K×V)}(h:RangeAt W b r ek ev m left){j:Nat}{cur:Array Value}{t:TypeId}{fr:Nat×Nat}(hj:W.heap[j]?=some (.cells cur t fr)):j≠b/\j≠r:=by
 obtain⟨es,clock,since,seen,c0,h1,_,_,_,h5,_⟩:=h;refine⟨fun e=>?_,fun e=>?_⟩
 ·subst e;rw[h1]at hj;simp at hj
 ·subst e;rw[h5]at hj;simp at hj
theorem zoa{q:Rat}:0<q↔0<q.num:=by rw[Rat.lt_iff];simp
theorem W_two(w:World)(o1 o2:Obj):Below w.heap.size w ((w.alloc o1).alloc o2):=zad (zad (Below.refl _ _) _) _
def LK(W W':World):Prop:= ∀(k:Nat) (cur:Array Value) (fr:Nat×Nat),W.heap[k]?=some (.cells cur 234 fr)->W'.heap[k]?=W.heap[k]?
theorem LK.trans{a b c:World}(h:LK a b)(k:LK b c):LK a c:=fun i cur fr hi=>(k i cur fr ((h i cur fr hi).trans hi)).trans (h i cur fr hi)
theorem LK.below{n:Nat}{a b:World}(h:Below n a b)(hn:a.heap.size<=n:=by first|exact Nat.le_refl _|omega):LK a b:=fun i cur fr hi=>h.block i (Nat.lt_of_lt_of_le (Array.getElem?_eq_some_iff.1 hi).1 hn)
theorem LK.put{W:World}{R:Nat}{q0 q:Rat}(h:W.heap[R]?=some (zbu q0)):LK W ((W.setCell ⟨R,0,none⟩ (.int .i64 q.num)).setCell ⟨R,1,none⟩ (.int .i64 q.den)):=fun i cur fr hi=>by
 have ai:i≠R:=by
  intro e;subst e;rw[h]at hi;simp[zbu]at hi
 rw[zhL ai,zhL ai]
theorem LK.items{W W':World}{Q:Nat->Prop}{f:Nat}{es:List Ln}{l:List Tree}(h:LK W W')(k:ItemsN W Q f es l):ItemsN W' Q f es l:=k.same h
theorem LK.ro{W W':World}{A:Option Addr}{es:List Ln}(h:LK W W')(k:Ro W 234 lnC A es):Ro W' 234 lnC A es:=k.same (fun b cur fr hx _=>h b cur fr hx)
def zlI(law:Law):Obj:=.cells #[.int .i64 law.frm,.bool law.stems,.int .i64 law.num,.int .i64 law.den] 109
structure EstSt (w W:World) (b h C m L R:Nat) (law:Law) (n:ByteArray) (x:Parts×Bool) (rest:Rat):Prop where
 heir:HeirAt W h b law n C m
 lawB:W.heap[L]?=some (zlI law)
 restB:W.heap[R]?=some (zbu rest)
 has:HasAt W m x.1
 mark:MarkAt W C x.2
 gr:w.grownBy W (some C)
section
variable {w W W':World} {b h C m L R:Nat} {law:Law} {n:ByteArray} {x y:Parts×Bool} {rest q:Rat}
theorem EstSt.keep{k:Nat}(e:EstSt w W b h C m L R law n x rest)(hB:Below k W W')(hk:W.heap.size<=k:=by first|exact Nat.le_refl _|omega):EstSt w W' b h C m L R law n x rest:=
 ⟨e.heir.keep hB hk,(hB.block L (Nat.lt_of_lt_of_le (zab e.lawB) hk)).trans e.lawB,(hB.block R (Nat.lt_of_lt_of_le (zab e.restB) hk)).trans e.restB,e.has.keep hB hk,e.mark.keep hB (Nat.lt_of_lt_of_le (zab e.mark) hk),zk5 e.gr hB (Nat.le_trans e.gr.size hk)⟩
theorem EstSt.two(hn:EstN w h C m L R)(e:EstSt w W b h C m L R law n x rest)(t:Two2 W W' C m)(h1:HasAt W' m y.1)(h2:MarkAt W' C y.2):EstSt w W' b h C m L R law n y rest:=by
 have c1:=hn.gc;have c2:=hn.gh;have c3:=hn.gm;have c4:=hn.gl;have c5:=hn.gr
 have d1:=hn.hm;have d2:=hn.ml;have d3:=hn.mr
 exact⟨(t.others h (zab e.heir) Mcy d1).trans e.heir,(t.others L (zab e.lawB) Mcy (fun z=>d2 z.symm)).trans e.lawB,(t.others R (zab e.restB) Mcy (fun z=>d3 z.symm)).trans e.restB,h1,h2,two_gr e.gr c3 t⟩
theorem EstSt.put(hn:EstN w h C m L R)(e:EstSt w W b h C m L R law n x rest)(q:Rat):EstSt w ((W.setCell ⟨R,0,none⟩ (.int .i64 q.num)).setCell ⟨R,1,none⟩ (.int .i64 q.den)) b h C m L R law n x q:=by
 have c1:=hn.gc;have c5:=hn.gr
 have d1:=hn.hr;have d2:=hn.lr;have d3:=hn.mr
 have hs:∀k,k≠R->((W.setCell ⟨R,0,none⟩ (.int .i64 q.num)).setCell ⟨R,1,none⟩ (.int .i64 q.den)).heap[k]?=W.heap[k]?:=fun k hk=>(zhL hk).trans (zhL hk)
 refine⟨(hs h d1).trans e.heir,(hs L d2).trans e.lawB,zek e.restB,e.has.block (hs m d3),(hs C Mcy).trans e.mark,?_⟩;exact⟨e.gr.os,e.gr.tape,e.gr.output,by simpa using e.gr.size,fun k hk ai=>(hs k Mcy).trans (e.gr.block k hk ai)⟩
end
theorem zoM(base b C:Nat)(s:St)(last:Int)(law:Law)(n:ByteArray)(w:World)(rm:∀W,w.grownBy W (some C)->PeoAt base W b s)(hG:GoodSt s last)(hM:MarkAt w C false)(bV:s.children.length<=1000)(ft:s.marriages.length<=1000)(cG:(zbw s n).length<=1000)(eX:za8 16 law.num law.den=true):
 Calls Tryz.prog 158 #[.pointer (some ⟨b,0,none⟩),law.v,.string n,.pointer (some ⟨C,0,none⟩)] w fun e w'=>∃v,e=.returned v/\OwnS w' w.heap.size 71 3 zaa v (zch s law n).1/\MarkAt w' C (zch s law n).2/\w.grownBy w' (some C):=by
 have Jt:=rm w (zdk _ _);have tI:∀(W:World),w.grownBy W (some C)->PeoAt base W b s:=rm;obtain⟨B,d,c,p,wl,r,mv,tv,la,co,jz,yv⟩:=Jt;have hb:=zab jz;unfold WldC at jz;obtain⟨-,-,-,-,c4⟩:=cF5 jz;obtain⟨WA,wcap,dV,Fh⟩:=look_will yv n;have yw:=hG.wills n;have lj:∀q∈zbw s n,noB q.1=false:=by
  intro q hq;unfold zbw at hq;cases hf:s.wills.reverse.find? (fun x=>zae x.1 n)with
  |none=>rw[hf]at hq;simp at hq
  |some x=>
   rw[hf]at hq;exact hG.willNames x (by simpa using List.mem_of_find?_eq_some hf) q (by simpa using hq)
 have vF:=zab hM;obtain⟨HM,qF,HP,lS,Es,HG⟩:=yH6 hM Fh tI yw lj hG
 have pB:zch s law n=(let y:=zdh s n (zbw s n) ([],false) 1
  let sp:=zcm s n
  let lines:=zb2 s law.stems n (zaW s) n
  if lines.isEmpty then zcR sp y.2 y.1 else
  if noB sp then zcw lines y.2 y.1 else
  zcw lines (y.2-y.2*Rat.divInt law.num law.den) (zcR sp (y.2*Rat.divInt law.num law.den) y.1)):=rfl
 have te:=zHi pB;have cK:∀W',Below w.heap.size w W'->(Instr.lookup 86 (.map (some wl)) (.string n) false).run Tryz.prog W'=.ok (.slice WA (zbw s n).length wcap) W':=dV;generalize zch s law n=EF at*;generalize iR:zbw s n=ws at*;have Bt:=zHi iR;clear iR pB jz yv dV Fh yw lj hG hM tI rm;unfold Law.v;go_enter Tryz.func158,Tryz.ntmps158
 have bO:= @run_makeMap Tryz.prog;have pO:=cK ((((w.alloc (zlI law)).alloc (.map #[] 0)).alloc (.cells #[.pointer (some ⟨b,0,none⟩),.int .i64 law.frm,.bool law.stems,.int .i64 law.num,.int .i64 law.den,.string n,.pointer (some ⟨C,0,none⟩),.map (some (w.heap.size+1))] 223)).alloc (.cells #[.int .i64 1,.int .i64 1] 31)) Bw;unfold zlI at pO;go_upto_block 0 with fail
 have hN:EstN w (w.heap.size+1+1) C (w.heap.size+1) w.heap.size (w.heap.size+1+1+1):=⟨vF,by omega,by omega,by omega,by omega,by omega,by omega,by omega,by omega,by omega,by omega⟩
 have HN:=zHi hN;have hC0:C≠w.heap.size:=Mcy;clear hN cK pO bO;go_cut [12,34]from 35 (fun _ _ wc=>EstSt w wc b (w.heap.size+1+1) C (w.heap.size+1) w.heap.size (w.heap.size+1+1+1) law n (zdh s n ws ([],false) 1).1 (zdh s n ws ([],false) 1).2)
 case first=>
  go_wp2_with fail
  go_loopw [34] (fun i wr=>∃(k:Nat) (x:Parts×Bool) (rest:Rat),k<=ws.length/\i=.int .i64 k/\Hid ((x,rest)=zdh s n (ws.take k) ([],false) 1)/\EstSt w wr b (w.heap.size+1+1) C (w.heap.size+1) w.heap.size (w.heap.size+1+1+1) law n x rest) (fun i _=>ws.length-(intOf i).toNat)
  case atStart=>
   refine⟨0,([],false),1,Nat.zero_le _,rfl,rfl,?_,?_,?_,?_,?_,?_⟩
   ·exact zal (zar _ _ _ McB)
   ·exact zal (zal (zal (zar _ _ _ rfl)))
   ·exact zar _ _ _ McB
   ·refine⟨[],?_,by simp,fun nm=> .inl ⟨rfl,rfl⟩⟩;have h0:MapS ((w.alloc (.cells #[.int .i64 law.frm,.bool law.stems,.int .i64 law.num,.int .i64 law.den] 109)).alloc (.map #[] 0)) (w.alloc (.cells #[.int .i64 law.frm,.bool law.stems,.int .i64 law.num,.int .i64 law.den] 109)).heap.size ekS (fun v:Value=>v) ([]:List (ByteArray×Value)):=MapS.new _;rw[World.size_alloc]at h0;exact h0.below (n:=w.heap.size+1+1) (zad (zad (Below.refl _ _) _ McB) _ McB) McB
   ·exact((((HM.o.alloc _).alloc _).alloc _).alloc _)
   ·exact zcr (zcr (zcr (zcr (zdk _ _) _) _) _) _
  case round=>
   obtain⟨k,x,rest,hk,rfl,HX,aq⟩:=hrel;have xX:=aq.restB;have dq:=aq.gr;have aB:=zHi aq;have r0:wr.cell? ⟨w.heap.size+1+1+1,0,none⟩=some (.int .i64 rest.num):=by simp only[World.cell?,xX,zbu];rfl
   have r1:wr.cell? ⟨w.heap.size+1+1+1,1,none⟩=some (.int .i64 rest.den):=by simp only[World.cell?,xX,zbu];rfl
   have nA:=zab xX;have C6:w.heap.size+1+1+1≠wr.heap.size:=Mcy;have dX:=qF.o.kept dq HM.o McA;clear aq xX;by_cases ae:k<ws.length
   ·obtain⟨b',off,rfl,cJ,hc⟩:=(Ro.sl zap dX).at ae;have bL:=will_snoc s n ws ([],false) 1 ae;have jq:=zky (s:=s) (frm:=n) lS.o k;rw[<-HX.o]at bL jq;have bD:ws[k]∈ws:=List.getElem_mem ae;have cY:=lS.o.pos _ bD;have xe:=lS.o.isN _ bD;have fS:=Es.o _ bD;have Dh:ws[k].2<=1:=Rat.le_trans (zgN (l:=ws) (fun q hq=>by have:=lS.o.pos q hq;grind) _ bD) lS.o.le;generalize ws[k]=pt at*;obtain⟨pn,pq⟩:=pt;have i0:wr.cell? ⟨b',off+k*3,none⟩=some (.string pn):=hc 0 _ rfl;have i1:wr.cell? ⟨b',off+k*3+1,none⟩=some (.int .i64 pq.num):=hc 1 _ rfl;have i2:wr.cell? ⟨b',off+k*3+2,none⟩=some (.int .i64 pq.den):=hc 2 _ rfl;have xS:zaI pq:=zbZ (by simp only at cY;grind) Dh (zeo McA McA xe);have ar:(k:Int)<(ws.length:Int):=Mcy;have aQ:(0:Int)<=(k:Int):=Mcy;have cI:zdT s pn n=zi5 s pn n:=by rw[able_q,fS];rfl
    simp only[cI]at bL;obtain⟨cN,lK,jX⟩:=yH3 bL jq (fun W hW=>HP.o W (zk5 dq hW (n:=wr.heap.size) dq.size));clear hc bL jq bD cY xe fS Dh cI dX;have fw:=zHi (fun W (hW:Below wr.heap.size wr W)=>zkt base b (w.heap.size+1+1) C (w.heap.size+1) s law n pn W (jX.o W hW) (aB.o.keep hW).heir);generalize zi5 s pn n=ab at*;cases ab
    ·go_wp2_with (go_at_call 180;refine(fw.o _ Bw).mono ?_;rintro e wq ⟨rfl,z,rfl⟩)
     go_round
     case rel=>exact⟨k+1,x,rest,by omega,by go_num,by show _=_;simpa using cN.o.symm,aB.o.keep (k:=wr.heap.size) Bw⟩
     case measure=>simp[intOf];omega
    ·go_wp2_with (first
      |(go_at_call 180;refine(fw.o _ Bw).mono ?_;rintro e wq ⟨rfl,z,rfl⟩)
      |(go_at_call 181
        go_loud(refine(zgt b (w.heap.size+1+1) C (w.heap.size+1) law n pn pq x.1 x.2 _ (aB.o.keep (k:=wr.heap.size) Bw).heir (aB.o.keep (k:=wr.heap.size) Bw).mark (aB.o.keep (k:=wr.heap.size) Bw).has Mcy Mcy Mcy lK.o.bd.good (lK.o.bd.share (by have:=lK.o.nn;grind) pn) xS).mono ?_)
        rintro e wq ⟨rfl,g1,g2,g3⟩;have d8:=(aB.o.keep (W':=(wr.alloc (.cells #[.string pn,.int .i64 pq.num,.int .i64 pq.den] 71)).ext z) (k:=wr.heap.size) Bw).two HN.o g3 g1 g2;have hp:wq.heap[wr.heap.size]?=some (.cells #[.string pn,.int .i64 pq.num,.int .i64 pq.den] 71):=(g3.others _ McH Mcy Mcy).trans (zbD (zar _ _ _ rfl));have eJ:=zHi d8;have q0:wq.cell? ⟨w.heap.size+1+1+1,0,none⟩=some (.int .i64 rest.num):=by simp only[World.cell?,d8.restB,zbu];rfl
        have q1:wq.cell? ⟨w.heap.size+1+1+1,1,none⟩=some (.int .i64 rest.den):=by simp only[World.cell?,d8.restB,zbu];rfl
        have f0:wq.frozen? ⟨w.heap.size+1+1+1,0,none⟩=false:=by simp only[World.frozen?,d8.restB,zbu];rfl
        have f1:wq.frozen? ⟨w.heap.size+1+1+1,1,none⟩=false:=by simp only[World.frozen?,d8.restB,zbu];rfl
        obtain⟨-,p1,p2⟩:=cF3 hp;have Jz:=zab d8.restB
        clear d8 hp g1 g2 g3)
      |(go_at_call 153;refine(zh5 rest pq _ lK.o.small xS).mono ?_;rintro e wq2 ⟨rfl,z2,rfl⟩;simp only[zaA]))
     go_round
     case rel=>exact⟨k+1,zcR pn pq x,rest-pq,by omega,by go_num,by show _=_;simpa using cN.o.symm,(eJ.o.put HN.o (rest-pq)).keep (zaq _ z2)⟩
     case measure=>simp[intOf];omega
   ·have ar:¬(k:Int)<(ws.length:Int):=Mcy;rw[List.take_of_length_le Mcy]at HX;go_wp2_with fail
    go_meet
    rw[<-HX.o];exact aB.o
 case rest=>
  have jq:=zky (s:=s) (frm:=n) lS.o ws.length;rw[List.take_of_length_le (Nat.le_refl _)]at jq;generalize zdh s n ws ([],false) 1=y at*;obtain⟨x,rest⟩:=y;have lK:=zHi jq;have dq:=hcut.gr;obtain⟨aB,jX⟩:=yH2 hcut (fun W hW=>HP.o W (zk5 dq hW (n:=wc.heap.size) dq.size));clear jq hcut qF lS Es;obtain⟨d9,ib⟩:=yH2 (fun W (hW:Below wc.heap.size wc W)=>zlv base b (w.heap.size+1+1) C (w.heap.size+1) s law n (fun c hc=>(HG.o.kids c hc).2) bV (zaW s) n W (jX.o W hW) (aB.o.keep hW).heir (zkz HG.o.acyc n)) (fun W (hW:Below wc.heap.size wc W)=>zgZ base b s n W (jX.o W hW) Mcy);generalize bU:zaG s n=sp at*
  go_upto_region 11 with(first
   |(go_at_call 182;refine(d9.o _ Bw).mono ?_;rintro e wq ⟨v,es,rfl,o1,o2,o3,o4⟩;obtain⟨VA,vc,rfl,_,kB⟩:=o1.sl zjC;obtain⟨da,dj⟩:=yH2 o1 o2;clear o1 o2)
   |(go_at_call 43;refine(ib.o _ Bw).mono ?_;rintro e wq2 ⟨rfl,z,rfl⟩))
  have cJ:b<wc.heap.size:=Nat.lt_of_lt_of_le hb dq.size;have bm:=o3.size;have fw:=zHi (fun W (hW:Below wq.heap.size wq W)=>zkt base b (w.heap.size+1+1) C (w.heap.size+1) s law n sp W (jX.o W (o3.trans (hW.mono bm))) (aB.o.keep (o3.trans (hW.mono bm))).heir);have yb:zcm s n=if(!noB sp&&zi5 s sp n)=true then sp else⟨#[]⟩:=by unfold zcm;rw[bU,able_q]
  generalize zcm s n=hs at*;generalize zi5 s sp n=ab at*;go_cut [59,60,61,62,63,64,65,66]from 67 (fun _ _ _ _ _ _ _ v66 W=>v66=.bool (!noB sp&&!ab)/\∃z,W=wq.ext z)
  case first=>
   cases ab;all_goals(go_wp2_with (go_at_call 180;refine(fw.o _ Bw).mono ?_;rintro e wq2 ⟨rfl,z2,rfl⟩))
   all_goals go_meet
   all_goals exact⟨zaO (by first|(simp[noB, *];done)|(rw[Bool.eq_iff_iff];simp[noB];simp[*];done)),zaY Bw⟩
  case rest=>
   obtain⟨rfl,z2,rfl⟩:=hcut;go_upto_if 66 with fail
   go_cut [14,66]from 67 (fun v14 _ W=>v14=.string hs/\W=wq.ext z2)
   case first=>
    cases fS:noB sp
    ·cases ab
     ·exact Mby
     ·exact Mby
    ·cases ab;all_goals go_wp2_with fail
     all_goals go_meet
     all_goals rw[fS]at yb
     all_goals have bL:sp=⟨#[]⟩:=noB_nil fS
     all_goals exact⟨by rw[yb,bL];rfl,rfl⟩
   case rest=>
    obtain⟨rfl,rfl⟩:=hcut;have gx:Below wq.heap.size wq (wq.ext z2):=zaq _ _;have ax:Below wc.heap.size wc (wq.ext z2):=o3.trans (gx.mono bm);have yo:=aB.o.keep ax;obtain⟨uU,ob⟩:=yH2 (da.o.keep (n:=wq.heap.size) gx) (dj.o.keep (n:=wq.heap.size) gx);generalize wq.ext z2=W3 at*;have C7:=uU.o.ro;obtain⟨VA2,vc2,Gz,_,nA⟩:=C7;simp only[Value.slice.injEq]at Gz;obtain⟨rfl,_,rfl⟩:=Gz;obtain⟨Be,bx⟩:=yH2 nA yo;clear yo nA gx ax da dj aB fw d9 ib o3 bm yb bU;have qZ:=te.o;have uP:=zHi ob.o.len;go_upto_block 2 with fail
    go_cut [15]from 67 (fun _ W=>∃rest',EstSt w W b (w.heap.size+1+1) C (w.heap.size+1) w.heap.size (w.heap.size+1+1+1) law n EF rest'/\Bd EF.1 1)
    case first=>
     have r0:W3.cell? ⟨w.heap.size+1+1+1,0,none⟩=some (.int .i64 rest.num):=by simp only[World.cell?,bx.o.restB,zbu];rfl
     have r1:W3.cell? ⟨w.heap.size+1+1+1,1,none⟩=some (.int .i64 rest.den):=by simp only[World.cell?,bx.o.restB,zbu];rfl
     have l2:W3.cell? ⟨w.heap.size,2,none⟩=some (.int .i64 law.num):=by simp only[World.cell?,bx.o.lawB,zlI];rfl
     have l3:W3.cell? ⟨w.heap.size,3,none⟩=some (.int .i64 law.den):=by simp only[World.cell?,bx.o.lawB,zlI];rfl
     have nA:=zab bx.o.restB;have tF:=zab bx.o.lawB;have gX:=lK.o.nn;have bI:=lK.o.le;have cR:=lK.o.small;obtain⟨dh,qk⟩:=yH2 lK.o.bd qZ;have vP:=zjD (s:=s) (stems:=law.stems) (frm:=n) bV (zaW s) n;generalize zb2 s law.stems n (zaW s) n=tr at*;have qP:=zHi vP;clear qZ vP te;by_cases he:es.length=0
     ·have K0:(((es.length:Nat):Int)==0)=true:=by rw[he];rfl
      have L5:tr=[]:=List.eq_nil_of_length_eq_zero (by have:=uP.o;omega);clear he;go_wp2_with (go_at_call 181;refine(zgt b (w.heap.size+1+1) C (w.heap.size+1) law n hs rest x.1 x.2 _ bx.o.heir bx.o.mark bx.o.has Mcy Mcy Mcy dh.o.good (dh.o.share Mc0 hs) cR).mono ?_;rintro e w6 ⟨rfl,g1,g2,g3⟩)
      go_meet
      have h1:=qk.o;rw[L5]at h1;rw[h1];exact⟨rest,bx.o.two HN.o g3 g1 g2,(zf1 (fl:=x.2) dh.o gX).up6 Mc0⟩
     ·have K0:(((es.length:Nat):Int)==0)=false:=by simpa using he
      have ai:tr≠[]:=fun e=>he (by have:=uP.o;rw[e]at this;exact this)
      have iP:tr.isEmpty=false:=by cases tr with|nil=>exact absurd rfl ai|cons _ _=>rfl
      have gI:=zHi ai;clear ai he;cases fS:noB hs
      ·have sD:hs.toList.isEmpty=false:=fS;have Db:(!hs.toList.isEmpty)=true:=by rw[sD];rfl
       have gq:=qk.o;rw[iP,fS]at gq;simp only[Bool.false_eq_true,if_false]at gq;have ql:=zHi gq;obtain⟨ow1,ow2,ow3⟩:=own_any cR eX;obtain⟨oo1,oo2,oo3,oo4⟩:=own_ok lK.o.isN gX bI eX;generalize Rat.divInt law.num law.den=la at*;generalize aa:rest*la=own at*;have dH:=zHi ow3;clear gq ow3 aa iP fS
       go_wp2_with (first
        |(go_at_call 174;refine(dH.o _).mono ?_;rintro e w5 ⟨rfl,z5,rfl⟩;simp only[zaA])
        |(go_at_call 181
          refine(zgt b (w.heap.size+1+1) C (w.heap.size+1) law n hs own x.1 x.2 _ (bx.o.keep (k:=W3.heap.size) Bw).heir (bx.o.keep (k:=W3.heap.size) Bw).mark (bx.o.keep (k:=W3.heap.size) Bw).has Mcy Mcy Mcy dh.o.good (dh.o.share Mc0 hs) oo3).mono ?_;rintro e w6 ⟨rfl,g1,g2,g3⟩;have iA:=(bx.o.keep (W':=(W3.ext z5).alloc (.cells #[.int .i64 own.num,.int .i64 own.den] 31)) (k:=W3.heap.size) Bw).two HN.o g3 g1 g2;have oh:=zHi iA;have hO:w6.heap[(W3.ext z5).heap.size]?=some (zbu own):=(g3.others _ McB McH McH).trans (zar _ _ _ rfl);have q0:w6.cell? ⟨w.heap.size+1+1+1,0,none⟩=some (.int .i64 rest.num):=by simp only[World.cell?,iA.restB,zbu];rfl
          have q1:w6.cell? ⟨w.heap.size+1+1+1,1,none⟩=some (.int .i64 rest.den):=by simp only[World.cell?,iA.restB,zbu];rfl
          have f0:w6.frozen? ⟨w.heap.size+1+1+1,0,none⟩=false:=by simp only[World.frozen?,iA.restB,zbu];rfl
          have f1:w6.frozen? ⟨w.heap.size+1+1+1,1,none⟩=false:=by simp only[World.frozen?,iA.restB,zbu];rfl
          have o0:w6.cell? ⟨W3.heap.size+z5.os.size,0,none⟩=some (.int .i64 own.num):=by simp only[<-zaf,World.cell?,hO,zbu];rfl
          have o1:w6.cell? ⟨W3.heap.size+z5.os.size,1,none⟩=some (.int .i64 own.den):=by simp only[<-zaf,World.cell?,hO,zbu];rfl
          have Jz:=zab iA.restB;go_loud(have vN:=(LK.below (a:=W3) (n:=W3.heap.size) (b:=(W3.ext z5).alloc (.cells #[.int .i64 own.num,.int .i64 own.den] 31)) Bw).trans (zk4 g3 (bx.o.keep (k:=W3.heap.size) Bw).mark (bx.o.keep (k:=W3.heap.size) Bw).has))
          go_loud(have fM:=zHi (((vN.trans (LK.put (q:=rest-own) iA.restB)))))
          clear iA hO g1 g2 g3 vN)
        |(go_at_call 153;refine(zh5 rest own _ cR oo3).mono ?_;rintro e w7 ⟨rfl,z7,rfl⟩;simp only[zaA])
        |(go_at_call 183
          refine(zhb b (w.heap.size+1+1) C (w.heap.size+1) law n Mcy Mcy Mcy (zaW s) es tr _ VA es.length vc (rest-own) (1-rest+own) (zcR hs own x).1 (zcR hs own x).2 _ ((fM.o.trans (LK.below (zaq _ z7))).items ob.o) qP.o ((fM.o.trans (LK.below (zaq _ z7))).ro Be.o) gI.o uP.o ((oh.o.put HN.o (rest-own)).keep (zaq _ z7)).heir ((oh.o.put HN.o (rest-own)).keep (zaq _ z7)).mark ((oh.o.put HN.o (rest-own)).keep (zaq _ z7)).has Mc0 Mc0 oo4 (zf1 (fl:=x.2) dh.o oo1) Mc0).mono ?_;rintro e w8 ⟨rfl,g1,g2,g3⟩;have mW:=((oh.o.put HN.o (rest-own)).keep (zaq _ z7)).two HN.o g3 g1 g2;have qJ:=zHi mW
          clear mW g1 g2 g3))
       go_meet
       rw[ql.o];exact⟨rest-own,qJ.o,(zg5 (fl:=(zcR hs own x).2) (show 0<=rest-own by grind) (zf1 (n:=hs) (fl:=x.2) dh.o oo1)).up6 Mc0⟩
      ·have sD:hs.toList.isEmpty=true:=fS;have Db:(!hs.toList.isEmpty)=false:=by rw[sD];rfl
       have gq:=qk.o;rw[iP,fS]at gq;simp only[Bool.false_eq_true,if_false,if_true]at gq;have ql:=zHi gq;clear gq iP fS
       go_wp2_with (go_at_call 183
                    refine(zhb b (w.heap.size+1+1) C (w.heap.size+1) law n Mcy Mcy Mcy (zaW s) es tr _ VA es.length vc rest (1-rest) x.1 x.2 _ ob.o qP.o Be.o gI.o uP.o bx.o.heir bx.o.mark bx.o.has gX bI cR dh.o Mc0).mono ?_;rintro e w8 ⟨rfl,g1,g2,g3⟩;have mW:=bx.o.two HN.o g3 g1 g2;have qJ:=zHi mW
                    clear mW g1 g2 g3)
       go_meet
       rw[ql.o];exact⟨rest,qJ.o,(zg5 (fl:=x.2) gX dh.o).up6 Mc0⟩
    case rest=>
     obtain⟨rest',aq,dl⟩:=hcut;have dh:=zHi dl;have zu:=aq.heir;have zw:=aq.mark;have BP:=aq.gr;have Fl:=aq.has;have hh8:=zab zu;clear aq dl qZ te uP Be uU ob jX lK bx;obtain⟨W8,rfl⟩:∃x,x=wc:=⟨_,rfl⟩
     have A8:=Fl.lt;obtain⟨mm,dr,cW,iq⟩:=Fl;unfold HeirAt at zu;obtain⟨-,-,-,-,-,-,-,e7⟩:=cF8 zu;obtain⟨sI,m8⟩:=zfs (P:=Tryz.prog) dr (t:=221) Tryz.underlying221;generalize dr.choose_spec.choose=cc at*;generalize dr.choose=ce at*;have J3:∀j cur,W8.heap[j]?=some (.cells cur 71 (0,0))->j≠C:=fun j cur hj e=>by
      subst e;unfold MarkAt at zw;rw[zw]at hj;simp at hj
     obtain⟨If,Hy,qs,kN⟩:=yH4 zw BP iq cW;have hs8:=BP.size;have pk:=zHi m8;clear zw BP iq cW m8 J3 dr zu;go_upto_block 6 with fail
     generalize hI:W8.heap.size=I at*;generalize nL:w.heap.size+1=mb at*;obtain⟨nZ,yS⟩:=yH2 nL hI;clear sI;go_wp2_with fail
     go_loopg [16] (mm.length+1) (fun gg v wr=>∃done left,Hid ((done++left).Perm mm)/\RangeAt wr mb I ekS (fun v:Value=>v) mm left/\OwnS wr w.heap.size 71 3 zaa v (colP EF.1 done)/\MarkAt wr C EF.2/\w.grownBy wr (some C)/\left.length<gg/\I<wr.heap.size)
     case atStart=>
      refine⟨[],mm,List.Perm.refl _,pk.o,OwnS.nil,?_,?_,by omega,by simp;omega⟩
      ·exact If.o.alloc _
      ·exact zcr Hy.o _
     case round=>
      obtain⟨done,left,HP,iO,aa,hm,hg,bf,Jd⟩:=hrel;obtain⟨cl,aW⟩:∃cl,cl=colP EF.1 done:=⟨_,rfl⟩
      rw[<-aW]at aa;have ct:=zHi aW;clear aW;obtain⟨VC,vcc,rfl,_,Dw⟩:=aa.sl zap;have BL:∀j,za5 (.slice VC cl.length vcc)=some j->w.heap.size<=j/\j<wr.heap.size:=fun j hj=>aa.ge j hj
      rcases zgb (P:=Tryz.prog) iO 0 with⟨h0,hrun⟩|⟨i,p,w',hi,hrun,hra',hgr',hsz,hent⟩
      ·have rg:=HP.o;rw[h0,List.append_nil]at rg;have mw:cl.Perm EF.1:=by
        rw[ct.o];exact(rg.filterMap (zly EF.1)).trans (znQ dh.o.good kN.o qs.o)
       have dL:cl.length<=1000000000:=by rw[mw.length_eq];exact dh.o.len Rat.le_refl
       obtain⟨dP,At,HO,HM,eb,sZ⟩:=yH6 dL mw aa hm hg BL;clear rg mw aa hm hg BL iO h0 dL;go_wp2_with (go_at_call 184;refine(sortP_any (.slice VC cl.length vcc) cl w.heap.size _ HO.o dP.o).mono ?_;rintro e wq ⟨rfl,L,s1,s2,s3,s4,s5⟩)
       go_ret
       have hL:L=EF.1:=zlz dh.o.good (s1.trans At.o) s2;rw[hL]at s3;exact⟨_,rfl,s3,zk6 HM.o s5 (fun j hj=>by have:=sZ.o j hj;omega),row_gr eb.o s5 (fun j hj=>(sZ.o j hj).1)⟩
      ·obtain⟨pn,pv⟩:=p;have gB:(pn,pv)∈mm:=HP.o.mem_iff.1 (List.mem_append_right _ (List.mem_of_getElem? hi));have KW:pv=zaA (zag EF.1 pn):=by
        have h1:=zgp kN.o gB;rcases qs.o pn with⟨h2,_⟩|h2
        ·rw[h2]at h1;cases h1
        ·rw[h2]at h1;simpa using h1.symm
       subst KW;have Fz:zly EF.1 (pn,zaA (zag EF.1 pn))=if 0<zag EF.1 pn then some (pn,zag EF.1 pn)else none:=rfl;have eR:=zl0 HP.o hi;have bh:=colP_snoc EF.1 done (pn,zaA (zag EF.1 pn));rw[<-ct.o,Fz]at bh;obtain⟨iU,dZ⟩:=yH2 eR bh;have dg:cl.length<=1000000000:=by
        have h1:(colP EF.1 (done++left)).Perm EF.1:=(HP.o.filterMap (zly EF.1)).trans (znQ dh.o.good kN.o qs.o);have h2:=h1.length_eq;unfold colP at h2;rw[List.filterMap_append,List.length_append]at h2;have h3:=dh.o.len Rat.le_refl;have h4:=ct.o;unfold colP at h4;rw[<-h4]at h2;omega
       have hel:(left.eraseIdx i).length+1=left.length:=by
        exact MaJ
       clear eR bh Fz gB hi;generalize zag EF.1 pn=q at*;have pX:(Instr.next (.pointer (some ⟨I,0,none⟩)) false 0).run Tryz.prog wr=.ok (.tuple #[.bool true,.string pn,.agg #[.int .i64 q.num,.int .i64 q.den]]) w':=hrun;have pH:(Instr.entry (.pointer (some ⟨I,0,none⟩))).run Tryz.prog w'=.ok (.tuple #[.string pn,.agg #[.int .i64 q.num,.int .i64 q.den]]) w':=hent;have xH:∀j,some I=some j->w.heap.size<=j:=fun j hj=>by have:=yS.o;simp at hj;omega
       have bT:=aa.grown hgr' (by
        cases hb:za5 (.slice VC cl.length vcc)with
        |none=>exact .inl rfl
        |some j=>
         right
         intro e;obtain⟨cur,mx⟩:=ziI aa hb
         exact(zdP iO mx).2 MdJ)
       have Gb:=zk6 hm hgr' (fun j hj=>by have:=xH j hj;omega);have fB:=row_gr hg hgr' xH;have mj:∀j,za5 (.slice VC cl.length vcc)=some j->w.heap.size<=j/\j≠mb/\j≠I:=fun j hj=>by
        exact Mbx
       obtain⟨kF,Bp,oe,HO,HM,eb⟩:=yH6 mj hsz hra' bT Gb fB;have BV:I<w'.heap.size:=Mcy;have iR:w.heap.size<=w'.heap.size:=fB.size;clear iO hra' aa bT hm Gb hg fB hrun hent hgr' BL hsz mj;by_cases hq:0<q.num
       ·have jm:=dZ.o;rw[if_pos (zoa.2 hq)]at jm;have qg:=zHi jm;clear jm;go_wp2_with (at_builtin;go_loud(refine zat (v:=.slice VC cl.length vcc) (n:=cl.length) (m:=1) rfl _ _ rfl zdN zap zcb rfl (HO.o.keep (n:=w'.heap.size) Bw) rfl rfl rfl (sl_part (p:=(pn,q)) (zar _ _ _ McB)) McS Mcy McD ?_);intro v3 w3 h1 h2 h3)
        have R1:=(oe.o.below (n:=w'.heap.size) (W_two w' _ _)).grown h2 (fun e=>(kF.o mb e.symm).2.1 rfl) (fun e=>(kF.o I e.symm).2.2 rfl);have M1:=zk6 ((HM.o.alloc _).alloc _) h2 (fun j hj=>by have:=kF.o j hj;omega);have G1:=row_gr (zcr (zcr eb.o _) _) h2 (fun j hj=>(kF.o j hj).1);have S1:=h2.size;simp only[World.size_alloc]at S1;go_roundg (gk-1)
        case measure=>omega
        case rel=>exact⟨done++[(pn,zaA q)],left.eraseIdx i,iU.o,R1,by rw[qg.o];exact h1,M1,G1,by omega,by omega⟩
       ·have jm:=dZ.o;rw[if_neg (fun h=>hq (zoa.1 h))]at jm;have qg:=zHi jm;clear jm;go_wp2_with fail
        go_roundg (gk-1)
        case measure=>omega
        case rel=>exact⟨done++[(pn,zaA q)],left.eraseIdx i,iU.o,oe.o.below (n:=w'.heap.size) Bw,by rw[qg.o];simpa using HO.o.keep (n:=w'.heap.size) Bw,HM.o.alloc _,zcr eb.o _,by omega,by simp;omega⟩
