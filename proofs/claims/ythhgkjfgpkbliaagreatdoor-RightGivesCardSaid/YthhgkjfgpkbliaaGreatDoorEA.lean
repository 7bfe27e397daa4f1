import Derived.Test.YthhgkjfgpkbliaaGreatDoorE3
import Derived.Test.YthhgkjfgpkbliaaGreatDoorOA
import Derived.Test.YthhgkjfgpkbliaaGreatDoorE1
set_option linter.all false
set_option maxRecDepth 100000
set_option maxHeartbeats 4000000
namespace Go.Proofs.YthhgkjfgpkbliaaGreatDoor
open Go.RowKit Go.Shelf
attribute [local go_sem] World.cell?_alloc_mark zae zav zai zaw zam zan zao zap zaq zar zas
attribute [local go_sem] zah zac
theorem estate_bd{s:St}{law:Law}{n:ByteArray}(hw:WillOk (zbp s n))(hl:za2 16 law.num law.den=true):Bd (zbL s law n).1 1:=by
 have hi:=ziN (s:=s) (frm:=n) hw (zbp s n).length;rw[List.take_of_length_le (Nat.le_refl _)]at hi;unfold zbL;generalize zc8 s n (zbp s n) ([],false) 1=y at*;obtain⟨⟨o,f⟩,r⟩:=y;obtain⟨o1,o2,_,_⟩:=own_ok hi.isN hi.nn hi.le hl;have hb:=hi.bd;have hn:=hi.nn;simp only at*;split
 ·exact(ze1 (fl:=f) hb hn).up6 MbV
 ·split
  ·exact(zf3 (fl:=f) hn hb).up6 MbV
  ·exact(zf3 (fl:=(zcx (zbR s n) (r*Rat.divInt law.num law.den) (o,f)).2) (show 0<=r-r*Rat.divInt law.num law.den by grind) (ze1 (n:=zbR s n) (fl:=f) hb o1)).up6 MbV
theorem death_bd{g:Grave}{n:ByteArray}{hs:Parts}(hG:GoodG g)(hE:Bd hs 1):0<=zab g.holders n/\zaD (zab g.holders n)/\zab g.holders n<=1/\∀(f:Bool) (k:Nat),Bd (zdy (zab g.holders n) (hs.take k) (setP g.holders n 0,f)).1 1:=by
 have ho:=zbg hG.good n;have bF:=zcM hG.good n;have d8:sumQ g.holders<=1:=by
  rcases hG.one with h|h
  ·rw[h];decide
  ·rw[h];exact Rat.le_refl
 have hb:Bd (setP g.holders n 0) (1-zab g.holders n):=by
  refine⟨zg0 hG.good MbD,zd9 hG.small MbD,?_⟩;rw[zkC hG.good];grind
 refine⟨ho,zcl ho MbV (zcs n hG.small),by grind,fun f k=>?_⟩
 have h2:=zkD ho (l:=hs.take k) (f:=f) (fun p hp=>by
  have:=hE.good.pos p (List.mem_of_mem_take hp)
  grind) hb
 refine h2.up ?_;have h3:=zjE hs hE.good.pos k;have h4:=hE.le;have h5:=Rat.mul_nonneg ho (show 0<=1-sumQ (hs.take k) by grind);grind
theorem sum_mem{l:Parts}(h:∀p∈l,0<p.2){p:ByteArray×Rat}(hp:p∈l):p.2<=sumQ l:=by
 induction l with
 |nil=>cases hp
 |cons x l ih=>
  rw[sumQ];have h1:=zib (l:=l) fun q hq=>h q Mcx
  have h2:=h x MbF;rcases List.mem_cons.1 hp with rfl|hp
  ·grind
  ·have:=ih (fun q hq=>h q Mcx) hp;grind
theorem zmD{hs:Parts}(hE:Bd hs 1){p:ByteArray×Rat}(hp:p∈hs):0<p.2/\p.2<=1/\zaD p.2:=by
 have h0:=hE.good.pos p hp;have h1:p.2<=1:=by
  have:=hE.le;have h2:=sum_mem hE.good.pos hp;grind
 refine⟨h0,h1,zcl MbV h1 ?_⟩;have:=hE.small;unfold zaC at this;rw[List.any_eq_false]at this;simpa using this p hp
theorem zmE(own:Rat)(hs:Parts)(x:Parts×Bool){k:Nat}(h:k<hs.length):zdy own (hs.take (k+1)) x=zeg own hs[k] (zdy own (hs.take k) x):=by
 rw[List.take_succ_eq_append_getElem h,zeh];rfl
theorem tomb_set5{W:World}{T:Nat}{pl:ByteArray}{cl fr en:Int}{v dv:Value}(h:zbe W T pl cl fr en v dv)(v':Value):zbe (W.setCell ⟨T,5,none⟩ v') T pl cl fr en v v':=by
 unfold zbe at*;have:=Joins.block_setCell (i:=5) h v';simpa using this
theorem ziT{α:Type}{W:World}{base:Nat}{e t:TypeId}{size:Nat}{f:α->List Value}{v:Value}{xs:List α}{T:Nat}{cs:Array Value}{fr:Nat×Nat}(h:OwnS W base e size f v xs)(hT:W.heap[T]?=some (.cells cs t fr))(ag:t≠e):za1 v≠some T:=by
 exact MG
def zb1(n:ByteArray)(day:Int)(ps:List Nat)(gs:List Grave):List Nat:=(zaO n day 0 gs).map fun i=>ps.getD i 0
theorem zir(a b:Int)(w:World):(Instr.field 54 (.agg #[.int .i64 a,.int .i64 b]) 0).run Tryz.prog w=.ok (.int .i64 a) w:=by kernel_rfl
abbrev Tm:=Grave×Int×(Option Addr×Nat)×(Option Addr×Nat)
def tmC(e:Tm):List Value:=[.string e.1.place,.int .i64 e.1.cls,.int .i64 e.2.1,.int .i64 e.1.fin,.slice e.2.2.1.1 e.1.holders.length e.2.2.1.2,.slice e.2.2.2.1 e.1.died.length e.2.2.2.2]
theorem zlN(e:Tm):(tmC e).length=6:=rfl
theorem tm_one(e:Tm):∀u∈tmC e,u.oneCell'=true:=by simp[tmC,Value.oneCell']
theorem elTm:ElTy Tryz.prog 194 114 6 88:=zcZ (z:=.agg #[.string ⟨#[]⟩,.int .i64 0,.int .i64 0,.int .i64 0,.slice none 0 0,.slice none 0 0]) MbE MbE rfl MbD
structure TmOk (W:World) (n0:Nat) (e:Tm):Prop where
 hs:Ro W 59 zaa e.2.2.1.1 e.1.holders
 hc:e.1.holders.length<=e.2.2.1.2
 ds:Ro W 9 sC e.2.2.2.1 e.1.died
 dc:e.1.died.length<=e.2.2.2.2
 ge:∀a,e.2.2.2.1=some a->n0<=a.block
theorem TmOk.same{W W':World}{n0:Nat}{e:Tm}(h:TmOk W n0 e)(hk:∀(k:Nat) (cur:Array Value) (t:TypeId) (f:Nat×Nat),W.heap[k]?=some (.cells cur t f)->t=59\/t=9->W'.heap[k]?=W.heap[k]?):TmOk W' n0 e:=
 ⟨h.hs.same fun b cur f hb _=>hk b cur _ f hb (.inl rfl),h.hc,h.ds.same fun b cur f hb _=>hk b cur _ f hb (.inr rfl),h.dc,h.ge⟩
theorem held_tomb{n:ByteArray}{day:Int}{ps:List Nat}{gs:List Grave}{base:Nat}{W:World}{B:List Nat}{tv:Value}(hT:TombsAt base W B tv ps gs){j:Nat}(hj:j<(zb1 n day ps gs).length):
 ∃i g,(zaO n day 0 gs)[j]?=some i/\ps[i]?=some (zb1 n day ps gs)[j]/\gs[i]?=some g/\(gs.filter (zcj n day))[j]?=some g/\TombAt W base B (zb1 n day ps gs)[j] g:=by
 have qy:j<(zaO n day 0 gs).length:=by unfold zb1 at hj;simpa using hj
 obtain⟨_,g,h2,h3⟩:=zlK n day gs 0 j _ (List.getElem?_eq_getElem qy);rw[Nat.sub_zero]at h2;have hi:(zaO n day 0 gs)[j]<ps.length:=by have:=(List.getElem?_eq_some_iff.1 h2).1;have:=hT.len;omega
 have hp:ps[(zaO n day 0 gs)[j]]?=some (zb1 n day ps gs)[j]:=by
  have e:(zb1 n day ps gs)[j]=ps.getD (zaO n day 0 gs)[j] 0:=by unfold zb1;simp
  rw[e,List.getElem?_eq_getElem hi,List.getD_eq_getElem?_getD,List.getElem?_eq_getElem hi];rfl
 exact⟨_,g,List.getElem?_eq_getElem qy,hp,h2,h3,hT.all _ _ _ hp h2⟩
theorem sl_tm{w:World}{b:Nat}{e:Tm}{t:TypeId}{fr:Nat×Nat}(h:w.heap[b]?=some (.cells (tmC e).toArray t fr)):Sl w 6 tmC (some ⟨b,0,none⟩) [e]:=fun _=>⟨b,0,rfl,zad h,fun k y hy j u hu=>by
 have hk:k=0:=MbK;subst hk;simp only[List.getElem?_cons_zero,Option.some.injEq]at hy;subst hy;simp only[World.cell?,h,Nat.zero_mul,Nat.zero_add,Nat.add_zero]
 simpa using hu⟩
theorem ppl_rows{base:Nat}{W:World}{B:List Nat}{d c p wl r:Nat}{mv:Value}{s:St}(h:PplAt base W B d c p wl r mv s):∀g∈B,g<W.heap.size:=fun g hg=>by
 obtain⟨mc,mp,_,_,k3,k4,k5,_,kn1,kn2⟩:=h.rows;have key:∀ {m:List (ByteArray×Value)} {f:ByteArray->List ByteArray},(m.map (·.1)).Nodup->(∀n,RowIs W base m n (f n))->g∈zaJ m->g<W.heap.size:=fun {m f} hk hr h=>by
  obtain⟨e,he,bI⟩:=zc7.1 h;have h1:=zg1 hk (show(e.1,e.2)∈m from he);rcases hr e.1 with⟨h2,_⟩|⟨v,h2,h3⟩
  ·rw[h2]at h1;cases h1
  ·rw[h2]at h1;simp only[Option.some.injEq]at h1;rw[h1]at h3;exact(h3.ge g bI).2
 rw[k5,zcg,List.mem_append]at hg;rcases hg with hg|hg
 ·exact key kn1 k3 hg
 ·exact key kn2 k4 hg
theorem zkT{base i T:Nat}{W W':World}{B ps:List Nat}{tv:Value}{gs:List Grave}{g':Grave}{cs:Array Value}{fr:Nat×Nat}(hT:TombsAt base W B tv ps gs)
 (hi:ps[i]?=some T)(hx:W.heap[T]?=some (.cells cs 114 fr))(hg:W.grownBy W' (some T))(hN:TombAt W' base B T g'):TombsAt base W' B tv ps (gs.set i g'):=by
 refine⟨hT.own.kept hg hx MbD,by simp[hT.len],hT.nd,fun j T' g e1 e2=>?_⟩;by_cases hj:i=j
 ·subst hj;rw[hi]at e1;have fT:i<gs.length:=Mcm;exact MaT
 ·exact M5
theorem wldC_tomb{W W':World}{b d c p wl r T:Nat}{mv tv:Value}{la co:Int}{cs:Array Value}{fr:Nat×Nat}(h:WldC W b d c p wl r mv tv la co)(hx:W.heap[T]?=some (.cells cs 114 fr))(hg:W.grownBy W' (some T)):WldC W' b d c p wl r mv tv la co:=
 (hg.block b (zad h) (fun e=>by
   simp only[Option.some.injEq]at e;subst e;unfold WldC at h;rw[h]at hx
   simp at hx)).trans h
theorem zmF{w W W':World}{g n:Nat}(h:w.grownBy W (some g))(hb:Below n W W')(hn:w.heap.size<=n):w.grownBy W' (some g):=
 ⟨hb.os.trans h.os,hb.tape.trans h.tape,hb.output.trans h.output,Nat.le_trans h.size hb.size,fun k hk ag=>(hb.block k MbC).trans (h.block k hk ag)⟩
theorem zis{w W W':World}{g n:Nat}(hb:Below n w W)(hn:w.heap.size<=n)(h:W.grownBy W' (some g)):w.grownBy W' (some g):=
 ⟨h.os.trans hb.os,h.tape.trans hb.tape,h.output.trans hb.output,Nat.le_trans hb.size h.size,fun k hk ag=>(h.block k (Nat.lt_of_lt_of_le hk hb.size) ag).trans (hb.block k MbC)⟩
