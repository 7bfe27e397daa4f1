/- What a death needs: bounds, and the rights in memory. -/
import Derived.Test.YtmaidggpbihlgaaGreatDoorE6
import Derived.Test.YtmaidggpbihlgaaGreatDoorO9
import Derived.Test.YtmaidggpbihlgaaGreatDoorDK
import Derived.Test.YtmaidggpbihlgaaGreatDoorJN
import Derived.Test.YtmaidggpbihlgaaGreatDoorE1
set_option linter.unusedSimpArgs false
set_option linter.unusedVariables false
namespace Go.Proofs.YtmaidggpbihlgaaGreatDoor
open Go.RowKit Go.Shelf
attribute [local go_sem] World.cell?_alloc_mark ext_size ext_cell ext_frozen lt_add_r lt_add_r2 lt_add_r3 lt_add_r4 lt_add_r5 lt_add_r6 lt_add_r7 lt_add_r8
attribute [local go_sem] ext_setCell alloc_setCell_lt
theorem estate_bd {s:St} {law:Law} {n:ByteArray} (hw:WillOk (willOf s n)) (hl:isShareP 16 law.num law.den=true):Bd (estateF s law n).1 1:=by
 have hi:=will_inv (s:=s) (frm:=n) hw (willOf s n).length
 rw[List.take_of_length_le (Nat.le_refl _)]at hi
 unfold estateF
 generalize willF s n (willOf s n) ([],false) 1=y at*
 obtain⟨⟨o,f⟩,r⟩:=y
 obtain⟨o1,o2,_,_⟩:=own_ok hi.isN hi.nn hi.le hl
 have hb:=hi.bd
 have hn:=hi.nn
 simp only at*
 split
 ·exact(gives_bd (fl:=f) hb hn).up6 (by grind)
 ·split
  ·exact(divide_bd (fl:=f) hn hb).up6 (by grind)
  ·exact(divide_bd (fl:=(givesF (heirSpouse s n) (r*Rat.divInt law.num law.den) (o,f)).2) (show 0<=r-r*Rat.divInt law.num law.den by grind) (gives_bd (n:=heirSpouse s n) (fl:=f) hb o1)).up6 (by grind)
theorem death_bd {g:Grave} {n:ByteArray} {hs:Parts} (hG:GoodG g) (hE:Bd hs 1):0<=shareP g.holders n/\small5 (shareP g.holders n)/\shareP g.holders n<=1/\ ∀(f:Bool) (k:Nat),Bd (gainF (shareP g.holders n) (hs.take k) (setP g.holders n 0,f)).1 1:=by
 have ho:=share_nonneg hG.good n
 have hle:=share_le_sum hG.good n
 have hsum:sumQ g.holders<=1:=by
  rcases hG.one with h|h
  ·rw[h];decide
  ·rw[h];exact Rat.le_refl
 have hb:Bd (setP g.holders n 0) (1-shareP g.holders n):=by
  refine⟨set_good hG.good (by decide),small_set hG.small (by decide),?_⟩
  rw[sum_set hG.good]
  grind
 refine⟨ho,small_q ho (by grind) (share_small n hG.small),by grind,fun f k=> ?_⟩
 have h2:=gain_bd ho (l:=hs.take k) (f:=f) (fun p hp=>by
  have:=hE.good.pos p (List.mem_of_mem_take hp)
  grind) hb
 refine h2.up ?_
 have h3:=sum_takeQ hs hE.good.pos k
 have h4:=hE.le
 have h5:=Rat.mul_nonneg ho (show 0<=1-sumQ (hs.take k) by grind)
 grind
theorem sum_mem {l:Parts} (h: ∀p∈l,0<p.2) {p:ByteArray×Rat} (hp:p∈l):p.2<=sumQ l:=by
 induction l with
 |nil=>cases hp
 |cons x l ih=>
  rw[sumQ]
  have h1:=sum_le_mem (l:=l) fun q hq=>h q (by simp[hq])
  have h2:=h x (by simp)
  rcases List.mem_cons.1 hp with rfl|hp
  ·grind
  ·have:=ih (fun q hq=>h q (by simp[hq])) hp
   grind
theorem heir_small {hs:Parts} (hE:Bd hs 1) {p:ByteArray×Rat} (hp:p∈hs):0<p.2/\p.2<=1/\small5 p.2:=by
 have h0:=hE.good.pos p hp
 have h1:p.2<=1:=by
  have:=hE.le
  have h2:=sum_mem hE.good.pos hp
  grind
 refine⟨h0,h1,small_q (by grind) h1 ?_⟩
 have:=hE.small
 unfold largeP at this
 rw[List.any_eq_false]at this
 simpa using this p hp
theorem gainH_snoc (own:Rat) (hs:Parts) (x:Parts×Bool) {k:Nat} (h:k<hs.length):gainF own (hs.take (k+1)) x=gain1 own hs[k] (gainF own (hs.take k) x):=by
 rw[List.take_succ_eq_append_getElem h,gainF_append]
 rfl
theorem tomb_set5 {W:World} {T:Nat} {pl:ByteArray} {cl fr en:Int} {v dv:Value} (h:TombC W T pl cl fr en v dv) (v':Value):TombC (W.setCell ⟨T,5,none⟩ v') T pl cl fr en v v':=by
 unfold TombC at*
 have:=Joins.block_setCell (i:=5) h v'
 simpa using this
theorem own_neS {α:Type} {W:World} {base:Nat} {e t:TypeId} {size:Nat} {f:α->List Value} {v:Value} {xs:List α} {T:Nat} {cs:Array Value} {fr:Nat×Nat} (h:OwnS W base e size f v xs) (hT:W.heap[T]?=some (.cells cs t fr)) (hne:t≠e):blkOf v≠some T:=by
 rcases h with⟨rfl,_⟩|⟨g,o,c,cur,rfl,_,hg,_⟩
 ·simp[blkOf]
 ·intro h
  simp only[blkOf,Option.some.injEq]at h
  subst h
  rw[hg]at hT
  simp only[Option.some.injEq,Obj.cells.injEq]at hT
  exact hne hT.2.1.symm
def heldPs (n:ByteArray) (day:Int) (ps:List Nat) (gs:List Grave):List Nat:=(heldFrom n day 0 gs).map fun i=>ps.getD i 0
theorem field_frac (a b:Int) (w:World):(Instr.field 45 (.agg #[.int .i64 a, .int .i64 b]) 0).run Tryz.prog w= .ok (.int .i64 a) w:=by kernel_rfl
abbrev Tm:=Grave×Int×(Option Addr×Nat)×(Option Addr×Nat)
def tmC (e:Tm):List Value:=[.string e.1.place, .int .i64 e.1.cls, .int .i64 e.2.1, .int .i64 e.1.fin, .slice e.2.2.1.1 e.1.holders.length e.2.2.1.2, .slice e.2.2.2.1 e.1.died.length e.2.2.2.2]
theorem tm_len (e:Tm):(tmC e).length=6:=rfl
theorem tm_one (e:Tm): ∀u∈tmC e,u.oneCell'=true:=by simp[tmC,Value.oneCell']
theorem elTm:ElTy Tryz.prog 174 86 6 88:=elTy_of (z:= .agg #[.string ⟨#[]⟩, .int .i64 0, .int .i64 0, .int .i64 0, .slice none 0 0, .slice none 0 0]) (by kernel_rfl) (by kernel_rfl) rfl (by decide)
structure TmOk (W:World) (n0:Nat) (e:Tm):Prop where
 hs:Ro W 49 partCells e.2.2.1.1 e.1.holders
 hc:e.1.holders.length<=e.2.2.1.2
 ds:Ro W 9 sC e.2.2.2.1 e.1.died
 dc:e.1.died.length<=e.2.2.2.2
 ge: ∀a,e.2.2.2.1=some a->n0<=a.block
theorem TmOk.same {W W':World} {n0:Nat} {e:Tm} (h:TmOk W n0 e) (hk: ∀(k:Nat) (cur:Array Value) (t:TypeId) (f:Nat×Nat),W.heap[k]?=some (.cells cur t f)->t=49\/t=9->W'.heap[k]?=W.heap[k]?):TmOk W' n0 e:=
 ⟨h.hs.same fun b cur f hb _=>hk b cur _ f hb (.inl rfl),h.hc,h.ds.same fun b cur f hb _=>hk b cur _ f hb (.inr rfl),h.dc,h.ge⟩
theorem held_tomb {n:ByteArray} {day:Int} {ps:List Nat} {gs:List Grave} {base:Nat} {W:World} {B:List Nat} {tv:Value} (hT:TombsAt base W B tv ps gs) {j:Nat} (hj:j<(heldPs n day ps gs).length):
 ∃i g,(heldFrom n day 0 gs)[j]?=some i/\ps[i]?=some (heldPs n day ps gs)[j]/\gs[i]?=some g/\(gs.filter (heldQ n day))[j]?=some g/\TombAt W base B (heldPs n day ps gs)[j] g:=by
 have hj':j<(heldFrom n day 0 gs).length:=by unfold heldPs at hj;simpa using hj
 obtain⟨_,g,h2,h3⟩:=held_get n day gs 0 j _ (List.getElem?_eq_getElem hj')
 rw[Nat.sub_zero]at h2
 have hi:(heldFrom n day 0 gs)[j]<ps.length:=by have:=(List.getElem?_eq_some_iff.1 h2).1;have:=hT.len;omega
 have hp:ps[(heldFrom n day 0 gs)[j]]?=some (heldPs n day ps gs)[j]:=by
  have e:(heldPs n day ps gs)[j]=ps.getD (heldFrom n day 0 gs)[j] 0:=by unfold heldPs;simp
  rw[e,List.getElem?_eq_getElem hi,List.getD_eq_getElem?_getD,List.getElem?_eq_getElem hi]
  rfl
 exact⟨_,g,List.getElem?_eq_getElem hj',hp,h2,h3,hT.all _ _ _ hp h2⟩
theorem sl_tm {w:World} {b:Nat} {e:Tm} {t:TypeId} {fr:Nat×Nat} (h:w.heap[b]?=some (.cells (tmC e).toArray t fr)):Sl w 6 tmC (some ⟨b,0,none⟩) [e]:=fun _=>⟨b,0,rfl,blk_lt h,fun k y hy j u hu=>by
 have hk:k=0:=by have:=(List.getElem?_eq_some_iff.1 hy).1;simp at this;omega
 subst hk
 simp only[List.getElem?_cons_zero,Option.some.injEq]at hy
 subst hy
 simp only[World.cell?,h,Nat.zero_mul,Nat.zero_add,Nat.add_zero]
 simpa using hu⟩
theorem ppl_rows {base:Nat} {W:World} {B:List Nat} {d c p wl r:Nat} {mv:Value} {s:St} (h:PplAt base W B d c p wl r mv s): ∀g∈B,g<W.heap.size:=fun g hg=>by
 obtain⟨mc,mp,_,_,k3,k4,k5,_,kn1,kn2⟩:=h.rows
 have key: ∀ {m:List (ByteArray×Value)} {f:ByteArray->List ByteArray},(m.map (·.1)).Nodup->(∀n,RowIs W base m n (f n))->g∈rowBlocks m->g<W.heap.size:=fun {m f} hk hr h=>by
  obtain⟨e,he,hge⟩:=mem_rows.1 h
  have h1:=mem_mget hk (show(e.1,e.2)∈m from he)
  rcases hr e.1 with⟨h2,_⟩|⟨v,h2,h3⟩
  ·rw[h2]at h1;cases h1
  ·rw[h2]at h1
   simp only[Option.some.injEq]at h1
   rw[h1]at h3
   exact(h3.ge g hge).2
 rw[k5,rows_append,List.mem_append]at hg
 rcases hg with hg|hg
 ·exact key kn1 k3 hg
 ·exact key kn2 k4 hg
theorem tombs_store {base i T:Nat} {W W':World} {B ps:List Nat} {tv:Value} {gs:List Grave} {g':Grave} {cs:Array Value} {fr:Nat×Nat} (hT:TombsAt base W B tv ps gs)
 (hi:ps[i]?=some T) (hx:W.heap[T]?=some (.cells cs 86 fr)) (hg:W.grownBy W' (some T)) (hN:TombAt W' base B T g'):TombsAt base W' B tv ps (gs.set i g'):=by
 refine⟨hT.own.kept hg hx (by decide),by simp[hT.len],hT.nd,fun j T' g e1 e2=> ?_⟩
 by_cases hj:i=j
 ·subst hj
  rw[hi]at e1
  have hil:i<gs.length:=by have:=(List.getElem?_eq_some_iff.1 hi).1;have:=hT.len;omega
  rw[List.getElem?_set_self hil]at e2
  simp only[Option.some.injEq]at e1 e2
  subst e1 e2
  exact hN
 ·rw[List.getElem?_set_ne hj]at e2
  have hne:T'≠T:=fun e=>by
   subst e
   exact hj ((List.getElem?_inj (List.getElem?_eq_some_iff.1 hi).1 hT.nd).1 (hi.trans e1.symm))
  exact(hT.all j T' g e1 e2).kept hg hx hne (by decide) (by decide)
theorem wldC_tomb {W W':World} {b d c p wl r T:Nat} {mv tv:Value} {la co:Int} {cs:Array Value} {fr:Nat×Nat} (h:WldC W b d c p wl r mv tv la co) (hx:W.heap[T]?=some (.cells cs 86 fr)) (hg:W.grownBy W' (some T)):WldC W' b d c p wl r mv tv la co:=
 (hg.block b (blk_lt h) (fun e=>by
   simp only[Option.some.injEq]at e
   subst e
   unfold WldC at h
   rw[h]at hx
   simp at hx)).trans h
theorem grown_then {w W W':World} {g n:Nat} (h:w.grownBy W (some g)) (hb:Below n W W') (hn:w.heap.size<=n):w.grownBy W' (some g):=
 ⟨hb.os.trans h.os,hb.tape.trans h.tape,hb.output.trans h.output,Nat.le_trans h.size hb.size,fun k hk hne=>(hb.block k (by omega)).trans (h.block k hk hne)⟩
theorem below_then {w W W':World} {g n:Nat} (hb:Below n w W) (hn:w.heap.size<=n) (h:W.grownBy W' (some g)):w.grownBy W' (some g):=
 ⟨h.os.trans hb.os,h.tape.trans hb.tape,h.output.trans hb.output,Nat.le_trans hb.size h.size,fun k hk hne=>(h.block k (Nat.lt_of_lt_of_le hk hb.size) hne).trans (hb.block k (by omega))⟩
end Go.Proofs.YtmaidggpbihlgaaGreatDoor
