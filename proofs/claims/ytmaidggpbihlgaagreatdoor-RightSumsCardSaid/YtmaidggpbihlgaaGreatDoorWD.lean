/- Walk of chapter 5's law: rights in memory of their own. -/
import Derived.Test.YtmaidggpbihlgaaGreatDoorJH
import Derived.Test.YtmaidggpbihlgaaGreatDoorNC
set_option linter.unusedSimpArgs false
set_option linter.unusedVariables false
namespace Go.Proofs.YtmaidggpbihlgaaGreatDoor
open Go.RowKit Go.Shelf
attribute [local go_sem] World.cell?_alloc_mark ext_size ext_cell ext_frozen lt_add_r lt_add_r2 lt_add_r3 lt_add_r4 lt_add_r5 lt_add_r6 lt_add_r7 lt_add_r8
attribute [local go_sem] ext_setCell alloc_setCell_lt
structure DV where
 d:Deed
 B:Option Addr
 c:Nat
def DV.cells (x:DV):List Value:=[.int .i64 x.d.kind, .int .i64 x.d.day, .string x.d.place, .string x.d.frm, .slice x.B x.d.to.length x.c, .int .i64 x.d.cls, .int .i64 x.d.years]
theorem dv_len (x:DV):x.cells.length=7:=rfl
theorem dv_one (x:DV): ∀u∈x.cells,u.oneCell'=true:=by simp[DV.cells,Value.oneCell']
theorem rp_len (x:RPart):x.cells.length=3:=rfl
theorem rp_one (x:RPart): ∀u∈x.cells,u.oneCell'=true:=by simp[RPart.cells,Value.oneCell']
theorem lw_one (x:Law): ∀u∈x.cells,u.oneCell'=true:=by simp[Law.cells,Value.oneCell']
theorem elRPart:ElTy Tryz.prog 41 49 3 32:=elTy_of (z:= .agg #[.string ⟨#[]⟩, .int .i64 0, .int .i64 0]) (by kernel_rfl) (by kernel_rfl) rfl (by decide)
theorem elLaw:ElTy Tryz.prog 22 100 4 32:=elTy_of (z:= .agg #[.int .i64 0, .bool false, .int .i64 0, .int .i64 0]) (by kernel_rfl) (by kernel_rfl) rfl (by decide)
theorem elDeed:ElTy Tryz.prog 23 56 7 88:=elTy_of (z:= .agg #[.int .i64 0, .int .i64 0, .string ⟨#[]⟩, .string ⟨#[]⟩, .slice none 0 0, .int .i64 0, .int .i64 0]) (by kernel_rfl) (by kernel_rfl) rfl (by decide)
theorem made_part (W:World):OwnS (W.alloc (.cells #[] 49)) W.heap.size 49 3 RPart.cells (.slice (some ⟨W.heap.size,0,none⟩) 0 0) []:=
 OwnS.of_own rp_len (World.ownsRow_made W #[] 0 (Nat.le_refl _) (Nat.zero_le _) (by simp))
theorem made_law (W:World):OwnS (W.alloc (.cells #[] 100)) W.heap.size 100 4 Law.cells (.slice (some ⟨W.heap.size,0,none⟩) 0 0) []:=
 OwnS.of_own (fun _=>rfl) (World.ownsRow_made W #[] 0 (Nat.le_refl _) (Nat.zero_le _) (by simp))
theorem J_set7 {w:World} {g:Nat} {z0 z1 z2 z3 z4 z5 z6 a b c d e f h':Value} {t:TypeId} {fr:Nat×Nat} (h:w.heap[g]?=some (.cells #[z0,z1,z2,z3,z4,z5,z6] t fr)):
 (((((((w.setCell ⟨g,0,none⟩ a).setCell ⟨g,1,none⟩ b).setCell ⟨g,2,none⟩ c).setCell ⟨g,3,none⟩ d).setCell ⟨g,4,none⟩ e).setCell ⟨g,5,none⟩ f).setCell ⟨g,6,none⟩ h').heap[g]?=some (.cells #[a,b,c,d,e,f,h'] t fr):=by
 have:=Joins.block_setCell (i:=6) (Joins.block_setCell (i:=5) (Joins.block_setCell (i:=4) (Joins.block_setCell (i:=3) (Joins.block_setCell (i:=2) (Joins.block_setCell (i:=1) (Joins.block_setCell (i:=0) h a) b) c) d) e) f) h'
 simpa using this
theorem results_deed {fn:Func} {p:Tmp} (h:fn.results= #[.cell p 56]) (tmps:Array Value) (w:World) (B:Nat) (x0 x1 x2 x3 x4 x5 x6:Value) (hp:tmps.getD p undef= .pointer (some ⟨B,0,none⟩))
 (hx:w.heap[B]?=some (.cells #[x0,x1,x2,x3,x4,x5,x6] 56)):(results fn tmps).run Tryz.prog w= .ok (.agg #[x0,x1,x2,x3,x4,x5,x6]) w:=by
 have h0:w.cell? ⟨B,0,none⟩=some x0:=by simp only[World.cell?,hx];rfl
 have h1:w.cell? ⟨B,1,none⟩=some x1:=by simp only[World.cell?,hx];rfl
 have h2:w.cell? ⟨B,2,none⟩=some x2:=by simp only[World.cell?,hx];rfl
 have h3:w.cell? ⟨B,3,none⟩=some x3:=by simp only[World.cell?,hx];rfl
 have h4:w.cell? ⟨B,4,none⟩=some x4:=by simp only[World.cell?,hx];rfl
 have h5:w.cell? ⟨B,5,none⟩=some x5:=by simp only[World.cell?,hx];rfl
 have h6:w.cell? ⟨B,6,none⟩=some x6:=by simp only[World.cell?,hx];rfl
 clear hx
 rw[results_c1 h,hp]
 go_simp
def DeedPost (w:World) (d:Deed) (e:Ending) (w':World):Prop:=
 ∃B c,e= .returned (d.v B c)/\d.to.length<=c/\Ro w' 49 RPart.cells B d.to/\Below w.heap.size w w'
set_option maxRecDepth 100000 in
set_option maxHeartbeats 2000000 in
theorem deed_any (d:Deed) (B:Option Addr) (c:Nat) (w:World) (hl:d.to.length<=100000) (hS:Sl w 3 RPart.cells B d.to):Calls Tryz.prog 26 #[d.v B c] w (DeedPost w d):=by
 obtain⟨kd,dy,pl,fr,ts,cl,yr⟩:=d
 have HS:=Lib.hid hS
 unfold DeedPost Deed.v
 simp only at hl hS⊢
 clear hS
 go_enter Tryz.func26,Tryz.ntmps26
 go_upto_region 1 with fail
 obtain⟨W1,hW1⟩: ∃W1,W1=(w.alloc (.cells #[.int .i64 kd, .int .i64 dy, .string pl, .string fr, .slice B ts.length c, .int .i64 cl, .int .i64 yr] 56)).alloc (.cells #[.int .i64 0, .int .i64 0, .string ⟨#[]⟩, .string ⟨#[]⟩, .slice none 0 0, .int .i64 0, .int .i64 0] 56):=⟨_,rfl⟩
 have b0:W1.heap[w.heap.size]?=some (.cells #[.int .i64 kd, .int .i64 dy, .string pl, .string fr, .slice B ts.length c, .int .i64 cl, .int .i64 yr] 56):=by rw[hW1];exact J_alloc (J_new _ _ _ rfl)
 have r0:W1.heap[w.heap.size+1]?=some (.cells #[.int .i64 0, .int .i64 0, .string ⟨#[]⟩, .string ⟨#[]⟩, .slice none 0 0, .int .i64 0, .int .i64 0] 56):=by rw[hW1];exact J_new _ _ _ (by simp)
 have hB1:Below w.heap.size w W1:=by rw[hW1];repeat(first|exact B_refl|exact Below.refl _ _|assumption|with_reducible refine B_alloc ?_ _|with_reducible refine B_ext ?_ _|with_reducible refine B_drew ?_|with_reducible refine B_drewN ?_ _|with_reducible refine B_set ?_ (by simp;omega) _)
 rw[<-hW1]
 have HB1:=Lib.hid hB1
 clear hW1 hB1
 have l0:=blk_lt b0
 have l1:=blk_lt r0
 have c4:W1.cell? ⟨w.heap.size,4,none⟩=some (.slice B ts.length c):=by simp only[World.cell?,b0];rfl
 have hlw:w.heap.size+1+1<=W1.heap.size:=by omega
 have HLW:=Lib.hid hlw
 clear hlw
 go_upto_region 2 with(at_builtin
                       go_loud(refine wpList_append_S (v:= .slice (some ⟨W1.heap.size,0,none⟩) 0 0) (n:=0) (m:=ts.length) rfl _ _ rfl elRPart rp_len rp_one rfl (xs:=[]) (ys:=ts) (made_part W1) rfl rfl rfl (HS.out.keep (HB1.out.trans (Below.mono (B:=W1.heap.size) Bw HB1.out.size))) (by simp only[maxLen];omega) (by omega) (by simp) ?_)
                       intro v2 w2 h1 h2 h3
                       rw[List.nil_append]at h1
                       have e1:w2.heap[w.heap.size]?=_:=(h2.block w.heap.size (by simp;omega) (by simp[blkOf];omega)).trans (J_alloc b0)
                       have e2:w2.heap[w.heap.size+1]?=_:=(h2.block (w.heap.size+1) (by simp;omega) (by simp[blkOf];omega)).trans (J_alloc r0)
                       have hb2:Below W1.heap.size W1 w2:=Below.grown (B_alloc (Below.refl _ _) _) h2 (by simp) (by intro j hj;simp[blkOf]at hj;omega)
                       obtain⟨A2,c2,rfl,hc2,s2⟩:=h1.ro
                       have f4:w2.frozen? ⟨w.heap.size,4,none⟩=false:=by simp[World.frozen?,e1]
                       have k4:w2.cell? ⟨w.heap.size,4,none⟩=some (.slice B ts.length c):=by simp only[World.cell?,e1];rfl
                       clear h1 h2 h3)
 have HRO:=Lib.hid (hc2)
 obtain⟨W3,hW3⟩: ∃W3,W3=w2.setCell ⟨w.heap.size,4,none⟩ (.slice A2 ts.length c2):=⟨_,rfl⟩
 have b3:W3.heap[w.heap.size]?=some (.cells #[.int .i64 kd, .int .i64 dy, .string pl, .string fr, .slice A2 ts.length c2, .int .i64 cl, .int .i64 yr] 56):=by
  rw[hW3]
  have:=Joins.block_setCell (i:=4) e1 (.slice A2 ts.length c2)
  simpa using this
 have r3:W3.heap[w.heap.size+1]?=some (.cells #[.int .i64 0, .int .i64 0, .string ⟨#[]⟩, .string ⟨#[]⟩, .slice none 0 0, .int .i64 0, .int .i64 0] 56):=by rw[hW3];exact J_ne (by omega) e2
 have s3:Ro W3 49 RPart.cells A2 ts:=by rw[hW3];exact s2.kept (grown_set _ _ _ _) e1 (by decide)
 have hB3:Below w.heap.size w W3:=by rw[hW3];exact B_set (HB1.out.trans (hb2.mono HB1.out.size)) (by simp) _
 rw[<-hW3]
 have S3:=Lib.hid s3
 have HB3:=Lib.hid hB3
 clear hW3 hB3 s3 s2 e1 e2 f4 k4 hb2 b0 r0 c4 l0 l1
 have g0:W3.cell? ⟨w.heap.size,0,none⟩=some (.int .i64 kd):=by simp only[World.cell?,b3];rfl
 have g1:W3.cell? ⟨w.heap.size,1,none⟩=some (.int .i64 dy):=by simp only[World.cell?,b3];rfl
 have g2:W3.cell? ⟨w.heap.size,2,none⟩=some (.string pl):=by simp only[World.cell?,b3];rfl
 have g3:W3.cell? ⟨w.heap.size,3,none⟩=some (.string fr):=by simp only[World.cell?,b3];rfl
 have g4:W3.cell? ⟨w.heap.size,4,none⟩=some (.slice A2 ts.length c2):=by simp only[World.cell?,b3];rfl
 have g5:W3.cell? ⟨w.heap.size,5,none⟩=some (.int .i64 cl):=by simp only[World.cell?,b3];rfl
 have g6:W3.cell? ⟨w.heap.size,6,none⟩=some (.int .i64 yr):=by simp only[World.cell?,b3];rfl
 have t0:W3.cell? ⟨w.heap.size+1,0,none⟩=some (.int .i64 0):=by simp only[World.cell?,r3];rfl
 have t1:W3.cell? ⟨w.heap.size+1,1,none⟩=some (.int .i64 0):=by simp only[World.cell?,r3];rfl
 have t2:W3.cell? ⟨w.heap.size+1,2,none⟩=some (.string ⟨#[]⟩):=by simp only[World.cell?,r3];rfl
 have t3:W3.cell? ⟨w.heap.size+1,3,none⟩=some (.string ⟨#[]⟩):=by simp only[World.cell?,r3];rfl
 have t4:W3.cell? ⟨w.heap.size+1,4,none⟩=some (.slice none 0 0):=by simp only[World.cell?,r3];rfl
 have t5:W3.cell? ⟨w.heap.size+1,5,none⟩=some (.int .i64 0):=by simp only[World.cell?,r3];rfl
 have t6:W3.cell? ⟨w.heap.size+1,6,none⟩=some (.int .i64 0):=by simp only[World.cell?,r3];rfl
 have f0: ∀j,W3.frozen? ⟨w.heap.size+1,j,none⟩=false:=fun j=>by simp[World.frozen?,r3]
 go_wp2_with fail
 refine bodyPost_ret (v:= .agg #[.int .i64 kd, .int .i64 dy, .string pl, .string fr, .slice A2 ts.length c2, .int .i64 cl, .int .i64 yr]) ?_ rfl ?_
 ·exact results_deed rfl _ _ (w.heap.size+1) _ _ _ _ _ _ _ rfl (J_set7 r3)
 ·exact⟨A2,c2,rfl,hc2,(((((((S3.out.kept (grown_set _ _ _ _) r3 (by decide)).kept (grown_set _ _ _ _) (Joins.block_setCell (i:=0) r3 _) (by decide)).kept (grown_set _ _ _ _) (Joins.block_setCell (i:=1) (Joins.block_setCell (i:=0) r3 _) _) (by decide)).kept (grown_set _ _ _ _) (Joins.block_setCell (i:=2) (Joins.block_setCell (i:=1) (Joins.block_setCell (i:=0) r3 _) _) _) (by decide)).kept (grown_set _ _ _ _) (Joins.block_setCell (i:=3) (Joins.block_setCell (i:=2) (Joins.block_setCell (i:=1) (Joins.block_setCell (i:=0) r3 _) _) _) _) (by decide)).kept (grown_set _ _ _ _) (Joins.block_setCell (i:=4) (Joins.block_setCell (i:=3) (Joins.block_setCell (i:=2) (Joins.block_setCell (i:=1) (Joins.block_setCell (i:=0) r3 _) _) _) _) _) (by decide)).kept (grown_set _ _ _ _) (Joins.block_setCell (i:=5) (Joins.block_setCell (i:=4) (Joins.block_setCell (i:=3) (Joins.block_setCell (i:=2) (Joins.block_setCell (i:=1) (Joins.block_setCell (i:=0) r3 _) _) _) _) _) _) (by decide)),B_set (B_set (B_set (B_set (B_set (B_set (B_set HB3.out (by simp) _) (by simp) _) (by simp) _) (by simp) _) (by simp) _) (by simp) _) (by simp) _⟩
theorem own_neC {α:Type} {W:World} {base:Nat} {e t:TypeId} {size:Nat} {f:α->List Value} {v:Value} {xs:List α} {T:Nat} {cs:Array Value} {fr:Nat×Nat} (h:OwnS W base e size f v xs) (hT:W.heap[T]?=some (.cells cs t fr)) (hne:t≠e):blkOf v≠some T:=by
 rcases h with⟨rfl,_⟩|⟨g,o,c,cur,rfl,_,hg,_⟩
 ·simp[blkOf]
 ·intro h
  simp only[blkOf,Option.some.injEq]at h
  subst h
  rw[hg]at hT
  simp only[Option.some.injEq,Obj.cells.injEq]at hT
  exact hne hT.2.1.symm
theorem ro_grown {α β:Type} {W W':World} {base size:Nat} {e e':TypeId} {f:α->List Value} {g:β->List Value} {v:Value} {A:Option Addr} {xs:List α} {ys:List β} (h:Ro W e' f A xs) (hown:OwnS W base e size g v ys) (hg:W.grownBy W' (blkOf v)) (hne:e'≠e):Ro W' e' f A xs:=
 h.same fun b cur fr hb _=>hg.block b (blk_lt hb) (Ne.symm (own_neC hown hb hne))
theorem sl_cellsC {α:Type} {w:World} {b size:Nat} {f:α->List Value} {t:TypeId} {fr:Nat×Nat} {cs:Array Value} {xs:List α} (hlen: ∀x,(f x).length=size) (h:w.heap[b]?=some (.cells cs t fr)) (hc:xs.flatMap f=cs.toList):Sl w size f (some ⟨b,0,none⟩) xs:=fun _=>
 ⟨b,0,rfl,blk_lt h,fun k x hk j u hu=>by
   have:=flat_at f size hlen xs k x hk j u hu
   rw[hc]at this
   simp only[World.cell?,h,Nat.zero_add]
   simpa using this⟩
theorem results_rightsC {fn:Func} {p:Tmp} (h:fn.results= #[.cell p 25]) (tmps:Array Value) (w:World) (B:Nat) (x0 x1:Value) (hp:tmps.getD p undef= .pointer (some ⟨B,0,none⟩))
 (hx:w.heap[B]?=some (.cells #[x0,x1] 25)):(results fn tmps).run Tryz.prog w= .ok (.agg #[x0,x1]) w:=by
 have h0:w.cell? ⟨B,0,none⟩=some x0:=by simp only[World.cell?,hx];rfl
 have h1:w.cell? ⟨B,1,none⟩=some x1:=by simp only[World.cell?,hx];rfl
 clear hx
 rw[results_c1 h,hp]
 go_simp
theorem slw_of {W:World} {A:Option Addr} {xs:List DV} {ds:List Deed} (h:Sl W 7 DV.cells A xs) (hm:xs.map (·.d)=ds) (hp: ∀x∈xs,x.d.to.length<=x.c/\Sl W 3 RPart.cells x.B x.d.to):SlW W 7 deedR A ds:=fun hl=>by
 subst hm
 obtain⟨b,off,hA,hb,hc⟩:=h (by simpa using hl)
 refine⟨b,off,hA,hb,fun k x hk=> ?_⟩
 rw[List.getElem?_map]at hk
 obtain⟨y,hy,rfl⟩:=Option.map_eq_some_iff.1 hk
 have:=hp y (List.mem_of_getElem? hy)
 exact⟨y.cells,⟨y.B,y.c,this.1,rfl,this.2⟩,fun j u hu=>hc k y hy j u hu⟩
end Go.Proofs.YtmaidggpbihlgaaGreatDoor
namespace Go.Proofs.YtmaidggpbihlgaaGreatDoor
open Go.RowKit Go.Shelf
attribute [local go_sem] World.cell?_alloc_mark ext_size ext_cell ext_frozen lt_add_r lt_add_r2 lt_add_r3 lt_add_r4 lt_add_r5 lt_add_r6 lt_add_r7 lt_add_r8
attribute [local go_sem] ext_setCell alloc_setCell_lt
def CopyPost (w:World) (ls:List Law) (ds:List Deed) (e:Ending) (w':World):Prop:=
 ∃A nc B mc,e= .returned (.agg #[.slice A ls.length nc, .slice B ds.length mc])/\RightsIn w' ls ds A ls.length nc B ds.length mc/\Below w.heap.size w w'
set_option maxRecDepth 100000 in
set_option maxHeartbeats 1000000 in
theorem copied_any (ls:List Law) (ds:List Deed) (LA:Option Addr) (n nc:Nat) (DA:Option Addr) (m mc:Nat) (w:World) (hR:RightsIn w ls ds LA n nc DA m mc) (hl:ls.length<=1000) (hd:ds.length<=1000) (ht: ∀d∈ds,d.to.length<=100000):
 Calls Tryz.prog 9 #[.agg #[.slice LA n nc, .slice DA m mc]] w (CopyPost w ls ds):=by
 obtain⟨rfl,rfl,hnc,hmc,hLS,hDS⟩:=hR
 have HLS:=Lib.hid hLS
 have HDS:=Lib.hid hDS
 have HT:=Lib.hid ht
 unfold CopyPost
 clear hLS hDS ht
 go_enter Tryz.func9,Tryz.ntmps9
 go_upto_region 1 with fail
 obtain⟨W1,hW1⟩: ∃W1,W1=(w.alloc (.cells #[.slice LA ls.length nc, .slice DA ds.length mc] 25)).alloc (.cells #[.slice none 0 0, .slice none 0 0] 25):=⟨_,rfl⟩
 have b0:W1.heap[w.heap.size]?=some (.cells #[.slice LA ls.length nc, .slice DA ds.length mc] 25):=by rw[hW1];exact J_alloc (J_new _ _ _ rfl)
 have r0:W1.heap[w.heap.size+1]?=some (.cells #[.slice none 0 0, .slice none 0 0] 25):=by rw[hW1];exact J_new _ _ _ (by simp)
 have hB1:Below w.heap.size w W1:=by rw[hW1];repeat(first|exact B_refl|exact Below.refl _ _|assumption|with_reducible refine B_alloc ?_ _|with_reducible refine B_ext ?_ _|with_reducible refine B_drew ?_|with_reducible refine B_drewN ?_ _|with_reducible refine B_set ?_ (by simp;omega) _)
 rw[<-hW1]
 have HB1:=Lib.hid hB1
 clear hW1 hB1
 have l0:=blk_lt b0
 have l1:=blk_lt r0
 have c0:W1.cell? ⟨w.heap.size,0,none⟩=some (.slice LA ls.length nc):=by simp only[World.cell?,b0];rfl
 go_upto_region 2 with(at_builtin
                       go_loud(refine wpList_append_S (v:= .slice (some ⟨W1.heap.size,0,none⟩) 0 0) (n:=0) (m:=ls.length) rfl _ _ rfl elLaw (fun _=>rfl) lw_one rfl (xs:=[]) (ys:=ls) (made_law W1) rfl rfl rfl (HLS.out.keep (HB1.out.trans (Below.mono (B:=W1.heap.size) Bw HB1.out.size))) (by simp only[maxLen];omega) (by omega) (by simp) ?_)
                       intro v2 w2 h1 h2 h3
                       rw[List.nil_append]at h1
                       have e1:w2.heap[w.heap.size]?=_:=(h2.block w.heap.size (by simp;omega) (by simp[blkOf];omega)).trans (J_alloc b0)
                       have e2:w2.heap[w.heap.size+1]?=_:=(h2.block (w.heap.size+1) (by simp;omega) (by simp[blkOf];omega)).trans (J_alloc r0)
                       have hb2:Below W1.heap.size W1 w2:=Below.grown (B_alloc (Below.refl _ _) _) h2 (by simp) (by intro j hj;simp[blkOf]at hj;omega)
                       obtain⟨A2,c2,rfl,hc2,s2⟩:=h1.ro
                       clear h1 h2 h3)
 have S2:=Lib.hid s2
 have HB2:=Lib.hid (HB1.out.trans (hb2.mono HB1.out.size))
 have hs2:=HB2.out.size
 have m0:=blk_lt e1
 have m1:=blk_lt e2
 clear s2 hb2 HB1 b0 r0 c0 l0 l1 HLS
 obtain⟨OB,hOB⟩: ∃OB,OB=w2.heap.size:=⟨_,rfl⟩
 have hBO:Below OB w2 (w2.alloc (.cells #[.slice A2 ls.length c2, .slice none 0 0] 25)):=by rw[hOB];repeat(first|exact B_refl|exact Below.refl _ _|assumption|with_reducible refine B_alloc ?_ _|with_reducible refine B_ext ?_ _|with_reducible refine B_drew ?_|with_reducible refine B_drewN ?_ _|with_reducible refine B_set ?_ (by simp;omega) _)
 have o3:(w2.alloc (.cells #[.slice A2 ls.length c2, .slice none 0 0] 25)).heap[OB]?=some (.cells #[.slice A2 ls.length c2, .slice none 0 0] 25):=J_new _ _ _ hOB
 go_upto_region 3 with fail
 rw[<-hOB]
 have HOB:=Lib.hid hOB
 go_loopw [4] (fun i wr=> ∃(k:Nat) (xs:List DV) (v:Value),k<=ds.length/\i= .int .i64 k/\Hid (xs.map (·.d)=ds.take k)/\Hid (∀x∈xs,x.d.to.length<=x.c/\Ro wr 49 RPart.cells x.B x.d.to)/\OwnS wr (OB+1) 56 7 DV.cells v xs/\wr.heap[OB]?=some (.cells #[.slice A2 ls.length c2,v] 25)/\Below OB w2 wr) (fun i _=>ds.length-(intOf i).toNat)
 case atStart=>exact⟨0,[], .slice none 0 0,Nat.zero_le _,rfl,Lib.hid (by simp),Lib.hid (by simp),OwnS.nil,o3,hBO⟩
 case round=>
  obtain⟨k,xs,v,hk,rfl,HM,HP,hown,ho,hB⟩:=hrel
  have hol:=blk_lt ho
  have hBw:Below w.heap.size w wr:=HB2.out.trans (hB.mono (by omega))
  have hbs:=hBw.size
  have b1:wr.heap[w.heap.size]?=some (.cells #[.slice LA ls.length nc, .slice DA ds.length mc] 25):=(hB.block _ (by omega)).trans e1
  have r1:wr.heap[w.heap.size+1]?=some (.cells #[.slice none 0 0, .slice none 0 0] 25):=(hB.block _ (by omega)).trans e2
  have p2:wr.cell? ⟨w.heap.size,1,none⟩=some (.slice DA ds.length mc):=by simp only[World.cell?,b1];rfl
  obtain⟨VA,vc,rfl,_,hvc⟩:=hown.sl dv_len
  have hxl:xs.length=k:=by
   have:=congrArg List.length HM.out
   simp at this
   omega
  by_cases hlt:k<ds.length
  ·obtain⟨b,off,cs,hA,hb,hr,hcc⟩:=(HDS.out.keep deed_keeps hBw).at hlt
   have htk:ds.take (k+1)=ds.take k++[ds[k]]:=by rw[List.take_add_one,List.getElem?_eq_getElem hlt];rfl
   have htl:=HT.out _ (List.getElem_mem hlt)
   have HLT:=Lib.hid hlt
   generalize ds[k]=x at*
   obtain⟨B,c,hc,rfl,hS⟩:=hr
   have HDE:=Lib.hid (fun W' (h:Below wr.heap.size wr W')=>deed_any x B c W' htl (hS.keep h))
   unfold Deed.v at HDE
   subst hA
   have p1:wr.cell? ⟨OB,1,none⟩=some (.slice VA xs.length vc):=by simp only[World.cell?,ho];rfl
   rw[hxl]at p1
   have i0:=hcc 0 _ rfl
   have i1:=hcc 1 _ rfl
   have i2:=hcc 2 _ rfl
   have i3:=hcc 3 _ rfl
   have i4:=hcc 4 _ rfl
   have i5:=hcc 5 _ rfl
   have i6:=hcc 6 _ rfl
   simp only[Nat.add_zero]at i0
   have hki:(k:Int)<(ds.length:Int):=by omega
   have hk0:(0:Int)<=(k:Int):=by omega
   have HTK:=Lib.hid htk
   have HXL:=Lib.hid hxl
   have HOW:=Lib.hid hown
   have HOO:=Lib.hid ho
   have HB:=Lib.hid hB
   have hwo:w.heap.size<wr.heap.size:=by omega
   have HSF:=Lib.hid (fun(w':World) (h:Below wr.heap.size wr w')=>(show w'.cell? ⟨OB,1,none⟩=some (.slice VA k vc)/\w'.cell? ⟨w.heap.size,1,none⟩=some (.slice (some ⟨b,off,none⟩) ds.length mc)/\w'.cell? ⟨b,off+k*7,none⟩=some (.int .i64 x.kind)/\w'.cell? ⟨b,off+k*7+1,none⟩=some (.int .i64 x.day)/\w'.cell? ⟨b,off+k*7+2,none⟩=some (.string x.place)/\w'.cell? ⟨b,off+k*7+3,none⟩=some (.string x.frm)/\w'.cell? ⟨b,off+k*7+4,none⟩=some (.slice B x.to.length c)/\w'.cell? ⟨b,off+k*7+5,none⟩=some (.int .i64 x.cls)/\w'.cell? ⟨b,off+k*7+6,none⟩=some (.int .i64 x.years) from
    ⟨(B_cell h hol).trans p1,(B_cell h hwo).trans p2,(B_cell h hb).trans i0,(B_cell h hb).trans i1,(B_cell h hb).trans i2,(B_cell h hb).trans i3,(B_cell h hb).trans i4,(B_cell h hb).trans i5,(B_cell h hb).trans i6⟩))
   clear hcc hlt hS hown ho hB htk hxl htl hOB
   go_upto_region 5 with fail
   refine wp_region_mark 9 (fun bb w'=>bb=true\/(w'.cell? ⟨OB,1,none⟩=some (.slice VA k vc)/\w'.cell? ⟨w.heap.size,1,none⟩=some (.slice (some ⟨b,off,none⟩) ds.length mc)/\w'.cell? ⟨b,off+k*7,none⟩=some (.int .i64 x.kind)/\w'.cell? ⟨b,off+k*7+1,none⟩=some (.int .i64 x.day)/\w'.cell? ⟨b,off+k*7+2,none⟩=some (.string x.place)/\w'.cell? ⟨b,off+k*7+3,none⟩=some (.string x.frm)/\w'.cell? ⟨b,off+k*7+4,none⟩=some (.slice B x.to.length c)/\w'.cell? ⟨b,off+k*7+5,none⟩=some (.int .i64 x.cls)/\w'.cell? ⟨b,off+k*7+6,none⟩=some (.int .i64 x.years))) (by kernel_rfl) (.inr (HSF.out _ (B_drew (Below.refl _ _)))) ?hrest
   case hrest=>
    intro hHeld
    refine TkM 0 ?_
    refine TkM 1 ?_
    refine TkM 2 ?_
    refine TkM 3 ?_
    refine TkM 4 ?_
    refine TkM 5 ?_
    refine TkM 6 ?_
    refine wpAnyM_ready (rs:=[7]) (by kernel_rfl) (by simp) (AllReadyM.cons (List.getElem?_toArray.trans rfl) false (by kernel_rfl) (fun K hK=> ?_) AllReadyM.nil)
    go_simp
    refine(HDE.out _ (B_drew (Below.refl _ _))).mono ?_
    rintro e w5 ⟨B5,c5,rfl,hc5,ro5,hb5⟩
    unfold Deed.v
    have hb5':Below wr.heap.size wr w5:=(B_drew (Below.refl _ _):Below wr.heap.size wr wr.drew).trans hb5
    refine hK.out _ _ ?_ (fun hHeld=> ?_)
    focus((try dsimp only);exact .inr (HSF.out _ hb5'))
    clear hK K
    try simp only[Act.put,List.setIfInBounds_toArray,List.set_cons_zero,List.set_cons_succ]
    refine wpAnyM_ready (rs:=[8]) (by kernel_rfl) (by simp) (AllReadyM.cons (List.getElem?_toArray.trans rfl) false (by kernel_rfl) (fun K hK=> ?_) AllReadyM.nil)
    go_simp
    have hb6:Below wr.heap.size wr (w5.alloc (.cells #[.int .i64 x.kind, .int .i64 x.day, .string x.place, .string x.frm, .slice B5 x.to.length c5, .int .i64 x.cls, .int .i64 x.years] 56)):=B_alloc hb5' _
    have n6:(w5.alloc (.cells #[.int .i64 x.kind, .int .i64 x.day, .string x.place, .string x.frm, .slice B5 x.to.length c5, .int .i64 x.cls, .int .i64 x.years] 56)).heap[w5.heap.size]?=some (.cells #[.int .i64 x.kind, .int .i64 x.day, .string x.place, .string x.frm, .slice B5 x.to.length c5, .int .i64 x.cls, .int .i64 x.years] 56):=J_new _ _ _ rfl
    have ro6:Ro (w5.alloc (.cells #[.int .i64 x.kind, .int .i64 x.day, .string x.place, .string x.frm, .slice B5 x.to.length c5, .int .i64 x.cls, .int .i64 x.years] 56)) 49 RPart.cells B5 x.to:=ro5.keep (n:=w5.heap.size) (B_alloc (Below.refl _ _) _)
    refine hK.out _ _ ?_ (fun hHeld=> ?_)
    focus((try dsimp only);exact .inr (HSF.out _ hb6))
    clear hK K
    try simp only[Act.put,List.setIfInBounds_toArray,List.set_cons_zero,List.set_cons_succ]
    refine wpAnyM_ready (rs:=[9]) (by kernel_rfl) (by simp) (AllReadyM.cons (List.getElem?_toArray.trans rfl) true (by kernel_rfl) (fun K hK=> ?_) AllReadyM.nil)
    generalize w5.alloc (.cells #[.int .i64 x.kind, .int .i64 x.day, .string x.place, .string x.frm, .slice B5 x.to.length c5, .int .i64 x.cls, .int .i64 x.years] 56)=W6 at*
    have ow6:=HOW.out.keep hb6
    refine step_append_S (v:= .slice VA k vc) (n:=k) (m:=1) rfl _ _ rfl elDeed dv_len dv_one rfl (xs:=xs) (ys:=[⟨x,B5,c5⟩]) (by have:=ow6;rw[HXL.out]at this;exact this) HXL.out rfl rfl (sl_cellsC dv_len n6 (by simp[DV.cells])) (by simp only[maxLen];omega) (by omega) (by have:=hb6.size;omega) ?_
    intro v7 w7 h1 h2 h3
    obtain⟨A7,c7,hv7,_,_⟩:=h1.sl dv_len
    rw[List.length_append]at hv7
    subst hv7
    have ow7:OwnS W6 (OB+1) 56 7 DV.cells (.slice VA k vc) xs:=by have:=ow6;rw[HXL.out]at this;exact this
    have o7:w7.heap[OB]?=some (.cells #[.slice A2 ls.length c2, .slice VA xs.length vc] 25):=(h2.block OB (by have:=hb6.size;omega) (fun e=>by have:=ow7.ge _ e.symm;omega)).trans ((hb6.block OB hol).trans HOO.out)
    have ro7:Ro w7 49 RPart.cells B5 x.to:=ro_grown ro6 ow7 h2 (by decide)
    have rs7: ∀y∈xs,y.d.to.length<=y.c/\Ro w7 49 RPart.cells y.B y.d.to:=fun y hy=>⟨(HP.out y hy).1,ro_grown ((HP.out y hy).2.keep hb6) ow7 h2 (by decide)⟩
    have hb7:Below OB w2 w7:=Below.grown (HB.out.trans (hb6.mono (by omega))) h2 (by have:=HB.out.size;have:=hb6.size;omega) (fun j hj=>by have:=ow7.ge _ hj;omega)
    have f7:w7.frozen? ⟨OB,1,none⟩=false:=by simp[World.frozen?,o7]
    have t7:w7.cell? ⟨OB,1,none⟩=some (.slice VA xs.length vc):=by simp only[World.cell?,o7];rfl
    refine hK.out _ _ ?_ (fun hHeld=> ?_)
    focus((try dsimp only);exact .inl rfl)
    clear hK K
    try simp only[Act.put,List.setIfInBounds_toArray,List.set_cons_zero,List.set_cons_succ]
    refine wpAnyM_ready (rs:=[10]) (by kernel_rfl) (by simp) (AllReadyM.cons (List.getElem?_toArray.trans rfl) true (by kernel_rfl) (fun K hK=> ?_) AllReadyM.nil)
    go_simp
    refine hK.out _ _ ?_ (fun hHeld=> ?_)
    focus((try dsimp only);exact .inl rfl)
    clear hK K
    try simp only[Act.put,List.setIfInBounds_toArray,List.set_cons_zero,List.set_cons_succ]
    refine wpAnyM_ready (rs:=[11]) (by kernel_rfl) (by simp) (AllReadyM.cons (List.getElem?_toArray.trans rfl) true (by kernel_rfl) (fun K hK=> ?_) AllReadyM.nil)
    go_simp
    refine hK.out _ _ ?_ (fun hHeld=> ?_)
    focus((try dsimp only);exact .inl rfl)
    clear hK K
    try simp only[Act.put,List.setIfInBounds_toArray,List.set_cons_zero,List.set_cons_succ]
    refine wpAnyM_done (by kernel_rfl) ?_ _
    clear hHeld
    go_wp2_with fail
    go_round
    case rel=>
     refine⟨k+1,xs++[⟨x,B5,c5⟩],_,HLT.out,by go_num,Lib.hid (by rw[List.map_append,HM.out,HTK.out];rfl),Lib.hid (fun y hy=> ?_),h1.grown (grown_set _ _ _ _) (.inr fun e=>by have:=h1.ge _ e;omega),?_,B_set hb7 (Nat.le_refl _) _⟩
     ·rcases List.mem_append.1 hy with hy|hy
      ·exact⟨(rs7 y hy).1,(rs7 y hy).2.kept (grown_set _ _ _ _) o7 (by decide)⟩
      ·obtain rfl:=List.mem_singleton.1 hy
       exact⟨hc5,ro7.kept (grown_set _ _ _ _) o7 (by decide)⟩
     ·have:=Joins.block_setCell (i:=1) o7 (.slice A7 (xs.length+[(⟨x,B5,c5⟩:DV)].length) c7)
      simpa using this
    case measure=>have:=HLT.out;simp only[intOf];omega
  ·have hki: ¬(k:Int)<(ds.length:Int):=by omega
   have hmd:xs.map (·.d)=ds:=by rw[HM.out,List.take_of_length_le (by omega)]
   have hkd:xs.length=ds.length:=by rw[<-hmd,List.length_map]
   have p1:wr.cell? ⟨OB,1,none⟩=some (.slice VA xs.length vc):=by simp only[World.cell?,ho];rfl
   have p0:wr.cell? ⟨OB,0,none⟩=some (.slice A2 ls.length c2):=by simp only[World.cell?,ho];rfl
   have t0:wr.cell? ⟨w.heap.size+1,0,none⟩=some (.slice none 0 0):=by simp only[World.cell?,r1];rfl
   have t1:wr.cell? ⟨w.heap.size+1,1,none⟩=some (.slice none 0 0):=by simp only[World.cell?,r1];rfl
   have f0: ∀j,wr.frozen? ⟨w.heap.size+1,j,none⟩=false:=fun j=>by simp[World.frozen?,r1]
   rw[hkd]at p1
   have HMD:=Lib.hid hmd
   have HKD:=Lib.hid hkd
   have HOW:=Lib.hid hown
   have HB:=Lib.hid hB
   have HBW:=Lib.hid hBw
   clear hmd hkd hown hB hBw hlt hxl ho hOB
   go_wp2_with fail
   refine bodyPost_ret (v:= .agg #[.slice A2 ls.length c2, .slice VA ds.length vc]) ?_ rfl ?_
   ·exact results_rightsC rfl _ _ (w.heap.size+1) _ _ rfl (J_set2 r1)
   ·have rr:=Joins.block_setCell (i:=0) r1 (.slice A2 ls.length c2)
    have hkp: ∀ {α:Type} {e:TypeId} {f:α->List Value} {A:Option Addr} {ys:List α},e≠25->Ro wr e f A ys->Ro ((wr.setCell ⟨w.heap.size+1,0,none⟩ (.slice A2 ls.length c2)).setCell ⟨w.heap.size+1,1,none⟩ (.slice VA ds.length vc)) e f A ys:=fun hne h=>
     (h.kept (grown_set _ _ _ _) r1 (fun e=>hne e.symm)).kept (grown_set _ _ _ _) rr (fun e=>hne e.symm)
    obtain⟨VA',vc',he,_,hrd⟩:=HOW.out.ro
    obtain⟨rfl,_,rfl⟩:VA=VA'/\xs.length=xs.length/\vc=vc':=by simpa using he
    refine⟨A2,c2,VA,vc,rfl,⟨rfl,rfl,hc2,by rw[<-HKD.out];exact hvc,?_,?_⟩,B_set (B_set HBW.out (by simp) _) (by simp) _⟩
    ·exact(hkp (by decide) (S2.out.keep (n:=OB) HB.out (by have:=HOB.out;omega))).sl (fun _=>rfl)
    ·exact slw_of ((hkp (by decide) hrd).sl dv_len) HMD.out fun y hy=>⟨(HP.out y hy).1,(hkp (by decide) (HP.out y hy).2).sl rp_len⟩
end Go.Proofs.YtmaidggpbihlgaaGreatDoor
