/- Walk of chapter 5's estate, the will. -/
import Derived.Test.YtmaidggpbihlgaaGreatDoorJV
import Derived.Test.YtmaidggpbihlgaaGreatDoorDK
import Derived.Test.YtmaidggpbihlgaaGreatDoorJE
set_option linter.unusedSimpArgs false
set_option linter.unusedVariables false
namespace Go.Proofs.YtmaidggpbihlgaaGreatDoor
open Go.RowKit Go.Shelf
attribute [local go_sem] World.cell?_alloc_mark ext_size ext_cell ext_frozen lt_add_r lt_add_r2 lt_add_r3 lt_add_r4 lt_add_r5 lt_add_r6 lt_add_r7 lt_add_r8
attribute [local go_sem] ext_setCell alloc_setCell_lt
theorem look_will {base:Nat} {W:World} {B:List Nat} {d c p wl r:Nat} {mv:Value} {s:St} (h:PplAt base W B d c p wl r mv s) (n:ByteArray):
 ∃A cc,(∀W',Below W.heap.size W W'->(Instr.lookup 89 (.map (some wl)) (.string n) false).run Tryz.prog W'= .ok (.slice A (willOf s n).length cc) W')/\Ro W 49 partCells A (willOf s n):=by
 obtain⟨m,k1,k2⟩:=h.wills
 have hl:=fun W' (hB:Below W.heap.size W W')=>run_lookup mapSP (k1.below hB).at n
 rcases k2 n with⟨h1,h2⟩|⟨A,cc,h1,h2⟩
 ·rw[h1]at hl
  refine⟨none,0,fun W' hB=> ?_,by rw[h2];exact Ro.nil⟩
  rw[h2]
  exact hl W' hB
 ·rw[h1]at hl
  exact⟨A,cc,hl,h2⟩
theorem noB_nil {s:ByteArray} (h:noB s=true):s=⟨#[]⟩:=by
 unfold noB at h
 have h1:s.toList=(⟨#[]⟩:ByteArray).toList:=by rw[List.isEmpty_iff.1 h,ByteArray.toList_eq]
 have h2:sameB s ⟨#[]⟩=true:=by unfold sameB;rw[h1];simp
 exact same_iff.1 h2
theorem two_gr {w W W':World} {C m:Nat} (h:w.grownBy W (some C)) (hm:w.heap.size<=m) (t:Two2 W W' C m):w.grownBy W' (some C):=
 have b:=t.below 0 (Nat.zero_le _) (Nat.zero_le _) (Nat.zero_le _)
 ⟨b.os.trans h.os,b.tape.trans h.tape,b.output.trans h.output,Nat.le_trans h.size t.size,fun k hk hne=>(t.others k (Nat.lt_of_lt_of_le hk h.size) (fun e=>hne (by rw[e])) (by omega)).trans (h.block k hk hne)⟩
theorem below_gr {w W W':World} {n:Nat} {row:Option Nat} (h:w.grownBy W row) (hb:Below n W W') (hn:w.heap.size<=n):w.grownBy W' row:=
 ⟨hb.os.trans h.os,hb.tape.trans h.tape,hb.output.trans h.output,Nat.le_trans h.size hb.size,fun k hk hne=>(hb.block k (by omega)).trans (h.block k hk hne)⟩
structure EstN (w:World) (h C m L R:Nat):Prop where
 gc:C<w.heap.size
 gh:w.heap.size<=h
 gm:w.heap.size<=m
 gl:w.heap.size<=L
 gr:w.heap.size<=R
 hm:h≠m
 hl:h≠L
 hr:h≠R
 ml:m≠L
 mr:m≠R
 lr:L≠R
theorem own_any {rest:Rat} {law:Law} (hs:small5 rest) (hlaw:isShareP 16 law.num law.den=true):
 IntKind.i64.wrap (rest.num*law.num)=rest.num*law.num/\IntKind.i64.wrap ((rest.den:Int)*law.den)=(rest.den:Int)*law.den/\
 ∀W:World,Calls Tryz.prog 72 #[.int .i64 (rest.num*law.num), .int .i64 ((rest.den:Int)*law.den)] W (Ret W (fracV (rest*Rat.divInt law.num law.den))):=by
 obtain⟨h1,h2,_,_⟩:=share_rat hlaw
 have hd:=hlaw
 unfold isShareP at hd
 simp only[Bool.and_eq_true,decide_eq_true_eq]at hd
 have hsd:(rest.den:Int)<=1000000000:=by have:=hs.2;omega
 have hdp:0<(rest.den:Int):=by have:=rest.den_pos;omega
 obtain⟨m1,n1⟩:=mul_small hs.1 (show law.num.natAbs<=1000000000 by omega)
 obtain⟨m2,n2⟩:=mul_small (show(rest.den:Int).natAbs<=1000000000 by omega) (show law.den.natAbs<=1000000000 by omega)
 have m4:0<(rest.den:Int)*law.den:=Int.mul_pos hdp (by omega)
 refine⟨IntWalk.i64_in _ (by omega),IntWalk.i64_in _ (by omega),fun W=> ?_⟩
 have e:rest*Rat.divInt law.num law.den=Rat.divInt (rest.num*law.num) ((rest.den:Int)*law.den):=by
  rw[mul_divInt,h1,h2]
 rw[e]
 exact lowest5_any _ _ W (by omega) m4 (by omega)
theorem own_ok {rest:Rat} {law:Law} (hN:IsN 720720 rest) (h0:0<=rest) (h1:rest<=1) (hlaw:isShareP 16 law.num law.den=true):
 0<=rest*Rat.divInt law.num law.den/\rest*Rat.divInt law.num law.den<=rest/\small5 (rest*Rat.divInt law.num law.den)/\small5 (rest-rest*Rat.divInt law.num law.den):=by
 obtain⟨⟨ld,ld0,ld1,l1⟩,l2,l3⟩:=isN_law hlaw
 generalize Rat.divInt law.num law.den=la at*
 have ho0:0<=rest*la:=Rat.mul_nonneg h0 l2
 have ho1:rest*la<=rest:=by
  have:=Rat.mul_nonneg h0 (show 0<=1-la by grind)
  grind
 have hn:=isN_mul hN l1
 refine⟨ho0,ho1,small_q ho0 (by grind) (isN_small (by omega) (by omega) hn),small_q (by grind) (by grind) (isN_small (n:=720720*ld) (by omega) (by omega) (isN_sub (isN_up hN) hn))⟩
theorem divide_bd {l:List Tree} {q t:Rat} {out:Parts} {fl:Bool} (h0:0<=q) (h:Bd out t):Bd (divideF l q (out,fl)).1 (t+q):=by
 rw[divideF]
 have h1:=lines_bd (seen_nonneg (div_nonneg5 h0 l.length)) (l:=l) (fl:=fl||bigQ (q*(1/(l.length:Rat)))) h
 exact h1.up6 (by have:=seen_len h0 l.length;grind)
theorem set_same {W:World} {P o k:Nat} {v:Value} (h:k≠P):(W.setCell ⟨P,o,none⟩ v).heap[k]?=W.heap[k]?:=by
 have hb: ¬P=k:=fun e=>h e.symm
 simp[World.setCell,Array.getElem?_modify,hb]
theorem row_gr {w W W':World} {C:Nat} {row:Option Nat} (h:w.grownBy W (some C)) (k:W.grownBy W' row) (hr: ∀j,row=some j->w.heap.size<=j):w.grownBy W' (some C):=
 ⟨k.os.trans h.os,k.tape.trans h.tape,k.output.trans h.output,Nat.le_trans h.size k.size,fun i hi hne=>(k.block i (Nat.lt_of_lt_of_le hi h.size) (fun e=>by have:=hr i e.symm;omega)).trans (h.block i hi hne)⟩
theorem row_mark {W W':World} {C:Nat} {f:Bool} {row:Option Nat} (h:MarkAt W C f) (k:W.grownBy W' row) (hr: ∀j,row=some j->j≠C):MarkAt W' C f:=(k.block C (blk_lt h) (fun e=>hr C e.symm rfl)).trans h
theorem own_cells {α:Type} {W:World} {base:Nat} {e:TypeId} {size:Nat} {f:α->List Value} {v:Value} {xs:List α} (h:OwnS W base e size f v xs) {j:Nat} (hj:blkOf v=some j): ∃cur,W.heap[j]?=some (.cells cur e (0,0)):=by
 rcases h with⟨rfl,_⟩|⟨g,o,c,cur,rfl,_,hg,_⟩
 ·cases hj
 ·simp only[blkOf,Option.some.injEq]at hj
  subst hj
  exact⟨cur,hg⟩
theorem range_cells {W:World} {b r:Nat} {K V:Type} {ek:K->Value} {ev:V->Value} {m left:List (K×V)} (h:RangeAt W b r ek ev m left) {j:Nat} {cur:Array Value} {t:TypeId} {fr:Nat×Nat} (hj:W.heap[j]?=some (.cells cur t fr)):j≠b/\j≠r:=by
 obtain⟨es,clock,since,seen,c0,h1,_,_,_,h5,_⟩:=h
 refine⟨fun e=> ?_,fun e=> ?_⟩
 ·subst e;rw[h1]at hj;simp at hj
 ·subst e;rw[h5]at hj;simp at hj
theorem num_pos5 {q:Rat}:0<q↔0<q.num:=by rw[Rat.lt_iff];simp
theorem W_two (w:World) (o1 o2:Obj):Below w.heap.size w ((w.alloc o1).alloc o2):=B_alloc (B_alloc (Below.refl _ _) _) _
def LK (W W':World):Prop:= ∀(k:Nat) (cur:Array Value) (fr:Nat×Nat),W.heap[k]?=some (.cells cur 167 fr)->W'.heap[k]?=W.heap[k]?
theorem LK.trans {a b c:World} (h:LK a b) (k:LK b c):LK a c:=fun i cur fr hi=>(k i cur fr ((h i cur fr hi).trans hi)).trans (h i cur fr hi)
theorem LK.below {n:Nat} {a b:World} (h:Below n a b) (hn:a.heap.size<=n:=by first|exact Nat.le_refl _|omega):LK a b:=fun i cur fr hi=>h.block i (Nat.lt_of_lt_of_le (Array.getElem?_eq_some_iff.1 hi).1 hn)
theorem LK.put {W:World} {R:Nat} {q0 q:Rat} (h:W.heap[R]?=some (fracB q0)):LK W ((W.setCell ⟨R,0,none⟩ (.int .i64 q.num)).setCell ⟨R,1,none⟩ (.int .i64 q.den)):=fun i cur fr hi=>by
 have hne:i≠R:=by
  intro e
  subst e
  rw[h]at hi
  simp[fracB]at hi
 rw[set_same hne,set_same hne]
theorem LK.items {W W':World} {Q:Nat->Prop} {f:Nat} {es:List Ln} {l:List Tree} (h:LK W W') (k:ItemsN W Q f es l):ItemsN W' Q f es l:=k.same h
theorem LK.ro {W W':World} {A:Option Addr} {es:List Ln} (h:LK W W') (k:Ro W 167 lnC A es):Ro W' 167 lnC A es:=k.same (fun b cur fr hx _=>h b cur fr hx)
def lawObj (law:Law):Obj:= .cells #[.int .i64 law.frm, .bool law.stems, .int .i64 law.num, .int .i64 law.den] 100
structure EstSt (w W:World) (b h C m L R:Nat) (law:Law) (n:ByteArray) (x:Parts×Bool) (rest:Rat):Prop where
 heir:HeirAt W h b law n C m
 lawB:W.heap[L]?=some (lawObj law)
 restB:W.heap[R]?=some (fracB rest)
 has:HasAt W m x.1
 mark:MarkAt W C x.2
 gr:w.grownBy W (some C)
section
variable {w W W':World} {b h C m L R:Nat} {law:Law} {n:ByteArray} {x y:Parts×Bool} {rest q:Rat}
theorem EstSt.keep {k:Nat} (e:EstSt w W b h C m L R law n x rest) (hB:Below k W W') (hk:W.heap.size<=k:=by first|exact Nat.le_refl _|omega):EstSt w W' b h C m L R law n x rest:=
 ⟨e.heir.keep hB hk,(hB.block L (Nat.lt_of_lt_of_le (blk_lt e.lawB) hk)).trans e.lawB,(hB.block R (Nat.lt_of_lt_of_le (blk_lt e.restB) hk)).trans e.restB,e.has.keep hB hk,e.mark.keep hB (Nat.lt_of_lt_of_le (blk_lt e.mark) hk),below_gr e.gr hB (Nat.le_trans e.gr.size hk)⟩
theorem EstSt.two (hn:EstN w h C m L R) (e:EstSt w W b h C m L R law n x rest) (t:Two2 W W' C m) (h1:HasAt W' m y.1) (h2:MarkAt W' C y.2):EstSt w W' b h C m L R law n y rest:=by
 have c1:=hn.gc;have c2:=hn.gh;have c3:=hn.gm;have c4:=hn.gl;have c5:=hn.gr
 have d1:=hn.hm;have d2:=hn.ml;have d3:=hn.mr
 exact⟨(t.others h (blk_lt e.heir) (by omega) d1).trans e.heir,(t.others L (blk_lt e.lawB) (by omega) (fun z=>d2 z.symm)).trans e.lawB,(t.others R (blk_lt e.restB) (by omega) (fun z=>d3 z.symm)).trans e.restB,h1,h2,two_gr e.gr c3 t⟩
theorem EstSt.put (hn:EstN w h C m L R) (e:EstSt w W b h C m L R law n x rest) (q:Rat):EstSt w ((W.setCell ⟨R,0,none⟩ (.int .i64 q.num)).setCell ⟨R,1,none⟩ (.int .i64 q.den)) b h C m L R law n x q:=by
 have c1:=hn.gc;have c5:=hn.gr
 have d1:=hn.hr;have d2:=hn.lr;have d3:=hn.mr
 have hs: ∀k,k≠R->((W.setCell ⟨R,0,none⟩ (.int .i64 q.num)).setCell ⟨R,1,none⟩ (.int .i64 q.den)).heap[k]?=W.heap[k]?:=fun k hk=>(set_same hk).trans (set_same hk)
 refine⟨(hs h d1).trans e.heir,(hs L d2).trans e.lawB,J_set2 e.restB,e.has.block (hs m d3),(hs C (by omega)).trans e.mark,?_⟩
 exact⟨e.gr.os,e.gr.tape,e.gr.output,by simpa using e.gr.size,fun k hk hne=>(hs k (by omega)).trans (e.gr.block k hk hne)⟩
end
set_option maxRecDepth 100000 in
set_option maxHeartbeats 4000000 in
theorem estate_any (base b C:Nat) (s:St) (last:Int) (law:Law) (n:ByteArray) (w:World) (hPeo: ∀W,w.grownBy W (some C)->PeoAt base W b s) (hG:GoodSt s last) (hM:MarkAt w C false) (hkl:s.children.length<=1000) (hml:s.marriages.length<=1000) (hwl:(willOf s n).length<=1000) (hlaw:isShareP 16 law.num law.den=true):
 Calls Tryz.prog 32 #[.pointer (some ⟨b,0,none⟩),law.v, .string n, .pointer (some ⟨C,0,none⟩)] w fun e w'=> ∃v,e= .returned v/\OwnS w' w.heap.size 49 3 partCells v (estateF s law n).1/\MarkAt w' C (estateF s law n).2/\w.grownBy w' (some C):=by
 have hPW:=hPeo w (grown_refl _ _)
 have hPb: ∀(W:World),w.grownBy W (some C)->PeoAt base W b s:=hPeo
 obtain⟨B,d,c,p,wl,r,mv,tv,la,co,hw1,hw2⟩:=hPW
 have hb:=blk_lt hw1
 unfold WldC at hw1
 have c4:w.cell? ⟨b,4,none⟩=some (.map (some wl)):=by simp only[World.cell?,hw1];rfl
 obtain⟨WA,wcap,hlk,hRo⟩:=look_will hw2 n
 have hwOk:=hG.wills n
 have hwn: ∀q∈willOf s n,noB q.1=false:=by
  intro q hq
  unfold willOf at hq
  cases hf:s.wills.reverse.find? (fun x=>sameB x.1 n)with
  |none=>rw[hf]at hq;simp at hq
  |some x=>
   rw[hf]at hq
   exact hG.willNames x (by simpa using List.mem_of_find?_eq_some hf) q (by simpa using hq)
 have hCl:=blk_lt hM
 have HM:=Lib.hid hM
 have HRO:=Lib.hid hRo
 have HP:=Lib.hid hPb
 have HWO:=Lib.hid hwOk
 have HWN:=Lib.hid hwn
 have HG:=Lib.hid hG
 have hEF:estateF s law n=(let y:=willF s n (willOf s n) ([],false) 1
  let sp:=heirSpouse s n
  let lines:=treesP s law.stems n (generations s) n
  if lines.isEmpty then givesF sp y.2 y.1 else
  if noB sp then divideF lines y.2 y.1 else
  divideF lines (y.2-y.2*Rat.divInt law.num law.den) (givesF sp (y.2*Rat.divInt law.num law.den) y.1)):=rfl
 have HEF:=Lib.hid hEF
 have hlk2: ∀W',Below w.heap.size w W'->(Instr.lookup 89 (.map (some wl)) (.string n) false).run Tryz.prog W'= .ok (.slice WA (willOf s n).length wcap) W':=hlk
 generalize estateF s law n=EF at*
 generalize hws:willOf s n=ws at*
 have HWS:=Lib.hid hws
 clear hws hEF hw1 hw2 hlk hRo hwOk hwn hG hM hPb hPeo
 unfold Law.v
 go_enter Tryz.func32,Tryz.ntmps32
 have hmm:= @run_makeMap Tryz.prog
 have hl1:=hlk2 ((((w.alloc (lawObj law)).alloc (.map #[] 0)).alloc (.cells #[.pointer (some ⟨b,0,none⟩), .int .i64 law.frm, .bool law.stems, .int .i64 law.num, .int .i64 law.den, .string n, .pointer (some ⟨C,0,none⟩), .map (some (w.heap.size+1))] 132)).alloc (.cells #[.int .i64 1, .int .i64 1] 45)) Bw
 unfold lawObj at hl1
 go_upto_block 0 with fail
 have hN:EstN w (w.heap.size+1+1) C (w.heap.size+1) w.heap.size (w.heap.size+1+1+1):=⟨hCl,by omega,by omega,by omega,by omega,by omega,by omega,by omega,by omega,by omega,by omega⟩
 have HN:=Lib.hid hN
 have hC0:C≠w.heap.size:=by omega
 clear hN hlk2 hl1 hmm
 go_cut [12,34]from 35 (fun _ _ wc=>EstSt w wc b (w.heap.size+1+1) C (w.heap.size+1) w.heap.size (w.heap.size+1+1+1) law n (willF s n ws ([],false) 1).1 (willF s n ws ([],false) 1).2)
 case first=>
  go_wp2_with fail
  go_loopw [34] (fun i wr=> ∃(k:Nat) (x:Parts×Bool) (rest:Rat),k<=ws.length/\i= .int .i64 k/\Hid ((x,rest)=willF s n (ws.take k) ([],false) 1)/\EstSt w wr b (w.heap.size+1+1) C (w.heap.size+1) w.heap.size (w.heap.size+1+1+1) law n x rest) (fun i _=>ws.length-(intOf i).toNat)
  case atStart=>
   refine⟨0,([],false),1,Nat.zero_le _,rfl,rfl,?_,?_,?_,?_,?_,?_⟩
   ·exact J_alloc (J_new _ _ _ (by simp))
   ·exact J_alloc (J_alloc (J_alloc (J_new _ _ _ rfl)))
   ·exact J_new _ _ _ (by simp)
   ·refine⟨[],?_,by simp,fun nm=> .inl ⟨rfl,rfl⟩⟩
    have h0:MapS ((w.alloc (.cells #[.int .i64 law.frm, .bool law.stems, .int .i64 law.num, .int .i64 law.den] 100)).alloc (.map #[] 0)) (w.alloc (.cells #[.int .i64 law.frm, .bool law.stems, .int .i64 law.num, .int .i64 law.den] 100)).heap.size ekS (fun v:Value=>v) ([]:List (ByteArray×Value)):=MapS.new _
    rw[World.size_alloc]at h0
    exact h0.below (n:=w.heap.size+1+1) (B_alloc (B_alloc (Below.refl _ _) _ (by simp)) _ (by simp)) (by simp)
   ·exact((((HM.out.alloc _).alloc _).alloc _).alloc _)
   ·exact grown_alloc (grown_alloc (grown_alloc (grown_alloc (grown_refl _ _) _) _) _) _
  case round=>
   obtain⟨k,x,rest,hk,rfl,HX,hst⟩:=hrel
   have hrb:=hst.restB
   have hgr:=hst.gr
   have HST:=Lib.hid hst
   have r0:wr.cell? ⟨w.heap.size+1+1+1,0,none⟩=some (.int .i64 rest.num):=by simp only[World.cell?,hrb,fracB];rfl
   have r1:wr.cell? ⟨w.heap.size+1+1+1,1,none⟩=some (.int .i64 rest.den):=by simp only[World.cell?,hrb,fracB];rfl
   have hRl:=blk_lt hrb
   have hRn:w.heap.size+1+1+1≠wr.heap.size:=by omega
   have hro:=HRO.out.kept hgr HM.out (by decide)
   clear hst hrb
   by_cases hlt:k<ws.length
   ·obtain⟨b',off,rfl,hb',hc⟩:=(Ro.sl part_len hro).at hlt
    have hsn:=will_snoc s n ws ([],false) 1 hlt
    have hinv:=will_inv (s:=s) (frm:=n) HWO.out k
    rw[<-HX.out]at hsn hinv
    have hmem:ws[k]∈ws:=List.getElem_mem hlt
    have hpos:=HWO.out.pos _ hmem
    have hisn:=HWO.out.isN _ hmem
    have hnb:=HWN.out _ hmem
    have hql:ws[k].2<=1:=Rat.le_trans (mem_le_sum (l:=ws) (fun q hq=>by have:=HWO.out.pos q hq;grind) _ hmem) HWO.out.le
    generalize ws[k]=pt at*
    obtain⟨pn,pq⟩:=pt
    have i0:wr.cell? ⟨b',off+k*3,none⟩=some (.string pn):=hc 0 _ rfl
    have i1:wr.cell? ⟨b',off+k*3+1,none⟩=some (.int .i64 pq.num):=hc 1 _ rfl
    have i2:wr.cell? ⟨b',off+k*3+2,none⟩=some (.int .i64 pq.den):=hc 2 _ rfl
    have hpq:small5 pq:=small_q (by simp only at hpos;grind) hql (isN_small (by decide) (by decide) hisn)
    have hki:(k:Int)<(ws.length:Int):=by omega
    have hk0:(0:Int)<=(k:Int):=by omega
    have hab:ableP s pn n=ableQ s pn n:=by rw[able_q,hnb];rfl
    simp only[hab]at hsn
    have HSN:=Lib.hid hsn
    have HIV:=Lib.hid hinv
    have HPE:=Lib.hid (fun W hW=>HP.out W (below_gr hgr hW (n:=wr.heap.size) hgr.size))
    clear hc hsn hinv hmem hpos hisn hnb hql hab hro
    have HAB:=Lib.hid (fun W (hW:Below wr.heap.size wr W)=>able_any base b (w.heap.size+1+1) C (w.heap.size+1) s law n pn W (HPE.out W hW) (HST.out.keep hW).heir)
    generalize ableQ s pn n=ab at*
    cases ab
    ·go_wp2_with (go_at_call 67;refine(HAB.out _ Bw).mono ?_;rintro e wq ⟨rfl,z,rfl⟩)
     go_round
     case rel=>exact⟨k+1,x,rest,by omega,by go_num,by show _=_;simpa using HSN.out.symm,HST.out.keep (k:=wr.heap.size) Bw⟩
     case measure=>simp[intOf];omega
    ·go_wp2_with (first
      |(go_at_call 67;refine(HAB.out _ Bw).mono ?_;rintro e wq ⟨rfl,z,rfl⟩)
      |(go_at_call 68
        go_loud(refine(gives_any b (w.heap.size+1+1) C (w.heap.size+1) law n pn pq x.1 x.2 _ (HST.out.keep (k:=wr.heap.size) Bw).heir (HST.out.keep (k:=wr.heap.size) Bw).mark (HST.out.keep (k:=wr.heap.size) Bw).has (by omega) (by omega) (by omega) HIV.out.bd.good (HIV.out.bd.share (by have:=HIV.out.nn;grind) pn) hpq).mono ?_)
        rintro e wq ⟨rfl,g1,g2,g3⟩
        have hst2:=(HST.out.keep (W':=(wr.alloc (.cells #[.string pn, .int .i64 pq.num, .int .i64 pq.den] 49)).ext z) (k:=wr.heap.size) Bw).two HN.out g3 g1 g2
        have hp:wq.heap[wr.heap.size]?=some (.cells #[.string pn, .int .i64 pq.num, .int .i64 pq.den] 49):=(g3.others _ (by simp[ext_size];omega) (by omega) (by omega)).trans (J_ext (J_new _ _ _ rfl))
        have HST2:=Lib.hid hst2
        have q0:wq.cell? ⟨w.heap.size+1+1+1,0,none⟩=some (.int .i64 rest.num):=by simp only[World.cell?,hst2.restB,fracB];rfl
        have q1:wq.cell? ⟨w.heap.size+1+1+1,1,none⟩=some (.int .i64 rest.den):=by simp only[World.cell?,hst2.restB,fracB];rfl
        have f0:wq.frozen? ⟨w.heap.size+1+1+1,0,none⟩=false:=by simp only[World.frozen?,hst2.restB,fracB];rfl
        have f1:wq.frozen? ⟨w.heap.size+1+1+1,1,none⟩=false:=by simp only[World.frozen?,hst2.restB,fracB];rfl
        have p1:wq.cell? ⟨wr.heap.size,1,none⟩=some (.int .i64 pq.num):=by simp only[World.cell?,hp];rfl
        have p2:wq.cell? ⟨wr.heap.size,2,none⟩=some (.int .i64 pq.den):=by simp only[World.cell?,hp];rfl
        have hRq:=blk_lt hst2.restB
        clear hst2 hp g1 g2 g3)
      |(go_at_call 69;refine(sub5_any rest pq _ HIV.out.small hpq).mono ?_;rintro e wq2 ⟨rfl,z2,rfl⟩;simp only[fracV]))
     go_round
     case rel=>exact⟨k+1,givesF pn pq x,rest-pq,by omega,by go_num,by show _=_;simpa using HSN.out.symm,(HST2.out.put HN.out (rest-pq)).keep (below_ext _ z2)⟩
     case measure=>simp[intOf];omega
   ·have hki: ¬(k:Int)<(ws.length:Int):=by omega
    rw[List.take_of_length_le (by omega)]at HX
    go_wp2_with fail
    go_meet
    rw[<-HX.out]
    exact HST.out
 case rest=>
  have hinv:=will_inv (s:=s) (frm:=n) HWO.out ws.length
  rw[List.take_of_length_le (Nat.le_refl _)]at hinv
  generalize willF s n ws ([],false) 1=y at*
  obtain⟨x,rest⟩:=y
  have HIV:=Lib.hid hinv
  have hgr:=hcut.gr
  have HST:=Lib.hid hcut
  have HPE:=Lib.hid (fun W hW=>HP.out W (below_gr hgr hW (n:=wc.heap.size) hgr.size))
  clear hinv hcut HRO HWO HWN
  have HLI:=Lib.hid (fun W (hW:Below wc.heap.size wc W)=>lines_any base b (w.heap.size+1+1) C (w.heap.size+1) s law n (fun c hc=>(HG.out.kids c hc).2) hkl (generations s) n W (HPE.out W hW) (HST.out.keep hW).heir (deep_all HG.out.acyc n))
  have HSP:=Lib.hid (fun W (hW:Below wc.heap.size wc W)=>spouse_any base b s n W (HPE.out W hW) (by omega))
  generalize hsp:spouseP s n=sp at*
  go_upto_region 11 with(first
   |(go_at_call 70;refine(HLI.out _ Bw).mono ?_;rintro e wq ⟨v,es,rfl,o1,o2,o3,o4⟩;obtain⟨VA,vc,rfl,_,hvc⟩:=o1.sl ln_len;have HO1:=Lib.hid o1;have HO2:=Lib.hid o2;clear o1 o2)
   |(go_at_call 71;refine(HSP.out _ Bw).mono ?_;rintro e wq2 ⟨rfl,z,rfl⟩))
  have hb':b<wc.heap.size:=Nat.lt_of_lt_of_le hb hgr.size
  have hbq:=o3.size
  have HAB:=Lib.hid (fun W (hW:Below wq.heap.size wq W)=>able_any base b (w.heap.size+1+1) C (w.heap.size+1) s law n sp W (HPE.out W (o3.trans (hW.mono hbq))) (HST.out.keep (o3.trans (hW.mono hbq))).heir)
  have hsX:heirSpouse s n=if(!noB sp&&ableQ s sp n)=true then sp else⟨#[]⟩:=by unfold heirSpouse;rw[hsp,able_q]
  generalize heirSpouse s n=hs at*
  generalize ableQ s sp n=ab at*
  go_cut [59,60,61,62,63,64,65,66]from 67 (fun _ _ _ _ _ _ _ v66 W=>v66= .bool (!noB sp&&!ab)/\ ∃z,W=wq.ext z)
  case first=>
   cases ab
   all_goals(go_wp2_with (go_at_call 67;refine(HAB.out _ Bw).mono ?_;rintro e wq2 ⟨rfl,z2,rfl⟩))
   all_goals go_meet
   all_goals exact⟨bool_eq (by first|(simp[noB, *];done)|(rw[Bool.eq_iff_iff];simp[noB];simp[*];done)),ext_below Bw⟩
  case rest=>
   obtain⟨rfl,z2,rfl⟩:=hcut
   go_upto_if 66 with fail
   go_cut [14,66]from 67 (fun v14 _ W=>v14= .string hs/\W=wq.ext z2)
   case first=>
    cases hnb:noB sp
    ·cases ab
     ·go_wp2_with fail
      go_meet
      rw[hnb]at hsX
      exact⟨by rw[hsX];rfl,rfl⟩
     ·go_wp2_with fail
      go_meet
      rw[hnb]at hsX
      exact⟨by rw[hsX];rfl,rfl⟩
    ·cases ab
     all_goals go_wp2_with fail
     all_goals go_meet
     all_goals rw[hnb]at hsX
     all_goals have hsn:sp=⟨#[]⟩:=noB_nil hnb
     all_goals exact⟨by rw[hsX,hsn];rfl,rfl⟩
   case rest=>
    obtain⟨rfl,rfl⟩:=hcut
    have hbz:Below wq.heap.size wq (wq.ext z2):=below_ext _ _
    have hb3:Below wc.heap.size wc (wq.ext z2):=o3.trans (hbz.mono hbq)
    have hst3:=HST.out.keep hb3
    have HO1':=Lib.hid (HO1.out.keep (n:=wq.heap.size) hbz)
    have HO2':=Lib.hid (HO2.out.keep (n:=wq.heap.size) hbz)
    generalize wq.ext z2=W3 at*
    have hRo3:=HO1'.out.ro
    obtain⟨VA2,vc2,hv2,_,hRl⟩:=hRo3
    simp only[Value.slice.injEq]at hv2
    obtain⟨rfl,_,rfl⟩:=hv2
    have HRL:=Lib.hid hRl
    have HST3:=Lib.hid hst3
    clear hst3 hRl hbz hb3 HO1 HO2 HST HAB HLI HSP o3 hbq hsX hsp
    have hEF2:=HEF.out
    have HL3:=Lib.hid HO2'.out.len
    go_upto_block 2 with fail
    go_cut [15]from 67 (fun _ W=> ∃rest',EstSt w W b (w.heap.size+1+1) C (w.heap.size+1) w.heap.size (w.heap.size+1+1+1) law n EF rest'/\Bd EF.1 1)
    case first=>
     have r0:W3.cell? ⟨w.heap.size+1+1+1,0,none⟩=some (.int .i64 rest.num):=by simp only[World.cell?,HST3.out.restB,fracB];rfl
     have r1:W3.cell? ⟨w.heap.size+1+1+1,1,none⟩=some (.int .i64 rest.den):=by simp only[World.cell?,HST3.out.restB,fracB];rfl
     have l2:W3.cell? ⟨w.heap.size,2,none⟩=some (.int .i64 law.num):=by simp only[World.cell?,HST3.out.lawB,lawObj];rfl
     have l3:W3.cell? ⟨w.heap.size,3,none⟩=some (.int .i64 law.den):=by simp only[World.cell?,HST3.out.lawB,lawObj];rfl
     have hRl:=blk_lt HST3.out.restB
     have hLl:=blk_lt HST3.out.lawB
     have hnn:=HIV.out.nn
     have hle:=HIV.out.le
     have hsm:=HIV.out.small
     have HBD:=Lib.hid HIV.out.bd
     have HEF2:=Lib.hid hEF2
     have hLe:=trees_wide (s:=s) (stems:=law.stems) (frm:=n) hkl (generations s) n
     generalize treesP s law.stems n (generations s) n=tr at*
     have HWD:=Lib.hid hLe
     clear hEF2 hLe HEF
     by_cases he:es.length=0
     ·have hez:(((es.length:Nat):Int)==0)=true:=by rw[he];rfl
      have htr:tr=[]:=List.eq_nil_of_length_eq_zero (by have:=HL3.out;omega)
      clear he
      go_wp2_with (go_at_call 68;refine(gives_any b (w.heap.size+1+1) C (w.heap.size+1) law n hs rest x.1 x.2 _ HST3.out.heir HST3.out.mark HST3.out.has (by omega) (by omega) (by omega) HBD.out.good (HBD.out.share (by grind) hs) hsm).mono ?_;rintro e w6 ⟨rfl,g1,g2,g3⟩)
      go_meet
      have h1:=HEF2.out
      rw[htr]at h1
      rw[h1]
      exact⟨rest,HST3.out.two HN.out g3 g1 g2,(gives_bd (fl:=x.2) HBD.out hnn).up6 (by grind)⟩
     ·have hez:(((es.length:Nat):Int)==0)=false:=by simpa using he
      have hne:tr≠[]:=fun e=>he (by have:=HL3.out;rw[e]at this;exact this)
      have hte:tr.isEmpty=false:=by cases tr with|nil=>exact absurd rfl hne|cons _ _=>rfl
      have HNE:=Lib.hid hne
      clear hne he
      cases hnb:noB hs
      ·have hne1:hs.toList.isEmpty=false:=hnb
       have hne2:(!hs.toList.isEmpty)=true:=by rw[hne1];rfl
       have hEF3:=HEF2.out
       rw[hte,hnb]at hEF3
       simp only[Bool.false_eq_true,if_false]at hEF3
       have HEF3:=Lib.hid hEF3
       obtain⟨ow1,ow2,ow3⟩:=own_any hsm hlaw
       obtain⟨oo1,oo2,oo3,oo4⟩:=own_ok HIV.out.isN hnn hle hlaw
       generalize Rat.divInt law.num law.den=la at*
       generalize hown:rest*la=own at*
       have HOW:=Lib.hid ow3
       clear hEF3 ow3 hown hte hnb
       go_wp2_with (first
        |(go_at_call 72;refine(HOW.out _).mono ?_;rintro e w5 ⟨rfl,z5,rfl⟩;simp only[fracV])
        |(go_at_call 68
          refine(gives_any b (w.heap.size+1+1) C (w.heap.size+1) law n hs own x.1 x.2 _ (HST3.out.keep (k:=W3.heap.size) Bw).heir (HST3.out.keep (k:=W3.heap.size) Bw).mark (HST3.out.keep (k:=W3.heap.size) Bw).has (by omega) (by omega) (by omega) HBD.out.good (HBD.out.share (by grind) hs) oo3).mono ?_
          rintro e w6 ⟨rfl,g1,g2,g3⟩
          have hst6:=(HST3.out.keep (W':=(W3.ext z5).alloc (.cells #[.int .i64 own.num, .int .i64 own.den] 45)) (k:=W3.heap.size) Bw).two HN.out g3 g1 g2
          have HST6:=Lib.hid hst6
          have hO:w6.heap[(W3.ext z5).heap.size]?=some (fracB own):=(g3.others _ (by simp) (by simp[ext_size];omega) (by simp[ext_size];omega)).trans (J_new _ _ _ rfl)
          have q0:w6.cell? ⟨w.heap.size+1+1+1,0,none⟩=some (.int .i64 rest.num):=by simp only[World.cell?,hst6.restB,fracB];rfl
          have q1:w6.cell? ⟨w.heap.size+1+1+1,1,none⟩=some (.int .i64 rest.den):=by simp only[World.cell?,hst6.restB,fracB];rfl
          have f0:w6.frozen? ⟨w.heap.size+1+1+1,0,none⟩=false:=by simp only[World.frozen?,hst6.restB,fracB];rfl
          have f1:w6.frozen? ⟨w.heap.size+1+1+1,1,none⟩=false:=by simp only[World.frozen?,hst6.restB,fracB];rfl
          have o0:w6.cell? ⟨W3.heap.size+z5.os.size,0,none⟩=some (.int .i64 own.num):=by simp only[<-ext_size,World.cell?,hO,fracB];rfl
          have o1:w6.cell? ⟨W3.heap.size+z5.os.size,1,none⟩=some (.int .i64 own.den):=by simp only[<-ext_size,World.cell?,hO,fracB];rfl
          have hRq:=blk_lt hst6.restB
          go_loud(have hLK:=(LK.below (a:=W3) (n:=W3.heap.size) (b:=(W3.ext z5).alloc (.cells #[.int .i64 own.num, .int .i64 own.den] 45)) Bw).trans (two_line g3 (HST3.out.keep (k:=W3.heap.size) Bw).mark (HST3.out.keep (k:=W3.heap.size) Bw).has))
          go_loud(have HLK:=Lib.hid (((hLK.trans (LK.put (q:=rest-own) hst6.restB)))))
          clear hst6 hO g1 g2 g3 hLK)
        |(go_at_call 69;refine(sub5_any rest own _ hsm oo3).mono ?_;rintro e w7 ⟨rfl,z7,rfl⟩;simp only[fracV])
        |(go_at_call 73
          refine(divide_any b (w.heap.size+1+1) C (w.heap.size+1) law n (by omega) (by omega) (by omega) (generations s) es tr _ VA es.length vc (rest-own) (1-rest+own) (givesF hs own x).1 (givesF hs own x).2 _ ((HLK.out.trans (LK.below (below_ext _ z7))).items HO2'.out) HWD.out ((HLK.out.trans (LK.below (below_ext _ z7))).ro HRL.out) HNE.out HL3.out ((HST6.out.put HN.out (rest-own)).keep (below_ext _ z7)).heir ((HST6.out.put HN.out (rest-own)).keep (below_ext _ z7)).mark ((HST6.out.put HN.out (rest-own)).keep (below_ext _ z7)).has (by grind) (by grind) oo4 (gives_bd (fl:=x.2) HBD.out oo1) (by grind)).mono ?_
          rintro e w8 ⟨rfl,g1,g2,g3⟩
          have hst8:=((HST6.out.put HN.out (rest-own)).keep (below_ext _ z7)).two HN.out g3 g1 g2
          have HST8:=Lib.hid hst8
          clear hst8 g1 g2 g3))
       go_meet
       rw[HEF3.out]
       exact⟨rest-own,HST8.out,(divide_bd (fl:=(givesF hs own x).2) (show 0<=rest-own by grind) (gives_bd (n:=hs) (fl:=x.2) HBD.out oo1)).up6 (by grind)⟩
      ·have hne1:hs.toList.isEmpty=true:=hnb
       have hne2:(!hs.toList.isEmpty)=false:=by rw[hne1];rfl
       have hEF3:=HEF2.out
       rw[hte,hnb]at hEF3
       simp only[Bool.false_eq_true,if_false,if_true]at hEF3
       have HEF3:=Lib.hid hEF3
       clear hEF3 hte hnb
       go_wp2_with (go_at_call 73
                    refine(divide_any b (w.heap.size+1+1) C (w.heap.size+1) law n (by omega) (by omega) (by omega) (generations s) es tr _ VA es.length vc rest (1-rest) x.1 x.2 _ HO2'.out HWD.out HRL.out HNE.out HL3.out HST3.out.heir HST3.out.mark HST3.out.has hnn hle hsm HBD.out (by grind)).mono ?_
                    rintro e w8 ⟨rfl,g1,g2,g3⟩
                    have hst8:=HST3.out.two HN.out g3 g1 g2
                    have HST8:=Lib.hid hst8
                    clear hst8 g1 g2 g3)
       go_meet
       rw[HEF3.out]
       exact⟨rest,HST8.out,(divide_bd (fl:=x.2) hnn HBD.out).up6 (by grind)⟩
    case rest=>
     obtain⟨rest',hst,hbd⟩:=hcut
     have HBD:=Lib.hid hbd
     have hH8:=hst.heir
     have hM8:=hst.mark
     have hG8:=hst.gr
     have hS8:=hst.has
     have hh8:=blk_lt hH8
     clear hst hbd hEF2 HEF HL3 HRL HO1' HO2' HPE HIV HST3
     obtain⟨W8,rfl⟩: ∃x,x=wc:=⟨_,rfl⟩
     have hm8:=hS8.lt
     obtain⟨mm,hmm1,hnd,hget⟩:=hS8
     unfold HeirAt at hH8
     have e7:W8.cell? ⟨w.heap.size+1+1,7,none⟩=some (.map (some (w.heap.size+1))):=by simp only[World.cell?,hH8];rfl
     obtain⟨hrg,hRA⟩:=run_rangeS (P:=Tryz.prog) hmm1 (t:=130) Tryz.underlying130
     generalize hmm1.choose_spec.choose=cc at*
     generalize hmm1.choose=ce at*
     have hC8: ∀j cur,W8.heap[j]?=some (.cells cur 49 (0,0))->j≠C:=fun j cur hj e=>by
      subst e
      unfold MarkAt at hM8
      rw[hM8]at hj
      simp at hj
     have HM8:=Lib.hid hM8
     have HG8:=Lib.hid hG8
     have HGET:=Lib.hid hget
     have HND:=Lib.hid hnd
     have hs8:=hG8.size
     have HRA:=Lib.hid hRA
     clear hM8 hG8 hget hnd hRA hC8 hmm1 hH8
     go_upto_block 6 with fail
     generalize hI:W8.heap.size=I at*
     generalize hmb:w.heap.size+1=mb at*
     have HMB:=Lib.hid hmb
     have HII:=Lib.hid hI
     clear hrg
     go_wp2_with fail
     go_loopg [16] (mm.length+1) (fun gg v wr=> ∃done left,Hid ((done++left).Perm mm)/\RangeAt wr mb I ekS (fun v:Value=>v) mm left/\OwnS wr w.heap.size 49 3 partCells v (colP EF.1 done)/\MarkAt wr C EF.2/\w.grownBy wr (some C)/\left.length<gg/\I<wr.heap.size)
     case atStart=>
      refine⟨[],mm,List.Perm.refl _,HRA.out,OwnS.nil,?_,?_,by omega,by simp;omega⟩
      ·exact HM8.out.alloc _
      ·exact grown_alloc HG8.out _
     case round=>
      obtain⟨done,left,HP,hra,hown,hm,hg,hgg,hIl⟩:=hrel
      obtain⟨cl,hcl⟩: ∃cl,cl=colP EF.1 done:=⟨_,rfl⟩
      rw[<-hcl]at hown
      have HCL:=Lib.hid hcl
      clear hcl
      obtain⟨VC,vcc,rfl,_,hvcc⟩:=hown.sl part_len
      have hCb: ∀j,blkOf (.slice VC cl.length vcc)=some j->w.heap.size<=j/\j<wr.heap.size:=fun j hj=>hown.ge j hj
      rcases run_nextS (P:=Tryz.prog) hra 0 with⟨h0,hrun⟩|⟨i,p,w',hi,hrun,hra',hgr',hsz,hent⟩
      ·have hHP:=HP.out
       rw[h0,List.append_nil]at hHP
       have hcp:cl.Perm EF.1:=by
        rw[HCL.out]
        exact(hHP.filterMap (colOf EF.1)).trans (col_perm HBD.out.good HND.out HGET.out)
       have hln:cl.length<=1000000000:=by rw[hcp.length_eq];exact HBD.out.len Rat.le_refl
       have HLN:=Lib.hid hln
       have HCP:=Lib.hid hcp
       have HO:=Lib.hid hown
       have HM:=Lib.hid hm
       have HGG:=Lib.hid hg
       have HCB:=Lib.hid hCb
       clear hHP hcp hown hm hg hCb hra h0 hln
       go_wp2_with (go_at_call 74;refine(sortP_any (.slice VC cl.length vcc) cl w.heap.size _ HO.out HLN.out).mono ?_;rintro e wq ⟨rfl,L,s1,s2,s3,s4,s5⟩)
       go_ret
       have hL:L=EF.1:=parts_unique HBD.out.good (s1.trans HCP.out) s2
       rw[hL]at s3
       exact⟨_,rfl,s3,row_mark HM.out s5 (fun j hj=>by have:=HCB.out j hj;omega),row_gr HGG.out s5 (fun j hj=>(HCB.out j hj).1)⟩
      ·obtain⟨pn,pv⟩:=p
       have hpm:(pn,pv)∈mm:=HP.out.mem_iff.1 (List.mem_append_right _ (List.mem_of_getElem? hi))
       have hpv:pv=fracV (shareP EF.1 pn):=by
        have h1:=mem_mget HND.out hpm
        rcases HGET.out pn with⟨h2,_⟩|h2
        ·rw[h2]at h1;cases h1
        ·rw[h2]at h1;simpa using h1.symm
       subst hpv
       have hco:colOf EF.1 (pn,fracV (shareP EF.1 pn))=if 0<shareP EF.1 pn then some (pn,shareP EF.1 pn)else none:=rfl
       have hdp:=done_perm HP.out hi
       have hcs:=colP_snoc EF.1 done (pn,fracV (shareP EF.1 pn))
       rw[<-HCL.out,hco]at hcs
       have HDP:=Lib.hid hdp
       have HCS:=Lib.hid hcs
       have hbl:cl.length<=1000000000:=by
        have h1:(colP EF.1 (done++left)).Perm EF.1:=(HP.out.filterMap (colOf EF.1)).trans (col_perm HBD.out.good HND.out HGET.out)
        have h2:=h1.length_eq
        unfold colP at h2
        rw[List.filterMap_append,List.length_append]at h2
        have h3:=HBD.out.len Rat.le_refl
        have h4:=HCL.out
        unfold colP at h4
        rw[<-h4]at h2
        omega
       have hel:(left.eraseIdx i).length+1=left.length:=by
        have:=(List.getElem?_eq_some_iff.1 hi).1
        rw[List.length_eraseIdx_of_lt this]
        omega
       clear hdp hcs hco hpm hi
       generalize shareP EF.1 pn=q at*
       have hrun':(Instr.next (.pointer (some ⟨I,0,none⟩)) false 0).run Tryz.prog wr= .ok (.tuple #[.bool true, .string pn, .agg #[.int .i64 q.num, .int .i64 q.den]]) w':=hrun
       have hent':(Instr.entry (.pointer (some ⟨I,0,none⟩))).run Tryz.prog w'= .ok (.tuple #[.string pn, .agg #[.int .i64 q.num, .int .i64 q.den]]) w':=hent
       have hneI: ∀j,some I=some j->w.heap.size<=j:=fun j hj=>by have:=HII.out;simp at hj;omega
       have hown':=hown.grown hgr' (by
        cases hb:blkOf (.slice VC cl.length vcc)with
        |none=>exact .inl rfl
        |some j=>
         right
         intro e
         obtain⟨cur,hcur⟩:=own_cells hown hb
         exact(range_cells hra hcur).2 (by simpa using e))
       have hm':=row_mark hm hgr' (fun j hj=>by have:=hneI j hj;omega)
       have hg':=row_gr hg hgr' hneI
       have hbne: ∀j,blkOf (.slice VC cl.length vcc)=some j->w.heap.size<=j/\j≠mb/\j≠I:=fun j hj=>by
        obtain⟨cur,hcur⟩:=own_cells hown' hj
        exact⟨(hown'.ge j hj).1,range_cells hra' hcur⟩
       have HBN:=Lib.hid hbne
       have HSZ:=Lib.hid hsz
       have HRAN:=Lib.hid hra'
       have HO:=Lib.hid hown'
       have HM:=Lib.hid hm'
       have HGG:=Lib.hid hg'
       have hIl':I<w'.heap.size:=by omega
       have hws:w.heap.size<=w'.heap.size:=hg'.size
       clear hra hra' hown hown' hm hm' hg hg' hrun hent hgr' hCb hsz hbne
       by_cases hq:0<q.num
       ·have hcs2:=HCS.out
        rw[if_pos (num_pos5.2 hq)]at hcs2
        have HCS2:=Lib.hid hcs2
        clear hcs2
        go_wp2_with (at_builtin;go_loud(refine wpList_append_S (v:= .slice VC cl.length vcc) (n:=cl.length) (m:=1) rfl _ _ rfl elPart part_len part_one rfl (HO.out.keep (n:=w'.heap.size) Bw) rfl rfl rfl (sl_part (p:=(pn,q)) (J_new _ _ _ (by simp))) (by simp[maxLen];omega) (by omega) (by simp;omega) ?_);intro v3 w3 h1 h2 h3)
        have R1:=(HRAN.out.below (n:=w'.heap.size) (W_two w' _ _)).grown h2 (fun e=>(HBN.out mb e.symm).2.1 rfl) (fun e=>(HBN.out I e.symm).2.2 rfl)
        have M1:=row_mark ((HM.out.alloc _).alloc _) h2 (fun j hj=>by have:=HBN.out j hj;omega)
        have G1:=row_gr (grown_alloc (grown_alloc HGG.out _) _) h2 (fun j hj=>(HBN.out j hj).1)
        have S1:=h2.size
        simp only[World.size_alloc]at S1
        go_roundg (gk-1)
        case measure=>omega
        case rel=>exact⟨done++[(pn,fracV q)],left.eraseIdx i,HDP.out,R1,by rw[HCS2.out];exact h1,M1,G1,by omega,by omega⟩
       ·have hcs2:=HCS.out
        rw[if_neg (fun h=>hq (num_pos5.1 h))]at hcs2
        have HCS2:=Lib.hid hcs2
        clear hcs2
        go_wp2_with fail
        go_roundg (gk-1)
        case measure=>omega
        case rel=>exact⟨done++[(pn,fracV q)],left.eraseIdx i,HDP.out,HRAN.out.below (n:=w'.heap.size) Bw,by rw[HCS2.out];simpa using HO.out.keep (n:=w'.heap.size) Bw,HM.out.alloc _,grown_alloc HGG.out _,by omega,by simp;omega⟩
end Go.Proofs.YtmaidggpbihlgaaGreatDoor
