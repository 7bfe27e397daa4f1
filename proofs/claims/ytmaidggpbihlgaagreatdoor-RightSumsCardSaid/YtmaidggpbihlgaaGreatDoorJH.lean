/- Walk of chapter 5's transfer. -/
import Derived.Test.YtmaidggpbihlgaaGreatDoorJE
import Derived.Test.YtmaidggpbihlgaaGreatDoorJT
import Derived.Test.YtmaidggpbihlgaaGreatDoorJB
import Derived.Deep.Cut
import Derived.Deep.CutBlock
import Derived.Deep.RegionHeld3
set_option linter.unusedSimpArgs false
set_option linter.unusedVariables false
namespace Go.Proofs.YtmaidggpbihlgaaGreatDoor
open Go.RowKit Go.Shelf
attribute [local go_sem] World.cell?_alloc_mark ext_size ext_cell ext_frozen lt_add_r lt_add_r2 lt_add_r3 lt_add_r4 lt_add_r5 lt_add_r6 lt_add_r7 lt_add_r8
attribute [local go_sem] ext_setCell alloc_setCell_lt
theorem TombAt.kept {base k T:Nat} {W W':World} {B:List Nat} {g:Grave} {cs:Array Value} {t:TypeId} {fr:Nat×Nat} (h:TombAt W base B T g) (hg:W.grownBy W' (some k)) (hx:W.heap[k]?=some (.cells cs t fr)) (hne:T≠k) (h1:t≠49) (h2:t≠9):TombAt W' base B T g:=by
 obtain⟨H,hc,D,dc,fr',t1,t2,t3,t4,t5,t6,t7⟩:=h
 exact⟨H,hc,D,dc,fr',(hg.block T (blk_lt t1) (fun e=>hne (by simpa using e))).trans t1,t2,t3,t4,t5.kept hg hx h1,t6.kept hg hx h2,t7⟩
theorem TombAt.ne {base k T:Nat} {W:World} {B:List Nat} {g:Grave} {cs:Array Value} {t:TypeId} {fr:Nat×Nat} (h:TombAt W base B T g) (hx:W.heap[k]?=some (.cells cs t fr)) (h1:t≠86):T≠k:=by
 obtain⟨H,hc,D,dc,fr',t1,t2,_⟩:=h
 rintro rfl
 rw[t1]at hx
 simp only[Option.some.injEq,Obj.cells.injEq]at hx
 exact h1 hx.2.1.symm
theorem TombsAt.mem {base:Nat} {W:World} {B ps:List Nat} {tv:Value} {gs:List Grave} (h:TombsAt base W B tv ps gs) {T:Nat} (hT:T∈ps): ∃g,TombAt W base B T g:=by
 obtain⟨i,hi,rfl⟩:=List.getElem_of_mem hT
 exact⟨_,h.all i _ _ (List.getElem?_eq_getElem hi) (List.getElem?_eq_getElem (by have:=h.len;omega))⟩
theorem TombsAt.lt {base:Nat} {W:World} {B ps:List Nat} {tv:Value} {gs:List Grave} (h:TombsAt base W B tv ps gs) {T:Nat} (hT:T∈ps):T<W.heap.size:=by
 obtain⟨g,H,hc,D,dc,fr',t1,_⟩:=h.mem hT
 exact blk_lt t1
theorem TombsAt.kept {base k:Nat} {W W':World} {B ps:List Nat} {tv:Value} {gs:List Grave} {cs:Array Value} {t:TypeId} {fr:Nat×Nat} (h:TombsAt base W B tv ps gs) (hg:W.grownBy W' (some k)) (hx:W.heap[k]?=some (.cells cs t fr)) (h1:t≠49) (h2:t≠9) (h3:t≠86) (h4:t≠83):TombsAt base W' B tv ps gs:=
 ⟨h.own.kept hg hx h4,h.len,h.nd,fun i T g e1 e2=>(h.all i T g e1 e2).kept hg hx ((h.all i T g e1 e2).ne hx h3) h1 h2⟩
theorem wldC_set6 {W:World} {b d c p wl r:Nat} {mv tv:Value} {la co:Int} (h:WldC W b d c p wl r mv tv la co) (v':Value):WldC (W.setCell ⟨b,6,none⟩ v') b d c p wl r mv v' la co:=by
 unfold WldC at*
 have:=Joins.block_setCell (i:=6) h v'
 simpa using this
theorem wld_push {base b:Nat} {W w1:World} {B ps:List Nat} {d c p wl r T:Nat} {mv tv v':Value} {s:St} {g:Grave} {la co:Int} (hb:base<=b) (hC:WldC W b d c p wl r mv tv la co) (hP:PplAt base W B d c p wl r mv s) (hT:TombsAt base W B tv ps s.graves)
 (hN:TombAt W base B T g) (hn:T∉ps) (h1:OwnS w1 base 83 1 ptrC v' (ps++[T])) (h2:W.grownBy w1 (blkOf tv)) (h3: ∀k,blkOf v'=some k->blkOf tv=some k\/W.heap.size<=k):
 WldAt base (w1.setCell ⟨b,6,none⟩ v') b {s with graves:=s.graves++[g]} la co/\WldC w1 b d c p wl r mv tv la co:=by
 have hbl:=blk_lt hC
 have hown:=hT.own
 have hcs: ∀k,blkOf tv=some k-> ∃cs fr,W.heap[k]?=some (.cells cs 83 fr):=fun k hk=>by
  rcases hown with⟨rfl,_⟩|⟨g',o,c',cur,rfl,_,hg',_⟩
  ·cases hk
  ·simp only[blkOf,Option.some.injEq]at hk
   subst hk
   exact⟨cur,_,hg'⟩
 have hbt:blkOf tv≠some b:=fun e=>by
  obtain⟨cs,fr,hx⟩:=hcs b e
  unfold WldC at hC
  rw[hC]at hx
  simp at hx
 have hC1:WldC w1 b d c p wl r mv tv la co:=(h2.block b hbl (fun e=>hbt e.symm)).trans hC
 have hP1:PplAt base w1 B d c p wl r mv s:=by
  cases hk:blkOf tv with
  |none=>rw[hk]at h2;exact hP.keep (n:=W.heap.size) ⟨h2.os,h2.tape,h2.output,h2.size,fun i hi=>h2.block i hi (by simp)⟩
  |some k=>
   obtain⟨cs,fr,hx⟩:=hcs k hk
   rw[hk]at h2
   exact hP.kept h2 hx (by decide) (by decide) (by decide)
 have hall: ∀ {T':Nat} {g':Grave},TombAt W base B T' g'->TombAt w1 base B T' g':=fun {T' g'} h=>by
  cases hk:blkOf tv with
  |none=>rw[hk]at h2;exact h.keep (n:=W.heap.size) ⟨h2.os,h2.tape,h2.output,h2.size,fun i hi=>h2.block i hi (by simp)⟩
  |some k=>
   obtain⟨cs,fr,hx⟩:=hcs k hk
   rw[hk]at h2
   exact h.kept h2 hx (h.ne hx (by decide)) (by decide) (by decide)
 refine⟨?_,hC1⟩
 have hgs:=grown_set w1 b 6 v'
 refine⟨B,d,c,p,wl,r,mv,v',ps++[T],hb,wldC_set6 hC1 v',?_,?_⟩
 ·have:=hP1.kept hgs hC1 (by decide) (by decide) (by decide)
  exact⟨this.nd,this.ge,this.dead,this.rows,this.marr,this.wills,this.ren⟩
 ·refine⟨h1.kept hgs hC1 (by decide),by simp[hT.len],?_,fun i T' g' e1 e2=> ?_⟩
  ·rw[List.nodup_append]
   exact⟨hT.nd,by simp,fun a ha b' hb' e=>by rw[List.mem_singleton.1 hb']at e;exact hn (e▸ha)⟩
  ·have hT':TombAt w1 base B T' g':=by
    by_cases hi:i<ps.length
    ·have hi2:i<s.graves.length:=by have:=hT.len;omega
     rw[List.getElem?_append_left hi]at e1
     rw[List.getElem?_append_left hi2]at e2
     exact hall (hT.all i T' g' e1 e2)
    ·have hi1:i=ps.length:=by have:=(List.getElem?_eq_some_iff.1 e1).1;simp at this;omega
     subst hi1
     simp at e1
     rw[hT.len]at e2
     simp at e2
     subst e1 e2
     exact hall hN
   exact hT'.kept hgs hC1 (hT'.ne hC1 (by decide)) (by decide) (by decide)
def KeepD (w w':World):Prop:= ∀(k:Nat) (cur:Array Value) (fr:Nat×Nat),w.heap[k]?=some (.cells cur 56 fr)->w'.heap[k]?=w.heap[k]?
section
variable {w w' w2:World}
theorem KeepD.below (h:Below w.heap.size w w'):KeepD w w':=fun k _ _ hk=>h.block k (blk_lt hk)
theorem KeepD.trans (h:KeepD w w') (h2:KeepD w' w2):KeepD w w2:=fun k cur fr hk=>by
 have e:=h k cur fr hk
 exact(h2 k cur fr (e.trans hk)).trans e
theorem KeepD.cells {g:Nat} {cs:Array Value} {t:TypeId} {fr:Nat×Nat} (hg:w.grownBy w' (some g)) (hx:w.heap[g]?=some (.cells cs t fr)) (hne:t≠56):KeepD w w':=fun k cur f hk=>
 hg.block k (blk_lt hk) (fun e=>by
  simp only[Option.some.injEq]at e
  subst e
  rw[hx]at hk
  simp only[Option.some.injEq,Obj.cells.injEq]at hk
  exact hne hk.2.1)
theorem KeepD.map {g:Nat} {es:Array MapEntry} {c:Nat} (hg:w.grownBy w' (some g)) (hx:w.heap[g]?=some (.map es c)):KeepD w w':=fun k cur f hk=>
 hg.block k (blk_lt hk) (fun e=>by
  simp only[Option.some.injEq]at e
  subst e
  rw[hx]at hk
  simp at hk)
theorem KeepD.own {α:Type} {base:Nat} {e:TypeId} {size:Nat} {f:α->List Value} {v:Value} {xs:List α} (h:OwnS w base e size f v xs) (hg:w.grownBy w' (blkOf v)) (hne:e≠56):KeepD w w':=by
 rcases h with⟨rfl,_⟩|⟨g,o,c,cur,rfl,_,hx,_⟩
 ·exact fun k cur f hk=>hg.block k (blk_lt hk) (by simp[blkOf])
 ·exact KeepD.cells hg hx hne
end
def TakePost (base b:Nat) (x:St×Int) (la co:Int) (w:World) (e:Ending) (w':World):Prop:=
 e= .returned (.int .i64 x.2)/\WldAt base w' b x.1 la co/\Below base w w'/\KeepD w w'
def Deed.v (d:Deed) (B:Option Addr) (c:Nat):Value:= .agg #[.int .i64 d.kind, .int .i64 d.day, .string d.place, .string d.frm, .slice B d.to.length c, .int .i64 d.cls, .int .i64 d.years]
theorem rpart_rat {p:RPart} (h:isShareP 16 p.num p.den=true):p.rat.num=p.num/\(p.rat.den:Int)=p.den:=⟨(share_rat h).1,(share_rat h).2.1⟩
theorem given_snoc (l:List RPart) {k:Nat} (h:k<l.length):givenAll (l.take (k+1)) []=givenP (givenAll (l.take k) []) l[k].name l[k].rat:=by
 rw[List.take_succ_eq_append_getElem h]
 unfold givenAll
 rw[List.foldl_append]
 rfl
theorem sl_ptr {w:World} {b T:Nat} {t:TypeId} {fr:Nat×Nat} (h:w.heap[b]?=some (.cells #[.pointer (some ⟨T,0,none⟩)] t fr)):Sl w 1 ptrC (some ⟨b,0,none⟩) [T]:=fun _=>⟨b,0,rfl,blk_lt h,fun k y hy j u hu=>by
 have hk:k=0:=by have:=(List.getElem?_eq_some_iff.1 hy).1;simp at this;omega
 subst hk
 simp only[List.getElem?_cons_zero,Option.some.injEq]at hy
 subst hy
 match j,hu with
 |0,hu=>simp[ptrC]at hu;simp[World.cell?,h,<-hu]
 |j+1,hu=>simp[ptrC]at hu⟩
theorem firsts_share: ∀ {l:List RPart} {out:Parts} {seen:List ByteArray},firstsP l seen=true->(∀p∈out,p.1∈seen)-> ∀k (h:k<l.length),shareP (givenAll (l.take k) out) l[k].name=0
 | [],_,_,_,_,_,h=>absurd h (by simp)
 |p::l,out,seen,hf,ho,0,_=>by
  rw[firstsP,Bool.and_eq_true]at hf
  have h1:p.name∉seen:=by
   have:=hf.1
   simp only[Bool.not_eq_true']at this
   intro h
   rw[any_same.2 h]at this
   cases this
  exact(share_none fun q hq e=>h1 (by have e':q.1=p.name:=e;rw[<-e'];exact ho q hq)).1
 |p::l,out,seen,hf,ho,k+1,h=>by
  rw[firstsP,Bool.and_eq_true]at hf
  exact firsts_share (l:=l) (out:=givenP out p.name p.rat) hf.2 (fun q hq=>by
   rcases given_mem hq with e|hq
   ·rw[e];simp
   ·exact List.mem_cons_of_mem _ (ho q hq)) k (by simpa using h)
theorem take_same {base b:Nat} {s:St} {x:St×Int} {la co er:Int} {w w':World} (hW:WldAt base w b s la co) (hB:Below w.heap.size w w') (hx:x=(s,er)):TakePost base b x la co w (.returned (.int .i64 er)) w':=by
 rw[hx]
 exact⟨rfl,hW.keep hB,hB.mono (by have:=hW.lt;omega),KeepD.below hB⟩
theorem parts_split {shares all:Bool} {frm:ByteArray} {l:List RPart} (h:partsOk shares all frm l=true):firstsP l []=true/\ ∀p∈l,sameB p.name frm=false:=by
 unfold partsOk at h
 simp only[Bool.and_eq_true,List.all_eq_true,Bool.not_eq_true']at h
 exact⟨h.1.1,h.1.2⟩
theorem set_lit (base T:Nat) (xs:Parts) (v:Value) (pl:ByteArray) (cl fr en:Int) (dv:Value) (p:RPart) (w:World) (hp:isShareP 16 p.num p.den=true) (hT:TombC w T pl cl fr en v dv) (hbT:base<=T) (hown:OwnS w base 49 3 partCells v xs) (hA:AscP xs) (hl:xs.length<=90000):
 Calls Tryz.prog 131 #[.pointer (some ⟨T,0,none⟩), .string p.name, .agg #[.int .i64 p.num, .int .i64 p.den]] w (SetPost w base T pl cl fr en dv v (setP xs p.name p.rat)):=by
 have h:=set_any base T xs v pl cl fr en dv p.name p.rat w hT hbT hown hA hl
 rw[(rpart_rat hp).1,(rpart_rat hp).2]at h
 exact h
theorem good_take {l:List RPart} (h: ∀p∈l,0<p.rat/\IsN 720720 p.rat/\isShareP 16 p.num p.den=true) (k:Nat):GoodParts (givenAll (l.take k) []):=
 (given_all (l:=l.take k) good_nil (by simp) fun p hp=>⟨(h p (List.mem_of_mem_take hp)).1,(h p (List.mem_of_mem_take hp)).2.1⟩).1
theorem given_len (n:ByteArray) (q:Rat): ∀l:Parts,(givenP l n q).length<=l.length+1
 | []=>by unfold givenP;split<;>simp
 |p::l=>by
  have:=given_len n q l
  unfold givenP
  split
  ·simp
  ·split
   ·simpa using this
   ·split<;>simp<;>omega
theorem givenAll_len: ∀(l:List RPart) (out:Parts),(givenAll l out).length<=out.length+l.length
 | [],out=>by simp[givenAll]
 |p::l,out=>by
  have h1:=givenAll_len l (givenP out p.name p.rat)
  have h2:=given_len p.name p.rat out
  show(givenAll l (givenP out p.name p.rat)).length<=_
  simp
  omega
set_option maxRecDepth 100000 in
set_option maxHeartbeats 2000000 in
theorem grant_any (base b:Nat) (s:St) (la co:Int) (d:Deed) (B:Option Addr) (c:Nat) (w:World) (hW:WldAt base w b s la co) (hL:LensIn w) (hd:OkD d) (hk:d.kind=0) (hlen:s.graves.length<=1000) (hcap:d.to.length<=c) (hS:Sl w 3 RPart.cells B d.to):
 Calls Tryz.prog 81 #[.pointer (some ⟨b,0,none⟩),d.v B c] w (TakePost base b (grantP s d) la co w):=by
 have hW0:=hW
 obtain⟨Bk,dd,cc,pp,wl,rr,mv,tv,ps,hb0,hC,hP,hT⟩:=hW
 have hp:=(hd.parts (.inl hk)).2
 have hsh:=(parts_ok hp).1
 have hfi:=(parts_split hp).1
 have hd1:=hd.day
 have hd2:=hd.years
 have hdl:=hd.len
 clear hp hd hk
 obtain⟨kd,dy,pl,fr,ts,cl,yr⟩:=d
 simp only at*
 have hbl:=blk_lt hC
 have HIN:=Lib.hid (fun W (hB:Below w.heap.size w W)=>in_any base b s la co pl dy W (hC.keep hB) (hT.keep hB) (by omega))
 have HAD:=Lib.hid (fun W (hB:Below w.heap.size w W)=>anyDead_any base b s ts B _ c W rfl (by omega) (hW0.peo.keep hB) (hS.keep hB))
 have HLT:=Lib.hid (fun W (hB:Below w.heap.size w W)=>later5_any dy yr W (hL.keep hB) hd1.1 hd1.2 hd2.1 hd2.2)
 have HW:=Lib.hid hW0
 have HSH:=Lib.hid hsh
 have HFI:=Lib.hid hfi
 have HC:=Lib.hid hC
 have HP:=Lib.hid hP
 have HT:=Lib.hid hT
 have HS:=Lib.hid hS
 clear hW0 hC hP hT hS hsh hfi hL
 unfold Deed.v
 simp only
 go_enter Tryz.func81,Tryz.ntmps81
 go_upto_block 0 with fail
 cases hix:graveIx s pl dy with
 |some i=>
  rw[hix]at HIN
  have HG:Hid (grantP s ⟨kd,dy,pl,fr,ts,cl,yr⟩=(s,13)):=by show _=_;simp[grantP,hix]
  clear hix
  go_wp2_with (go_at_call 31;refine(HIN.out _ Bw).mono ?_;rintro e wq ⟨rfl,z,rfl⟩;simp only[ptrOf,Option.map_some])
  go_ret
  exact take_same HW.out Bw HG.out
 |none=>
  rw[hix]at HIN
  have HIX:=Lib.hid hix
  clear hix
  go_cut [5]from 9 (fun v wc=>v= .int .i64 (if decide (0<yr)then afterP dy yr else-1)/\Hid (grantP s ⟨kd,dy,pl,fr,ts,cl,yr⟩=({s with graves:=s.graves++[⟨pl,cl,if decide (0<yr)then afterP dy yr else-1,givenAll ts [],[]⟩]},0))/\Below w.heap.size w wc/\w.heap.size<wc.heap.size/\wc.heap[w.heap.size]?=some (.cells #[.int .i64 kd, .int .i64 dy, .string pl, .string fr, .slice B ts.length c, .int .i64 cl, .int .i64 yr] 56))
  case first=>
   generalize hR:afterP dy yr=R at*
   have HR:=Lib.hid hR
   clear hR
   go_wp2_with (first
    |(go_at_call 31;refine(HIN.out _ Bw).mono ?_;rintro e wq ⟨rfl,z,rfl⟩;simp only[ptrOf,Option.map_none])
    |(go_at_call 129;refine(HAD.out _ Bw).mono ?_;intro e wq hq;rcases Ret.bools hq with⟨zq,rfl,⟨hb,rfl⟩|⟨hb,rfl⟩⟩<;>clear hq)
    |(go_at_call 130;refine(HLT.out _ Bw).mono ?_;rintro e wq ⟨rfl,z2,rfl⟩))
   all_goals first
    |(go_ret
      exact take_same HW.out Bw (by simp[grantP,HIX.out,HR.out, *]))
    |(go_meet
      refine⟨(by first|(simp[*];done)|(simp[*];omega)),(by first|(simp[grantP,HIX.out,HR.out, *];done)|(simp[grantP,HIX.out,HR.out, *];omega):_=_),Bw,by simp[ext_size];omega,?_⟩
      repeat(first|exact J_new _ _ _ rfl|with_reducible refine J_ext ?_|with_reducible refine J_alloc ?_))
  case rest=>
   obtain⟨rfl,HG,hB,hsz,g0⟩:=hcut
   generalize(if decide (0<yr)=true then afterP dy yr else-1)=en at*
   clear HIN HAD HLT
   have d0:wc.cell? ⟨w.heap.size,0,none⟩=some (.int .i64 kd):=by simp only[World.cell?,g0];rfl
   have d1:wc.cell? ⟨w.heap.size,1,none⟩=some (.int .i64 dy):=by simp only[World.cell?,g0];rfl
   have d2:wc.cell? ⟨w.heap.size,2,none⟩=some (.string pl):=by simp only[World.cell?,g0];rfl
   have d3:wc.cell? ⟨w.heap.size,3,none⟩=some (.string fr):=by simp only[World.cell?,g0];rfl
   have d4:wc.cell? ⟨w.heap.size,4,none⟩=some (.slice B ts.length c):=by simp only[World.cell?,g0];rfl
   have d5:wc.cell? ⟨w.heap.size,5,none⟩=some (.int .i64 cl):=by simp only[World.cell?,g0];rfl
   have d6:wc.cell? ⟨w.heap.size,6,none⟩=some (.int .i64 yr):=by simp only[World.cell?,g0];rfl
   have hne:w.heap.size≠wc.heap.size:=by omega
   have hbT:base<=wc.heap.size:=by omega
   have hps:wc.heap.size∉ps:=fun h=>by have:=HT.out.lt h;omega
   have G0:=Lib.hid g0
   clear g0
   go_wp2_with fail
   go_loopw [45] (fun i wr=> ∃(k:Nat) (v:Value),k<=ts.length/\i= .int .i64 k/\TombC wr wc.heap.size pl cl dy en v (.slice none 0 0)/\OwnS wr wc.heap.size 49 3 partCells v (givenAll (ts.take k) [])/\Below wc.heap.size wc wr) (fun i _=>ts.length-(intOf i).toNat)
   case atStart=>exact⟨0, .slice none 0 0,Nat.zero_le _,rfl,J_new _ _ _ rfl,OwnS.nil,Bw⟩
   case round=>
    obtain⟨k,v,hk,rfl,hTC,hOw,hBr⟩:=hrel
    have hBw:Below w.heap.size w wr:=hB.trans (hBr.mono (by omega))
    have hwr:=hBr.size
    have hTl:=blk_lt hTC
    have hgd:=good_take HSH.out k
    have hgl:=givenAll_len (ts.take k) []
    have hgl2:(ts.take k).length<=8:=by rw[List.length_take];omega
    have HGD:=Lib.hid hgd
    simp only[List.length_nil,Nat.zero_add]at hgl
    clear hgd
    by_cases hlt:k<ts.length
    ·obtain⟨b',off,rfl,hb',hc⟩:=(HS.out.keep hBw).at hlt
     have hsp:=firsts_share (out:=[]) HFI.out (by simp) k hlt
     have hpm:=HSH.out ts[k] (List.getElem_mem hlt)
     have hgs:=given_snoc ts hlt
     generalize ts[k]=p at*
     obtain⟨pn,pu,pd⟩:=p
     have h0:wr.cell? ⟨b',off+k*3,none⟩=some (.string pn):=hc 0 _ rfl
     have h1:wr.cell? ⟨b',off+k*3+1,none⟩=some (.int .i64 pu):=hc 1 _ rfl
     have h2:wr.cell? ⟨b',off+k*3+2,none⟩=some (.int .i64 pd):=hc 2 _ rfl
     have HN:Hid (setP (givenAll (ts.take k) []) pn (RPart.rat ⟨pn,pu,pd⟩)=givenAll (ts.take (k+1)) []):=by
      show _=_
      have:=set_given HGD.out (n:=pn) (q:=RPart.rat ⟨pn,pu,pd⟩) (by have:=hpm.1;grind)
      simp only at hsp
      rw[hsp,Rat.zero_add]at this
      rw[this,hgs]
     have HSET:=Lib.hid (fun W (hB':Below wr.heap.size wr W)=>set_lit wc.heap.size wc.heap.size (givenAll (ts.take k) []) v pl cl dy en (.slice none 0 0) ⟨pn,pu,pd⟩ W hpm.2.2 ((hB'.block _ hTl).trans hTC) (Nat.le_refl _) (hOw.keep hB') HGD.out.asc (by omega))
     have hki:(k:Int)<(ts.length:Int):=by omega
     have hk0:(0:Int)<=(k:Int):=by omega
     have hkc:(k:Int)<=(c:Int):=by omega
     clear hc hsp hpm hgs hTC hOw
     go_wp2_with (go_at_call 131;refine(HSET.out _ Bw).mono ?_;rintro e wq ⟨rfl,v',t1,t2,t3,_⟩)
     go_round
     case rel=>exact⟨k+1,v',by omega,by go_num,t1,by rw[<-HN.out];exact t2,Below.trans Bw t3⟩
     case measure=>simp[intOf];omega
    ·have hki: ¬(k:Int)<(ts.length:Int):=by omega
     rw[List.take_of_length_le (by omega)]at hOw
     obtain⟨HA,hac,rfl,hlc,hro⟩:=hOw.ro
     have hN:TombAt wr base Bk wc.heap.size ⟨pl,cl,en,givenAll ts [],[]⟩:=⟨HA,hac,none,0,dy,hTC,hbT,hlc,Nat.le_refl _,hro,Ro.nil,by simp⟩
     have HN:=Lib.hid hN
     have hCr:WldC wr b dd cc pp wl rr mv tv la co:=HC.out.keep hBw
     unfold WldC at hCr
     have c6:wr.cell? ⟨b,6,none⟩=some tv:=by simp only[World.cell?,hCr];rfl
     have hbl2:b<wr.heap.size:=blk_lt hCr
     have hpl:ps.length<=1000:=by rw[HT.out.len];exact hlen
     have hge:=HT.out.own.ge
     have HGE:=Lib.hid hge
     clear hTC hOw hro hN hCr hge
     go_wp2_with (at_builtin
                  go_loud(refine wpList_append_S (v:=tv) (n:=ps.length) (m:=1) rfl _ _ rfl elTomb ptrC_len ptrC_one rfl (HT.out.own.keep (n:=w.heap.size) Bw) rfl rfl rfl (sl_ptr (J_new _ _ _ rfl)) (by simp[maxLen];omega) (by omega) (by simp;omega) ?_)
                  intro v3 w3 h1 h2 h3
                  obtain⟨A3,q3,hv3,_,_⟩:=h1.sl ptrC_len
                  rw[List.length_append]at hv3
                  subst hv3
                  go_loud(obtain⟨hpost,hc3⟩:=wld_push hb0 (HC.out.keep (n:=w.heap.size) Bw) (HP.out.keep (n:=w.heap.size) Bw) (HT.out.keep (n:=w.heap.size) Bw) (HN.out.keep (n:=wr.heap.size) Bw) hps h1 h2 h3)
                  have HPO:=Lib.hid hpost
                  go_loud(have hb3:=Below.grown (B:=base) (a:=w) (Below.mono (B:=w.heap.size) Bw (by omega)) h2 (by simp;omega) (fun j hj=>(HGE.out j hj).1))
                  go_loud(have hkd:=((KeepD.below (w:=w) Bw).trans (KeepD.own (HT.out.own.keep (n:=w.heap.size) Bw) h2 (by decide))).trans (KeepD.cells (grown_set w3 b 6 (.slice A3 (ps.length+[wc.heap.size].length) q3)) hc3 (by decide)))
                  have HKD:=Lib.hid hkd
                  unfold WldC at hc3
                  have k6:w3.cell? ⟨b,6,none⟩=some tv:=(by simp only[World.cell?,hc3];rfl)
                  have f6:w3.frozen? ⟨b,6,none⟩=false:=(by simp only[World.frozen?,hc3];rfl)
                  have HB3:=Lib.hid hb3
                  clear hpost hc3 hb3 h1 h2 h3 hkd)
     go_ret
     rw[HG.out]
     exact⟨rfl,HPO.out,B_set HB3.out hb0 _,HKD.out⟩
end Go.Proofs.YtmaidggpbihlgaaGreatDoor
namespace Go.Proofs.YtmaidggpbihlgaaGreatDoor
open Go.RowKit Go.Shelf
attribute [local go_sem] World.cell?_alloc_mark ext_size ext_cell ext_frozen lt_add_r lt_add_r2 lt_add_r3 lt_add_r4 lt_add_r5 lt_add_r6 lt_add_r7 lt_add_r8
attribute [local go_sem] ext_setCell alloc_setCell_lt
def ClonePost {α:Type} (w:World) (e:TypeId) (size:Nat) (f:α->List Value) (xs:List α) (en:Ending) (w':World):Prop:=
 ∃v,en= .returned v/\OwnS w' w.heap.size e size f v xs/\Below w.heap.size w w'
set_option maxRecDepth 100000 in
set_option maxHeartbeats 2000000 in
theorem clonePart_any (xs:List (ByteArray×Rat)) (L:Option Addr) (n lc:Nat) (w:World) (hn:n=xs.length) (hl:xs.length<=100000) (hS:Sl w 3 partCells L xs):
 Calls Tryz.prog 87 #[.slice L n lc] w (ClonePost w 49 3 partCells xs):=by
 have HM:=Lib.hid hn
 have q22: ∀(w:World) (a:Option Addr) (n c n' c':Nat),(binOp .eql 41 (.slice a n c) (.slice none n' c')).run Tryz.prog w= .ok (.bool a.isNone) w:=fun w a n c n' c'=>Lib.run_eql_slice_nil w _ _ a n c n' c' Tryz.underlying41
 clear hn
 go_enter Tryz.func87,Tryz.ntmps87
 cases L with
 |none=>
  have h0:xs=[]:=by
   cases xs with
   |nil=>rfl
   |cons y ys=>obtain⟨b,off,h,_⟩:=hS (by simp);cases h
  subst h0
  go_wp2_with fail
  go_ret
  exact⟨_,rfl,OwnS.nil,Below.refl _ _⟩
 |some ad=>
  go_wp2_with (at_builtin;refine wpList_append_sl rfl _ _ rfl elPart part_len part_one rfl (World.ownsRow_made w #[] 0 (Nat.le_refl _) (Nat.zero_le _) (by simp)) rfl HM.out (hS.keep Bw) ?q1 ?q2 (by simp) ?_)
  case q1=>simp[maxLen,HM.out];omega
  case q2=>simp[HM.out];omega
  intro v' w' h1 h2 h3
  go_wp2_with fail
  go_ret
  refine⟨v',rfl,OwnS.of_own part_len (by simpa[HM.out]using h1),Below.grown Bw h2 (by simp) (by intro k hk;simp[Value.ownBlock]at hk;omega)⟩
set_option maxRecDepth 100000 in
set_option maxHeartbeats 2000000 in
theorem cloneStr_any (xs:List ByteArray) (L:Option Addr) (n lc:Nat) (w:World) (hn:n=xs.length) (hl:xs.length<=100000) (hS:Sl w 1 sC L xs):
 Calls Tryz.prog 134 #[.slice L n lc] w (ClonePost w 9 1 sC xs):=by
 have HM:=Lib.hid hn
 have q22: ∀(w:World) (a:Option Addr) (n c n' c':Nat),(binOp .eql 33 (.slice a n c) (.slice none n' c')).run Tryz.prog w= .ok (.bool a.isNone) w:=fun w a n c n' c'=>Lib.run_eql_slice_nil w _ _ a n c n' c' Tryz.underlying33
 clear hn
 go_enter Tryz.func134,Tryz.ntmps134
 cases L with
 |none=>
  have h0:xs=[]:=by
   cases xs with
   |nil=>rfl
   |cons y ys=>obtain⟨b,off,h,_⟩:=hS (by simp);cases h
  subst h0
  go_wp2_with fail
  go_ret
  exact⟨_,rfl,OwnS.nil,Below.refl _ _⟩
 |some ad=>
  go_wp2_with (at_builtin;refine wpList_append_sl rfl _ _ rfl elStr5 sC_len sC_one rfl (World.ownsRow_made w #[] 0 (Nat.le_refl _) (Nat.zero_le _) (by simp)) rfl HM.out (hS.keep Bw) ?q1 ?q2 (by simp) ?_)
  case q1=>simp[maxLen,HM.out];omega
  case q2=>simp[HM.out];omega
  intro v' w' h1 h2 h3
  go_wp2_with fail
  go_ret
  refine⟨v',rfl,OwnS.of_own sC_len (by simpa[HM.out]using h1),Below.grown Bw h2 (by simp) (by intro k hk;simp[Value.ownBlock]at hk;omega)⟩
def MarkAt (W:World) (C:Nat) (f:Bool):Prop:=W.heap[C]?=some (.cells #[.bool f] 97)
theorem MarkAt.drew {W:World} {C:Nat} {f:Bool} (h:MarkAt W C f):MarkAt W.drew C f:=h
theorem MarkAt.ext {W:World} {C:Nat} {f:Bool} (h:MarkAt W C f) (z:Ez):MarkAt (W.ext z) C f:=J_ext h
theorem MarkAt.alloc {W:World} {C:Nat} {f:Bool} (h:MarkAt W C f) (o:Obj):MarkAt (W.alloc o) C f:=J_alloc h
theorem MarkAt.keep {n:Nat} {W W':World} {C:Nat} {f:Bool} (h:MarkAt W C f) (hB:Below n W W') (hn:C<n):MarkAt W' C f:=(hB.block C hn).trans h
theorem MarkAt.grown {W W':World} {C:Nat} {f:Bool} {k:Nat} (h:MarkAt W C f) (hg:W.grownBy W' (some k)) (hn:C≠k):MarkAt W' C f:=(hg.block C (blk_lt h) (fun e=>hn (by simpa using e))).trans h
theorem B_cell {n b o:Nat} {w W:World} (h:Below n w W) (hb:b<n):W.cell? ⟨b,o,none⟩=w.cell? ⟨b,o,none⟩:=h.cell (p:=⟨b,o,none⟩) hb
theorem G_cell {k b o:Nat} {w W:World} (h:w.grownBy W (some k)) (hb:b<w.heap.size) (hk:b≠k):W.cell? ⟨b,o,none⟩=w.cell? ⟨b,o,none⟩:=
 World.cell?_of_block (w:=w) (h.block b hb (fun e=>hk (by simpa using e)))
def MarkPost (w:World) (C:Nat) (f:Bool) (r:Rat) (e:Ending) (w':World):Prop:=
 e= .returned (fracV (seenQ r))/\MarkAt w' C (f||bigQ r)/\w.grownBy w' (some C)
theorem grown_of_ext (w:World) (z:Ez) (row:Option Nat):w.grownBy (w.ext z) row:=grown_ext (grown_refl w row) z
theorem mark_seen {w w':World} {C:Nat} {f:Bool} {r:Rat} {e:Ending} (hC:MarkAt w C f) (h:SeenPost w C r e w'):MarkPost w C f r e w':=by
 unfold MarkAt at hC
 rcases h with⟨hd,rfl,z,rfl⟩|⟨hd,rfl,z,rfl⟩
 ·have hb:bigQ r=false:=by unfold bigQ;simp;omega
  refine⟨by rw[seen_of hb],?_,grown_of_ext _ _ _⟩
  rw[hb,Bool.or_false]
  exact J_ext hC
 ·have hb:bigQ r=true:=by unfold bigQ;simp;omega
  refine⟨by unfold seenQ;rw[hb];rfl,?_,grown_ext (grown_set _ _ _ _) z⟩
  rw[hb,Bool.or_true]
  refine J_ext ?_
  have:=Joins.block_setCell (i:=0) hC (.bool true)
  simpa using this
theorem mark_cells {w:World} {C:Nat} {f:Bool} (hC:MarkAt w C f):w.cell? ⟨C,0,none⟩=some (.bool f)/\C<w.heap.size/\w.frozen? ⟨C,0,none⟩=false:=by
 have h:=blk_lt hC
 unfold MarkAt at hC
 exact⟨by simp[World.cell?,hC],h,by simp[World.frozen?,hC]⟩
theorem mulM_any (C:Nat) (f:Bool) (w:World) (hC:MarkAt w C f) (p q:Rat) (hp:small5 p) (hq:small5 q):Calls Tryz.prog 122 #[.pointer (some ⟨C,0,none⟩),fracV p,fracV q] w (MarkPost w C f (p*q)):=
 (cmul5_any C f w (mark_cells hC).1 (mark_cells hC).2.1 (mark_cells hC).2.2 p q hp hq).mono fun _ _ h=>mark_seen hC h
theorem addM_any (C:Nat) (f:Bool) (w:World) (hC:MarkAt w C f) (p q:Rat) (hp:small5 p) (hq:small5 q):Calls Tryz.prog 119 #[.pointer (some ⟨C,0,none⟩),fracV p,fracV q] w (MarkPost w C f (p+q)):=
 (cadd5_any C f w (mark_cells hC).1 (mark_cells hC).2.1 (mark_cells hC).2.2 p q hp hq).mono fun _ _ h=>mark_seen hC h
theorem quoM_any (C:Nat) (f:Bool) (w:World) (hC:MarkAt w C f) (p q:Rat) (hp:small5 p) (hq:small5 q) (h0:0<q):Calls Tryz.prog 133 #[.pointer (some ⟨C,0,none⟩),fracV p,fracV q] w (MarkPost w C f (p/q)):=
 (cquo5_any C f w (mark_cells hC).1 (mark_cells hC).2.1 (mark_cells hC).2.2 p q hp hq h0).mono fun _ _ h=>mark_seen hC h
theorem wld_store {base b i T:Nat} {W W':World} {B ps:List Nat} {d c p wl r:Nat} {mv tv:Value} {s:St} {g':Grave} {la co:Int} {cs:Array Value} {fr:Nat×Nat} (hb:base<=b) (hC:WldC W b d c p wl r mv tv la co) (hP:PplAt base W B d c p wl r mv s) (hT:TombsAt base W B tv ps s.graves)
 (hi:ps[i]?=some T) (hx:W.heap[T]?=some (.cells cs 86 fr)) (hg:W.grownBy W' (some T)) (hN:TombAt W' base B T g'):WldAt base W' b (s.withGrave i g') la co:=by
 have hbT:b≠T:=fun e=>by
  subst e
  unfold WldC at hC
  rw[hC]at hx
  simp at hx
 have hC':WldC W' b d c p wl r mv tv la co:=(hg.block b (blk_lt hC) (fun e=>hbT (by simpa using e))).trans hC
 refine⟨B,d,c,p,wl,r,mv,tv,ps,hb,hC',?_,?_⟩
 ·have:=hP.kept hg hx (by decide) (by decide) (by decide)
  exact⟨this.nd,this.ge,this.dead,this.rows,this.marr,this.wills,this.ren⟩
 ·refine⟨hT.own.kept hg hx (by decide),by simp[St.withGrave,hT.len],hT.nd,fun j T' g e1 e2=> ?_⟩
  simp only[St.withGrave]at e2
  by_cases hj:i=j
  ·subst hj
   rw[hi]at e1
   have hil:i<s.graves.length:=by have:=(List.getElem?_eq_some_iff.1 hi).1;have:=hT.len;omega
   rw[List.getElem?_set_self hil]at e2
   simp only[Option.some.injEq]at e1 e2
   subst e1 e2
   exact hN
  ·rw[List.getElem?_set_ne hj]at e2
   have hne:T'≠T:=fun e=>by
    subst e
    exact hj ((List.getElem?_inj (List.getElem?_eq_some_iff.1 hi).1 hT.nd).1 (hi.trans e1.symm))
   exact(hT.all j T' g e1 e2).kept hg hx hne (by decide) (by decide)
theorem grave_tomb {base:Nat} {W:World} {B ps:List Nat} {tv:Value} {s:St} {place:ByteArray} {day:Int} {i:Nat} (hT:TombsAt base W B tv ps s.graves) (h:graveIx s place day=some i):
 ∃T g,ps[i]?=some T/\ps.getD i 0=T/\s.graves[i]?=some g/\s.graves.getD i zeroG=g/\TombAt W base B T g/\inForceP g day=true:=by
 obtain⟨g,h1,h2,h3⟩:=graveIx_some h
 have hi:i<ps.length:=by have:=(List.getElem?_eq_some_iff.1 h1).1;have:=hT.len;omega
 refine⟨ps[i],g,List.getElem?_eq_getElem hi,by rw[List.getD_eq_getElem?_getD,List.getElem?_eq_getElem hi];rfl,h1,grave_at h1,hT.all i _ g (List.getElem?_eq_getElem hi) h1,h3⟩
theorem tomb_set6 {W:World} {T:Nat} {cs0 cs1 cs2 cs3 cs4 cs5:Value} {fr:Nat×Nat} (h:W.heap[T]?=some (.cells #[cs0,cs1,cs2,cs3,cs4,cs5] 86 fr)) (a0 a1 a2 a3 a4 a5:Value):
 ((((((W.setCell ⟨T,0,none⟩ a0).setCell ⟨T,1,none⟩ a1).setCell ⟨T,2,none⟩ a2).setCell ⟨T,3,none⟩ a3).setCell ⟨T,4,none⟩ a4).setCell ⟨T,5,none⟩ a5).heap[T]?=some (.cells #[a0,a1,a2,a3,a4,a5] 86 fr):=by
 have:=Joins.block_setCell (i:=5) (Joins.block_setCell (i:=4) (Joins.block_setCell (i:=3) (Joins.block_setCell (i:=2) (Joins.block_setCell (i:=1) (Joins.block_setCell (i:=0) h a0) a1) a2) a3) a4) a5
 simpa using this
theorem grown_tomb6 (W:World) (T:Nat) (a0 a1 a2 a3 a4 a5:Value):W.grownBy ((((((W.setCell ⟨T,0,none⟩ a0).setCell ⟨T,1,none⟩ a1).setCell ⟨T,2,none⟩ a2).setCell ⟨T,3,none⟩ a3).setCell ⟨T,4,none⟩ a4).setCell ⟨T,5,none⟩ a5) (some T):=
 grown_trans (grown_trans (grown_trans (grown_trans (grown_trans (grown_set _ _ _ _) (grown_set _ _ _ _)) (grown_set _ _ _ _)) (grown_set _ _ _ _)) (grown_set _ _ _ _)) (grown_set _ _ _ _)
end Go.Proofs.YtmaidggpbihlgaaGreatDoor
namespace Go.Proofs.YtmaidggpbihlgaaGreatDoor
open Go.RowKit Go.Shelf
attribute [local go_sem] World.cell?_alloc_mark ext_size ext_cell ext_frozen lt_add_r lt_add_r2 lt_add_r3 lt_add_r4 lt_add_r5 lt_add_r6 lt_add_r7 lt_add_r8
attribute [local go_sem] ext_setCell alloc_setCell_lt
def restQ (l:List RPart):Rat:=1-sumQ (ratParts l)
theorem rest_snoc (l:List RPart) {k:Nat} (h:k<l.length):restQ (l.take (k+1))=restQ (l.take k)-l[k].rat:=by
 have hs: ∀a b:Parts,sumQ (a++b)=sumQ a+sumQ b:=fun a b=>by
  induction a with
  |nil=>rw[List.nil_append,sumQ,Rat.zero_add]
  |cons x a ih=>rw[List.cons_append,sumQ,sumQ,ih];grind
 unfold restQ
 rw[List.take_succ_eq_append_getElem h]
 unfold ratParts
 rw[List.map_append,hs]
 simp only[List.map_cons,List.map_nil,sumQ]
 grind
theorem sum_take {l:List RPart} (h: ∀p∈l,0<p.rat): ∀k,0<=sumQ (ratParts (l.take k))/\sumQ (ratParts (l.take k))<=sumQ (ratParts l):=fun k=>by
 have hs: ∀a b:Parts,sumQ (a++b)=sumQ a+sumQ b:=fun a b=>by
  induction a with
  |nil=>rw[List.nil_append,sumQ,Rat.zero_add]
  |cons x a ih=>rw[List.cons_append,sumQ,sumQ,ih];grind
 have hp: ∀m:List RPart,(∀p∈m,0<p.rat)->0<=sumQ (ratParts m):=fun m hm=>sum_nonneg fun p hp=>by
  obtain⟨q,hq,rfl⟩:=List.mem_map.1 hp
  have:=hm q hq
  show 0<=q.rat
  grind
 refine⟨hp _ fun p hp=>h p (List.mem_of_mem_take hp),?_⟩
 have h2:=hp (l.drop k) fun p hp=>h p (List.mem_of_mem_drop hp)
 have e:ratParts l=ratParts (l.take k)++ratParts (l.drop k):=by
  unfold ratParts
  rw[<-List.map_append,List.take_append_drop]
 rw[e,hs]
 grind
theorem rest_fits {l:List RPart} (h: ∀p∈l,0<p.rat/\IsN 720720 p.rat/\isShareP 16 p.num p.den=true): ∀k,Fits (restQ (l.take k))
 |0=>by
  show Fits (1-0)
  rw[show(1:Rat)-0=1 by grind]
  exact fits_one
 |k+1=>by
  by_cases hk:k<l.length
  ·rw[rest_snoc l hk]
   exact(rest_fits h k).sub (fits_share (h _ (List.getElem_mem hk)).2.2)
  ·rw[show l.take (k+1)=l.take k by rw[List.take_of_length_le (by omega),List.take_of_length_le (by omega)]]
   exact rest_fits h k
theorem subS_any (s:Rat) (a b:Int) (W:World) (hs:small5 s) (h:isShareP 16 a b=true):Calls Tryz.prog 69 #[.agg #[.int .i64 s.num, .int .i64 s.den], .agg #[.int .i64 a, .int .i64 b]] W (Ret W (fracV (s-Rat.divInt a b))):=by
 obtain⟨h1,h2,h3,h4⟩:=share_rat h
 have:=sub5_any s (Rat.divInt a b) W hs ((fits_share h).small (Rat.le_trans (by decide) h3) (Rat.le_trans h4 (by decide)))
 unfold fracV at this⊢
 rw[h1,h2]at this
 exact this
theorem mulS_any (C:Nat) (f:Bool) (w:World) (hC:MarkAt w C f) (p:Rat) (a b:Int) (hp:small5 p) (h:isShareP 16 a b=true):Calls Tryz.prog 122 #[.pointer (some ⟨C,0,none⟩), .agg #[.int .i64 p.num, .int .i64 p.den], .agg #[.int .i64 a, .int .i64 b]] w (MarkPost w C f (p*Rat.divInt a b)):=by
 obtain⟨h1,h2,h3,h4⟩:=share_rat h
 have:=mulM_any C f w hC p (Rat.divInt a b) hp ((fits_share h).small (Rat.le_trans (by decide) h3) (Rat.le_trans h4 (by decide)))
 unfold fracV at this
 rw[h1,h2]at this
 exact this
theorem transferP_eq {s:St} {d:Deed} {i:Nat} {g:Grave} (hix:graveIx s d.place d.day=some i) (hg:s.graves.getD i zeroG=g) (hG:GoodG g) (hp: ∀p∈ratParts d.to,0<=p.2) (h1:sumQ (ratParts d.to)<=1):
 transferP s d=if g.cls==4 then(s,15)else if shareP g.holders d.frm==0 then(s,19)else if deadPart s d.to then(s,28)else
  if(transferF g.holders d.frm (ratParts d.to)).2 then(s,8)else(s.withGrave i {g with holders:=(transferF g.holders d.frm (ratParts d.to)).1},0):=by
 have hs:=transfer_same (frm:=d.frm) hG.good hG.small hp h1
 unfold transferP
 rw[hix]
 simp only[hg]
 cases hb:bigQ (shareP g.holders d.frm*(1-sumQ (ratParts d.to)))
 ·rw[hb]at hs
  simp only[Bool.false_eq_true,if_false]at hs⊢
  rw[hs]
  cases(transferF g.holders d.frm (ratParts d.to)).2<;>rfl
 ·rw[hb]at hs
  simp only[if_true]at hs⊢
  cases ht:(transferF g.holders d.frm (ratParts d.to)).2
  ·rw[ht]at hs;simp at hs
  ·rfl
end Go.Proofs.YtmaidggpbihlgaaGreatDoor
