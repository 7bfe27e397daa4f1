/- A region that draws its order: a head that only lays new blocks, in whatever order, and a tail that its edges put behind the head in one order. -/
import Derived.Test.YtkhkhnellekofaaGreatDoorO0
import Derived.Test.YtkhkhnellekofaaGreatDoorJB
import Derived.Test.YtkhkhnellekofaaGreatDoorM1
import Derived.Test.YtkhkhnellekofaaGreatDoorJ7
import Derived.Test.YtkhkhnellekofaaGreatDoorRB
import Derived.StillTail
import Derived.Deep.Quiet
import Derived.Test.YtkhkhnellekofaaGreatDoorK0
set_option linter.unusedSimpArgs false
set_option linter.unusedVariables false
namespace Go.Proofs.YtkhkhnellekofaaGreatDoor
open Go.RowKit
structure Found (s:St) (nm:ByteArray) (out xs:List ByteArray):Prop where
 nd:out.Nodup
 desc: ∀n∈out,Desc s nm n
 from': ∀x∈xs,x=nm\/x∈out
 seen: ∀x,(x=nm\/x∈out)->x∈xs\/ ∀c∈childrenP s x,c∈out
structure Look (s:St) (nm x:ByteArray) (j:Nat) (out xs:List ByteArray):Prop where
 nd:out.Nodup
 desc: ∀n∈out,Desc s nm n
 from': ∀x∈xs,x=nm\/x∈out
 seen: ∀y,(y=nm\/y∈out)->y∈xs\/y=x\/ ∀c∈childrenP s y,c∈out
 mine:x=nm\/x∈out
 done: ∀c∈(childrenP s x).take j,c∈out
theorem found_start (s:St) (nm:ByteArray):Found s nm [] [nm]:=⟨List.nodup_nil,by simp,by simp,fun x hx=> .inl (by simpa using hx)⟩
theorem found_pop {s:St} {nm x:ByteArray} {out xs:List ByteArray} (h:Found s nm out (x::xs)):Look s nm x 0 out xs:=
 ⟨h.nd,h.desc,fun y hy=>h.from' y (by simp[hy]),fun y hy=>by
   rcases h.seen y hy with h1|h1
   ·rcases List.mem_cons.1 h1 with rfl|h1
    ·exact .inr (.inl rfl)
    ·exact .inl h1
   ·exact .inr (.inr h1),h.from' x (by simp),by simp⟩
theorem look_end {s:St} {nm x:ByteArray} {out xs:List ByteArray} (h:Look s nm x (childrenP s x).length out xs):Found s nm out xs:=
 ⟨h.nd,h.desc,h.from',fun y hy=>by
   rcases h.seen y hy with h1|rfl|h1
   ·exact .inl h1
   ·exact .inr fun c hc=>h.done c (by simpa using hc)
   ·exact .inr h1⟩
theorem look_old {s:St} {nm x:ByteArray} {j:Nat} {out xs:List ByteArray} (h:Look s nm x j out xs) (hj:j<(childrenP s x).length) (hc:(childrenP s x)[j]∈out):Look s nm x (j+1) out xs:=
 ⟨h.nd,h.desc,h.from',h.seen,h.mine,fun c hc'=>by
   rw[List.take_succ_eq_append_getElem hj]at hc'
   rcases List.mem_append.1 hc' with h1|h1
   ·exact h.done c h1
   ·rw[List.mem_singleton.1 h1];exact hc⟩
theorem look_new {s:St} {nm x:ByteArray} {j:Nat} {out xs:List ByteArray} (h:Look s nm x j out xs) (hj:j<(childrenP s x).length) (hc:(childrenP s x)[j]∉out):Look s nm x (j+1) (out++[(childrenP s x)[j]]) (xs++[(childrenP s x)[j]]):=by
 have hmem:(childrenP s x)[j]∈childrenP s x:=List.getElem_mem _
 refine⟨?_,fun n hn=> ?_,fun y hy=> ?_,fun y hy=> ?_,?_,fun c hc'=> ?_⟩
 ·exact List.nodup_append.2 ⟨h.nd,by simp,fun a ha b hb e=>by rw[List.mem_singleton.1 hb]at e;exact hc (e▸ha)⟩
 ·rcases List.mem_append.1 hn with h1|h1
  ·exact h.desc n h1
  ·rw[List.mem_singleton.1 h1]
   rcases h.mine with rfl|hm
   ·exact desc_child hmem
   ·exact desc_step (h.desc x hm) hmem
 ·rcases List.mem_append.1 hy with h1|h1
  ·rcases h.from' y h1 with h2|h2
   ·exact .inl h2
   ·exact .inr (by simp[h2])
  ·exact .inr (by simp[List.mem_singleton.1 h1])
 ·rcases hy with hy|hy
  ·rcases h.seen y (.inl hy)with h1|h1|h1
   ·exact .inl (by simp[h1])
   ·exact .inr (.inl h1)
   ·exact .inr (.inr fun c hc=>by simp[h1 c hc])
  ·rcases List.mem_append.1 hy with h1|h1
   ·rcases h.seen y (.inr h1)with h2|h2|h2
    ·exact .inl (by simp[h2])
    ·exact .inr (.inl h2)
    ·exact .inr (.inr fun c hc=>by simp[h2 c hc])
   ·exact .inl (by simp[List.mem_singleton.1 h1])
 ·rcases h.mine with h1|h1
  ·exact .inl h1
  ·exact .inr (by simp[h1])
 ·rw[List.take_succ_eq_append_getElem hj]at hc'
  rcases List.mem_append.1 hc' with h1|h1
  ·simp[h.done c h1]
  ·simp[List.mem_singleton.1 h1]
theorem found_end {s:St} {nm:ByteArray} {out:List ByteArray} (h:Found s nm out []): ∀n,n∈out↔Desc s nm n:=fun n=>by
 refine⟨h.desc n,fun hd=>desc_closed (out:=fun x=>x∈out) ?_ ?_ hd⟩
 ·intro c hc
  rcases h.seen nm (.inl rfl)with h1|h1
  ·simp at h1
  ·exact h1 c hc
 ·intro x hx c hc
  rcases h.seen x (.inr hx)with h1|h1
  ·simp at h1
  ·exact h1 c hc
theorem nodup_le {α:Type} [DecidableEq α]: ∀ {a b:List α},a.Nodup->(∀x∈a,x∈b)->a.length<=b.length
 | [],_,_,_=>Nat.zero_le _
 |x::a,b,h,hs=>by
  have h':=List.nodup_cons.1 h
  have hx:x∈b:=hs x (by simp)
  have h1:a.length<=(b.erase x).length:=nodup_le h'.2 fun y hy=>by
   have hne:y≠x:=fun e=>h'.1 (e▸hy)
   exact(List.mem_erase_of_ne hne).2 (hs y (by simp[hy]))
  have h2:=List.length_erase_of_mem hx
  have h3:0<b.length:=List.length_pos_of_mem hx
  simp only[List.length_cons]
  omega
theorem out_few {s:St} {nm:ByteArray} {out:List ByteArray} (hn:out.Nodup) (hd: ∀n∈out,Desc s nm n):out.length<=s.children.length:=by
 have hsub: ∀n∈out,n∈s.children.map (·.2):=fun n hn'=>by
  have: ∃y,(y,n)∈s.children:=by
   cases hd n hn' with
   |single h=>exact⟨nm,mem_children.1 h⟩
   |tail _ h=>exact⟨_,mem_children.1 h⟩
  obtain⟨y,hy⟩:=this
  exact List.mem_map.2 ⟨(y,n),hy,rfl⟩
 haveI:DecidableEq ByteArray:=fun a b=>Classical.propDecidable _
 have:=nodup_le hn hsub
 simpa using this
end Go.Proofs.YtkhkhnellekofaaGreatDoor
namespace Go.Proofs.YtkhkhnellekofaaGreatDoor
open Go.RowKit Go.Shelf
attribute [local go_sem] World.cell?_alloc_mark ext_size ext_cell ext_frozen lt_add_r lt_add_r2 lt_add_r3 lt_add_r4 lt_add_r5 lt_add_r6 lt_add_r7 lt_add_r8
attribute [local go_sem] ext_setCell alloc_setCell_lt
set_option maxRecDepth 100000 in
set_option maxHeartbeats 2000000 in
theorem addMonths_any (day mo:Int) (w:World) (hL:LensIn w) (h0:0<=day) (h1:day<=200000) (hm0:0<=mo) (hm1:mo<=12000):
 Calls Tryz.prog 32 #[.int .i64 day, .int .i64 mo] w (fun e w'=> ∃n er:Int,(er=0->addMonthsP day mo=n/\0<=n)/\(er≠0->addMonthsP day mo= -1)/\Ret w (.tuple #[.int .i64 n, .int .i64 er]) e w'):=by
 have hd1:inR day 0 200000=true:=by simp[inR];omega
 have hd2:inR mo (-12000) 12000=true:=by simp[inR];omega
 have HL:=Lib.hid (rlater_any day mo w hL h0 h1 (by omega) hm1)
 go_enter Tryz.func32,Tryz.ntmps32
 go_wp2_with (first
  |(go_at_call 59;refine(risDay_any _ _).mono ?_;rintro e wq ⟨rfl,rfl⟩;unfold isDayP;rw[hd1])
  |(go_at_call 60;refine(rwithin_any _ _ _ _).mono ?_;rintro e wq ⟨rfl,rfl⟩;rw[hd2])
  |(go_at_call 61;refine(HL.out).mono ?_;rintro e wq ⟨n,ok,h1,h2,rfl,z,rfl⟩;have H1:=Lib.hid h1;have H2:=Lib.hid h2;clear h1 h2;cases ok))
 all_goals go_ret2
 all_goals first
  |exact⟨0,2,by simp,fun _=>H2.out trivial,Ret.of rfl Bw⟩
  |exact⟨n,0,fun _=>H1.out trivial,by simp,Ret.of rfl Bw⟩
set_option maxRecDepth 100000 in
set_option maxHeartbeats 2000000 in
theorem later5_any (day ys:Int) (w:World) (hL:LensIn w) (h0:0<=day) (h1:day<=200000) (hm0:0<=ys) (hm1:ys<=99):
 Calls Tryz.prog 125 #[.int .i64 day, .int .i64 ys] w (Ret w (.int .i64 (afterP day ys))):=by
 have HL:=Lib.hid (addMonths_any day (12*ys) w hL h0 h1 (by omega) (by omega))
 go_enter Tryz.func125,Tryz.ntmps125
 go_wp2_with (go_at_call 32;refine(HL.out).mono ?_;rintro e wq ⟨n,er,k1,k2,rfl,z,rfl⟩;have H1:=Lib.hid k1;have H2:=Lib.hid k2;clear k1 k2;by_cases her:er=0)
 all_goals go_ret
 all_goals first
  |exact Ret.of (int_eq (by unfold afterP;exact(H1.out (by first|trivial|exact her)).1.symm)) Bw
  |exact Ret.of (int_eq (by unfold afterP;exact(H2.out (by first|trivial|exact her)).symm)) Bw
end Go.Proofs.YtkhkhnellekofaaGreatDoor
namespace Go.Proofs.YtkhkhnellekofaaGreatDoor
open Go.RowKit
theorem share_set {l:Parts} (h:GoodParts l) {n:ByteArray} {q:Rat} (m:ByteArray):shareP (setP l n q) m=if sameB m n then q else shareP l m:=by
 have hw:=without_good h (n:=n)
 have h0:shareP (withoutP l n) n=0:=by rw[share_without,same_refl];rfl
 rw[set_keeps h.asc]
 by_cases hq:q==0
 ·rw[if_pos hq,share_without]
  have:q=0:=by simpa using hq
  rw[this]
 ·rw[if_neg hq,share_given hw,h0,Rat.zero_add]
  cases hs:sameB m n
  ·simp only[Bool.false_eq_true,if_false]
   rw[share_without,hs]
   rfl
  ·rfl
theorem eqS_same (a b:ByteArray):eqS a b=sameB a b:=rfl
theorem mget_mput {V:Type} (k:ByteArray) (v:V) (n:ByteArray): ∀m:List (ByteArray×V),mget eqS n (mput eqS k v m)=if sameB n k then some v else mget eqS n m
 | []=>rfl
 |x::m=>by
  rw[mput]
  have hkx:eqS k x.1=sameB k x.1:=rfl
  rw[hkx]
  cases hk:sameB k x.1
  ·rw[if_neg (by simp),mget,mget,mget_mput k v n m]
   have hnx:eqS n x.1=sameB n x.1:=rfl
   rw[hnx]
   cases hn:sameB n x.1
   ·simp
   ·have hnk:sameB n k=false:=by
     rw[same_ne]
     intro e
     rw[same_iff]at hn
     rw[same_ne]at hk
     exact hk (e▸hn)
    simp[hnk]
  ·have hkx:k=x.1:=same_iff.1 hk
   rw[if_pos rfl,mget,mget]
   show(if sameB n k=true then _ else _)=_
   cases hn:sameB n k
   ·have:eqS n x.1=false:=by rw[eqS_same,<-hkx,hn]
    simp[this]
   ·simp
theorem mput_keys {V:Type} (k:ByteArray) (v:V): ∀m:List (ByteArray×V),(m.map (·.1)).Nodup->((mput eqS k v m).map (·.1)).Nodup/\ ∀x∈(mput eqS k v m).map (·.1),x=k\/x∈m.map (·.1)
 | [],_=>by simp[mput]
 |x::m,h=>by
  rw[mput]
  have hkx:eqS k x.1=sameB k x.1:=rfl
  rw[hkx]
  rw[List.map_cons,List.nodup_cons]at h
  cases hk:sameB k x.1
  ·obtain⟨h1,h2⟩:=mput_keys k v m h.2
   rw[if_neg (by simp),List.map_cons]
   refine⟨List.nodup_cons.2 ⟨fun hx=> ?_,h1⟩,fun y hy=> ?_⟩
   ·rcases h2 _ hx with e|e
    ·rw[e,same_refl]at hk;cases hk
    ·exact h.1 e
   ·rcases List.mem_cons.1 hy with rfl|hy
    ·exact .inr (by simp)
    ·rcases h2 y hy with e|e
     ·exact .inl e
     ·exact .inr (by simp[e])
  ·have e:k=x.1:=same_iff.1 hk
   rw[if_pos rfl,List.map_cons]
   refine⟨List.nodup_cons.2 ⟨by rw[e];exact h.1,h.2⟩,fun y hy=> ?_⟩
   rcases List.mem_cons.1 hy with rfl|hy
   ·exact .inl rfl
   ·exact .inr (by simp[hy])
theorem mget_mem {V:Type} {n:ByteArray} {v:V}: ∀ {m:List (ByteArray×V)},mget eqS n m=some v->(n,v)∈m
 | [],h=>by simp[mget]at h
 |x::m,h=>by
  rw[mget]at h
  have hnx:eqS n x.1=sameB n x.1:=rfl
  rw[hnx]at h
  cases hn:sameB n x.1
  ·rw[hn,if_neg (by simp)]at h
   exact List.mem_cons_of_mem _ (mget_mem h)
  ·rw[hn,if_pos rfl]at h
   have e:=same_iff.1 hn
   simp only[Option.some.injEq]at h
   rw[e,<-h]
   exact List.mem_cons_self
theorem mem_mget {V:Type} {n:ByteArray} {v:V}: ∀ {m:List (ByteArray×V)},(m.map (·.1)).Nodup->(n,v)∈m->mget eqS n m=some v
 | [],_,h=>by simp at h
 |x::m,hd,h=>by
  rw[List.map_cons,List.nodup_cons]at hd
  rw[mget]
  have hnx:eqS n x.1=sameB n x.1:=rfl
  rw[hnx]
  rcases List.mem_cons.1 h with rfl|h
  ·rw[same_refl,if_pos rfl]
  ·have hne:sameB n x.1=false:=same_ne.2 fun e=>hd.1 (by rw[<-e];exact List.mem_map.2 ⟨_,h,rfl⟩)
   rw[hne,if_neg (by simp)]
   exact mem_mget hd.2 h
end Go.Proofs.YtkhkhnellekofaaGreatDoor
namespace Go.Proofs.YtkhkhnellekofaaGreatDoor
open Go.RowKit
theorem gives_bd {out:Parts} {t f:Rat} {n:ByteArray} {fl:Bool} (h:Bd out t) (hf:0<=f):Bd (givesF n f (out,fl)).1 (t+f):=h.set n hf
theorem Bd.up6 {out:Parts} {t u:Rat} (h:Bd out t) (hu:t<=u):Bd out u:=⟨h.good,h.small,Rat.le_trans h.le hu⟩
theorem seen_len {part:Rat} (hp:0<=part) (n:Nat):seenQ (part*(1/(n:Rat)))*(n:Rat)<=part:=by
 have h1:=seen_le (div_nonneg5 hp n)
 by_cases hn:n=0
 ·subst hn
  have:((0:Nat):Rat)=0:=rfl
  rw[this,Rat.mul_zero]
  exact hp
 ·have hn0:(n:Rat)≠0:=by
   have:=ratI (n:=(n:Int)) (by omega)
   rwa [Rat.intCast_natCast]at this
  have h2:part*(1/(n:Rat))*(n:Rat)=part:=by
   rw[div_one]
   exact Rat.div_mul_cancel hn0
  have h3:=Rat.mul_le_mul_of_nonneg_right h1 (Rat.natCast_nonneg (a:=n))
  rw[h2]at h3
  exact h3
theorem cast_succ (n:Nat):((n+1:Nat):Rat)=(n:Rat)+1:=by
 rw[Rat.natCast_add]
 rfl
mutual
theorem lines_bd {part:Rat} (hp:0<=part): ∀ {l:List Tree} {out:Parts} {fl:Bool} {t:Rat},Bd out t->Bd (linesF part l (out,fl)).1 (t+part*(l.length:Rat))
 | [],out,fl,t,h=>by
   rw[linesF]
   have e:((([]:List Tree).length:Nat):Rat)=0:=rfl
   rw[e,Rat.mul_zero,Rat.add_zero]
   exact h
 |x::l,out,fl,t,h=>by
  rw[linesF]
  have h1:=lines_bd hp (l:=l) (fl:=(treeF part x (out,fl)).2) (tree_bd hp (t':=x) (fl:=fl) h)
  rw[List.length_cons,cast_succ]
  exact h1.up6 (by grind)
theorem tree_bd {part:Rat} (hp:0<=part): ∀ {t':Tree} {out:Parts} {fl:Bool} {t:Rat},Bd out t->Bd (treeF part t' (out,fl)).1 (t+part)
 | .leaf n,out,fl,t,h=>by
   rw[treeF]
   exact gives_bd h hp
 | .node l,out,fl,t,h=>by
   rw[treeF]
   have h1:=lines_bd (seen_nonneg (div_nonneg5 hp l.length)) (l:=l) (fl:=fl||bigQ (part*(1/(l.length:Rat)))) h
   have h2:=seen_len hp l.length
   exact h1.up6 (by grind)
end
def WideN:Nat->List Tree->Prop
 |0,l=>l=[]
 |f+1,l=>l.length<=1000/\ ∀l',Tree.node l'∈l->WideN f l'
theorem trees_wide {s:St} {stems:Bool} {frm:ByteArray} (hl:s.children.length<=1000): ∀(f:Nat) (n:ByteArray),WideN f (treesP s stems frm f n)
 |0,_=>rfl
 |f+1,n=>by
  refine⟨?_,fun l' hm=> ?_⟩
  ·unfold treesP
   refine Nat.le_trans (List.length_filterMap_le _ _) ?_
   have:(childrenP s n).length<=s.children.length:=by unfold childrenP;rw[List.length_map];exact List.length_filter_le _ _
   omega
  ·unfold treesP at hm
   obtain⟨c,_,hc⟩:=List.mem_filterMap.1 hm
   split at hc
   ·simp at hc
   ·split at hc
    ·simp only[Option.some.injEq,Tree.node.injEq]at hc
     rw[<-hc]
     exact trees_wide hl f c
    ·cases hc
theorem one_over {n:Nat} (h:0<n):((1:Rat)/(n:Rat)).num=1/\(((1:Rat)/(n:Rat)).den:Int)=n/\0<=(1:Rat)/(n:Rat)/\(1:Rat)/(n:Rat)<=1:=by
 have hs:isShareP (n:Int) 1 (n:Int)=true:=by
  unfold isShareP
  simp
  omega
 have:=share_rat hs
 rw[Rat.divInt_eq_div,Rat.intCast_natCast]at this
 exact this
theorem one_small {n:Nat} (h:0<n) (h1:n<=1000):small5 ((1:Rat)/(n:Rat)):=by
 obtain⟨h2,h3,h4,h5⟩:=one_over h
 exact small_q h4 h5 (by unfold bigQ;rw[h3];simp;omega)
theorem part_ok {q:Rat} (h0:0<=q) (h1:q<=1) {n:Nat} (hn:0<n):0<=seenQ (q*(1/(n:Rat)))/\seenQ (q*(1/(n:Rat)))<=1/\small5 (seenQ (q*(1/(n:Rat))))/\seenQ (q*(1/(n:Rat)))*(n:Rat)<=q:=by
 have h2:=seen_nonneg (div_nonneg5 h0 n)
 have h3:=seen_len h0 n
 have h4:seenQ (q*(1/(n:Rat)))<=seenQ (q*(1/(n:Rat)))*(n:Rat):=by
  have h5:(1:Rat)<=(n:Rat):=by
   have:((1:Nat):Rat)<=(n:Rat):=Rat.natCast_le_natCast.2 hn
   exact this
  have:=Rat.mul_le_mul_of_nonneg_left h5 h2
  rwa [Rat.mul_one]at this
 have h6:seenQ (q*(1/(n:Rat)))<=1:=Rat.le_trans h4 (Rat.le_trans h3 h1)
 exact⟨h2,h6,small_q h2 h6 (seen_big _),h3⟩
theorem take_le {part:Rat} (hp:0<=part) {k n:Nat} (h:k<=n):part*(k:Rat)<=part*(n:Rat):=
 Rat.mul_le_mul_of_nonneg_left (Rat.natCast_le_natCast.2 h) hp
theorem linesF_snoc (part:Rat) (l:List Tree) (x:Parts×Bool) {k:Nat} (h:k<l.length):linesF part (l.take (k+1)) x=treeF part l[k] (linesF part (l.take k) x):=by
 rw[List.take_succ_eq_append_getElem h,linesF_append,linesF,linesF]
end Go.Proofs.YtkhkhnellekofaaGreatDoor
namespace Go.Proofs.YtkhkhnellekofaaGreatDoor
open Go.RowKit
def colOf (out:Parts) (p:ByteArray×Value):Option (ByteArray×Rat):=if 0<shareP out p.1 then some (p.1,shareP out p.1)else none
def colP (out:Parts) (l:List (ByteArray×Value)):Parts:=l.filterMap (colOf out)
theorem colP_snoc (out:Parts) (l:List (ByteArray×Value)) (p:ByteArray×Value):colP out (l++[p])=colP out l++(colOf out p).toList:=by
 unfold colP
 rw[List.filterMap_append]
 cases h:colOf out p<;>simp[List.filterMap,h]
theorem share_find {l:Parts} {n:ByteArray} (h:shareP l n≠0):(n,shareP l n)∈l:=by
 unfold shareP at h⊢
 cases hf:l.find? (fun p=>sameB p.1 n)with
 |none=>rw[hf]at h;exact absurd rfl h
 |some p=>
  have h1:=List.mem_of_find?_eq_some hf
  have h2:=List.find?_some hf
  have h3:p.1=n:=same_iff.1 h2
  rw[<-h3]
  exact h1
theorem good_nodup {l:Parts} (h:GoodParts l):l.Nodup:=by
 refine h.asc.imp fun {a b} hab e=> ?_
 rw[e,lessN_irr]at hab
 cases hab
theorem col_perm {out:Parts} (hg:GoodParts out) {mm:List (ByteArray×Value)} (hnd:(mm.map (·.1)).Nodup) (hget: ∀n,(mget eqS n mm=none/\shareP out n=0)\/mget eqS n mm=some (fracV (shareP out n))):(colP out mm).Perm out:=by
 refine(List.perm_ext_iff_of_nodup ?_ (good_nodup hg)).2 fun a=> ?_
 ·unfold colP
  have h1:((mm.map (·.1)).filterMap fun n=>if 0<shareP out n then some (n,shareP out n)else none).Nodup:=by
   refine List.Pairwise.filterMap _ ?_ hnd
   intro a b hab x hx y hy e
   split at hx
   ·split at hy
    ·simp only[Option.some.injEq]at hx hy
     rw[<-hx,<-hy]at e
     exact hab (congrArg Prod.fst e)
    ·cases hy
   ·cases hx
  rw[List.filterMap_map]at h1
  exact h1
 ·constructor
  ·intro ha
   obtain⟨p,hp,h1⟩:=List.mem_filterMap.1 ha
   unfold colOf at h1
   split at h1
   ·rename_i h0
    simp only[Option.some.injEq]at h1
    rw[<-h1]
    exact share_find (by intro e;rw[e]at h0;exact absurd h0 (by decide))
   ·cases h1
  ·intro ha
   have h1:=share_mem hg ha
   have h2:=hg.pos a ha
   have h3:mget eqS a.1 mm=some (fracV (shareP out a.1)):=by
    rcases hget a.1 with⟨_,h⟩|h
    ·rw[h1]at h
     rw[h]at h2
     exact absurd h2 (by decide)
    ·exact h
   refine List.mem_filterMap.2 ⟨_,mget_mem h3,?_⟩
   unfold colOf
   rw[h1,if_pos h2]
def UpP (L:Parts):Prop:=L.Pairwise fun a b=>lessN b.1 a.1=false
theorem parts_unique {ls L:Parts} (h:GoodParts ls) (hp:L.Perm ls) (hs:UpP L):L=ls:=by
 have hs':L.Pairwise (fun x y:ByteArray×Rat=>lessN y.1 x.1=false):=hs
 refine List.Perm.eq_of_pairwise (le:=fun x y:ByteArray×Rat=>lessN y.1 x.1=false) ?_ hs' ?_ hp
 ·intro a b ha hb h1 h2
  have ha':a∈ls:=hp.mem_iff.1 ha
  obtain⟨i,hi,rfl⟩:=List.getElem_of_mem ha'
  obtain⟨j,hj,rfl⟩:=List.getElem_of_mem hb
  rcases Nat.lt_trichotomy i j with hij|hij|hij
  ·have:=List.pairwise_iff_getElem.1 h.asc i j hi hj hij
   rw[this]at h2;cases h2
  ·subst hij;rfl
  ·have:=List.pairwise_iff_getElem.1 h.asc j i hj hi hij
   rw[this]at h1;cases h1
 ·refine h.asc.imp fun {a b} hab=> ?_
  exact lessN_asym hab
theorem erase_perm {α:Type} {x:α}: ∀ {l:List α} {i:Nat},l[i]?=some x->(x::l.eraseIdx i).Perm l
 | [],i,h=>by simp at h
 |y::l,0,h=>by
  simp only[List.getElem?_cons_zero,Option.some.injEq]at h
  rw[h]
  exact List.Perm.refl _
 |y::l,i+1,h=>by
  simp only[List.getElem?_cons_succ]at h
  rw[List.eraseIdx_cons_succ]
  exact(List.Perm.swap y x _).trans (List.Perm.cons y (erase_perm h))
theorem done_perm {α:Type} {d l m:List α} {i:Nat} {x:α} (h:(d++l).Perm m) (hx:l[i]?=some x):((d++[x])++l.eraseIdx i).Perm m:=by
 rw[List.append_assoc]
 refine List.Perm.trans ?_ h
 exact List.Perm.append_left d (erase_perm hx)
theorem willF_append (s:St) (frm:ByteArray): ∀(a b:Parts) (x:Parts×Bool) (rest:Rat),willF s frm (a++b) x rest=willF s frm b (willF s frm a x rest).1 (willF s frm a x rest).2
 | [],_,_,_=>rfl
 |p::a,b,x,rest=>by
  rw[List.cons_append,willF,willF]
  split<;>exact willF_append s frm a b _ _
theorem will_snoc (s:St) (frm:ByteArray) (l:Parts) (x:Parts×Bool) (rest:Rat) {k:Nat} (h:k<l.length):willF s frm (l.take (k+1)) x rest=
 if ableP s l[k].1 frm then(givesF l[k].1 l[k].2 (willF s frm (l.take k) x rest).1,(willF s frm (l.take k) x rest).2-l[k].2)else willF s frm (l.take k) x rest:=by
 rw[List.take_succ_eq_append_getElem h,willF_append,willF,willF,willF]
end Go.Proofs.YtkhkhnellekofaaGreatDoor
namespace Go.Proofs.YtkhkhnellekofaaGreatDoor
open Go.RowKit
theorem same_comm5 (a b:ByteArray):sameB a b=sameB b a:=by
 rw[Bool.eq_iff_iff,same_iff,same_iff]
 exact⟨Eq.symm,Eq.symm⟩
theorem partsGo_eq (fb sh:Bool) (frm:ByteArray): ∀(l seen:List RPart) (L:List ByteArray) (s:Rat),(∀n,L.any (sameB n)=seen.any (fun q=>sameB q.name n))->
 partsGo fb sh frm l seen s=if(firstsP l L&&l.all (fun p=>!(sameB p.name frm&&fb)))&&(if sh then l.all (fun p=>isShareP 16 p.num p.den&&p.num != 0)else l.all (fun p=>p.num==0&&p.den==0))then some (if sh then s+sumQ (ratParts l)else s)else none
 | [],seen,L,s,h=>by
   rw[partsGo]
   cases sh
   ·simp[firstsP]
   ·simp[firstsP,ratParts,sumQ,Rat.add_zero]
 |p::l,seen,L,s,h=>by
  have ih:=fun t=>partsGo_eq fb sh frm l (seen++[p]) (p.name::L) t (fun n=>by
   rw[List.any_cons,List.any_append,h n,List.any_cons,List.any_nil,Bool.or_false,Bool.or_comm,same_comm5 n])
  have hs:sumQ (ratParts (p::l))=p.rat+sumQ (ratParts l):=rfl
  rw[partsGo,firstsP,h p.name,List.all_cons,List.all_cons,List.all_cons,hs,ih,ih]
  cases h1:seen.any (fun q=>sameB q.name p.name)
  ·cases h2:(sameB p.name frm&&fb)
   ·simp only[Bool.or_self,Bool.false_eq_true,if_false,Bool.not_false,Bool.true_and]
    cases sh
    ·simp only[Bool.not_false,if_true,Bool.false_eq_true,if_false]
     by_cases hz:p.num=0
     ·by_cases hy:p.den=0
      ·simp[hz,hy]
      ·simp[hz,hy]
     ·simp[hz]
    ·simp only[Bool.not_true,if_true,Bool.false_eq_true,if_false]
     cases h3:isShareP 16 p.num p.den
     ·simp
     ·by_cases hz:p.num=0
      ·simp[hz]
      ·have e:s+p.rat+sumQ (ratParts l)=s+(p.rat+sumQ (ratParts l)):=by grind
       simp[hz,e]
   ·simp
  ·simp
theorem rat_num_le (s:Rat):decide (s.num<=(s.den:Int))=decide (s<=1):=by
 rw[Bool.eq_iff_iff,decide_eq_true_eq,decide_eq_true_eq,Rat.le_iff]
 simp
theorem rat_num_one (s:Rat):(s.num==(s.den:Int))=(s==1):=by
 rw[Bool.eq_iff_iff,beq_iff_eq,beq_iff_eq]
 constructor
 ·intro h
  have h1:=Rat.num_divInt_den s
  rw[h]at h1
  rw[<-h1]
  have:=s.den_pos
  rw[Rat.divInt_self']
  omega
 ·intro h
  rw[h]
  rfl
theorem sumOk_eq (fb sh al:Bool) (frm:ByteArray) (l:List RPart) (hf:fb=true\/ ∀p∈l,sameB p.name frm=false):sumOk sh al (partsGo fb sh frm l [] 0)=partsOk sh al frm l:=by
 have h0: ∀n:ByteArray,([]:List ByteArray).any (sameB n)=([]:List RPart).any (fun q=>sameB q.name n):=fun n=>rfl
 rw[partsGo_eq fb sh frm l [] [] 0 h0]
 have hfa:l.all (fun p=>!(sameB p.name frm&&fb))=l.all (fun p=>!sameB p.name frm):=by
  rcases hf with hf|hf
  ·subst hf;simp
  ·rw[Bool.eq_iff_iff,List.all_eq_true,List.all_eq_true]
   exact⟨fun _ p hp=>by rw[hf p hp];rfl,fun _ p hp=>by rw[hf p hp];rfl⟩
 rw[hfa]
 unfold partsOk
 cases sh
 ·simp only[Bool.false_eq_true,if_false]
  split
  ·rename_i h;rw[h];rfl
  ·rename_i h
   rw[Bool.not_eq_true]at h
   rw[h];rfl
 ·simp only[if_true]
  split
  ·rename_i h
   rw[Bool.and_eq_true,Bool.and_eq_true]at h
   rw[h.1.1,h.1.2,h.2]
   simp only[sumOk,Bool.not_true,Bool.false_or,Bool.true_and,Rat.zero_add,rat_num_le,rat_num_one]
  ·rename_i h
   rw[Bool.not_eq_true]at h
   simp only[sumOk]
   cases h1:firstsP l []<;>cases h2:l.all (fun p=>!sameB p.name frm)<;>cases h3:l.all (fun p=>isShareP 16 p.num p.den&&p.num != 0)<;>simp_all
theorem noB_same {a b:ByteArray} (ha:noB a=false) (hb:noB b=true):sameB a b=false:=by
 unfold noB at ha hb
 unfold sameB
 cases h:(a.toList==b.toList)
 ·rfl
 ·rw[beq_iff_eq]at h
  rw[h,hb]at ha
  cases ha
theorem right_eq {f:Form} {frm:ByteArray} {l:List RPart} (hf:f.frm=true\/ ∀p∈l,sameB p.name frm=false):rightF f frm l=if f.parts then(!l.isEmpty&&(f.shares||l.length==1))&&partsOk f.shares f.all frm l else l.isEmpty:=by
 unfold rightF
 rw[sumOk_eq _ _ _ _ _ hf]
 cases f.parts
 ·simp
 ·cases l.isEmpty
  ·cases f.shares
   ·by_cases h:l.length=1
    ·simp[h]
    ·simp[h]
   ·simp
  ·simp
theorem checkDeedQ_eq (d:Deed):checkDeedQ d=checkDeedP d:=by
 obtain⟨kd,dy,pl,fr,ps,cl,yr⟩:=d
 unfold checkDeedQ checkDeedP
 simp only
 split
 ·rfl
 rename_i h1
 split
 ·rfl
 rename_i h2
 split
 ·rfl
 rename_i h3
 have e4:(ps.any fun p=>!isNameP p.name)=!ps.all fun p=>isNameP p.name:=by rw[List.not_all_eq_any_not]
 rw[e4]
 split
 ·rfl
 rename_i h4
 have hn: ∀p∈ps,noB p.name=false:=fun p hp=>by
  cases ha:(ps.all fun p=>isNameP p.name)
  ·rw[ha]at h4;simp at h4
  ·exact name_not (List.all_eq_true.1 ha p hp)
 simp only[Bool.not_eq_true',Bool.not_eq_false,inR_iff5]at h1
 have hk:kd=0\/kd=1\/kd=2\/kd=3\/kd=4\/kd=5\/kd=6\/kd=7\/kd=8:=by omega
 have hg:noB fr=true-> ∀p∈ps,sameB p.name fr=false:=fun hb p hp=>noB_same (hn p hp) hb
 clear h1 h2 h3 h4 hn e4
 have h10:(0:Int)=0:=rfl
 rcases hk with rfl|rfl|rfl|rfl|rfl|rfl|rfl|rfl|rfl
 all_goals
  simp only[formsL,formedP,Int.toNat_zero,Int.toNat_one,List.getD_cons_zero,show(2:Int).toNat=2 from rfl,show(3:Int).toNat=3 from rfl,show(4:Int).toNat=4 from rfl,show(5:Int).toNat=5 from rfl,show(6:Int).toNat=6 from rfl,show(7:Int).toNat=7 from rfl,show(8:Int).toNat=8 from rfl,List.getD_cons_succ]
 ·cases hb:noB fr
  ·simp
  ·rw[right_eq (f:=⟨_,_,_,_,_,_,_,_⟩) (.inr (hg hb))]
   cases noB pl<;>cases hy:(yr==0)<;>cases hc:(cl==2)<;>simp
 ·rw[right_eq (f:=⟨_,_,_,_,_,_,_,_⟩) (.inl rfl)]
  cases noB fr<;>cases noB pl<;>cases hy:(yr==0)<;>cases hc:(cl==0)<;>simp_all
 ·rw[right_eq (f:=⟨_,_,_,_,_,_,_,_⟩) (.inl rfl)]
  cases noB fr<;>cases noB pl<;>cases hy:(yr==0)<;>cases hc:(cl==0)<;>simp_all
 ·cases hb:noB fr
  ·simp
  ·rw[right_eq (f:=⟨_,_,_,_,_,_,_,_⟩) (.inr (hg hb))]
   cases noB pl<;>cases hy:(yr==0)<;>cases hc:(cl==0)<;>simp_all
 ·rw[right_eq (f:=⟨_,_,_,_,_,_,_,_⟩) (.inl rfl)]
  cases noB fr<;>cases noB pl<;>cases hy:(yr==0)<;>cases hc:(cl==0)<;>simp_all
 ·rw[right_eq (f:=⟨_,_,_,_,_,_,_,_⟩) (.inl rfl)]
  cases noB fr<;>cases noB pl<;>cases hy:(yr==0)<;>cases hc:(cl==0)<;>cases ps<;>simp_all
 ·rw[right_eq (f:=⟨_,_,_,_,_,_,_,_⟩) (.inl rfl)]
  cases noB fr<;>cases noB pl<;>cases hy:(yr==0)<;>cases hc:(cl==0)<;>cases ps<;>simp_all
 ·rw[right_eq (f:=⟨_,_,_,_,_,_,_,_⟩) (.inl rfl)]
  cases noB fr<;>cases noB pl<;>cases hy:(yr==0)<;>cases hc:(cl==0)<;>cases ps<;>simp_all
 ·rw[right_eq (f:=⟨_,_,_,_,_,_,_,_⟩) (.inl rfl)]
  cases noB fr<;>cases noB pl<;>cases hy:(yr==0)<;>cases hc:(cl==0)<;>simp_all
end Go.Proofs.YtkhkhnellekofaaGreatDoor
namespace Go.Proofs.YtkhkhnellekofaaGreatDoor
open Go.RowKit Go.Shelf
attribute [local go_sem] World.cell?_alloc_mark ext_size ext_cell ext_frozen lt_add_r lt_add_r2 lt_add_r3 lt_add_r4 lt_add_r5 lt_add_r6 lt_add_r7 lt_add_r8
attribute [local go_sem] ext_setCell alloc_setCell_lt
def recLens (l:List Rec):Prop:= ∀x∈l,x.name.size<=100000/\x.other.size<=100000/\x.place.size<=100000
set_option maxRecDepth 100000 in
set_option maxHeartbeats 2000000 in
theorem checkRecords_any (l:List Rec) (A:Option Addr) (n c:Nat) (w:World) (hn:n=l.length) (hc:n<=c) (hz:recLens l) (hS:Sl w 8 Rec.cells A l):Calls Tryz.prog 18 #[.slice A n c] w (Ret w (.int .i64 (checkRecsP l))):=by
 subst hn
 have HS:=Lib.hid hS
 obtain⟨R,hR⟩: ∃R,R=checkRecsP l:=⟨_,rfl⟩
 rw[<-hR]
 unfold checkRecsP at hR
 by_cases h40:40<l.length
 ·rw[if_pos (by simpa using h40)]at hR
  subst hR
  have h4:(40:Int)<(l.length:Int):=by omega
  clear hS
  go_enter Tryz.func18,Tryz.ntmps18
  go_wp2_with fail
  go_ret
  exact Ret.of rfl Bw
 ·rw[if_neg (by simpa using h40)]at hR
  have h4: ¬(40:Int)<(l.length:Int):=by omega
  have HR:=Lib.hid hR
  clear hS hR
  go_enter Tryz.func18,Tryz.ntmps18
  go_wp2_with fail
  go_loopw [11] (fun i wr=> ∃k:Nat,k<=l.length/\i= .int .i64 k/\Hid (R=firstErr checkRecP (l.drop k))/\Below w.heap.size w wr) (fun i _=>l.length-(intOf i).toNat)
  case atStart=>exact⟨0,Nat.zero_le _,rfl,by show _=_;rw[HR.out,List.drop_zero],Below.refl _ _⟩
  case round=>
   obtain⟨k,hk,rfl,HX,hB⟩:=hrel
   have HB:=Lib.hid hB
   by_cases hlt:k<l.length
   ·obtain⟨b,off,rfl,hb,hcc⟩:=(HS.out.keep hB).at hlt
    have hx:=HX.out
    rw[List.drop_eq_getElem_cons hlt,firstErr]at hx
    obtain⟨z1,z2,z3⟩:=hz l[k] (List.getElem_mem hlt)
    have hck:=fun W=>checkRecord_any l[k] W z1 z2 z3
    generalize l[k]=x at*
    have HX2:=Lib.hid hx
    have HCK:=Lib.hid hck
    have HLT:=Lib.hid hlt
    unfold Rec.v at HCK
    generalize checkRecP x=er at*
    obtain⟨kd,nm,ot,pl,dy,tl,nu,de⟩:=x
    have i0:wr.cell? ⟨b,off+k*8,none⟩=some (.int .i64 kd):=hcc 0 _ rfl
    have i1:wr.cell? ⟨b,off+k*8+1,none⟩=some (.string nm):=hcc 1 _ rfl
    have i2:wr.cell? ⟨b,off+k*8+2,none⟩=some (.string ot):=hcc 2 _ rfl
    have i3:wr.cell? ⟨b,off+k*8+3,none⟩=some (.string pl):=hcc 3 _ rfl
    have i4:wr.cell? ⟨b,off+k*8+4,none⟩=some (.int .i64 dy):=hcc 4 _ rfl
    have i5:wr.cell? ⟨b,off+k*8+5,none⟩=some (.int .i64 tl):=hcc 5 _ rfl
    have i6:wr.cell? ⟨b,off+k*8+6,none⟩=some (.int .i64 nu):=hcc 6 _ rfl
    have i7:wr.cell? ⟨b,off+k*8+7,none⟩=some (.int .i64 de):=hcc 7 _ rfl
    have hki:(k:Int)<(l.length:Int):=by omega
    have hk0:(0:Int)<=(k:Int):=by omega
    have hkc:(k:Int)<=(c:Int):=by omega
    have hbs:=hB.size
    clear hcc hx hck HX hB
    by_cases h0:er=0
    ·subst h0
     go_wp2_with (go_at_call 49;go_must(refine(HCK.out _).mono ?_);rintro e wq ⟨rfl,z,rfl⟩)
     go_round
     case rel=>exact⟨k+1,HLT.out,by go_num,by show _=_;rw[HX2.out];rfl,HB.out.trans (Below.mono (B:=wr.heap.size) Bw hbs)⟩
     case measure=>have:=HLT.out;simp only[intOf];omega
    ·have HRX:Hid (R=er):=by show _=_;rw[HX2.out,if_pos (by simpa using h0)]
     go_wp2_with (go_at_call 49;go_must(refine(HCK.out _).mono ?_);rintro e wq ⟨rfl,z,rfl⟩)
     go_ret
     exact Ret.of (int_eq HRX.out.symm) (HB.out.trans (Below.mono (B:=wr.heap.size) Bw hbs))
   ·have hki: ¬(k:Int)<(l.length:Int):=by omega
    have hx:=HX.out
    rw[List.drop_eq_nil_of_le (by omega),firstErr]at hx
    have HRX:Hid (R=0):=hx
    clear hx hB
    go_wp2_with fail
    go_ret
    exact Ret.of (int_eq HRX.out.symm) HB.out
end Go.Proofs.YtkhkhnellekofaaGreatDoor
namespace Go.Proofs.YtkhkhnellekofaaGreatDoor
open Go.RowKit
def nAnn:ByteArray:=⟨#[97,110,110]⟩
def nBob:ByteArray:=⟨#[98,111,98]⟩
def nCat:ByteArray:=⟨#[99,97,116]⟩
def nDan:ByteArray:=⟨#[100,97,110]⟩
def nA1:ByteArray:=⟨#[97,49]⟩
def n0:ByteArray:=⟨#[]⟩
def famLaws:List Law:=[⟨0,false,1,4⟩,⟨50000,true,1,2⟩]
def famD (k:Nat):Deed:=match k with
 |0=>⟨6,0,n0,nAnn,[⟨nBob,0,0⟩],0,0⟩
 |1=>⟨6,0,n0,nAnn,[⟨nCat,0,0⟩],0,0⟩
 |2=>⟨7,0,n0,nAnn,[⟨nDan,0,0⟩],0,0⟩
 |3=>⟨0,100,nA1,n0,[⟨nAnn,1,1⟩],1,0⟩
 |_=>⟨8,200,n0,nAnn,[],0,0⟩
def famDeeds:List Deed:=[famD 0,famD 1,famD 2,famD 3,famD 4]
def fam1:St:=⟨[(nAnn,nBob)],[],[],[],[],[]⟩
def fam2:St:=⟨[(nAnn,nBob),(nAnn,nCat)],[],[],[],[],[]⟩
def fam3:St:=⟨[(nAnn,nBob),(nAnn,nCat)],[(nAnn,nDan)],[],[],[],[]⟩
def fam4:St:=⟨[(nAnn,nBob),(nAnn,nCat)],[(nAnn,nDan)],[],[],[],[⟨nA1,1,-1,[(nAnn,1)],[]⟩]⟩
def famParts:Parts:=[(nBob,Rat.divInt 3 8),(nCat,Rat.divInt 3 8),(nDan,Rat.divInt 1 4)]
def fam5:St:=⟨[(nAnn,nBob),(nAnn,nCat)],[(nAnn,nDan)],[nAnn],[],[],[⟨nA1,1,-1,famParts,[nAnn]⟩]⟩
theorem fam_laws:checkLawsP famLaws=0:=by kernel_rfl
open Classical in
theorem fam_0:nextD famLaws zeroSt 0 0 (famD 0)=(fam1,0):=by
 have h1:checkDeedP (famD 0)=0:=by kernel_rfl
 have h2: ¬Desc zeroSt (toName (famD 0)) (famD 0).frm:=desc_none rfl
 unfold nextD
 rw[h1]
 show(if(0 != 0)=true then _ else if decide (60<=0)=true then _ else if decide ((0:Int)<0)=true then _ else childP zeroSt (famD 0))=_
 unfold childP
 rw[decide_eq_false h2]
 rfl
open Classical in
theorem fam_1:nextD famLaws fam1 1 0 (famD 1)=(fam2,0):=by
 have h1:checkDeedP (famD 1)=0:=by kernel_rfl
 have h2: ¬Desc fam1 (toName (famD 1)) (famD 1).frm:=desc_none (by kernel_rfl)
 unfold nextD
 rw[h1]
 show(if(0 != 0)=true then _ else if decide (60<=1)=true then _ else if decide ((0:Int)<0)=true then _ else childP fam1 (famD 1))=_
 unfold childP
 rw[decide_eq_false h2]
 have e1:(childrenP fam1 (famD 1).frm).any (sameB (toName (famD 1)))=false:=by kernel_rfl
 have e2:decide (2<=(parentsP fam1 (toName (famD 1))).length)=false:=by kernel_rfl
 rw[e1,e2]
 rfl
theorem fam_2:nextD famLaws fam2 2 0 (famD 2)=(fam3,0):=by kernel_rfl
theorem fam_3:nextD famLaws fam3 3 0 (famD 3)=(fam4,0):=by kernel_rfl
theorem fam_4:nextD famLaws fam4 4 100 (famD 4)=(fam5,0):=by kernel_rfl
theorem fam_replay (upto:Int) (h:200<=upto):replayD famLaws famDeeds upto=(fam5,5,0):=by
 have q0:decide ((famD 0).day<=upto)=true:=by show decide ((0:Int)<=upto)=true;simp;omega
 have q1:decide ((famD 1).day<=upto)=true:=by show decide ((0:Int)<=upto)=true;simp;omega
 have q2:decide ((famD 2).day<=upto)=true:=by show decide ((0:Int)<=upto)=true;simp;omega
 have q3:decide ((famD 3).day<=upto)=true:=by show decide ((100:Int)<=upto)=true;simp;omega
 have q4:decide ((famD 4).day<=upto)=true:=by show decide ((200:Int)<=upto)=true;simp;omega
 have z: ¬((0:Int) != 0)=true:=by decide
 unfold replayD famDeeds
 rw[fam_laws,if_neg z]
 rw[replayGo,fam_0,if_neg z,q0,if_pos rfl]
 show replayGo famLaws upto _ fam1 fam1 1 0=_
 rw[replayGo,fam_1,if_neg z,q1,if_pos rfl]
 show replayGo famLaws upto _ fam2 fam2 2 0=_
 rw[replayGo,fam_2,if_neg z,q2,if_pos rfl]
 show replayGo famLaws upto _ fam3 fam3 3 0=_
 rw[replayGo,fam_3,if_neg z,q3,if_pos rfl]
 show replayGo famLaws upto _ fam4 fam4 4 100=_
 rw[replayGo,fam_4,if_neg z,q4,if_pos rfl]
 rfl
def recs5:List Rec:=[⟨1,nAnn,n0,n0,5,0,0,0⟩,⟨0,nBob,n0,n0,9,0,0,0⟩,⟨0,nAnn,n0,n0,7,0,0,0⟩,⟨3,nAnn,n0,nA1,4,0,1,2⟩,⟨3,nBob,n0,nA1,4,0,2,3⟩]
theorem recs5_ok:checkRecsP recs5=0:=by kernel_rfl
open Classical in
theorem contra_of {l:List Rec} (h1:pairP l=false) (h2: ∀x∈l,x.kind≠2) (h3: ¬TooMuch l):contraP l=false:=by
 unfold contraP
 have h4: ¬Circle l:=fun hc=>by
  obtain⟨x,hx,hk,_⟩:=circle_records.1 hc
  exact h2 x hx hk
 rw[h1,decide_eq_false h4,decide_eq_false h3]
 rfl
theorem few_one (x:Rec) (h:Rat.divInt x.num x.den<=1): ¬TooMuch [x]:=fun⟨p,d,hc⟩=>by
 rw[sumGo,sumGo]at hc
 split at hc
 ·grind
 ·rw[sumGo]at hc;grind
theorem one_ok {i:Nat} (hi:i<5):contraP (ofP recs5 [i])=false:=by
 have:i=0\/i=1\/i=2\/i=3\/i=4:=by omega
 rcases this with rfl|rfl|rfl|rfl|rfl
 ·exact contra_of (l:=[⟨1,nAnn,n0,n0,5,0,0,0⟩]) rfl (by simp) (few_one _ (by decide))
 ·exact contra_of (l:=[⟨0,nBob,n0,n0,9,0,0,0⟩]) rfl (by simp) (few_one _ (by decide))
 ·exact contra_of (l:=[⟨0,nAnn,n0,n0,7,0,0,0⟩]) rfl (by simp) (few_one _ (by decide))
 ·exact contra_of (l:=[⟨3,nAnn,n0,nA1,4,0,1,2⟩]) rfl (by simp) (few_one _ (by decide))
 ·exact contra_of (l:=[⟨3,nBob,n0,nA1,4,0,2,3⟩]) rfl (by simp) (few_one _ (by decide))
theorem two_ok:contraP (ofP recs5 [0,1])=false:=by
 refine contra_of (l:=[⟨1,nAnn,n0,n0,5,0,0,0⟩,⟨0,nBob,n0,n0,9,0,0,0⟩]) (by kernel_rfl) (by simp) ?_
 rintro⟨p,d,hc⟩
 rw[sumGo,if_neg (by simp),sumGo,if_neg (by simp),sumGo]at hc
 exact absurd hc (by decide)
theorem two_bad:contraP (ofP recs5 [0,2])=true:=by
 unfold contraP
 have h:pairP (ofP recs5 [0,2])=true:=by kernel_rfl
 rw[h]
 rfl
theorem recs5_least:IsLeast recs5 [0,2]:=by
 refine⟨⟨by simp,by simp[recs5]⟩,two_bad,fun t ht hc=> ?_⟩
 match t,ht,hc with
 | [],_,hc=>
   rw[show contraP (ofP recs5 [])=false from contra_nil]at hc
   cases hc
 | [i],ht,hc=>
   rw[one_ok (ht.2 i (by simp))]at hc
   cases hc
 | [i,j],ht,hc=>
   refine .inr ⟨rfl,?_⟩
   have h1:=(List.pairwise_cons.1 ht.1).1 j (by simp)
   rw[<-Bool.not_eq_true]
   intro hl
   simp only[lexB,Bool.or_eq_true,decide_eq_true_eq,Bool.and_eq_true,beq_iff_eq]at hl
   have e:i=0/\j=1:=by
    rcases hl with h|⟨h,h|h⟩
    ·omega
    ·omega
    ·exact absurd h.2 (by simp)
   rw[e.1,e.2,two_ok]at hc
   cases hc
 |i::j::k::r,_,_=>exact .inl (by simp)
end Go.Proofs.YtkhkhnellekofaaGreatDoor
namespace Go.Proofs.YtkhkhnellekofaaGreatDoor
section
variable {P:Program} {ops:Array Oper} {md:Region.Mode} {C:World->Prop}
def wpHeadQ (P:Program) (md:Region.Mode) (ops:Array Oper) (C:World->Prop) (n:Nat) (L:Array Bool->Act->Prop):Nat->Array Bool->Act->Prop
 |0,listed,a=>L listed a
 |f+1,listed,a=>
  Region.ready md ops listed≠[]/\ ∀i∈Region.ready md ops listed,i<n/\qOp P ops C i (wpHeadQ P md ops C n L f (listed.setIfInBounds i true)) a
theorem wpAny_of_headQ {n g:Nat} {L:Array Bool->Act->Prop} {Q':Exit->Act->World->Prop} (hL: ∀listed a w,C w->L listed a->wpAny P md ops Q' g listed a w):
 ∀(f:Nat) (listed:Array Bool) (a:Act) (w:World),C w->wpHeadQ P md ops C n L f listed a->wpAny P md ops Q' (f+g) listed a w
 |0,listed,a,w,hw,h=>by rw[Nat.zero_add];exact hL _ _ _ hw h
 |f+1,listed,a,w,hw,h=>by
  rw[show f+1+g=(f+g)+1 by omega]
  exact⟨fun h0=>absurd h0 h.1,fun i hi=>wpOp_of_qOp hw (fun a' w' hw' h'=>wpAny_of_headQ hL f _ a' w' hw' h') (h.2 i hi).2⟩
theorem wpHeadQ_first {n i:Nat} {oi:Oper} {v:Value} {L:Array Bool->Act->Prop} (hi:ops[i]?=some oi) (hsel: ∀(j:Nat) (o:Oper) cs b,ops[j]?=some o->o.op≠ .select cs b)
 (hs:Region.sinkB md ops n=true) (hc:Region.chainB md ops n=true) (hn:n<ops.size) (hin:i<n)
 (hdone: ∀listed a,L listed a-> ∀j∈Region.ready md ops listed,n<=j):
 ∀(f:Nat) (listed:Array Bool) (a:Act),HeadInv md ops n listed->
  (∀j oj,ops[j]?=some oj->j≠i->listed.getD j true=false->(∀e∈oj.after,Region.binds md e=true->e.on≠i)->oi.apart ops oj=true)->
  i∈Region.ready md ops listed->YieldsIn P ops C oi v a->
  wpHeadQ P md ops C n L f (listed.setIfInBounds i true) (a.put oi.dst v)->wpHeadQ P md ops C n L (f+1) listed a:=by
 intro f
 induction f with
 |zero=>
  intro listed a inv _ hr hy H
  have hun:=(mem_ready.1 hr).1
  refine⟨fun h=>(by rw[h]at hr;cases hr),fun j hj=> ?_⟩
  have hjn:j<n:=by
   rcases Nat.lt_or_ge j n with h|h
   ·exact h
   ·exact absurd hj (tail_waits hs hc hn inv _ i rfl hin hun j h)
  refine⟨hjn,?_⟩
  by_cases hji:j=i
  ·subst hji;exact hy.qOp hi H
  ·have:=hdone _ _ H j (ready_mono hj hji)
   omega
 |succ f ih=>
  intro listed a inv hfree hr hy H
  have hun:=(mem_ready.1 hr).1
  refine⟨fun h=>(by rw[h]at hr;cases hr),fun j hj=> ?_⟩
  have hjn:j<n:=by
   rcases Nat.lt_or_ge j n with h|h
   ·exact h
   ·exact absurd hj (tail_waits hs hc hn inv _ i rfl hin hun j h)
  refine⟨hjn,?_⟩
  by_cases hji:j=i
  ·subst hji;exact hy.qOp hi H
  ·have h1:=(H.2 j (ready_mono hj hji)).2
   obtain⟨hjun,oj,hoj,hall⟩:=mem_ready.1 hj
   have hnot: ∀e∈oj.after,Region.binds md e=true->e.on≠i:=fun e he hb heq=>by
    have h1:=hall e he hb
    rw[heq,getD_both hun]at h1
    cases h1
   have h2:=qOp_put hoj (hfree j oj hoj hji hjun hnot) (fun cs b=>hsel i oi cs b hi) (fun cs b=>hsel j oj cs b hoj) hy h1
   have hfree': ∀k ok,ops[k]?=some ok->k≠i->(listed.setIfInBounds j true).getD k true=false->
    (∀e∈ok.after,Region.binds md e=true->e.on≠i)->oi.apart ops ok=true:=fun k ok hk hki hun hno=>by
    refine hfree k ok hk hki ?_ hno
    by_cases hjk:j=k
    ·subst hjk;exact hjun
    ·rw[getD_set_ne true hjk]at hun;exact hun
   refine qOp_mono (fun a' h3=>ih (listed.setIfInBounds j true) a' (inv.set hj hjn) hfree' (ready_mono hr (Ne.symm hji)) h3.1 ?_) h2
   rw[Array.setIfInBounds_comm _ _ hji]
   exact h3.2
theorem wpHeadQ_lex {n g:Nat} {Lq:Act->Prop} (hsel:Region.noSelect ops=true) (hs:Region.sinkB md ops n=true) (hc:Region.chainB md ops n=true) (hn:n<ops.size):
 ∀(l:List Oper) (k:Nat) (listed:Array Bool) (a:Act),(∀j,j<l.length->l[j]?=ops[k+j]?)->k+l.length=n->HeadInv md ops n listed->
 Region.lexHead md ops g l.length k listed=true->wpQuiet P ops C Lq l a->
 wpHeadQ P md ops C n (fun listed' a'=>Region.seqB md ops g n listed'=true/\Lq a') l.length listed a
 | [],k,listed,a,_,hk,_,hB,h=>by
   have:k=n:=by simpa using hk
   subst this
   exact⟨by simpa[Region.lexHead]using hB,h⟩
 |o::l,k,listed,a,hl,hk,inv,hB,h=>by
  have h0:ops[k]?=some o:=by simpa using(hl 0 (by simp)).symm
  simp only[List.length_cons,Region.lexHead,Bool.and_eq_true]at hB
  obtain⟨⟨hr,hf⟩,hB'⟩:=hB
  have hkn:k<n:=by simp only[List.length_cons]at hk;omega
  have hr':k∈Region.ready md ops listed:=by simpa using hr
  have hst:qOp P ops C k (wpQuiet P ops C Lq l) a:=by unfold qOp;simp only[h0];exact h
  obtain⟨v,hy,hK⟩:=yieldsIn_of_qOp h0 hst
  exact wpHeadQ_first h0 (Region.noSelect_spec hsel) hs hc hn hkn (fun listed' a' hL=>seqB_ready hL.1) l.length listed a inv (Region.free_spec h0 hf) hr' hy
   (wpHeadQ_lex hsel hs hc hn l (k+1) _ _ (fun j hj=>by have:=hl (j+1) (by simp;omega);simpa[Nat.add_assoc,Nat.add_comm 1 j]using this) (by simp only[List.length_cons]at hk;omega) (inv.set hr' hkn) hB' hK)
theorem wp_region_quiet_tail {id:Nat} {Q:Exit->Act->World->Prop} {a:Act} {w:World} {l:List Oper} (n:Nat) (hm:P.follows .mixedOrders=true) (hB:Region.lexTailB .any l.toArray n=true)
 (h:wpQuiet P l.toArray (fun w'=> ∃z,w'=w.ext z) (fun a'=> ∀w',(∃z,w'=w.ext z)->wpList P l.toArray Q (l.drop n) a' w') (l.take n) a):(Code.region id l.toArray true).wp P Q a w:=by
 simp only[Region.lexTailB,Bool.and_eq_true,decide_eq_true_eq]at hB
 obtain⟨⟨⟨⟨hsel,hn⟩,hs⟩,hc⟩,hlex⟩:=hB
 have hn':n<l.length:=by simpa using hn
 have htl:(l.take n).length=n:=by simp;omega
 have hdl:(l.drop n).length=l.toArray.size-n:=by simp
 have inv0:HeadInv .any l.toArray n (Array.replicate l.toArray.size false):=
  ⟨by simp,fun j oj _ hl=>(by rw[getD_replicate_false]at hl;cases hl),fun t _ ht=>getD_in (by simpa using ht) (getD_replicate_false _ _)⟩
 have H:=wpHeadQ_lex (md:= .any) (g:=l.toArray.size-n) hsel hs hc hn (l.take n) 0 _ a (fun j hj=>by
  have hj':j<n:=by rw[htl]at hj;exact hj
  simp[hj']) (by simpa using htl) inv0 (by rw[htl];exact hlex) h
 refine wp_region_any hm ?_
 have:=wpAny_of_headQ (C:=fun w'=> ∃z,w'=w.ext z) (Q':=Q) (g:=l.toArray.size-n) (fun listed a' w' hw' hL=>by
  have:=wpAny_of_seq (md:= .any) (Q':=Q) (l.drop n) n listed a' w' (fun j=>by simp[List.getElem?_drop]) (by rw[hdl];exact hL.1) (hL.2 w' hw')
  rwa [hdl]at this) _ _ _ {w with drawn:=w.drawn+1} ⟨⟨#[],w.drawn+1⟩,by simp[World.ext]⟩ H
 rw[htl,show n+(l.toArray.size-n)=l.toArray.size by omega]at this
 exact this
end
end Go.Proofs.YtkhkhnellekofaaGreatDoor
