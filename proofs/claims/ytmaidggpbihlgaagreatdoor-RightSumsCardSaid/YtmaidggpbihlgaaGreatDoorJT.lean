/- Plain: the bits of a number, the lowest first. -/
import Derived.Test.YtmaidggpbihlgaaGreatDoorO0
import Derived.Test.YtmaidggpbihlgaaGreatDoorJB
import Derived.Shelf.Spec.TrailingZeros
set_option linter.unusedSimpArgs false
set_option linter.unusedVariables false
namespace Go.Proofs.YtmaidggpbihlgaaGreatDoor
open Go.RowKit
structure Found (s:St) (nm:ByteArray) (out xs:List ByteArray):Prop where
 nd:out.Nodup
 desc: ∀n∈out,Desc s nm n
 from': ∀x∈xs,x=nm\/x∈out
 seen: ∀x,(x=nm\/x∈out)->x∈xs\/ ∀c∈childrenP s x,c∈out
structure Look (s:St) (nm x:ByteArray) (j:Nat) (out xs:List ByteArray):Prop where
 nd:out.Nodup
 desc: ∀n∈out,Desc s nm n
 from': ∀x∈xs,x=nm\/x∈out
 seen: ∀y,(y=nm\/y∈out)->y∈xs\/y=x\/ ∀c∈childrenP s y,c∈out
 mine:x=nm\/x∈out
 done: ∀c∈(childrenP s x).take j,c∈out
theorem found_start (s:St) (nm:ByteArray):Found s nm [] [nm]:=⟨List.nodup_nil,by simp,by simp,fun x hx=> .inl (by simpa using hx)⟩
theorem found_pop {s:St} {nm x:ByteArray} {out xs:List ByteArray} (h:Found s nm out (x::xs)):Look s nm x 0 out xs:=
 ⟨h.nd,h.desc,fun y hy=>h.from' y (by simp[hy]),fun y hy=>by
   rcases h.seen y hy with h1|h1
   ·rcases List.mem_cons.1 h1 with rfl|h1
    ·exact .inr (.inl rfl)
    ·exact .inl h1
   ·exact .inr (.inr h1),h.from' x (by simp),by simp⟩
theorem look_end {s:St} {nm x:ByteArray} {out xs:List ByteArray} (h:Look s nm x (childrenP s x).length out xs):Found s nm out xs:=
 ⟨h.nd,h.desc,h.from',fun y hy=>by
   rcases h.seen y hy with h1|rfl|h1
   ·exact .inl h1
   ·exact .inr fun c hc=>h.done c (by simpa using hc)
   ·exact .inr h1⟩
theorem look_old {s:St} {nm x:ByteArray} {j:Nat} {out xs:List ByteArray} (h:Look s nm x j out xs) (hj:j<(childrenP s x).length) (hc:(childrenP s x)[j]∈out):Look s nm x (j+1) out xs:=
 ⟨h.nd,h.desc,h.from',h.seen,h.mine,fun c hc'=>by
   rw[List.take_succ_eq_append_getElem hj]at hc'
   rcases List.mem_append.1 hc' with h1|h1
   ·exact h.done c h1
   ·rw[List.mem_singleton.1 h1];exact hc⟩
theorem look_new {s:St} {nm x:ByteArray} {j:Nat} {out xs:List ByteArray} (h:Look s nm x j out xs) (hj:j<(childrenP s x).length) (hc:(childrenP s x)[j]∉out):Look s nm x (j+1) (out++[(childrenP s x)[j]]) (xs++[(childrenP s x)[j]]):=by
 have hmem:(childrenP s x)[j]∈childrenP s x:=List.getElem_mem _
 refine⟨?_,fun n hn=> ?_,fun y hy=> ?_,fun y hy=> ?_,?_,fun c hc'=> ?_⟩
 ·exact List.nodup_append.2 ⟨h.nd,by simp,fun a ha b hb e=>by rw[List.mem_singleton.1 hb]at e;exact hc (e▸ha)⟩
 ·rcases List.mem_append.1 hn with h1|h1
  ·exact h.desc n h1
  ·rw[List.mem_singleton.1 h1]
   rcases h.mine with rfl|hm
   ·exact desc_child hmem
   ·exact desc_step (h.desc x hm) hmem
 ·rcases List.mem_append.1 hy with h1|h1
  ·rcases h.from' y h1 with h2|h2
   ·exact .inl h2
   ·exact .inr (by simp[h2])
  ·exact .inr (by simp[List.mem_singleton.1 h1])
 ·rcases hy with hy|hy
  ·rcases h.seen y (.inl hy)with h1|h1|h1
   ·exact .inl (by simp[h1])
   ·exact .inr (.inl h1)
   ·exact .inr (.inr fun c hc=>by simp[h1 c hc])
  ·rcases List.mem_append.1 hy with h1|h1
   ·rcases h.seen y (.inr h1)with h2|h2|h2
    ·exact .inl (by simp[h2])
    ·exact .inr (.inl h2)
    ·exact .inr (.inr fun c hc=>by simp[h2 c hc])
   ·exact .inl (by simp[List.mem_singleton.1 h1])
 ·rcases h.mine with h1|h1
  ·exact .inl h1
  ·exact .inr (by simp[h1])
 ·rw[List.take_succ_eq_append_getElem hj]at hc'
  rcases List.mem_append.1 hc' with h1|h1
  ·simp[h.done c h1]
  ·simp[List.mem_singleton.1 h1]
theorem found_end {s:St} {nm:ByteArray} {out:List ByteArray} (h:Found s nm out []): ∀n,n∈out↔Desc s nm n:=fun n=>by
 refine⟨h.desc n,fun hd=>desc_closed (out:=fun x=>x∈out) ?_ ?_ hd⟩
 ·intro c hc
  rcases h.seen nm (.inl rfl)with h1|h1
  ·simp at h1
  ·exact h1 c hc
 ·intro x hx c hc
  rcases h.seen x (.inr hx)with h1|h1
  ·simp at h1
  ·exact h1 c hc
theorem nodup_le {α:Type} [DecidableEq α]: ∀ {a b:List α},a.Nodup->(∀x∈a,x∈b)->a.length<=b.length
 | [],_,_,_=>Nat.zero_le _
 |x::a,b,h,hs=>by
  have h':=List.nodup_cons.1 h
  have hx:x∈b:=hs x (by simp)
  have h1:a.length<=(b.erase x).length:=nodup_le h'.2 fun y hy=>by
   have hne:y≠x:=fun e=>h'.1 (e▸hy)
   exact(List.mem_erase_of_ne hne).2 (hs y (by simp[hy]))
  have h2:=List.length_erase_of_mem hx
  have h3:0<b.length:=List.length_pos_of_mem hx
  simp only[List.length_cons]
  omega
theorem out_few {s:St} {nm:ByteArray} {out:List ByteArray} (hn:out.Nodup) (hd: ∀n∈out,Desc s nm n):out.length<=s.children.length:=by
 have hsub: ∀n∈out,n∈s.children.map (·.2):=fun n hn'=>by
  have: ∃y,(y,n)∈s.children:=by
   cases hd n hn' with
   |single h=>exact⟨nm,mem_children.1 h⟩
   |tail _ h=>exact⟨_,mem_children.1 h⟩
  obtain⟨y,hy⟩:=this
  exact List.mem_map.2 ⟨(y,n),hy,rfl⟩
 haveI:DecidableEq ByteArray:=fun a b=>Classical.propDecidable _
 have:=nodup_le hn hsub
 simpa using this
end Go.Proofs.YtmaidggpbihlgaaGreatDoor
namespace Go.Proofs.YtmaidggpbihlgaaGreatDoor
open Go.RowKit Go.Shelf
attribute [local go_sem] World.cell?_alloc_mark ext_size ext_cell ext_frozen lt_add_r lt_add_r2 lt_add_r3 lt_add_r4 lt_add_r5 lt_add_r6 lt_add_r7 lt_add_r8
attribute [local go_sem] ext_setCell alloc_setCell_lt
set_option maxRecDepth 100000 in
set_option maxHeartbeats 2000000 in
theorem addMonths_any (day mo:Int) (w:World) (hL:LensIn w) (h0:0<=day) (h1:day<=200000) (hm0:0<=mo) (hm1:mo<=12000):
 Calls Tryz.prog 168 #[.int .i64 day, .int .i64 mo] w (fun e w'=> ∃n er:Int,(er=0->addMonthsP day mo=n/\0<=n)/\(er≠0->addMonthsP day mo= -1)/\Ret w (.tuple #[.int .i64 n, .int .i64 er]) e w'):=by
 have hd1:inR day 0 200000=true:=by simp[inR];omega
 have hd2:inR mo (-12000) 12000=true:=by simp[inR];omega
 have HL:=Lib.hid (rlater_any day mo w hL h0 h1 (by omega) hm1)
 go_enter Tryz.func168,Tryz.ntmps168
 go_wp2_with (first
  |(go_at_call 183;refine(risDay_any _ _).mono ?_;rintro e wq ⟨rfl,rfl⟩;unfold isDayP;rw[hd1])
  |(go_at_call 184;refine(rwithin_any _ _ _ _).mono ?_;rintro e wq ⟨rfl,rfl⟩;rw[hd2])
  |(go_at_call 185;refine(HL.out).mono ?_;rintro e wq ⟨n,ok,h1,h2,rfl,z,rfl⟩;have H1:=Lib.hid h1;have H2:=Lib.hid h2;clear h1 h2;cases ok))
 all_goals go_ret2
 all_goals first
  |exact⟨0,2,by simp,fun _=>H2.out trivial,Ret.of rfl Bw⟩
  |exact⟨n,0,fun _=>H1.out trivial,by simp,Ret.of rfl Bw⟩
set_option maxRecDepth 100000 in
set_option maxHeartbeats 2000000 in
theorem later5_any (day ys:Int) (w:World) (hL:LensIn w) (h0:0<=day) (h1:day<=200000) (hm0:0<=ys) (hm1:ys<=99):
 Calls Tryz.prog 130 #[.int .i64 day, .int .i64 ys] w (Ret w (.int .i64 (afterP day ys))):=by
 have HL:=Lib.hid (addMonths_any day (12*ys) w hL h0 h1 (by omega) (by omega))
 go_enter Tryz.func130,Tryz.ntmps130
 go_wp2_with (go_at_call 168;refine(HL.out).mono ?_;rintro e wq ⟨n,er,k1,k2,rfl,z,rfl⟩;have H1:=Lib.hid k1;have H2:=Lib.hid k2;clear k1 k2;by_cases her:er=0)
 all_goals go_ret
 all_goals first
  |exact Ret.of (int_eq (by unfold afterP;exact(H1.out (by first|trivial|exact her)).1.symm)) Bw
  |exact Ret.of (int_eq (by unfold afterP;exact(H2.out (by first|trivial|exact her)).symm)) Bw
end Go.Proofs.YtmaidggpbihlgaaGreatDoor
namespace Go.Proofs.YtmaidggpbihlgaaGreatDoor
open Go.RowKit
def givesF (n:ByteArray) (f:Rat) (x:Parts×Bool):Parts×Bool:=
 (setP x.1 n (seenQ (shareP x.1 n+f)),x.2||bigQ (shareP x.1 n+f))
mutual
def linesF (part:Rat):List Tree->Parts×Bool->Parts×Bool
 | [],x=>x
 |t::l,x=>linesF part l (treeF part t x)
def treeF (part:Rat):Tree->Parts×Bool->Parts×Bool
 | .leaf n,x=>givesF n part x
 | .node l,x=>linesF (seenQ (part*(1/(l.length:Rat)))) l (x.1,x.2||bigQ (part*(1/(l.length:Rat))))
end
def divideF (l:List Tree) (f:Rat) (x:Parts×Bool):Parts×Bool:=
 linesF (seenQ (f*(1/(l.length:Rat)))) l (x.1,x.2||bigQ (f*(1/(l.length:Rat))))
theorem treeF_node (part:Rat) (l:List Tree) (x:Parts×Bool):treeF part (.node l) x=divideF l part x:=by rw[treeF,divideF]
theorem linesF_append (part:Rat): ∀(a b:List Tree) (x:Parts×Bool),linesF part (a++b) x=linesF part b (linesF part a x)
 | [],_,_=>by rw[List.nil_append,linesF]
 |t::a,b,x=>by rw[List.cons_append,linesF,linesF,linesF_append part a b]
def willF (s:St) (frm:ByteArray):Parts->Parts×Bool->Rat->(Parts×Bool)×Rat
 | [],x,rest=>(x,rest)
 |p::l,x,rest=>if ableP s p.1 frm then willF s frm l (givesF p.1 p.2 x) (rest-p.2)else willF s frm l x rest
def heirSpouse (s:St) (n:ByteArray):ByteArray:=if ableP s (spouseP s n) n then spouseP s n else⟨#[]⟩
def estateF (s:St) (law:Law) (n:ByteArray):Parts×Bool:=
 let y:=willF s n (willOf s n) ([],false) 1
 let sp:=heirSpouse s n
 let lines:=treesP s law.stems n (generations s) n
 if lines.isEmpty then givesF sp y.2 y.1 else
 if noB sp then divideF lines y.2 y.1 else
 divideF lines (y.2-y.2*Rat.divInt law.num law.den) (givesF sp (y.2*Rat.divInt law.num law.den) y.1)
mutual
theorem lines_mark {part:Rat}: ∀ {l:List Tree} {x:Parts×Bool},x.2=true->(linesF part l x).2=true
 | [],x,h=>by rw[linesF];exact h
 |t::l,x,h=>by rw[linesF];exact lines_mark (tree_mark h)
theorem tree_mark {part:Rat}: ∀ {t:Tree} {x:Parts×Bool},x.2=true->(treeF part t x).2=true
 | .leaf n,x,h=>by rw[treeF];simp[givesF,h]
 | .node l,x,h=>by rw[treeF];exact lines_mark (by simp[h])
end
theorem gives_ok {out:Parts} (h:GoodParts out) {n:ByteArray} {f:Rat} (hf:0<=f) (hb:bigQ (shareP out n+f)=false):givesF n f (out,false)=(givenP out n f,false):=by
 unfold givesF
 simp only[hb,Bool.or_self]
 rw[set_seen h hf hb]
theorem div_one (a:Rat) (n:Nat):a*(1/(n:Rat))=a/(n:Rat):=by
 rw[Rat.div_def,Rat.div_def,Rat.one_mul]
theorem div_nonneg5 {a:Rat} (h:0<=a) (n:Nat):0<=a*(1/(n:Rat)):=by
 rw[div_one]
 exact rat_div_nonneg h Rat.natCast_nonneg
mutual
theorem lines_same {each:Rat} (he:0<=each): ∀ {l:List Tree} {out:Parts},GoodParts out->largeP out=false->
 (∀o,spreadP each l out=some o->linesF each l (out,false)=(o,false))/\(spreadP each l out=none->(linesF each l (out,false)).2=true)
 | [],out,hg,hs=>by
   rw[spreadP,linesF]
   exact⟨fun o h=>by cases h;rfl,fun h=>by cases h⟩
 |t::l,out,hg,hs=>by
  obtain⟨h1,h2⟩:=tree_same he (t:=t) hg hs
  rw[spreadP,linesF]
  cases ht:treeP each t out with
  |none=>
   refine⟨fun o h=>by(cases h),fun _=>lines_mark (h2 ht)⟩
  |some o1=>
   rw[h1 o1 ht]
   obtain⟨g1,g2⟩:=tree_good he hg hs ht
   exact lines_same he g1 g2
theorem tree_same {each:Rat} (he:0<=each): ∀ {t:Tree} {out:Parts},GoodParts out->largeP out=false->
 (∀o,treeP each t out=some o->treeF each t (out,false)=(o,false))/\(treeP each t out=none->(treeF each t (out,false)).2=true)
 | .leaf n,out,hg,hs=>by
   rw[treeP,treeF,given_big hg hs he]
   cases hb:bigQ (shareP out n+each)
   ·rw[if_neg (by simp),gives_ok hg he hb]
    exact⟨fun o h=>by cases h;rfl,fun h=>by cases h⟩
   ·rw[if_pos rfl]
    refine⟨fun o h=>by(cases h),fun _=>by simp[givesF,hb]⟩
 | .node l,out,hg,hs=>by
   rw[treeP,treeF,div_one]
   cases hb:bigQ (each/(l.length:Rat))
   ·rw[if_neg (by simp),seen_of hb]
    exact lines_same (rat_div_nonneg he Rat.natCast_nonneg) hg hs
   ·rw[if_pos rfl]
    exact⟨fun o h=>by(cases h),fun _=>lines_mark (by simp)⟩
end
theorem given_zero (out:Parts) (n:ByteArray):givenP out n 0=out:=by cases out<;>simp[givenP]
theorem gives_zero {out:Parts} (h:GoodParts out) (hs:largeP out=false) (n:ByteArray):givesF n 0 (out,false)=(out,false):=by
 rw[gives_ok h Rat.le_refl (by rw[Rat.add_zero];exact share_small n hs),given_zero]
theorem seen_zero (k:Nat):seenQ (0*(1/(k:Rat)))=0/\bigQ (0*(1/(k:Rat)))=false:=by
 rw[Rat.zero_mul]
 exact⟨seen_of (by decide),by decide⟩
mutual
theorem lines_zero: ∀ {l:List Tree} {out:Parts},GoodParts out->largeP out=false->linesF 0 l (out,false)=(out,false)
 | [],out,_,_=>by rw[linesF]
 |t::l,out,hg,hs=>by rw[linesF,tree_zero hg hs,lines_zero hg hs]
theorem tree_zero: ∀ {t:Tree} {out:Parts},GoodParts out->largeP out=false->treeF 0 t (out,false)=(out,false)
 | .leaf n,out,hg,hs=>by rw[treeF,gives_zero hg hs]
 | .node l,out,hg,hs=>by
   rw[treeF,(seen_zero l.length).1,(seen_zero l.length).2]
   exact lines_zero hg hs
end
theorem divide_zero {l:List Tree} {out:Parts} (hg:GoodParts out) (hs:largeP out=false):divideF l 0 (out,false)=(out,false):=by
 rw[divideF,(seen_zero l.length).1,(seen_zero l.length).2]
 exact lines_zero hg hs
theorem will_same {s:St} {frm:ByteArray}: ∀ {l out:Parts} {rest:Rat},(∀p∈l,0<p.2)->(∀p∈l,IsN 720720 p.2)->GoodParts out->(∀p∈out,IsN 720720 p.2)->
 willF s frm l (out,false) rest=(((willGo s frm l out rest).1,false),(willGo s frm l out rest).2)
 | [],out,rest,_,_,_,_=>rfl
 |p::l,out,rest,hp,hN,hg,hn=>by
  have hl:=fun q (hq:q∈l)=>hp q (by simp[hq])
  have hNl:=fun q (hq:q∈l)=>hN q (by simp[hq])
  rw[willF,willGo]
  split
  ·have h0:0<=p.2:=by have:=hp p (by simp);grind
   have hgi:=given_isN (nm:=p.1) (hN p (by simp)) hn
   have hb:bigQ (shareP out p.1+p.2)=false:=by
    rw[<-given_big hg (small_of (by decide) (by decide) hn) h0]
    exact small_of (by decide) (by decide) hgi
   rw[gives_ok hg h0 hb]
   exact will_same hl hNl (given_good h0 hg) hgi
  ·exact will_same hl hNl hg hn
theorem isN_law {law:Law} (hl:isShareP 16 law.num law.den=true):(∃d:Nat,0<d/\d<=16/\IsN d (Rat.divInt law.num law.den))/\0<=Rat.divInt law.num law.den/\Rat.divInt law.num law.den<=1:=by
 refine⟨?_,(share_rat hl).2.2⟩
 have hd:=hl
 unfold isShareP at hd
 simp only[Bool.and_eq_true,decide_eq_true_eq]at hd
 refine⟨law.den.toNat,by omega,by omega,law.num,?_⟩
 have hz:(law.den:Rat)≠0:=ratI (by omega)
 have e:((law.den.toNat:Nat):Rat)=(law.den:Rat):=by rw[<-Rat.intCast_natCast,Int.toNat_of_nonneg (by omega)]
 rw[Rat.divInt_eq_div,e]
 grind
theorem isN_small {n:Nat} (h0:0<n) (h1:n<=1000000000) {q:Rat} (h:IsN n q):bigQ q=false:=by
 have:=isN_den h0 h
 unfold bigQ
 simp
 omega
theorem estate_same {s:St} {law:Law} {n:ByteArray} (hw:WillOk (willOf s n)) (hl:isShareP 16 law.num law.den=true):
 (∀o,estateP s law n=some o->(estateF s law n)=(o,false))/\(estateP s law n=none->(estateF s law n).2=true):=by
 have hws:=will_same (s:=s) (frm:=n) (rest:=1) hw.pos hw.isN good_nil (by simp)
 have hg:=will_go (s:=s) (frm:=n) (out:=[]) (rest:=1) hw.pos hw.isN hw.le good_nil (by simp) (isN_one _)
 unfold estateP estateF heirSpouse
 rw[hws]
 generalize willGo s n (willOf s n) [] 1=q at*
 obtain⟨out,rest⟩:=q
 dsimp only at*
 obtain⟨g1,g2,g3,g4,g5⟩:=hg
 have gs:largeP out=false:=small_of (by decide) (by decide) g2
 obtain⟨⟨ld,ld0,ld1,l1⟩,l2,l3⟩:=isN_law hl
 generalize Rat.divInt law.num law.den=la at*
 generalize(if ableP s (spouseP s n) n=true then spouseP s n else⟨#[]⟩)=sp at*
 generalize treesP s law.stems n (generations s) n=tr at*
 by_cases hr:rest=0
 ·subst hr
  have hz:(0:Rat)-0=0:=by grind
  simp only[Rat.zero_mul,hz,beq_self_eq_true,if_true]
  refine⟨fun o h=> ?_,fun h=>by cases h⟩
  cases h
  split
  ·exact gives_zero g1 gs sp
  ·split
   ·exact divide_zero g1 gs
   ·rw[gives_zero g1 gs,divide_zero g1 gs]
 ·have hr0:(rest==0)=false:=by simpa using hr
  have hrp:0<rest:=by grind
  simp only[hr0,Bool.false_eq_true,if_false]
  cases he:tr.isEmpty
  ·simp only[Bool.false_eq_true,if_false]
   have hdiv: ∀ {x:Parts} {r:Rat},GoodParts x->largeP x=false->0<=r->
    (∀o,(if bigQ (r/(tr.length:Rat))=true then none else spreadP (r/(tr.length:Rat)) tr x)=some o->divideF tr r (x,false)=(o,false))/\((if bigQ (r/(tr.length:Rat))=true then none else spreadP (r/(tr.length:Rat)) tr x)=none->(divideF tr r (x,false)).2=true):=fun {x r} hx hxs hr'=>by
    rw[divideF,div_one]
    cases hb:bigQ (r/(tr.length:Rat))
    ·rw[if_neg (by simp),seen_of hb]
     exact lines_same (rat_div_nonneg hr' Rat.natCast_nonneg) hx hxs
    ·rw[if_pos rfl]
     exact⟨fun o h=>by(cases h),fun _=>lines_mark (by simp)⟩
   cases hn:noB sp
   ·simp only[Bool.false_eq_true,if_false]
    have ho0:0<=rest*la:=Rat.mul_nonneg g4 l2
    have ho1:rest*la<=rest:=by
     have:=Rat.mul_nonneg g4 (show 0<=1-la by grind)
     grind
    have hb:bigQ (shareP out sp+rest*la)=false:=by
     have h1:IsN (720720*ld) (shareP out sp+rest*la):=by
      refine isN_add (isN_up ?_) (isN_mul g3 l1)
      unfold shareP
      cases hf:out.find? (fun p=>sameB p.1 sp)with
      |none=>exact isN_zero _
      |some p=>exact g2 p (List.mem_of_find?_eq_some hf)
     exact isN_small (by omega) (by omega) h1
    rw[gives_ok g1 ho0 hb]
    have hg2:=given_good (n:=sp) ho0 g1
    have hs2:largeP (givenP out sp (rest*la))=false:=by rw[given_big g1 gs ho0];exact hb
    by_cases hz:rest-rest*la=0
    ·rw[hz]
     simp only[beq_self_eq_true,if_true]
     exact⟨fun o h=>by cases h;exact divide_zero hg2 hs2,fun h=>by cases h⟩
    ·have hz2:(rest-rest*la==0)=false:=by simpa using hz
     simp only[hz2,Bool.false_eq_true,if_false]
     exact hdiv hg2 hs2 (by grind)
   ·simp only[if_true]
    have hz:rest-0=rest:=by grind
    simp only[hz,hr0,Bool.false_eq_true,if_false]
    exact hdiv g1 gs g4
  ·simp only[if_true]
   have hb:bigQ (shareP out sp+rest)=false:=by
    rw[<-given_big g1 gs g4]
    exact small_of (by decide) (by decide) (given_isN g3 g2)
   rw[gives_ok g1 g4 hb]
   exact⟨fun o h=>by cases h;rfl,fun h=>by cases h⟩
end Go.Proofs.YtmaidggpbihlgaaGreatDoor
namespace Go.Proofs.YtmaidggpbihlgaaGreatDoor
open Go.RowKit
theorem bits_low64: ∀a b:Fin 64,a.val*64+b.val≠0->bitsP 12 (a.val*64+b.val)=Lib.ctz 64 (a.val*64+b.val)::bitsP 12 ((a.val*64+b.val) &&& (a.val*64+b.val-1)):=by decide+kernel
theorem bits_low12 (x:Nat) (hx:x<4096) (h0:x≠0):bitsP 12 x=Lib.ctz 64 x::bitsP 12 (x &&& (x-1)):=by
 have h:=bits_low64 ⟨x/64,by omega⟩ ⟨x%64,by omega⟩
 have e:x/64*64+x%64=x:=by omega
 simp only[e]at h
 exact h h0
theorem bits_up {n x:Nat} (hn:n<=12) (hx:x<2^n):bitsP n x=bitsP 12 x:=by
 unfold bitsP
 have h:List.range 12=List.range n++(List.range (12-n)).map (n+ ·):=by
  rw[<-List.range_add]
  congr 1
  omega
 rw[h,List.filter_append]
 have h2:((List.range (12-n)).map (n+ ·)).filter (fun i=>x.testBit i)=[]:=by
  rw[List.filter_eq_nil_iff]
  intro i hi
  obtain⟨j,_,rfl⟩:=List.mem_map.1 hi
  have:x.testBit (n+j)=false:=Nat.testBit_lt_two_pow (Nat.lt_of_lt_of_le hx (Nat.pow_le_pow_right (by decide) (by omega)))
  rw[this]
  decide
 rw[h2,List.append_nil]
theorem and_pred_lt {n x:Nat} (hx:x<2^n):x &&& (x-1)<2^n:=Nat.lt_of_le_of_lt Nat.and_le_left hx
theorem bits_step {n x:Nat} (hn:n<=12) (hx:x<2^n) (h0:x≠0):bitsP n x=Lib.ctz 64 x::bitsP n (x &&& (x-1)):=by
 have h12:x<4096:=Nat.lt_of_lt_of_le hx (Nat.pow_le_pow_right (n:=2) (by decide) hn)
 rw[bits_up hn hx,bits_up hn (and_pred_lt hx)]
 exact bits_low12 x h12 h0
theorem bits_none (n:Nat):bitsP n 0=[]:=by
 unfold bitsP
 rw[List.filter_eq_nil_iff]
 intro i _
 simp
theorem and_pred_dec {x:Nat} (h0:x≠0):x &&& (x-1)<x:=Nat.lt_of_le_of_lt Nat.and_le_right (by omega)
end Go.Proofs.YtmaidggpbihlgaaGreatDoor
