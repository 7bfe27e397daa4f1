/- Chapter 5's without: a set of numbers less one (Clone, Delete at numbers). -/
import Derived.Test.YtkhkhnellekofaaGreatDoorRJ
import Derived.Test.YtkhkhnellekofaaGreatDoorX0
import Derived.Test.YtkhkhnellekofaaGreatDoorJX
import Derived.Test.YtkhkhnellekofaaGreatDoorRB
import Derived.Test.YtkhkhnellekofaaGreatDoorJH
import Derived.Test.YtkhkhnellekofaaGreatDoorO1
import Derived.Test.YtkhkhnellekofaaGreatDoorE2
set_option linter.unusedSimpArgs false
set_option linter.unusedVariables false
namespace Go.Proofs.YtkhkhnellekofaaGreatDoor
open Go.RowKit
def unitR (x:Rec):Int:=x.num*(27720/x.den)
structure ShareOk (x:Rec):Prop where
 d1:1<=x.den
 d2:x.den<=12
 n1:1<=x.num
 n2:x.num<=x.den
theorem share_ok {x:Rec} (h:checkRecP x=0) (hk:x.kind=3):ShareOk x:=by
 unfold checkRecP at h
 by_cases hc:(x.kind==3&&(!inR x.den 1 12||!inR x.num 1 x.den||Int.gcd x.num x.den != 1))=true
 ·exfalso
  rw[if_pos hc]at h
  repeat(split at h;·simp at h)
  simp at h
 ·simp only[hk,Bool.and_eq_true,beq_self_eq_true,Bool.or_eq_true,Bool.not_eq_true',true_and,not_or,Bool.not_eq_false]at hc
  obtain⟨⟨h1,h2⟩,_⟩:=hc
  unfold inR at h1 h2
  simp at h1 h2
  exact⟨h1.1,h1.2,h2.1,h2.2⟩
theorem unit_den {d:Int} (h1:1<=d) (h2:d<=12):27720/d*d=27720/\0<27720/d:=by
 have:d=1\/d=2\/d=3\/d=4\/d=5\/d=6\/d=7\/d=8\/d=9\/d=10\/d=11\/d=12:=by omega
 rcases this with rfl|rfl|rfl|rfl|rfl|rfl|rfl|rfl|rfl|rfl|rfl|rfl<;>decide
theorem unit_rat {x:Rec} (h:ShareOk x):((unitR x:Int):Rat)=27720*Rat.divInt x.num x.den:=by
 have h1:=unit_den h.d1 h.d2
 unfold unitR
 generalize 27720/x.den=q at*
 have hd:(x.den:Rat)≠0:=by
  intro e
  have:x.den=0:=by exact_mod_cast e
  have:=h.d1
  omega
 have h3:(q:Rat)*(x.den:Rat)=27720:=by
  have:=congrArg (fun z:Int=>(z:Rat)) h1.1
  simpa using this
 rw[Rat.divInt_eq_div,Rat.intCast_mul]
 grind
theorem unit_bd {x:Rec} (h:ShareOk x):1<=unitR x/\unitR x<=27720:=by
 have h1:=unit_den h.d1 h.d2
 unfold unitR
 generalize 27720/x.den=q at*
 have hn:=h.n1
 have hm:=h.n2
 refine⟨?_,?_⟩
 ·have:=Int.mul_pos (show 0<x.num by omega) h1.2
  omega
 ·have:=Int.mul_le_mul_of_nonneg_right hm (show 0<=q by omega)
  rw[Int.mul_comm x.den q,h1.1]at this
  exact this
abbrev Spot:=ByteArray×Int
def eqSp (a b:Spot):Bool:=sameB a.1 b.1&&a.2==b.2
theorem eqSp_iff {a b:Spot}:eqSp a b=true↔a=b:=by
 obtain⟨a1,a2⟩:=a
 obtain⟨b1,b2⟩:=b
 simp[eqSp,same_iff]
theorem eqSp_refl (a:Spot):eqSp a a=true:=eqSp_iff.2 rfl
theorem eqSp_ne {a b:Spot}:eqSp a b=false↔a≠b:=by rw[<-Bool.not_eq_true,Ne,eqSp_iff]
theorem eqSp_sym (a b:Spot):eqSp a b=eqSp b a:=by rw[Bool.eq_iff_iff,eqSp_iff,eqSp_iff];exact⟨Eq.symm,Eq.symm⟩
def spotR (x:Rec):Spot:=(x.place,x.day)
def toldS (s:Spot) (l:List Rec):List ByteArray:=toldOf s.1 s.2 l
noncomputable def sumS (s:Spot) (l:List Rec):Rat:=sumGo s.1 s.2 l []
theorem told_snoc (s:Spot) (x:Rec) (l:List Rec):toldS s (l++[x])=toldS s l++if x.kind==3&&sameB x.place s.1&&x.day==s.2 then[x.name]else[]:=by
 unfold toldS toldOf
 simp only[List.filter_append,List.map_append,List.filter_cons,List.filter_nil]
 cases x.kind==3&&sameB x.place s.1&&x.day==s.2<;>simp
theorem spot_is {x:Rec} {s:Spot}:(sameB x.place s.1&&x.day==s.2)=true↔s=spotR x:=by
 obtain⟨p,d⟩:=s
 simp only[spotR,Bool.and_eq_true,same_iff,beq_iff_eq,Prod.mk.injEq]
 exact⟨fun h=>⟨h.1.symm,h.2.symm⟩,fun h=>⟨h.1.symm,h.2.symm⟩⟩
theorem told_skip {l:List Rec} {x:Rec} (h:x.kind≠3) (s:Spot):toldS s (l++[x])=toldS s l:=by
 rw[told_snoc,if_neg (by simp[h]),List.append_nil]
theorem told_other {l:List Rec} {x:Rec} {s:Spot} (h:s≠spotR x):toldS s (l++[x])=toldS s l:=by
 rw[told_snoc,if_neg,List.append_nil]
 intro hc
 rw[Bool.and_assoc,Bool.and_eq_true]at hc
 exact h (spot_is.1 hc.2)
theorem told_put {l:List Rec} {x:Rec} (h:x.kind=3):toldS (spotR x) (l++[x])=toldS (spotR x) l++[x.name]:=by
 rw[told_snoc,if_pos (by simp[h,spotR,same_refl])]
theorem sum_skip {l:List Rec} {x:Rec} (h:x.kind≠3) (s:Spot):sumS s (l++[x])=sumS s l:=by
 unfold sumS
 rw[sum_snoc,if_neg (by simp[h])]
 grind
theorem sum_old {l:List Rec} {x:Rec} (h:x.name∈toldS (spotR x) l) (s:Spot):sumS s (l++[x])=sumS s l:=by
 unfold sumS
 rw[sum_snoc,if_neg]
 ·grind
 ·intro hc
  simp only[List.any_nil,Bool.not_false,Bool.and_true]at hc
  rw[Bool.and_eq_true,Bool.and_assoc,Bool.and_eq_true]at hc
  have e:=spot_is.1 hc.1.2
  subst e
  have:=hc.2
  rw[Bool.not_eq_true',<-Bool.not_eq_true,any_same]at this
  exact this h
theorem sum_other {l:List Rec} {x:Rec} {s:Spot} (h:s≠spotR x):sumS s (l++[x])=sumS s l:=by
 unfold sumS
 rw[sum_snoc,if_neg]
 ·grind
 ·intro hc
  simp only[List.any_nil,Bool.not_false,Bool.and_true]at hc
  rw[Bool.and_eq_true,Bool.and_assoc,Bool.and_eq_true]at hc
  exact h (spot_is.1 hc.1.2)
theorem sum_put {l:List Rec} {x:Rec} (hk:x.kind=3) (h:x.name∉toldS (spotR x) l):sumS (spotR x) (l++[x])=sumS (spotR x) l+Rat.divInt x.num x.den:=by
 unfold sumS
 rw[sum_snoc,if_pos]
 simp only[List.any_nil,Bool.not_false,Bool.and_true]
 rw[Bool.and_eq_true,Bool.and_assoc,Bool.and_eq_true]
 refine⟨⟨by simp[hk],spot_is.2 rfl⟩,?_⟩
 rw[Bool.not_eq_true',<-Bool.not_eq_true,any_same]
 exact h
def SumsOk (ms:List (Spot×Int)) (l:List Rec):Prop:= ∀s,((((mget eqSp s ms).getD 0:Int)):Rat)=27720*sumS s l
def SmallOk (l:List Rec):Prop:= ∀s,sumS s l<=1
theorem sums_nil:SumsOk [] []:=fun s=>by
 show((0:Int):Rat)=27720*sumS s []
 unfold sumS sumGo
 simp
theorem small_nil:SmallOk []:=fun s=>by
 unfold sumS sumGo
 decide
theorem small_end {l:List Rec} (h:SmallOk l): ¬TooMuch l:=fun⟨p,d,hc⟩=>by
 have:=h (p,d)
 unfold sumS at this
 grind
theorem mget_mputSp {V:Type} {k n:Spot} {v:V}: ∀ {m:List (Spot×V)},mget eqSp n (mput eqSp k v m)=if eqSp n k then some v else mget eqSp n m
 | []=>rfl
 |x::m=>by
  rw[mput]
  cases hk:eqSp k x.1
  ·simp only[Bool.false_eq_true,if_false]
   rw[mget,mget,mget_mputSp (m:=m)]
   cases hn:eqSp n x.1
   ·simp
   ·have e:=eqSp_iff.1 hn
    subst e
    rw[eqSp_sym,hk]
    simp
  ·simp only[if_true]
   have e:=eqSp_iff.1 hk
   rw[mget,mget,<-e]
   cases hn:eqSp n k<;>simp
theorem sums_put {ms:List (Spot×Int)} {l:List Rec} {x:Rec} (h:SumsOk ms l) (hx:ShareOk x) (hk:x.kind=3) (hn:x.name∉toldS (spotR x) l):SumsOk (mput eqSp (spotR x) ((mget eqSp (spotR x) ms).getD 0+unitR x) ms) (l++[x]):=fun s=>by
 rw[mget_mputSp]
 by_cases hs:s=spotR x
 ·subst hs
  rw[eqSp_refl,if_pos rfl,Option.getD_some,sum_put hk hn,Rat.intCast_add,h,unit_rat hx]
  grind
 ·rw[eqSp_ne.2 hs,if_neg (by simp),sum_other hs]
  exact h s
theorem sums_bd {ms:List (Spot×Int)} {l:List Rec} (h:SumsOk ms l) (hs:SmallOk l) (hn:Nonneg l) (s:Spot):0<=(mget eqSp s ms).getD 0/\(mget eqSp s ms).getD 0<=27720:=by
 have h1:=h s
 have h2:=hs s
 have h3:0<=sumS s l:=by
  have:=sum_take_mono (p:=s.1) (d:=s.2) hn (k:=0)
  rw[List.take_zero]at this
  unfold sumS
  exact this
 generalize(mget eqSp s ms).getD 0=v at*
 constructor
 ·have:((0:Int):Rat)<=(v:Rat):=by grind
  exact Rat.intCast_le_intCast.1 this
 ·have:(v:Rat)<=((27720:Int):Rat):=by
   have e:((27720:Int):Rat)=27720:=rfl
   grind
  exact Rat.intCast_le_intCast.1 this
theorem small_put {ms:List (Spot×Int)} {l:List Rec} {x:Rec} (h:SumsOk ms l) (hs:SmallOk l) (hx:ShareOk x) (hk:x.kind=3) (hn:x.name∉toldS (spotR x) l) (hv:(mget eqSp (spotR x) ms).getD 0+unitR x<=27720):SmallOk (l++[x]):=fun s=>by
 by_cases e:s=spotR x
 ·subst e
  have h1:=h (spotR x)
  rw[sum_put hk hn]
  have h2:=unit_rat hx
  generalize(mget eqSp (spotR x) ms).getD 0=v at*
  have h3:((v+unitR x:Int):Rat)<=((27720:Int):Rat):=Rat.intCast_le_intCast.2 hv
  rw[Rat.intCast_add]at h3
  have e:((27720:Int):Rat)=27720:=rfl
  grind
 ·rw[sum_other e];exact hs s
theorem much_put {ms:List (Spot×Int)} {l r:List Rec} {x:Rec} (h:SumsOk ms l) (hx:ShareOk x) (hk:x.kind=3) (hn:x.name∉toldS (spotR x) l) (hN:Nonneg (l++x::r)) (hv:27720<(mget eqSp (spotR x) ms).getD 0+unitR x):TooMuch (l++x::r):=by
 have h1:=sum_take_mono (p:=x.place) (d:=x.day) hN (k:=l.length+1)
 have e:(l++x::r).take (l.length+1)=l++[x]:=by
  rw[show l++x::r=(l++[x])++r by simp]
  exact List.take_left' (by simp)
 rw[e]at h1
 refine⟨x.place,x.day,?_⟩
 have h2:=sum_put hk hn
 unfold sumS at h2
 have h3:=h (spotR x)
 unfold sumS at h3
 have h4:=unit_rat hx
 generalize(mget eqSp (spotR x) ms).getD 0=v at*
 have h5:((27720:Int):Rat)<((v+unitR x:Int):Rat):=Rat.intCast_lt_intCast.2 hv
 rw[Rat.intCast_add]at h5
 have e:((27720:Int):Rat)=27720:=rfl
 simp only[spotR]at h2 h3
 grind
theorem sums_skip {ms:List (Spot×Int)} {l:List Rec} {x:Rec} (h:SumsOk ms l) (hc:x.kind≠3\/x.name∈toldS (spotR x) l):SumsOk ms (l++[x]):=fun s=>by
 rw[h s]
 rcases hc with hc|hc
 ·rw[sum_skip hc]
 ·rw[sum_old hc]
theorem small_skip {l:List Rec} {x:Rec} (h:SmallOk l) (hc:x.kind≠3\/x.name∈toldS (spotR x) l):SmallOk (l++[x]):=fun s=>by
 rcases hc with hc|hc
 ·rw[sum_skip hc];exact h s
 ·rw[sum_old hc];exact h s
theorem told_old {l:List Rec} {x:Rec} (hc:x.kind≠3\/x.name∈toldS (spotR x) l) (s:Spot) (n:ByteArray):n∈toldS s (l++[x])↔n∈toldS s l:=by
 rcases hc with hc|hc
 ·rw[told_skip hc]
 ·by_cases hs:s=spotR x
  ·subst hs
   by_cases hk:x.kind=3
   ·rw[told_put hk,List.mem_append,List.mem_singleton]
    exact⟨fun h=>h.elim id fun e=>e▸hc, .inl⟩
   ·rw[told_skip hk]
  ·rw[told_other hs]
end Go.Proofs.YtkhkhnellekofaaGreatDoor
namespace Go.Proofs.YtkhkhnellekofaaGreatDoor
open Go.RowKit
attribute [local go_sem] World.cell?_alloc_mark ext_size ext_cell ext_frozen lt_add_r lt_add_r2 lt_add_r3 lt_add_r4 lt_add_r5 lt_add_r6 lt_add_r7 lt_add_r8
def ekSp (s:Spot):Value:= .agg #[.string s.1, .int .i64 s.2]
set_option maxRecDepth 100000 in
theorem equal_sp (a:ByteArray) (c:Int) (a':ByteArray) (c':Int) (w:World):(Op.equal 132 (.agg #[.string a, .int .i64 c]) (.agg #[.string a', .int .i64 c'])).run Tryz.prog w= .ok (sameB a a'&&c==c') w:=by
 simp only[Op.equal,Op.maxDepth]
 go_simp
 unfold sameB
 by_cases h1:a.toList=a'.toList<;>by_cases h2:c=c'<;>simp[h1,h2]
theorem findNow_sp (v:Value) (e:MapEntry) (es:List MapEntry) (fs:Array Field) (i:Nat):Instr.findNow (.struct fs) v (e::es) i=none:=by
 unfold Instr.findNow
 cases v<;>simp[Instr.sameNow]
theorem findAsking_sp {V:Type} (ev:V->Value) (p:Spot) (w:World): ∀(es:List MapEntry) (m:List (Spot×V)),es.map (fun e=>(e.key,e.val))=m.map (fun p=>(ekSp p.1,ev p.2))-> ∀i,
 (Instr.findAsking 132 (ekSp p) es i).run Tryz.prog w= .ok ((locate eqSp p m i).map fun p=>(p.1,ev p.2)) w
 | [],[],_,_=>by simp[Instr.findAsking,locate]
 | [],_::_,h,_=>by simp at h
 |_::_,[],h,_=>by simp at h
 |e::es,q::m,h,i=>by
  simp only[List.map_cons,List.cons.injEq,Prod.mk.injEq]at h
  obtain⟨⟨hk,hv⟩,ht⟩:=h
  unfold Instr.findAsking locate
  have h1:=equal_sp p.1 p.2 q.1.1 q.1.2 w
  have h2:=findAsking_sp ev p w es m ht (i+1)
  rw[hk,hv]
  simp only[ekSp]at h1 h2⊢
  simp only[Sem.run_bind,h1,Result.andThen_ok]
  change Sem.run _ (if(eqSp p q.1)=true then _ else _) w=_
  cases hq:eqSp p q.1
  ·simpa using h2
  ·simp
theorem checkKey_sp (e:Bool) (p:Spot) (w:World):(Instr.checkKey e 10000 132 (ekSp p)).run Tryz.prog w= .ok () w:=by
 obtain⟨a,c⟩:=p
 cases e<;>kernel_rfl
theorem sameBits_sp (a:ByteArray) (c:Int):Instr.sameBits 10000 (.agg #[.string a, .int .i64 c]) (.agg #[.string a, .int .i64 c])=true:=by
 have h2: ∀n,Instr.sameBits (n+1) (.agg #[.string a, .int .i64 c]) (.agg #[.string a, .int .i64 c])=true:=fun n=>by
  have h: ∀n (k:IntKind) (x:Int),Instr.sameBits n (.int k x) (.int k x)=true:=fun n k x=>by cases n<;>simp[Instr.sameBits]
  simp[Instr.sameBits,sameBits_s,beq_toListBytes,h]
 exact h2 9999
theorem mapSp_of {V:Type} {t et:TypeId} {ev:V->Value} {z:V} (ht:Tryz.prog.underlying t=some (.map 132 et)) (hz: ∀w,(zeroValue et).run Tryz.prog w= .ok (ev z) w):MapTy Tryz.prog t 132 et ekSp ev z eqSp where
 ht:=ht
 hz:=hz
 hck:=checkKey_sp
 hfind:=fun k es m h w=>by
  have hu: ∃fs,Tryz.prog.underlying 132=some (.struct fs):=⟨_,Tryz.underlying132⟩
  obtain⟨fs,hu⟩:=hu
  match es,m,h with
  | [],[],_=>simp[Instr.findKey,run_underlying hu,Instr.findNow,locate]
  | [],_::_,h=>simp at h
  |e::es,m,h=>
   simp only[Instr.findKey,Sem.run_bind,run_underlying hu,Result.andThen_ok,findNow_sp]
   exact findAsking_sp ev k w (e::es) m h 0
 hsame:=fun k k' h=>by
  have e:=eqSp_iff.1 h
  subst e
  exact sameBits_sp k.1 k.2
theorem mapPV:MapTy Tryz.prog 129 132 3 ekSp (fun v:Value=>v) (.int .i64 0) eqSp:=mapSp_of Tryz.underlying129 (fun w=>by kernel_rfl)
theorem mapPM:MapTy Tryz.prog 130 132 104 ekSp (fun v:Value=>v) (.map none) eqSp:=mapSp_of Tryz.underlying130 (fun w=>by kernel_rfl)
theorem lookup_none (n:ByteArray) (w:World):(Instr.lookup 104 (.map none) (.string n) false).run Tryz.prog w= .ok (.bool false) w:=by
 kernel_rfl
theorem mapS_val {W:World} {b:Nat} {ms:List (Spot×Int)}:MapS W b ekSp evI ms↔MapS W b ekSp (fun v:Value=>v) (ms.map fun p=>(p.1,evI p.2)):=by
 unfold MapS
 simp only[List.map_map,Function.comp_def]
theorem mput_val (k:Spot) (v:Int): ∀ms:List (Spot×Int),(mput eqSp k v ms).map (fun p=>(p.1,evI p.2))=mput eqSp k (evI v) (ms.map fun p=>(p.1,evI p.2))
 | []=>rfl
 |x::ms=>by
  rw[mput,List.map_cons,mput]
  cases eqSp k x.1
  ·simp[mput_val k v ms]
  ·simp
theorem locate_val {K V:Type} {eq:K->K->Bool} {k:K}: ∀ {m:List (K×V)} {i j:Nat} {v:V},locate eq k m i=some (j,v)->(m[j-i]?).map (·.2)=some v
 | [],_,_,_,h=>by cases h
 |p::l,i,j,v,h=>by
  unfold locate at h
  split at h
  ·simp only[Option.some.injEq,Prod.mk.injEq]at h
   obtain⟨rfl,rfl⟩:=h
   simp
  ·obtain⟨h1,_⟩:=locate_some h
   have e:j-i=(j-(i+1))+1:=by omega
   rw[e]
   simpa using locate_val h
theorem run_mapEntryX {P:Program} {t kt et:TypeId} {K:Type} {ek:K->Value} {z:Value} {eq:K->K->Bool} {w:World} {b:Nat} {m:List (K×Value)} (T:MapTy P t kt et ek (fun v:Value=>v) z eq) (h:MapS w b ek (fun v:Value=>v) m) (k:K):
 ∃w' st j,(Instr.mapEntry t (.map (some b)) (ek k)).run P w= .ok (.tuple #[(mget eq k m).getD z, .int .i64 (st:Nat)]) w'/\StampAt w' b ek (mput eq k ((mget eq k m).getD z) m) j st/\(∀v,(mput eq k ((mget eq k m).getD z) m).set j (k,v)=mput eq k v m)/\((mput eq k ((mget eq k m).getD z) m)[j]?).map (·.1)=some k/\w.grownBy w' (some b)/\w'.heap.size=w.heap.size:=by
 obtain⟨es,c,hh,hm,hb,hn⟩:=h
 have h1:=T.hfind k es.toList m hm w
 have hlt:=(Array.getElem?_eq_some_iff.1 hh).1
 have hgt:=locate_get eq k m 0
 cases hl:locate eq k m 0 with
 |none=>
  rw[hl]at hgt
  rw[<-hgt]
  have hp:=fun v'=>locate_none hl v'
  refine⟨_,c,m.length,?_,?_,?_,by rw[hp];simp,set_heap w b (.map (es.push {key:=ek k,val:=z,born:=c}) (c+1)),by simp⟩
  ·simp[Instr.mapEntry,run_underlying T.ht,run_getObj_map hh,T.hck,h1,hl,T.hz,run_setObj hh,Result.andThen]
   rfl
  ·refine⟨es.push {key:=ek k,val:=z,born:=c},c+1,by simp[Array.getElem?_setIfInBounds,hlt],?_,?_,?_,?_⟩
   ·rw[hp];simp[hm]
   ·intro e he
    rw[Array.toList_push]at he
    rcases List.mem_append.1 he with he|he
    ·have:=hb e he;omega
    ·rw[List.mem_singleton.1 he];exact Nat.lt_succ_self c
   ·rw[Array.toList_push,List.map_append,List.nodup_append]
    refine⟨hn,by simp,?_⟩
    intro x hx y hy
    obtain⟨e,he,rfl⟩:=List.mem_map.1 hx
    simp only[List.map_cons,List.map_nil,List.mem_singleton]at hy
    have:=hb e he
    omega
   ·have hlen:es.size=m.length:=by simpa using congrArg List.length hm
    rw[<-hlen]
    simp
  ·intro v
   rw[hp,hp,List.set_append_right _ _ (Nat.le_refl _)]
   simp
 |some p=>
  obtain⟨j,u⟩:=p
  rw[hl]at hgt
  rw[<-hgt]
  have hlv:=locate_val hl
  obtain⟨_,q,hq,he,hput⟩:=locate_some hl
  simp only[Nat.sub_zero]at hq hput hlv
  rw[hq]at hlv
  simp only[Option.map_some,Option.some.injEq]at hlv
  have hj:j<m.length:=(List.getElem?_eq_some_iff.1 hq).1
  have hlen:es.toList.length=m.length:=by simpa using congrArg List.length hm
  have hje:j<es.size:=by
   have h0:es.size=m.length:=by simpa using hlen
   omega
  have hkey:(es[j]).key=ek q.1:=by
   have:=congrArg (fun l=>l[j]?) hm
   simp[List.getElem?_map,hq,hje]at this
   exact this.1
  have hval:(es[j]).val=u:=by
   have:=congrArg (fun l=>l[j]?) hm
   simp[List.getElem?_map,hq,hje]at this
   rw[<-hlv]
   exact this.2
  have hborn:(es.modify j fun e=> {e with key:=ek k}).toList.map (·.born)=es.toList.map (·.born):=by
   apply List.ext_getElem?
   intro i
   simp only[List.getElem?_map,Array.getElem?_toList,Array.getElem?_modify]
   by_cases hij:j=i
   ·subst hij
    simp[hje,Array.getElem?_eq_getElem hje]
   ·simp[hij]
  refine⟨_,(es[j]).born,j,?_,?_,?_,by rw[hput];simp[hj],set_heap w b (.map (es.modify j fun e=> {e with key:=ek k}) c),by simp⟩
  ·simp[Instr.mapEntry,run_underlying T.ht,run_getObj_map hh,T.hck,h1,hl,Instr.keyThatStays,Array.getElem?_eq_getElem hje,hkey,T.hsame _ _ he,run_setObj hh,Result.andThen]
   rfl
  ·rw[Option.map_some,Option.getD_some,hput]
   refine⟨es.modify j fun e=> {e with key:=ek k},c,by simp[Array.getElem?_setIfInBounds,hlt],?_,?_,by rw[hborn];exact hn,?_⟩
   ·apply List.ext_getElem?
    intro i
    have hmi:=congrArg (fun l=>l[i]?) hm
    simp only[List.getElem?_map,Array.getElem?_toList]at hmi
    simp only[List.getElem?_map,Array.getElem?_toList,Array.getElem?_modify,List.getElem?_set]
    by_cases hij:j=i
    ·subst hij
     simp[hje,hj,Array.getElem?_eq_getElem hje,hval]
    ·simp[hij,hmi]
   ·intro e he
    have h2:e.born∈(es.modify j fun e=> {e with key:=ek k}).toList.map (·.born):=List.mem_map.2 ⟨e,he,rfl⟩
    rw[hborn]at h2
    obtain⟨e',he',hbb⟩:=List.mem_map.1 h2
    rw[<-hbb]
    exact hb e' he'
   ·simp[Array.getElem?_modify,Array.getElem?_eq_getElem hje]
  ·intro v
   rw[Option.map_some,Option.getD_some,hput,hput,List.set_set]
theorem StampAt.mapAt {w:World} {b:Nat} {K:Type} {ek:K->Value} {m:List (K×Value)} {j st:Nat} (h:StampAt w b ek m j st):MapAt w b ek (fun v:Value=>v) m:=by
 obtain⟨es,c,h1,h2,_⟩:=h
 exact⟨es,c,h1,h2⟩
theorem mem_erase5 {α:Type} {p0 p:α}: ∀ {l:List α} {i:Nat},l[i]?=some p0->p∈l->p=p0\/p∈l.eraseIdx i
 | [],_,_,h=>by cases h
 |x::l,0,h,hp=>by
  simp only[List.getElem?_cons_zero,Option.some.injEq]at h
  rcases List.mem_cons.1 hp with e|hp
  ·exact .inl (e.trans h)
  ·exact .inr hp
 |x::l,i+1,h,hp=>by
  simp only[List.getElem?_cons_succ]at h
  rw[List.eraseIdx_cons_succ]
  rcases List.mem_cons.1 hp with e|hp
  ·exact .inr (by simp[e])
  ·rcases mem_erase5 h hp with k|k
   ·exact .inl k
   ·exact .inr (by simp[k])
theorem take_snoc5 {α:Type} {l:List α} {k:Nat} (h:k<l.length):l.take (k+1)=l.take k++[l[k]]:=List.take_succ_eq_append_getElem h
theorem step_update {P:Program} {ops:Array Oper} {o:Oper} {a:Act} {w:World} {K:Act->World->Prop} {Q:Exit->Act->World->Prop} {E:Prop} {T:TypeId} (hgd:o.guard=none) (x i u:Operand) (ho:o.op= .mapUpdate T x i u) (vx vi vu:Value) (hx:a.eval x=vx) (hi:a.eval i=vi) (hu:a.eval u=vu) (w':World)
 (hrun:(Instr.mapUpdate T vx vi vu).run P w= .ok () w') (h:K (a.put o.dst undef) w'):if Region.wanted o (yielded ops a.tmps)=true then Oper.wp P o a w K Q else E:=by
 have hw:Region.wanted o (yielded ops a.tmps)=true:=by simp[Region.wanted,hgd]
 rw[if_pos hw]
 unfold Oper.wp
 simp[execOp,ho,hx,hi,hu,hrun,Result.andThen]
 exact h
def CountAt (W:World) (base b:Nat) (l:List Rec):Prop:=
 ∃mc,MapS W b ekSp (fun v:Value=>v) mc/\(∀s,(mget eqSp s mc=none/\toldS s l=[])\/ ∃k T,mget eqSp s mc=some (.map (some k))/\base<=k/\MapS W k ekS evB (outM T)/\ ∀n,n∈T↔n∈toldS s l)/\
  ∀s s' k,mget eqSp s mc=some (.map (some k))->mget eqSp s' mc=some (.map (some k))->s=s'
theorem count_new {W:World} {base b:Nat} (h:MapS W b ekSp (fun v:Value=>v) ([]:List (Spot×Value))):CountAt W base b []:=
 ⟨[],h,fun s=> .inl ⟨rfl,rfl⟩,fun s s' k h=>by cases h⟩
end Go.Proofs.YtkhkhnellekofaaGreatDoor
namespace Go.Proofs.YtkhkhnellekofaaGreatDoor
open Go.RowKit
def livesP (x:Rec):Bool:=x.kind==0||x.kind==3||x.kind==4
def rAgainstP (x y:Rec):Bool:=
 if x.kind==1&&y.kind==1 then sameB x.name y.name&&x.day != y.day else
 if x.kind==1&&livesP y then sameB x.name y.name&&decide (x.day<y.day)else
 if y.kind==1&&livesP x then sameB y.name x.name&&decide (y.day<x.day)else
 if x.kind==3&&y.kind==3 then sameB x.name y.name&&sameB x.place y.place&&x.day==y.day&&(x.num != y.num||x.den != y.den)else
 if x.kind==4&&y.kind==4 then sameB x.place y.place&&!sameB x.name y.name&&decide (x.day<y.til)&&decide (y.day<x.til)else false
theorem rec_kind5 {x:Rec} (h:checkRecP x=0):x.kind=0\/x.kind=1\/x.kind=2\/x.kind=3\/x.kind=4:=by
 unfold checkRecP at h
 split at h
 ·simp at h
 ·rename_i hc
  unfold inR at hc
  simp at hc
  omega
theorem rec_til {x:Rec} (h:checkRecP x=0) (hk:x.kind=4):x.day<x.til:=by
 unfold checkRecP at h
 by_cases hc:(x.kind==4&&decide (x.til<=x.day))=true
 ·exfalso
  rw[if_pos hc]at h
  repeat(split at h;·simp at h)
  simp at h
 ·simp[hk]at hc
  exact hc
theorem sameB_sym (a b:ByteArray):sameB a b=sameB b a:=by rw[Bool.eq_iff_iff,same_iff,same_iff];exact⟨Eq.symm,Eq.symm⟩
theorem rAgainst_eq {x y:Rec} (hx:checkRecP x=0) (hy:checkRecP y=0):rAgainstP x y=againstP x y:=by
 have kx:=rec_kind5 hx
 have ky:=rec_kind5 hy
 have tx:=rec_til hx
 have ty:=rec_til hy
 have e1:=sameB_sym x.name y.name
 have e2:=sameB_sym x.place y.place
 unfold rAgainstP againstP againstQ livesP
 rcases kx with k|k|k|k|k<;>rcases ky with q|q|q|q|q<;>simp[k,q,e1,e2]
 have h1:=tx k
 have h2:=ty q
 cases sameB y.name x.name<;>cases sameB y.place x.place<;>simp
 rw[Bool.eq_iff_iff]
 simp
 omega
def fewRP (a b:Int):Bool:=isShareP 16 a b&&decide (0<a)&&decide (b<=12)
def rightRP (x:Rec):Bool:=
 if noB x.name||(!noB x.other) != (x.kind==2)||(!noB x.place) != (x.kind==3||x.kind==4)then false else
 if(x.kind==2&&x.day != 0)||(x.kind != 4&&x.til != 0)then false else
 if x.kind==3 then fewRP x.num x.den else x.num==0&&x.den==0
def rRecP (x:Rec):Int:=
 if !inR x.kind 0 4 then 15 else
 if !isDayP x.day||!isDayP x.til then 2 else
 if !nameOr x.name||!nameOr x.other||!nameOr x.place then 4 else
 if !rightRP x then 3 else
 if x.kind==4&&decide (x.til<=x.day)then 9 else 0
theorem few_eq (a b:Int):fewRP a b=!(!inR b 1 12||!inR a 1 b||Int.gcd a b != 1):=by
 unfold fewRP isShareP inR
 rw[Bool.eq_iff_iff]
 simp
 omega
theorem rRec_eq (x:Rec):rRecP x=checkRecP x:=by
 unfold rRecP checkRecP
 split
 ·rfl
 split
 ·rfl
 split
 ·rfl
 unfold rightRP
 by_cases h1:(noB x.name||(!noB x.other) != (x.kind==2)||(!noB x.place) != (x.kind==3||x.kind==4))=true
 ·simp only[h1,if_true,Bool.not_false]
 ·simp only[h1,if_false,Bool.false_eq_true]
  by_cases h2:((x.kind==2&&x.day != 0)||(x.kind != 4&&x.til != 0))=true
  ·simp only[h2,if_true,Bool.not_false,Bool.true_or]
  ·simp only[h2,if_false,Bool.false_eq_true,Bool.false_or]
   by_cases h3:x.kind=3
   ·simp only[h3,beq_self_eq_true,if_true,few_eq,Bool.not_not,bne_self_eq_false,Bool.false_and,Bool.true_and,if_false,Bool.false_eq_true]
   ·have e3:(x.kind==3)=false:=by simpa using h3
    have e4:(x.kind != 3)=true:=by simp[h3]
    simp only[e3,e4,if_false,Bool.true_and,Bool.false_and,Bool.false_eq_true]
    by_cases h4:x.num=0<;>by_cases h5:x.den=0<;>simp[h4,h5]
structure Chain (l:List Rec) (o:ByteArray) (all:List ByteArray) (k:Nat):Prop where
 nd:all.Nodup
 reach: ∀y∈all,y=o\/Relation.TransGen (Edge l) o y
 first:o∈all
 told: ∀y∈all,∃x∈l,x.other=y
 done: ∀j,j<k-> ∀(a:ByteArray),all[j]?=some a-> ∀y,Edge l a y->y∈all
structure ChainIn (l:List Rec) (o:ByteArray) (all:List ByteArray) (k n:Nat):Prop extends Chain l o all k where
 mine: ∀a,all[k]?=some a-> ∀x∈l.take n,x.kind=2->x.name=a->x.other∈all
theorem chain_start {l:List Rec} {x:Rec} (h:x∈l):Chain l x.other [x.other] 0:=
 ⟨by simp,fun y hy=> .inl (by simpa using hy),by simp,fun y hy=>⟨x,h,by simpa using(List.mem_singleton.1 hy).symm⟩,fun j hj=>absurd hj (Nat.not_lt_zero j)⟩
theorem chain_in {l:List Rec} {o:ByteArray} {all:List ByteArray} {k:Nat} (h:Chain l o all k):ChainIn l o all k 0:=⟨h,fun _ _ x hx=>by simp at hx⟩
theorem chain_next {l:List Rec} {o:ByteArray} {all:List ByteArray} {k:Nat} (h:ChainIn l o all k l.length):Chain l o all (k+1):=
 ⟨h.nd,h.reach,h.first,h.told,fun j hj a ha y hy=>by
   by_cases e:j=k
   ·subst e
    obtain⟨x,hx,h1,h2,h3⟩:=hy
    have:=h.mine a ha x (by rw[List.take_length];exact hx) h1 h2
    rw[<-h3];exact this
   ·exact h.done j (by omega) a ha y hy⟩
theorem chain_skip {l:List Rec} {o:ByteArray} {all:List ByteArray} {k n:Nat} (h:ChainIn l o all k n) (hn:n<l.length) (hs: ∀a,all[k]?=some a->l[n].kind=2->l[n].name=a->l[n].other∈all):ChainIn l o all k (n+1):=
 ⟨h.toChain,fun a ha x hx h1 h2=>by
   rw[List.take_succ_eq_append_getElem hn]at hx
   rcases List.mem_append.1 hx with hx|hx
   ·exact h.mine a ha x hx h1 h2
   ·have e:=List.mem_singleton.1 hx
    subst e
    exact hs a ha h1 h2⟩
theorem chain_add {l:List Rec} {o a:ByteArray} {all:List ByteArray} {k n:Nat} (h:ChainIn l o all k n) (hn:n<l.length) (ha:all[k]?=some a) (h1:l[n].kind=2) (h2:l[n].name=a) (h3:l[n].other∉all):ChainIn l o (all++[l[n].other]) k (n+1):=by
 have hk:k<all.length:=(List.getElem?_eq_some_iff.1 ha).1
 have hm:a∈all:=List.mem_of_getElem? ha
 have he:Edge l a l[n].other:=⟨l[n],List.getElem_mem hn,h1,h2,rfl⟩
 refine⟨⟨?_,fun y hy=> ?_,by simp[h.first],fun y hy=> ?_,fun j hj b hb y hy=> ?_⟩,fun b hb x hx k1 k2=> ?_⟩
 ·exact List.nodup_append.2 ⟨h.nd,by simp,fun p hp q hq e=>by rw[List.mem_singleton.1 hq]at e;exact h3 (e▸hp)⟩
 ·rcases List.mem_append.1 hy with hy|hy
  ·exact h.reach y hy
  ·rw[List.mem_singleton.1 hy]
   rcases h.reach a hm with e|e
   ·rw[e]at he;exact .inr (Relation.TransGen.single he)
   ·exact .inr (Relation.TransGen.tail e he)
 ·rcases List.mem_append.1 hy with hy|hy
  ·exact h.told y hy
  ·exact⟨l[n],List.getElem_mem hn,(List.mem_singleton.1 hy).symm⟩
 ·rw[List.getElem?_append_left (by omega)]at hb
  exact List.mem_append_left _ (h.done j hj b hb y hy)
 ·rw[List.getElem?_append_left hk]at hb
  rw[List.take_succ_eq_append_getElem hn]at hx
  rcases List.mem_append.1 hx with hx|hx
  ·exact List.mem_append_left _ (h.mine b hb x hx k1 k2)
  ·rw[List.mem_singleton.1 hx];simp
theorem chain_few {l:List Rec} {o:ByteArray} {all:List ByteArray} {k:Nat} (h:Chain l o all k):all.length<=l.length:=by
 haveI:DecidableEq ByteArray:=fun a b=>Classical.propDecidable _
 have:=nodup_le (b:=l.map (·.other)) h.nd (fun y hy=>by
  obtain⟨x,hx,e⟩:=h.told y hy
  exact List.mem_map.2 ⟨x,hx,e⟩)
 simpa using this
theorem chain_end {l:List Rec} {o:ByteArray} {all:List ByteArray} (h:Chain l o all all.length) (n:ByteArray):n∈all↔(o=n\/Relation.TransGen (Edge l) o n):=by
 constructor
 ·intro hn
  rcases h.reach n hn with e|e
  ·exact .inl e.symm
  ·exact .inr e
 ·intro hn
  have key: ∀ {y:ByteArray},Relation.TransGen (Edge l) o y->y∈all:=fun hy=>by
   have step: ∀a∈all,∀y,Edge l a y->y∈all:=fun a ha y hy=>by
    obtain⟨j,hj,e⟩:=List.mem_iff_getElem.1 ha
    exact h.done j hj a (by rw[List.getElem?_eq_getElem hj,e]) y hy
   induction hy with
   |single h1=>exact step o h.first _ h1
   |tail _ h1 ih=>exact step _ ih _ h1
  rcases hn with e|e
  ·rw[<-e];exact h.first
  ·exact key e
def NoRing (l:List Rec) (x:Rec):Prop:=x.kind=2-> ¬(x.other=x.name\/Relation.TransGen (Edge l) x.other x.name)
theorem no_ring_end {l:List Rec} (h: ∀x∈l,NoRing l x): ¬Circle l:=fun hc=>by
 obtain⟨x,hx,h1,h2⟩:=circle_records.1 hc
 exact h x hx h1 h2
theorem ring_found {l:List Rec} {x:Rec} {all:List ByteArray} {k:Nat} (hx:x∈l) (hk:x.kind=2) (h:Chain l x.other all k) (hn:x.name∈all):Circle l:=circle_records.2 ⟨x,hx,hk,by
 rcases h.reach _ hn with e|e
 ·exact .inl e.symm
 ·exact .inr e⟩
def SumUnit (q:Rat) (n:Nat):Prop:= ∃m:Int,0<=m/\m<=n*27720/\((m:Int):Rat)=27720*q
theorem unit_zero:SumUnit 0 0:=⟨0,Int.le_refl _,by omega,by decide+kernel⟩
theorem unit_add {q:Rat} {n:Nat} {x:Rec} (h:SumUnit q n) (hx:ShareOk x):SumUnit (q+Rat.divInt x.num x.den) (n+1):=by
 obtain⟨m,h1,h2,h3⟩:=h
 have h4:=unit_rat hx
 have h5:=unit_bd hx
 refine⟨m+unitR x,by omega,by omega,?_⟩
 rw[Rat.intCast_add]
 grind
theorem unit_keep {q:Rat} {n:Nat} (h:SumUnit q n):SumUnit q (n+1):=by
 obtain⟨m,h1,h2,h3⟩:=h
 exact⟨m,h1,by omega,h3⟩
theorem unit_small {q:Rat} {n:Nat} (h:SumUnit q n) (hn:n<=1000):q.num.natAbs<=1000000000/\q.den<=1000000000/\0<=q.num:=by
 obtain⟨m,h1,h2,h3⟩:=h
 have e:q=Rat.divInt m 27720:=by
  rw[Rat.divInt_eq_div]
  have e2:((27720:Int):Rat)=27720:=rfl
  rw[e2]
  grind
 have e1:=divInt_num (a:=m) (b:=27720) (by decide)
 have e2:=divInt_den (a:=m) (b:=27720) (by decide)
 rw[<-e]at e1 e2
 have hg:0<Int.gcd m 27720:=Nat.pos_of_ne_zero (fun e=>by have:=(Int.gcd_eq_zero_iff.1 e).2;omega)
 have a1:q.num<=m:=by rw[e1];exact Int.ediv_le_self _ h1
 have a2:0<=q.num:=by rw[e1];exact Int.ediv_nonneg h1 (by omega)
 have a3:(q.den:Int)<=27720:=by rw[e2];exact Int.ediv_le_self _ (by decide)
 exact⟨by omega,by omega,a2⟩
theorem one_lt {q:Rat}:(1:Rat)<q↔(q.den:Int)<q.num:=by
 rw[Rat.lt_iff]
 simp
end Go.Proofs.YtkhkhnellekofaaGreatDoor
namespace Go.Proofs.YtkhkhnellekofaaGreatDoor
open Go.RowKit Go.Shelf
attribute [local go_sem] World.cell?_alloc_mark ext_size ext_cell ext_frozen lt_add_r lt_add_r2 lt_add_r3 lt_add_r4 lt_add_r5 lt_add_r6 lt_add_r7 lt_add_r8
attribute [local go_sem] ext_setCell alloc_setCell_lt
set_option maxRecDepth 100000 in
set_option maxHeartbeats 2000000 in
theorem cloneInt_any (xs:List Nat) (L:Option Addr) (n lc:Nat) (w:World) (hn:n=xs.length) (hl:xs.length<=100000) (hS:Sl w 1 intC L xs):
 Calls Tryz.prog 76 #[.slice L n lc] w (ClonePost w 3 1 intC xs):=by
 have HM:=Lib.hid hn
 have q22: ∀(w:World) (a:Option Addr) (n c n' c':Nat),(binOp .eql 25 (.slice a n c) (.slice none n' c')).run Tryz.prog w= .ok (.bool a.isNone) w:=fun w a n c n' c'=>Lib.run_eql_slice_nil w _ _ a n c n' c' Tryz.underlying25
 clear hn
 go_enter Tryz.func76,Tryz.ntmps76
 cases L with
 |none=>
  have h0:xs=[]:=by
   cases xs with
   |nil=>rfl
   |cons y ys=>obtain⟨b,off,h,_⟩:=hS (by simp);cases h
  subst h0
  go_wp2_with fail
  go_ret
  exact⟨_,rfl,OwnS.nil,Below.refl _ _⟩
 |some ad=>
  go_wp2_with (at_builtin;refine wpList_append_sl rfl _ _ rfl elInt intC_len intC_one rfl (World.ownsRow_made w #[] 0 (Nat.le_refl _) (Nat.zero_le _) (by simp)) rfl HM.out (hS.keep Bw) ?q1 ?q2 (by simp) ?_)
  case q1=>simp[maxLen,HM.out];omega
  case q2=>simp[HM.out];omega
  intro v' w' h1 h2 h3
  go_wp2_with fail
  go_ret
  refine⟨v',rfl,OwnS.of_own intC_len (by simpa[HM.out]using h1),Below.grown Bw h2 (by simp) (by intro k hk;simp[Value.ownBlock]at hk;omega)⟩
theorem ints_one (l:List Nat): ∀u∈l.flatMap intC,u.oneCell'=true:=fun u hu=>by
 obtain⟨x,_,hx⟩:=List.mem_flatMap.1 hu
 exact intC_one x u hx
theorem ints_len (l:List Nat):(l.flatMap intC).length=l.length:=by rw[flat_len intC 1 intC_len l,Nat.mul_one]
def DelIPost (w:World) (base:Nat) (v:Value) (ys:List Nat) (e:Ending) (w':World):Prop:=
 ∃v',e= .returned v'/\OwnS w' base 3 1 intC v' ys/\w.grownBy w' (blkOf v)
set_option maxRecDepth 100000 in
set_option maxHeartbeats 2000000 in
theorem delInt_any (base:Nat) (xs:List Nat) (w:World) (hl:xs.length<=100000) (v:Value) (hown:OwnS w base 3 1 intC v xs) (i:Nat) (hi:i<xs.length):
 Calls Tryz.prog 75 #[v, .int .i64 i, .int .i64 (i+1:Nat)] w (DelIPost w base v (xs.take i++xs.drop (i+1))):=by
 rcases hown with⟨rfl,rfl⟩|⟨g,o,c,cur,rfl,hbg,hg,hc,hcm,hcs,hx⟩
 ·simp at hi
 rw[Nat.mul_one]at hcs
 have mixed:Tryz.prog.follows .mixedOrders=true:=by kernel_rfl
 obtain⟨i0,z,hi0,hz0,hzs,hzb,hzz⟩:=elInt.hi
 have hsz:(Tryz.prog.info? 3).map (·.size)=some 1:=by rw[hi0];simp[hzs]
 have hdl:((xs.drop (i+1)).flatMap intC).length=xs.length-(i+1):=by rw[ints_len,List.length_drop]
 have hcell: ∀j,j<c->(w.cell? ⟨g,o+j,none⟩).isSome=true:=fun j hj=>by simp[World.cell?,hg];omega
 have htl:((xs.take (i+1)).flatMap intC).length=i+1:=by rw[ints_len,List.length_take];omega
 have hsplit:xs.flatMap intC=(xs.take (i+1)).flatMap intC++(xs.drop (i+1)).flatMap intC:=by rw[<-List.flatMap_append,List.take_append_drop]
 have hap: ∀(A:Addr),(i+1<xs.length->A=⟨g,o+(i+1),none⟩)-> ∀ty cc,(Builtin.append_ #[25,25] ty #[.slice (some ⟨g,o,none⟩) i c, .slice (some A) (xs.length-(i+1)) cc]).run Tryz.prog w.drew= .ok (.slice (some ⟨g,o,none⟩) (i+(xs.length-(i+1))) c) (w.drew.setCells g (o+i) ((xs.drop (i+1)).flatMap intC)):=fun A hA ty cc=>by
  have:=run_append_room_cells (P:=Tryz.prog) w.drew 25 ty 3 i0 Tryz.underlying25 hi0 g o i c A (xs.length-(i+1)) cc ((xs.drop (i+1)).flatMap intC) (by rw[hdl,hzs,Nat.mul_one])
   (fun j u hj=>by
     have hjl:=(List.getElem?_eq_some_iff.1 hj).1
     rw[hA (by omega),Addr.add_lit]
     have e:(xs.flatMap intC)[(i+1)+j]?=some u:=by rw[hsplit,List.getElem?_append_right (by omega),htl,Nat.add_sub_cancel_left];exact hj
     have:=hx _ _ e
     show w.cell? _=_
     simp only[World.cell?,hg,Nat.add_assoc]at this⊢
     exact this) (ints_one _) (by omega) (fun j hj=>by rw[hzs,Nat.mul_one];rw[hdl]at hj;show(w.cell? _).isSome=_;rw[Nat.add_assoc];exact hcell _ (by omega)) (fun j hj=>by show w.frozen? _=_;simp[World.frozen?,hg])
  rw[hzs,Nat.mul_one]at this
  exact this
 have hin:i+(xs.length-(i+1))=xs.length-1:=by omega
 rw[hin]at hap
 obtain⟨cur1,k1,k2,k3,k4⟩:=setCells_blockO g ((xs.drop (i+1)).flatMap intC) (o+i) w.drew cur hg (by rw[hdl];omega)
 have hgr1:=setCells_grown g ((xs.drop (i+1)).flatMap intC) (o+i) w.drew
 obtain⟨W1,hW1⟩: ∃W1,W1=w.drew.setCells g (o+i) ((xs.drop (i+1)).flatMap intC):=⟨_,rfl⟩
 rw[<-hW1]at hap k1 hgr1
 have hclr: ∀ty cc,(Builtin.clear_ #[25] ty #[.slice (some ⟨g,o+(xs.length-1),none⟩) (xs.length-(xs.length-1)) cc]).run Tryz.prog W1= .ok (.tuple #[]) (W1.setCells g (o+(xs.length-1)) (Builtin.zeroCells (Value.int .i64 0).cells (xs.length-(xs.length-1))).toList):=fun ty cc=>
  run_clearK W1 25 3 ty (.int .i64 0) Tryz.underlying25 Tryz.zeroValue3 (by simp[Value.cells,Value.oneCell']) (by simp[Value.cells]) g _ _ cc (by omega)
   (fun j hj=>by simp[Value.cells]at hj;simp[World.cell?,k1,k2];omega) (fun j hj=>by simp[World.frozen?,k1])
 have HF:Hid (DelIPost w base (.slice (some ⟨g,o,none⟩) xs.length c) (xs.take i++xs.drop (i+1)) (.returned (.slice (some ⟨g,o,none⟩) (xs.length-1) c)) (W1.setCells g (o+(xs.length-1)) (Builtin.zeroCells (Value.int .i64 0).cells (xs.length-(xs.length-1))).toList)):=by
  have hwW:w.grownBy W1 (some g):=⟨hgr1.os,hgr1.tape,hgr1.output,hgr1.size,hgr1.block⟩
  have hzl:(Builtin.zeroCells (Value.int .i64 0).cells (xs.length-(xs.length-1))).toList.length=1:=by
   rw[Array.length_toList,size_zeroCells];simp[Value.cells];omega
  obtain⟨cur2,l1,l2,l3,l4⟩:=setCells_blockO g _ (o+(xs.length-1)) W1 cur1 k1 (by rw[hzl,k2];omega)
  have hlen:(xs.take i++xs.drop (i+1)).length=xs.length-1:=by simp;omega
  refine⟨_,rfl, .inr ⟨g,o,c,cur2,by rw[hlen],hbg,l1,by rw[hlen];omega,hcm,by rw[l2,k2,Nat.mul_one];exact hcs,fun j u hj=> ?_⟩,grown_trans hwW (setCells_grown _ _ _ _)⟩
  have hjl:=(List.getElem?_eq_some_iff.1 hj).1
  rw[ints_len,hlen]at hjl
  rw[l3 _ (.inl (by omega))]
  have hti:((xs.take i).flatMap intC).length=i:=by rw[ints_len,List.length_take];omega
  rw[List.flatMap_append]at hj
  by_cases hji:j<i
  ·rw[List.getElem?_append_left (by omega)]at hj
   rw[k3 _ (.inl (by omega))]
   refine hx j u ?_
   have e:xs.flatMap intC=(xs.take i).flatMap intC++(xs.drop i).flatMap intC:=by rw[<-List.flatMap_append,List.take_append_drop]
   rw[e,List.getElem?_append_left (by omega)]
   exact hj
  ·rw[List.getElem?_append_right (by omega),hti]at hj
   have:=k4 _ u hj
   rwa [show o+i+(j-i)=o+j by omega]at this
 have hb1:(i:Int)+1<=(xs.length:Int):=by omega
 have hb0:(0:Int)<=(i:Int):=by omega
 have hb2: ¬((i:Int)=(i:Int)+1):=by omega
 have hb3:(xs.length:Int)<=(c:Int):=by omega
 have hb4:(i:Int)<=(c:Int):=by omega
 have hb5: ¬(c=xs.length-1):=by omega
 have hb6:((xs.length-1:Nat):Int)<=(xs.length:Int):=by omega
 have hb7:(0:Int)<=(i:Int)+1:=by omega
 have htn:((i:Int)+1).toNat=i+1:=by omega
 clear hW1 k1 k2 k3 k4 hgr1 hcell hx hdl htl hsplit hg hin
 go_enter Tryz.func75,Tryz.ntmps75
 by_cases hlast:c=i+1
 ·clear hb3 hb4 hb5 hb6 hb1 hl
  generalize hm:xs.length=m at*
  obtain rfl:m=i+1:=by omega
  subst hlast
  clear hm hc hi
  have hq1:(i:Int)<=(i:Int)+1:=by omega
  simp only[Nat.add_sub_cancel,Nat.add_sub_cancel_left,Nat.sub_self]at hap hclr HF
  go_wp2_with fail
  go_region_law_o (go_loud(refine step_append_runP rfl _ _ 25 25 rfl _ (.slice (some ⟨g,o,none⟩) 0 0) (by first|(simp[Act.eval,Act.put];done)|(simp[Act.eval,Act.put];rfl)) (by simp[Act.eval,Act.put]) (hap _ (fun h=>absurd h (by omega)) _ _) ?_))
  go_wp2_with fail
  go_ret
  exact HF.out
 ·go_wp2_with fail
  go_region_law_o (go_loud(refine step_append_runP rfl _ _ 25 25 rfl _ _ (by first|(simp[Act.eval,Act.put];done)|(simp[Act.eval,Act.put];rfl)) (by first|(simp[Act.eval,Act.put];done)|(simp[Act.eval,Act.put];rfl)) (hap _ (fun _=>rfl) _ _) ?_))
  go_wp2_with fail
  go_ret
  exact HF.out
def WithoutPost (w:World) (xs:List Nat) (e:Ending) (w':World):Prop:=
 ∃v,e= .returned v/\OwnS w' w.heap.size 3 1 intC v xs/\Below w.heap.size w w'
set_option maxRecDepth 100000 in
set_option maxHeartbeats 2000000 in
theorem without_any (xs:List Nat) (A:Option Addr) (c i:Nat) (w:World) (hl:xs.length<=1000) (hi:i<xs.length) (hS:Sl w 1 intC A xs):
 Calls Tryz.prog 43 #[.slice A xs.length c, .int .i64 i] w (WithoutPost w (xs.eraseIdx i)):=by
 have hS0:=cloneInt_any xs A xs.length c w rfl (by omega) hS
 have HCL:=Lib.hid hS0
 have HDE:=Lib.hid (fun W v (h:OwnS W w.heap.size 3 1 intC v xs)=>delInt_any w.heap.size xs W (by omega) v h i hi)
 have h5:IntKind.i64.wrap ((i:Int)+1)=((i+1:Nat):Int):=by rw[IntKind.wrap_i64];omega
 clear hS hS0
 go_enter Tryz.func43,Tryz.ntmps43
 go_wp2_with (first
  |(go_at_call 76;go_must(refine HCL.out.mono ?_);rintro e w1 ⟨v1,rfl,o1,b1⟩)
  |(go_at_call 75;go_must(refine(HDE.out _ _ o1).mono ?_);rintro e w2 ⟨v2,rfl,o2,g2⟩))
 go_ret
 rw[<-List.eraseIdx_eq_take_drop_succ]at o2
 exact⟨v2,rfl,o2,Below.grown b1 g2 b1.size (fun j hj=>(o1.ge j hj).1)⟩
end Go.Proofs.YtkhkhnellekofaaGreatDoor
