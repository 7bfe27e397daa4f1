/- Walk of chapter 5's CheckRecords; contradicting pairs. -/
import Derived.Test.YtmaidggpbihlgaaGreatDoorJT
import Derived.Test.YtmaidggpbihlgaaGreatDoorE4
import Derived.Test.YtmaidggpbihlgaaGreatDoorO0
import Derived.Test.YtmaidggpbihlgaaGreatDoorRA
import Derived.Test.YtmaidggpbihlgaaGreatDoorJ2
set_option linter.unusedSimpArgs false
set_option linter.unusedVariables false
namespace Go.Proofs.YtmaidggpbihlgaaGreatDoor
open Go.RowKit
theorem share_set {l:Parts} (h:GoodParts l) {n:ByteArray} {q:Rat} (m:ByteArray):shareP (setP l n q) m=if sameB m n then q else shareP l m:=by
 have hw:=without_good h (n:=n)
 have h0:shareP (withoutP l n) n=0:=by rw[share_without,same_refl];rfl
 rw[set_keeps h.asc]
 by_cases hq:q==0
 ·rw[if_pos hq,share_without]
  have:q=0:=by simpa using hq
  rw[this]
 ·rw[if_neg hq,share_given hw,h0,Rat.zero_add]
  cases hs:sameB m n
  ·simp only[Bool.false_eq_true,if_false]
   rw[share_without,hs]
   rfl
  ·rfl
theorem eqS_same (a b:ByteArray):eqS a b=sameB a b:=rfl
theorem mget_mput {V:Type} (k:ByteArray) (v:V) (n:ByteArray): ∀m:List (ByteArray×V),mget eqS n (mput eqS k v m)=if sameB n k then some v else mget eqS n m
 | []=>rfl
 |x::m=>by
  rw[mput]
  have hkx:eqS k x.1=sameB k x.1:=rfl
  rw[hkx]
  cases hk:sameB k x.1
  ·rw[if_neg (by simp),mget,mget,mget_mput k v n m]
   have hnx:eqS n x.1=sameB n x.1:=rfl
   rw[hnx]
   cases hn:sameB n x.1
   ·simp
   ·have hnk:sameB n k=false:=by
     rw[same_ne]
     intro e
     rw[same_iff]at hn
     rw[same_ne]at hk
     exact hk (e▸hn)
    simp[hnk]
  ·have hkx:k=x.1:=same_iff.1 hk
   rw[if_pos rfl,mget,mget]
   show(if sameB n k=true then _ else _)=_
   cases hn:sameB n k
   ·have:eqS n x.1=false:=by rw[eqS_same,<-hkx,hn]
    simp[this]
   ·simp
theorem mput_keys {V:Type} (k:ByteArray) (v:V): ∀m:List (ByteArray×V),(m.map (·.1)).Nodup->((mput eqS k v m).map (·.1)).Nodup/\ ∀x∈(mput eqS k v m).map (·.1),x=k\/x∈m.map (·.1)
 | [],_=>by simp[mput]
 |x::m,h=>by
  rw[mput]
  have hkx:eqS k x.1=sameB k x.1:=rfl
  rw[hkx]
  rw[List.map_cons,List.nodup_cons]at h
  cases hk:sameB k x.1
  ·obtain⟨h1,h2⟩:=mput_keys k v m h.2
   rw[if_neg (by simp),List.map_cons]
   refine⟨List.nodup_cons.2 ⟨fun hx=> ?_,h1⟩,fun y hy=> ?_⟩
   ·rcases h2 _ hx with e|e
    ·rw[e,same_refl]at hk;cases hk
    ·exact h.1 e
   ·rcases List.mem_cons.1 hy with rfl|hy
    ·exact .inr (by simp)
    ·rcases h2 y hy with e|e
     ·exact .inl e
     ·exact .inr (by simp[e])
  ·have e:k=x.1:=same_iff.1 hk
   rw[if_pos rfl,List.map_cons]
   refine⟨List.nodup_cons.2 ⟨by rw[e];exact h.1,h.2⟩,fun y hy=> ?_⟩
   rcases List.mem_cons.1 hy with rfl|hy
   ·exact .inl rfl
   ·exact .inr (by simp[hy])
theorem mget_mem {V:Type} {n:ByteArray} {v:V}: ∀ {m:List (ByteArray×V)},mget eqS n m=some v->(n,v)∈m
 | [],h=>by simp[mget]at h
 |x::m,h=>by
  rw[mget]at h
  have hnx:eqS n x.1=sameB n x.1:=rfl
  rw[hnx]at h
  cases hn:sameB n x.1
  ·rw[hn,if_neg (by simp)]at h
   exact List.mem_cons_of_mem _ (mget_mem h)
  ·rw[hn,if_pos rfl]at h
   have e:=same_iff.1 hn
   simp only[Option.some.injEq]at h
   rw[e,<-h]
   exact List.mem_cons_self
theorem mem_mget {V:Type} {n:ByteArray} {v:V}: ∀ {m:List (ByteArray×V)},(m.map (·.1)).Nodup->(n,v)∈m->mget eqS n m=some v
 | [],_,h=>by simp at h
 |x::m,hd,h=>by
  rw[List.map_cons,List.nodup_cons]at hd
  rw[mget]
  have hnx:eqS n x.1=sameB n x.1:=rfl
  rw[hnx]
  rcases List.mem_cons.1 h with rfl|h
  ·rw[same_refl,if_pos rfl]
  ·have hne:sameB n x.1=false:=same_ne.2 fun e=>hd.1 (by rw[<-e];exact List.mem_map.2 ⟨_,h,rfl⟩)
   rw[hne,if_neg (by simp)]
   exact mem_mget hd.2 h
end Go.Proofs.YtmaidggpbihlgaaGreatDoor
namespace Go.Proofs.YtmaidggpbihlgaaGreatDoor
open Go.RowKit
noncomputable def chooseP (l:List Rec):Nat->List Nat->Nat->List Nat
 |0,set,_=>if contraP (ofP l set)then set else[]
 |d+1,set,k=>((List.range' k (l.length-k)).findSome? fun i=>if(chooseP l d (set++[i]) (i+1)).isEmpty then none else some (chooseP l d (set++[i]) (i+1))).getD []
def Cand (l:List Rec) (set:List Nat) (k d:Nat) (r:List Nat):Prop:=r.Pairwise (· < ·)/\(∀i∈r,k<=i/\i<l.length)/\r.length=d/\contraP (ofP l (set++r))=true
theorem find_first {α β:Type} {f:α->Option β}: ∀ {l:List α} {y:β},l.findSome? f=some y-> ∃a x b,l=a++x::b/\f x=some y/\ ∀z∈a,f z=none
 | [],y,h=>by cases h
 |x::l,y,h=>by
  rw[List.findSome?_cons]at h
  cases hx:f x with
  |some z=>
   rw[hx]at h
   cases h
   exact⟨[],x,l,rfl,hx,by simp⟩
  |none=>
   rw[hx]at h
   obtain⟨a,z,b,h1,h2,h3⟩:=find_first h
   refine⟨x::a,z,b,by rw[h1];rfl,h2,fun w hw=> ?_⟩
   rcases List.mem_cons.1 hw with rfl|hw
   ·exact hx
   ·exact h3 w hw
theorem find_none {α β:Type} {f:α->Option β}: ∀ {l:List α},l.findSome? f=none-> ∀z∈l,f z=none
 | [],_,z,hz=>by cases hz
 |x::l,h,z,hz=>by
  rw[List.findSome?_cons]at h
  cases hx:f x with
  |some y=>rw[hx]at h;cases h
  |none=>
   rw[hx]at h
   rcases List.mem_cons.1 hz with rfl|hz
   ·exact hx
   ·exact find_none h z hz
theorem choose_spec (l:List Rec): ∀(d:Nat) (set:List Nat) (k:Nat),0<set.length+d->
 (chooseP l d set k=[]-> ∀r,¬Cand l set k d r)/\(chooseP l d set k≠[]-> ∃r,chooseP l d set k=set++r/\Cand l set k d r/\ ∀r',Cand l set k d r'->lexB r' r=false)
 |0,set,k,hp=>by
  rw[chooseP]
  split
  ·rename_i hc
   refine⟨fun h=> ?_,fun _=>⟨[],by simp,⟨List.Pairwise.nil,by simp,rfl,by simpa using hc⟩,fun r' hr'=> ?_⟩⟩
   ·rw[h]at hp;simp at hp
   ·have:=hr'.2.2.1
    rw[List.eq_nil_of_length_eq_zero this]
    rfl
  ·rename_i hc
   refine⟨fun _ r hr=> ?_,fun h=>absurd rfl h⟩
   have:=hr.2.2.1
   rw[List.eq_nil_of_length_eq_zero this]at hr
   have h2:=hr.2.2.2
   rw[List.append_nil]at h2
   exact hc h2
 |d+1,set,k,hp=>by
  have ih:=fun i=>choose_spec l d (set++[i]) (i+1) (by simp;omega)
  have split1: ∀r,Cand l set k (d+1) r-> ∃i r',r=i::r'/\k<=i/\i<l.length/\Cand l (set++[i]) (i+1) d r':=by
   intro r hr
   obtain⟨h1,h2,h3,h4⟩:=hr
   match r,h3 with
   |i::r',h3=>
    have hpw:=List.pairwise_cons.1 h1
    refine⟨i,r',rfl,(h2 i (by simp)).1,(h2 i (by simp)).2,hpw.2,fun j hj=>⟨hpw.1 j hj,(h2 j (by simp[hj])).2⟩,by simpa using h3,by simpa using h4⟩
  rw[chooseP]
  cases hf:(List.range' k (l.length-k)).findSome? fun i=>if(chooseP l d (set++[i]) (i+1)).isEmpty then none else some (chooseP l d (set++[i]) (i+1))with
  |none=>
   refine⟨fun _ r hr=> ?_,fun h=>absurd rfl h⟩
   obtain⟨i,r',rfl,h1,h2,h3⟩:=split1 r hr
   have:=find_none hf i (List.mem_range'_1.2 ⟨h1,by omega⟩)
   split at this
   ·rename_i he
    exact(ih i).1 (by simpa using he) r' h3
   ·cases this
  |some y=>
   obtain⟨a,i,b,e1,e2,e3⟩:=find_first hf
   split at e2
   ·cases e2
   ·rename_i hne
    cases e2
    have hne2:chooseP l d (set++[i]) (i+1)≠[]:=by simpa using hne
    obtain⟨r,r1,r2,r3⟩:=(ih i).2 hne2
    have hi:i∈List.range' k (l.length-k):=by rw[e1];simp
    have hi2:=List.mem_range'_1.1 hi
    refine⟨fun h=>absurd h hne2,fun _=>⟨i::r,by show chooseP l d (set++[i]) (i+1)=_;rw[r1];simp,⟨List.pairwise_cons.2 ⟨fun j hj=>(r2.2.1 j hj).1,r2.1⟩,fun j hj=> ?_,by simpa using r2.2.2.1,by simpa using r2.2.2.2⟩,fun r' hr'=> ?_⟩⟩
    ·rcases List.mem_cons.1 hj with rfl|hj
     ·exact⟨hi2.1,by omega⟩
     ·exact⟨by have:=(r2.2.1 j hj).1;omega,(r2.2.1 j hj).2⟩
    ·obtain⟨j,q,rfl,j1,j2,j3⟩:=split1 r' hr'
     have hj:j∈List.range' k (l.length-k):=List.mem_range'_1.2 ⟨j1,by omega⟩
     rw[e1]at hj
     rw[lexB]
     rcases List.mem_append.1 hj with hj|hj
     ·
      exfalso
      have:=e3 j hj
      split at this
      ·rename_i he
       exact(ih j).1 (by simpa using he) q j3
      ·cases this
     ·rcases List.mem_cons.1 hj with rfl|hj
      ·rw[r3 q j3];simp
      ·have hpw:(a++i::b).Pairwise (· < ·):=by rw[<-e1];exact List.pairwise_lt_range'
       have h3:=(List.pairwise_append.1 hpw).2.1
       have hij:=(List.pairwise_cons.1 h3).1 j hj
       simp
       omega
noncomputable def leastGo (l:List Rec):Nat->Nat->List Nat
 |0,_=>[]
 |f+1,size=>if(chooseP l size [] 0).isEmpty then leastGo l f (size+1)else chooseP l size [] 0
theorem cand_set {l:List Rec} {t:List Nat} (h:SetOf l.length t) (hc:contraP (ofP l t)=true):Cand l [] 0 t.length t:=⟨h.1,fun i hi=>⟨Nat.zero_le i,h.2 i hi⟩,rfl,by simpa using hc⟩
theorem set_len {n:Nat}: ∀ {t:List Nat} {k:Nat},t.Pairwise (· < ·)->(∀i∈t,k<=i/\i<n)->t.length<=n-k
 | [],k,_,_=>Nat.zero_le _
 |x::t,k,h,hm=>by
  have h1:=List.pairwise_cons.1 h
  have ih:=set_len (t:=t) (k:=x+1) h1.2 fun i hi=>⟨h1.1 i hi,(hm i (by simp[hi])).2⟩
  have:=hm x (by simp)
  rw[List.length_cons]
  omega
theorem least_go {l:List Rec}: ∀(f size:Nat),f+size=l.length+1->1<=size->(∀t,SetOf l.length t->t.length<size->contraP (ofP l t)=false)->
 (leastGo l f size=[]-> ∀t,SetOf l.length t->contraP (ofP l t)=false)/\(leastGo l f size≠[]->IsLeast l (leastGo l f size))
 |0,size,hf,_,hs=>by
  rw[leastGo]
  refine⟨fun _ t ht=>hs t ht ?_,fun h=>absurd rfl h⟩
  have:=set_len (k:=0) ht.1 fun i hi=>⟨Nat.zero_le i,ht.2 i hi⟩
  omega
 |f+1,size,hf,h1,hs=>by
  have hc:=choose_spec l size [] 0 (by simp;omega)
  rw[leastGo]
  split
  ·rename_i he
   refine least_go f (size+1) (by omega) (by omega) fun t ht htl=> ?_
   rcases Nat.lt_succ_iff_lt_or_eq.1 htl with k|k
   ·exact hs t ht k
   ·rw[<-Bool.not_eq_true]
    intro hct
    have:=cand_set ht hct
    rw[k]at this
    exact hc.1 (by simpa using he) t this
  ·rename_i he
   have hne:chooseP l size [] 0≠[]:=by simpa using he
   obtain⟨r,r1,r2,r3⟩:=hc.2 hne
   rw[List.nil_append]at r1
   refine⟨fun h=>absurd h hne,fun _=> ?_⟩
   rw[r1]
   refine⟨⟨r2.1,fun i hi=>(r2.2.1 i hi).2⟩,by simpa using r2.2.2.2,fun t ht hct=> ?_⟩
   rw[r2.2.2.1]
   rcases Nat.lt_trichotomy t.length size with k|k|k
   ·rw[hs t ht k]at hct;cases hct
   ·have:=cand_set ht hct
    rw[k]at this
    exact .inr ⟨k.symm,r3 t this⟩
   ·exact .inl k
theorem least_ref (l:List Rec):(leastGo l l.length 1=[]-> ∀t,SetOf l.length t->contraP (ofP l t)=false)/\(leastGo l l.length 1≠[]->IsLeast l (leastGo l l.length 1)):=
 least_go l.length 1 rfl (Nat.le_refl _) fun t _ hl=>by
  have:t=[]:=List.eq_nil_of_length_eq_zero (by omega)
  rw[this]
  exact contra_nil
end Go.Proofs.YtmaidggpbihlgaaGreatDoor
namespace Go.Proofs.YtmaidggpbihlgaaGreatDoor
open Go.RowKit Go.Shelf
attribute [local go_sem] World.cell?_alloc_mark ext_size ext_cell ext_frozen lt_add_r lt_add_r2 lt_add_r3 lt_add_r4 lt_add_r5 lt_add_r6 lt_add_r7 lt_add_r8
attribute [local go_sem] ext_setCell alloc_setCell_lt
theorem isDay0:isDayP 0=true:=by decide
theorem inR04:inR 0 0 4=true:=by decide
theorem inR14:inR 1 0 4=true:=by decide
theorem inR24:inR 2 0 4=true:=by decide
theorem inR34:inR 3 0 4=true:=by decide
theorem inR44:inR 4 0 4=true:=by decide
set_option maxRecDepth 100000 in
set_option maxHeartbeats 2000000 in
theorem checkRecord_any (x:Rec) (w:World) (h1:x.name.size<=100000) (h2:x.other.size<=100000) (h3:x.place.size<=100000):Calls Tryz.prog 93 #[x.v] w (Ret w (.int .i64 (checkRecP x))):=by
 obtain⟨R,hR⟩: ∃R,R=checkRecP x:=⟨_,rfl⟩
 rw[<-hR]
 have HR:=Lib.hid hR
 clear hR
 obtain⟨kd,nm,ot,pl,dy,tl,nu,de⟩:=x
 simp only at h1 h2 h3
 unfold Rec.v
 go_enter Tryz.func93,Tryz.ntmps93
 cases hk:inR kd 0 4
 ·go_wp2_with (go_at_call 77;refine(within5_any _ _ _ _).mono ?_;rintro e wq ⟨rfl,rfl⟩;rw[hk])
  go_ret
  exact Ret.of (int_eq (by rw[HR.out];simp[checkRecP, *])) Bw
 ·go_upto_region 3 with(go_at_call 77;refine(within5_any _ _ _ _).mono ?_;rintro e wq ⟨rfl,rfl⟩;rw[hk])
  go_cut [11]from 7 (fun v wc=>v= .bool (!isDayP dy||!isDayP tl)/\Below w.heap.size w wc/\wc.heap[w.heap.size]?=some (.cells #[.int .i64 kd, .string nm, .string ot, .string pl, .int .i64 dy, .int .i64 tl, .int .i64 nu, .int .i64 de] 67))
  case first=>
   go_wp2_with (first
                 |(go_at_call 77;refine(within5_any _ _ _ _).mono ?_;intro e wq hq;rcases Ret0.bools hq with⟨rfl,⟨hb,rfl⟩|⟨hb,rfl⟩⟩<;>clear hq)
                 |(go_at_call 65;refine(isDay5_any _ _).mono ?_;intro e wq hq;rcases Ret0.bools hq with⟨rfl,⟨hb,rfl⟩|⟨hb,rfl⟩⟩<;>clear hq)
                 |(go_at_call 64;refine(isName5_any _ _ (by assumption)).mono ?_;intro e wq hq;rcases Ret0.bools hq with⟨rfl,⟨hb,rfl⟩|⟨hb,rfl⟩⟩<;>clear hq))
   all_goals go_meet
   all_goals(refine⟨bool_eq (by first|(simp[noB, *];done)),Bw,by first|exact J_new _ _ _ rfl|repeat(first|assumption|with_reducible refine J_alloc ?_|with_reducible refine J_ext ?_|with_reducible refine J_ne (by omega) ?_)⟩)
  case rest=>
   obtain⟨rfl,hB,g0⟩:=hcut
   have d0:wc.cell? ⟨w.heap.size,0,none⟩=some (.int .i64 kd):=by simp only[World.cell?,g0];rfl
   have d1:wc.cell? ⟨w.heap.size,1,none⟩=some (.string nm):=by simp only[World.cell?,g0];rfl
   have d2:wc.cell? ⟨w.heap.size,2,none⟩=some (.string ot):=by simp only[World.cell?,g0];rfl
   have d3:wc.cell? ⟨w.heap.size,3,none⟩=some (.string pl):=by simp only[World.cell?,g0];rfl
   have d4:wc.cell? ⟨w.heap.size,4,none⟩=some (.int .i64 dy):=by simp only[World.cell?,g0];rfl
   have d5:wc.cell? ⟨w.heap.size,5,none⟩=some (.int .i64 tl):=by simp only[World.cell?,g0];rfl
   have d6:wc.cell? ⟨w.heap.size,6,none⟩=some (.int .i64 nu):=by simp only[World.cell?,g0];rfl
   have d7:wc.cell? ⟨w.heap.size,7,none⟩=some (.int .i64 de):=by simp only[World.cell?,g0];rfl
   have e0:w.heap.size<wc.heap.size:=blk_lt g0
   cases hb:(!isDayP dy||!isDayP tl)
   ·have hx0: ∀W,Sem.run Tryz.prog (Instr.index 178 (.agg #[.string nm, .string ot, .string pl]) (.int .i64 0)) W= .ok (.string nm) W:=fun W=>by kernel_rfl
    have hx1: ∀W,Sem.run Tryz.prog (Instr.index 178 (.agg #[.string nm, .string ot, .string pl]) (.int .i64 1)) W= .ok (.string ot) W:=fun W=>by kernel_rfl
    have hx2: ∀W,Sem.run Tryz.prog (Instr.index 178 (.agg #[.string nm, .string ot, .string pl]) (.int .i64 2)) W= .ok (.string pl) W:=fun W=>by kernel_rfl
    go_upto_block 1 with fail
    go_cut [4,29]from 30 (fun _ _ W=>W=wc/\nameOr nm=true/\nameOr ot=true/\nameOr pl=true)
    case first=>
     go_wp2_with fail
     go_loopw [4,29] (fun _ i wr=> ∃k:Nat,k<=3/\i= .int .i64 k/\wr=wc/\Hid (∀j s,j<k->[nm,ot,pl][j]?=some s->nameOr s=true)) (fun _ i _=>3-(intOf i).toNat)
     case atStart=>exact⟨0,by omega,rfl,rfl,fun j s hj=>absurd hj (Nat.not_lt_zero _)⟩
     case round=>
      obtain⟨k,hk3,rfl,rfl,HK⟩:=hrel
      obtain rfl|rfl|rfl|rfl:k=0\/k=1\/k=2\/k=3:=by omega
      ·cases hz:noB nm
       ·have hz1:(nm).toList.isEmpty=false:=hz
        have hz2: ¬(nm).toList=[]:=by simpa using hz1
        cases hq:isNameP nm
        ·have hno:nameOr nm=false:=by simp[nameOr,hz,hq]
         have HRX:Hid (R=4):=by show _=_;rw[HR.out];simp[checkRecP, *]
         clear HR HK hno
         go_wp2_with (go_at_call 64;refine(isName5_any _ _ (by assumption)).mono ?_;rintro e wq ⟨rfl,rfl⟩;rw[hq])
         go_ret
         rw[HRX.out]
         exact Ret.of rfl Bw
        ·have hno:nameOr nm=true:=by simp[nameOr,hz,hq]
         have HNO:=Lib.hid hno
         clear hno
         go_wp2_with (go_at_call 64;refine(isName5_any _ _ (by assumption)).mono ?_;rintro e wq ⟨rfl,rfl⟩;rw[hq])
         go_round
         case rel=>exact⟨0+1,by omega,by go_num,by first|exact True.intro|rfl,fun j s hj hs=>by
          rcases Nat.lt_succ_iff_lt_or_eq.1 hj with hj|rfl
          ·exact HK.out j s hj hs
          ·simp at hs;rw[<-hs];exact HNO.out⟩
         case measure=>simp[intOf]
       ·have hz1:(nm).toList.isEmpty=true:=hz
        have hz2:(nm).toList=[]:=by simpa using hz1
        have hno:nameOr nm=true:=by simp[nameOr,hz]
        have HNO:=Lib.hid hno
        clear hno
        go_wp2_with fail
        go_round
        case rel=>exact⟨0+1,by omega,by go_num,by first|exact True.intro|rfl,fun j s hj hs=>by
         rcases Nat.lt_succ_iff_lt_or_eq.1 hj with hj|rfl
         ·exact HK.out j s hj hs
         ·simp at hs;rw[<-hs];exact HNO.out⟩
        case measure=>simp[intOf]
      ·have hq1:=HK.out 0 nm (by omega) rfl
       cases hz:noB ot
       ·have hz1:(ot).toList.isEmpty=false:=hz
        have hz2: ¬(ot).toList=[]:=by simpa using hz1
        cases hq:isNameP ot
        ·have hno:nameOr ot=false:=by simp[nameOr,hz,hq]
         have HRX:Hid (R=4):=by show _=_;rw[HR.out];simp[checkRecP, *]
         clear HR HK hno
         go_wp2_with (go_at_call 64;refine(isName5_any _ _ (by assumption)).mono ?_;rintro e wq ⟨rfl,rfl⟩;rw[hq])
         go_ret
         rw[HRX.out]
         exact Ret.of rfl Bw
        ·have hno:nameOr ot=true:=by simp[nameOr,hz,hq]
         have HNO:=Lib.hid hno
         clear hno
         go_wp2_with (go_at_call 64;refine(isName5_any _ _ (by assumption)).mono ?_;rintro e wq ⟨rfl,rfl⟩;rw[hq])
         go_round
         case rel=>exact⟨1+1,by omega,by go_num,by first|exact True.intro|rfl,fun j s hj hs=>by
          rcases Nat.lt_succ_iff_lt_or_eq.1 hj with hj|rfl
          ·exact HK.out j s hj hs
          ·simp at hs;rw[<-hs];exact HNO.out⟩
         case measure=>simp[intOf]
       ·have hz1:(ot).toList.isEmpty=true:=hz
        have hz2:(ot).toList=[]:=by simpa using hz1
        have hno:nameOr ot=true:=by simp[nameOr,hz]
        have HNO:=Lib.hid hno
        clear hno
        go_wp2_with fail
        go_round
        case rel=>exact⟨1+1,by omega,by go_num,by first|exact True.intro|rfl,fun j s hj hs=>by
         rcases Nat.lt_succ_iff_lt_or_eq.1 hj with hj|rfl
         ·exact HK.out j s hj hs
         ·simp at hs;rw[<-hs];exact HNO.out⟩
        case measure=>simp[intOf]
      ·have hq1:=HK.out 0 nm (by omega) rfl
       have hq2:=HK.out 1 ot (by omega) rfl
       cases hz:noB pl
       ·have hz1:(pl).toList.isEmpty=false:=hz
        have hz2: ¬(pl).toList=[]:=by simpa using hz1
        cases hq:isNameP pl
        ·have hno:nameOr pl=false:=by simp[nameOr,hz,hq]
         have HRX:Hid (R=4):=by show _=_;rw[HR.out];simp[checkRecP, *]
         clear HR HK hno
         go_wp2_with (go_at_call 64;refine(isName5_any _ _ (by assumption)).mono ?_;rintro e wq ⟨rfl,rfl⟩;rw[hq])
         go_ret
         rw[HRX.out]
         exact Ret.of rfl Bw
        ·have hno:nameOr pl=true:=by simp[nameOr,hz,hq]
         have HNO:=Lib.hid hno
         clear hno
         go_wp2_with (go_at_call 64;refine(isName5_any _ _ (by assumption)).mono ?_;rintro e wq ⟨rfl,rfl⟩;rw[hq])
         go_round
         case rel=>exact⟨2+1,by omega,by go_num,by first|exact True.intro|rfl,fun j s hj hs=>by
          rcases Nat.lt_succ_iff_lt_or_eq.1 hj with hj|rfl
          ·exact HK.out j s hj hs
          ·simp at hs;rw[<-hs];exact HNO.out⟩
         case measure=>simp[intOf]
       ·have hz1:(pl).toList.isEmpty=true:=hz
        have hz2:(pl).toList=[]:=by simpa using hz1
        have hno:nameOr pl=true:=by simp[nameOr,hz]
        have HNO:=Lib.hid hno
        clear hno
        go_wp2_with fail
        go_round
        case rel=>exact⟨2+1,by omega,by go_num,by first|exact True.intro|rfl,fun j s hj hs=>by
         rcases Nat.lt_succ_iff_lt_or_eq.1 hj with hj|rfl
         ·exact HK.out j s hj hs
         ·simp at hs;rw[<-hs];exact HNO.out⟩
        case measure=>simp[intOf]
      ·go_wp2_with fail
       go_meet
       exact⟨rfl,HK.out 0 nm (by omega) rfl,HK.out 1 ot (by omega) rfl,HK.out 2 pl (by omega) rfl⟩
    case rest=>
     obtain⟨rfl,q1,q2,q3⟩:=hcut
     have hkk:kd=0\/kd=1\/kd=2\/kd=3\/kd=4:=by
      unfold inR at hk
      simp at hk
      omega
     have HB:=Lib.hid hB
     have hs:=hB.size
     have p1:isDayP dy=true:=by cases hd:isDayP dy<;>simp_all
     have p2:isDayP tl=true:=by cases hd:isDayP tl<;>simp_all
     clear hx0 hx1 hx2 g0 hB hb
     cases z1:noB nm
     ·have y1:nm.toList.isEmpty=false:=z1
      have y1': ¬nm.toList=[]:=by simpa using y1
      rcases hkk with rfl|rfl|rfl|rfl|rfl
      ·cases z2:noB ot
       ·have y2:ot.toList.isEmpty=false:=z2
        have w2: ¬ot.toList=[]:=by simpa using y2
        (go_wp2_with fail
         go_ret
         exact Ret.of (int_eq (by rw[HR.out];simp[checkRecP,p1,p2,isDay0,inR04,inR14,inR24,inR34,inR44, *])) (HB.out.trans (Below.mono (B:=wc.heap.size) Bw hs)))
       ·have y2:ot.toList.isEmpty=true:=z2
        have w2:ot.toList=[]:=by simpa using y2
        cases z3:noB pl
        ·have y3:pl.toList.isEmpty=false:=z3
         have w3: ¬pl.toList=[]:=by simpa using y3
         (go_wp2_with fail
          go_ret
          exact Ret.of (int_eq (by rw[HR.out];simp[checkRecP,p1,p2,isDay0,inR04,inR14,inR24,inR34,inR44, *])) (HB.out.trans (Below.mono (B:=wc.heap.size) Bw hs)))
        ·have y3:pl.toList.isEmpty=true:=z3
         have w3:pl.toList=[]:=by simpa using y3
         by_cases t1:tl=0
         ·skip
          by_cases u1:nu=0
          ·skip
           by_cases u2:de=0
           ·skip
            (go_wp2_with fail
             go_ret
             exact Ret.of (int_eq (by rw[HR.out];simp[checkRecP,p1,p2,isDay0,inR04,inR14,inR24,inR34,inR44, *])) (HB.out.trans (Below.mono (B:=wc.heap.size) Bw hs)))
           ·skip
            (go_wp2_with fail
             go_ret
             exact Ret.of (int_eq (by rw[HR.out];simp[checkRecP,p1,p2,isDay0,inR04,inR14,inR24,inR34,inR44, *])) (HB.out.trans (Below.mono (B:=wc.heap.size) Bw hs)))
          ·skip
           (go_wp2_with fail
            go_ret
            exact Ret.of (int_eq (by rw[HR.out];simp[checkRecP,p1,p2,isDay0,inR04,inR14,inR24,inR34,inR44, *])) (HB.out.trans (Below.mono (B:=wc.heap.size) Bw hs)))
         ·skip
          (go_wp2_with fail
           go_ret
           exact Ret.of (int_eq (by rw[HR.out];simp[checkRecP,p1,p2,isDay0,inR04,inR14,inR24,inR34,inR44, *])) (HB.out.trans (Below.mono (B:=wc.heap.size) Bw hs)))
      ·cases z2:noB ot
       ·have y2:ot.toList.isEmpty=false:=z2
        have w2: ¬ot.toList=[]:=by simpa using y2
        (go_wp2_with fail
         go_ret
         exact Ret.of (int_eq (by rw[HR.out];simp[checkRecP,p1,p2,isDay0,inR04,inR14,inR24,inR34,inR44, *])) (HB.out.trans (Below.mono (B:=wc.heap.size) Bw hs)))
       ·have y2:ot.toList.isEmpty=true:=z2
        have w2:ot.toList=[]:=by simpa using y2
        cases z3:noB pl
        ·have y3:pl.toList.isEmpty=false:=z3
         have w3: ¬pl.toList=[]:=by simpa using y3
         (go_wp2_with fail
          go_ret
          exact Ret.of (int_eq (by rw[HR.out];simp[checkRecP,p1,p2,isDay0,inR04,inR14,inR24,inR34,inR44, *])) (HB.out.trans (Below.mono (B:=wc.heap.size) Bw hs)))
        ·have y3:pl.toList.isEmpty=true:=z3
         have w3:pl.toList=[]:=by simpa using y3
         by_cases t1:tl=0
         ·skip
          by_cases u1:nu=0
          ·skip
           by_cases u2:de=0
           ·skip
            (go_wp2_with fail
             go_ret
             exact Ret.of (int_eq (by rw[HR.out];simp[checkRecP,p1,p2,isDay0,inR04,inR14,inR24,inR34,inR44, *])) (HB.out.trans (Below.mono (B:=wc.heap.size) Bw hs)))
           ·skip
            (go_wp2_with fail
             go_ret
             exact Ret.of (int_eq (by rw[HR.out];simp[checkRecP,p1,p2,isDay0,inR04,inR14,inR24,inR34,inR44, *])) (HB.out.trans (Below.mono (B:=wc.heap.size) Bw hs)))
          ·skip
           (go_wp2_with fail
            go_ret
            exact Ret.of (int_eq (by rw[HR.out];simp[checkRecP,p1,p2,isDay0,inR04,inR14,inR24,inR34,inR44, *])) (HB.out.trans (Below.mono (B:=wc.heap.size) Bw hs)))
         ·skip
          (go_wp2_with fail
           go_ret
           exact Ret.of (int_eq (by rw[HR.out];simp[checkRecP,p1,p2,isDay0,inR04,inR14,inR24,inR34,inR44, *])) (HB.out.trans (Below.mono (B:=wc.heap.size) Bw hs)))
      ·cases z2:noB ot
       ·have y2:ot.toList.isEmpty=false:=z2
        have w2: ¬ot.toList=[]:=by simpa using y2
        cases z3:noB pl
        ·have y3:pl.toList.isEmpty=false:=z3
         have w3: ¬pl.toList=[]:=by simpa using y3
         (go_wp2_with fail
          go_ret
          exact Ret.of (int_eq (by rw[HR.out];simp[checkRecP,p1,p2,isDay0,inR04,inR14,inR24,inR34,inR44, *])) (HB.out.trans (Below.mono (B:=wc.heap.size) Bw hs)))
        ·have y3:pl.toList.isEmpty=true:=z3
         have w3:pl.toList=[]:=by simpa using y3
         by_cases a1:dy=0
         ·skip
          by_cases t1:tl=0
          ·skip
           by_cases u1:nu=0
           ·skip
            by_cases u2:de=0
            ·skip
             (go_wp2_with fail
              go_ret
              exact Ret.of (int_eq (by rw[HR.out];simp[checkRecP,p1,p2,isDay0,inR04,inR14,inR24,inR34,inR44, *])) (HB.out.trans (Below.mono (B:=wc.heap.size) Bw hs)))
            ·skip
             (go_wp2_with fail
              go_ret
              exact Ret.of (int_eq (by rw[HR.out];simp[checkRecP,p1,p2,isDay0,inR04,inR14,inR24,inR34,inR44, *])) (HB.out.trans (Below.mono (B:=wc.heap.size) Bw hs)))
           ·skip
            (go_wp2_with fail
             go_ret
             exact Ret.of (int_eq (by rw[HR.out];simp[checkRecP,p1,p2,isDay0,inR04,inR14,inR24,inR34,inR44, *])) (HB.out.trans (Below.mono (B:=wc.heap.size) Bw hs)))
          ·skip
           (go_wp2_with fail
            go_ret
            exact Ret.of (int_eq (by rw[HR.out];simp[checkRecP,p1,p2,isDay0,inR04,inR14,inR24,inR34,inR44, *])) (HB.out.trans (Below.mono (B:=wc.heap.size) Bw hs)))
         ·skip
          (go_wp2_with fail
           go_ret
           exact Ret.of (int_eq (by rw[HR.out];simp[checkRecP,p1,p2,isDay0,inR04,inR14,inR24,inR34,inR44, *])) (HB.out.trans (Below.mono (B:=wc.heap.size) Bw hs)))
       ·have y2:ot.toList.isEmpty=true:=z2
        have w2:ot.toList=[]:=by simpa using y2
        (go_wp2_with fail
         go_ret
         exact Ret.of (int_eq (by rw[HR.out];simp[checkRecP,p1,p2,isDay0,inR04,inR14,inR24,inR34,inR44, *])) (HB.out.trans (Below.mono (B:=wc.heap.size) Bw hs)))
      ·cases z2:noB ot
       ·have y2:ot.toList.isEmpty=false:=z2
        have w2: ¬ot.toList=[]:=by simpa using y2
        (go_wp2_with fail
         go_ret
         exact Ret.of (int_eq (by rw[HR.out];simp[checkRecP,p1,p2,isDay0,inR04,inR14,inR24,inR34,inR44, *])) (HB.out.trans (Below.mono (B:=wc.heap.size) Bw hs)))
       ·have y2:ot.toList.isEmpty=true:=z2
        have w2:ot.toList=[]:=by simpa using y2
        cases z3:noB pl
        ·have y3:pl.toList.isEmpty=false:=z3
         have w3: ¬pl.toList=[]:=by simpa using y3
         by_cases t1:tl=0
         ·skip
          cases v1:inR de 1 12
          ·go_wp2_with (go_at_call 77;refine(within5_any _ _ _ _).mono ?_;rintro e wq ⟨rfl,rfl⟩;rw[v1])
           go_ret
           exact Ret.of (int_eq (by rw[HR.out];simp[checkRecP,p1,p2,isDay0,inR34, *])) (HB.out.trans (Below.mono (B:=wc.heap.size) Bw hs))
          ·cases v2:inR nu 1 de
           ·go_wp2_with (go_at_call 77;refine(within5_any _ _ _ _).mono ?_;rintro e wq ⟨rfl,rfl⟩;first|rw[v1]|rw[v2])
            go_ret
            exact Ret.of (int_eq (by rw[HR.out];simp[checkRecP,p1,p2,isDay0,inR34, *])) (HB.out.trans (Below.mono (B:=wc.heap.size) Bw hs))
           ·have b1:1<=de/\de<=12:=by unfold inR at v1;simpa using v1
            have b2:1<=nu/\nu<=de:=by unfold inR at v2;simpa using v2
            have HG:=Lib.hid (fun W=>gcd5_any nu de W (by omega) (by omega))
            clear b1 b2
            by_cases v3:Int.gcd nu de=1
            ·have HG1:Hid (R=0):=by show _=_;rw[HR.out];simp[checkRecP,p1,p2,isDay0,inR34, *]
             rw[v3]at HG
             go_wp2_with (first
              |(go_at_call 77;refine(within5_any _ _ _ _).mono ?_;rintro e wq ⟨rfl,rfl⟩;first|rw[v1]|rw[v2])
              |(go_at_call 121;refine(HG.out _).mono ?_;rintro e wq ⟨rfl,z,rfl⟩))
             go_ret
             exact Ret.of (int_eq HG1.out.symm) (HB.out.trans (Below.mono (B:=wc.heap.size) Bw hs))
            ·have v4:((Int.gcd nu de:Int)==1)=false:=by simpa using(by omega: ¬(Int.gcd nu de:Int)=1)
             have v5: ¬((Int.gcd nu de:Nat):Int)=1:=by omega
             have HG1:Hid (R=3):=by show _=_;rw[HR.out];simp[checkRecP,p1,p2,isDay0,inR34, *]
             go_wp2_with (first
              |(go_at_call 77;refine(within5_any _ _ _ _).mono ?_;rintro e wq ⟨rfl,rfl⟩;first|rw[v1]|rw[v2])
              |(go_at_call 121;refine(HG.out _).mono ?_;rintro e wq ⟨rfl,z,rfl⟩))
             go_ret
             exact Ret.of (int_eq HG1.out.symm) (HB.out.trans (Below.mono (B:=wc.heap.size) Bw hs))
         ·skip
          (go_wp2_with fail
           go_ret
           exact Ret.of (int_eq (by rw[HR.out];simp[checkRecP,p1,p2,isDay0,inR04,inR14,inR24,inR34,inR44, *])) (HB.out.trans (Below.mono (B:=wc.heap.size) Bw hs)))
        ·have y3:pl.toList.isEmpty=true:=z3
         have w3:pl.toList=[]:=by simpa using y3
         (go_wp2_with fail
          go_ret
          exact Ret.of (int_eq (by rw[HR.out];simp[checkRecP,p1,p2,isDay0,inR04,inR14,inR24,inR34,inR44, *])) (HB.out.trans (Below.mono (B:=wc.heap.size) Bw hs)))
      ·cases z2:noB ot
       ·have y2:ot.toList.isEmpty=false:=z2
        have w2: ¬ot.toList=[]:=by simpa using y2
        (go_wp2_with fail
         go_ret
         exact Ret.of (int_eq (by rw[HR.out];simp[checkRecP,p1,p2,isDay0,inR04,inR14,inR24,inR34,inR44, *])) (HB.out.trans (Below.mono (B:=wc.heap.size) Bw hs)))
       ·have y2:ot.toList.isEmpty=true:=z2
        have w2:ot.toList=[]:=by simpa using y2
        cases z3:noB pl
        ·have y3:pl.toList.isEmpty=false:=z3
         have w3: ¬pl.toList=[]:=by simpa using y3
         by_cases u1:nu=0
         ·skip
          by_cases u2:de=0
          ·skip
           by_cases l1:tl<=dy
           ·skip
            (go_wp2_with fail
             go_ret
             exact Ret.of (int_eq (by rw[HR.out];simp[checkRecP,p1,p2,isDay0,inR04,inR14,inR24,inR34,inR44, *])) (HB.out.trans (Below.mono (B:=wc.heap.size) Bw hs)))
           ·skip
            (go_wp2_with fail
             go_ret
             exact Ret.of (int_eq (by rw[HR.out];simp[checkRecP,p1,p2,isDay0,inR04,inR14,inR24,inR34,inR44, *])) (HB.out.trans (Below.mono (B:=wc.heap.size) Bw hs)))
          ·skip
           (go_wp2_with fail
            go_ret
            exact Ret.of (int_eq (by rw[HR.out];simp[checkRecP,p1,p2,isDay0,inR04,inR14,inR24,inR34,inR44, *])) (HB.out.trans (Below.mono (B:=wc.heap.size) Bw hs)))
         ·skip
          (go_wp2_with fail
           go_ret
           exact Ret.of (int_eq (by rw[HR.out];simp[checkRecP,p1,p2,isDay0,inR04,inR14,inR24,inR34,inR44, *])) (HB.out.trans (Below.mono (B:=wc.heap.size) Bw hs)))
        ·have y3:pl.toList.isEmpty=true:=z3
         have w3:pl.toList=[]:=by simpa using y3
         (go_wp2_with fail
          go_ret
          exact Ret.of (int_eq (by rw[HR.out];simp[checkRecP,p1,p2,isDay0,inR04,inR14,inR24,inR34,inR44, *])) (HB.out.trans (Below.mono (B:=wc.heap.size) Bw hs)))
     ·have y1:nm.toList.isEmpty=true:=z1
      have y1':nm.toList=[]:=by simpa using y1
      rcases hkk with rfl|rfl|rfl|rfl|rfl
      ·(go_wp2_with fail
        go_ret
        exact Ret.of (int_eq (by rw[HR.out];simp[checkRecP,p1,p2,isDay0,inR04,inR14,inR24,inR34,inR44, *])) (HB.out.trans (Below.mono (B:=wc.heap.size) Bw hs)))
      ·(go_wp2_with fail
        go_ret
        exact Ret.of (int_eq (by rw[HR.out];simp[checkRecP,p1,p2,isDay0,inR04,inR14,inR24,inR34,inR44, *])) (HB.out.trans (Below.mono (B:=wc.heap.size) Bw hs)))
      ·(go_wp2_with fail
        go_ret
        exact Ret.of (int_eq (by rw[HR.out];simp[checkRecP,p1,p2,isDay0,inR04,inR14,inR24,inR34,inR44, *])) (HB.out.trans (Below.mono (B:=wc.heap.size) Bw hs)))
      ·(go_wp2_with fail
        go_ret
        exact Ret.of (int_eq (by rw[HR.out];simp[checkRecP,p1,p2,isDay0,inR04,inR14,inR24,inR34,inR44, *])) (HB.out.trans (Below.mono (B:=wc.heap.size) Bw hs)))
      ·(go_wp2_with fail
        go_ret
        exact Ret.of (int_eq (by rw[HR.out];simp[checkRecP,p1,p2,isDay0,inR04,inR14,inR24,inR34,inR44, *])) (HB.out.trans (Below.mono (B:=wc.heap.size) Bw hs)))
   ·(go_wp2_with fail
     go_ret
     exact Ret.of (int_eq (by rw[HR.out];simp[checkRecP, *])) Bw)
end Go.Proofs.YtmaidggpbihlgaaGreatDoor
namespace Go.Proofs.YtmaidggpbihlgaaGreatDoor
open Go.RowKit Go.Shelf
attribute [local go_sem] World.cell?_alloc_mark ext_size ext_cell ext_frozen lt_add_r lt_add_r2 lt_add_r3 lt_add_r4 lt_add_r5 lt_add_r6 lt_add_r7 lt_add_r8
attribute [local go_sem] ext_setCell alloc_setCell_lt
def recLens (l:List Rec):Prop:= ∀x∈l,x.name.size<=100000/\x.other.size<=100000/\x.place.size<=100000
set_option maxRecDepth 100000 in
set_option maxHeartbeats 2000000 in
theorem checkRecords_any (l:List Rec) (A:Option Addr) (n c:Nat) (w:World) (hn:n=l.length) (hc:n<=c) (hz:recLens l) (hS:Sl w 8 Rec.cells A l):Calls Tryz.prog 50 #[.slice A n c] w (Ret w (.int .i64 (checkRecsP l))):=by
 subst hn
 have HS:=Lib.hid hS
 obtain⟨R,hR⟩: ∃R,R=checkRecsP l:=⟨_,rfl⟩
 rw[<-hR]
 unfold checkRecsP at hR
 by_cases h40:40<l.length
 ·rw[if_pos (by simpa using h40)]at hR
  subst hR
  have h4:(40:Int)<(l.length:Int):=by omega
  clear hS
  go_enter Tryz.func50,Tryz.ntmps50
  go_wp2_with fail
  go_ret
  exact Ret.of rfl Bw
 ·rw[if_neg (by simpa using h40)]at hR
  have h4: ¬(40:Int)<(l.length:Int):=by omega
  have HR:=Lib.hid hR
  clear hS hR
  go_enter Tryz.func50,Tryz.ntmps50
  go_wp2_with fail
  go_loopw [11] (fun i wr=> ∃k:Nat,k<=l.length/\i= .int .i64 k/\Hid (R=firstErr checkRecP (l.drop k))/\Below w.heap.size w wr) (fun i _=>l.length-(intOf i).toNat)
  case atStart=>exact⟨0,Nat.zero_le _,rfl,by show _=_;rw[HR.out,List.drop_zero],Below.refl _ _⟩
  case round=>
   obtain⟨k,hk,rfl,HX,hB⟩:=hrel
   have HB:=Lib.hid hB
   by_cases hlt:k<l.length
   ·obtain⟨b,off,rfl,hb,hcc⟩:=(HS.out.keep hB).at hlt
    have hx:=HX.out
    rw[List.drop_eq_getElem_cons hlt,firstErr]at hx
    obtain⟨z1,z2,z3⟩:=hz l[k] (List.getElem_mem hlt)
    have hck:=fun W=>checkRecord_any l[k] W z1 z2 z3
    generalize l[k]=x at*
    have HX2:=Lib.hid hx
    have HCK:=Lib.hid hck
    have HLT:=Lib.hid hlt
    unfold Rec.v at HCK
    generalize checkRecP x=er at*
    obtain⟨kd,nm,ot,pl,dy,tl,nu,de⟩:=x
    have i0:wr.cell? ⟨b,off+k*8,none⟩=some (.int .i64 kd):=hcc 0 _ rfl
    have i1:wr.cell? ⟨b,off+k*8+1,none⟩=some (.string nm):=hcc 1 _ rfl
    have i2:wr.cell? ⟨b,off+k*8+2,none⟩=some (.string ot):=hcc 2 _ rfl
    have i3:wr.cell? ⟨b,off+k*8+3,none⟩=some (.string pl):=hcc 3 _ rfl
    have i4:wr.cell? ⟨b,off+k*8+4,none⟩=some (.int .i64 dy):=hcc 4 _ rfl
    have i5:wr.cell? ⟨b,off+k*8+5,none⟩=some (.int .i64 tl):=hcc 5 _ rfl
    have i6:wr.cell? ⟨b,off+k*8+6,none⟩=some (.int .i64 nu):=hcc 6 _ rfl
    have i7:wr.cell? ⟨b,off+k*8+7,none⟩=some (.int .i64 de):=hcc 7 _ rfl
    have hki:(k:Int)<(l.length:Int):=by omega
    have hk0:(0:Int)<=(k:Int):=by omega
    have hkc:(k:Int)<=(c:Int):=by omega
    have hbs:=hB.size
    clear hcc hx hck HX hB
    by_cases h0:er=0
    ·subst h0
     go_wp2_with (go_at_call 93;go_must(refine(HCK.out _).mono ?_);rintro e wq ⟨rfl,z,rfl⟩)
     go_round
     case rel=>exact⟨k+1,HLT.out,by go_num,by show _=_;rw[HX2.out];rfl,HB.out.trans (Below.mono (B:=wr.heap.size) Bw hbs)⟩
     case measure=>have:=HLT.out;simp only[intOf];omega
    ·have HRX:Hid (R=er):=by show _=_;rw[HX2.out,if_pos (by simpa using h0)]
     go_wp2_with (go_at_call 93;go_must(refine(HCK.out _).mono ?_);rintro e wq ⟨rfl,z,rfl⟩)
     go_ret
     exact Ret.of (int_eq HRX.out.symm) (HB.out.trans (Below.mono (B:=wr.heap.size) Bw hbs))
   ·have hki: ¬(k:Int)<(l.length:Int):=by omega
    have hx:=HX.out
    rw[List.drop_eq_nil_of_le (by omega),firstErr]at hx
    have HRX:Hid (R=0):=hx
    clear hx hB
    go_wp2_with fail
    go_ret
    exact Ret.of (int_eq HRX.out.symm) HB.out
end Go.Proofs.YtmaidggpbihlgaaGreatDoor
