import Derived.Shelf.SlSortCmp.NoneTotal
import Derived.Test.YtogklihlgindkaaGreatDoorJH
set_option linter.all false
set_option maxRecDepth 100000
set_option maxHeartbeats 4000000
namespace Go.Proofs.YtogklihlgindkaaGreatDoor
attribute [local go_sem] World.cell?_alloc_mark zaf za3 zam za6 zat zau zav zaw zax zay zaz
attribute [local go_sem] zao zac
section
open Go.RowKit
def zlF{l:Parts}(h:GoodParts l){n:ByteArray}{q:Rat}(m:ByteArray):zah (setP l n q) m=if zae m n then q else zah l m:=by
 have hw:=zbJ h (n:=n);have h0:zah (za0 l n) n=0:=by rw[zdB,zbV];rfl
 rw[ziz h.asc];by_cases hq:q==0
 ·rw[if_pos hq,zdB];have:q=0:=by simpa using hq
  rw[this]
 ·rw[if_neg hq,zix hw,h0,Rat.zero_add];cases hs:zae m n
  ·simp only[Bool.false_eq_true,if_false];rw[zdB,hs];rfl
  ·rfl
def eqS_same(a b:ByteArray):eqS a b=zae a b:=rfl
def zfl{V:Type}(k:ByteArray)(v:V)(n:ByteArray):∀m:List (ByteArray×V),mget eqS n (mput eqS k v m)=if zae n k then some v else mget eqS n m
 | []=>rfl
 |x::m=>by
  rw[mput];have lM:eqS k x.1=zae k x.1:=rfl;rw[lM];cases hk:zae k x.1
  ·rw[if_neg McV,mget,mget,zfl k v n m];have jP:eqS n x.1=zae n x.1:=rfl;rw[jP];cases hn:zae n x.1
   ·simp
   ·have LN:zae n k=false:=by
     rw[zcd];intro e;rw[za2]at hn;rw[zcd]at hk;exact hk (e▸hn)
    simp[LN]
  ·have lM:k=x.1:=za2.1 hk;rw[if_pos rfl,mget,mget];show(if zae n k=true then _ else _)=_;cases hn:zae n k
   ·have:eqS n x.1=false:=by rw[eqS_same,<-lM,hn]
    simp[this]
   ·simp
def zgx{V:Type}(k:ByteArray)(v:V):∀m:List (ByteArray×V),(m.map (·.1)).Nodup->((mput eqS k v m).map (·.1)).Nodup/\∀x∈(mput eqS k v m).map (·.1),x=k\/x∈m.map (·.1)
 | [],_=>by simp[mput]
 |x::m,h=>by
  rw[mput];have lM:eqS k x.1=zae k x.1:=rfl;rw[lM];rw[List.map_cons,List.nodup_cons]at h;cases hk:zae k x.1
  ·obtain⟨h1,h2⟩:=zgx k v m h.2;rw[if_neg McV,List.map_cons];refine⟨List.nodup_cons.2 ⟨λhx=>?_,h1⟩,λy hy=>?_⟩
   ·rcases h2 _ hx with e|e
    ·rw[e,zbV]at hk;cases hk
    ·exact h.1 e
   ·rcases List.mem_cons.1 hy with rfl|hy
    ·exact .inr McV
    ·rcases h2 y hy with e|e
     ·exact .inl e
     ·exact .inr (by simp[e])
  ·have e:k=x.1:=za2.1 hk;rw[if_pos rfl,List.map_cons];refine⟨List.nodup_cons.2 ⟨by rw[e];exact h.1,h.2⟩,λy hy=>?_⟩;rcases List.mem_cons.1 hy with rfl|hy
   ·exact .inl rfl
   ·exact .inr (by simp[hy])
def zdd{V:Type}{n:ByteArray}{v:V}:∀ {m:List (ByteArray×V)},mget eqS n m=some v->(n,v)∈m
 | [],h=>by simp[mget]at h
 |x::m,h=>by
  rw[mget]at h;have jP:eqS n x.1=zae n x.1:=rfl;rw[jP]at h;cases hn:zae n x.1
  ·rw[hn,if_neg McV]at h;exact List.mem_cons_of_mem _ (zdd h)
  ·rw[hn,if_pos rfl]at h;have e:=za2.1 hn;simp only[Option.some.injEq]at h;rw[e,<-h];exact List.mem_cons_self
def zhT{V:Type}{n:ByteArray}{v:V}:∀ {m:List (ByteArray×V)},(m.map (·.1)).Nodup->(n,v)∈m->mget eqS n m=some v
 | [],_,h=>by simp at h
 |x::m,hd,h=>by
  rw[List.map_cons,List.nodup_cons]at hd;rw[mget];have jP:eqS n x.1=zae n x.1:=rfl;rw[jP];rcases List.mem_cons.1 h with rfl|h
  ·rw[zbV,if_pos rfl]
  ·have ai:zae n x.1=false:=zcd.2 λe=>hd.1 (by rw[<-e];exact List.mem_map.2 ⟨_,h,rfl⟩)
   rw[ai,if_neg McV];exact zhT hd.2 h
end
section
section
variable {P:Program} {t kt et:TypeId} {K:Type} {ek:K->Value} {z:Value} {eq:K->K->Bool} {w:World} {b:Nat} {m:List (K×Value)}
def StampAt(w:World)(b:Nat){K:Type}(ek:K->Value)(m:List (K×Value))(j st:Nat):Prop:=
 ∃es c,w.heap[b]?=some (.map es c)/\es.toList.map (λe=>(e.key,e.val))=m.map (λp=>(ek p.1,p.2))/\(∀e∈es.toList,e.born<c)/\(es.toList.map (·.born)).Nodup/\(es[j]?).map (·.born)=some st
def zgy(w:World)(b:Nat)(o:Obj):w.grownBy {w with heap:=w.heap.setIfInBounds b o} (some b):=
 ⟨rfl,rfl,rfl,by simp,λi hi ai=>by
   have:b≠i:=λe=>ai (by rw[e])
   simp[Array.getElem?_setIfInBounds,this]⟩
def zhj{w:World}{b:Nat}{es es':Array MapEntry}{c c':Nat}(h:w.heap[b]?=some (.map es c)):((setObj b (.map es' c')).run P w)=.ok () {w with heap:=w.heap.setIfInBounds b (.map es' c')}:=by
 simp[setObj,Sem.run,h]
def zgz(T:MapTy P t kt et ek (λv:Value=>v) z eq)(h:MapS w b ek (λv:Value=>v) m)(k:K):
 ∃w' x st m' j,(Instr.mapEntry t (.map (some b)) (ek k)).run P w=.ok (.tuple #[x,.int .i64 (st:Nat)]) w'/\StampAt w' b ek m' j st/\(∀v,m'.set j (k,v)=mput eq k v m)/\(m'[j]?).map (·.1)=some k/\w.grownBy w' (some b)/\w'.heap.size=w.heap.size:=by
 obtain⟨es,c,hh,hm,hb,hn⟩:=h;have h1:=T.hfind k es.toList m hm w;have ae:=(Array.getElem?_eq_some_iff.1 hh).1;cases hl:locate eq k m 0 with
 |none=>
  refine⟨_,z,c,m++[(k,z)],m.length,?_,?_,?_,by simp,zgy w b (.map (es.push {key:=ek k,val:=z,born:=c}) (c+1)),by simp⟩
  ·exact MbK
  ·refine⟨es.push {key:=ek k,val:=z,born:=c},c+1,by simp[Array.getElem?_setIfInBounds,ae],?_,?_,?_,?_⟩
   ·simp[hm]
   ·exact Ma3
   ·exact Mau
   ·exact MbS
  ·intro v;rw[ze1 hl,List.set_append_right _ _ Qc];simp
 |some p=>
  obtain⟨j,u⟩:=p;obtain⟨_,q,hq,he,fC⟩:=zdL hl;simp only[Nat.sub_zero]at hq fC;have hj:j<m.length:=(List.getElem?_eq_some_iff.1 hq).1;have ag:es.size=m.length:=MdV;have ee:j<es.size:=McS;have pi:(es[j]).key=ek q.1:=by
   exact MbY
  have iZ:(es[j]).val=q.2:=by
   have:=congrArg (λl=>l[j]?) hm;simp[List.getElem?_map,hq,ee]at this;exact this.2
  have dX:(es.modify j λe=> {e with key:=ek k}).toList.map (·.born)=es.toList.map (·.born):=by
   exact M9
  refine⟨_,u,(es[j]).born,m.set j (k,q.2),j,?_,?_,?_,by simp[hj],zgy w b (.map (es.modify j λe=> {e with key:=ek k}) c),by simp⟩
  ·exact Ma5
  ·exact MM
  ·intro v;rw[fC,List.set_set]
def zdT{j st:Nat}{k:K}(h:StampAt w b ek m j st)(hk:(m[j]?).map (·.1)=some k)(t:TypeId)(v:Value):
 ∃w',(Instr.entryStore t (.map (some b)) (.int .i64 (st:Nat)) v).run P w=.ok () w'/\MapS w' b ek (λv:Value=>v) (m.set j (k,v))/\w.grownBy w' (some b)/\w'.heap.size=w.heap.size:=by
 obtain⟨es,c,hh,hm,hb,hn,aq⟩:=h;have ae:=(Array.getElem?_eq_some_iff.1 hh).1;have ag:es.size=m.length:=MdV;have ee:j<es.size:=by
  by_cases h:j<es.size
  ·exact h
  ·rw[Array.getElem?_eq_none McS]at aq;cases aq
 have hj:j<m.length:=McS;rw[Array.getElem?_eq_getElem ee]at aq;simp only[Option.map_some,Option.some.injEq]at aq;have AR:es.findIdx? (λe=>(e.born:Int)==(st:Int))=some j:=by
  rw[Array.findIdx?_eq_some_iff_getElem];refine⟨ee,by simp[aq],λi hi h=>?_⟩;have AV:i<es.size:=McS;have h3:es[i].born=es[j].born:=by
   rw[aq];simp only[beq_iff_eq]at h;exact Int.ofNat_inj.1 h
  have h4:=(List.nodup_iff_pairwise_ne.1 hn)
  rw[List.pairwise_iff_getElem]at h4;have:=h4 i j (by simpa using AV) (by simpa using ee) hi;simp at this;exact this h3
 have dX:(es.modify j λe=> {e with val:=v}).toList.map (·.born)=es.toList.map (·.born):=by
  exact M9
 refine⟨_,?_,?_,zgy w b (.map (es.modify j λe=> {e with val:=v}) c),by simp⟩
 ·simp[Instr.entryStore,zbY hh,asInt,asIntOf,AR,zhj hh,Result.andThen]
 ·refine⟨es.modify j λe=> {e with val:=v},c,by simp[Array.getElem?_setIfInBounds,ae],?_,?_,by rw[dX];exact hn⟩
  ·apply List.ext_getElem?;intro i;have iw:=congrArg (λl=>l[i]?) hm;simp only[List.getElem?_map,Array.getElem?_toList]at iw;simp only[List.getElem?_map,Array.getElem?_toList,Array.getElem?_modify,List.getElem?_set];by_cases ed:j=i
   ·subst ed;rw[List.getElem?_eq_getElem hj]at hk iw;simp only[Option.map_some,Option.some.injEq]at hk;simp[ee,hj,Array.getElem?_eq_getElem ee,hk]at iw⊢;exact iw.1
   ·simp[ed,iw]
  ·intro e he;have h2:e.born∈(es.modify j λe=> {e with val:=v}).toList.map (·.born):=List.mem_map.2 ⟨e,he,rfl⟩;exact McJ
end
end
section
open Go.RowKit Go.Shelf
def zlG:Go.Shelf.Ren:=⟨fun|6=>150|15=>50|14=>180|28=>92|29=>93|20=>195|21=>196|22=>197|23=>198|24=>199|25=>200|26=>201|27=>202|46=>215|47=>120|48=>121|49=>216|50=>217|57=>220|n=>n,fun|22=>36|24=>55|25=>205|3=>3|39=>114|0=>0|53=>149|55=>151|4=>4|46=>141|45=>140|50=>146|5=>5|9=>9|66=>174|70=>178|76=>209|77=>210|n=>n,fun|n=>n⟩
def zou:Go.Proofs.SlLaysF0.n6 Tryz.prog zlG:= {
 mixed:=by kernel_rfl
 f6:=⟨Tryz.f150.name,by decide,Tryz.func150.trans (congrArg some McT)⟩
 f14:=⟨Tryz.f180.name,by decide,Tryz.func180.trans (congrArg some McT)⟩
 f15:=Tryz.func50.trans (congrArg some McT)
 f20:=⟨Tryz.f195.name,by decide,Tryz.func195.trans (congrArg some McT)⟩
 f21:=⟨Tryz.f196.name,by decide,Tryz.func196.trans (congrArg some McT)⟩
 f22:=⟨Tryz.f197.name,by decide,Tryz.func197.trans (congrArg some McT)⟩
 f23:=⟨Tryz.f198.name,by decide,Tryz.func198.trans (congrArg some McT)⟩
 f24:=⟨Tryz.f199.name,by decide,Tryz.func199.trans (congrArg some McT)⟩
 f25:=⟨Tryz.f200.name,by decide,Tryz.func200.trans (congrArg some McT)⟩
 f26:=⟨Tryz.f201.name,by decide,Tryz.func201.trans (congrArg some McT)⟩
 f27:=⟨Tryz.f202.name,by decide,Tryz.func202.trans (congrArg some McT)⟩
 f28:=Tryz.func92.trans (congrArg some McT)
 f29:=Tryz.func93.trans (congrArg some McT)
 f46:=⟨Tryz.f215.name,by decide,Tryz.func215.trans (congrArg some McT)⟩
 f47:=Tryz.func120.trans (congrArg some McT)
 f48:=Tryz.func121.trans (congrArg some McT)
 f49:=⟨Tryz.f216.name,by decide,Tryz.func216.trans (congrArg some McT)⟩
 f50:=⟨Tryz.f217.name,by decide,Tryz.func217.trans (congrArg some McT)⟩
 f57:=⟨Tryz.f220.name,by decide,Tryz.func220.trans (congrArg some McT)⟩
 t0:=Tryz.underlying0
 a0:=Tryz.isAgg0
 z0:=Tryz.sizeOf0
 v0:=Tryz.zeroValue0
 t3:=Tryz.underlying3
 a3:=Tryz.isAgg3
 z3:=Tryz.sizeOf3
 v3:=Tryz.zeroValue3
 t4:=Tryz.underlying4
 a4:=Tryz.isAgg4
 z4:=Tryz.sizeOf4
 v4:=Tryz.zeroValue4
 t5:=Tryz.underlying5
 a5:=Tryz.isAgg5
 z5:=Tryz.sizeOf5
 v5:=Tryz.zeroValue5
 t9:=Tryz.underlying9
 a9:=Tryz.isAgg9
 z9:=Tryz.sizeOf9
 v9:=Tryz.zeroValue9
 t22:=Tryz.underlying36
 a22:=Tryz.isAgg36
 z22:=Tryz.sizeOf36
 v22:=Tryz.zeroValue36
 t25:=Tryz.underlying205
 a25:=Tryz.isAgg205
 z25:=Tryz.sizeOf205
 v25:=Tryz.zeroValue205
 t39:=Tryz.underlying114
 a39:=Tryz.isAgg114
 z39:=Tryz.sizeOf114
 v39:=Tryz.zeroValue114
 t45:=Tryz.underlying140
 a45:=Tryz.isAgg140
 z45:=Tryz.sizeOf140
 v45:=Tryz.zeroValue140
 t46:=Tryz.underlying141
 a46:=Tryz.isAgg141
 z46:=Tryz.sizeOf141
 v46:=Tryz.zeroValue141
 t50:=Tryz.underlying146
 a50:=Tryz.isAgg146
 z50:=Tryz.sizeOf146
 v50:=Tryz.zeroValue146
 t53:=Tryz.underlying149
 a53:=Tryz.isAgg149
 z53:=Tryz.sizeOf149
 v53:=Tryz.zeroValue149
 t55:=Tryz.underlying151
 a55:=Tryz.isAgg151
 z55:=Tryz.sizeOf151
 v55:=Tryz.zeroValue151
 t66:=Tryz.underlying174
 a66:=Tryz.isAgg174
 z66:=Tryz.sizeOf174
 v66:=Tryz.zeroValue174
 t70:=Tryz.underlying178
 a70:=Tryz.isAgg178
 z70:=Tryz.sizeOf178
 v70:=Tryz.zeroValue178
 t76:=Tryz.underlying209
 a76:=Tryz.isAgg209
 z76:=Tryz.sizeOf209
 v76:=Tryz.zeroValue209
 t77:=Tryz.underlying210
 a77:=Tryz.isAgg210
 z77:=Tryz.sizeOf210
 v77:=Tryz.zeroValue210}
end
section
open Go.RowKit
def rAbs_any(n:Int)(w:World)(h:n.natAbs<=4611686018427387904):Calls Tryz.prog 155 #[.int .i64 n] w (Ret0 w (.int .i64 (n.natAbs:Int))):=by
 have h0: -4611686018427387904<=n:=McS;have h1:n<=4611686018427387904:=McS;have hw:IntKind.i64.wrap (-n)= -n:=Mdv;clear h;go_enter Tryz.func155,Tryz.ntmps155
 by_cases h:n<0
 ·go_wp2_with fail
  go_ret
  exact⟨by rw[show((n.natAbs:Nat):Int)= -n by omega];first|rfl|(show Ending.returned (Value.int .i64 (max n (-n)))=_;rw[show max n (-n)= -n by omega]),rfl⟩
 ·by_cases h2:n=0
  ·subst h2;exact MaS
  ·go_wp2_with fail
   go_ret
   exact⟨by rw[show((n.natAbs:Nat):Int)=n by omega];first|rfl|(show Ending.returned (Value.int .i64 (max n (-n)))=_;rw[show max n (-n)=n by omega]),rfl⟩
def zov(a b:Int)(w:World)(ha:a.natAbs<=4611686018427387904)(hb:b.natAbs<=4611686018427387904):Calls Tryz.prog 124 #[.int .i64 a,.int .i64 b] w (Ret w (.int .i64 (Int.gcd a b))):=by
 go_enter Tryz.func124,Tryz.ntmps124
 go_wp2_with fail
 go_loopw [0,1] (λx y wr=>∃p q:Int,x=.int .i64 p/\y=.int .i64 q/\p.natAbs<=4611686018427387904/\q.natAbs<=4611686018427387904/\Hid (Int.gcd a b=Int.gcd p q)/\∃z,wr=w.ext z) (λ_ y _=>(intOf y).natAbs)
 case atStart=>exact⟨a,b,rfl,rfl,ha,hb,rfl,zaP Qb⟩
 case round=>
  obtain⟨p,q,rfl,rfl,hp,hq,HG,z,rfl⟩:=hrel;by_cases hz:q=0
  ·subst hz;have HP:=zHi hp;clear hp hq;go_wp2_with (go_at_call 155;go_must(refine(rAbs_any _ _ HP.o).mono ?_);rintro e wq ⟨rfl,rfl⟩)
   go_ret
   exact Ret.of (zb7 (by rw[HG.o];simp[Int.gcd])) Bw
  ·have eT:(q==0)=false:=by simp[hz]
   have hm:=tmod_lt p q hz;have hG:=zHi (znY p q);have uO:IntKind.i64.wrap (p.tmod q)=p.tmod q:=IntWalk.i64_in _ McS;go_wp2_with fail
   go_quiet (fail)
   go_wp2_with fail
   all_goals(first
    |(go_round
      case rel=>exact⟨q,p.tmod q,rfl,rfl,hq,by omega,by show _=_;rw[HG.o,hG.o],zaP Bw⟩
      case measure=>simp only[intOf];omega))
def zeG(a b:Int)(w:World)(ha:a.natAbs<=4611686018427387904)(ba:0<b)(hb:b<=4611686018427387904):Calls Tryz.prog 183 #[.int .i64 a,.int .i64 b] w (Ret w (zaA (Rat.divInt a b))):=by
 have hg:=znZ (a:=a) ba;obtain⟨g,HG⟩:∃g:Int,g=(Int.gcd a b:Int):=⟨_,rfl⟩
 have pa:0<g:=McS;have sR:(g==0)=false:=McX;have e1:a.tdiv g=(Rat.divInt a b).num:=by rw[zfz ba,HG,zen (Int.gcd_dvd_left ..)]
 have e2:b.tdiv g=((Rat.divInt a b).den:Int):=by rw[zem ba,HG,zen (Int.gcd_dvd_right ..)]
 have n1:(a.tdiv g).natAbs<=4611686018427387904:=Nat.le_trans (Int.natAbs_tdiv_le_natAbs _ _) ha;have n2:(b.tdiv g).natAbs<=4611686018427387904:=Nat.le_trans (Int.natAbs_tdiv_le_natAbs _ _) McS;have w1:wrap64 (a.tdiv g)=a.tdiv g:=by unfold wrap64;omega
 have w2:wrap64 (b.tdiv g)=b.tdiv g:=by unfold wrap64;omega
 have HA:=zHi ha;have ip:b.natAbs<=4611686018427387904:=McS;have KP:¬b<0:=McS;obtain⟨HB,E1,E2⟩:=yH3 ip e1 e2;clear ha hb ba hg e1 e2 n1 n2 ip;go_enter Tryz.func183,Tryz.ntmps183
 go_wp2_with (go_at_call 124;refine(zov _ _ _ HA.o HB.o).mono ?_;rintro e w1 ⟨rfl,z1,rfl⟩;rw[<-HG])
 go_region
 go_wp2_with fail
 refine bodyPost_ret (v:=zaA (Rat.divInt a b)) ?_ rfl ?_
 ·refine zaZ rfl _ _ w.heap.size _ _ rfl ?_ ?_
  ·rw[<-E1.o];simp[go_sem];rw[<-HG];exact w1
  ·rw[<-E2.o];simp[go_sem];rw[<-HG];exact w2
 ·exact Ret.of rfl Bw
def rAddI(a b c d:Int)(w:World)(ha:a.natAbs<=1000000000)(hb:b.natAbs<=1000000000)(hc:c.natAbs<=1000000000)(hd:d.natAbs<=1000000000)(ba:0<b)(iK:0<d)(_h:True):Calls Tryz.prog 157 #[.agg #[.int .i64 a,.int .i64 b],.agg #[.int .i64 c,.int .i64 d]] w (Ret w (zaA (Rat.divInt (a*d+c*b) (b*d)))):=by
 have m1:=zaQ ha hd;have m2:=zaQ hc hb;have m3:=zaQ hb hd;have m4:0<b*d:=Int.mul_pos ba iK;obtain⟨m1,n1⟩:=m1;obtain⟨m2,n2⟩:=m2;obtain⟨m3,n3⟩:=m3;have w1:IntKind.i64.wrap (a*d)=a*d:=IntWalk.i64_in _ McS;have w2:IntKind.i64.wrap (c*b)=c*b:=IntWalk.i64_in _ McS;have w3:IntKind.i64.wrap (b*d)=b*d:=IntWalk.i64_in _ McS;have m5:=zaQ ha hc;obtain⟨m5,n5⟩:=m5;have m6:=zaQ hb hc;obtain⟨m6,n6⟩:=m6;have w5:IntKind.i64.wrap (a*c)=a*c:=IntWalk.i64_in _ McS;have w6:IntKind.i64.wrap (b*c)=b*c:=IntWalk.i64_in _ McS;have hs:(a*d+c*b).natAbs<=4611686018427387904:=McS;have hl:(b*d)<=4611686018427387904:=McS;have h4:0<(b*d):=m4;obtain⟨HS,HL,H4⟩:=yH3 hs hl h4;clear hs hl m4 h4 ha hb hc hd;go_enter Tryz.func157,Tryz.ntmps157
 go_wp2_with (go_at_call 183;go_must(refine(zeG _ _ _ HS.o H4.o HL.o).mono ?_);rintro e w1 ⟨rfl,z1,rfl⟩;simp only[zaA])
 refine bodyPost_ret (v:=zaA (Rat.divInt (a*d+c*b) (b*d))) ?_ rfl ?_
 ·exact MaI
 ·exact Ret.of rfl Bw
def zow(p q:Rat)(w:World)(cw:zaJ p)(dR:zaJ q):Calls Tryz.prog 157 #[zaA p,zaA q] w (Ret w (zaA (p+q))):=by
 rw[zjB];exact rAddI _ _ _ _ _ cw.1 (by have:=cw.2;omega) dR.1 (by have:=dR.2;omega) (zbU p) (zbU q) trivial
def rSubI(a b c d:Int)(w:World)(ha:a.natAbs<=1000000000)(hb:b.natAbs<=1000000000)(hc:c.natAbs<=1000000000)(hd:d.natAbs<=1000000000)(ba:0<b)(iK:0<d)(_h:True):Calls Tryz.prog 164 #[.agg #[.int .i64 a,.int .i64 b],.agg #[.int .i64 c,.int .i64 d]] w (Ret w (zaA (Rat.divInt (a*d-c*b) (b*d)))):=by
 have m1:=zaQ ha hd;have m2:=zaQ hc hb;have m3:=zaQ hb hd;have m4:0<b*d:=Int.mul_pos ba iK;obtain⟨m1,n1⟩:=m1;obtain⟨m2,n2⟩:=m2;obtain⟨m3,n3⟩:=m3;have w1:IntKind.i64.wrap (a*d)=a*d:=IntWalk.i64_in _ McS;have w2:IntKind.i64.wrap (c*b)=c*b:=IntWalk.i64_in _ McS;have w3:IntKind.i64.wrap (b*d)=b*d:=IntWalk.i64_in _ McS;have m5:=zaQ ha hc;obtain⟨m5,n5⟩:=m5;have m6:=zaQ hb hc;obtain⟨m6,n6⟩:=m6;have w5:IntKind.i64.wrap (a*c)=a*c:=IntWalk.i64_in _ McS;have w6:IntKind.i64.wrap (b*c)=b*c:=IntWalk.i64_in _ McS;have hs:(a*d-c*b).natAbs<=4611686018427387904:=McS;have hl:(b*d)<=4611686018427387904:=McS;have h4:0<(b*d):=m4;obtain⟨HS,HL,H4⟩:=yH3 hs hl h4;clear hs hl m4 h4 ha hb hc hd;go_enter Tryz.func164,Tryz.ntmps164
 go_wp2_with (go_at_call 183;go_must(refine(zeG _ _ _ HS.o H4.o HL.o).mono ?_);rintro e w1 ⟨rfl,z1,rfl⟩;simp only[zaA])
 refine bodyPost_ret (v:=zaA (Rat.divInt (a*d-c*b) (b*d))) ?_ rfl ?_
 ·exact MaI
 ·exact Ret.of rfl Bw
def zhU(p q:Rat)(w:World)(cw:zaJ p)(dR:zaJ q):Calls Tryz.prog 164 #[zaA p,zaA q] w (Ret w (zaA (p-q))):=by
 rw[zjC];exact rSubI _ _ _ _ _ cw.1 (by have:=cw.2;omega) dR.1 (by have:=dR.2;omega) (zbU p) (zbU q) trivial
def ziK(w:World):Calls Tryz.prog 156 #[] w (Ret w (.agg #[.int .i64 0,.int .i64 1])):=by
 go_enter Tryz.func156,Tryz.ntmps156
 go_wp2_with fail
 refine bodyPost_ret (v:=.agg #[.int .i64 0,.int .i64 1]) ?_ rfl ?_
 ·exact Mb5
 ·exact Ret.of rfl Bw
end
open Go.RowKit Go.Shelf
def rMulI(a b c d:Int)(w:World)(ha:a.natAbs<=1000000000)(hb:b.natAbs<=1000000000)(hc:c.natAbs<=1000000000)(hd:d.natAbs<=1000000000)(ba:0<b)(iK:0<d)(_h:True):Calls Tryz.prog 163 #[.agg #[.int .i64 a,.int .i64 b],.agg #[.int .i64 c,.int .i64 d]] w (Ret w (zaA (Rat.divInt (a*c) (b*d)))):=by
 have m1:=zaQ ha hd;have m2:=zaQ hc hb;have m3:=zaQ hb hd;have m4:0<b*d:=Int.mul_pos ba iK;obtain⟨m1,n1⟩:=m1;obtain⟨m2,n2⟩:=m2;obtain⟨m3,n3⟩:=m3;have w1:IntKind.i64.wrap (a*d)=a*d:=IntWalk.i64_in _ McS;have w2:IntKind.i64.wrap (c*b)=c*b:=IntWalk.i64_in _ McS;have w3:IntKind.i64.wrap (b*d)=b*d:=IntWalk.i64_in _ McS;have m5:=zaQ ha hc;obtain⟨m5,n5⟩:=m5;have m6:=zaQ hb hc;obtain⟨m6,n6⟩:=m6;have w5:IntKind.i64.wrap (a*c)=a*c:=IntWalk.i64_in _ McS;have w6:IntKind.i64.wrap (b*c)=b*c:=IntWalk.i64_in _ McS;have hs:(a*c).natAbs<=4611686018427387904:=McS;have hl:(b*d)<=4611686018427387904:=McS;have h4:0<(b*d):=m4;obtain⟨HS,HL,H4⟩:=yH3 hs hl h4;clear hs hl m4 h4 ha hb hc hd;go_enter Tryz.func163,Tryz.ntmps163
 go_wp2_with (go_at_call 183;go_must(refine(zeG _ _ _ HS.o H4.o HL.o).mono ?_);rintro e w1 ⟨rfl,z1,rfl⟩;simp only[zaA])
 refine bodyPost_ret (v:=zaA (Rat.divInt (a*c) (b*d))) ?_ rfl ?_
 ·exact MaI
 ·exact Ret.of rfl Bw
def zg0(p q:Rat)(w:World)(cw:zaJ p)(dR:zaJ q):Calls Tryz.prog 163 #[zaA p,zaA q] w (Ret w (zaA (p*q))):=by
 rw[zgS];exact rMulI _ _ _ _ _ cw.1 (by have:=cw.2;omega) dR.1 (by have:=dR.2;omega) (zbU p) (zbU q) trivial
def zhC(l:Parts)(n:ByteArray)(k:Nat):Int:=match(l.drop k).findIdx? λp=>zae p.1 n with
 |none=> -1
 |some i=>((k+i:Nat):Int)
variable{l:Parts}{n:ByteArray}{k:Nat}
def zph(h:k<l.length):zhC l n k=if zae l[k].1 n then(k:Int)else zhC l n (k+1):=by
 unfold zhC;rw[List.drop_eq_getElem_cons h,List.findIdx?_cons];cases hs:zae l[k].1 n
 ·rw[if_neg McV,if_neg McV];cases(l.drop (k+1)).findIdx? λp=>zae p.1 n with
  |none=>rfl
  |some i=>
   simp only[Option.map_some];omega
 ·rw[if_pos rfl,if_pos rfl];simp
def partI_end(h:¬k<l.length):zhC l n k= -1:=by
 unfold zhC;rw[List.drop_of_length_le McS];rfl
def zni(l:Parts)(n:ByteArray):(zhC l n 0= -1/\zah l n=0)\/∃(i:Nat) (h:i<l.length),zhC l n 0=(i:Int)/\zah l n=l[i].2:=by
 unfold zhC zah;rw[List.drop_zero];cases hx:l.findIdx? λp=>zae p.1 n with
 |none=>
  refine .inl ⟨rfl,?_⟩;rw[List.findIdx?_eq_none_iff]at hx;have:l.find? (λp=>zae p.1 n)=none:=by
   rw[List.find?_eq_none];intro p hp;rw[hx p hp];simp
  rw[this];rfl
 |some i=>
  rw[List.findIdx?_eq_some_iff_getElem]at hx;obtain⟨hi,h1,h2⟩:=hx;refine .inr ⟨i,hi,by simp,?_⟩;have:l.find? (λp=>zae p.1 n)=some l[i]:=by
   rw[List.find?_eq_some_iff_getElem];exact⟨h1,i,hi,rfl,λj hj=>by simpa using h2 j hj⟩
  rw[this];rfl
def rPart_any(l:Parts)(n:ByteArray)(A:Option Addr)(c:Nat)(w:World)(hl:l.length<=1000000000)(hS:Sl w 3 zaa A l):Calls Tryz.prog 185 #[.slice A l.length c,.string n] w (Ret0 w (.int .i64 (zhC l n 0))):=by
 have HS:=zHi hS;obtain⟨R,hR⟩:=Qd (zhC l n 0)
 rw[<-hR];have HR:=zHi hR;clear hS hR;go_enter Tryz.func185,Tryz.ntmps185
 go_upto_region 2 with fail
 go_loopw [5] (λi wr=>∃k:Nat,k<=l.length/\i=.int .i64 k/\w=wr/\Hid (R=zhC l n k)) (λi _=>l.length-(intOf i).toNat)
 case atStart=>exact⟨0,Nat.zero_le _,rfl,rfl,HR.o⟩
 case round=>
  obtain⟨k,hk,rfl,rfl,HX⟩:=hrel;by_cases ae:k<l.length
  ·obtain⟨b,off,rfl,hb,ah⟩:=HS.o.at ae;have hx:=HX.o;rw[zph ae]at hx;obtain⟨aw,aj⟩:=yH2 hx ae;generalize l[k]=x at*;obtain⟨nm,q⟩:=x;have i0:w.cell? ⟨b,off+k*3,none⟩=some (.string nm):=ah 0 _ rfl;have au:(k:Int)<(l.length:Int):=McS;have aR:(0:Int)<=(k:Int):=McS;clear ah hx ae;cases hs:zae nm n
   ·have HE:Hid (R=zhC l n (k+1)):=by show _=_;rw[aw.o,hs];rfl
    have bi:(nm.toList==n.toList)=false:=hs;go_wp2_with fail
    exact ML
   ·have HE:Hid (R=(k:Int)):=by show _=_;rw[aw.o,hs];rfl
    have bi:(nm.toList==n.toList)=true:=hs;exact Mac
  ·have au:¬(k:Int)<(l.length:Int):=McS;have HE:Hid (R= -1):=by show _=_;rw[HX.o,partI_end ae]
   exact Mac
def zfm(l:Parts)(n:ByteArray)(A:Option Addr)(c:Nat)(w:World)(hl:l.length<=1000000000)(hS:Sl w 3 zaa A l):Calls Tryz.prog 161 #[.slice A l.length c,.string n] w (Ret w (zaA (zah l n))):=by
 have HP:=zHi (λW (h:Qa w W)=>rPart_any l n A c W hl (hS.keep h));rcases zni l n with⟨h1,h2⟩|⟨i,hi,h1,h2⟩
 ·rw[h1]at HP;rw[h2];clear hS;go_enter Tryz.func161,Tryz.ntmps161
  go_wp2_with (first
   |(go_at_call 185;go_must(refine(HP.o _ Bw).mono ?_);rintro e wq ⟨rfl,rfl⟩)
   |(go_at_call 156;go_must(refine(ziK _).mono ?_);rintro e wq ⟨rfl,z,rfl⟩))
  refine bodyPost_ret (v:=zaA 0) ?_ rfl ?_
  ·exact McE
  ·exact Ret.of rfl Bw
 ·rw[h1]at HP;rw[h2];obtain⟨b,off,rfl,hb,ah⟩:=hS.at hi;generalize l[i]=x at*;obtain⟨nm,q⟩:=x;have i1:w.cell? ⟨b,off+i*3+1,none⟩=some (.int .i64 q.num):=ah 1 _ rfl;have i2:w.cell? ⟨b,off+i*3+2,none⟩=some (.int .i64 q.den):=ah 2 _ rfl;have au:(i:Int)<(l.length:Int):=McS;have aR:(0:Int)<=(i:Int):=McS;clear hS ah h1 h2;go_enter Tryz.func161,Tryz.ntmps161
  go_wp2_with (go_at_call 185;go_must(refine(HP.o _ Bw).mono ?_);rintro e wq ⟨rfl,rfl⟩)
  refine bodyPost_ret (v:=zaA q) ?_ rfl ?_
  ·exact McE
  ·exact Ret.of rfl Bw
