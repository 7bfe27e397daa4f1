import Derived.Test.YthhgkjfgpkbliaaGreatDoorE2
import Derived.Test.YthhgkjfgpkbliaaGreatDoorJQ
import Derived.Test.YthhgkjfgpkbliaaGreatDoorNE
set_option linter.all false
set_option maxRecDepth 100000
set_option maxHeartbeats 4000000
namespace Go.Proofs.YthhgkjfgpkbliaaGreatDoor
attribute [local go_sem] World.cell?_alloc_mark zae zav zai zaw zam zan zao zap zaq zar zas
attribute [local go_sem] zah zac
section
section
variable {P:Program} {t kt et:TypeId} {K:Type} {ek:K->Value} {z:Value} {eq:K->K->Bool} {w:World} {b:Nat} {m:List (K×Value)}
def StampAt(w:World)(b:Nat){K:Type}(ek:K->Value)(m:List (K×Value))(j st:Nat):Prop:=
 ∃es c,w.heap[b]?=some (.map es c)/\es.toList.map (fun e=>(e.key,e.val))=m.map (fun p=>(ek p.1,p.2))/\(∀e∈es.toList,e.born<c)/\(es.toList.map (·.born)).Nodup/\(es[j]?).map (·.born)=some st
theorem zfx(w:World)(b:Nat)(o:Obj):w.grownBy {w with heap:=w.heap.setIfInBounds b o} (some b):=
 ⟨rfl,rfl,rfl,by simp,fun i hi ag=>by
   have:b≠i:=fun e=>ag (by rw[e])
   simp[Array.getElem?_setIfInBounds,this]⟩
theorem zfM{w:World}{b:Nat}{es es':Array MapEntry}{c c':Nat}(h:w.heap[b]?=some (.map es c)):((setObj b (.map es' c')).run P w)=.ok () {w with heap:=w.heap.setIfInBounds b (.map es' c')}:=by
 simp[setObj,Sem.run,h]
theorem zfy(T:MapTy P t kt et ek (fun v:Value=>v) z eq)(h:MapS w b ek (fun v:Value=>v) m)(k:K):
 ∃w' x st m' j,(Instr.mapEntry t (.map (some b)) (ek k)).run P w=.ok (.tuple #[x,.int .i64 (st:Nat)]) w'/\StampAt w' b ek m' j st/\(∀v,m'.set j (k,v)=mput eq k v m)/\(m'[j]?).map (·.1)=some k/\w.grownBy w' (some b)/\w'.heap.size=w.heap.size:=by
 obtain⟨es,c,hh,hm,hb,hn⟩:=h;have h1:=T.hfind k es.toList m hm w;have aa:=(Array.getElem?_eq_some_iff.1 hh).1;cases hl:locate eq k m 0 with
 |none=>
  refine⟨_,z,c,m++[(k,z)],m.length,?_,?_,?_,by simp,zfx w b (.map (es.push {key:=ek k,val:=z,born:=c}) (c+1)),by simp⟩
  ·exact MaQ
  ·refine⟨es.push {key:=ek k,val:=z,born:=c},c+1,by simp[Array.getElem?_setIfInBounds,aa],?_,?_,?_,?_⟩
   ·simp[hm]
   ·exact Maf
   ·exact MZ
   ·exact MaY
  ·intro v;rw[zdE hl,List.set_append_right _ _ (Nat.le_refl _)];simp
 |some p=>
  obtain⟨j,u⟩:=p;obtain⟨_,q,hq,he,bq⟩:=zcY hl;simp only[Nat.sub_zero]at hq bq;have hj:j<m.length:=(List.getElem?_eq_some_iff.1 hq).1;have af:es.size=m.length:=Mce;have bZ:j<es.size:=MbC;have jI:(es[j]).key=ek q.1:=by
   exact Ma2
  have eK:(es[j]).val=q.2:=by
   have:=congrArg (fun l=>l[j]?) hm;simp[List.getElem?_map,hq,bZ]at this;exact this.2
  have bX:(es.modify j fun e=> {e with key:=ek k}).toList.map (·.born)=es.toList.map (·.born):=by
   exact MH
  refine⟨_,u,(es[j]).born,m.set j (k,q.2),j,?_,?_,?_,by simp[hj],zfx w b (.map (es.modify j fun e=> {e with key:=ek k}) c),by simp⟩
  ·exact Mai
  ·exact Mq
  ·intro v;rw[bq,List.set_set]
theorem zdk{j st:Nat}{k:K}(h:StampAt w b ek m j st)(hk:(m[j]?).map (·.1)=some k)(t:TypeId)(v:Value):
 ∃w',(Instr.entryStore t (.map (some b)) (.int .i64 (st:Nat)) v).run P w=.ok () w'/\MapS w' b ek (fun v:Value=>v) (m.set j (k,v))/\w.grownBy w' (some b)/\w'.heap.size=w.heap.size:=by
 obtain⟨es,c,hh,hm,hb,hn,am⟩:=h;have aa:=(Array.getElem?_eq_some_iff.1 hh).1;have af:es.size=m.length:=Mce;have bZ:j<es.size:=by
  by_cases h:j<es.size
  ·exact h
  ·rw[Array.getElem?_eq_none MbC]at am;cases am
 have hj:j<m.length:=MbC;rw[Array.getElem?_eq_getElem bZ]at am;simp only[Option.map_some,Option.some.injEq]at am;have sN:es.findIdx? (fun e=>(e.born:Int)==(st:Int))=some j:=by
  rw[Array.findIdx?_eq_some_iff_getElem];refine⟨bZ,by simp[am],fun i hi h=>?_⟩;have sR:i<es.size:=MbC;have h3:es[i].born=es[j].born:=by
   rw[am];simp only[beq_iff_eq]at h;exact Int.ofNat_inj.1 h
  have h4:=(List.nodup_iff_pairwise_ne.1 hn)
  rw[List.pairwise_iff_getElem]at h4;have:=h4 i j (by simpa using sR) (by simpa using bZ) hi;simp at this;exact this h3
 have bX:(es.modify j fun e=> {e with val:=v}).toList.map (·.born)=es.toList.map (·.born):=by
  exact MH
 refine⟨_,?_,?_,zfx w b (.map (es.modify j fun e=> {e with val:=v}) c),by simp⟩
 ·simp[Instr.entryStore,zbB hh,asInt,asIntOf,sN,zfM hh,Result.andThen]
 ·refine⟨es.modify j fun e=> {e with val:=v},c,by simp[Array.getElem?_setIfInBounds,aa],?_,?_,by rw[bX];exact hn⟩
  ·apply List.ext_getElem?;intro i;have gP:=congrArg (fun l=>l[i]?) hm;simp only[List.getElem?_map,Array.getElem?_toList]at gP;simp only[List.getElem?_map,Array.getElem?_toList,Array.getElem?_modify,List.getElem?_set];by_cases cL:j=i
   ·subst cL;rw[List.getElem?_eq_getElem hj]at hk gP;simp only[Option.map_some,Option.some.injEq]at hk;simp[bZ,hj,Array.getElem?_eq_getElem bZ,hk]at gP⊢;exact gP.1
   ·simp[cL,gP]
  ·intro e he;have h2:e.born∈(es.modify j fun e=> {e with val:=v}).toList.map (·.born):=List.mem_map.2 ⟨e,he,rfl⟩;exact Mbz
end
end
section
open Go.RowKit
theorem zjE(l:Parts)(h:∀p∈l,0<p.2)(k:Nat):sumQ (l.take k)<=sumQ l:=by
 induction l generalizing k with
 |nil=>simp
 |cons p l ih=>
  cases k with
  |zero=>
   have h1:0<=sumQ l:=by
    have:=ih (fun q hq=>h q Mcx) 0;simpa[sumQ]using this
   have:=h p MbF;rw[List.take_zero,sumQ,sumQ];grind
  |succ k=>
   have:=ih (fun q hq=>h q Mcx) k;rw[List.take_succ_cons,sumQ,sumQ];grind
structure WillInv (y:(Parts×Bool)×Rat):Prop where
 flag:y.1.2=false
 bd:Bd y.1.1 (1-y.2)
 isN:IsN 720720 y.2
 nn:0<=y.2
 le:y.2<=1
 small:zaD y.2
theorem ziN{s:St}{frm:ByteArray}{l:Parts}(hw:WillOk l)(k:Nat):WillInv (zc8 s frm (l.take k) ([],false) 1):=by
 have hp:∀p∈l.take k,0<p.2:=fun p hp=>hw.pos p (List.mem_of_mem_take hp)
 have hN:∀p∈l.take k,IsN 720720 p.2:=fun p hp=>hw.isN p (List.mem_of_mem_take hp)
 have h1:=zfs (s:=s) (frm:=frm) (rest:=1) hp hN zcU MbF;obtain⟨g1,g2,g3,g4,g5⟩:=zgN (s:=s) (frm:=frm) (out:=[]) (rest:=1) hp hN (Rat.le_trans (zjE l hw.pos k) hw.le) zcU MbF (zi4 _);rw[h1];have gs:zaC (zc2 s frm (l.take k) [] 1).1=false:=zcI MbD MbD g2;have hn:=zcC (fun p hp=>by have:=g1.pos p hp;grind) (l:=(zc2 s frm (l.take k) [] 1).1);have eF:sumQ ([]:Parts)=0:=rfl;rw[eF]at g5;have bF:(zc2 s frm (l.take k) [] 1).2<=1:=MbV;exact⟨rfl,⟨g1,gs,by grind⟩,g3,g4,bF,zcl g4 bF (zdA MbD MbD g3)⟩
theorem zjF{α:Type}{p q:α->Bool}:∀ {l:List α},(∀x∈l,p x=true->q x=true)->(∃x∈l,q x=true/\p x=false)->(l.filter p).length<(l.filter q).length
 | [],_,h=>by obtain⟨x,hx,_⟩:=h;cases hx
 |y::l,h1,h2=>by
  have bF:∀ {l:List α},(∀x∈l,p x=true->q x=true)->(l.filter p).length<=(l.filter q).length:=by
   intro l;induction l with
   |nil=>intro _;simp
   |cons z l ih=>
    intro h;have:=ih (fun x hx=>h x McG);cases hp:p z
    ·cases hq:q z<;>simp[hp,hq]<;>omega
    ·have hq:=h z MbF hp;simp[hp,hq];omega
  have hl:=bF (l:=l) (fun x hx=>h1 x McG);obtain⟨x,hx,h3,h4⟩:=h2;rcases List.mem_cons.1 hx with rfl|hx
  ·simp[h3,h4];omega
  ·have:=zjF (l:=l) (fun x hx=>h1 x McG) ⟨x,hx,h3,h4⟩;cases hp:p y
   ·cases hq:q y<;>simp[hp,hq]<;>omega
   ·have hq:=h1 y MbF hp;simp[hp,hq];omega
open Classical in
noncomputable def zjG (s:St) (n:ByteArray):Nat:=(s.children.filter fun e=>decide (e.1=n\/Desc s n e.1)).length
theorem zkQ{s:St}(ha:∀a,¬Desc s a a){n c:ByteArray}(hc:c∈zaf s n):zjG s c<zjG s n:=by
 unfold zjG;have hd:=zew hc;refine zjF (fun e _ h=>?_) ⟨(n,c),zcJ.1 hc,by simp,?_⟩
 ·simp only[decide_eq_true_eq]at h⊢;rcases h with h|h
  ·right;rw[h];exact hd
  ·right;exact zfB hd h
 ·simp only[decide_eq_false_iff_not,not_or];refine⟨fun e=>?_,fun h=>?_⟩
  ·have BZ:Desc s n n:=by
    have:=hd;rw[<-show n=c from e]at this;exact this
   exact ha n BZ
  ·exact ha n (zfB hd h)
theorem deep_of{s:St}(ha:∀a,¬Desc s a a):∀(f:Nat) (n:ByteArray),zjG s n<f->Deep s f n
 |0,_,h=>by omega
 |f+1,n,h=>fun c hc=>deep_of ha f c (by have:=zkQ ha hc;omega)
theorem deep_all{s:St}(ha:∀a,¬Desc s a a)(n:ByteArray):Deep s (zaX s) n:=deep_of ha _ n (by
 unfold zaX zjG
 exact Nat.lt_succ_of_le (List.length_filter_le _ _))
theorem part_big{q:Rat}(h0:0<q)(hb:bigQ q=false):1<=(1000000000:Rat)*q:=by
 unfold bigQ at hb;have hd:(q.den:Int)<=1000000000:=by simpa using hb
 have hz:((q.den:Int):Rat)≠0:=ratI (by have:=q.den_pos;omega);have h1:q=q.num/((q.den:Int):Rat):=by rw[<-Rat.divInt_eq_div,Rat.num_divInt_den]
 have kj:q*((q.den:Int):Rat)=q.num:=by
  have:=Rat.div_mul_cancel (a:=(q.num:Rat)) hz;rw[<-h1]at this;exact this
 have hq:0<q.num:=by have:=(Rat.lt_iff 0 q).1 h0;simpa using this
 have h2:((1:Int):Rat)<=(q.num:Rat):=Rat.intCast_le_intCast.2 hq;have h3:((q.den:Int):Rat)<=((1000000000:Int):Rat):=Rat.intCast_le_intCast.2 hd;have h4:=Rat.mul_le_mul_of_nonneg_left h3 (show(0:Rat)<=q by grind);rw[kj]at h4;have e1:((1:Int):Rat)=1:=rfl;have e2:((1000000000:Int):Rat)=1000000000:=rfl;rw[e1]at h2;rw[e2]at h4;grind
theorem zjH:∀ {l:Parts},(∀p∈l,0<p.2)->zaC l=false->(l.length:Rat)<=1000000000*sumQ l
 | [],_,_=>by
   have:((([]:Parts).length:Nat):Rat)=0:=rfl;rw[this,sumQ];grind
 |p::l,h1,h2=>by
  unfold zaC at h2;rw[List.any_cons,Bool.or_eq_false_iff]at h2;have h3:=part_big (h1 p MbF) h2.1;have h4:=zjH (l:=l) (fun q hq=>h1 q Mcx) h2.2;rw[List.length_cons,zht,sumQ];grind
theorem Bd.len{out:Parts}{t:Rat}(h:Bd out t)(ht:t<=1):out.length<=1000000000:=by
 have h1:=zjH h.good.pos h.small;have h2:=h.le;have h3:((out.length:Int):Rat)<=((1000000000:Int):Rat):=by
  have e2:((1000000000:Int):Rat)=1000000000:=rfl;rw[e2,Rat.intCast_natCast];grind
 have:=Rat.intCast_le_intCast.1 h3;omega
end
open Go.RowKit Go.Shelf
def intC(n:Nat):List Value:=[.int .i64 (n:Int)]
theorem zfz(n:Nat):(intC n).length=1:=rfl
theorem intC_one(n:Nat):∀u∈intC n,u.oneCell'=true:=by simp[intC,Value.oneCell']
theorem zf0(x:Rec):(Rec.cells x).length=8:=rfl
theorem recC_one(x:Rec):∀u∈Rec.cells x,u.oneCell'=true:=by simp[Rec.cells,Value.oneCell']
theorem elRec:ElTy Tryz.prog 124 123 8 88:=zcZ (z:=.agg #[.int .i64 0,.string ⟨#[]⟩,.string ⟨#[]⟩,.string ⟨#[]⟩,.int .i64 0,.int .i64 0,.int .i64 0,.int .i64 0]) MbE MbE rfl MbD
theorem of_snoc{l:List Rec}{set:List Nat}{k:Nat}(hk:k<set.length)(hl:set[k]<l.length):ofP l (set.take (k+1))=ofP l (set.take k)++[l[set[k]]]:=by
 unfold ofP;rw[List.take_succ_eq_append_getElem hk,List.filterMap_append];simp[List.getElem?_eq_getElem hl]
theorem of_len(l:List Rec)(set:List Nat):(ofP l set).length<=set.length:=List.length_filterMap_le _ _
theorem sl_rec{w:World}{b:Nat}{x:Rec}{t:TypeId}{fr:Nat×Nat}(h:w.heap[b]?=some (.cells (Rec.cells x).toArray t fr)):Sl w 8 Rec.cells (some ⟨b,0,none⟩) [x]:=fun _=>⟨b,0,rfl,zad h,fun k y hy j u hu=>by
 have hk:k=0:=MbK;subst hk;simp only[List.getElem?_cons_zero,Option.some.injEq]at hy;subst hy;simp only[World.cell?,h,Nat.zero_mul,Nat.zero_add,Nat.add_zero]
 simpa using hu⟩
theorem some_any(l:List Rec)(set:List Nat)(A:Option Addr)(c:Nat)(SA:Option Addr)(sc:Nat)(w:World)(hc:l.length<=c)(zd:set.length<=sc)(dr:set.length<=1000)(aB:∀i∈set,i<l.length)(hS:Sl w 8 Rec.cells A l)(hT:Sl w 1 intC SA set):
 Calls Tryz.prog 112 #[.slice A l.length c,.slice SA set.length sc] w (fun e w'=>∃v,e=.returned v/\OwnS w' w.heap.size 123 8 Rec.cells v (ofP l set)/\Below w.heap.size w w'):=by
 obtain⟨HS,HT,ba⟩:=yH3 hS hT aB;clear hS hT aB;go_enter Tryz.func112,Tryz.ntmps112
 go_wp2_with fail
 go_loopw [5,10] (fun v i wr=>∃k:Nat,k<=set.length/\i=.int .i64 k/\OwnS wr w.heap.size 123 8 Rec.cells v (ofP l (set.take k))/\Below w.heap.size w wr) (fun _ i _=>set.length-(intOf i).toNat)
 case atStart=>exact⟨0,Nat.zero_le _,rfl,OwnS.nil,Below.refl _ _⟩
 case round=>
  obtain⟨k,hk,rfl,ae,hB⟩:=hrel;obtain⟨VA,vc,rfl,_,mX⟩:=ae.sl zf0;obtain⟨HO,HB⟩:=yH2 ae hB;have aS:=hB.size;by_cases aa:k<set.length
  ·obtain⟨b,off,rfl,hb,ah⟩:=(HT.o.keep hB).at aa;have hi:=ba.o set[k] (List.getElem_mem aa);have bA:=of_snoc aa hi;have i0:wr.cell? ⟨b,off+k,none⟩=some (.int .i64 (set[k]:Int)):=McA;have kK:=of_len l (set.take k);rw[List.length_take]at kK;have ef:=zHi bA;clear bA ah;generalize set[k]=m at*;obtain⟨rb,roff,rfl,rh,jR⟩:=(HS.o.keep hB).at hi;have aq:=zHi aa;generalize l[m]=x at*;generalize ofP l (set.take k)=acc at*;obtain⟨kd,nm,ot,pl,dy,tl,nu,de⟩:=x;have j0:wr.cell? ⟨rb,roff+m*8,none⟩=some (.int .i64 kd):=jR 0 _ rfl;have j1:wr.cell? ⟨rb,roff+m*8+1,none⟩=some (.string nm):=jR 1 _ rfl;have j2:wr.cell? ⟨rb,roff+m*8+2,none⟩=some (.string ot):=jR 2 _ rfl;have j3:wr.cell? ⟨rb,roff+m*8+3,none⟩=some (.string pl):=jR 3 _ rfl;have j4:wr.cell? ⟨rb,roff+m*8+4,none⟩=some (.int .i64 dy):=jR 4 _ rfl;have j5:wr.cell? ⟨rb,roff+m*8+5,none⟩=some (.int .i64 tl):=jR 5 _ rfl;have j6:wr.cell? ⟨rb,roff+m*8+6,none⟩=some (.int .i64 nu):=jR 6 _ rfl;have j7:wr.cell? ⟨rb,roff+m*8+7,none⟩=some (.int .i64 de):=jR 7 _ rfl;have ao:(k:Int)<(set.length:Int):=MbC;have bf:(0:Int)<=(k:Int):=MbC;have eV:(k:Int)<=(sc:Int):=MbC;have gP:(m:Int)<(l.length:Int):=MbC;have nR:(0:Int)<=(m:Int):=MbC;have mI:(m:Int)<=(c:Int):=MbC;have hal:acc.length<=1000:=MbC;clear jR ae hB kK
   go_wp2_with (at_builtin
                go_loud(refine zaG (v:=.slice VA acc.length vc) (n:=acc.length) (m:=1) rfl _ _ rfl elRec zf0 recC_one rfl (xs:=acc) (ys:=[⟨kd,nm,ot,pl,dy,tl,nu,de⟩]) (HO.o.keep (n:=wr.heap.size) Bw) rfl rfl rfl (sl_rec (za3 _ _ _ rfl)) MbO MbC MbH ?_)
                intro v3 w3 h1 h2 h3;have bW:=Below.grown (B:=w.heap.size) (a:=w) (HB.o.trans (Below.mono (B:=wr.heap.size) (zau (Below.refl _ _) _) aS)) h2 MbH (fun j hj=>(HO.o.ge j hj).1);obtain⟨H1,bw⟩:=yH2 h1 bW
                clear h1 h2 h3 bW)
   go_round
   case rel=>exact⟨k+1,aq.o,by go_num,by rw[ef.o];exact H1.o,bw.o⟩
   case measure=>have:=aq.o;simp only[intOf];omega
  ·have ao:¬(k:Int)<(set.length:Int):=MbC;have yG:set.take k=set:=List.take_of_length_le MbC;clear ae;generalize br:ofP l (set.take k)=xs at*;rw[yG]at br;subst br;clear yG;go_wp2_with fail
   go_ret
   exact⟨_,rfl,HO.o,HB.o⟩
def cmpJ(a b:Int):Int:=if a<b then-1 else if b<a then 1 else 0
theorem nanJ_any(n:Int)(w:World):Calls Tryz.prog 177 #[.int .i64 n] w (Ret0 w (.bool false)):=by
 go_enter Tryz.func177,Tryz.ntmps177
 go_wp2
 go_ret
 exact⟨by simp,rfl⟩
theorem cmpJ_any(a b:Int)(w:World):Calls Tryz.prog 120 #[.int .i64 a,.int .i64 b] w (Ret0 w (.int .i64 (cmpJ a b))):=by
 have hX:a<b/\cmpJ a b= -1\/¬a<b/\b<a/\cmpJ a b=1\/¬a<b/\¬b<a/\cmpJ a b=0:=by
  unfold cmpJ;by_cases h:a<b
  ·exact .inl ⟨h,by simp[h]⟩
  ·by_cases h2:b<a
   ·exact .inr (.inl ⟨h,h2,by simp[h,h2]⟩)
   ·exact .inr (.inr ⟨h,h2,by simp[h,h2]⟩)
 rcases hX with⟨h1,hr⟩|⟨h1,h2,hr⟩|⟨h1,h2,hr⟩<;>rw[hr]<;>clear hr<;>
 (go_enter Tryz.func120,Tryz.ntmps120
  go_wp2_with (go_at_call 177;refine(nanJ_any _ _).mono ?_;rintro e wq ⟨rfl,rfl⟩)
  go_ret
  exact⟨rfl,rfl⟩)
def lexC:List Nat->List Nat->Int
 | [],[]=>0
 | [],_::_=> -1
 |_::_,[]=>1
 |a::x,b::y=>if a<b then-1 else if b<a then 1 else lexC x y
theorem zkR(a b:List Nat)(A B:Option Addr)(ac bc:Nat)(w:World)(ha:a.length<=ac)(hb:b.length<=bc)(ha2:a.length<=1000)(hS:Sl w 1 intC A a)(hT:Sl w 1 intC B b):
 Calls Tryz.prog 110 #[.slice A a.length ac,.slice B b.length bc] w (Ret0 w (.int .i64 (lexC a b))):=by
 obtain⟨HS,HT⟩:=yH2 hS hT;obtain⟨R,hR⟩:∃R,R=lexC (a.drop 0) (b.drop 0):=⟨_,rfl⟩
 rw[show lexC a b=R from by rw[hR];rfl];have HR:=zHi hR;clear hS hT hR;go_enter Tryz.func110,Tryz.ntmps110
 go_wp2_with fail
 go_loopw [11] (fun i wr=>∃k:Nat,k<=a.length/\k<=b.length/\i=.int .i64 k/\Hid (wr=w)/\Hid (R=lexC (a.drop k) (b.drop k))) (fun i _=>a.length-(intOf i).toNat)
 case atStart=>exact⟨0,Nat.zero_le _,Nat.zero_le _,rfl,rfl,HR.o⟩
 case round=>
  obtain⟨k,hk,eR,rfl,hw,HX⟩:=hrel;have hw:=hw.o;subst hw;have bf:(0:Int)<=(k:Int):=MbC;have hkA:(k:Int)<=(ac:Int):=MbC;have hkB:(k:Int)<=(bc:Int):=MbC;by_cases aa:k<a.length
  ·have ao:(k:Int)<(a.length:Int):=MbC;obtain⟨b1,o1,rfl,_,c1⟩:=HS.o.at aa;have i0:=c1 0 _ rfl;rw[Nat.mul_one,Nat.add_zero]at i0;by_cases aT:k<b.length
   ·have Cu:(k:Int)<(b.length:Int):=MbC;have qC:¬(b.length:Int)<=(k:Int):=MbC;obtain⟨b2,o2,rfl,_,c2⟩:=HT.o.at aT;have j0:=c2 0 _ rfl;rw[Nat.mul_one,Nat.add_zero]at j0;have hx:=HX.o;rw[List.drop_eq_getElem_cons aa,List.drop_eq_getElem_cons aT,lexC]at hx;obtain⟨aq,tT⟩:=yH2 aa aT;generalize a[k]=m at*;generalize b[k]=n at*;obtain⟨aK,HC⟩:=yH2 hx (fun W=>cmpJ_any m n W);clear hx c1 c2;by_cases h1:m<n
    ·have hc:cmpJ m n= -1:=by unfold cmpJ;rw[if_pos MbC]
     have aX:Hid (R= -1):=by show _=_;rw[aK.o,if_pos h1]
     exact Mam
    ·by_cases h2:n<m
     ·have hc:cmpJ m n=1:=by unfold cmpJ;rw[if_neg MbC,if_pos MbC]
      have aX:Hid (R=1):=by show _=_;rw[aK.o,if_neg h1,if_pos h2]
      exact Mam
     ·have hc:cmpJ m n=0:=by unfold cmpJ;rw[if_neg MbC,if_neg MbC]
      have aX:Hid (R=lexC (a.drop (k+1)) (b.drop (k+1))):=by show _=_;rw[aK.o,if_neg h1,if_neg h2]
      rw[hc]at HC;go_wp2_with (go_at_call 120;go_must(refine(HC.o _).mono ?_);rintro e wq ⟨rfl,rfl⟩)
      go_round
      case rel=>exact⟨k+1,aq.o,tT.o,by go_num,by first|exact True.intro|rfl,aX.o⟩
      case measure=>have:=aq.o;simp only[intOf];omega
   ·have qC:(b.length:Int)<=(k:Int):=MbC;have hx:=HX.o;rw[List.drop_eq_getElem_cons aa,show b.drop k=[]from List.drop_eq_nil_of_le MbC,lexC]at hx;have aX:Hid (R=1):=hx;clear hx c1;go_wp2_with fail
    exact Mau
  ·have ao:¬(k:Int)<(a.length:Int):=MbC;have hx:=HX.o;rw[show a.drop k=[]from List.drop_eq_nil_of_le MbC]at hx;by_cases aT:k<b.length
   ·have dj:(a.length:Int)<(b.length:Int):=MbC;rw[List.drop_eq_getElem_cons aT,lexC]at hx;have aX:Hid (R= -1):=hx;clear hx;go_wp2_with fail
    exact Mau
   ·have dj:¬(a.length:Int)<(b.length:Int):=MbC;rw[show b.drop k=[]from List.drop_eq_nil_of_le MbC,lexC]at hx;have aX:Hid (R=0):=hx;clear hx;go_wp2_with fail
    exact Mau
