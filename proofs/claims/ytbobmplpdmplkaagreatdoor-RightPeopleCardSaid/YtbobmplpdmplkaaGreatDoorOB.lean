import Derived.Test.YtbobmplpdmplkaaGreatDoorOA
import Derived.Test.YtbobmplpdmplkaaGreatDoorE1
set_option linter.all false
set_option maxRecDepth 100000
set_option maxHeartbeats 4000000
namespace Go.Proofs.YtbobmplpdmplkaaGreatDoor
open Go.RowKit
attribute [local go_sem] World.cell?_alloc_mark zaf za4 zam za7 zaw zax zay zaz za0 za1 za2
attribute [local go_sem] zan zac
structure FewS (k:Nat) (s:St):Prop where
 graves:s.graves.length<=k
 kids:s.children.length<=k
 marr:s.marriages.length<=k
 dead:s.dead.length<=k
 ren:s.renounce.length<=k
 wills:∀n,(zbw s n).length<=8
 held:∀g∈s.graves,g.holders.length<=80*k/\g.died.length<=k/\g.fin<=200000
theorem zkA(day years:Int):zcd day years<=200000:=by
 unfold zcd zbR;simp only;split
 ·decide
 ·split
  ·rename_i h
   have:=(zfu.1 h).2;omega
  ·decide
theorem zg7:FewS 0 zb3:=⟨Nat.le_refl _,Nat.le_refl _,Nat.le_refl _,Nat.le_refl _,Nat.le_refl _,fun n=>by simp[zb3,zbw],by simp[zb3]⟩
theorem FewS.up{k:Nat}{s:St}(h:FewS k s):FewS (k+1) s:=
 ⟨Nat.le_succ_of_le h.graves,Nat.le_succ_of_le h.kids,Nat.le_succ_of_le h.marr,Nat.le_succ_of_le h.dead,Nat.le_succ_of_le h.ren,h.wills,fun g hg=>by have:=h.held g hg;exact⟨by omega,by omega,this.2.2⟩⟩
theorem zdQ(l:Parts)(n:ByteArray):(zas l n).length<=l.length:=List.length_filter_le _ _
theorem zkB{own:Rat}:∀ {l out o:Parts},zb6 own l out=some o->o.length<=out.length+l.length
 | [],out,o,h=>by
   rw[zb6]at h;cases h;simp
 |p::l,out,o,h=>by
  rw[zb6]at h;split at h
  ·cases h
  split at h
  ·cases h
  have:=zkB h;have h2:=zcx p.1 (own*p.2) out;simp;omega
theorem FewS.withG{k:Nat}{s:St}{i:Nat}{g g':Grave}(h:FewS k s)(hi:s.graves[i]?=some g)(h1:g'.holders.length<=80*k+80)(h2:g'.died.length<=k+1)(h3:g'.fin<=200000):FewS (k+1) (s.withGrave i g'):=by
 refine {h.up with graves:= ?_,held:=fun x hx=>?_}
 ·unfold St.withGrave;simp only[List.length_set];exact Nat.le_succ_of_le h.graves
 ·unfold St.withGrave at hx;rcases List.mem_or_eq_of_mem_set hx with hx|rfl
  ·exact h.up.held x hx
  ·exact⟨by omega,h2,h3⟩
theorem zjK{s:St}{pl:ByteArray}{day:Int}{i:Nat}(h:zaR s pl day=some i):∃g,s.graves[i]?=some g/\s.graves.getD i zga=g/\g∈s.graves:=by
 obtain⟨g,h1,_⟩:=zce h;exact⟨g,h1,zfv h1,List.mem_of_getElem? h1⟩
theorem zkC{laws:List Law}{s s':St}{d:Deed}{last:Int}{k:Nat}(h:FewS k s)(hk:k<60)(hG:GoodSt s last)(hd:OkD d)(hl:last<=d.day)(bz:zaD laws=0)(ht:zbq laws s d=(s',0)):FewS (k+1) s':=by
 have nO:=hd.len;have bS:=hd.kind;unfold zbq at ht;split at ht
 ·unfold zcO at ht;split at ht
  ·simp at ht
  split at ht
  ·simp at ht
  split at ht
  ·simp at ht
  simp only[Prod.mk.injEq,and_true]at ht;rw[<-ht];refine {h.up with graves:= ?_,held:=fun g hg=>?_}
  ·have:=h.graves;simp;omega
  ·rcases List.mem_append.1 hg with hg|hg
   ·exact h.up.held g hg
   ·rw[List.mem_singleton.1 hg];have:=zff d.to [];simp only[List.length_nil]at this⊢;refine⟨by omega,Nat.zero_le _,?_⟩;split
    ·exact zkA _ _
    ·decide
 split at ht
 ·unfold zbp at ht;split at ht
  ·simp at ht
  rename_i i hi
  obtain⟨g,bB,cy,sb⟩:=zjK hi;rw[cy]at ht;simp only at ht;split at ht
  ·simp at ht
  split at ht
  ·simp at ht
  split at ht
  ·simp at ht
  split at ht
  ·simp at ht
  split at ht
  ·simp at ht
  rename_i out ho
  simp only[Prod.mk.injEq,and_true]at ht;rw[<-ht];have h1:=zkB ho;have h2:=zcx d.frm (zag g.holders d.frm*(1-sumQ (zao d.to))) (zas g.holders d.frm);have h3:=zdQ g.holders d.frm;have h4:=h.held g sb;have h5:(zao d.to).length=d.to.length:=by unfold zao;simp
  exact h.withG bB MdY MdY MdY
 split at ht
 ·unfold zaZ at ht;split at ht
  ·simp at ht
  rename_i i hi
  obtain⟨g,bB,cy,sb⟩:=zjK hi;rw[cy]at ht;simp only at ht;split at ht
  ·simp at ht
  split at ht
  ·simp at ht
  simp only[Prod.mk.injEq,and_true]at ht;rw[<-ht];have h3:=zdQ g.holders d.frm;have h4:=h.held g sb;exact h.withG bB (by simp only[List.length_map];omega) MdY MdY
 split at ht
 ·unfold zcZ at ht;split at ht
  ·simp at ht
  rename_i i hi
  obtain⟨g,bB,cy,sb⟩:=zjK hi;rw[cy]at ht;simp only at ht;split at ht
  ·simp at ht
  split at ht
  ·simp at ht
  simp only[Prod.mk.injEq,and_true]at ht;rw[<-ht];have h4:=h.held g sb;exact h.withG bB MdY MdY (zkA _ _)
 split at ht
 ·unfold zgK at ht;split at ht
  ·simp at ht
  simp only[Prod.mk.injEq,and_true]at ht;rw[<-ht];refine {h.up with wills:=fun n=>?_};rw[zfJ];split
  ·unfold zao;simpa using nO
  ·exact h.wills n
 split at ht
 ·unfold zb7 at ht;split at ht
  ·simp at ht
  split at ht
  ·simp at ht
  simp only[Prod.mk.injEq,and_true]at ht;rw[<-ht];exact {h.up with ren:=by have:=h.ren;simp;omega}
 split at ht
 ·unfold zcE at ht;split at ht
  ·simp at ht
  split at ht
  ·simp at ht
  split at ht
  ·simp at ht
  simp only[Prod.mk.injEq,and_true]at ht;rw[<-ht];exact {h.up with kids:=by have:=h.kids;simp;omega}
 split at ht
 ·unfold zdq at ht;split at ht
  ·simp at ht
  split at ht
  ·simp at ht
  simp only[Prod.mk.injEq,and_true]at ht;rw[<-ht];exact {h.up with marr:=by have:=h.marr;simp;omega}
 ·unfold zdH at ht;split at ht
  ·simp at ht
  split at ht
  ·simp at ht
  rename_i gs aI
  simp only[Prod.mk.injEq,and_true]at ht;rw[<-ht];obtain⟨ag,gT⟩:=zmw aI;refine {h.up with graves:=by have:=h.graves;simp only;omega,dead:=by have:=h.dead;simp;omega,held:=fun x hx=>?_};obtain⟨i,hi⟩:=List.mem_iff_getElem?.1 hx;obtain⟨g,g1,g2⟩:=gT i x hi;have h4:=h.held g (List.mem_of_getElem? g1);rcases g2 with⟨rfl,_⟩|⟨_,hs,out,e1,e2,rfl⟩
  ·exact h.up.held x (List.mem_of_getElem? g1)
  ·have h1:=zkB e2;have h3:=zdQ g.holders d.frm;have bA:=zeW bz d.day;have bN:=ze3 (hG.wills d.frm) bA e1;have jo:=(zfN (s:=s) (n:=d.frm) (hG.wills d.frm) bA).1 hs e1;have kZ:=ziK (s:=s) (law:=zba laws d.day) (n:=d.frm) (by rw[jo];exact bN.1);rw[jo]at kZ;have:=h.wills d.frm;have:=h.kids;simp only[List.length_append,List.length_singleton]at*;exact⟨by omega,by omega,h4.2.2⟩
theorem zoT(a b:ByteArray):zae a b=zae b a:=by
 rw[Bool.eq_iff_iff,zau,zau];exact⟨Eq.symm,Eq.symm⟩
theorem zjL(fb sh:Bool)(frm:ByteArray):∀(l seen:List RPart) (L:List ByteArray) (s:Rat),(∀n,L.any (zae n)=seen.any (fun q=>zae q.name n))->
 zco fb sh frm l seen s=if(zcY l L&&l.all (fun p=>!(zae p.name frm&&fb)))&&(if sh then l.all (fun p=>za8 16 p.num p.den&&p.num != 0)else l.all (fun p=>p.num==0&&p.den==0))then some (if sh then s+sumQ (zao l)else s)else none
 | [],seen,L,s,h=>by
   rw[zco];cases sh
   ·simp[zcY]
   ·simp[zcY,zao,sumQ,Rat.add_zero]
 |p::l,seen,L,s,h=>by
  have ih:=fun t=>zjL fb sh frm l (seen++[p]) (p.name::L) t (fun n=>by
   rw[List.any_cons,List.any_append,h n,List.any_cons,List.any_nil,Bool.or_false,Bool.or_comm,zoT n])
  have hs:sumQ (zao (p::l))=p.rat+sumQ (zao l):=rfl;rw[zco,zcY,h p.name,List.all_cons,List.all_cons,List.all_cons,hs,ih,ih];cases h1:seen.any (fun q=>zae q.name p.name)
  ·cases h2:(zae p.name frm&&fb)
   ·simp only[Bool.or_self,Bool.false_eq_true,if_false,Bool.not_false,Bool.true_and];cases sh
    ·simp only[Bool.not_false,if_true,Bool.false_eq_true,if_false];by_cases hz:p.num=0
     ·by_cases hy:p.den=0
      ·simp[hz,hy]
      ·simp[hz,hy]
     ·simp[hz]
    ·simp only[Bool.not_true,if_true,Bool.false_eq_true,if_false];cases h3:za8 16 p.num p.den
     ·simp
     ·by_cases hz:p.num=0
      ·simp[hz]
      ·have e:s+p.rat+sumQ (zao l)=s+(p.rat+sumQ (zao l)):=Mc0;simp[hz,e]
   ·simp
  ·simp
theorem zoU(s:Rat):decide (s.num<=(s.den:Int))=decide (s<=1):=by
 rw[Bool.eq_iff_iff,decide_eq_true_eq,decide_eq_true_eq,Rat.le_iff];simp
theorem zmS(s:Rat):(s.num==(s.den:Int))=(s==1):=by
 rw[Bool.eq_iff_iff,beq_iff_eq,beq_iff_eq];constructor
 ·intro h;have h1:=Rat.num_divInt_den s;rw[h]at h1;rw[<-h1];have:=s.den_pos;rw[Rat.divInt_self'];omega
 ·intro h;rw[h];rfl
theorem sumOk_eq(fb sh al:Bool)(frm:ByteArray)(l:List RPart)(hf:fb=true\/∀p∈l,zae p.name frm=false):zgP sh al (zco fb sh frm l [] 0)=zcC sh al frm l:=by
 have h0:∀n:ByteArray,([]:List ByteArray).any (zae n)=([]:List RPart).any (fun q=>zae q.name n):=fun n=>rfl
 rw[zjL fb sh frm l [] [] 0 h0];have K6:l.all (fun p=>!(zae p.name frm&&fb))=l.all (fun p=>!zae p.name frm):=by
  rcases hf with hf|hf
  ·subst hf;simp
  ·rw[Bool.eq_iff_iff,List.all_eq_true,List.all_eq_true];exact⟨fun _ p hp=>by rw[hf p hp];rfl,fun _ p hp=>by rw[hf p hp];rfl⟩
 rw[K6];unfold zcC;cases sh
 ·simp only[Bool.false_eq_true,if_false];split
  ·rename_i h;rw[h];rfl
  ·rename_i h
   rw[Bool.not_eq_true]at h;rw[h];rfl
 ·simp only[if_true];split
  ·rename_i h
   rw[Bool.and_eq_true,Bool.and_eq_true]at h;rw[h.1.1,h.1.2,h.2];simp only[zgP,Bool.not_true,Bool.false_or,Bool.true_and,Rat.zero_add,zoU,zmS]
  ·rename_i h
   rw[Bool.not_eq_true]at h;simp only[zgP];cases h1:zcY l []<;>cases h2:l.all (fun p=>!zae p.name frm)<;>cases h3:l.all (fun p=>za8 16 p.num p.den&&p.num != 0)<;>simp_all
theorem noB_same{a b:ByteArray}(ha:noB a=false)(hb:noB b=true):zae a b=false:=by
 unfold noB at ha hb;unfold zae;cases h:(a.toList==b.toList)
 ·rfl
 ·rw[beq_iff_eq]at h;rw[h,hb]at ha;cases ha
theorem zhN{f:Form}{frm:ByteArray}{l:List RPart}(hf:f.frm=true\/∀p∈l,zae p.name frm=false):zhk f frm l=if f.parts then(!l.isEmpty&&(f.shares||l.length==1))&&zcC f.shares f.all frm l else l.isEmpty:=by
 unfold zhk;rw[sumOk_eq _ _ _ _ _ hf];cases f.parts
 ·simp
 ·cases l.isEmpty
  ·cases f.shares
   ·by_cases h:l.length=1
    ·simp[h]
    ·simp[h]
   ·simp
  ·simp
theorem zkD(d:Deed):zdl d=zaH d:=by
 obtain⟨kd,dy,pl,fr,ps,cl,yr⟩:=d;unfold zdl zaH;simp only;split
 ·rfl
 rename_i h1
 split
 ·rfl
 rename_i h2
 split
 ·rfl
 rename_i h3
 have e4:(ps.any fun p=>!zaS p.name)=!ps.all fun p=>zaS p.name:=by rw[List.not_all_eq_any_not]
 rw[e4];split
 ·rfl
 rename_i h4
 have hn:∀p∈ps,noB p.name=false:=fun p hp=>by
  cases ha:(ps.all fun p=>zaS p.name)
  ·rw[ha]at h4;simp at h4
  ·exact zgf (List.all_eq_true.1 ha p hp)
 simp only[Bool.not_eq_true',Bool.not_eq_false,zfu]at h1;have hk:kd=0\/kd=1\/kd=2\/kd=3\/kd=4\/kd=5\/kd=6\/kd=7\/kd=8:=Mcy;have hg:noB fr=true->∀p∈ps,zae p.name fr=false:=fun hb p hp=>noB_same (hn p hp) hb
 clear h1 h2 h3 h4 hn e4;have EE:(0:Int)=0:=rfl;rcases hk with rfl|rfl|rfl|rfl|rfl|rfl|rfl|rfl|rfl
 all_goals
  simp only[zfC,zfF,Int.toNat_zero,Int.toNat_one,List.getD_cons_zero,show(2:Int).toNat=2 from rfl,show(3:Int).toNat=3 from rfl,show(4:Int).toNat=4 from rfl,show(5:Int).toNat=5 from rfl,show(6:Int).toNat=6 from rfl,show(7:Int).toNat=7 from rfl,show(8:Int).toNat=8 from rfl,List.getD_cons_succ]
 ·cases hb:noB fr
  ·simp
  ·rw[zhN (f:=⟨_,_,_,_,_,_,_,_⟩) (.inr (hg hb))];cases noB pl<;>cases hy:(yr==0)<;>cases hc:(cl==2)<;>simp
 ·exact M0
 ·exact M0
 ·cases hb:noB fr
  ·simp
  ·rw[zhN (f:=⟨_,_,_,_,_,_,_,_⟩) (.inr (hg hb))];cases noB pl<;>cases hy:(yr==0)<;>cases hc:(cl==0)<;>simp_all
 ·exact M0
 ·exact Mai
 ·exact Mai
 ·exact Mai
 ·exact M0
section
open Go.Shelf
end
section
open Go.Shelf
def zmT(W:World)(base b:Nat)(l:List Rec):Prop:=
 ∃m,MapS W b ekS (fun v:Value=>v) m/\(∀n,RowIs W base m n (parR l n))/\(zaU m).Nodup/\(m.map (·.1)).Nodup
theorem par_keep{W W':World}{base b n:Nat}{l:List Rec}(h:zmT W base b l)(hB:Below n W W')(hn:W.heap.size<=n:=by first|exact Nat.le_refl _|omega):zmT W' base b l:=by
 obtain⟨m,h1,h2,h3,h4⟩:=h;exact⟨m,h1.below hB hn,fun x=>(h2 x).keep hB hn,h3,h4⟩
theorem par_new(w:World)(base:Nat):zmT (w.alloc (.map #[] 0)) base w.heap.size []:=
 ⟨[],MapS.new w,fun n=> .inl ⟨rfl,rfl⟩,by simp[zaU],by simp⟩
theorem par_put{base b:Nat}{W w9:World}{m:List (ByteArray×Value)}{l:List Rec}{x:Rec}{va v1:Value}(hk:x.kind=2)
 (k1:MapS W b ekS (fun v:Value=>v) m)(k3:∀n,RowIs W base m n (parR l n))(k5:(zaU m).Nodup)(k6:(m.map (·.1)).Nodup)
 (ha:OwnS W base 9 1 sC va (parR l x.name))(jc:∀g,za5 va=some g->mget eqS x.name m=some va)
 (o1:OwnS w9 base 9 1 sC v1 (parR l x.name++[x.other]))(b1:∀g,za5 v1=some g->za5 va=some g\/W.heap.size<=g)
 (m1:MapS w9 b ekS (fun v:Value=>v) (mput eqS x.name v1 m))(hF:∀k,k<W.heap.size->k≠b->za5 va≠some k->w9.heap[k]?=W.heap[k]?):zmT w9 base b (l++[x]):=by
 obtain⟨ec,cc,hc⟩:=zbl k1;refine⟨_,m1,fun n=>?_,?_,(zfc _ _ _ k6).1⟩
 ·unfold RowIs;rw[zep];cases hn:zae n x.name
  ·rw[zoC hn];simp only[Bool.false_eq_true,if_false];rcases k3 n with h|⟨v,h1,h2⟩
   ·exact .inl h
   ·refine .inr ⟨v,h1,h2.same fun g cur hg hh=>hF g (zab hh) (fun e=>by subst e;rw[hc]at hh;simp at hh) (fun e=>?_)⟩;exact zf4 hn k5 h1 (jc g e) hg e
  ·have e:=zau.1 hn;subst e;rw[parR_put hk];exact .inr ⟨v1,rfl,o1⟩
 ·refine(zhJ (k:=x.name) (v:=v1) k5 (fun g hg=>?_)).1;rcases b1 g hg with h|h
  ·exact .inl ⟨va,jc g h,h⟩
  ·refine .inr fun hm=>?_
   obtain⟨e,he,eT⟩:=zcI.1 hm;have h1:=zgp k6 (show(e.1,e.2)∈m from he);rcases k3 e.1 with⟨h2,_⟩|⟨v,h2,h3⟩
   ·rw[h2]at h1;cases h1
   ·exact Mbt
open Classical in
end
def nAnn:ByteArray:=⟨#[97,110,110]⟩
def nBob:ByteArray:=⟨#[98,111,98]⟩
def nCat:ByteArray:=⟨#[99,97,116]⟩
def nDan:ByteArray:=⟨#[100,97,110]⟩
def nA1:ByteArray:=⟨#[97,49]⟩
def n0:ByteArray:=⟨#[]⟩
def zcj:List Law:=[⟨0,false,1,4⟩,⟨50000,true,1,2⟩]
def famD(k:Nat):Deed:=match k with
 |0=>⟨6,0,n0,nAnn,[⟨nBob,0,0⟩],0,0⟩
 |1=>⟨6,0,n0,nAnn,[⟨nCat,0,0⟩],0,0⟩
 |2=>⟨7,0,n0,nAnn,[⟨nDan,0,0⟩],0,0⟩
 |3=>⟨0,100,nA1,n0,[⟨nAnn,1,1⟩],1,0⟩
 |_=>⟨8,200,n0,nAnn,[],0,0⟩
def zbI:List Deed:=[famD 0,famD 1,famD 2,famD 3,famD 4]
def fam1:St:=⟨[(nAnn,nBob)],[],[],[],[],[]⟩
def fam2:St:=⟨[(nAnn,nBob),(nAnn,nCat)],[],[],[],[],[]⟩
def fam3:St:=⟨[(nAnn,nBob),(nAnn,nCat)],[(nAnn,nDan)],[],[],[],[]⟩
def fam4:St:=⟨[(nAnn,nBob),(nAnn,nCat)],[(nAnn,nDan)],[],[],[],[⟨nA1,1,-1,[(nAnn,1)],[]⟩]⟩
def zg8:Parts:=[(nBob,Rat.divInt 3 8),(nCat,Rat.divInt 3 8),(nDan,Rat.divInt 1 4)]
def fam5:St:=⟨[(nAnn,nBob),(nAnn,nCat)],[(nAnn,nDan)],[nAnn],[],[],[⟨nA1,1,-1,zg8,[nAnn]⟩]⟩
theorem fam_laws:zaD zcj=0:=by kernel_rfl
open Classical in
theorem fam_0:zck zcj zb3 0 0 (famD 0)=(fam1,0):=by
 have h1:zaH (famD 0)=0:=Mcz;have h2:¬Desc zb3 (zbf (famD 0)) (famD 0).frm:=zhW rfl;unfold zck;rw[h1];show(if(0 != 0)=true then _ else if decide (60<=0)=true then _ else if decide ((0:Int)<0)=true then _ else zcE zb3 (famD 0))=_;unfold zcE;rw[decide_eq_false h2];rfl
open Classical in
theorem fam_1:zck zcj fam1 1 0 (famD 1)=(fam2,0):=by
 have h1:zaH (famD 1)=0:=Mcz;have h2:¬Desc fam1 (zbf (famD 1)) (famD 1).frm:=zhW Mcz;unfold zck;rw[h1];show(if(0 != 0)=true then _ else if decide (60<=1)=true then _ else if decide ((0:Int)<0)=true then _ else zcE fam1 (famD 1))=_;unfold zcE;rw[decide_eq_false h2];have e1:(zai fam1 (famD 1).frm).any (zae (zbf (famD 1)))=false:=Mcz;have e2:decide (2<=(zbP fam1 (zbf (famD 1))).length)=false:=Mcz;rw[e1,e2];rfl
theorem fam_2:zck zcj fam2 2 0 (famD 2)=(fam3,0):=by kernel_rfl
theorem fam_3:zck zcj fam3 3 0 (famD 3)=(fam4,0):=by kernel_rfl
theorem fam_4:zck zcj fam4 4 100 (famD 4)=(fam5,0):=by kernel_rfl
theorem zhe(upto:Int)(h:200<=upto):zaL zcj zbI upto=(fam5,5,0):=by
 have q0:decide ((famD 0).day<=upto)=true:=MdK;have q1:decide ((famD 1).day<=upto)=true:=MdK;have q2:decide ((famD 2).day<=upto)=true:=MdK;have q3:decide ((famD 3).day<=upto)=true:=by show decide ((100:Int)<=upto)=true;simp;omega
 have q4:decide ((famD 4).day<=upto)=true:=by show decide ((200:Int)<=upto)=true;simp;omega
 have z:¬((0:Int) != 0)=true:=McA;unfold zaL zbI;rw[fam_laws,if_neg z];rw[zaX,fam_0,if_neg z,q0,if_pos rfl];show zaX zcj upto _ fam1 fam1 1 0=_;rw[zaX,fam_1,if_neg z,q1,if_pos rfl];show zaX zcj upto _ fam2 fam2 2 0=_;rw[zaX,fam_2,if_neg z,q2,if_pos rfl];show zaX zcj upto _ fam3 fam3 3 0=_;rw[zaX,fam_3,if_neg z,q3,if_pos rfl];show zaX zcj upto _ fam4 fam4 4 100=_;rw[zaX,fam_4,if_neg z,q4,if_pos rfl];rfl
def zfk:List Rec:=[⟨1,nAnn,n0,n0,5,0,0,0⟩,⟨0,nBob,n0,n0,9,0,0,0⟩,⟨0,nAnn,n0,n0,7,0,0,0⟩,⟨3,nAnn,n0,nA1,4,0,1,2⟩,⟨3,nBob,n0,nA1,4,0,2,3⟩]
theorem recs5_ok:zfq zfk=0:=by kernel_rfl
theorem zod:∀(l:List Int) (i:Nat),nmGo l (i+1)=zjf l
 | [],_=>rfl
 |c::l,i=>by
  rw[nmGo,zjf,zod l (i+1)];have h:(!(zcX c)&&(i+1==0||(c != 45&&(decide (c<48)||decide (57<c)))))=(!zcX c&&!zkQ c&&c != 45):=by
   cases zcX c
   ·have h0:(i+1==0)=false:=McB;rw[h0];by_cases h1:c=45
    ·subst h1;rfl
    ·have h2:(c != 45)=true:=Mc4;rw[h2,zkQ];by_cases h3:c<48
     ·have h4:¬48<=c:=Mcy;simp only[h3,h4,decide_true,decide_false,Bool.not_false,Bool.true_and,Bool.false_or,Bool.true_or,Bool.false_and]
     ·have h4:48<=c:=Mcy;by_cases h5:57<c
      ·have h6:¬c<=57:=Mcy;simp only[h3,h4,h5,h6,decide_true,decide_false,Bool.not_false,Bool.true_and,Bool.false_or,Bool.true_or,Bool.false_and,Bool.or_true]
      ·have h6:c<=57:=Mcy;simp only[h3,h4,h5,h6,decide_true,decide_false,Bool.not_false,Bool.true_and,Bool.false_or,Bool.true_or,Bool.false_and,Bool.or_true,Bool.or_false,Bool.not_true]
   ·rfl
  rw[h]
theorem zmU(s:ByteArray):s.toList.isEmpty=decide ((s.size:Int)<1):=by
 have e:s.toList.length=s.size:=by rw[ByteArray.toList_eq,Array.length_toList];rfl
 generalize s.size=n at*;cases hl:s.toList with
 |nil=>
  rw[hl]at e;subst e;rfl
 |cons a l=>
  rw[hl,List.length_cons]at e;have h:¬((n:Int)<1):=Mcy;rw[decide_eq_false h];rfl
theorem zd0(s:ByteArray):zaS s=zcB s:=by
 unfold zaS zcB;rw[zmU];have hl:=zgG s;cases hb:zdp s with
 |nil=>
  rw[hb]at hl;have h0:(s.size:Int)<1:=by simp at hl;omega
  simp[h0]
 |cons c l=>
  rw[hb]at hl;have h0:¬(s.size:Int)<1:=by simp at hl;omega
  have h1:nmGo (c::l) 0=if !zcX c then false else zjf l:=by rw[nmGo,zod];simp
  rw[h1];simp only[h0,decide_false,Bool.not_false,Bool.true_and,Bool.false_or,List.getD_cons_zero,List.drop_succ_cons,List.drop_zero];cases zcX c<;>by_cases h2:(12:Int)<s.size<;>simp[h2]<;>omega
section
open Go.Shelf
def zlN(n o:ByteArray)(m:ByteArray×ByteArray):ByteArray:=if zae m.1 n then m.2 else o
def spSt(n o:ByteArray)(m:ByteArray×ByteArray):ByteArray:=if zae m.2 n then m.1 else zlN n o m
def spGo(n:ByteArray)(l:List (ByteArray×ByteArray))(o:ByteArray):ByteArray:=l.foldl (spSt n) o
theorem zlO(n:ByteArray)(l:List (ByteArray×ByteArray))(m:ByteArray×ByteArray)(o:ByteArray):spGo n (l++[m]) o=spSt n (spGo n l o) m:=by
 unfold spGo;rw[List.foldl_append];rfl
theorem spGo_eq(n:ByteArray)(l:List (ByteArray×ByteArray)):spGo n l.reverse ⟨#[]⟩=zdo n l:=by
 induction l with
 |nil=>rfl
 |cons m l ih=>
  rw[List.reverse_cons,zlO,ih];obtain⟨a,b⟩:=m;rw[zdo];unfold spSt zlN;simp only;cases h1:zae a n
  ·cases h2:zae b n<;>simp
  ·cases h2:zae b n
   ·simp
   ·simp only[if_true];exact(zau.1 h1).trans (zau.1 h2).symm
def zfS(ms:List (ByteArray×ByteArray))(dd:List ByteArray)(n:ByteArray):ByteArray:=if dd.any (zae (spGo n ms ⟨#[]⟩))then⟨#[]⟩else spGo n ms ⟨#[]⟩
theorem zoV(s:St)(n:ByteArray):zfS s.marriages s.dead n=zaG s n:=by
 have h:=spGo_eq n s.marriages.reverse;rw[List.reverse_reverse]at h;unfold zfS zaG zaJ;rw[h]
theorem zmV(ms:List (ByteArray×ByteArray))(dd:List ByteArray)(n:ByteArray)(LA CA MA DA WA RA GA:Option Addr)(n0 c0 n1 c1 n2 c2 n3 c3 n4 c4 n5 c5 n6 c6:Nat)(w:World)(hl:ms.length<=100000)(hS:Sl w 2 zaT MA ms)(bu:dd.length<=100000)(nE:dd.length<=c3)(hD:Sl w 1 sC DA dd):
 Calls Tryz.prog 20 #[.agg #[.slice LA n0 c0,.slice CA n1 c1,.slice MA ms.length c2,.slice DA dd.length c3,.slice WA n4 c4,.slice RA n5 c5,.slice GA n6 c6],.string n] w (Ret w (.string (zfS ms dd n))):=by
 obtain⟨fY,fL⟩:=yH2 hS (fun x W (h:Below w.heap.size w W)=>zeD dd x LA CA MA DA WA RA GA n0 c0 n1 c1 ms.length c2 dd.length c3 n4 c4 n5 c5 n6 c6 W bu nE (hD.keep h));clear hS hD;go_enter Tryz.func20,Tryz.ntmps20
 go_upto_region 1 with fail
 obtain⟨W0,am⟩:∃W0,W0=w.alloc (.cells #[.slice LA n0 c0,.slice CA n1 c1,.slice MA ms.length c2,.slice DA dd.length c3,.slice WA n4 c4,.slice RA n5 c5,.slice GA n6 c6] 44):=⟨_,rfl⟩
 have b0:W0.heap[w.heap.size]?=some (.cells #[.slice LA n0 c0,.slice CA n1 c1,.slice MA ms.length c2,.slice DA dd.length c3,.slice WA n4 c4,.slice RA n5 c5,.slice GA n6 c6] 44):=Mdp;have aK:Below w.heap.size w W0:=Mdb;rw[<-am];obtain⟨aj,HS⟩:=yH2 aK (fY.o.keep aK);obtain⟨k0,k1,k2,k3,k4,k5,k6⟩:=cF7 b0;clear am b0 aK fY;go_upto_region 3 with fail
 go_loopw [5,6,7] (fun v i _ wr=>∃(k:Nat) (o:ByteArray),k<=ms.length/\i=.int .i64 k/\v=.string o/\W0=wr/\Hid (o=spGo n (ms.take k) ⟨#[]⟩)) (fun _ i _ _=>ms.length-(intOf i).toNat)
 case atStart=>exact⟨0,⟨#[]⟩,Nat.zero_le _,rfl,rfl,rfl,zHi rfl⟩
 case round=>
  obtain⟨k,o,hk,rfl,rfl,rfl,HX⟩:=hrel;by_cases ae:k<ms.length
  ·obtain⟨b,off,rfl,hb,ah⟩:=HS.o.at ae;have iQ:ms.take (k+1)=ms.take k++[ms[k]]:=by rw[List.take_add_one,List.getElem?_eq_getElem ae];rfl
   have ak:=zHi ae;have au:Hid (spGo n (ms.take (k+1)) ⟨#[]⟩=spSt n o ms[k]):=by show _=_;rw[iQ,zlO,<-HX.o];rfl
   generalize ms[k]=m at*;obtain⟨ma,mb⟩:=m;have i0:W0.cell? ⟨b,off+k*2,none⟩=some (.string ma):=ah 0 _ rfl;have i1:W0.cell? ⟨b,off+k*2+1,none⟩=some (.string mb):=ah 1 _ rfl;have ar:(k:Int)<(ms.length:Int):=Mcy;have aQ:(0:Int)<=(k:Int):=Mcy;clear ah ae iQ;go_upto_region 6 with fail
   go_loopw [5,7] (fun v z wr=>W0=wr/\((z=.int .i64 0/\v=.string o)\/(z=.int .i64 1/\v=.string (zlN n o (ma,mb)))\/(z=.int .i64 2/\v=.string (spSt n o (ma,mb))))) (fun _ z _=>2-(intOf z).toNat)
   case atStart=>exact⟨rfl,.inl ⟨rfl,rfl⟩⟩
   case round=>
    obtain⟨rfl,⟨rfl,rfl⟩|⟨rfl,rfl⟩|⟨rfl,rfl⟩⟩:=hrel
    ·cases hs:zae ma n
     ·have bn:(ma.toList==n.toList)=false:=hs;have he:zlN n o (ma,mb)=o:=by unfold zlN;simp[hs]
      exact Mao
     ·have bn:(ma.toList==n.toList)=true:=hs;have he:zlN n o (ma,mb)=mb:=by unfold zlN;simp[hs]
      exact Mao
    ·generalize hmid:zlN n o (ma,mb)=o2 at*;have HM:=zHi hmid;clear hmid;cases hs:zae mb n
     ·have bn:(mb.toList==n.toList)=false:=hs;have HE:Hid (spSt n o (ma,mb)=o2):=by show _=_;unfold spSt;rw[HM.o];simp[hs]
      exact MaI
     ·have bn:(mb.toList==n.toList)=true:=hs;have HE:Hid (spSt n o (ma,mb)=ma):=by show _=_;unfold spSt;simp[hs]
      exact MaI
    ·go_wp2_with fail
     go_round
     case rel=>exact⟨k+1,_,ak.o,by go_num,rfl,by first|exact True.intro|rfl,zHi au.o.symm⟩
     case measure=>have:=ak.o;simp only[intOf];omega
  ·have ar:¬(k:Int)<(ms.length:Int):=Mcy;have hx:=HX.o;rw[List.take_of_length_le Mcy]at hx;have td:=zHi (fun W h=>fL.o o W h);cases hd:dd.any (zae o)
   ·have HE:Hid (zfS ms dd n=o):=by show _=_;unfold zfS;rw[<-hx,hd];rfl
    exact Mar
   ·have HE:Hid (zfS ms dd n=⟨#[]⟩):=by show _=_;unfold zfS;rw[<-hx,hd];rfl
    exact Mar
end
def zmW(ds:List Deed):Int:=(ds.getLast?.map (·.day)).getD 0
theorem zoW{ds:List Deed}{k:Nat}(h:k<ds.length):zmW (ds.take (k+1))=ds[k].day:=by
 have e:ds.take (k+1)=ds.take k++[ds[k]]:=by rw[List.take_add_one,List.getElem?_eq_getElem h];rfl
 unfold zmW;rw[e,List.getLast?_concat];rfl

