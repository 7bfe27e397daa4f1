/- Walk of the reference's Given. -/
import Derived.Test.YtjhbofabmpfniaaGreatDoorO6
import Derived.Test.YtjhbofabmpfniaaGreatDoorJN
set_option linter.unusedSimpArgs false
set_option linter.unusedVariables false
set_option maxRecDepth 100000
set_option maxHeartbeats 4000000
namespace Go.Proofs.YtjhbofabmpfniaaGreatDoor
open Go.RowKit
def zl7 (out:Parts) (p:ByteArray×Value):Option (ByteArray×Rat):=if 0<zag out p.1 then some (p.1,zag out p.1)else none
def colP (out:Parts) (l:List (ByteArray×Value)):Parts:=l.filterMap (zl7 out)
theorem colP_snoc (out:Parts) (l:List (ByteArray×Value)) (p:ByteArray×Value):colP out (l++[p])=colP out l++(zl7 out p).toList:=by
 unfold colP;rw[List.filterMap_append];cases h:zl7 out p<;>simp[List.filterMap,h]
theorem zo9 {l:Parts} {n:ByteArray} (h:zag l n≠0):(n,zag l n)∈l:=by
 unfold zag at h⊢;cases hf:l.find? (fun p=>zaf p.1 n)with
 |none=>rw[hf]at h;exact absurd rfl h
 |some p=>
  have h1:=List.mem_of_find?_eq_some hf;have h2:=List.find?_some hf;have h3:p.1=n:=za2.1 h2;rw[<-h3];exact h1
theorem zoA {l:Parts} (h:GoodParts l):l.Nodup:=by
 refine h.asc.imp fun {a b} cG e=> ?_
 rw[e,zfd]at cG;cases cG
theorem znX {out:Parts} (hg:GoodParts out) {mm:List (ByteArray×Value)} (cQ:(mm.map (·.1)).Nodup) (iy: ∀n,(mget eqS n mm=none/\zag out n=0)\/mget eqS n mm=some (zaB (zag out n))):(colP out mm).Perm out:=by
 refine(List.perm_ext_iff_of_nodup ?_ (zoA hg)).2 fun a=> ?_
 ·unfold colP;have h1:((mm.map (·.1)).filterMap fun n=>if 0<zag out n then some (n,zag out n)else none).Nodup:=by
   refine List.Pairwise.filterMap _ ?_ cQ;intro a b cG x hx y hy e;split at hx
   ·split at hy
    ·simp only[Option.some.injEq]at hx hy;rw[<-hx,<-hy]at e;exact cG (congrArg Prod.fst e)
    ·cases hy
   ·cases hx
  rw[List.filterMap_map]at h1;exact h1
 ·constructor
  ·intro ha;obtain⟨p,hp,h1⟩:=List.mem_filterMap.1 ha;unfold zl7 at h1;split at h1
   ·rename_i h0
    simp only[Option.some.injEq]at h1;rw[<-h1];exact zo9 (by intro e;rw[e]at h0;exact absurd h0 Mcp)
   ·cases h1
  ·intro ha;have h1:=share_mem hg ha;have h2:=hg.pos a ha;have h3:mget eqS a.1 mm=some (zaB (zag out a.1)):=by
    rcases iy a.1 with⟨_,h⟩|h
    ·rw[h1]at h;rw[h]at h2;exact absurd h2 Mcp
    ·exact h
   refine List.mem_filterMap.2 ⟨_,zcZ h3,?_⟩;unfold zl7;rw[h1,if_pos h2]
def UpP (L:Parts):Prop:=L.Pairwise fun a b=>zbn b.1 a.1=false
theorem zl8 {ls L:Parts} (h:GoodParts ls) (hp:L.Perm ls) (hs:UpP L):L=ls:=by
 have eM:L.Pairwise (fun x y:ByteArray×Rat=>zbn y.1 x.1=false):=hs;refine List.Perm.eq_of_pairwise (le:=fun x y:ByteArray×Rat=>zbn y.1 x.1=false) ?_ eM ?_ hp
 ·intro a b ha hb h1 h2;have kT:a∈ls:=hp.mem_iff.1 ha;obtain⟨i,hi,rfl⟩:=List.getElem_of_mem kT;obtain⟨j,hj,rfl⟩:=List.getElem_of_mem hb;rcases Nat.lt_trichotomy i j with cP|cP|cP
  ·have:=List.pairwise_iff_getElem.1 h.asc i j hi hj cP;rw[this]at h2;cases h2
  ·subst cP;rfl
  ·have:=List.pairwise_iff_getElem.1 h.asc j i hj hi cP;rw[this]at h1;cases h1
 ·refine h.asc.imp fun {a b} cG=> ?_
  exact zj1 cG
theorem zjN {α:Type} {x:α}: ∀ {l:List α} {i:Nat},l[i]?=some x->(x::l.eraseIdx i).Perm l
 | [],i,h=>by simp at h
 |y::l,0,h=>by
  simp only[List.getElem?_cons_zero,Option.some.injEq]at h;rw[h];exact List.Perm.refl _
 |y::l,i+1,h=>by
  simp only[List.getElem?_cons_succ]at h;rw[List.eraseIdx_cons_succ];exact(List.Perm.swap y x _).trans (List.Perm.cons y (zjN h))
theorem done_perm {α:Type} {d l m:List α} {i:Nat} {x:α} (h:(d++l).Perm m) (hx:l[i]?=some x):((d++[x])++l.eraseIdx i).Perm m:=by
 rw[List.append_assoc];refine List.Perm.trans ?_ h;exact List.Perm.append_left d (zjN hx)
theorem zhy (s:St) (frm:ByteArray): ∀(a b:Parts) (x:Parts×Bool) (rest:Rat),zdh s frm (a++b) x rest=zdh s frm b (zdh s frm a x rest).1 (zdh s frm a x rest).2
 | [],_,_,_=>rfl
 |p::a,b,x,rest=>by
  rw[List.cons_append,zdh,zdh];split<;>exact zhy s frm a b _ _
theorem will_snoc (s:St) (frm:ByteArray) (l:Parts) (x:Parts×Bool) (rest:Rat) {k:Nat} (h:k<l.length):zdh s frm (l.take (k+1)) x rest=
 if zdZ s l[k].1 frm then(zcQ l[k].1 l[k].2 (zdh s frm (l.take k) x rest).1,(zdh s frm (l.take k) x rest).2-l[k].2)else zdh s frm (l.take k) x rest:=by
 rw[List.take_succ_eq_append_getElem h,zhy,zdh,zdh,zdh]
theorem zoB (a b:ByteArray):zaf a b=zaf b a:=by
 rw[Bool.eq_iff_iff,za2,za2];exact⟨Eq.symm,Eq.symm⟩
theorem zjO (fb sh:Bool) (frm:ByteArray): ∀(l seen:List RPart) (L:List ByteArray) (s:Rat),(∀n,L.any (zaf n)=seen.any (fun q=>zaf q.name n))->
 zco fb sh frm l seen s=if(zcX l L&&l.all (fun p=>!(zaf p.name frm&&fb)))&&(if sh then l.all (fun p=>za9 16 p.num p.den&&p.num != 0)else l.all (fun p=>p.num==0&&p.den==0))then some (if sh then s+sumQ (zap l)else s)else none
 | [],seen,L,s,h=>by
   rw[zco];cases sh
   ·simp[zcX]
   ·simp[zcX,zap,sumQ,Rat.add_zero]
 |p::l,seen,L,s,h=>by
  have ih:=fun t=>zjO fb sh frm l (seen++[p]) (p.name::L) t (fun n=>by
   rw[List.any_cons,List.any_append,h n,List.any_cons,List.any_nil,Bool.or_false,Bool.or_comm,zoB n])
  have hs:sumQ (zap (p::l))=p.rat+sumQ (zap l):=rfl;rw[zco,zcX,h p.name,List.all_cons,List.all_cons,List.all_cons,hs,ih,ih];cases h1:seen.any (fun q=>zaf q.name p.name)
  ·cases h2:(zaf p.name frm&&fb)
   ·simp only[Bool.or_self,Bool.false_eq_true,if_false,Bool.not_false,Bool.true_and];cases sh
    ·simp only[Bool.not_false,if_true,Bool.false_eq_true,if_false];by_cases hz:p.num=0
     ·by_cases hy:p.den=0
      ·simp[hz,hy]
      ·simp[hz,hy]
     ·simp[hz]
    ·simp only[Bool.not_true,if_true,Bool.false_eq_true,if_false];cases h3:za9 16 p.num p.den
     ·simp
     ·by_cases hz:p.num=0
      ·simp[hz]
      ·have e:s+p.rat+sumQ (zap l)=s+(p.rat+sumQ (zap l)):=McP;simp[hz,e]
   ·simp
  ·simp
theorem zoC (s:Rat):decide (s.num<=(s.den:Int))=decide (s<=1):=by
 rw[Bool.eq_iff_iff,decide_eq_true_eq,decide_eq_true_eq,Rat.le_iff];simp
theorem zmT (s:Rat):(s.num==(s.den:Int))=(s==1):=by
 rw[Bool.eq_iff_iff,beq_iff_eq,beq_iff_eq];constructor
 ·intro h;have h1:=Rat.num_divInt_den s;rw[h]at h1;rw[<-h1];have:=s.den_pos;rw[Rat.divInt_self'];omega
 ·intro h;rw[h];rfl
theorem sumOk_eq (fb sh al:Bool) (frm:ByteArray) (l:List RPart) (hf:fb=true\/ ∀p∈l,zaf p.name frm=false):zha sh al (zco fb sh frm l [] 0)=zcB sh al frm l:=by
 have h0: ∀n:ByteArray,([]:List ByteArray).any (zaf n)=([]:List RPart).any (fun q=>zaf q.name n):=fun n=>rfl
 rw[zjO fb sh frm l [] [] 0 h0];have K2:l.all (fun p=>!(zaf p.name frm&&fb))=l.all (fun p=>!zaf p.name frm):=by
  rcases hf with hf|hf
  ·subst hf;simp
  ·rw[Bool.eq_iff_iff,List.all_eq_true,List.all_eq_true];exact⟨fun _ p hp=>by rw[hf p hp];rfl,fun _ p hp=>by rw[hf p hp];rfl⟩
 rw[K2];unfold zcB;cases sh
 ·simp only[Bool.false_eq_true,if_false];split
  ·rename_i h;rw[h];rfl
  ·rename_i h
   rw[Bool.not_eq_true]at h;rw[h];rfl
 ·simp only[if_true];split
  ·rename_i h
   rw[Bool.and_eq_true,Bool.and_eq_true]at h;rw[h.1.1,h.1.2,h.2];simp only[zha,Bool.not_true,Bool.false_or,Bool.true_and,Rat.zero_add,zoC,zmT]
  ·rename_i h
   rw[Bool.not_eq_true]at h;simp only[zha];cases h1:zcX l []<;>cases h2:l.all (fun p=>!zaf p.name frm)<;>cases h3:l.all (fun p=>za9 16 p.num p.den&&p.num != 0)<;>simp_all
theorem noB_same {a b:ByteArray} (ha:noB a=false) (hb:noB b=true):zaf a b=false:=by
 unfold noB at ha hb;unfold zaf;cases h:(a.toList==b.toList)
 ·rfl
 ·rw[beq_iff_eq]at h;rw[h,hb]at ha;cases ha
theorem zhR {f:Form} {frm:ByteArray} {l:List RPart} (hf:f.frm=true\/ ∀p∈l,zaf p.name frm=false):zhs f frm l=if f.parts then(!l.isEmpty&&(f.shares||l.length==1))&&zcB f.shares f.all frm l else l.isEmpty:=by
 unfold zhs;rw[sumOk_eq _ _ _ _ _ hf];cases f.parts
 ·simp
 ·cases l.isEmpty
  ·cases f.shares
   ·by_cases h:l.length=1
    ·simp[h]
    ·simp[h]
   ·simp
  ·simp
theorem zeJ (d:Deed):zdn d=za5 d:=by
 obtain⟨kd,dy,pl,fr,ps,cl,yr⟩:=d;unfold zdn za5;simp only;split
 ·rfl
 rename_i h1
 split
 ·rfl
 rename_i h2
 split
 ·rfl
 rename_i h3
 have e4:(ps.any fun p=>!zaR p.name)=!ps.all fun p=>zaR p.name:=by rw[List.not_all_eq_any_not]
 rw[e4];split
 ·rfl
 rename_i h4
 have hn: ∀p∈ps,noB p.name=false:=fun p hp=>by
  cases ha:(ps.all fun p=>zaR p.name)
  ·rw[ha]at h4;simp at h4
  ·exact zgp (List.all_eq_true.1 ha p hp)
 simp only[Bool.not_eq_true',Bool.not_eq_false,zf6]at h1;have hk:kd=0\/kd=1\/kd=2\/kd=3\/kd=4\/kd=5\/kd=6\/kd=7\/kd=8:=Mcn;have hg:noB fr=true-> ∀p∈ps,zaf p.name fr=false:=fun hb p hp=>noB_same (hn p hp) hb
 clear h1 h2 h3 h4 hn e4;have EM:(0:Int)=0:=rfl;rcases hk with rfl|rfl|rfl|rfl|rfl|rfl|rfl|rfl|rfl
 all_goals
  simp only[zfP,zfS,Int.toNat_zero,Int.toNat_one,List.getD_cons_zero,show(2:Int).toNat=2 from rfl,show(3:Int).toNat=3 from rfl,show(4:Int).toNat=4 from rfl,show(5:Int).toNat=5 from rfl,show(6:Int).toNat=6 from rfl,show(7:Int).toNat=7 from rfl,show(8:Int).toNat=8 from rfl,List.getD_cons_succ]
 ·cases hb:noB fr
  ·simp
  ·rw[zhR (f:=⟨_,_,_,_,_,_,_,_⟩) (.inr (hg hb))];cases noB pl<;>cases hy:(yr==0)<;>cases hc:(cl==2)<;>simp
 ·exact M7
 ·exact M7
 ·cases hb:noB fr
  ·simp
  ·rw[zhR (f:=⟨_,_,_,_,_,_,_,_⟩) (.inr (hg hb))];cases noB pl<;>cases hy:(yr==0)<;>cases hc:(cl==0)<;>simp_all
 ·exact M7
 ·exact Mao
 ·exact Mao
 ·exact Mao
 ·exact M7
end Go.Proofs.YtjhbofabmpfniaaGreatDoor
namespace Go.Proofs.YtjhbofabmpfniaaGreatDoor
open Go.RowKit Go.Shelf
attribute [local go_sem] World.cell?_alloc_mark zae za3 zam za6 zas zat zau zav zaw zax zay
attribute [local go_sem] zaj zac
def intC (n:Nat):List Value:=[.int .i64 (n:Int)]
theorem zg8 (n:Nat):(intC n).length=1:=rfl
theorem intC_one (n:Nat): ∀u∈intC n,u.oneCell'=true:=by simp[intC,Value.oneCell']
theorem zg9 (x:Rec):(Rec.cells x).length=8:=rfl
theorem recC_one (x:Rec): ∀u∈Rec.cells x,u.oneCell'=true:=by simp[Rec.cells,Value.oneCell']
theorem elRec:ElTy Tryz.prog 106 105 8 88:=zd6 (z:= .agg #[.int .i64 0, .string ⟨#[]⟩, .string ⟨#[]⟩, .string ⟨#[]⟩, .int .i64 0, .int .i64 0, .int .i64 0, .int .i64 0]) Mco Mco rfl Mcp
theorem of_snoc {l:List Rec} {set:List Nat} {k:Nat} (hk:k<set.length) (hl:set[k]<l.length):ofP l (set.take (k+1))=ofP l (set.take k)++[l[set[k]]]:=by
 unfold ofP;rw[List.take_succ_eq_append_getElem hk,List.filterMap_append];simp[List.getElem?_eq_getElem hl]
theorem of_len (l:List Rec) (set:List Nat):(ofP l set).length<=set.length:=List.length_filterMap_le _ _
theorem sl_rec {w:World} {b:Nat} {x:Rec} {t:TypeId} {fr:Nat×Nat} (h:w.heap[b]?=some (.cells (Rec.cells x).toArray t fr)):Sl w 8 Rec.cells (some ⟨b,0,none⟩) [x]:=fun _=>⟨b,0,rfl,zab h,fun k y hy j u hu=>by
 have hk:k=0:=Mcz;subst hk;simp only[List.getElem?_cons_zero,Option.some.injEq]at hy;subst hy;simp only[World.cell?,h,Nat.zero_mul,Nat.zero_add,Nat.add_zero]
 simpa using hu⟩
theorem some_any (l:List Rec) (set:List Nat) (A:Option Addr) (c:Nat) (SA:Option Addr) (sc:Nat) (w:World) (hc:l.length<=c) (Gt:set.length<=sc) (aP:set.length<=1000) (aO: ∀i∈set,i<l.length) (hS:Sl w 8 Rec.cells A l) (hT:Sl w 1 intC SA set):
 Calls Tryz.prog 122 #[.slice A l.length c, .slice SA set.length sc] w (fun e w'=> ∃v,e= .returned v/\OwnS w' w.heap.size 105 8 Rec.cells v (ofP l set)/\Below w.heap.size w w'):=by
 have HS:=zHi hS;have HT:=zHi hT;have bF:=zHi aO;clear hS hT aO;go_enter Tryz.func122,Tryz.ntmps122
 go_wp2_with fail
 go_loopw [5,10] (fun v i wr=> ∃k:Nat,k<=set.length/\i= .int .i64 k/\OwnS wr w.heap.size 105 8 Rec.cells v (ofP l (set.take k))/\Below w.heap.size w wr) (fun _ i _=>set.length-(intOf i).toNat)
 case atStart=>exact⟨0,Nat.zero_le _,rfl,OwnS.nil,Below.refl _ _⟩
 case round=>
  obtain⟨k,hk,rfl,ae,hB⟩:=hrel;obtain⟨VA,vc,rfl,_,ka⟩:=ae.sl zg9;have HO:=zHi ae;have HB:=zHi hB;have aE:=hB.size;by_cases aa:k<set.length
  ·obtain⟨b,off,rfl,hb,ah⟩:=(HT.o.keep hB).at aa;have hi:=bF.o set[k] (List.getElem_mem aa);have bU:=of_snoc aa hi;have i0:wr.cell? ⟨b,off+k,none⟩=some (.int .i64 (set[k]:Int)):=McO;have iW:=of_len l (set.take k);rw[List.length_take]at iW;have ej:=zHi bU;clear bU ah;generalize set[k]=m at*;obtain⟨rb,roff,rfl,xT,oL⟩:=(HS.o.keep hB).at hi;have am:=zHi aa;generalize l[m]=x at*;generalize ofP l (set.take k)=acc at*;obtain⟨kd,nm,ot,pl,dy,tl,nu,de⟩:=x;have j0:wr.cell? ⟨rb,roff+m*8,none⟩=some (.int .i64 kd):=oL 0 _ rfl;have j1:wr.cell? ⟨rb,roff+m*8+1,none⟩=some (.string nm):=oL 1 _ rfl;have j2:wr.cell? ⟨rb,roff+m*8+2,none⟩=some (.string ot):=oL 2 _ rfl;have j3:wr.cell? ⟨rb,roff+m*8+3,none⟩=some (.string pl):=oL 3 _ rfl;have j4:wr.cell? ⟨rb,roff+m*8+4,none⟩=some (.int .i64 dy):=oL 4 _ rfl;have j5:wr.cell? ⟨rb,roff+m*8+5,none⟩=some (.int .i64 tl):=oL 5 _ rfl;have j6:wr.cell? ⟨rb,roff+m*8+6,none⟩=some (.int .i64 nu):=oL 6 _ rfl;have j7:wr.cell? ⟨rb,roff+m*8+7,none⟩=some (.int .i64 de):=oL 7 _ rfl;have ar:(k:Int)<(set.length:Int):=Mcn;have aT:(0:Int)<=(k:Int):=Mcn;have fH:(k:Int)<=(sc:Int):=Mcn;have fK:(m:Int)<(l.length:Int):=Mcn;have nD:(0:Int)<=(m:Int):=Mcn;have su:(m:Int)<=(c:Int):=Mcn;have jU:acc.length<=1000:=Mcn;clear oL ae hB iW
   go_wp2_with (at_builtin
                go_loud(refine za1 (v:= .slice VA acc.length vc) (n:=acc.length) (m:=1) rfl _ _ rfl elRec zg9 recC_one rfl (xs:=acc) (ys:=[⟨kd,nm,ot,pl,dy,tl,nu,de⟩]) (HO.o.keep (n:=wr.heap.size) Bw) rfl rfl rfl (sl_rec (zar _ _ _ rfl)) McL Mcn Mcr ?_)
                intro v3 w3 h1 h2 h3;have ay:=Below.grown (B:=w.heap.size) (a:=w) (HB.o.trans (Below.mono (B:=wr.heap.size) (zad (Below.refl _ _) _) aE)) h2 Mcr (fun j hj=>(HO.o.ge j hj).1);have H1:=zHi h1;have aH:=zHi ay
                clear h1 h2 h3 ay)
   go_round
   case rel=>exact⟨k+1,am.o,by go_num,by rw[ej.o];exact H1.o,aH.o⟩
   case measure=>have:=am.o;simp only[intOf];omega
  ·have ar: ¬(k:Int)<(set.length:Int):=Mcn;have xg:set.take k=set:=List.take_of_length_le Mcn;clear ae;generalize bw:ofP l (set.take k)=xs at*;rw[xg]at bw;subst bw;clear xg;go_wp2_with fail
   go_ret
   exact⟨_,rfl,HO.o,HB.o⟩
def zfq (d:Deed):Bool:=!(decide (20<d.place.size)||decide (20<d.frm.size)||decide (10<d.to.length))&&d.to.all fun p=>!decide (20<p.name.size)
def fewP (ls:List Law) (ds:List Deed):Bool:=!(decide (12<ls.length)||decide (14<ds.length))&&ds.all zfq
theorem zoD {d:Deed} (h:zfq d=true):zc8 d:=by
 unfold zfq at h;simp at h;obtain⟨⟨⟨h1,h2⟩,h3⟩,h4⟩:=h;exact⟨by omega,by omega,fun p hp=>by have:=h4 p hp;omega,by omega⟩
theorem few_lens {ls:List Law} {ds:List Deed} (h:fewP ls ds=true):(∀d∈ds,zc8 d)/\ls.length<=12/\ds.length<=14/\(∀d∈ds,d.to.length<=10):=by
 unfold fewP at h;simp at h;obtain⟨⟨h1,h2⟩,h3⟩:=h;refine⟨fun d hd=>zoD (h3 d hd),h1,h2,fun d hd=> ?_⟩;have:=h3 d hd;unfold zfq at this;simp at this;exact this.1.2
theorem brief_any (d:Deed) (B:Option Addr) (c:Nat) (w:World) (hc:d.to.length<=c) (hS:Sl w 3 RPart.cells B d.to):
 Calls Tryz.prog 34 #[d.v B c] w (Ret w (.bool (zfq d))):=by
 obtain⟨kd,dy,pl,fr,ts,cl,yr⟩:=d;have HS:=zHi hS;obtain⟨R,hR⟩: ∃R,R=zfq ⟨kd,dy,pl,fr,ts,cl,yr⟩:=⟨_,rfl⟩
 rw[<-hR];unfold zfq at hR;unfold Deed.v;simp only at hR hc hS⊢;clear hS;go_enter Tryz.func34,Tryz.ntmps34
 by_cases l1:20<pl.size
 ·have HE:Hid (R=false):=by show _=_;rw[hR,decide_eq_true l1];rfl
  have q1:(20:Int)<(pl.size:Int):=Mcn;exact Mal
 have q1: ¬(20:Int)<(pl.size:Int):=Mcn;by_cases l2:20<fr.size
 ·have HE:Hid (R=false):=by show _=_;rw[hR,decide_eq_true l2];simp
  have q2:(20:Int)<(fr.size:Int):=Mcn;exact Mal
 have q2: ¬(20:Int)<(fr.size:Int):=Mcn;by_cases l3:10<ts.length
 ·have HE:Hid (R=false):=by show _=_;rw[hR,decide_eq_true l3];simp
  have q3:(10:Int)<(ts.length:Int):=Mcn;exact Mal
 have q3: ¬(10:Int)<(ts.length:Int):=Mcn;have uS:Hid (R=(ts.drop 0).all fun p=>!decide (20<p.name.size)):=by
  show _=_;rw[hR,decide_eq_false l1,decide_eq_false l2,decide_eq_false l3,List.drop_zero];rfl
 clear hR;go_upto_region 3 with fail
 have k4:(w.alloc (.cells #[.int .i64 kd, .int .i64 dy, .string pl, .string fr, .slice B ts.length c, .int .i64 cl, .int .i64 yr] 52)).cell? ⟨w.heap.size,4,none⟩=some (.slice B ts.length c):=McQ;have hB:Below w.heap.size w (w.alloc (.cells #[.int .i64 kd, .int .i64 dy, .string pl, .string fr, .slice B ts.length c, .int .i64 cl, .int .i64 yr] 52)):=Bw;generalize w.alloc (.cells #[.int .i64 kd, .int .i64 dy, .string pl, .string fr, .slice B ts.length c, .int .i64 cl, .int .i64 yr] 52)=W at*;have zb:=zHi (HS.o.keep hB);have HB:=zHi hB;clear hB HS;go_upto_region 4 with fail
 go_loopw [3] (fun i wr=> ∃k:Nat,k<=ts.length/\i= .int .i64 k/\W=wr/\Hid (R=(ts.drop k).all fun p=>!decide (20<p.name.size))) (fun i _=>ts.length-(intOf i).toNat)
 case atStart=>exact⟨0,Nat.zero_le _,rfl,rfl,uS.o⟩
 case round=>
  obtain⟨k,hk,rfl,rfl,HX⟩:=hrel;by_cases aa:k<ts.length
  ·obtain⟨b,off,rfl,hb,ah⟩:=zb.o.at aa;have hx:=HX.o;rw[List.drop_eq_getElem_cons aa,List.all_cons]at hx;have av:=zHi hx;have am:=zHi aa;generalize ts[k]=x at*;obtain⟨nm,nu,de⟩:=x;have i0:W.cell? ⟨b,off+k*3,none⟩=some (.string nm):=ah 0 _ rfl;have ar:(k:Int)<(ts.length:Int):=Mcn;have aT:(0:Int)<=(k:Int):=Mcn;clear ah hx aa;by_cases l5:20<nm.size
   ·have HE:Hid (R=false):=by show _=_;rw[av.o];simp[l5]
    have q5:(20:Int)<(nm.size:Int):=Mcn;exact MU
   ·have q5: ¬(20:Int)<(nm.size:Int):=Mcn;have HE:Hid (R=(ts.drop (k+1)).all fun p=>!decide (20<p.name.size)):=by show _=_;rw[av.o];simp[l5]
    go_wp2_with fail
    exact MI
  ·have ar: ¬(k:Int)<(ts.length:Int):=Mcn;have HE:Hid (R=true):=by show _=_;rw[HX.o,List.drop_of_length_le Mcn];rfl
   exact MU
theorem few_any (ls:List Law) (ds:List Deed) (LA:Option Addr) (n nc:Nat) (DA:Option Addr) (m mc:Nat) (w:World) (hR:RightsIn w ls ds LA n nc DA m mc):
 Calls Tryz.prog 14 #[.agg #[.slice LA n nc, .slice DA m mc]] w (Ret w (.bool (fewP ls ds))):=by
 obtain⟨rfl,rfl,xB,su,_,hD⟩:=hR;have HD:=zHi hD;obtain⟨R,hR⟩: ∃R,R=fewP ls ds:=⟨_,rfl⟩
 rw[<-hR];unfold fewP at hR;clear hD;go_enter Tryz.func14,Tryz.ntmps14
 by_cases l1:12<ls.length
 ·have HE:Hid (R=false):=by show _=_;rw[hR,decide_eq_true l1];rfl
  have q1:(12:Int)<(ls.length:Int):=Mcn;exact Mal
 have q1: ¬(12:Int)<(ls.length:Int):=Mcn;by_cases l2:14<ds.length
 ·have HE:Hid (R=false):=by show _=_;rw[hR,decide_eq_true l2];simp
  have q2:(14:Int)<(ds.length:Int):=Mcn;exact Mal
 have q2: ¬(14:Int)<(ds.length:Int):=Mcn;have uS:Hid (R=(ds.drop 0).all zfq):=by
  show _=_;rw[hR,decide_eq_false l1,decide_eq_false l2,List.drop_zero];rfl
 clear hR;go_upto_region 3 with fail
 have k4:(w.alloc (.cells #[.slice LA ls.length nc, .slice DA ds.length mc] 25)).cell? ⟨w.heap.size,1,none⟩=some (.slice DA ds.length mc):=McQ;have hB:Below w.heap.size w (w.alloc (.cells #[.slice LA ls.length nc, .slice DA ds.length mc] 25)):=Bw;have hsz:w.heap.size<(w.alloc (.cells #[.slice LA ls.length nc, .slice DA ds.length mc] 25)).heap.size:=Mcq;generalize w.alloc (.cells #[.slice LA ls.length nc, .slice DA ds.length mc] 25)=W at*;have jN:=zHi (HD.o.keep zbM hB);have HB:=zHi hB;clear hB HD;go_upto_region 4 with fail
 go_loopw [3] (fun i wr=> ∃k:Nat,k<=ds.length/\i= .int .i64 k/\Hid (R=(ds.drop k).all zfq)/\Below W.heap.size W wr) (fun i _=>ds.length-(intOf i).toNat)
 case atStart=>exact⟨0,Nat.zero_le _,rfl,uS.o,Below.refl _ _⟩
 case round=>
  obtain⟨k,hk,rfl,HX,nt⟩:=hrel;have j4:wr.cell? ⟨w.heap.size,1,none⟩=some (.slice DA ds.length mc):=(zah nt hsz).trans k4;have zO:=nt.size;by_cases aa:k<ds.length
  ·obtain⟨b,off,cs,hA,hb,hr,ah⟩:=(jN.o.keep zbM nt).at aa;have hx:=HX.o;rw[List.drop_eq_getElem_cons aa,List.all_cons]at hx;have av:=zHi hx;have am:=zHi aa;generalize ds[k]=x at*;obtain⟨B,c,hc,rfl,hS⟩:=hr;have yI:=zHi (fun W' (h:Below wr.heap.size wr W')=>brief_any x B c W' hc (hS.keep h));unfold Deed.v at yI;subst hA;have i0:=ah 0 _ rfl;have i1:=ah 1 _ rfl;have i2:=ah 2 _ rfl;have i3:=ah 3 _ rfl;have i4:=ah 4 _ rfl;have i5:=ah 5 _ rfl;have i6:=ah 6 _ rfl;simp only[Nat.add_zero]at i0;have ar:(k:Int)<(ds.length:Int):=Mcn;have aT:(0:Int)<=(k:Int):=Mcn;have aW:=zHi nt;generalize zfq x=q at*;clear ah hx aa hS nt;cases q
   ·have HE:Hid (R=false):=MdH;go_wp2_with (go_at_call 34;go_must(refine(yI.o _ Bw).mono ?_);rintro e wq ⟨rfl,z,rfl⟩)
    go_ret
    exact Ret.of (zaQ HE.o.symm) (HB.o.trans ((aW.o.trans (Below.mono (B:=wr.heap.size) Bw zO)).mono HB.o.size))
   ·have HE:Hid (R=(ds.drop (k+1)).all zfq):=MdH;go_wp2_with (go_at_call 34;go_must(refine(yI.o _ Bw).mono ?_);rintro e wq ⟨rfl,z,rfl⟩)
    go_round
    case rel=>exact⟨k+1,am.o,by go_num,HE.o,aW.o.trans (Below.mono (B:=wr.heap.size) Bw zO)⟩
    case measure=>have:=am.o;simp only[intOf];omega
  ·have ar: ¬(k:Int)<(ds.length:Int):=Mcn;have HE:Hid (R=true):=by show _=_;rw[HX.o,List.drop_of_length_le Mcn];rfl
   have aW:=zHi nt;clear nt;go_wp2_with fail
   go_ret
   exact Ret.of (zaQ HE.o.symm) (HB.o.trans (aW.o.mono HB.o.size))
def zgA (w:World) (xs:Parts) (e:Ending) (w':World):Prop:= ∃v,e= .returned v/\OwnS w' w.heap.size 75 3 zaa v xs/\Below w.heap.size w w'
theorem zdd {w:World} {b:Nat} {t:TypeId} {fr:Nat×Nat} {x:ByteArray×Rat} (h:w.heap[b]?=some (.cells #[.string x.1, .int .i64 x.2.num, .int .i64 x.2.den] t fr)):Sl w 3 zaa (some ⟨b,0,none⟩) [x]:=fun _=>
 ⟨b,0,rfl,zab h,fun k y hk j u hu=>by
   match k,hk with
   |0,hk=>
    obtain rfl:x=y:=by simpa using hk
    simp only[World.cell?,h];match j,hu with
    |0,hu|1,hu|2,hu=>exact hu⟩
theorem zoE {l:Parts} {k:Nat} (h:k<l.length):zaF (l.drop k)=(bigQ l[k].2||zaF (l.drop (k+1))):=by
 rw[List.drop_eq_getElem_cons h];rfl
theorem zdI (l:Parts) (A:Option Addr) (c:Nat) (w:World) (hl:l.length<=1000000000) (hS:Sl w 3 zaa A l):Calls Tryz.prog 90 #[.slice A l.length c] w (Ret0 w (.bool (zaF l))):=by
 have HS:=zHi hS;obtain⟨R,hR⟩: ∃R,R=zaF l:=⟨_,rfl⟩
 rw[<-hR];have HR:=zHi hR;clear hS hR;go_enter Tryz.func90,Tryz.ntmps90
 go_upto_region 2 with fail
 go_loopw [3] (fun i wr=> ∃k:Nat,k<=l.length/\i= .int .i64 k/\w=wr/\Hid (R=zaF (l.drop k))) (fun i _=>l.length-(intOf i).toNat)
 case atStart=>exact⟨0,Nat.zero_le _,rfl,rfl,HR.o⟩
 case round=>
  obtain⟨k,hk,rfl,rfl,HX⟩:=hrel;by_cases aa:k<l.length
  ·obtain⟨b,off,rfl,hb,ah⟩:=HS.o.at aa;have hx:=HX.o;rw[zoE aa]at hx;have av:=zHi hx;have am:=zHi aa;generalize l[k]=x at*;obtain⟨nm,q⟩:=x;have i2:w.cell? ⟨b,off+k*3+2,none⟩=some (.int .i64 q.den):=ah 2 _ rfl;have ar:(k:Int)<(l.length:Int):=Mcn;have aT:(0:Int)<=(k:Int):=Mcn;clear ah hx aa;by_cases hs:1000000000<(q.den:Int)
   ·have HE:Hid (R=true):=by show _=_;rw[av.o];simp[bigQ,hs]
    exact M8
   ·have HE:Hid (R=zaF (l.drop (k+1))):=by show _=_;rw[av.o];simp[bigQ,hs]
    go_wp2_with fail
    exact MI
  ·have ar: ¬(k:Int)<(l.length:Int):=Mcn;have HE:Hid (R=false):=by show _=_;rw[HX.o,List.drop_of_length_le Mcn];rfl
   exact M8
theorem zhz {l:Parts} {n:ByteArray} {k:Nat} (h:k<l.length):za0 (l.take (k+1)) n=za0 (l.take k) n++(if zaf l[k].1 n then[]else[l[k]]):=by
 unfold za0;rw[List.take_add_one,List.getElem?_eq_getElem h,List.filter_append];simp only[Option.toList_some,List.filter_cons,List.filter_nil];cases zaf l[k].1 n<;>rfl
theorem zh0 (l:Parts) (n:ByteArray) (A:Option Addr) (c:Nat) (w:World) (hl:l.length<=100000) (hS:Sl w 3 zaa A l):Calls Tryz.prog 114 #[.slice A l.length c, .string n] w (zgA w (za0 l n)):=by
 have HS:=zHi hS;unfold zgA;clear hS;go_enter Tryz.func114,Tryz.ntmps114
 go_upto_region 3 with fail
 go_loopw [5,6] (fun v i wr=> ∃k:Nat,k<=l.length/\i= .int .i64 k/\OwnS wr w.heap.size 75 3 zaa v (za0 (l.take k) n)/\Below w.heap.size w wr) (fun _ i _=>l.length-(intOf i).toNat)
 case atStart=>exact⟨0,Nat.zero_le _,rfl,OwnS.nil,Below.refl _ _⟩
 case round=>
  obtain⟨k,hk,rfl,ae,hB⟩:=hrel;have aE:=hB.size;have HO:=zHi ae;have HB:=zHi hB;by_cases aa:k<l.length
  ·have aj:=zhz (n:=n) aa;have bv:(za0 (l.take k) n).length<=100000:=by
    exact MaS
   generalize za0 (l.take k) n=xs at*;obtain⟨VA,vc,rfl,_,ka⟩:=ae.sl zao;obtain⟨b,off,rfl,hb,ah⟩:=(HS.o.keep hB).at aa;have am:=zHi aa;generalize l[k]=x at*;obtain⟨nm,q⟩:=x;have i0:wr.cell? ⟨b,off+k*3,none⟩=some (.string nm):=ah 0 _ rfl;have i1:wr.cell? ⟨b,off+k*3+1,none⟩=some (.int .i64 q.num):=ah 1 _ rfl;have i2:wr.cell? ⟨b,off+k*3+2,none⟩=some (.int .i64 q.den):=ah 2 _ rfl;have ar:(k:Int)<(l.length:Int):=Mcn;have aT:(0:Int)<=(k:Int):=Mcn;have fP:=zHi bv;clear ah aa ae hB bv;cases hs:zaf nm n
   ·have aD:Hid (za0 (l.take (k+1)) n=xs++[(nm,q)]):=Md2;have bp:(nm.toList==n.toList)=false:=hs;clear aj hs
    go_wp2_with (at_builtin
                 go_loud(refine za1 (v:= .slice VA xs.length vc) (n:=xs.length) (m:=1) rfl _ _ rfl zdU zao zce rfl (xs:=xs) (ys:=[(nm,q)]) (HO.o.keep (n:=wr.heap.size) Bw) rfl rfl rfl (zdd (zar _ _ _ rfl)) McX Mc3 Mcr ?_)
                 intro v3 w3 h1 h2 h3;have ay:=Below.grown (B:=w.heap.size) (a:=w) (HB.o.trans (Below.mono (B:=wr.heap.size) (zad (Below.refl _ _) _) aE)) h2 Mcr (fun j hj=>(HO.o.ge j hj).1);have H1:=zHi h1;have aH:=zHi ay
                 clear h1 h2 h3 ay)
    exact Mah
   ·have aD:Hid (za0 (l.take (k+1)) n=xs):=Md2;have bp:(nm.toList==n.toList)=true:=hs;exact MaJ
  ·exact MaN
theorem zl9 (a b:ByteArray):zaf a b=zaf b a:=by rw[Bool.eq_iff_iff,za2,za2];exact⟨Eq.symm,Eq.symm⟩
theorem zdy (xs:List ByteArray) (s:ByteArray) (A:Option Addr) (c:Nat) (w:World) (hl:xs.length<=100000) (hc:xs.length<=c) (hS:Sl w 1 sC A xs):
 Calls Tryz.prog 83 #[.slice A xs.length c, .string s] w (Ret0 w (.bool (xs.any (zaf s)))):=by
 have HS:=zHi hS;obtain⟨R,hR⟩: ∃R,R=(xs.drop 0).any (zaf s):=⟨_,rfl⟩
 rw[show xs.any (zaf s)=R from by rw[hR];rfl];have HR:=zHi hR;clear hS hR;go_enter Tryz.func83,Tryz.ntmps83
 go_wp2_with fail
 go_loopw [5] (fun i wr=> ∃j:Nat,j<=xs.length/\i= .int .i64 j/\w=wr/\Hid (R=(xs.drop j).any (zaf s))) (fun i _=>xs.length-(intOf i).toNat)
 case atStart=>exact⟨0,Nat.zero_le _,rfl,rfl,HR.o⟩
 case round=>
  obtain⟨j,hj,rfl,rfl,HX⟩:=hrel;by_cases aa:j<xs.length
  ·obtain⟨b,off,rfl,hb,ah⟩:=HS.o.at aa;have hx:=HX.o;rw[List.drop_eq_getElem_cons aa,List.any_cons]at hx;have av:=zHi hx;have am:=zHi aa;generalize xs[j]=x at*;have x0:w.cell? ⟨b,off+j,none⟩=some (.string x):=McO;have bE:(j:Int)<(xs.length:Int):=Mcn;have tN:(0:Int)<=(j:Int):=Mcn;clear hx ah aa;cases he:(x.toList==s.toList)
   ·have mw:zaf s x=false:=by rw[zl9];exact he
    have ut:=zHi mw;clear mw;go_wp2_with fail
    go_round
    case rel=>exact⟨j+1,am.o,by go_num,by first|exact True.intro|rfl,by show _=_;rw[av.o,ut.o,Bool.false_or]⟩
    case measure=>have:=am.o;simp only[intOf];omega
   ·have mw:zaf s x=true:=by rw[zl9];exact he
    have ut:=zHi mw;clear mw;go_wp2_with fail
    go_ret
    exact⟨by rw[av.o,ut.o,Bool.true_or];rfl,rfl⟩
  ·have pN: ¬((j:Int)<(xs.length:Int)):=Mcn;have hx:=HX.o;rw[List.drop_of_length_le Mcn,List.any_nil]at hx;have av:=zHi hx;clear hx;go_wp2_with fail
   go_ret
   exact⟨by rw[av.o];rfl,rfl⟩
theorem zeK (dd:List ByteArray) (n:ByteArray) (LA CA MA DA WA RA GA:Option Addr) (n0 c0 n1 c1 n2 c2 n3 c3 n4 c4 n5 c5 n6 c6:Nat) (w:World) (hl:dd.length<=100000) (hc:dd.length<=c3) (hS:Sl w 1 sC DA dd):
 Calls Tryz.prog 32 #[.agg #[.slice LA n0 c0, .slice CA n1 c1, .slice MA n2 c2, .slice DA dd.length c3, .slice WA n4 c4, .slice RA n5 c5, .slice GA n6 c6], .string n] w (Ret w (.bool (dd.any (zaf n)))):=by
 have qz:=zHi (fun W (h:Below w.heap.size w W)=>zdy dd n DA c3 W hl hc (hS.keep h));generalize dd.any (zaf n)=R at*;clear hS;go_enter Tryz.func32,Tryz.ntmps32
 go_wp2_with (go_at_call 83;go_must(refine(qz.o _ Bw).mono ?_);rintro e wq ⟨rfl,rfl⟩)
 go_ret
 exact Ret.of rfl Bw
def zdi (cs:List (ByteArray×ByteArray)) (n:ByteArray):List ByteArray:=(cs.filter fun c=>zaf c.1 n).map (·.2)
theorem kids_snoc {cs:List (ByteArray×ByteArray)} {n:ByteArray} {k:Nat} (h:k<cs.length):zdi (cs.take (k+1)) n=zdi (cs.take k) n++(if zaf cs[k].1 n then[cs[k].2]else[]):=by
 unfold zdi;rw[List.take_add_one,List.getElem?_eq_getElem h,List.filter_append,List.map_append];simp only[Option.toList_some,List.filter_cons,List.filter_nil];cases zaf cs[k].1 n<;>rfl
def zdz (w:World) (xs:List ByteArray) (e:Ending) (w':World):Prop:= ∃v,e= .returned v/\OwnS w' w.heap.size 9 1 sC v xs/\Below w.heap.size w w'
theorem zga {w:World} {b:Nat} {t:TypeId} {fr:Nat×Nat} {x:ByteArray} (h:w.heap[b]?=some (.cells #[.string x] t fr)):Sl w 1 sC (some ⟨b,0,none⟩) [x]:=fun _=>
 ⟨b,0,rfl,zab h,fun k y hk j u hu=>by
   match k,hk with
   |0,hk=>
    obtain rfl:x=y:=by simpa using hk
    simp only[World.cell?,h];match j,hu with
    |0,hu=>exact hu⟩
theorem zgB (cs:List (ByteArray×ByteArray)) (n:ByteArray) (LA CA MA DA WA RA GA:Option Addr) (n0 c0 n1 c1 n2 c2 n3 c3 n4 c4 n5 c5 n6 c6:Nat) (w:World) (hl:cs.length<=100000) (hS:Sl w 2 zaT CA cs):
 Calls Tryz.prog 101 #[.agg #[.slice LA n0 c0, .slice CA cs.length c1, .slice MA n2 c2, .slice DA n3 c3, .slice WA n4 c4, .slice RA n5 c5, .slice GA n6 c6], .string n] w (zdz w (zdi cs n)):=by
 have g7:=zHi hS;unfold zdz;clear hS;go_enter Tryz.func101,Tryz.ntmps101
 go_upto_region 1 with fail
 obtain⟨W0,ao⟩: ∃W0,W0=w.alloc (.cells #[.slice LA n0 c0, .slice CA cs.length c1, .slice MA n2 c2, .slice DA n3 c3, .slice WA n4 c4, .slice RA n5 c5, .slice GA n6 c6] 36):=⟨_,rfl⟩
 have b0:W0.heap[w.heap.size]?=some (.cells #[.slice LA n0 c0, .slice CA cs.length c1, .slice MA n2 c2, .slice DA n3 c3, .slice WA n4 c4, .slice RA n5 c5, .slice GA n6 c6] 36):=Mc9;have aJ:Below w.heap.size w W0:=McU;rw[<-ao];have ak:=zHi aJ;have HS:=zHi (g7.o.keep aJ);obtain⟨-,k1⟩:=cF2 b0;have l0:=zab b0;clear ao b0 aJ g7;go_upto_region 3 with fail
 go_loopw [5,6] (fun v i wr=> ∃k:Nat,k<=cs.length/\i= .int .i64 k/\OwnS wr W0.heap.size 9 1 sC v (zdi (cs.take k) n)/\Below W0.heap.size W0 wr) (fun _ i _=>cs.length-(intOf i).toNat)
 case atStart=>exact⟨0,Nat.zero_le _,rfl,OwnS.nil,Below.refl _ _⟩
 case round=>
  obtain⟨k,hk,rfl,ae,hB⟩:=hrel;have aE:=hB.size;have HO:=zHi ae;have HB:=zHi hB;have d1:wr.cell? ⟨w.heap.size,1,none⟩=some (.slice CA cs.length c1):=(zah hB l0).trans k1;by_cases aa:k<cs.length
  ·have aj:=kids_snoc (n:=n) aa;have bv:(zdi (cs.take k) n).length<=100000:=by
    unfold zdi;rw[List.length_map];exact MaS
   generalize zdi (cs.take k) n=xs at*;obtain⟨VA,vc,rfl,_,ka⟩:=ae.sl zaD;obtain⟨b,off,rfl,hb,ah⟩:=(HS.o.keep hB).at aa;have am:=zHi aa;generalize cs[k]=x at*;obtain⟨nm,kd⟩:=x;have i0:wr.cell? ⟨b,off+k*2,none⟩=some (.string nm):=ah 0 _ rfl;have i1:wr.cell? ⟨b,off+k*2+1,none⟩=some (.string kd):=ah 1 _ rfl;have ar:(k:Int)<(cs.length:Int):=Mcn;have aT:(0:Int)<=(k:Int):=Mcn;have fP:=zHi bv;clear ah aa ae hB bv;cases hs:zaf nm n
   ·have aD:Hid (zdi (cs.take (k+1)) n=xs):=Md2;have bp:(nm.toList==n.toList)=false:=hs;exact MaJ
   ·have aD:Hid (zdi (cs.take (k+1)) n=xs++[kd]):=Md2;have bp:(nm.toList==n.toList)=true:=hs;clear aj hs
    go_wp2_with (at_builtin
                 go_loud(refine za1 (v:= .slice VA xs.length vc) (n:=xs.length) (m:=1) rfl _ _ rfl zbL zaD zbK rfl (xs:=xs) (ys:=[kd]) (HO.o.keep (n:=wr.heap.size) Bw) rfl rfl rfl (zga (zar _ _ _ rfl)) McX Mc3 Mcr ?_)
                 intro v3 w3 h1 h2 h3;have ay:=Below.grown (B:=W0.heap.size) (a:=W0) (HB.o.trans (Below.mono (B:=wr.heap.size) (zad (Below.refl _ _) _) aE)) h2 Mcr (fun j hj=>(HO.o.ge j hj).1);have H1:=zHi h1;have aH:=zHi ay
                 clear h1 h2 h3 ay)
    exact Mah
  ·have ar: ¬(k:Int)<(cs.length:Int):=Mcn;rw[List.take_of_length_le Mcn]at HO;clear ae hB;go_wp2_with fail
   go_ret
   exact⟨_,rfl,HO.o.base_le ak.o.size,ak.o.trans (HB.o.mono ak.o.size)⟩
def ixI {α:Type} (p:α->Bool) (l:List α) (k:Nat):Int:=match(l.drop k).findIdx? p with
 |none=> -1
 |some i=>((k+i:Nat):Int)
theorem ixI_step {α:Type} {p:α->Bool} {l:List α} {k:Nat} (h:k<l.length):ixI p l k=if p l[k]then(k:Int)else ixI p l (k+1):=by
 unfold ixI;rw[List.drop_eq_getElem_cons h,List.findIdx?_cons];cases hs:p l[k]
 ·rw[if_neg Mcq,if_neg Mcq];cases(l.drop (k+1)).findIdx? p with
  |none=>rfl
  |some i=>
   simp only[Option.map_some];omega
 ·rw[if_pos rfl,if_pos rfl];simp
theorem ixI_end {α:Type} {p:α->Bool} {l:List α} {k:Nat} (h: ¬k<l.length):ixI p l k= -1:=by
 unfold ixI;rw[List.drop_of_length_le Mcn];rfl
def zlA (place:ByteArray) (day:Int) (g:Grave):Bool:=zaf g.place place&&zaU g day
def zk6 (gs:List Grave) (place:ByteArray) (day:Int):Int:=ixI (zlA place day) gs 0
theorem znY (s:St) (place:ByteArray) (day:Int):zk6 s.graves place day=match zaO s place day with
 |none=> -1
 |some i=>(i:Int):=by
 unfold zk6 ixI zaO;rw[List.drop_zero];show(match s.graves.findIdx? (zlA place day)with|none=>(-1:Int)|some i=>((0+i:Nat):Int))=match s.graves.findIdx? (zlA place day)with|none=>(-1:Int)|some i=>(i:Int)
 cases s.graves.findIdx? (zlA place day)with
 |none=>rfl
 |some i=>simp
theorem zoF (gs:List Grave) (place:ByteArray) (day:Int) (LA CA MA DA WA RA GA:Option Addr) (n0 c0 n1 c1 n2 c2 n3 c3 n4 c4 n5 c5 n6 c6:Nat) (w:World) (hl:gs.length<=100000) (hS:SlW w 5 zid GA gs):
 Calls Tryz.prog 23 #[.agg #[.slice LA n0 c0, .slice CA n1 c1, .slice MA n2 c2, .slice DA n3 c3, .slice WA n4 c4, .slice RA n5 c5, .slice GA gs.length c6], .string place, .int .i64 day] w (Ret w (.int .i64 (zk6 gs place day))):=by
 have g7:=zHi hS;obtain⟨R,hR⟩: ∃R,R=zk6 gs place day:=⟨_,rfl⟩
 rw[<-hR];have HR:=zHi hR;clear hS hR;go_enter Tryz.func23,Tryz.ntmps23
 go_upto_region 1 with fail
 obtain⟨W0,ao⟩: ∃W0,W0=w.alloc (.cells #[.slice LA n0 c0, .slice CA n1 c1, .slice MA n2 c2, .slice DA n3 c3, .slice WA n4 c4, .slice RA n5 c5, .slice GA gs.length c6] 36):=⟨_,rfl⟩
 have b0:W0.heap[w.heap.size]?=some (.cells #[.slice LA n0 c0, .slice CA n1 c1, .slice MA n2 c2, .slice DA n3 c3, .slice WA n4 c4, .slice RA n5 c5, .slice GA gs.length c6] 36):=Mc9;have aJ:Below w.heap.size w W0:=McU;rw[<-ao];have ak:=zHi aJ;have HS:=zHi (g7.o.keep zfT aJ);obtain⟨-,-,-,-,-,-,k1⟩:=cF7 b0;have l0:=zab b0;clear ao b0 aJ g7;go_upto_region 2 with fail
 go_loopw [7,8] (fun i _ wr=> ∃k:Nat,k<=gs.length/\i= .int .i64 k/\Hid (R=ixI (zlA place day) gs k)/\Below W0.heap.size W0 wr) (fun i _ _=>gs.length-(intOf i).toNat)
 case atStart=>exact⟨0,Nat.zero_le _,rfl,HR.o,Below.refl _ _⟩
 case round=>
  obtain⟨k,hk,rfl,HX,hB⟩:=hrel;have aE:=hB.size;have HB:=zHi hB;have d1:wr.cell? ⟨w.heap.size,6,none⟩=some (.slice GA gs.length c6):=(zah hB l0).trans k1;by_cases aa:k<gs.length
  ·obtain⟨b,off,cs,hA,hb,hr,ah⟩:=(HS.o.keep zfT hB).at aa;have hx:=HX.o;rw[ixI_step aa]at hx;have av:=zHi hx;have am:=zHi aa;generalize gs[k]=x at*;obtain⟨H,hc,D,dc,rfl,_,_⟩:=hr;obtain⟨pl,cl,fi,hd,di⟩:=x;subst hA;have i0:=ah 0 _ rfl;have i1:=ah 1 _ rfl;have i2:=ah 2 _ rfl;have i3:=ah 3 _ rfl;have i4:=ah 4 _ rfl;simp only[Nat.add_zero]at i0 i1 i2 i3 i4;have ar:(k:Int)<(gs.length:Int):=Mcn;have aT:(0:Int)<=(k:Int):=Mcn;clear ah aa hB hx;go_upto_region 5 with fail
   obtain⟨WZ,fw⟩: ∃WZ,WZ=wr.alloc (.cells #[.string pl, .int .i64 cl, .int .i64 fi, .slice H hd.length hc, .slice D di.length dc] 49):=⟨_,rfl⟩
   have a0:WZ.heap[wr.heap.size]?=some (.cells #[.string pl, .int .i64 cl, .int .i64 fi, .slice H hd.length hc, .slice D di.length dc] 49):=by rw[fw];exact zar _ _ _ rfl
   have eV:Below W0.heap.size W0 WZ:=by rw[fw];exact zad HB.o _
   rw[<-fw];have fF:=zHi eV;obtain⟨p0,-,p2,p3⟩:=cF4 a0;clear fw a0 eV i0 i1 i2 i3 i4;cases dw:zaf pl place
   ·have bp:(pl.toList==place.toList)=false:=dw;exact MP
   ·have bp:(pl.toList==place.toList)=true:=dw;by_cases hz:0<hd.length
    ·have j9:(0:Int)<(hd.length:Int):=Mcn;have ja:hd.isEmpty=false:=by cases hd<;>simp_all
     by_cases hf:fi<0
     ·exact Maw
     ·by_cases hy:day<fi
      ·exact Maw
      ·exact MP
    ·have j9: ¬(0:Int)<(hd.length:Int):=Mcn;have ja:hd.isEmpty=true:=by cases hd<;>simp_all
     exact MP
  ·have ar: ¬(k:Int)<(gs.length:Int):=Mcn;have HE:Hid (R= -1):=by show _=_;rw[HX.o,ixI_end aa]
   clear hB;go_wp2_with fail
   go_ret
   exact Ret.of (zb1 HE.o.symm) (ak.o.trans (HB.o.mono ak.o.size))
theorem zhS (w:World):Calls Tryz.prog 85 #[] w (Ret w (.agg #[.int .i64 1, .int .i64 1])):=by
 go_enter Tryz.func85,Tryz.ntmps85
 go_wp2_with fail
 refine bodyPost_ret (v:= .agg #[.int .i64 1, .int .i64 1]) ?_ rfl ?_
 ·exact MbG
 ·exact Ret.of rfl Bw
theorem rQuoI (a b c d:Int) (w:World) (ha:a.natAbs<=1000000000) (hb:b.natAbs<=1000000000) (hc:c.natAbs<=1000000000) (hd:d.natAbs<=1000000000) (aY:0<b) (ir:0<d) (gB:0<c):Calls Tryz.prog 236 #[.agg #[.int .i64 a, .int .i64 b], .agg #[.int .i64 c, .int .i64 d]] w (Ret w (zaB (Rat.divInt (a*d) (b*c)))):=by
 have m1:=zaP ha hd;have m2:=zaP hc hb;have m3:=zaP hb hd;have m4:0<b*d:=Int.mul_pos aY ir;obtain⟨m1,n1⟩:=m1;obtain⟨m2,n2⟩:=m2;obtain⟨m3,n3⟩:=m3;have w1:IntKind.i64.wrap (a*d)=a*d:=IntWalk.i64_in _ Mcn;have w2:IntKind.i64.wrap (c*b)=c*b:=IntWalk.i64_in _ Mcn;have w3:IntKind.i64.wrap (b*d)=b*d:=IntWalk.i64_in _ Mcn;have m5:=zaP ha hc;obtain⟨m5,n5⟩:=m5;have m6:=zaP hb hc;obtain⟨m6,n6⟩:=m6;have w5:IntKind.i64.wrap (a*c)=a*c:=IntWalk.i64_in _ Mcn;have w6:IntKind.i64.wrap (b*c)=b*c:=IntWalk.i64_in _ Mcn;have hs:(a*d).natAbs<=4611686018427387904:=Mcn;have hl:(b*c)<=4611686018427387904:=Mcn;have h4:0<(b*c):=Int.mul_pos aY gB;have HS:=zHi hs;have HL:=zHi hl;have H4:=zHi h4;clear hs hl m4 h4 ha hb hc hd;go_enter Tryz.func236,Tryz.ntmps236
 go_wp2_with (go_at_call 94;go_must(refine(zeI _ _ _ HS.o H4.o HL.o).mono ?_);rintro e w1 ⟨rfl,z1,rfl⟩;simp only[zaB])
 refine bodyPost_ret (v:=zaB (Rat.divInt (a*d) (b*c))) ?_ rfl ?_
 ·exact Mak
 ·exact Ret.of rfl Bw
theorem rQuo_any (p q:Rat) (w:World) (cn:zaI p) (dQ:zaI q) (h0:0<q):Calls Tryz.prog 236 #[zaB p,zaB q] w (Ret w (zaB (p/q))):=by
 rw[zjx p q h0];exact rQuoI _ _ _ _ _ cn.1 (by have:=cn.2;omega) dQ.1 (by have:=dQ.2;omega) (zbW p) (zbW q) Mdz
def renT (n frm:ByteArray) (d:Deed):Bool:=zaf d.frm n&&zaf (zbf d) frm
def ableR (rd:List Deed) (dd:List ByteArray) (n frm:ByteArray):Bool:=!rd.any (renT n frm)&&(!noB n&&(!zaf n frm&&!dd.any (zaf n)))
theorem ableR_eq (s:St) (rd:List Deed) (h:s.renounce=rd.map fun d=>(d.frm,zbf d)) (n frm:ByteArray):ableR rd s.dead n frm=zdZ s n frm:=by
 unfold ableR zdZ zaK;rw[h,List.any_map];show(!rd.any (renT n frm)&&(!noB n&&(!zaf n frm&&!s.dead.any (zaf n))))=(!noB n&&!zaf n frm&&!s.dead.any (zaf n)&&!rd.any (renT n frm))
 cases rd.any (renT n frm)<;>cases noB n<;>cases zaf n frm<;>cases s.dead.any (zaf n)<;>rfl
theorem rAble_any (rd:List Deed) (dd:List ByteArray) (n frm:ByteArray) (LA CA MA DA WA RA GA:Option Addr) (n0 c0 n1 c1 n2 c2 n3 c3 n4 c4 n5 c5 n6 c6:Nat) (w:World) (hl:rd.length<=100000) (nH: ∀d∈rd,d.to≠[]) (hS:SlW w 7 zfc RA rd) (bu:dd.length<=100000) (kU:dd.length<=c3) (hD:Sl w 1 sC DA dd):
 Calls Tryz.prog 86 #[.agg #[.slice LA n0 c0, .slice CA n1 c1, .slice MA n2 c2, .slice DA dd.length c3, .slice WA n4 c4, .slice RA rd.length c5, .slice GA n6 c6], .string n, .string frm] w (Ret w (.bool (ableR rd dd n frm))):=by
 have g7:=zHi hS;have Iz:=zHi nH;have ib:=zHi (fun W (h:Below w.heap.size w W)=>zeK dd n LA CA MA DA WA RA GA n0 c0 n1 c1 n2 c2 dd.length c3 n4 c4 rd.length c5 n6 c6 W bu kU (hD.keep h));obtain⟨R,hR⟩: ∃R,R=ableR rd dd n frm:=⟨_,rfl⟩
 rw[<-hR];obtain⟨D,EU⟩: ∃D,D=dd.any (zaf n):=⟨_,rfl⟩
 unfold ableR at hR;rw[<-EU]at hR ib;have HR:Hid (R=(!(rd.drop 0).any (renT n frm)&&(!noB n&&(!zaf n frm&&!D)))):=Mei;clear hS hR nH hD EU;go_enter Tryz.func86,Tryz.ntmps86
 go_upto_region 1 with fail
 obtain⟨W0,ao⟩: ∃W0,W0=w.alloc (.cells #[.slice LA n0 c0, .slice CA n1 c1, .slice MA n2 c2, .slice DA dd.length c3, .slice WA n4 c4, .slice RA rd.length c5, .slice GA n6 c6] 36):=⟨_,rfl⟩
 have b0:W0.heap[w.heap.size]?=some (.cells #[.slice LA n0 c0, .slice CA n1 c1, .slice MA n2 c2, .slice DA dd.length c3, .slice WA n4 c4, .slice RA rd.length c5, .slice GA n6 c6] 36):=Mc9;have aJ:Below w.heap.size w W0:=McU;rw[<-ao];have ak:=zHi aJ;have HS:=zHi (g7.o.keep zbM aJ);obtain⟨k0,k1,k2,k3,k4,k5,k6⟩:=cF7 b0;clear ao b0 aJ g7;go_upto_region 2 with fail
 go_loopw [7] (fun i wr=> ∃k:Nat,k<=rd.length/\i= .int .i64 k/\W0=wr/\Hid (R=(!(rd.drop k).any (renT n frm)&&(!noB n&&(!zaf n frm&&!D))))) (fun i _=>rd.length-(intOf i).toNat)
 case atStart=>exact⟨0,Nat.zero_le _,rfl,rfl,HR.o⟩
 case round=>
  obtain⟨k,hk,rfl,rfl,HX⟩:=hrel;by_cases aa:k<rd.length
  ·obtain⟨b,off,cs,rfl,hb,hr,ah⟩:=HS.o.at aa;have hx:=HX.o;rw[List.drop_eq_getElem_cons aa,List.any_cons]at hx;have ai:=Iz.o _ (List.getElem_mem aa);have av:=zHi hx;have am:=zHi aa;generalize rd[k]=x at*;obtain⟨B,c,hc,rfl,hP⟩:=hr;obtain⟨kd,dy,pl,fr,ts,cl,yr⟩:=x;simp only at ai hc hP ah;cases ts with
   |nil=>exact absurd rfl ai
   |cons p ts=>
    obtain⟨tb,tof,rfl,Gv,u4⟩:=hP.at (k:=0) (Nat.succ_pos _);obtain⟨pn,pu,pd⟩:=p;have t0:W0.cell? ⟨tb,tof,none⟩=some (.string pn):=MdI;have fM:zbf ⟨kd,dy,pl,fr,⟨pn,pu,pd⟩::ts,cl,yr⟩=pn:=rfl;have i3:=ah 3 _ rfl;have i4:=ah 4 _ rfl;have ar:(k:Int)<(rd.length:Int):=Mcn;have aT:(0:Int)<=(k:Int):=Mcn;generalize eJ:(⟨pn,pu,pd⟩::ts:List RPart).length=ln at*;have jE:(0:Int)<(ln:Int):=by rw[<-eJ];simp
    have Dm:0<ln:=Mcn;clear ah aa hx ai hP u4 eJ hc;cases dt:zaf fr n
    ·have bp:(fr.toList==n.toList)=false:=dt;have HE:Hid (R=(!(rd.drop (k+1)).any (renT n frm)&&(!noB n&&(!zaf n frm&&!D)))):=by show _=_;rw[av.o];simp[renT,dt]
     go_wp2_with fail
     exact MI
    ·have bp:(fr.toList==n.toList)=true:=dt;cases fV:zaf pn frm
     ·have xY:(pn.toList==frm.toList)=false:=fV;have HE:Hid (R=(!(rd.drop (k+1)).any (renT n frm)&&(!noB n&&(!zaf n frm&&!D)))):=by show _=_;rw[av.o];simp[renT,fM,fV]
      go_wp2_with fail
      exact MI
     ·have xY:(pn.toList==frm.toList)=true:=fV;have HE:Hid (R=false):=by show _=_;rw[av.o];simp[renT,fM,dt,fV]
      exact Ma7
  ·have ar: ¬(k:Int)<(rd.length:Int):=Mcn;have hx:=HX.o;rw[List.drop_of_length_le Mcn]at hx;have av:=zHi hx;clear hx;cases z1:noB n
   ·have y1:n.toList.isEmpty=false:=z1;have w1: ¬n.toList=[]:=by simpa using y1
    cases dt:zaf n frm
    ·have bp:(n.toList==frm.toList)=false:=dt;have HE:Hid (R=!D):=by show _=_;rw[av.o,z1,dt];simp
     go_wp2_with (go_at_call 32;go_must(refine(ib.o _ Mdi).mono ?_);rintro e wq ⟨rfl,z,rfl⟩)
     go_ret
     exact Ret.of (zaQ HE.o.symm) (zb6 ak.o z)
    ·have bp:(n.toList==frm.toList)=true:=dt;have HE:Hid (R=false):=by show _=_;rw[av.o,z1,dt];simp
     exact Ma7
   ·have y1:n.toList.isEmpty=true:=z1;have w1:n.toList=[]:=by simpa using y1
    have HE:Hid (R=false):=by show _=_;rw[av.o,z1];simp
    exact Ma7
def zmU (dd:List ByteArray) (p:RPart):Bool:=dd.any (zaf p.name)
theorem zk7 (l:List RPart) (A:Option Addr) (c:Nat) (dd:List ByteArray) (LA CA MA DA WA RA GA:Option Addr) (n0 c0 n1 c1 n2 c2 n3 c3 n4 c4 n5 c5 n6 c6:Nat) (w:World) (hl:l.length<=1000000) (hS:Sl w 3 RPart.cells A l) (bu:dd.length<=100000) (kU:dd.length<=c3) (hD:Sl w 1 sC DA dd):
 Calls Tryz.prog 233 #[.agg #[.slice LA n0 c0, .slice CA n1 c1, .slice MA n2 c2, .slice DA dd.length c3, .slice WA n4 c4, .slice RA n5 c5, .slice GA n6 c6], .slice A l.length c] w (Ret w (.bool (l.any (zmU dd)))):=by
 have g7:=zHi hS;have ib:=zHi (fun x W (h:Below w.heap.size w W)=>zeK dd x LA CA MA DA WA RA GA n0 c0 n1 c1 n2 c2 dd.length c3 n4 c4 n5 c5 n6 c6 W bu kU (hD.keep h));obtain⟨R,hR⟩: ∃R,R=l.any (zmU dd):=⟨_,rfl⟩
 rw[<-hR];have HR:Hid (R=(l.drop 0).any (zmU dd)):=Mei;clear hS hD hR;go_enter Tryz.func233,Tryz.ntmps233
 go_upto_region 1 with fail
 obtain⟨W0,ao⟩: ∃W0,W0=w.alloc (.cells #[.slice LA n0 c0, .slice CA n1 c1, .slice MA n2 c2, .slice DA dd.length c3, .slice WA n4 c4, .slice RA n5 c5, .slice GA n6 c6] 36):=⟨_,rfl⟩
 have b0:W0.heap[w.heap.size]?=some (.cells #[.slice LA n0 c0, .slice CA n1 c1, .slice MA n2 c2, .slice DA dd.length c3, .slice WA n4 c4, .slice RA n5 c5, .slice GA n6 c6] 36):=Mc9;have aJ:Below w.heap.size w W0:=McU;rw[<-ao];have ak:=zHi aJ;have HS:=zHi (g7.o.keep aJ);have lT:=aJ.size;have l0:=zab b0
 have HC:=zHi (fun(W':World) (h:Below W0.heap.size W0 W')=>(show W'.cell? ⟨w.heap.size,0,none⟩=some (.slice LA n0 c0)/\W'.cell? ⟨w.heap.size,1,none⟩=some (.slice CA n1 c1)/\W'.cell? ⟨w.heap.size,2,none⟩=some (.slice MA n2 c2)/\W'.cell? ⟨w.heap.size,3,none⟩=some (.slice DA dd.length c3)/\W'.cell? ⟨w.heap.size,4,none⟩=some (.slice WA n4 c4)/\W'.cell? ⟨w.heap.size,5,none⟩=some (.slice RA n5 c5)/\W'.cell? ⟨w.heap.size,6,none⟩=some (.slice GA n6 c6) from by
  refine⟨?_,?_,?_,?_,?_,?_,?_⟩<;>(refine(zah h l0).trans ?_;simp only[World.cell?,b0];rfl)))
 clear ao b0 aJ g7;go_upto_region 2 with fail
 go_loopw [5] (fun i wr=> ∃k:Nat,k<=l.length/\i= .int .i64 k/\Hid (R=(l.drop k).any (zmU dd))/\Below W0.heap.size W0 wr) (fun i _=>l.length-(intOf i).toNat)
 case atStart=>exact⟨0,Nat.zero_le _,rfl,HR.o,Below.refl _ _⟩
 case round=>
  obtain⟨k,hk,rfl,HX,hB⟩:=hrel;have HB:=zHi hB;have aE:=hB.size;have bS:w.heap.size<wr.heap.size:=Mcn;obtain⟨d0,d1,d2,d3,d4,d5,d6⟩:=HC.o _ hB;by_cases aa:k<l.length
  ·obtain⟨b,off,rfl,hb,ah⟩:=(HS.o.keep hB).at aa;have hx:=HX.o;rw[List.drop_eq_getElem_cons aa,List.any_cons]at hx;have av:=zHi hx;have am:=zHi aa;generalize l[k]=x at*;obtain⟨nm,nu,de⟩:=x;have i0:wr.cell? ⟨b,off+k*3,none⟩=some (.string nm):=ah 0 _ rfl;have ar:(k:Int)<(l.length:Int):=Mcn;have aT:(0:Int)<=(k:Int):=Mcn;have vh:=zHi (ak.o.trans (hB.mono lT));have fX:=zHi (fun W (h:Below wr.heap.size wr W)=>ib.o nm W (vh.o.trans (h.mono vh.o.size)));clear ah hx aa hB;cases hd:dd.any (zaf nm)
   ·have HE:Hid (R=(l.drop (k+1)).any (zmU dd)):=by show _=_;rw[av.o];unfold zmU;rw[hd];rfl
    rw[hd]at fX;clear hd;go_upto_region 4 with fail
    (refine zan Mco Mco ?_
     repeat(first|go_big_quiet_skip|(go_big_quiet_want;go_big_quiet_op;first|go_big_quiet_on|(apply Exists.intro;refine⟨fun _=> ?_,?_⟩;(go_at_call 32;exact quietx (fX.o _ Bw));go_big_quiet_on)))
     refine wpQuiet_nil ?_
     rintro _ ⟨zq,rfl⟩)
    go_wp2_with fail
    go_round
    case rel=>exact⟨k+1,am.o,by go_num,HE.o,zb6 HB.o zq⟩
    case measure=>have:=am.o;simp only[intOf];omega
   ·have HE:Hid (R=true):=by show _=_;rw[av.o];unfold zmU;rw[hd];rfl
    rw[hd]at fX;clear hd;go_upto_region 4 with fail
    (refine zan Mco Mco ?_
     repeat(first|go_big_quiet_skip|(go_big_quiet_want;go_big_quiet_op;first|go_big_quiet_on|(apply Exists.intro;refine⟨fun _=> ?_,?_⟩;(go_at_call 32;exact quietx (fX.o _ Bw));go_big_quiet_on)))
     refine wpQuiet_nil ?_
     rintro _ ⟨zq,rfl⟩)
    go_wp2_with fail
    go_ret
    exact Ret.of (zaQ HE.o.symm) (zb6 vh.o zq)
  ·have ar: ¬(k:Int)<(l.length:Int):=Mcn;have HE:Hid (R=false):=by show _=_;rw[HX.o,List.drop_of_length_le Mcn];rfl
   clear hB;go_wp2_with fail
   go_ret
   exact Ret.of (zaQ HE.o.symm) (ak.o.trans (HB.o.mono lT))
theorem given_nil {n:ByteArray} {q:Rat} (h:q≠0):za4 [] n q=[(n,q)]:=by
 unfold za4;rw[if_neg Mde]
theorem zoG {p:ByteArray×Rat} {r:Parts} {n:ByteArray} {q:Rat} (h:q≠0):za4 (p::r) n q=if zbn p.1 n then p::za4 r n q else if zaf p.1 n then(n,p.2+q)::r else(n,q)::p::r:=by
 rw[za4,if_neg Mde]
theorem given_zer (l:Parts) (n:ByteArray):za4 l n 0=l:=by
 cases l with
 |nil=>rfl
 |cons p r=>rw[za4,if_pos Mcq]
def zlB (done:Bool) (l:Parts) (n:ByteArray) (q:Rat):Parts:=if done then l else za4 l n q
theorem zcS (l:Parts) (n:ByteArray) (q:Rat) (A:Option Addr) (c:Nat) (w:World) (hl:l.length<=100000) (hs: ∀p∈l,zaI p.2) (hq:zaI q) (hS:Sl w 3 zaa A l):Calls Tryz.prog 87 #[.slice A l.length c, .string n,zaB q] w (zgA w (za4 l n q)):=by
 have g7:=zHi hS;have pe:=zHi hs;have HQ:=zHi hq;obtain⟨R,hR⟩: ∃R,R=za4 l n q:=⟨_,rfl⟩
 rw[<-hR];have HR:=zHi hR;unfold zgA zaB;clear hS hs hq hR;go_enter Tryz.func87,Tryz.ntmps87
 go_upto_region 2 with fail
 obtain⟨W0,ao⟩: ∃W0,W0=w.alloc (.cells #[.int .i64 q.num, .int .i64 q.den] 71):=⟨_,rfl⟩
 have b0:W0.heap[w.heap.size]?=some (.cells #[.int .i64 q.num, .int .i64 q.den] 71):=Mc9;have aJ:Below w.heap.size w W0:=McU;rw[<-ao];have ak:=zHi aJ;have HS:=zHi (g7.o.keep aJ);obtain⟨c0,c1⟩:=cF2 b0;have l0:=zab b0;clear ao b0 aJ g7;go_upto_region 4 with fail
 go_loopw [7,8,9] (fun v d i wr=> ∃(k:Nat) (done:Bool) (out:Parts),k<=l.length/\d= .bool done/\i= .int .i64 k/\Hid (R=out++zlB done (l.drop k) n q)/\Hid (done=false->q≠0)/\Hid (out.length<=k+(if done then 1 else 0))/\OwnS wr W0.heap.size 75 3 zaa v out/\Below W0.heap.size W0 wr) (fun _ _ i _=>l.length-(intOf i).toNat)
 case atStart=>
  refine⟨0,q.num==0,[],Nat.zero_le _,rfl,rfl,zHi ?_,zHi ?_,zHi Mcq,OwnS.nil,Below.refl _ _⟩
  ·rw[List.drop_zero,List.nil_append,HR.o];unfold zlB;cases hz:q.num==0
   ·rfl
   ·have:q=0:=Rat.num_eq_zero.1 Mdu;rw[this,given_zer];rfl
  ·intro h e;rw[e]at h;exact absurd h Mcp
 case round=>
  obtain⟨k,done,out,hk,rfl,rfl,HX,HD,qR,ae,hB⟩:=hrel;have aE:=hB.size;have HO:=zHi ae;have HB:=zHi hB;have BN:Hid (out.length<=k+1):=by show _<=_;have:=qR.o;split at this<;>omega
  have fP:Hid (out.length<=200000):=by show _<=_;have:=BN.o;omega
  obtain⟨VA,vc,rfl,_,ka⟩:=ae.sl zao;have d0:wr.cell? ⟨w.heap.size,0,none⟩=some (.int .i64 q.num):=(zah hB l0).trans c0;have d1:wr.cell? ⟨w.heap.size,1,none⟩=some (.int .i64 q.den):=(zah hB l0).trans c1;have bS:w.heap.size<wr.heap.size:=Mcn;by_cases aa:k<l.length
  ·obtain⟨b,off,rfl,hb,ah⟩:=HS.o.at aa;have hx:=HX.o;rw[List.drop_eq_getElem_cons aa]at hx;have cn:=pe.o _ (List.getElem_mem aa);have am:=zHi aa;generalize l[k]=x at*;obtain⟨nm,r⟩:=x;have e0:W0.cell? ⟨b,off+k*3,none⟩=some (.string nm):=ah 0 _ rfl;have e1:W0.cell? ⟨b,off+k*3+1,none⟩=some (.int .i64 r.num):=ah 1 _ rfl;have e2:W0.cell? ⟨b,off+k*3+2,none⟩=some (.int .i64 r.den):=ah 2 _ rfl;have i0:wr.cell? ⟨b,off+k*3,none⟩=some (.string nm):=(zah hB hb).trans e0;have i1:wr.cell? ⟨b,off+k*3+1,none⟩=some (.int .i64 r.num):=(zah hB hb).trans e1;have i2:wr.cell? ⟨b,off+k*3+2,none⟩=some (.int .i64 r.den):=(zah hB hb).trans e2;have ar:(k:Int)<(l.length:Int):=Mcn;have aT:(0:Int)<=(k:Int):=Mcn;have av:=zHi hx;have jh:=zHi cn;clear ah aa ae hB hx cn;cases done
   ·have gK:=HD.o rfl;have hx:=av.o;rw[show zlB false ((nm,r)::l.drop (k+1)) n q=za4 ((nm,r)::l.drop (k+1)) n q from rfl,zoG gK]at hx;have Iq:=zHi gK;cases iS:zbn nm n
    ·have Do:Op.bytesLess nm.toList n.toList=false:=iS;rw[iS,if_neg Mcq]at hx;cases dw:zaf nm n
     ·have bp:(nm.toList==n.toList)=false:=dw;rw[dw,if_neg Mcq]at hx;have eS:=zHi hx;clear hx iS dw gK
      go_upto_region 11 with(at_builtin
                             go_loud(refine za1 (v:= .slice VA out.length vc) (n:=out.length) (m:=1) rfl _ _ rfl zdU zao zce rfl (xs:=out) (ys:=[(n,q)]) (HO.o.keep (n:=wr.heap.size) Bw) rfl rfl rfl (zdd (zar _ _ _ rfl)) McX Mc3 Mcr ?_)
                             intro v3 w3 h1 h2 h3;have ay:=Below.grown (B:=W0.heap.size) (a:=W0) (HB.o.trans (Below.mono (B:=wr.heap.size) (zad (Below.refl _ _) _) aE)) h2 Mcr (fun j hj=>(HO.o.ge j hj).1);have H1:=zHi h1;have aH:=zHi ay
                             clear h1 h2 h3 ay)
      obtain⟨VB,vb,Gy,_,L4⟩:=H1.o.sl zao;rw[List.length_append]at Gy;subst Gy;have jq:=aH.o.size;have j0:w3.cell? ⟨b,off+k*3,none⟩=some (.string nm):=(zah aH.o hb).trans e0;have j1:w3.cell? ⟨b,off+k*3+1,none⟩=some (.int .i64 r.num):=(zah aH.o hb).trans e1;have j2:w3.cell? ⟨b,off+k*3+2,none⟩=some (.int .i64 r.den):=(zah aH.o hb).trans e2
      go_wp2_with (at_builtin
                   go_loud(refine za1 (v:= .slice VB (out.length+[(n,q)].length) vb) (n:=out.length+[(n,q)].length) (m:=1) rfl _ _ rfl zdU zao zce rfl (xs:=out++[(n,q)]) (ys:=[(nm,r)]) (H1.o.keep (n:=w3.heap.size) Bw) Mcq rfl rfl (zdd (zar _ _ _ rfl)) McX (by have:=fP.o;simp;omega) Mcr ?_)
                   intro v4 w4 g1 g2 g3;have aC:=Below.grown (B:=W0.heap.size) (a:=W0) (aH.o.trans (Below.mono (B:=w3.heap.size) (zad (Below.refl _ _) _) jq)) g2 Mcr (fun j hj=>(H1.o.ge j hj).1);have G1:=zHi g1;have eB:=zHi aC
                   clear g1 g2 g3 aC)
      go_round
      case rel=>exact⟨k+1,true,out++[(n,q)]++[(nm,r)],am.o,rfl,by go_num,zHi (by rw[eS.o,List.append_assoc,List.append_assoc];rfl),zHi (fun h=>by cases h),zHi (by have:=qR.o;simp at this⊢;omega),G1.o,eB.o⟩
      case measure=>have:=am.o;simp only[intOf];omega
     ·have bp:(nm.toList==n.toList)=true:=dw;rw[dw,if_pos rfl]at hx;have eS:=zHi hx;clear hx iS dw gK;have aZ:b<wr.heap.size:=Nat.lt_of_lt_of_le hb aE;have aG:=zHi (fun(w':World) (h:Below wr.heap.size wr w')=>(show w'.cell? ⟨b,off+k*3+1,none⟩=some (.int .i64 r.num)/\w'.cell? ⟨b,off+k*3+2,none⟩=some (.int .i64 r.den)/\w'.cell? ⟨w.heap.size,0,none⟩=some (.int .i64 q.num)/\w'.cell? ⟨w.heap.size,1,none⟩=some (.int .i64 q.den) from⟨(zah h aZ).trans i1,(zah h aZ).trans i2,(zah h bS).trans d0,(zah h bS).trans d1⟩));have kf:=zHi (fun W=>znW r q W jh.o HQ.o);unfold zaB at kf;go_upto_region 9 with fail
      refine zaC 11 (fun bb w'=>bb=true\/(w'.cell? ⟨b,off+k*3+1,none⟩=some (.int .i64 r.num)/\w'.cell? ⟨b,off+k*3+2,none⟩=some (.int .i64 r.den)/\w'.cell? ⟨w.heap.size,0,none⟩=some (.int .i64 q.num)/\w'.cell? ⟨w.heap.size,1,none⟩=some (.int .i64 q.den))) Mco (.inr (aG.o _ (zaH (Below.refl _ _)))) ?hrest
      case hrest=>
       intro hHeld;refine TkM 0 ?_;refine TkM 1 ?_;refine TkM 2 ?_;refine TkM 3 ?_;refine TkM 4 ?_;refine TkM 5 ?_;refine TkM 6 ?_;refine TkM 7 ?_;refine OnM 8 false fun K hK=> ?_
       go_simp
       refine(kf.o _).mono ?_;rintro e w5 ⟨rfl,z,rfl⟩;have aq:Below wr.heap.size wr (wr.drew.ext z):=zb6 (zaH (Below.refl _ _)) z;refine NxM hK (fun hHeld=> ?_) (.inr (aG.o _ aq));clear hK K;refine TkM 9 ?_;refine OnM 10 false fun K hK=> ?_
       go_simp
       have aI:Below wr.heap.size wr ((wr.drew.ext z).alloc (.cells #[.string n, .int .i64 (r+q).num, .int .i64 (r+q).den] 75)):=zad aq _;have n6:((wr.drew.ext z).alloc (.cells #[.string n, .int .i64 (r+q).num, .int .i64 (r+q).den] 75)).heap[(wr.drew.ext z).heap.size]?=some (.cells #[.string n, .int .i64 (r+q).num, .int .i64 (r+q).den] 75):=zar _ _ _ rfl;refine NxM hK (fun hHeld=> ?_) (.inr (aG.o _ aI));clear hK K;refine OnM 11 true fun K hK=> ?_
       refine zak (v:= .slice VA out.length vc) (n:=out.length) (m:=1) rfl _ _ rfl zdU zao zce rfl (xs:=out) (ys:=[(n,r+q)]) (HO.o.keep (n:=wr.heap.size) aI) rfl rfl rfl (zdd (zar _ _ _ MdG)) MdT Mc3 MdE ?_;intro v7 w7 h1 h2 h3;obtain⟨A7,c7,j8,_,_⟩:=h1.sl zao;rw[List.length_append]at j8;subst j8;have bj:Below W0.heap.size W0 w7:=Below.grown (HB.o.trans (aI.mono aE)) h2 MdE (fun j hj=>(HO.o.ge j hj).1);refine NxM hK fun hHeld=> ?_
       clear hK K;refine OnM 12 true fun K hK=> ?_
       go_simp
       refine NxM hK fun hHeld=> ?_
       clear hK K;refine zaN Mco ?_ _;clear hHeld;have H7:=zHi h1;have bT:=zHi bj;clear h1 h2 h3 bj;go_wp2_with fail
       go_round
       case rel=>exact⟨k+1,true,out++[(n,r+q)],am.o,rfl,by go_num,zHi (by rw[eS.o,List.append_assoc];rfl),zHi (fun h=>by cases h),zHi Mdj,H7.o,bT.o⟩
       case measure=>have:=am.o;simp only[intOf];omega
    ·have Do:Op.bytesLess nm.toList n.toList=true:=iS;rw[iS,if_pos rfl]at hx;have eS:=zHi hx;clear hx iS gK
     go_wp2_with (at_builtin
                  go_loud(refine za1 (v:= .slice VA out.length vc) (n:=out.length) (m:=1) rfl _ _ rfl zdU zao zce rfl (xs:=out) (ys:=[(nm,r)]) (HO.o.keep (n:=wr.heap.size) Bw) rfl rfl rfl (zdd (zar _ _ _ rfl)) McX Mc3 Mcr ?_)
                  intro v3 w3 h1 h2 h3;have ay:=Below.grown (B:=W0.heap.size) (a:=W0) (HB.o.trans (Below.mono (B:=wr.heap.size) (zad (Below.refl _ _) _) aE)) h2 Mcr (fun j hj=>(HO.o.ge j hj).1);have H1:=zHi h1;have aH:=zHi ay
                  clear h1 h2 h3 ay)
     go_round
     case rel=>exact⟨k+1,false,out++[(nm,r)],am.o,rfl,by go_num,zHi (by rw[eS.o,List.append_assoc];rfl),zHi (fun _=>Iq.o),zHi Mdj,H1.o,aH.o⟩
     case measure=>have:=am.o;simp only[intOf];omega
   ·go_wp2_with (at_builtin
                 go_loud(refine za1 (v:= .slice VA out.length vc) (n:=out.length) (m:=1) rfl _ _ rfl zdU zao zce rfl (xs:=out) (ys:=[(nm,r)]) (HO.o.keep (n:=wr.heap.size) Bw) rfl rfl rfl (zdd (zar _ _ _ rfl)) McX Mc3 Mcr ?_)
                 intro v3 w3 h1 h2 h3;have ay:=Below.grown (B:=W0.heap.size) (a:=W0) (HB.o.trans (Below.mono (B:=wr.heap.size) (zad (Below.refl _ _) _) aE)) h2 Mcr (fun j hj=>(HO.o.ge j hj).1);have H1:=zHi h1;have aH:=zHi ay
                 clear h1 h2 h3 ay)
    go_round
    case rel=>exact⟨k+1,true,out++[(nm,r)],am.o,rfl,by go_num,zHi (by rw[av.o,List.append_assoc];rfl),zHi (fun h=>by cases h),zHi Mdj,H1.o,aH.o⟩
    case measure=>have:=am.o;simp only[intOf];omega
  ·have ar: ¬(k:Int)<(l.length:Int):=Mcn;have hx:=HX.o;rw[List.drop_of_length_le Mcn]at hx;clear ae hB;cases done
   ·have gK:=HD.o rfl;rw[show zlB false [] n q=za4 [] n q from rfl,given_nil gK]at hx;have av:=zHi hx;clear hx gK
    go_wp2_with (at_builtin
                 go_loud(refine za1 (v:= .slice VA out.length vc) (n:=out.length) (m:=1) rfl _ _ rfl zdU zao zce rfl (xs:=out) (ys:=[(n,q)]) (HO.o.keep (n:=wr.heap.size) Bw) rfl rfl rfl (zdd (zar _ _ _ rfl)) McX Mc3 Mcr ?_)
                 intro v3 w3 h1 h2 h3;have ay:=Below.grown (B:=W0.heap.size) (a:=W0) (HB.o.trans (Below.mono (B:=wr.heap.size) (zad (Below.refl _ _) _) aE)) h2 Mcr (fun j hj=>(HO.o.ge j hj).1);have H1:=zHi h1;have aH:=zHi ay
                 clear h1 h2 h3 ay)
    go_ret
    exact⟨_,rfl,by rw[av.o];exact H1.o.base_le ak.o.size,ak.o.trans (aH.o.mono ak.o.size)⟩
   ·rw[show zlB true [] n q=[]from rfl,List.append_nil]at hx;have av:=zHi hx;clear hx;go_wp2_with fail
    go_ret
    exact⟨_,rfl,by rw[av.o];exact HO.o.base_le ak.o.size,ak.o.trans (HB.o.mono ak.o.size)⟩
end Go.Proofs.YtjhbofabmpfniaaGreatDoor
