import Derived.Test.YthhgkjfgpkbliaaGreatDoorRE
import Derived.Test.YthhgkjfgpkbliaaGreatDoorE5
set_option linter.all false
set_option maxRecDepth 100000
set_option maxHeartbeats 4000000
namespace Go.Proofs.YthhgkjfgpkbliaaGreatDoor
attribute [local go_sem] World.cell?_alloc_mark zae zav zai zaw zam zan zao zap zaq zar zas
attribute [local go_sem] zah zac
section
open Go.RowKit
theorem zmH(a b:ByteArray):zag a b=zag b a:=by
 rw[Bool.eq_iff_iff,zak,zak];exact⟨Eq.symm,Eq.symm⟩
theorem ziu(fb sh:Bool)(frm:ByteArray):∀(l seen:List RPart) (L:List ByteArray) (s:Rat),(∀n,L.any (zag n)=seen.any (fun q=>zag q.name n))->
 zbT fb sh frm l seen s=if(zda l L&&l.all (fun p=>!(zag p.name frm&&fb)))&&(if sh then l.all (fun p=>za2 16 p.num p.den&&p.num != 0)else l.all (fun p=>p.num==0&&p.den==0))then some (if sh then s+sumQ (zat l)else s)else none
 | [],seen,L,s,h=>by
   rw[zbT];cases sh
   ·simp[zda]
   ·simp[zda,zat,sumQ,Rat.add_zero]
 |p::l,seen,L,s,h=>by
  have ih:=fun t=>ziu fb sh frm l (seen++[p]) (p.name::L) t (fun n=>by
   rw[List.any_cons,List.any_append,h n,List.any_cons,List.any_nil,Bool.or_false,Bool.or_comm,zmH n])
  have hs:sumQ (zat (p::l))=p.rat+sumQ (zat l):=rfl;rw[zbT,zda,h p.name,List.all_cons,List.all_cons,List.all_cons,hs,ih,ih];cases h1:seen.any (fun q=>zag q.name p.name)
  ·cases h2:(zag p.name frm&&fb)
   ·simp only[Bool.or_self,Bool.false_eq_true,if_false,Bool.not_false,Bool.true_and];cases sh
    ·simp only[Bool.not_false,if_true,Bool.false_eq_true,if_false];by_cases hz:p.num=0
     ·by_cases hy:p.den=0
      ·simp[hz,hy]
      ·simp[hz,hy]
     ·simp[hz]
    ·simp only[Bool.not_true,if_true,Bool.false_eq_true,if_false];cases h3:za2 16 p.num p.den
     ·simp
     ·by_cases hz:p.num=0
      ·simp[hz]
      ·have e:s+p.rat+sumQ (zat l)=s+(p.rat+sumQ (zat l)):=MbV;simp[hz,e]
   ·simp
  ·simp
theorem zmI(s:Rat):decide (s.num<=(s.den:Int))=decide (s<=1):=by
 rw[Bool.eq_iff_iff,decide_eq_true_eq,decide_eq_true_eq,Rat.le_iff];simp
theorem zkY(s:Rat):(s.num==(s.den:Int))=(s==1):=by
 rw[Bool.eq_iff_iff,beq_iff_eq,beq_iff_eq];constructor
 ·intro h;have h1:=Rat.num_divInt_den s;rw[h]at h1;rw[<-h1];have:=s.den_pos;rw[Rat.divInt_self'];omega
 ·intro h;rw[h];rfl
theorem sumOk_eq(fb sh al:Bool)(frm:ByteArray)(l:List RPart)(hf:fb=true\/∀p∈l,zag p.name frm=false):zfC sh al (zbT fb sh frm l [] 0)=zc1 sh al frm l:=by
 have h0:∀n:ByteArray,([]:List ByteArray).any (zag n)=([]:List RPart).any (fun q=>zag q.name n):=fun n=>rfl
 rw[ziu fb sh frm l [] [] 0 h0];have Ca:l.all (fun p=>!(zag p.name frm&&fb))=l.all (fun p=>!zag p.name frm):=by
  rcases hf with hf|hf
  ·subst hf;simp
  ·rw[Bool.eq_iff_iff,List.all_eq_true,List.all_eq_true];exact⟨fun _ p hp=>by rw[hf p hp];rfl,fun _ p hp=>by rw[hf p hp];rfl⟩
 rw[Ca];unfold zc1;cases sh
 ·simp only[Bool.false_eq_true,if_false];split
  ·rename_i h;rw[h];rfl
  ·rename_i h
   rw[Bool.not_eq_true]at h;rw[h];rfl
 ·simp only[if_true];split
  ·rename_i h
   rw[Bool.and_eq_true,Bool.and_eq_true]at h;rw[h.1.1,h.1.2,h.2];simp only[zfC,Bool.not_true,Bool.false_or,Bool.true_and,Rat.zero_add,zmI,zkY]
  ·rename_i h
   rw[Bool.not_eq_true]at h;simp only[zfC];cases h1:zda l []<;>cases h2:l.all (fun p=>!zag p.name frm)<;>cases h3:l.all (fun p=>za2 16 p.num p.den&&p.num != 0)<;>simp_all
theorem noB_same{a b:ByteArray}(ha:noB a=false)(hb:noB b=true):zag a b=false:=by
 unfold noB at ha hb;unfold zag;cases h:(a.toList==b.toList)
 ·rfl
 ·rw[beq_iff_eq]at h;rw[h,hb]at ha;cases ha
theorem zg9{f:Form}{frm:ByteArray}{l:List RPart}(hf:f.frm=true\/∀p∈l,zag p.name frm=false):zfZ f frm l=if f.parts then(!l.isEmpty&&(f.shares||l.length==1))&&zc1 f.shares f.all frm l else l.isEmpty:=by
 unfold zfZ;rw[sumOk_eq _ _ _ _ _ hf];cases f.parts
 ·simp
 ·cases l.isEmpty
  ·cases f.shares
   ·by_cases h:l.length=1
    ·simp[h]
    ·simp[h]
   ·simp
  ·simp
theorem zdR(d:Deed):zcE d=za8 d:=by
 obtain⟨kd,dy,pl,fr,ps,cl,yr⟩:=d;unfold zcE za8;simp only;split
 ·rfl
 rename_i h1
 split
 ·rfl
 rename_i h2
 split
 ·rfl
 rename_i h3
 have e4:(ps.any fun p=>!zaR p.name)=!ps.all fun p=>zaR p.name:=by rw[List.not_all_eq_any_not]
 rw[e4];split
 ·rfl
 rename_i h4
 have hn:∀p∈ps,noB p.name=false:=fun p hp=>by
  cases ha:(ps.all fun p=>zaR p.name)
  ·rw[ha]at h4;simp at h4
  ·exact zfd (List.all_eq_true.1 ha p hp)
 simp only[Bool.not_eq_true',Bool.not_eq_false,zgs]at h1;have hk:kd=0\/kd=1\/kd=2\/kd=3\/kd=4\/kd=5\/kd=6\/kd=7\/kd=8:=MbC;have hg:noB fr=true->∀p∈ps,zag p.name fr=false:=fun hb p hp=>noB_same (hn p hp) hb
 clear h1 h2 h3 h4 hn e4;have AU:(0:Int)=0:=rfl;rcases hk with rfl|rfl|rfl|rfl|rfl|rfl|rfl|rfl|rfl
 all_goals
  simp only[zeC,zkt,Int.toNat_zero,Int.toNat_one,List.getD_cons_zero,show(2:Int).toNat=2 from rfl,show(3:Int).toNat=3 from rfl,show(4:Int).toNat=4 from rfl,show(5:Int).toNat=5 from rfl,show(6:Int).toNat=6 from rfl,show(7:Int).toNat=7 from rfl,show(8:Int).toNat=8 from rfl,List.getD_cons_succ]
 ·cases hb:noB fr
  ·simp
  ·rw[zg9 (f:=⟨_,_,_,_,_,_,_,_⟩) (.inr (hg hb))];cases noB pl<;>cases hy:(yr==0)<;>cases hc:(cl==2)<;>simp
 ·exact MJ
 ·exact MJ
 ·cases hb:noB fr
  ·simp
  ·rw[zg9 (f:=⟨_,_,_,_,_,_,_,_⟩) (.inr (hg hb))];cases noB pl<;>cases hy:(yr==0)<;>cases hc:(cl==0)<;>simp_all
 ·exact MJ
 ·exact MX
 ·exact MX
 ·exact MX
 ·exact MJ
end
section
open Go.RowKit Go.Shelf
theorem zkZ(l:List Rec)(A:Option Addr)(c:Nat)(w:World)(hc:l.length<=c)(hl:l.length<=1000)(hk:∀x∈l,x.kind≠2)(hS:Sl w 8 Rec.cells A l):
 Calls Tryz.prog 171 #[.slice A l.length c] w (Ret w (.bool false)):=by
 have cq:= @run_makeMap Tryz.prog;obtain⟨HS,HK⟩:=yH2 hS hk;clear hS hk;go_enter Tryz.func171,Tryz.ntmps171
 go_upto_region 3 with fail
 clear cq;go_loopw [13] (fun i wr=>∃k:Nat,k<=l.length/\i=.int .i64 k/\MapS wr w.heap.size ekS (fun v:Value=>v) ([]:List (ByteArray×Value))/\Below w.heap.size w wr) (fun i _=>l.length-(intOf i).toNat)
 case atStart=>exact⟨0,Nat.zero_le _,rfl,MapS.new w,Bw⟩
 case round=>
  obtain⟨k,hk,rfl,hm,hB⟩:=hrel;have HB:=zHi hB;have aS:=hB.size;by_cases aa:k<l.length
  ·obtain⟨b,off,hA,hb,ah⟩:=(HS.o.keep hB).at aa;have bQ:=HK.o _ (List.getElem_mem aa);have aq:=zHi aa;generalize l[k]=x at*;obtain⟨kd,nm,ot,pl,dy,tl,nu,de⟩:=x;have i0:wr.cell? ⟨b,off+k*8,none⟩=some (.int .i64 kd):=ah 0 _ rfl;have i1:wr.cell? ⟨b,off+k*8+1,none⟩=some (.string nm):=ah 1 _ rfl;have i2:wr.cell? ⟨b,off+k*8+2,none⟩=some (.string ot):=ah 2 _ rfl;have i3:wr.cell? ⟨b,off+k*8+3,none⟩=some (.string pl):=ah 3 _ rfl;have i4:wr.cell? ⟨b,off+k*8+4,none⟩=some (.int .i64 dy):=ah 4 _ rfl;have i5:wr.cell? ⟨b,off+k*8+5,none⟩=some (.int .i64 tl):=ah 5 _ rfl;have i6:wr.cell? ⟨b,off+k*8+6,none⟩=some (.int .i64 nu):=ah 6 _ rfl;have i7:wr.cell? ⟨b,off+k*8+7,none⟩=some (.int .i64 de):=ah 7 _ rfl;have ao:(k:Int)<(l.length:Int):=MbC;have bf:(0:Int)<=(k:Int):=MbC;have eV:(k:Int)<=(c:Int):=MbC;simp only at bQ;have HM:=zHi hm;subst hA;clear ah hm hB aa;go_wp2_with fail
   go_round
   case rel=>exact⟨k+1,aq.o,by go_num,HM.o.below (n:=wr.heap.size) Bw,HB.o.trans (Below.mono (B:=wr.heap.size) Bw aS)⟩
   case measure=>have:=aq.o;simp only[intOf];omega
  ·have ao:¬(k:Int)<(l.length:Int):=MbC;obtain⟨W1,rfl⟩:∃x,x=wr:=⟨_,rfl⟩
   have hIs:w.heap.size<W1.heap.size:=hm.at.lt;obtain⟨vW,pN⟩:=zhX (P:=Tryz.prog) hm (t:=104) Tryz.underlying104;generalize hm.choose_spec.choose=cc at*;generalize hm.choose=ce at*;have uf:=zHi pN;clear pN hB hm aa;go_upto_region 9 with fail
   clear vW;go_loopg [6] 1 (fun gg v wr=>RangeAt wr w.heap.size W1.heap.size ekS (fun v:Value=>v) ([]:List (ByteArray×Value)) []/\Below W1.heap.size W1 wr/\0<gg)
   case atStart=>exact⟨uf.o,Bw,by omega⟩
   case round=>
    obtain⟨mP,bo,be⟩:=hrel;rcases zji (P:=Tryz.prog) mP 0 with⟨h0,ai⟩|⟨i,p,w',hi,_⟩
    ·have rT:=zHi (HB.o.trans (bo.mono HB.o.size));clear mP h0;go_wp2_with fail
     go_ret
     exact Ret.of rfl (rT.o.trans (Below.mono Bw rT.o.size))
    ·simp at hi
theorem zjW(l:List Rec)(A:Option Addr)(c:Nat)(w:World)(hc:l.length<=c)(hl:l.length<=1000)(hk:∀x∈l,x.kind≠3)(hS:Sl w 8 Rec.cells A l):
 Calls Tryz.prog 172 #[.slice A l.length c] w (Ret w (.bool false)):=by
 have cq:= @run_makeMap Tryz.prog;obtain⟨HS,HK⟩:=yH2 hS hk;clear hS hk;go_enter Tryz.func172,Tryz.ntmps172
 go_upto_region 4 with fail
 clear cq;go_loopw [12] (fun i wr=>∃k:Nat,k<=l.length/\i=.int .i64 k/\Below w.heap.size w wr) (fun i _=>l.length-(intOf i).toNat)
 case atStart=>exact⟨0,Nat.zero_le _,rfl,Bw⟩
 case round=>
  obtain⟨k,hk,rfl,hB⟩:=hrel;have HB:=zHi hB;have aS:=hB.size;by_cases aa:k<l.length
  ·obtain⟨b,off,hA,hb,ah⟩:=(HS.o.keep hB).at aa;have bQ:=HK.o _ (List.getElem_mem aa);have aq:=zHi aa;generalize l[k]=x at*;obtain⟨kd,nm,ot,pl,dy,tl,nu,de⟩:=x;have i0:wr.cell? ⟨b,off+k*8,none⟩=some (.int .i64 kd):=ah 0 _ rfl;have i1:wr.cell? ⟨b,off+k*8+1,none⟩=some (.string nm):=ah 1 _ rfl;have i2:wr.cell? ⟨b,off+k*8+2,none⟩=some (.string ot):=ah 2 _ rfl;have i3:wr.cell? ⟨b,off+k*8+3,none⟩=some (.string pl):=ah 3 _ rfl;have i4:wr.cell? ⟨b,off+k*8+4,none⟩=some (.int .i64 dy):=ah 4 _ rfl;have i5:wr.cell? ⟨b,off+k*8+5,none⟩=some (.int .i64 tl):=ah 5 _ rfl;have i6:wr.cell? ⟨b,off+k*8+6,none⟩=some (.int .i64 nu):=ah 6 _ rfl;have i7:wr.cell? ⟨b,off+k*8+7,none⟩=some (.int .i64 de):=ah 7 _ rfl;have ao:(k:Int)<(l.length:Int):=MbC;have bf:(0:Int)<=(k:Int):=MbC;have eV:(k:Int)<=(c:Int):=MbC;simp only at bQ;subst hA;clear ah hB aa;obtain⟨WZ,em⟩:∃WZ,WZ=(wr.alloc (.cells #[.int .i64 kd,.string nm,.string ot,.string pl,.int .i64 dy,.int .i64 tl,.int .i64 nu,.int .i64 de] 123)).alloc (.cells #[.string pl,.int .i64 dy] 251):=⟨_,rfl⟩
   have z0:WZ.cell? ⟨wr.heap.size,0,none⟩=some (.int .i64 kd):=by rw[em];simp[go_sem]
   have bH:wr.heap.size+2=WZ.heap.size:=by rw[em];simp
   have df:Below wr.heap.size wr WZ:=by rw[em];exact Bw
   have dK:=zHi (HB.o.trans (df.mono aS));go_upto_region 7 with fail
   rw[<-em];clear em df i0 i1 i2 i3 i4 i5 i6 i7;go_quiet (fail)
   go_wp2_with fail
   go_round
   case rel=>exact⟨k+1,aq.o,by go_num,zdY dK.o _⟩
   case measure=>have:=aq.o;simp only[intOf];omega
  ·have ao:¬(k:Int)<(l.length:Int):=MbC;clear hB;exact Ma1
end
section
variable {P:Program} {ops:Array Oper} {md:Region.Mode} {w₀:World}
def zdS(n:Nat)(listed:Array Bool):Nat:=(List.range n).countP fun i=>!listed.getD i false
def zlQ(s n:Nat):Array Bool:=((List.range s).map fun i=>decide (i<n)).toArray
theorem done_eq{n s:Nat}{listed:Array Bool}(hs:listed.size=s)(h1:∀i,i<n->i<s->listed.getD i false=true)(h2:∀i,n<=i->i<s->listed.getD i true=false):listed=zlQ s n:=by
 refine Array.ext (by simp[zlQ,hs]) fun i hi yy=>?_
 have yA:i<s:=MbC;simp only[zlQ,List.getElem_toArray,List.getElem_map,List.getElem_range];by_cases h:i<n
 ·have:=h1 i h yA;simp only[Array.getD,hi,dite_true]at this;rw[decide_eq_true h];exact this
 ·have:=h2 i MbC yA;simp only[Array.getD,hi,dite_true]at this;rw[decide_eq_false h];exact this
theorem cnt_one(p q:Nat->Bool)(i:Nat)(hp:p i=true)(hq:q i=false)(h:∀x,x≠i->q x=p x):∀l:List Nat,l.Nodup->i∈l->l.countP p=l.countP q+1
 | [],_,hi=>by cases hi
 |x::l,hn,hi=>by
  rw[List.nodup_cons]at hn;rw[List.countP_cons,List.countP_cons];by_cases hx:x=i
  ·subst hx;rw[hp,hq];have:l.countP p=l.countP q:=List.countP_congr fun y hy=>by rw[h y (by rintro rfl;exact hn.1 hy)]
   simp[this]
  ·have:=cnt_one p q i hp hq h l hn.2 (by rcases List.mem_cons.1 hi with e|e;exact absurd e.symm hx;exact e);rw[h x hx];omega
theorem Filled.sameL{a0 a b:Act}{L:Nat->Prop}{f:Nat->Value}(ha:Filled ops a0 L f a)(hb:Filled ops a0 L f b):a=b:=by
 obtain⟨ta,da⟩:=a;obtain⟨tb,db⟩:=b;have h1:da=db:=ha.defers.trans hb.defers.symm;subst h1;congr 1
 refine Array.ext_getElem? fun t=>?_
 show(⟨ta,da⟩:Act).tmps[t]?=(⟨tb,da⟩:Act).tmps[t]?;by_cases aa:t<a0.tmps.size
 ·by_cases hx:∃i,L i/\zi7 ops t i
  ·obtain⟨i,hl,hi⟩:=hx;rw[ha.ins t i hl hi aa,hb.ins t i hl hi aa]
  ·rw[ha.o t fun i hl hi=>hx ⟨i,hl,hi⟩,hb.o t fun i hl hi=>hx ⟨i,hl,hi⟩]
 ·rw[Array.getElem?_eq_none (by rw[ha.size];omega),Array.getElem?_eq_none (by rw[hb.size];omega)]
def waits(md:Region.Mode)(ops:Array Oper)(i t:Nat):Bool:=match ops[t]? with
 |none=>false
 |some o=>o.after.any fun e=>Region.binds md e&&needs md ops i 6 e.on
def edgeB(md:Region.Mode)(ops:Array Oper)(i k:Nat):Bool:=match ops[k]? with
 |none=>false
 |some o=>o.after.any fun e=>Region.binds md e&&e.on==i
def apartB(ops:Array Oper)(i k:Nat):Bool:=match ops[i]?,ops[k]? with
 |some oi,some ok=>oi.apart ops ok
 |_,_=>true
def zgA(md:Region.Mode)(ops:Array Oper)(n:Nat)(E:List Nat):Bool:=
 (decide (n<ops.size)&&(zfh ops&&(fedBy md ops&&Region.noSelect ops)))&&
 (((List.range ops.size).all fun t=>decide (t<n)||(List.range n).all fun i=>E.contains i||waits md ops i t)&&
 ((E.all fun i=>decide (i<n)&&(List.range ops.size).all fun k=>k==i||(edgeB md ops i k||(edgeB md ops k i||apartB ops i k)))&&
 Region.seqB md ops (ops.size-n) n (zlQ ops.size n)))
theorem waits_of{i t:Nat}{listed:Array Bool}(hc:zeo md ops listed)(hr:t∈Region.ready md ops listed)(h:waits md ops i t=true):listed.getD i false=true:=by
 obtain⟨_,o,ho,iV⟩:=mem_ready.1 hr;unfold waits at h;rw[ho]at h;simp only at h;rw[Array.any_eq_true]at h;obtain⟨j,hj,h2⟩:=h;rw[Bool.and_eq_true]at h2;exact ziL hc 6 _ h2.2 (iV o.after[j] (Array.getElem_mem hj) h2.1)
theorem edge_of{i k:Nat}{o:Oper}(ho:ops[k]?=some o)(h:edgeB md ops i k=true):∃e∈o.after,Region.binds md e=true/\e.on=i:=by
 unfold edgeB at h;rw[ho]at h;simp only at h;rw[Array.any_eq_true]at h;obtain⟨j,hj,h2⟩:=h;rw[Bool.and_eq_true,beq_iff_eq]at h2;exact⟨o.after[j],Array.getElem_mem hj,h2.1,h2.2⟩
theorem gets_mono{o:Oper}{a:Act}{w:World}{K K':Value->World->Prop}(h:zca P o a w K)(hk:∀v w',K v w'->K' v w'):zca P o a w K':=by
 unfold zca at*;generalize(execOp a.eval o).run P w=r at*;cases r with
 |ok n w'=>
  cases n<;>simp only at h⊢
  case value u=>exact hk _ _ h
  case skip=>exact hk _ _ h
  case enter f args=>
   refine h.mono ?_;rintro e w'' ⟨v,rfl,hv⟩;exact⟨v,rfl,hk _ _ hv⟩
 |halt x w'=>exact h
theorem ziv{Q:Exit->Act->World->Prop}{m:Nat}:∀(fuel:Nat) (listed:Array Bool) (a:Act) (w:World),wpAny P md ops Q fuel listed a w->zbQ P md ops Q m (fun _ _=>True) fuel listed a w
 |0,_,_,_,h=>h
 |fuel+1,_,_,_,h=>⟨h.1,fun i hi=>wpOp_mono (fun a' w' h'=>⟨trivial,ziv fuel _ a' w' h'⟩) (h.2 i hi)⟩
theorem zla{Q:Exit->Act->World->Prop}{i:Nat}{oi:Oper}{v:Value}(hi:ops[i]?=some oi)(cZ:Region.noSelect ops=true)
 (hQ:∀c a w,Q (.panic c) (a.put oi.dst v) w->Q (.panic c) a w)(fuel:Nat)(listed:Array Bool)(a:Act)(w:World)
 (hf:∀j oj,ops[j]?=some oj->j≠i->listed.getD j true=false->(∀e∈oj.after,Region.binds md e=true->e.on≠i)->oi.apart ops oj=true)
 (hr:i∈Region.ready md ops listed)(hy:YieldsIf P ops (fun _=>True) oi v a)(h:wpAny P md ops Q fuel (listed.setIfInBounds i true) (a.put oi.dst v) w):wpAny P md ops Q (fuel+1) listed a w:=
 zfL (m:=ops.size) (S:=fun _ _=>True) _ _ _ _ (zfw (by have:=(Array.getElem?_eq_some_iff.1 hi).1;omega) hi (Region.noSelect_spec cZ) hQ fuel listed a w hf hr hy trivial (ziv _ _ _ _ h))
theorem zmJ{Q:Exit->Act->World->Prop}{a0:Act}{V:Nat->Value->World->Prop}{n:Nat}{E D:List Nat}(h:zgA md ops n E=true)(hDE:∀i,D.contains i=true->E.contains i=false)(hal:∀i o,D.contains i=true->ops[i]?=some o->∀(a:Act) (W:World),∃obj,(execOp a.eval o).run P W=.ok (.value (.pointer (some ⟨W.heap.size,0,none⟩))) (W.alloc obj))(hQ:∀d v c a w,Q (.panic c) (Act.put a d v) w->Q (.panic c) a w)(hmono:∀i v w z,V i v w->V i v (w.ext z))
 (hstep:∀i o,i<n->ops[i]?=some o->∀f z,(∀e∈o.after,Region.binds md e=true->V e.on (f e.on) (w₀.ext z))->zca P o (zcA ops a0 f n) (w₀.ext z) (fun v w'=>V i v w'/\∃z',w'=(w₀.ext z).ext z'))
 (heag:∀i o,E.contains i=true->ops[i]?=some o->∀f z,(∀e∈o.after,Region.binds md e=true->V e.on (f e.on) (w₀.ext z))->∃v,V i v (w₀.ext z)/\∀W,(execOp (zcA ops a0 f n).eval o).run P W=.ok (.value v) W)
 (hend:∀f z,(∀i,i<n->V i (f i) (w₀.ext z))->(∀i j,i<n->j<n->D.contains i=true->D.contains j=true->i≠j->f i≠f j)->wpList P ops Q (ops.toList.drop n) (zcA ops a0 f n) (w₀.ext z)):
 ∀(k:Nat) (listed:Array Bool) (f:Nat->Value) (a:Act) (z:Ez),(∀i,D.contains i=true->listed.getD i false=true->∃b,f i=.pointer (some ⟨b,0,none⟩)/\b<(w₀.ext z).heap.size)->(∀i j,D.contains i=true->D.contains j=true->i≠j->listed.getD i false=true->listed.getD j false=true->f i≠f j)->listed.size=ops.size->zeo md ops listed->(∀t,n<=t->t<ops.size->listed.getD t true=false)->zdS n listed=k->Filled ops a0 (fun i=>listed.getD i false=true) f a->(∀i,listed.getD i false=true->V i (f i) (w₀.ext z))->
  wpAny P md ops Q (k+(ops.size-n)) listed a (w₀.ext z):=by
 unfold zgA at h;simp only[Bool.and_eq_true,decide_eq_true_eq]at h;obtain⟨⟨hn,hd,hf,cZ⟩,Di,C5,wf⟩:=h;have wt:∀t i,n<=t->t<ops.size->i<n->E.contains i=false->waits md ops i t=true:=fun t i h1 h2 h3 h4=>by
  have:=List.all_eq_true.1 Di t (List.mem_range.2 h2);rw[decide_eq_false (by omega:¬t<n),Bool.false_or]at this;have:=List.all_eq_true.1 this i (List.mem_range.2 h3);rwa [h4,Bool.false_or]at this
 have yt:∀i o,ops[i]?=some o->i<n->∀(listed:Array Bool) (f:Nat->Value) (a:Act),Filled ops a0 (fun i=>listed.getD i false=true) f a->(∀e∈o.after,Region.binds md e=true->listed.getD e.on false=true)->execOp (zcA ops a0 f n).eval o=execOp a.eval o:=by
  intro i o ho aB listed f a hF iV;obtain⟨hg,BQ,Cc⟩:=zgW hf ho;have uC:=zeL hd a0 f n (Nat.le_of_lt hn);refine execOp_congr o (fun cs b=>Region.noSelect_spec cZ i o cs b ho) fun x hx=>?_
  cases x with
  |tmp t=>
   show(zcA ops a0 f n).tmps.getD t undef=a.tmps.getD t undef;have key:(zcA ops a0 f n).tmps[t]?=a.tmps[t]?:=by
    by_cases cz:∃j,zi7 ops t j
    ·obtain⟨j,hj⟩:=cz;obtain⟨e,he,hb,my⟩:=Cc t hx j hj;have qE:=iV e he hb;have aa:=BQ e he hb;rw[my]at qE aa;by_cases bG:t<a0.tmps.size
     ·rw[uC.ins t j MbC hj bG,hF.ins t j qE hj bG]
     ·rw[Array.getElem?_eq_none (by rw[uC.size];exact Nat.le_of_not_lt bG),Array.getElem?_eq_none (by rw[hF.size];exact Nat.le_of_not_lt bG)]
    ·rw[uC.o t fun j _ hj=>cz ⟨j,hj⟩,hF.o t fun j _ hj=>cz ⟨j,hj⟩]
   rw[Array.getD_eq_getD_getElem?,Array.getD_eq_getD_getElem?,key]
  |_=>rfl
 intro k;induction k with
 |zero=>
  intro listed f a z ss uB hs aA bG hc hF hV;have aE:∀i,i<n->listed.getD i false=true:=fun i hi=>by
   unfold zdS at hc;rw[List.countP_eq_zero]at hc;simpa using hc i (List.mem_range.2 hi)
  have hl:=done_eq hs (fun i hi _=>aE i hi) bG;have aU:(fun i=>listed.getD i false=true)=fun i=>i<n:=by
   funext i
   refine propext ⟨fun h=>?_,aE i⟩;refine Nat.lt_of_not_le fun bF=>?_
   by_cases aa:i<ops.size
   ·rw[getD_both (bG i bF aa)]at h;cases h
   ·have:¬i<listed.size:=by omega
    simp[this]at h
  rw[aU]at hF;have ha:a=zcA ops a0 f n:=hF.sameL (zeL hd a0 f n (Nat.le_of_lt hn));have gy:(ops.toList.drop n).length=ops.size-n:=MbF;have:=wpAny_of_seq (md:=md) (Q':=Q) (ops.toList.drop n) n listed a (w₀.ext z) (fun j=>by rw[List.getElem?_drop,Array.getElem?_toList]) (by rw[gy,hl];exact wf) (by rw[ha];exact hend f z (fun i hi=>hV i (aE i hi)) fun i j hi hj h1 h2 h3=>uB i j h1 h2 h3 (aE i hi) (aE j hj));rw[gy]at this;rw[Nat.zero_add];exact this
 |succ k ih=>
  intro listed f a z ss uB hs aA bG hc hF hV;have kI:∀(i:Nat) (o:Oper) (v:Value) (z':Ez),i∈Region.ready md ops listed->i<n->ops[i]?=some o->(D.contains i=true->v=.pointer (some ⟨(w₀.ext z).heap.size,0,none⟩)/\(w₀.ext z).heap.size<((w₀.ext z).ext z').heap.size)->V i v ((w₀.ext z).ext z')->wpAny P md ops Q (k+(ops.size-n)) (listed.setIfInBounds i true) (a.put o.dst v) ((w₀.ext z).ext z'):=by
   intro i o v z' hi aB ho gN hv;have kz:(w₀.ext z).heap.size<=((w₀.ext z).ext z').heap.size:=(za5 _ _).size;rw[zi0]at hv gN kz⊢;have h2:=getD_both (mem_ready.1 hi).1;have aa:i<ops.size:=(Array.getElem?_eq_some_iff.1 ho).1;have ag:¬(listed.getD i false=true):=by rw[h2];exact Bool.false_ne_true
   have bq:=hF.put hd (g:=fun k=>if k=i then v else f k) ho ag (fun k hk=>if_neg (by rintro rfl;exact ag hk)) (if_pos rfl);have aU:∀k,(listed.setIfInBounds i true).getD k false=true↔(listed.getD k false=true\/k=i):=by
    intro k;by_cases hk:i=k
    ·subst hk;have:i<listed.size:=by omega
     simp[this]
    ·rw[getD_set_ne false hk];exact⟨.inl,fun h=>h.elim id fun e=>absurd e.symm hk⟩
   refine ih _ (fun k=>if k=i then v else f k) _ _ (fun k hk hl=>?_) (fun j k hj hk jF qE cn=>?_) (by simpa using hs) (zin aA hi) (fun t h1 h3=>by rw[getD_set_ne true MbC];exact bG t h1 h3) ?_ ?_ ?_
   ·by_cases ao:k=i
    ·subst ao;obtain⟨e1,e2⟩:=gN hk;exact⟨_,by simp only[if_true];exact e1,e2⟩
    ·obtain⟨b,e1,e2⟩:=ss k hk (((aU k).1 hl).resolve_right ao);exact⟨b,by simp only[if_neg ao];exact e1,Nat.lt_of_lt_of_le e2 kz⟩
   ·by_cases bh:j=i
    ·subst bh;obtain⟨e1,_⟩:=gN hj;obtain⟨b,e3,e4⟩:=ss k hk (((aU k).1 cn).resolve_right (Ne.symm jF));simp only[if_true,if_neg (Ne.symm jF)];exact MaH
    ·by_cases ao:k=i
     ·subst ao;obtain⟨e1,_⟩:=gN hk;obtain⟨b,e3,e4⟩:=ss j hj (((aU j).1 qE).resolve_right bh);simp only[if_true,if_neg bh];exact MaH
     ·simp only[if_neg bh,if_neg ao];exact uB j k hj hk jF (((aU j).1 qE).resolve_right bh) (((aU k).1 cn).resolve_right ao)
   ·have:=cnt_one (fun j=>!listed.getD j false) (fun j=>!(listed.setIfInBounds i true).getD j false) i (by simp[h2]) (by rw[(aU i).2 (.inr rfl)];rfl) (fun x hx=>by rw[getD_set_ne false (Ne.symm hx)]) (List.range n) List.nodup_range (List.mem_range.2 aB);unfold zdS at hc⊢;omega
   ·exact⟨bq.defers,bq.size,fun t ht=>bq.o t fun k hk=>ht k ((aU k).2 hk),fun t k hk=>bq.ins t k ((aU k).1 hk)⟩
   ·intro k hk;rw[<-zi0];by_cases ao:k=i
    ·subst ao;simp only[if_true];rw[zi0];exact hv
    ·simp only[if_neg ao];rcases(aU k).1 hk with h|h
     ·exact hmono _ _ _ _ (hV k h)
     ·exact absurd h ao
  have ak:∀i,i<ops.size->listed.getD i false=false->(∀e o,ops[i]?=some o->e∈o.after->Region.binds md e=true->listed.getD e.on false=true)->i∈Region.ready md ops listed:=fun i hi hl h=>by
   have ho:ops[i]?=some ops[i]:=Array.getElem?_eq_getElem hi;rw[mem_ready];refine⟨?_,_,ho,fun e he hb=>h e _ ho he hb⟩;have aa:i<listed.size:=MbC;simp only[Array.getD,aa,dite_true]at hl⊢;exact hl
  rw[show k+1+(ops.size-n)=(k+(ops.size-n))+1 by omega];by_cases hE:∃i,E.contains i=true/\i∈Region.ready md ops listed
  ·obtain⟨i,sQ,hi⟩:=hE;obtain⟨h1,o,ho,iV⟩:=mem_ready.1 hi;have b8:=List.all_eq_true.1 C5 i (by simpa using sQ);simp only[Bool.and_eq_true,decide_eq_true_eq]at b8;obtain⟨aB,dm⟩:=b8;obtain⟨v,hv,ai⟩:=heag i o sQ ho f z fun e he hb=>hV e.on (iV e he hb)
   have h0:w₀.ext z=(w₀.ext z).ext ⟨#[],(w₀.ext z).drawn⟩:=by
    have key:∀u:World,u.ext ⟨#[],u.drawn⟩=u:=fun u=>by simp[World.ext]
    exact(key (w₀.ext z)).symm
   refine zla (v:=v) ho cZ (fun c a w=>hQ _ _ c a w) _ _ _ _ (fun j oj hj bh rF bN=>?_) hi (.inl ⟨?_,fun W _=>?_⟩) ?_
   ·have:=List.all_eq_true.1 dm j (List.mem_range.2 (Array.getElem?_eq_some_iff.1 hj).1);simp only[Bool.or_eq_true,beq_iff_eq]at this;rcases this with h|h|h|h
    ·exact absurd h bh
    ·obtain⟨e,he,hb,vt⟩:=edge_of hj h;exact absurd vt (bN e he hb)
    ·obtain⟨e,he,hb,vt⟩:=edge_of ho h;have:=iV e he hb;rw[vt,getD_both rF]at this;cases this
    ·unfold apartB at h;rw[ho,hj]at h;exact h
   ·simp[Region.wanted,(zgW hf ho).1]
   ·rw[<-yt i o ho aB listed f a hF iV];exact ai W
   ·have:=kI i o v ⟨#[],(w₀.ext z).drawn⟩ hi aB ho (fun uA=>by rw[hDE i uA]at sQ;cases sQ) (by rw[<-h0];exact hv);rw[<-h0]at this;exact this
  ·have kL:∃i,i<n/\listed.getD i false=false:=by
    refine Classical.byContradiction fun bN=>?_
    have:zdS n listed=0:=by
     unfold zdS;rw[List.countP_eq_zero];intro i hi;cases hl:listed.getD i false with
     |true=>simp
     |false=>exact absurd ⟨i,List.mem_range.1 hi,hl⟩ bN
    omega
   refine⟨fun hr=>?_,fun i hi=>?_⟩
   ·exfalso
    have aE:∀i,i<ops.size->listed.getD i false=true:=by
     intro i;induction i using Nat.strongRecOn with
     |_ i ihi=>
      intro hi;cases hl:listed.getD i false with
      |true=>rfl
      |false=>
       exfalso
       have:=ak i hi hl fun e o ho he hb=>ihi e.on ((zgW hf ho).2.1 e he hb) (by have:=(zgW hf ho).2.1 e he hb;omega)
       rw[hr]at this;cases this
    obtain⟨i,hi,hl⟩:=kL;rw[aE i MbC]at hl;cases hl
   ·obtain⟨h1,o,ho,iV⟩:=mem_ready.1 hi;have aa:i<ops.size:=(Array.getElem?_eq_some_iff.1 ho).1;have aB:i<n:=by
     refine Nat.lt_of_not_le fun bF=>?_
     have aE:∀j,j<n->listed.getD j false=true:=by
      intro j;induction j using Nat.strongRecOn with
      |_ j ihj=>
       intro hj;cases my:E.contains j with
       |false=>exact waits_of aA hi (wt i j bF aa hj my)
       |true=>
        cases hl:listed.getD j false with
        |true=>rfl
        |false=>
         exfalso
         exact hE ⟨j,my,ak j MbC hl fun e o ho he hb=>ihj e.on ((zgW hf ho).2.1 e he hb) (by have:=(zgW hf ho).2.1 e he hb;omega)⟩
     obtain⟨j,hj,hl⟩:=kL;rw[aE j hj]at hl;cases hl
    have hw:Region.wanted o (yielded ops a.tmps)=true:=by simp[Region.wanted,(zgW hf ho).1]
    unfold wpOp;simp only[ho];rw[if_pos hw];refine .inl ?_;have am:=gets_same (yt i o ho aB listed f a hF iV) (hstep i o aB ho f z fun e he hb=>hV e.on (iV e he hb));have bC:zca P o a (w₀.ext z) (fun v w'=>(D.contains i=true->v=.pointer (some ⟨(w₀.ext z).heap.size,0,none⟩)/\(w₀.ext z).heap.size<w'.heap.size)/\V i v w'/\∃z',w'=(w₀.ext z).ext z'):=by
     cases uA:D.contains i with
     |false=>exact gets_mono am fun v w' hv=>⟨fun h=>(by cases h),hv⟩
     |true=>
      obtain⟨obj,ai⟩:=hal i o uA ho a (w₀.ext z);unfold zca at am⊢;rw[ai]at am⊢;exact⟨fun _=>⟨rfl,by simp⟩,am⟩
    refine gets_wp bC ?_;rintro v w' ⟨gN,hv,z',rfl⟩;exact kI i o v z' hi aB ho gN hv
def zfR(P:Program)(ops:Array Oper):List Nat->Prop
 | []=>True
 |i::rest=>(∀o,ops[i]?=some o->∀(a:Act) (W:World),∃obj,(execOp a.eval o).run P W=.ok (.value (.pointer (some ⟨W.heap.size,0,none⟩))) (W.alloc obj))/\zfR P ops rest
theorem zjX:∀(D:List Nat),zfR P ops D->∀i∈D,∀o,ops[i]?=some o->∀(a:Act) (W:World),∃obj,(execOp a.eval o).run P W=.ok (.value (.pointer (some ⟨W.heap.size,0,none⟩))) (W.alloc obj)
 | [],_,_,hi=>by cases hi
 |x::D,h,i,hi=>by
  rcases List.mem_cons.1 hi with e|e
  ·rw[e];exact h.1
  ·exact zjX D h.2 i e
def zcG(P:Program)(md:Region.Mode)(w₀:World)(A:(Nat->Value)->Act)(V:Nat->Value->World->Prop)(ops:Array Oper):List Nat->Prop
 | []=>True
 |i::rest=>(∀o,ops[i]?=some o->∀f z,(∀e∈o.after,Region.binds md e=true->V e.on (f e.on) (w₀.ext z))->∃v,V i v (w₀.ext z)/\∀W,(execOp (A f).eval o).run P W=.ok (.value v) W)/\zcG P md w₀ A V ops rest
theorem zjY{A:(Nat->Value)->Act}{V:Nat->Value->World->Prop}:∀(E:List Nat),zcG P md w₀ A V ops E->∀i∈E,∀o,ops[i]?=some o->∀f z,(∀e∈o.after,Region.binds md e=true->V e.on (f e.on) (w₀.ext z))->∃v,V i v (w₀.ext z)/\∀W,(execOp (A f).eval o).run P W=.ok (.value v) W
 | [],_,_,hi=>by cases hi
 |x::E,h,i,hi=>by
  rcases List.mem_cons.1 hi with e|e
  ·rw[e];exact h.1
  ·exact zjY E h.2 i e
theorem zbE{Q:Exit->Act->World->Prop}{id:Nat}{a:Act}{w:World}{V:Nat->Value->World->Prop}{A:(Nat->Value)->Act}(n:Nat)(E D:List Nat)(hA:∀f,zcA ops a f n=A f)(hm:P.follows .mixedOrders=true)(hht:zgA .any ops n E=true)(hDE:(D.all fun i=>!E.contains i)=true)(hal:zfR P ops D)
 (hQ:∀d v c a w,Q (.panic c) (Act.put a d v) w->Q (.panic c) a w)(hmono:∀i v w z,V i v w->V i v (w.ext z))
 (hstep:zco P .any w.drew A V 0 (ops.toList.take n))(heag:zcG P .any w.drew A V ops E)
 (hend:∀f z,(∀i,i<n->V i (f i) (w.drew.ext z))->(∀i j,i<n->j<n->D.contains i=true->D.contains j=true->i≠j->f i≠f j)->wpList P ops Q (ops.toList.drop n) (A f) (w.drew.ext z)):(Code.region id ops true).wp P Q a w:=by
 refine wp_region_any hm ?_;have h0:({w with drawn:=w.drawn+1}:World)=w.drew.ext ⟨#[],w.drew.drawn⟩:=by
  have key:∀u:World,u.ext ⟨#[],u.drawn⟩=u:=fun u=>by simp[World.ext]
  exact(key w.drew).symm
 rw[h0];have hn:n<ops.size:=by
  unfold zgA at hht;simp only[Bool.and_eq_true,decide_eq_true_eq]at hht;exact hht.1.1
 have hk:zdS n (Array.replicate ops.size false)=n:=by
  unfold zdS;have:(fun i=>!(Array.replicate ops.size false).getD i false)=fun _=>true:=by
   funext i
   rw[getD_replicate_false];rfl
  rw[this];simp
 have ez:∀i,¬(Array.replicate ops.size false).getD i false=true:=fun i=>by rw[getD_replicate_false];exact Bool.false_ne_true
 have:=zmJ (P:=P) (md:=.any) (w₀:=w.drew) (Q:=Q) (a0:=a) (V:=V) (D:=D) hht (fun i hi=>by
  have:=List.all_eq_true.1 hDE i (by simpa using hi);simpa using this) (fun i o hi ho a W=>zjX D hal i (by simpa using hi) o ho a W) hQ hmono (fun i o aB ho f z hz=>by
  rw[hA];have hl:(ops.toList.take n)[i]?=some o:=by rw[List.getElem?_take,if_pos aB,Array.getElem?_toList];exact ho
  have:=zl0 (ops.toList.take n) 0 hstep i o hl f z hz;rw[Nat.zero_add]at this
  exact this) (fun i o hi ho f z hz=>by rw[hA];exact zjY E heag i (by simpa using hi) o ho f z hz) (fun f z h h2=>by rw[hA];exact hend f z h h2) n (Array.replicate ops.size false) (fun _=>undef) a ⟨#[],w.drew.drawn⟩ (fun i _ hl=>absurd hl (ez i)) (fun i _ _ _ _ hl=>absurd hl (ez i)) MbF (fun k o ho hl=>absurd hl (ez k))
  (fun t _ ht=>getD_in (by simpa using ht) (getD_replicate_false _ _)) hk ⟨rfl,rfl,fun _ _=>rfl,fun t i hi=>absurd hi (ez i)⟩ (fun i hi=>absurd hi (ez i))
 rw[show n+(ops.size-n)=ops.size by omega]at this;exact this
end
def zhM(p:Value->World->Prop):Prop:= ∀v W z,p v W->p v (W.ext z)
def vIs(u:Value)(v:Value)(_:World):Prop:=v=u
def vNew(base:Nat)(obj:Obj)(v:Value)(W:World):Prop:= ∃b,v=.pointer (some ⟨b,0,none⟩)/\base<=b/\W.heap[b]?=some obj
theorem mono_vIs(u:Value):zhM (vIs u):=fun _ _ _ h=>h
theorem mono_vNew(base:Nat)(obj:Obj):zhM (vNew base obj):=fun _ W z ⟨b,h1,h0,h2⟩=>⟨b,h1,h0,(zbJ W z b (zad h2)).trans h2⟩
def vL(Vs:List (Value->World->Prop))(i:Nat)(v:Value)(W:World):Prop:=(Vs.getD i (fun _ _=>True)) v W
theorem zeR{Vs:List (Value->World->Prop)}(h:∀p∈Vs,zhM p)(i:Nat)(v:Value)(W:World)(z:Ez)(hv:vL Vs i v W):vL Vs i v (W.ext z):=by
 unfold vL at*;rw[List.getD_eq_getElem?_getD]at*;cases hx:Vs[i]? with
 |none=>trivial
 |some p=>
  rw[hx]at hv;exact h p (List.mem_of_getElem? hx) _ _ _ hv
