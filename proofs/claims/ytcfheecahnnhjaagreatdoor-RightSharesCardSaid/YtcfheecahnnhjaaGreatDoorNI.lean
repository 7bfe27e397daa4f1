import Derived.Test.YtcfheecahnnhjaaGreatDoorRH
set_option linter.all false
set_option maxRecDepth 100000
set_option maxHeartbeats 4000000
namespace Go.Proofs.YtcfheecahnnhjaaGreatDoor
attribute [local go_sem] World.cell?_alloc_mark zag za4 zar zaB zaw zax zay zaz za0 za1 za2
attribute [local go_sem] zas zad
section
open Go.RowKit
theorem zl6{l:Parts}(h:GoodParts l){n:ByteArray}{q:Rat}(m:ByteArray):zaf (setP l n q) m=if zae m n then q else zaf l m:=by
 have hw:=zbN h (n:=n);have h0:zaf (zau l n) n=0:=by rw[zdF,zbE];rfl
 rw[ziq h.asc];by_cases hq:q==0
 ·rw[if_pos hq,zdF];have:q=0:=by simpa using hq
  rw[this]
 ·rw[if_neg hq,zio hw,h0,Rat.zero_add];cases hs:zae m n
  ·simp only[Bool.false_eq_true,if_false];rw[zdF,hs];rfl
  ·rfl
theorem eqS_same(a b:ByteArray):eqS a b=zae a b:=rfl
theorem ze0{V:Type}(k:ByteArray)(v:V)(n:ByteArray):∀m:List (ByteArray×V),mget eqS n (mput eqS k v m)=if zae n k then some v else mget eqS n m
 | []=>rfl
 |x::m=>by
  rw[mput];have l9:eqS k x.1=zae k x.1:=rfl;rw[l9];cases hk:zae k x.1
  ·rw[if_neg Mcx,mget,mget,ze0 k v n m];have jt:eqS n x.1=zae n x.1:=rfl;rw[jt];cases hn:zae n x.1
   ·simp
   ·have GC:zae n k=false:=by
     rw[zcl];intro e;rw[zap]at hn;rw[zcl]at hk;exact hk (e▸hn)
    simp[GC]
  ·have l9:k=x.1:=zap.1 hk;rw[if_pos rfl,mget,mget];show(if zae n k=true then _ else _)=_;cases hn:zae n k
   ·have:eqS n x.1=false:=by rw[eqS_same,<-l9,hn]
    simp[this]
   ·simp
theorem zfm{V:Type}(k:ByteArray)(v:V):∀m:List (ByteArray×V),(m.map (·.1)).Nodup->((mput eqS k v m).map (·.1)).Nodup/\∀x∈(mput eqS k v m).map (·.1),x=k\/x∈m.map (·.1)
 | [],_=>by simp[mput]
 |x::m,h=>by
  rw[mput];have l9:eqS k x.1=zae k x.1:=rfl;rw[l9];rw[List.map_cons,List.nodup_cons]at h;cases hk:zae k x.1
  ·obtain⟨h1,h2⟩:=zfm k v m h.2;rw[if_neg Mcx,List.map_cons];refine⟨List.nodup_cons.2 ⟨fun hx=>?_,h1⟩,fun y hy=>?_⟩
   ·rcases h2 _ hx with e|e
    ·rw[e,zbE]at hk;cases hk
    ·exact h.1 e
   ·rcases List.mem_cons.1 hy with rfl|hy
    ·exact .inr Mcx
    ·rcases h2 y hy with e|e
     ·exact .inl e
     ·exact .inr (by simp[e])
  ·have e:k=x.1:=zap.1 hk;rw[if_pos rfl,List.map_cons];refine⟨List.nodup_cons.2 ⟨by rw[e];exact h.1,h.2⟩,fun y hy=>?_⟩;rcases List.mem_cons.1 hy with rfl|hy
   ·exact .inl rfl
   ·exact .inr (by simp[hy])
theorem zcM{V:Type}{n:ByteArray}{v:V}:∀ {m:List (ByteArray×V)},mget eqS n m=some v->(n,v)∈m
 | [],h=>by simp[mget]at h
 |x::m,h=>by
  rw[mget]at h;have jt:eqS n x.1=zae n x.1:=rfl;rw[jt]at h;cases hn:zae n x.1
  ·rw[hn,if_neg Mcx]at h;exact List.mem_cons_of_mem _ (zcM h)
  ·rw[hn,if_pos rfl]at h;have e:=zap.1 hn;simp only[Option.some.injEq]at h;rw[e,<-h];exact List.mem_cons_self
theorem zg0{V:Type}{n:ByteArray}{v:V}:∀ {m:List (ByteArray×V)},(m.map (·.1)).Nodup->(n,v)∈m->mget eqS n m=some v
 | [],_,h=>by simp at h
 |x::m,hd,h=>by
  rw[List.map_cons,List.nodup_cons]at hd;rw[mget];have jt:eqS n x.1=zae n x.1:=rfl;rw[jt];rcases List.mem_cons.1 h with rfl|h
  ·rw[zbE,if_pos rfl]
  ·have ai:zae n x.1=false:=zcl.2 fun e=>hd.1 (by rw[<-e];exact List.mem_map.2 ⟨_,h,rfl⟩)
   rw[ai,if_neg Mcx];exact zg0 hd.2 h
end
section
section
variable {P:Program} {ops:Array Oper} {md:Region.Mode} {w₀:World}
def fedBy(md:Region.Mode)(ops:Array Oper):Bool:=(List.range ops.size).all fun i=>match ops[i]? with
 |none=>true
 |some o=>o.guard.isNone&&(o.after.all fun e=>!Region.binds md e||decide (e.on<i))&&o.op.operands.toList.all fun x=>match x with
  | .tmp t=>(List.range ops.size).all fun j=>(match ops[j]? with|some oj=>oj.dst != some t||o.after.any (fun e=>Region.binds md e&&e.on==j)|none=>true)
  |_=>true
end
theorem stays(w:World):∃z',w=w.ext z':=⟨⟨#[],w.drawn⟩,by simp[World.ext]⟩
end
section
open Go.RowKit
def toldOf(p:ByteArray)(d:Int)(l:List Rec):List ByteArray:=(l.filter fun x=>x.kind==3&&zae x.place p&&x.day==d).map (·.name)
theorem told_iff{p:ByteArray}{d:Int}{l:List Rec}{n:ByteArray}:n∈toldOf p d l↔ ∃x∈l,x.kind=3/\x.place=p/\x.day=d/\x.name=n:=by
 unfold toldOf;rw[List.mem_map];constructor
 ·rintro⟨x,hx,h⟩;rw[List.mem_filter]at hx;simp only[Bool.and_eq_true,beq_iff_eq,zap]at hx;exact⟨x,hx.1,hx.2.1.1,hx.2.1.2,hx.2.2,h⟩
 ·rintro⟨x,hx,h1,h2,h3,h4⟩;refine⟨x,List.mem_filter.2 ⟨hx,?_⟩,h4⟩;simp[h1,h2,h3,zbE]
structure Searched {α:Type} (r:α->α->Prop) (n:α) (queue seen:List α):Prop where
 reach:∀x,x∈queue\/x∈seen->Relation.TransGen r n x
 first:∀y,r n y->y∈seen\/y∈queue
 closed:∀x∈seen,∀y,r x y->y∈seen\/y∈queue
end
section
open Go.RowKit Go.Shelf
def zhx:List Rec->List Rec->Bool
 |_,[]=>false
 |pre,a::r=>pre.any (fun b=>zbI a b)||zhx (pre++[a]) r
theorem zl7:∀(l pre:List Rec),zhx pre l=((l.any fun a=>pre.any fun b=>zbI a b)||zkj l)
 | [],pre=>by simp[zhx,zkj]
 |a::r,pre=>by
  rw[zhx,zl7 r (pre++[a]),zkj,List.any_cons];have h:(r.any fun a'=>(pre++[a]).any fun b=>zbI a' b)=((r.any fun a'=>pre.any fun b=>zbI a' b)||r.any fun y=>zbI y a):=by
   induction r with
   |nil=>rfl
   |cons x r ih=>
    rw[List.any_cons,List.any_cons,List.any_cons,ih,List.any_append,List.any_cons,List.any_nil,Bool.or_false];cases pre.any (fun b=>zbI x b)<;>cases zbI x a<;>cases(r.any fun a'=>pre.any fun b=>zbI a' b)<;>rfl
  rw[h];cases pre.any (fun b=>zbI a b)<;>cases(r.any fun a'=>pre.any fun b=>zbI a' b)<;>cases(r.any fun y=>zbI y a)<;>simp
theorem sl_take5{α:Type}{w:World}{size:Nat}{f:α->List Value}{A:Option Addr}{xs:List α}(h:Sl w size f A xs)(k:Nat):Sl w size f A (xs.take k):=fun hl=>by
 obtain⟨b,off,hA,hb,hc⟩:=h (by rw[List.length_take]at hl;omega);refine⟨b,off,hA,hb,fun j x hx=>hc j x ?_⟩;rw[List.getElem?_take]at hx;split at hx
 ·exact hx
 ·cases hx
theorem conC_any(a b:Rec)(P:Nat)(w:World)(ha:0<=a.kind/\a.kind<=4)(hb:0<=b.kind/\b.kind<=4)(hP:w.heap[P]?=some (recO a)):Calls Tryz.prog 71 #[b.v,.pointer (some ⟨P,0,none⟩)] w (Ret w (.bool (zbI a b))):=by
 have HA:=zHi (fun W=>zmL a b W ha hb);generalize zbI a b=r at*;obtain⟨kd,nm,ot,pl,dy,tl,nu,de⟩:=a;obtain⟨kd2,nm2,ot2,pl2,dy2,tl2,nu2,de2⟩:=b;have hl:=zab hP;have hn:P≠w.heap.size:=Mcu;unfold recO at hP;obtain⟨c0,c1,c2,c3,c4,c5,c6,c7⟩:=cF8 hP;clear hP ha hb;unfold Rec.v at HA⊢;go_enter Tryz.func71,Tryz.ntmps71
 go_wp2_with (go_at_call 72;go_must(refine(HA.o _).mono ?_);rintro e wq ⟨rfl,z,rfl⟩)
 go_ret
 exact Ret.of rfl Bw
theorem zju(l:List Rec)(A:Option Addr)(c:Nat)(ci tm:Bool)(w:World)(hc:l.length<=c)(hl:l.length<=1000)(hk:∀x∈l,0<=x.kind/\x.kind<=4)(hS:Sl w 8 Rec.cells A l)
 (oE:∀W,Below w.heap.size w W->Calls Tryz.prog 73 #[.slice A l.length c] W (Ret W (.bool ci)))(p8:∀W,Below w.heap.size w W->Calls Tryz.prog 74 #[.slice A l.length c] W (Ret W (.bool tm))):
 Calls Tryz.prog 45 #[.slice A l.length c] w (Ret w (.bool (zkj l||ci||tm))):=by
 have eg:∀args w,(callFunc 71 args).run Tryz.prog w=.ok (.enter 71 args) w:=enters_of Tryz.func71 Mcv rfl;obtain⟨Ic,HS,HK,En,EU⟩:=yH5 eg hS hk oE p8;have iQ:zkj l=zhx (l.take 0) (l.drop 0):=by rw[List.take_zero,List.drop_zero,zl7];simp
 generalize zkj l=R at*;have HP:=zHi iQ;clear hS hk oE p8 eg iQ;go_enter Tryz.func45,Tryz.ntmps45
 go_wp2_with fail
 go_loopw [7] (fun i wr=>∃k:Nat,k<=l.length/\i=.int .i64 k/\Hid (R=zhx (l.take k) (l.drop k))/\Below w.heap.size w wr) (fun i _=>l.length-(intOf i).toNat)
 case atStart=>exact⟨0,Nat.zero_le _,rfl,HP.o,Below.refl _ _⟩
 case round=>
  obtain⟨k,hk,rfl,HX,hB⟩:=hrel;have HB:=zHi hB;have aI:=hB.size;by_cases ae:k<l.length
  ·have hx:=HX.o;rw[List.drop_eq_getElem_cons ae,zhx,<-List.take_succ_eq_append_getElem ae]at hx;have xj:∀W,Below wr.heap.size wr W->W.heap[wr.heap.size]?=some (recO l[k])->Calls Tryz.prog 70 #[.slice A k c,.func (.func 71) #[] #[.pointer (some ⟨wr.heap.size,0,none⟩)]] W (Ret W (.bool ((l.take k).any fun b=>zbI l[k] b))):=fun W hW hP=>by
    refine cfRec_any 71 _ Ic.o _ A k c (l.take k) W Mdd Mdd ((sl_take5 HS.o k).keep (HB.o.trans (hW.mono aI))) fun x hx W' pJ=>?_
    refine(conC_any l[k] x wr.heap.size W' (HK.o _ (List.getElem_mem ae)) (HK.o x (List.mem_of_mem_take hx)) ((pJ.block _ (zab hP)).trans hP)).mono ?_;rintro e wq ⟨rfl,z,rfl⟩;exact⟨rfl,pJ.trans ((zao W' z).mono pJ.size)⟩
   obtain⟨b,off,hA,hb,ah⟩:=(HS.o.keep hB).at ae;obtain⟨av,tA,am⟩:=yH3 hx xj ae;generalize l[k]=x at*;generalize((l.take k).any fun b=>zbI x b)=an at*;obtain⟨kd,nm,ot,pl,dy,tl,nu,de⟩:=x;have i0:wr.cell? ⟨b,off+k*8,none⟩=some (.int .i64 kd):=ah 0 _ rfl;have i1:wr.cell? ⟨b,off+k*8+1,none⟩=some (.string nm):=ah 1 _ rfl;have i2:wr.cell? ⟨b,off+k*8+2,none⟩=some (.string ot):=ah 2 _ rfl;have i3:wr.cell? ⟨b,off+k*8+3,none⟩=some (.string pl):=ah 3 _ rfl;have i4:wr.cell? ⟨b,off+k*8+4,none⟩=some (.int .i64 dy):=ah 4 _ rfl;have i5:wr.cell? ⟨b,off+k*8+5,none⟩=some (.int .i64 tl):=ah 5 _ rfl;have i6:wr.cell? ⟨b,off+k*8+6,none⟩=some (.int .i64 nu):=ah 6 _ rfl;have i7:wr.cell? ⟨b,off+k*8+7,none⟩=some (.int .i64 de):=ah 7 _ rfl;have ar:(k:Int)<(l.length:Int):=Mcu;have aT:(0:Int)<=(k:Int):=Mcu;have fu:(k:Int)<=(c:Int):=Mcu;subst hA;clear ah hx xj HX hB;cases an
   ·go_wp2_with (go_at_call 70;go_must(refine(tA.o _ Bw (zaq _ _ _ rfl)).mono ?_);rintro e wq ⟨rfl,z,rfl⟩)
    go_round
    case rel=>exact⟨k+1,am.o,by go_num,by show _=_;rw[av.o,Bool.false_or],HB.o.trans (Below.mono (B:=wr.heap.size) Bw aI)⟩
    case measure=>have:=am.o;simp only[intOf];omega
   ·have cn:Hid (R=true):=by show _=_;rw[av.o,Bool.true_or]
    go_wp2_with (go_at_call 70;go_must(refine(tA.o _ Bw (zaq _ _ _ rfl)).mono ?_);rintro e wq ⟨rfl,z,rfl⟩)
    exact Maz
  ·have ar:¬(k:Int)<(l.length:Int):=Mcu;have hx:=HX.o;rw[List.drop_eq_nil_of_le Mcu,zhx]at hx;have cn:Hid (R=false):=hx;clear hx;have oE:=fun W (hW:Below wr.heap.size wr W)=>En.o W (hB.trans (hW.mono aI))
   have p8:=fun W (hW:Below wr.heap.size wr W)=>EU.o W (hB.trans (hW.mono aI))
   obtain⟨pf,zO⟩:=yH2 oE p8;clear oE p8 hB En EU;cases ci
   ·go_wp2_with (first
     |(go_at_call 73;go_must(refine(pf.o _ Bw).mono ?_);rintro e wq ⟨rfl,z,rfl⟩)
     |(go_at_call 74;go_must(refine(zO.o _ Bw).mono ?_);rintro e wq2 ⟨rfl,z2,rfl⟩))
    exact Maz
   ·go_wp2_with (go_at_call 73;go_must(refine(pf.o _ Bw).mono ?_);rintro e wq ⟨rfl,z,rfl⟩)
    exact Maz
end
open Go.RowKit
