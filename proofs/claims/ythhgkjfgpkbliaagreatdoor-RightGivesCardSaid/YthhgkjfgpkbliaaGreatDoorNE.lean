import Derived.Test.YthhgkjfgpkbliaaGreatDoorRB
import Derived.Test.YthhgkjfgpkbliaaGreatDoorWA
import Derived.Test.YthhgkjfgpkbliaaGreatDoorJK
set_option linter.all false
set_option maxRecDepth 100000
set_option maxHeartbeats 4000000
namespace Go.Proofs.YthhgkjfgpkbliaaGreatDoor
open Go.RowKit
attribute [local go_sem] World.cell?_alloc_mark zae zav zai zaw zam zan zao zap zaq zar zas
def ofP(l:List Rec)(set:List Nat):List Rec:=set.filterMap fun i=>l[i]?
noncomputable def zcO (laws:List Law) (upto:Int):List Deed->St->Nat->Int->St×Nat×Int
 | [],s,k,_=>(s,k,0)
 |d::l,s,k,last=>
  if za8 d==0&&decide (upto<d.day)then(s,k+(d::l).length,0)else
  if(zb4 laws s k last d).2 != 0 then(s,k,(zb4 laws s k last d).2)else zcO laws upto l (zb4 laws s k last d).1 (k+1) d.day
theorem zcy{laws:List Law}{s:St}{k:Nat}{last:Int}{d:Deed}(h:(zb4 laws s k last d).2=0):za8 d=0/\k<60/\last<=d.day/\zb4 laws s k last d=zaZ laws s d:=by
 unfold zb4 at h⊢;split at h
 ·rename_i hc
  have h:za8 d=0:=h;rw[h]at hc;exact absurd hc MbD
 rename_i hc
 split at h
 ·simp at h
 rename_i hk
 split at h
 ·simp at h
 rename_i hl
 rw[if_neg hc,if_neg hk,if_neg hl];simp at hc hk hl;exact⟨hc,hk,hl,rfl⟩
theorem zip{laws:List Law}{upto:Int}:∀ {ds:List Deed} {s told:St} {k:Nat} {last:Int},(zax laws upto ds s told k last).2.2=0->upto<last->(zax laws upto ds s told k last).1=told
 | [],s,told,k,last,_,_=>rfl
 |d::l,s,told,k,last,h,hl=>by
  rw[zax]at h⊢;split at h
  ·exact Mae
  ·rename_i hc
   rw[if_neg hc];have hn:=zcy (show(zb4 laws s k last d).2=0 by simpa using hc);have hd:¬decide (d.day<=upto)=true:=MbH;rw[if_neg hd]at h⊢;exact zip h MbC
theorem zjB{laws:List Law}{upto:Int}:∀ {ds:List Deed} {s:St} {k:Nat} {last:Int},(zax laws upto ds s s k last).2.2=0->
 (zcO laws upto ds s k last).1=(zax laws upto ds s s k last).1/\(zcO laws upto ds s k last).2.2=0
 | [],s,k,last,_=>⟨rfl,rfl⟩
 |d::l,s,k,last,h=>by
  rw[zax]at h⊢;split at h
  ·exact Mae
  ·rename_i hc
   rw[if_neg hc];have h0:(zb4 laws s k last d).2=0:=Mcv;have hn:=zcy h0;rw[zcO];by_cases hd:d.day<=upto
   ·have e1:decide (d.day<=upto)=true:=by simpa using hd
    have e2:¬(za8 d==0&&decide (upto<d.day))=true:=MbH;rw[if_pos e1]at h⊢;rw[if_neg e2,if_neg hc];exact zjB h
   ·have e1:¬decide (d.day<=upto)=true:=by simpa using hd
    have e2:(za8 d==0&&decide (upto<d.day))=true:=by simp[hn.1];omega
    rw[if_neg e1]at h⊢;rw[if_pos e2];exact⟨(zip h MbC).symm,rfl⟩
theorem zlJ{laws:List Law}{upto:Int}(hu:200000<=upto):∀ {ds:List Deed} {s:St} {k:Nat} {last:Int},
 (zcO laws upto ds s k last).2=(zax laws upto ds s s k last).2
 | [],s,k,last=>rfl
 |d::l,s,k,last=>by
  rw[zcO,zax];have h1:¬(za8 d==0&&decide (upto<d.day))=true:=by
   intro h;simp only[Bool.and_eq_true,beq_iff_eq,decide_eq_true_eq]at h;have:=(zdv h.1).day;omega
  rw[if_neg h1];split
  ·rfl
  ·rename_i hc
   have hn:=zcy (show(zb4 laws s k last d).2=0 by simpa using hc);have:=(zdv hn.1).day;rw[if_pos MbH];exact zlJ hu
theorem zjC{laws:List Law}{upto:Int}(aG:za7 laws=0):∀ {ds:List Deed} {s:St} {k:Nat} {last:Int},GoodSt s last->last<=upto->∃b,b<=upto/\GoodSt (zcO laws upto ds s k last).1 b
 | [],s,k,last,h,hl=>⟨last,hl,h⟩
 |d::l,s,k,last,h,hl=>by
  rw[zcO];split
  ·exact⟨last,hl,h⟩
  ·rename_i h1
   split
   ·exact⟨last,hl,h⟩
   ·rename_i hc
    have hn:=zcy (show(zb4 laws s k last d).2=0 by simpa using hc);have hd:=zdv hn.1;have h2:d.day<=upto:=by
     rw[hn.1]at h1;simp at h1;exact h1
    have ht:zaZ laws s d=((zb4 laws s k last d).1,0):=by
     rw[<-hn.2.2.2];exact Prod.ext rfl Mcv
    exact zjC aG (zfF h hd hn.2.2.1 aG ht) h2
def zcz(n set:Nat):List Nat:=(List.range n).filter fun i=>set.testBit i
section
open Go.Shelf
attribute [local go_sem] zah zac
def recLens(l:List Rec):Prop:= ∀x∈l,x.name.size<=100000/\x.other.size<=100000/\x.place.size<=100000
theorem zgo(l:List Rec)(A:Option Addr)(n c:Nat)(w:World)(hn:n=l.length)(hc:n<=c)(hz:recLens l)(hS:Sl w 8 Rec.cells A l):Calls Tryz.prog 108 #[.slice A n c] w (Ret w (.int .i64 (zev l))):=by
 subst hn;have HS:=zHi hS;obtain⟨R,hR⟩:∃R,R=zev l:=⟨_,rfl⟩
 rw[<-hR];unfold zev at hR;by_cases h40:40<l.length
 ·rw[if_pos (by simpa using h40)]at hR;subst hR;have h4:(40:Int)<(l.length:Int):=MbC;clear hS;go_enter Tryz.func108,Tryz.ntmps108
  exact Mac
 ·rw[if_neg (by simpa using h40)]at hR;have h4:¬(40:Int)<(l.length:Int):=MbC;have HR:=zHi hR;clear hS hR;go_enter Tryz.func108,Tryz.ntmps108
  go_wp2_with fail
  go_loopw [11] (fun i wr=>∃k:Nat,k<=l.length/\i=.int .i64 k/\Hid (R=zeZ zbX (l.drop k))/\Below w.heap.size w wr) (fun i _=>l.length-(intOf i).toNat)
  case atStart=>exact⟨0,Nat.zero_le _,rfl,by show _=_;rw[HR.o,List.drop_zero],Below.refl _ _⟩
  case round=>
   obtain⟨k,hk,rfl,HX,hB⟩:=hrel;have HB:=zHi hB;by_cases aa:k<l.length
   ·obtain⟨b,off,rfl,hb,ah⟩:=(HS.o.keep hB).at aa;have hx:=HX.o;rw[List.drop_eq_getElem_cons aa,zeZ]at hx;obtain⟨z1,z2,z3⟩:=hz l[k] (List.getElem_mem aa);have hck:=fun W=>zhv l[k] W z1 z2 z3
    generalize l[k]=x at*;obtain⟨aK,eL,aq⟩:=yH3 hx hck aa;unfold Rec.v at eL;generalize zbX x=er at*;obtain⟨kd,nm,ot,pl,dy,tl,nu,de⟩:=x;have i0:wr.cell? ⟨b,off+k*8,none⟩=some (.int .i64 kd):=ah 0 _ rfl;have i1:wr.cell? ⟨b,off+k*8+1,none⟩=some (.string nm):=ah 1 _ rfl;have i2:wr.cell? ⟨b,off+k*8+2,none⟩=some (.string ot):=ah 2 _ rfl;have i3:wr.cell? ⟨b,off+k*8+3,none⟩=some (.string pl):=ah 3 _ rfl;have i4:wr.cell? ⟨b,off+k*8+4,none⟩=some (.int .i64 dy):=ah 4 _ rfl;have i5:wr.cell? ⟨b,off+k*8+5,none⟩=some (.int .i64 tl):=ah 5 _ rfl;have i6:wr.cell? ⟨b,off+k*8+6,none⟩=some (.int .i64 nu):=ah 6 _ rfl;have i7:wr.cell? ⟨b,off+k*8+7,none⟩=some (.int .i64 de):=ah 7 _ rfl;have ao:(k:Int)<(l.length:Int):=MbC;have bf:(0:Int)<=(k:Int):=MbC;have eV:(k:Int)<=(c:Int):=MbC;have aS:=hB.size;clear ah hx hck HX hB;by_cases h0:er=0
    ·subst h0;go_wp2_with (go_at_call 166;go_must(refine(eL.o _).mono ?_);rintro e wq ⟨rfl,z,rfl⟩)
     go_round
     case rel=>exact⟨k+1,aq.o,by go_num,by show _=_;rw[aK.o];rfl,HB.o.trans (Below.mono (B:=wr.heap.size) Bw aS)⟩
     case measure=>have:=aq.o;simp only[intOf];omega
    ·have aX:Hid (R=er):=by show _=_;rw[aK.o,if_pos Mcf]
     go_wp2_with (go_at_call 166;go_must(refine(eL.o _).mono ?_);rintro e wq ⟨rfl,z,rfl⟩)
     go_ret
     exact Ret.of (zbU aX.o.symm) (HB.o.trans (Below.mono (B:=wr.heap.size) Bw aS))
   ·have ao:¬(k:Int)<(l.length:Int):=MbC;have hx:=HX.o;rw[List.drop_eq_nil_of_le MbC,zeZ]at hx;have aX:Hid (R=0):=hx;clear hx hB;go_wp2_with fail
    go_ret
    exact Ret.of (zbU aX.o.symm) HB.o
end
def ze7(ds:List Deed):Int:=(ds.getLast?.map (·.day)).getD 0
theorem zm5{ds:List Deed}{k:Nat}(h:k<ds.length):ze7 (ds.take (k+1))=ds[k].day:=by
 have e:ds.take (k+1)=ds.take k++[ds[k]]:=by rw[List.take_add_one,List.getElem?_eq_getElem h];rfl
 unfold ze7;rw[e,List.getLast?_concat];rfl
section
open Go.Shelf
attribute [local go_sem] zah zac
theorem ziM(xs:List DV)(L:Option Addr)(n lc:Nat)(w:World)(hn:n=xs.length)(hl:xs.length<=100000)(hS:Sl w 7 DV.cells L xs):
 Calls Tryz.prog 40 #[.slice L n lc] w (zem w 28 7 DV.cells xs):=by
 have HM:=zHi hn;have q22:∀(w:World) (a:Option Addr) (n c n' c':Nat),(binOp .eql 23 (.slice a n c) (.slice none n' c')).run Tryz.prog w=.ok (.bool a.isNone) w:=fun w a n c n' c'=>Lib.run_eql_slice_nil w _ _ a n c n' c' Tryz.underlying23
 clear hn;go_enter Tryz.func40,Tryz.ntmps40
 cases L with
 |none=>
  exact Ms
 |some ad=>
  go_wp2_with (at_builtin;refine zbN rfl _ _ rfl zlG zcN zlF rfl (World.ownsRow_made w #[] 0 (Nat.le_refl _) (Nat.zero_le _) MbF) rfl HM.o (hS.keep Bw) ?q1 ?q2 MbF ?_)
  case q1=>simp[maxLen,HM.o];omega
  case q2=>simp[HM.o];omega
  intro v' w' h1 h2 h3;go_wp2_with fail
  go_ret
  refine⟨v',rfl,OwnS.of_own zcN Mcs,Below.grown Bw h2 MbF Mb1⟩
theorem zjD(xs:List Law)(L:Option Addr)(n lc:Nat)(w:World)(hn:n=xs.length)(hl:xs.length<=100000)(hS:Sl w 4 Law.cells L xs):
 Calls Tryz.prog 39 #[.slice L n lc] w (zem w 96 4 Law.cells xs):=by
 have HM:=zHi hn;have q22:∀(w:World) (a:Option Addr) (n c n' c':Nat),(binOp .eql 22 (.slice a n c) (.slice none n' c')).run Tryz.prog w=.ok (.bool a.isNone) w:=fun w a n c n' c'=>Lib.run_eql_slice_nil w _ _ a n c n' c' Tryz.underlying22
 clear hn;go_enter Tryz.func39,Tryz.ntmps39
 cases L with
 |none=>
  exact Ms
 |some ad=>
  go_wp2_with (at_builtin;refine zbN rfl _ _ rfl elLaw (fun _=>rfl) lw_one rfl (World.ownsRow_made w #[] 0 (Nat.le_refl _) (Nat.zero_le _) MbF) rfl HM.o (hS.keep Bw) ?q1 ?q2 MbF ?_)
  case q1=>simp[maxLen,HM.o];omega
  case q2=>simp[HM.o];omega
  intro v' w' h1 h2 h3;go_wp2_with fail
  go_ret
  refine⟨v',rfl,OwnS.of_own (fun _=>rfl) Mcs,Below.grown Bw h2 MbF Mb1⟩
theorem zhK(xs:List RPart)(L:Option Addr)(n lc:Nat)(w:World)(hn:n=xs.length)(hl:xs.length<=100000)(hS:Sl w 3 RPart.cells L xs):
 Calls Tryz.prog 68 #[.slice L n lc] w (zem w 59 3 RPart.cells xs):=by
 have HM:=zHi hn;have q22:∀(w:World) (a:Option Addr) (n c n' c':Nat),(binOp .eql 26 (.slice a n c) (.slice none n' c')).run Tryz.prog w=.ok (.bool a.isNone) w:=fun w a n c n' c'=>Lib.run_eql_slice_nil w _ _ a n c n' c' Tryz.underlying26
 clear hn;go_enter Tryz.func68,Tryz.ntmps68
 cases L with
 |none=>
  exact Ms
 |some ad=>
  go_wp2_with (at_builtin;refine zbN rfl _ _ rfl elRPart zio rp_one rfl (World.ownsRow_made w #[] 0 (Nat.le_refl _) (Nat.zero_le _) MbF) rfl HM.o (hS.keep Bw) ?q1 ?q2 MbF ?_)
  case q1=>simp[maxLen,HM.o];omega
  case q2=>simp[HM.o];omega
  intro v' w' h1 h2 h3;go_wp2_with fail
  go_ret
  refine⟨v',rfl,OwnS.of_own zio Mcs,Below.grown Bw h2 MbF Mb1⟩
theorem dv_of{W:World}{A:Option Addr}{ds:List Deed}(h:SlW W 7 zjh A ds):∃xs:List DV,xs.map (·.d)=ds/\(∀x∈xs,x.d.to.length<=x.c/\Sl W 3 RPart.cells x.B x.d.to)/\Sl W 7 DV.cells A xs:=by
 by_cases h0:ds=[]
 ·subst h0;exact⟨[],rfl,by simp,fun h=>absurd h MbF⟩
 ·have hl:0<ds.length:=by cases ds with
   |nil=>exact absurd rfl h0
   |cons _ _=>simp
  obtain⟨b,off,hA,hb,hc⟩:=h hl;have hx:∀(k:Nat) (hk:k<ds.length),∃y:DV,y.d=ds[k]/\y.d.to.length<=y.c/\Sl W 3 RPart.cells y.B y.d.to/\∀j u,y.cells[j]?=some u->W.cell? ⟨b,off+k*7+j,none⟩=some u:=fun k hk=>by
   obtain⟨cs,⟨B,c,h1,h2,h3⟩,h4⟩:=hc k _ (List.getElem?_eq_getElem hk);refine⟨⟨ds[k],B,c⟩,rfl,h1,h3,fun j u hu=>h4 j u ?_⟩;rw[h2];exact hu
  have aE:∀n,n<=ds.length->∃xs:List DV,xs.map (·.d)=ds.take n/\(∀x∈xs,x.d.to.length<=x.c/\Sl W 3 RPart.cells x.B x.d.to)/\∀k x,xs[k]?=some x->∀j u,x.cells[j]?=some u->W.cell? ⟨b,off+k*7+j,none⟩=some u:=by
   intro n;induction n with
   |zero=>intro _;exact⟨[],by simp,by simp,by simp⟩
   |succ n ih=>
    intro hn;obtain⟨xs,h1,h2,h3⟩:=ih MbC;obtain⟨y,e1,e2,e3,e4⟩:=hx n MbC;have af:xs.length=n:=by
     have:=congrArg List.length h1;simp at this;omega
    refine⟨xs++[y],?_,?_,?_⟩
    ·rw[List.map_append,h1,List.take_add_one,List.getElem?_eq_getElem (show n<ds.length by omega)];simp[e1]
    ·intro x o8;rcases List.mem_append.1 o8 with o8|o8
     ·exact h2 x o8
     ·rw[List.mem_singleton]at o8;subst o8;exact⟨e2,e3⟩
    ·intro k x hk;by_cases ix:k<n
     ·rw[List.getElem?_append_left MbC]at hk;exact h3 k x hk
     ·have cM:k=n:=by
       have:=(List.getElem?_eq_some_iff.1 hk).1;simp at this;omega
      subst cM;rw[List.getElem?_append_right MbC,af]at hk;simp at hk;subst hk;exact e4
  obtain⟨xs,h1,h2,h3⟩:=aE ds.length (Nat.le_refl _);rw[List.take_length]at h1;exact⟨xs,h1,h2,fun _=>⟨b,off,hA,hb,h3⟩⟩
end
theorem part_le{l:Parts}(h:∀p∈l,0<p.2)(hs:sumQ l<=1):∀p∈l,p.2<=1:=fun p hp=>by
 have:=zex (fun p hp=>by have:=h p hp;grind) p hp;grind
theorem num_pos{q:Rat}(h:0<q):1<=q.num:=by
 have hq:0<q.num:=by have:=(Rat.lt_iff 0 q).1 h;simpa using this
 omega
theorem not_large{l:Parts}(h:zaC l=false):∀p∈l,(p.2.den:Int)<=1000000000:=fun p hp=>by
 unfold zaC at h;rw[List.any_eq_false]at h;have:=h p hp;unfold bigQ at this;simpa using this
section
open Go.Shelf
attribute [local go_sem] zah zac
end
open Go.Shelf
attribute [local go_sem] zah zac
