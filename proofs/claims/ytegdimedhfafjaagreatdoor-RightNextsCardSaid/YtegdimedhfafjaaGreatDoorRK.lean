import Derived.StillTail
import Derived.Shelf.SlSortCmp.NoneTotal
import Derived.Test.YtegdimedhfafjaaGreatDoorJF
set_option linter.all false
set_option maxRecDepth 100000
set_option maxHeartbeats 4000000
namespace Go.Proofs.YtegdimedhfafjaaGreatDoor
attribute [local go_sem] World.cell?_alloc_mark zaf za5 zao za8 zav zaw zax zay zaz za0 za1
section
section
variable {P:Program} {ops:Array Oper} {md:Region.Mode} {w₀:World}
end
theorem stays(w:World):∃z',w=w.ext z':=⟨⟨#[],w.drawn⟩,by simp[World.ext]⟩
end
section
open Go.RowKit Go.Shelf
def zlw:Go.Shelf.Ren:=⟨fun|6=>131|15=>162|14=>161|28=>185|29=>186|20=>177|21=>178|22=>179|23=>180|24=>181|25=>182|26=>183|27=>184|46=>199|47=>200|48=>201|49=>202|50=>203|57=>206|n=>n,fun|22=>26|24=>62|25=>182|3=>3|39=>127|0=>0|53=>158|55=>160|4=>4|46=>216|45=>215|50=>168|5=>5|9=>9|66=>224|70=>228|76=>231|77=>232|n=>n,fun|n=>n⟩
theorem znU:Go.Proofs.SlLaysF0.n6 Tryz.prog zlw:= {
 mixed:=by kernel_rfl
 f6:=⟨Tryz.f131.name,by decide,Tryz.func131.trans (congrArg some Mcn)⟩
 f14:=⟨Tryz.f161.name,by decide,Tryz.func161.trans (congrArg some Mcn)⟩
 f15:=Tryz.func162.trans (congrArg some Mcn)
 f20:=⟨Tryz.f177.name,by decide,Tryz.func177.trans (congrArg some Mcn)⟩
 f21:=⟨Tryz.f178.name,by decide,Tryz.func178.trans (congrArg some Mcn)⟩
 f22:=⟨Tryz.f179.name,by decide,Tryz.func179.trans (congrArg some Mcn)⟩
 f23:=⟨Tryz.f180.name,by decide,Tryz.func180.trans (congrArg some Mcn)⟩
 f24:=⟨Tryz.f181.name,by decide,Tryz.func181.trans (congrArg some Mcn)⟩
 f25:=⟨Tryz.f182.name,by decide,Tryz.func182.trans (congrArg some Mcn)⟩
 f26:=⟨Tryz.f183.name,by decide,Tryz.func183.trans (congrArg some Mcn)⟩
 f27:=⟨Tryz.f184.name,by decide,Tryz.func184.trans (congrArg some Mcn)⟩
 f28:=Tryz.func185.trans (congrArg some Mcn)
 f29:=Tryz.func186.trans (congrArg some Mcn)
 f46:=⟨Tryz.f199.name,by decide,Tryz.func199.trans (congrArg some Mcn)⟩
 f47:=Tryz.func200.trans (congrArg some Mcn)
 f48:=Tryz.func201.trans (congrArg some Mcn)
 f49:=⟨Tryz.f202.name,by decide,Tryz.func202.trans (congrArg some Mcn)⟩
 f50:=⟨Tryz.f203.name,by decide,Tryz.func203.trans (congrArg some Mcn)⟩
 f57:=⟨Tryz.f206.name,by decide,Tryz.func206.trans (congrArg some Mcn)⟩
 t0:=Tryz.underlying0
 a0:=Tryz.isAgg0
 z0:=Tryz.sizeOf0
 v0:=Tryz.zeroValue0
 t3:=Tryz.underlying3
 a3:=Tryz.isAgg3
 z3:=Tryz.sizeOf3
 v3:=Tryz.zeroValue3
 t4:=Tryz.underlying4
 a4:=Tryz.isAgg4
 z4:=Tryz.sizeOf4
 v4:=Tryz.zeroValue4
 t5:=Tryz.underlying5
 a5:=Tryz.isAgg5
 z5:=Tryz.sizeOf5
 v5:=Tryz.zeroValue5
 t9:=Tryz.underlying9
 a9:=Tryz.isAgg9
 z9:=Tryz.sizeOf9
 v9:=Tryz.zeroValue9
 t22:=Tryz.underlying26
 a22:=Tryz.isAgg26
 z22:=Tryz.sizeOf26
 v22:=Tryz.zeroValue26
 t25:=Tryz.underlying182
 a25:=Tryz.isAgg182
 z25:=Tryz.sizeOf182
 v25:=Tryz.zeroValue182
 t39:=Tryz.underlying127
 a39:=Tryz.isAgg127
 z39:=Tryz.sizeOf127
 v39:=Tryz.zeroValue127
 t45:=Tryz.underlying215
 a45:=Tryz.isAgg215
 z45:=Tryz.sizeOf215
 v45:=Tryz.zeroValue215
 t46:=Tryz.underlying216
 a46:=Tryz.isAgg216
 z46:=Tryz.sizeOf216
 v46:=Tryz.zeroValue216
 t50:=Tryz.underlying168
 a50:=Tryz.isAgg168
 z50:=Tryz.sizeOf168
 v50:=Tryz.zeroValue168
 t53:=Tryz.underlying158
 a53:=Tryz.isAgg158
 z53:=Tryz.sizeOf158
 v53:=Tryz.zeroValue158
 t55:=Tryz.underlying160
 a55:=Tryz.isAgg160
 z55:=Tryz.sizeOf160
 v55:=Tryz.zeroValue160
 t66:=Tryz.underlying224
 a66:=Tryz.isAgg224
 z66:=Tryz.sizeOf224
 v66:=Tryz.zeroValue224
 t70:=Tryz.underlying228
 a70:=Tryz.isAgg228
 z70:=Tryz.sizeOf228
 v70:=Tryz.zeroValue228
 t76:=Tryz.underlying231
 a76:=Tryz.isAgg231
 z76:=Tryz.sizeOf231
 v76:=Tryz.zeroValue231
 t77:=Tryz.underlying232
 a77:=Tryz.isAgg232
 z77:=Tryz.sizeOf232
 v77:=Tryz.zeroValue232}
end
section
open Go.RowKit
def ofP(l:List Rec)(set:List Nat):List Rec:=set.filterMap fun i=>l[i]?
noncomputable def zdS (laws:List Law) (upto:Int):List Deed->St->Nat->Int->St×Nat×Int
 | [],s,k,_=>(s,k,0)
 |d::l,s,k,last=>
  if za3 d==0&&decide (upto<d.day)then(s,k+(d::l).length,0)else
  if(zbT laws s k last d).2 != 0 then(s,k,(zbT laws s k last d).2)else zdS laws upto l (zbT laws s k last d).1 (k+1) d.day
theorem zdF{laws:List Law}{s:St}{k:Nat}{last:Int}{d:Deed}(h:(zbT laws s k last d).2=0):za3 d=0/\k<60/\last<=d.day/\zbT laws s k last d=zbp laws s d:=by
 unfold zbT at h⊢;split at h
 ·rename_i hc
  have h:za3 d=0:=h;rw[h]at hc;exact absurd hc Mco
 rename_i hc
 split at h
 ·simp at h
 rename_i hk
 split at h
 ·simp at h
 rename_i hl
 rw[if_neg hc,if_neg hk,if_neg hl];simp at hc hk hl;exact⟨hc,hk,hl,rfl⟩
theorem zjD{laws:List Law}{upto:Int}:∀ {ds:List Deed} {s told:St} {k:Nat} {last:Int},(zaU laws upto ds s told k last).2.2=0->upto<last->(zaU laws upto ds s told k last).1=told
 | [],s,told,k,last,_,_=>rfl
 |d::l,s,told,k,last,h,hl=>by
  rw[zaU]at h⊢;split at h
  ·exact Maj
  ·rename_i hc
   rw[if_neg hc];have hn:=zdF (show(zbT laws s k last d).2=0 by simpa using hc);have hd:¬decide (d.day<=upto)=true:=Mcr;rw[if_neg hd]at h⊢;exact zjD h Mcm
theorem zlx{laws:List Law}{upto:Int}:∀ {ds:List Deed} {s:St} {k:Nat} {last:Int},(zaU laws upto ds s s k last).2.2=0->
 (zdS laws upto ds s k last).1=(zaU laws upto ds s s k last).1/\(zdS laws upto ds s k last).2.2=0
 | [],s,k,last,_=>⟨rfl,rfl⟩
 |d::l,s,k,last,h=>by
  rw[zaU]at h⊢;split at h
  ·exact Maj
  ·rename_i hc
   rw[if_neg hc];have h0:(zbT laws s k last d).2=0:=Mdx;have hn:=zdF h0;rw[zdS];by_cases hd:d.day<=upto
   ·have e1:decide (d.day<=upto)=true:=by simpa using hd
    have e2:¬(za3 d==0&&decide (upto<d.day))=true:=Mcr;rw[if_pos e1]at h⊢;rw[if_neg e2,if_neg hc];exact zlx h
   ·have e1:¬decide (d.day<=upto)=true:=by simpa using hd
    have e2:(za3 d==0&&decide (upto<d.day))=true:=by simp[hn.1];omega
    rw[if_neg e1]at h⊢;rw[if_pos e2];exact⟨(zjD h Mcm).symm,rfl⟩
theorem znV{laws:List Law}{upto:Int}(hu:200000<=upto):∀ {ds:List Deed} {s:St} {k:Nat} {last:Int},
 (zdS laws upto ds s k last).2=(zaU laws upto ds s s k last).2
 | [],s,k,last=>rfl
 |d::l,s,k,last=>by
  rw[zdS,zaU];have h1:¬(za3 d==0&&decide (upto<d.day))=true:=by
   intro h;simp only[Bool.and_eq_true,beq_iff_eq,decide_eq_true_eq]at h;have:=(zdN h.1).day;omega
  rw[if_neg h1];split
  ·rfl
  ·rename_i hc
   have hn:=zdF (show(zbT laws s k last d).2=0 by simpa using hc);have:=(zdN hn.1).day;rw[if_pos Mcr];exact znV hu
def zcP(n set:Nat):List Nat:=(List.range n).filter fun i=>set.testBit i
abbrev Spot:=ByteArray×Int
def eqSp(a b:Spot):Bool:=zae a.1 b.1&&a.2==b.2
theorem zf7{a b:Spot}:eqSp a b=true↔a=b:=by
 obtain⟨a1,a2⟩:=a;obtain⟨b1,b2⟩:=b;simp[eqSp,za2]
theorem eqSp_refl(a:Spot):eqSp a a=true:=zf7.2 rfl
theorem eqSp_sym(a b:Spot):eqSp a b=eqSp b a:=by rw[Bool.eq_iff_iff,zf7,zf7];exact⟨Eq.symm,Eq.symm⟩
theorem zi8{V:Type}{k n:Spot}{v:V}:∀ {m:List (Spot×V)},mget eqSp n (mput eqSp k v m)=if eqSp n k then some v else mget eqSp n m
 | []=>rfl
 |x::m=>by
  rw[mput];cases hk:eqSp k x.1
  ·simp only[Bool.false_eq_true,if_false];rw[mget,mget,zi8 (m:=m)];cases hn:eqSp n x.1
   ·simp
   ·have e:=zf7.1 hn;subst e;rw[eqSp_sym,hk];simp
  ·simp only[if_true];have e:=zf7.1 hk;rw[mget,mget,<-e];cases hn:eqSp n k<;>simp
end
section
open Go.RowKit
theorem zcx(n lo hi:Int)(w:World):
 Calls Tryz.prog 60 #[.int .i64 n,.int .i64 lo,.int .i64 hi] w (Ret0 w (.bool (inR n lo hi))):=by
 go_enter Tryz.func60,Tryz.ntmps60
 go_wp2
 all_goals go_ret
 all_goals(refine⟨?_,rfl⟩;simp[inR, *])
 omega
theorem zjE(n:Int)(w:World):Calls Tryz.prog 97 #[.int .u8 n] w (Ret0 w (.bool (zcS n))):=by
 go_enter Tryz.func97,Tryz.ntmps97
 go_wp2
 all_goals go_ret
 all_goals refine⟨?_,rfl⟩
 all_goals refine zn6 ?_
 all_goals go_tidy
 all_goals simp[zcS]
 all_goals omega
theorem zly(n:Int)(w:World):Calls Tryz.prog 98 #[.int .u8 n] w (Ret0 w (.bool (zkV n))):=by
 go_enter Tryz.func98,Tryz.ntmps98
 go_wp2
 all_goals go_ret
 all_goals refine⟨?_,rfl⟩
 all_goals refine zn6 ?_
 all_goals go_tidy
 all_goals simp[zkV]
 all_goals omega
end
open Go.RowKit Go.Shelf
attribute [local go_sem] zaq zad
theorem zg2{fn:Func}{p q:Tmp}(h:fn.results= #[.cell p 56,.tmp q])(tmps:Array Value)(w:World)(B:Nat)(x0 x1 e:Value)(hp:tmps.getD p undef=.pointer (some ⟨B,0,none⟩))(hq:tmps.getD q undef=e)
 (hx:w.heap[B]?=some (.cells #[x0,x1] 56)):(results fn tmps).run Tryz.prog w=.ok (.tuple #[.agg #[x0,x1],e]) w:=by
 obtain⟨h0,h1⟩:=cF2 hx;clear hx;rw[Array.getD_eq_getD_getElem?]at hp hq;simp only[results,h];simp[Sem.run_bind,hp,hq];go_simp
