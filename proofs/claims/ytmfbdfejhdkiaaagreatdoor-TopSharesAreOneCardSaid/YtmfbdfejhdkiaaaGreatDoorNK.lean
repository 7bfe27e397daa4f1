/- Walk: what the laws of mortsafetop about chapter 5 begin with, by the two tables that it reads. -/
import Derived.Test.YtmfbdfejhdkiaaaGreatDoorSD
import Derived.Test.YtmfbdfejhdkiaaaGreatDoorYO
set_option linter.all false
set_option maxRecDepth 100000
set_option maxHeartbeats 4000000
namespace Go.Proofs.YtmfbdfejhdkiaaaGreatDoor
open Go.RowKit Go.Shelf
attribute [local go_sem] World.cell?_alloc_mark zae za4 zao za8 zav zaw zax zay zaz za0 za1
attribute [local go_sem] zap zac
theorem last_cons(x:Deed)(l:List Deed)(a:Int):((x::l).getLast?.map (·.day)).getD a=(l.getLast?.map (·.day)).getD x.day:=by
 cases l with
 |nil=>rfl
 |cons y r=>
  rw[List.getLast?_cons_cons];cases hh:(y::r).getLast? with
  |none=>simp at hh
  |some z=>rfl
theorem zml(laws:List Law)(u:Int)(d:Deed):∀(ds:List Deed) (s told:St) (k:Nat) (last:Int),(zau laws u ds s told k last).2.2=0->
 zau laws u (ds++[d]) s told k last=if(zbt laws (zau laws 200000 ds s s k last).1 (k+ds.length) ((ds.getLast?.map (·.day)).getD last) d).2 != 0 then((zau laws u ds s told k last).1,k+ds.length,(zbt laws (zau laws 200000 ds s s k last).1 (k+ds.length) ((ds.getLast?.map (·.day)).getD last) d).2)else(if decide (d.day<=u)then(zbt laws (zau laws 200000 ds s s k last).1 (k+ds.length) ((ds.getLast?.map (·.day)).getD last) d).1 else(zau laws u ds s told k last).1,k+ds.length+1,0)
 | [],s,told,k,last,_=>by
   simp only[List.nil_append,zau,List.length_nil,Nat.add_zero,List.getLast?_nil,Option.map_none,Option.getD_none];rfl
 |x::l,s,told,k,last,h=>by
  have hx:(zbt laws s k last x).2=0:=by
   exact Mas
  have cf:decide (x.day<=200000)=true:=decide_eq_true (zcP (zcr hx).1).day.2;have e1:zau laws 200000 (x::l) s s k last=zau laws 200000 l (zbt laws s k last x).1 (zbt laws s k last x).1 (k+1) x.day:=by rw[zau,if_neg Mdl,if_pos cf]
  have e2:zau laws u (x::l) s told k last=zau laws u l (zbt laws s k last x).1 (if decide (x.day<=u)then(zbt laws s k last x).1 else told) (k+1) x.day:=by rw[zau,if_neg Mdl]
  have e3:zau laws u (x::l++[d]) s told k last=zau laws u (l++[d]) (zbt laws s k last x).1 (if decide (x.day<=u)then(zbt laws s k last x).1 else told) (k+1) x.day:=by rw[List.cons_append,zau,if_neg Mdl]
  rw[e2]at h;rw[e1,e2,e3,zml laws u d l _ _ _ _ h,last_cons,List.length_cons,show k+1+l.length=k+(l.length+1) by omega]
theorem zgV{laws:List Law}{ds:List Deed}{d:Deed}(h:zfN laws ds d=0):OkD d/\za9 laws=0/\(zaB laws ds 200000).2.2=0/\zeS ds<=d.day/\(zbk laws (zaB laws ds 200000).1 d).2=0/\
 ∀u,(zaB laws (ds++[d]) u).2.2=0/\(zaB laws (ds++[d]) u).1=if d.day<=u then(zbk laws (zaB laws ds 200000).1 d).1 else(zaB laws ds u).1:=by
 unfold zfN at h;by_cases hs:(zco laws ds 200000).2.2=0;rotate_left 1
 ·rw[if_pos (by simpa using hs)]at h;exact absurd h hs
 rw[if_neg (by simp[hs])]at h;by_cases hc:zaC d=0;rotate_left 1
 ·rw[if_pos Mdt]at h;exact absurd h hc
 rw[if_neg (by simp[hc]),(zfE hs 200000).1]at h;have jb:(zaB laws ds 200000).2.2=0:=by rw[<-zd7];exact hs
 have bc:=zgn jb;unfold zdp at h;by_cases kr:60<=ds.length
 ·rw[if_pos (by simpa using kr)]at h;exact absurd h Mcv
 rw[if_neg (by simpa using kr)]at h;by_cases br:d.day<zeS ds
 ·rw[if_pos (by simpa using br)]at h;exact absurd h Mcv
 rw[if_neg (by simpa using br)]at h;refine⟨zcP hc,bc,jb,by omega,h,fun u=>?_⟩;have Ni:(zau laws u ds zbb zbb 0 0).2.2=0:=by
  have:=zfJ laws ds u 200000;have e:(zaB laws ds u).2.2=0:=by rw[this];exact jb
  unfold zaB at e;rwa [if_neg Mef]at e
 have eS:(zau laws 200000 ds zbb zbb 0 0).1=(zaB laws ds 200000).1:=by
  unfold zaB;rw[if_neg Mef]
 have eU:(zau laws u ds zbb zbb 0 0).1=(zaB laws ds u).1:=by
  unfold zaB;rw[if_neg Mef]
 have jC:zbt laws (zaB laws ds 200000).1 (0+ds.length) (zeS ds) d=zbk laws (zaB laws ds 200000).1 d:=by
  unfold zbt;rw[if_neg (by simp[hc]),if_neg (by rw[Nat.zero_add];simpa using kr),if_neg (by simpa using br)]
 have e:zaB laws (ds++[d]) u=zau laws u (ds++[d]) zbb zbb 0 0:=by
  unfold zaB;rw[if_neg Mef]
 have hl:(ds.getLast?.map (·.day)).getD 0=zeS ds:=rfl;rw[e,zml laws u d ds _ _ _ _ Ni,eS,hl,jC,eU,if_neg (by simp[h])];refine⟨rfl,?_⟩;by_cases hu:d.day<=u
 ·rw[if_pos Mex,if_pos hu]
 ·rw[if_neg Mex,if_neg hu]
theorem zpx{laws:List Law}{ds:List Deed}{d:Deed}{pl:ByteArray}{day:Int}(hn:zfN laws ds d=0)(hd:day<d.day):hOn laws (ds++[d]) pl day=hOn laws ds pl day:=by
 obtain⟨_,_,jb,hl,_,hu⟩:=zgV hn;unfold hOn;rw[(hu day).2,if_neg Mcq]
open Classical in
theorem zfK{H:Int->Parts}:∀ {l:List Int} {b:Parts},((zbO H l b).map (·.1)).Sublist l
 | [],_=>List.Sublist.slnil
 |d::l,b=>by
  rw[zbO];by_cases h:H d=b
  ·rw[if_pos h];exact(zfK (l:=l)).cons d
  ·rw[if_neg h,List.map_cons];exact(zfK (l:=l)).cons_cons d
open Classical in
theorem zjg{H:Int->Parts}:∀ {l:List Int} {b:Parts} {x:Int},l.Pairwise (· < ·)->x∈l->(∀h:0<(zbO H l b).length,x<(zbO H l b)[0].1)->H x=b
 | [],_,_,_,hx,_=>by cases hx
 |d::l,b,x,ha,hx,h=>by
  have hd:=(List.pairwise_cons.1 ha).1;by_cases he:H d=b
  ·have e:zbO H (d::l) b=zbO H l b:=by rw[zbO,if_pos he]
   rcases List.mem_cons.1 hx with hx|hx
   ·rw[hx];exact he
   ·refine zjg (List.pairwise_cons.1 ha).2 hx fun h0=>?_
    have:=h (by rw[e];exact h0);simpa only[e]using this
  ·have e:zbO H (d::l) b=(d,H d)::zbO H l (H d):=by rw[zbO,if_neg he]
   exfalso
   have:=h (by rw[e];simp);simp only[e,List.getElem_cons_zero]at this;rcases List.mem_cons.1 hx with hx|hx
   ·omega
   ·have:=hd x hx;omega
open Classical in
theorem zfy{H:Int->Parts}:∀ {l:List Int} {b:Parts} {x:Int} {i:Nat} (hi:i<(zbO H l b).length),l.Pairwise (· < ·)->x∈l->(zbO H l b)[i].1<=x->(∀h:i+1<(zbO H l b).length,x<(zbO H l b)[i+1].1)->H x=(zbO H l b)[i].2
 | [],_,_,_,_,_,hx,_,_=>by cases hx
 |d::l,b,x,i,hi,ha,hx,h1,h2=>by
  have hd:=(List.pairwise_cons.1 ha).1;by_cases he:H d=b
  ·have e:zbO H (d::l) b=zbO H l b:=by rw[zbO,if_pos he]
   have xB:i<(zbO H l b).length:=by rw[<-e];exact hi
   have e1:(zbO H (d::l) b)[i]=(zbO H l b)[i]:=by simp only[e]
   rw[e1]at h1⊢;rcases List.mem_cons.1 hx with hx|hx
   ·exfalso
    have hm:(zbO H l b)[i].1∈l:=zfK.subset (List.mem_map.2 ⟨_,List.getElem_mem xB,rfl⟩);have:=hd _ hm;omega
   ·refine zfy xB (List.pairwise_cons.1 ha).2 hx h1 fun h=>?_
    have:=h2 (by rw[e];exact h);simpa only[e]using this
  ·have e:zbO H (d::l) b=(d,H d)::zbO H l (H d):=by rw[zbO,if_neg he]
   cases i with
   |zero=>
    have e1:(zbO H (d::l) b)[0]=(d,H d):=by simp only[e,List.getElem_cons_zero]
    rw[e1];rcases List.mem_cons.1 hx with hx|hx
    ·rw[hx]
    ·refine zjg (List.pairwise_cons.1 ha).2 hx fun h0=>?_
     have:=h2 (by rw[e];simpa using h0);simpa only[e,List.getElem_cons_succ]using this
   |succ j=>
    have hj:j<(zbO H l (H d)).length:=by rw[e]at hi;simpa using hi
    have e1:(zbO H (d::l) b)[j+1]=(zbO H l (H d))[j]:=by simp only[e,List.getElem_cons_succ]
    rw[e1]at h1⊢;have hm:(zbO H l (H d))[j].1∈l:=zfK.subset (List.mem_map.2 ⟨_,List.getElem_mem hj,rfl⟩);have qa:=hd _ hm;rcases List.mem_cons.1 hx with hx|hx
    ·omega
    ·refine zfy hj (List.pairwise_cons.1 ha).2 hx h1 fun h=>?_
     have:=h2 (by rw[e];simpa using h);simpa only[e,List.getElem_cons_succ]using this
theorem last_le(q:Int):∀L:List Int,(∀x∈L,¬x<=q)\/∃m∈L,m<=q/\∀x∈L,x<=q->x<=m
 | []=> .inl Mcv
 |d::l=>by
  rcases last_le q l with h|⟨m,hm,h1,h2⟩
  ·by_cases hd:d<=q
   ·refine .inr ⟨d,by simp,hd,fun x hx hp=>?_⟩;rcases List.mem_cons.1 hx with e|e
    ·omega
    ·exact absurd hp (h x e)
   ·exact Mbr
  ·by_cases hd:d<=q/\m<=d
   ·refine .inr ⟨d,by simp,hd.1,fun x hx hp=>?_⟩;rcases List.mem_cons.1 hx with e|e
    ·omega
    ·have:=h2 x e hp;omega
   ·exact Ma9
theorem tenure_on{laws:List Law}{ds:List Deed}{place:ByteArray}{L:List Int}{q:Int}{i:Nat}(hL:L.Pairwise (· < ·))(hl:∀x,x∈L↔x∈zeT laws ds place ds)(hi:i<(zbO (hOn laws ds place) L []).length)(h1:(zbO (hOn laws ds place) L [])[i].1<=q)(h2:∀h:i+1<(zbO (hOn laws ds place) L []).length,q<(zbO (hOn laws ds place) L [])[i+1].1):
 hOn laws ds place q=(zbO (hOn laws ds place) L [])[i].2:=by
 have hm:(zbO (hOn laws ds place) L [])[i].1∈L:=zfK.subset (List.mem_map.2 ⟨_,List.getElem_mem hi,rfl⟩);rcases last_le q L with h|⟨p,hp,qx,xY⟩
 ·exact absurd h1 (h _ hm)
 ·rw[hOn_same qx fun x hx ⟨ha,hb⟩=>by have:=xY x ((hl x).2 hx) hb;omega];exact zfy hi hL hp (xY _ hm h1) fun h=>by have:=h2 h;omega
theorem len_sub:∀ {L M:List Int},L.Nodup->(∀x∈L,x∈M)->L.length<=M.length
 | [],_,_,_=>Nat.zero_le _
 |x::l,M,hn,h=>by
  obtain⟨h1,h2⟩:=List.nodup_cons.1 hn;have hx:=h x Mcv;have:=len_sub (M:=M.erase x) h2 fun y hy=>(List.mem_erase_of_ne (by rintro rfl;exact h1 hy)).2 (h y (by simp[hy]))
  rw[List.length_erase_of_mem hx]at this;have:=List.length_pos_of_mem hx;rw[List.length_cons];omega
theorem go_low{laws:List Law}{u:Int}:∀ {ds:List Deed} {s told:St} {k:Nat} {last:Int},(zau laws u ds s told k last).2.2=0->∀x∈ds,last<=x.day
 | [],_,_,_,_,_=>by simp
 |x::l,s,told,k,last,h=>by
  have hx:(zbt laws s k last x).2=0:=by
   exact Mas
  rw[zau,if_neg Mdl]at h;have hl:=(zcr hx).2.2.1;intro y hy;rcases List.mem_cons.1 hy with e|e
  ·rw[e];exact hl
  ·exact Int.le_trans hl (go_low h y e)
theorem go_take{laws:List Law}{u:Int}:∀ {ds:List Deed} {s:St} {k:Nat} {last:Int},(zau laws u ds s s k last).2.2=0->∃c,c<=ds.length/\(zau laws u ds s s k last).1=(zau laws 200000 (ds.take c) s s k last).1/\(zau laws 200000 (ds.take c) s s k last).2.2=0
 | [],s,k,last,_=>⟨0,Qc,rfl,rfl⟩
 |x::l,s,k,last,h=>by
  have hx:(zbt laws s k last x).2=0:=by
   exact Mas
  have cf:decide (x.day<=200000)=true:=decide_eq_true (zcP (zcr hx).1).day.2;by_cases hu:x.day<=u
  ·have e:zau laws u (x::l) s s k last=zau laws u l (zbt laws s k last x).1 (zbt laws s k last x).1 (k+1) x.day:=by rw[zau,if_neg Mdl,if_pos Mex]
   rw[e]at h;obtain⟨c,hc,h1,h2⟩:=go_take h;have e2:zau laws 200000 ((x::l).take (c+1)) s s k last=zau laws 200000 (l.take c) (zbt laws s k last x).1 (zbt laws s k last x).1 (k+1) x.day:=by rw[List.take_succ_cons,zau,if_neg Mdl,if_pos cf]
   exact⟨c+1,by simpa using hc,by rw[e,h1,e2],by rw[e2];exact h2⟩
  ·have fN:=go_low h;have aH:∀y∈x::l,¬y.day<=u:=fun y hy=>by
    have e:zau laws u (x::l) s s k last=zau laws u l (zbt laws s k last x).1 s (k+1) x.day:=by rw[zau,if_neg Mdl,if_neg Mex]
    rw[e]at h;rcases List.mem_cons.1 hy with e1|e1
    ·rw[e1];exact hu
    ·have:=go_low h y e1;omega
   exact⟨0,Nat.zero_le _,by rw[znu laws (x::l) s s k last aH];rfl,rfl⟩
theorem znw{laws:List Law}{ds:List Deed}{u:Int}(h:(zaB laws ds u).2.2=0):∃c,c<=ds.length/\(zaB laws ds u).1=(zaB laws (ds.take c) 200000).1/\(zaB laws (ds.take c) 200000).2.2=0:=by
 have bc:=zgn h;unfold zaB at h⊢;rw[if_neg Mef]at h⊢;obtain⟨c,hc,h1,h2⟩:=go_take h;exact⟨c,hc,by rw[if_neg Mef];exact h1,by rw[if_neg Mef];exact h2⟩
theorem zmm(f:Nat->List Int)(hf:∀c,(f c).length<=c):∀n,2*((List.range n).flatMap f).length<=n*n
 |0=>by simp
 |n+1=>by
  have ih:=zmm f hf n;have:=hf n;rw[List.range_succ,List.flatMap_append,List.length_append];simp only[List.flatMap_cons,List.flatMap_nil,List.append_nil];have e:(n+1)*(n+1)=n*n+2*n+1:=by rw[Nat.add_mul,Nat.mul_add];omega
  omega
open Classical in
theorem days_few{laws:List Law}{ds:List Deed}{place:ByteArray}{L:List Int}(jb:(zaB laws ds 200000).2.2=0)(hL:L.Pairwise (· < ·))(hl:∀x,x∈L↔x∈zeT laws ds place ds)(hd:ds.length<=15):L.length<=200:=by
 let f:Nat->List Int:=fun c=>if(zaB laws (ds.take c) 200000).2.2=0/\c<=ds.length then zec place (zaB laws (ds.take c) 200000).1.graves else[]
 have hf:∀c,(f c).length<=c:=fun c=>by
  show(if _ then _ else _:List Int).length<=c;split
  ·rename_i h
   have h1:=(zgo h.1).few.graves;rw[List.length_take]at h1;unfold zec;rw[List.length_map];refine Nat.le_trans (List.length_filter_le _ _) ?_;omega
  ·simp
 have jD:∀x∈L,x∈ds.map (·.day)++(List.range (ds.length+1)).flatMap f:=fun x hx=>by
  obtain⟨d,hd,hx⟩:=List.mem_flatMap.1 ((hl x).1 hx);rw[List.mem_append];rcases List.mem_cons.1 hx with e|e
  ·exact .inl (List.mem_map.2 ⟨d,hd,e.symm⟩)
  ·have he:(zaB laws ds d.day).2.2=0:=by rw[zfJ laws ds d.day 200000];exact jb
   obtain⟨c,hc,h1,h2⟩:=znw he;refine .inr (List.mem_flatMap.2 ⟨c,List.mem_range.2 Mcq,?_⟩);show x∈(if _ then _ else _:List Int);rw[if_pos ⟨h2,hc⟩,<-h1];exact e
 have h1:=len_sub (hL.imp fun h=>by omega) jD;have h2:=zmm f hf (ds.length+1);rw[List.length_append,List.length_map]at h1;have h3:(ds.length+1)*(ds.length+1)<=16*16:=Nat.mul_le_mul Mcq Mcq;omega
theorem on_at{laws:List Law}{ds:List Deed}{names:List ByteArray}{day:Int}(h:(zaB laws ds 200000).2.2=0)(hn:∀s∈names,zaE s=true)(hd:zbm day=true):zct laws ds names day=0:=by
 have h3:(zco laws ds 200000).2.2=0:=by rw[zd7];exact h
 unfold zct;rw[if_neg (by simp[h3]),if_neg,if_neg (by simp[hd])];rw[List.any_eq_true];rintro⟨s,hs,h4⟩;rw[hn s hs]at h4;cases h4
structure Laid2 (w:World):Prop where
 forms:FormsIn w
 lens:LensIn w
theorem Laid2.keep{w W:World}{n:Nat}(h:Laid2 w)(hB:Below n w W)(hn:w.heap.size<=n:=by first|exact Qc|omega):Laid2 W:=⟨h.forms.keep hB hn,h.lens.keep hB hn⟩
def HoldPostF(w:World)(e:Ending)(w':World):Prop:= ∃A c,e=.returned (.tuple #[.slice A 3 c,.int .i64 0])/\3<=c/\Sl w' 3 RPart.cells A famR/\Qa w w'
theorem zmn(LA DA:Option Addr)(w:World)(hR:RightsIn w zcB zcc LA 2 2 DA 5 5)(hL:Laid2 w):Calls Tryz.prog 10 #[.agg #[.slice LA 2 2,.slice DA 5 5],.string ⟨#[97,49]⟩,.int .i64 200] w (HoldPostF w):=by
 refine(zgj zcB zcc nA1 200 LA 2 2 DA 5 5 w hR hL.forms hL.lens fam_lens Mcu).mono ?_;rintro e w' ⟨hB,h⟩;rw[fam_err [nA1] 200 Mcs Mcs,zjR 200 Mcu]at h;rcases h with⟨h,_⟩|⟨_,A,c,rfl,hc,hS⟩
 ·exact absurd rfl h
 ·rw[show((fam5,5,(0:Int)):St×Nat×Int).1=fam5 from rfl,fam_holds]at hc hS⊢;exact⟨A,c,rfl,hc,sl_same hS fam_cells,hB⟩
theorem add58:zbF 30 1=58:=by kernel_rfl
theorem zkR(w:World)(hL:Laid2 w):Calls Tryz.prog 4 #[] w (Ret w (.bool true)):=by
 have HL:=zHi hL;clear hL;go_enter Tryz.func4,Tryz.ntmps4
 go_upto_region 2 with(first
  |(go_at_call 13;go_must(refine(zoX _).mono ?_);rintro e w1 ⟨LA,DA,rfl,hr,hb⟩;obtain⟨HR,HB⟩:=yH2 hr hb;clear hr hb)
  |(go_at_call 10;go_must(refine(zmn LA DA _ HR.o (HL.o.keep HB.o)).mono ?_);rintro e w2 ⟨A2,c2,rfl,d8,bk,bC⟩;obtain⟨tY,aC⟩:=yH2 bk (HB.o.trans (bC.mono HB.o.size));clear bk bC))
 clear HR HB;have F0:=zHi (fun W (hW:Qa w W)=>zgz 30 1 W (HL.o.keep hW).lens Mcu Mcu Mcu Mcu);have aQ:=tY.o Mcu;obtain⟨b,off,rfl,hb,ah⟩:=aQ;have zu:=zHi ah;clear ah;go_upto_region 3 with(go_at_call 14;go_must(refine(F0.o _ aC.o).mono ?_);rintro e w3 ⟨n,er,ka,bD,rfl,z3,rfl⟩)
 have fx:er=0:=by
  by_cases h:er=0
  ·exact h
  ·have:=bD h;rw[add58]at this;exact absurd this Mcu
 subst fx;have iD:n=58:=(ka rfl).1.symm.trans add58;subst iD;clear ka bD F0;have i0:(w2.ext z3).cell? ⟨b,off,none⟩=some (.string ⟨#[98,111,98]⟩):=(za4 _ _ _ _ hb).trans (zu.o 0 _ rfl 0 _ rfl);have i1:(w2.ext z3).cell? ⟨b,off+1,none⟩=some (.int .i64 3):=(za4 _ _ _ _ hb).trans (zu.o 0 _ rfl 1 _ rfl);have i2:(w2.ext z3).cell? ⟨b,off+2,none⟩=some (.int .i64 8):=(za4 _ _ _ _ hb).trans (zu.o 0 _ rfl 2 _ rfl);have aJ:=zHi (zaZ aC.o z3);clear tY aC zu;generalize w2.ext z3=W3 at*;go_wp2_with fail
 go_ret
 exact Ret.of rfl aJ.o
