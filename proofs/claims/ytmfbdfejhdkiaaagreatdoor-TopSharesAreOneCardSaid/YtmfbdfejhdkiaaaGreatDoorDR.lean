/- The law RightHolders, walked. -/
import Derived.Test.YtmfbdfejhdkiaaaGreatDoorTie
import Derived.Test.YtmfbdfejhdkiaaaGreatDoorYO
set_option linter.all false
set_option maxRecDepth 100000
set_option maxHeartbeats 4000000
namespace Go.Proofs.YtmfbdfejhdkiaaaGreatDoor
open Go.RowKit Go.Shelf
attribute [local go_sem] World.cell?_alloc_mark zae za4 zao za8 zav zaw zax zay zaz za0 za1
attribute [local go_sem] zap zac
section
open Go.ChangeShapes Go.WideShapes Go.ChangeAt Go.Deep
section
variable {H:Type} {enc:TypeId×Value->H} {w:World} {base:Nat} {spare:Nat->Bool} {held:Bool}
theorem zje:Tryz.prog.cellsOf 3=1:=by kernel_rfl
theorem zog:Tryz.prog.cellsOf 9=1:=by kernel_rfl
theorem zfx:Tryz.prog.cellsOf 4=1:=by kernel_rfl
theorem k5_frac:Tryz.prog.cellsOf 57=2:=by kernel_rfl
theorem zmi(n:Nat)(cs:List Value)(x:DataW H×List MemPlace)(h:DataW.trod enc Tryz.prog w base spare held n 57 cs=some x):∃a b:Int,cs=[.int .i64 a,.int .i64 b]:=by
 obtain⟨xs,m,_,ex,ae,bX,hf⟩:=DataW.trod_struct Tryz.underlying57 h;rw[show Tryz.prog.cellsOf 57=2 by kernel_rfl]at ae;match cs,ae with
 | [v0,v1],_=>
   have g:∀i,i<2->∃y,xs[i]?=some y:=fun i hi=>⟨_,List.getElem?_eq_getElem Md5⟩
   obtain⟨y0,e0⟩:=g 0 Mcu;have h0:DataW.trod enc Tryz.prog w base spare held m 3 (List.take (Tryz.prog.cellsOf 3) (List.drop 0 [v0,v1]))=some y0:=(hf 0 _ rfl).trans e0;rw[zje]at h0;obtain⟨q0,c0,d0,_⟩:=DataW.trod_int Tryz.underlying3 h0;simp only[List.drop_succ_cons,List.drop_zero,List.take_succ_cons,List.take_zero,List.cons.injEq,and_true]at c0;obtain⟨y1,e1⟩:=g 1 Mcu;have h1:DataW.trod enc Tryz.prog w base spare held m 3 (List.take (Tryz.prog.cellsOf 3) (List.drop 1 [v0,v1]))=some y1:=(hf 1 _ rfl).trans e1;rw[zje]at h1;obtain⟨q1,c1,d1,_⟩:=DataW.trod_int Tryz.underlying3 h1;simp only[List.drop_succ_cons,List.drop_zero,List.take_succ_cons,List.take_zero,List.cons.injEq,and_true]at c1;subst c0 c1;exact⟨q0,q1,rfl⟩
theorem open_law(n:Nat)(cs:List Value)(x:DataW H×List MemPlace)(h:DataW.trod enc Tryz.prog w base spare held n 72 cs=some x):∃s:Law,cs=s.cells:=by
 obtain⟨xs,m,_,ex,ae,bX,hf⟩:=DataW.trod_struct Tryz.underlying72 h;rw[show Tryz.prog.cellsOf 72=4 by kernel_rfl]at ae;match cs,ae with
 | [v0,v1,v2,v3],_=>
   have g:∀i,i<3->∃y,xs[i]?=some y:=fun i hi=>⟨_,List.getElem?_eq_getElem Md5⟩
   obtain⟨y0,e0⟩:=g 0 Mcu;have h0:DataW.trod enc Tryz.prog w base spare held m 3 (List.take (Tryz.prog.cellsOf 3) (List.drop 0 [v0,v1,v2,v3]))=some y0:=(hf 0 _ rfl).trans e0;rw[zje]at h0;obtain⟨q0,c0,d0,_⟩:=DataW.trod_int Tryz.underlying3 h0;simp only[List.drop_succ_cons,List.drop_zero,List.take_succ_cons,List.take_zero,List.cons.injEq,and_true]at c0;obtain⟨y1,e1⟩:=g 1 Mcu;have h1:DataW.trod enc Tryz.prog w base spare held m 4 (List.take (Tryz.prog.cellsOf 4) (List.drop 1 [v0,v1,v2,v3]))=some y1:=(hf 1 _ rfl).trans e1;rw[zfx]at h1;obtain⟨q1,c1,d1⟩:=DataW.trod_bool Tryz.underlying4 h1;simp only[List.drop_succ_cons,List.drop_zero,List.take_succ_cons,List.take_zero,List.cons.injEq,and_true]at c1;obtain⟨y2,e2⟩:=g 2 Mcu;have h2:DataW.trod enc Tryz.prog w base spare held m 57 (List.take (Tryz.prog.cellsOf 57) (List.drop 2 [v0,v1,v2,v3]))=some y2:=(hf 2 _ rfl).trans e2;rw[k5_frac]at h2;obtain⟨q2,r2,c2⟩:=zmi _ _ _ h2;simp only[List.drop_succ_cons,List.drop_zero,List.take_succ_cons,List.take_zero,List.cons.injEq,and_true]at c2;subst c0;subst c1;obtain⟨cx2,cy2⟩:=c2;subst cx2 cy2;exact⟨⟨q0,q1,q2,r2⟩,rfl⟩
theorem open_form(n:Nat)(cs:List Value)(x:DataW H×List MemPlace)(h:DataW.trod enc Tryz.prog w base spare held n 107 cs=some x):∃s:Form,cs=s.cells/\x.1=.agg [.lit (.string s.word.data.toList),.lit (.bool s.place),.lit (.bool s.frm),.lit (.bool s.cls),.lit (.bool s.years),.lit (.bool s.all),.lit (.bool s.parts),.lit (.bool s.shares)]:=by
 obtain⟨xs,m,_,ex,ae,bX,hf⟩:=DataW.trod_struct Tryz.underlying107 h;rw[show Tryz.prog.cellsOf 107=8 by kernel_rfl]at ae;match cs,ae with
 | [v0,v1,v2,v3,v4,v5,v6,v7],_=>
   have g:∀i,i<8->∃y,xs[i]?=some y:=fun i hi=>⟨_,List.getElem?_eq_getElem Md5⟩
   obtain⟨y0,e0⟩:=g 0 Mcu;have h0:DataW.trod enc Tryz.prog w base spare held m 9 (List.take (Tryz.prog.cellsOf 9) (List.drop 0 [v0,v1,v2,v3,v4,v5,v6,v7]))=some y0:=(hf 0 _ rfl).trans e0;rw[zog]at h0;obtain⟨q0,c0,d0,_⟩:=DataW.trod_string Tryz.underlying9 h0;simp only[List.drop_succ_cons,List.drop_zero,List.take_succ_cons,List.take_zero,List.cons.injEq,and_true]at c0;obtain⟨y1,e1⟩:=g 1 Mcu;have h1:DataW.trod enc Tryz.prog w base spare held m 4 (List.take (Tryz.prog.cellsOf 4) (List.drop 1 [v0,v1,v2,v3,v4,v5,v6,v7]))=some y1:=(hf 1 _ rfl).trans e1;rw[zfx]at h1;obtain⟨q1,c1,d1⟩:=DataW.trod_bool Tryz.underlying4 h1;simp only[List.drop_succ_cons,List.drop_zero,List.take_succ_cons,List.take_zero,List.cons.injEq,and_true]at c1;obtain⟨y2,e2⟩:=g 2 Mcu;have h2:DataW.trod enc Tryz.prog w base spare held m 4 (List.take (Tryz.prog.cellsOf 4) (List.drop 2 [v0,v1,v2,v3,v4,v5,v6,v7]))=some y2:=(hf 2 _ rfl).trans e2;rw[zfx]at h2;obtain⟨q2,c2,d2⟩:=DataW.trod_bool Tryz.underlying4 h2;simp only[List.drop_succ_cons,List.drop_zero,List.take_succ_cons,List.take_zero,List.cons.injEq,and_true]at c2;obtain⟨y3,e3⟩:=g 3 Mcu;have h3:DataW.trod enc Tryz.prog w base spare held m 4 (List.take (Tryz.prog.cellsOf 4) (List.drop 3 [v0,v1,v2,v3,v4,v5,v6,v7]))=some y3:=(hf 3 _ rfl).trans e3;rw[zfx]at h3;obtain⟨q3,c3,d3⟩:=DataW.trod_bool Tryz.underlying4 h3;simp only[List.drop_succ_cons,List.drop_zero,List.take_succ_cons,List.take_zero,List.cons.injEq,and_true]at c3;obtain⟨y4,e4⟩:=g 4 Mcu
   have h4:DataW.trod enc Tryz.prog w base spare held m 4 (List.take (Tryz.prog.cellsOf 4) (List.drop 4 [v0,v1,v2,v3,v4,v5,v6,v7]))=some y4:=(hf 4 _ rfl).trans e4;rw[zfx]at h4;obtain⟨q4,c4,d4⟩:=DataW.trod_bool Tryz.underlying4 h4;simp only[List.drop_succ_cons,List.drop_zero,List.take_succ_cons,List.take_zero,List.cons.injEq,and_true]at c4;obtain⟨y5,e5⟩:=g 5 Mcu;have h5:DataW.trod enc Tryz.prog w base spare held m 4 (List.take (Tryz.prog.cellsOf 4) (List.drop 5 [v0,v1,v2,v3,v4,v5,v6,v7]))=some y5:=(hf 5 _ rfl).trans e5;rw[zfx]at h5;obtain⟨q5,c5,d5⟩:=DataW.trod_bool Tryz.underlying4 h5;simp only[List.drop_succ_cons,List.drop_zero,List.take_succ_cons,List.take_zero,List.cons.injEq,and_true]at c5;obtain⟨y6,e6⟩:=g 6 Mcu;have h6:DataW.trod enc Tryz.prog w base spare held m 4 (List.take (Tryz.prog.cellsOf 4) (List.drop 6 [v0,v1,v2,v3,v4,v5,v6,v7]))=some y6:=(hf 6 _ rfl).trans e6;rw[zfx]at h6;obtain⟨q6,c6,d6⟩:=DataW.trod_bool Tryz.underlying4 h6;simp only[List.drop_succ_cons,List.drop_zero,List.take_succ_cons,List.take_zero,List.cons.injEq,and_true]at c6;obtain⟨y7,e7⟩:=g 7 Mcu;have h7:DataW.trod enc Tryz.prog w base spare held m 4 (List.take (Tryz.prog.cellsOf 4) (List.drop 7 [v0,v1,v2,v3,v4,v5,v6,v7]))=some y7:=(hf 7 _ rfl).trans e7;rw[zfx]at h7;obtain⟨q7,c7,d7⟩:=DataW.trod_bool Tryz.underlying4 h7;simp only[List.drop_succ_cons,List.drop_zero,List.take_succ_cons,List.take_zero,List.cons.injEq,and_true]at c7;subst c0;subst c1;subst c2;subst c3;subst c4;subst c5;subst c6;subst c7
   refine⟨⟨q0,q1,q2,q3,q4,q5,q6,q7⟩,rfl,?_⟩;rw[ex];have hx:xs=[y0,y1,y2,y3,y4,y5,y6,y7]:=by
    apply List.ext_getElem?;intro i;match i with
    |0=>exact e0
    |1=>exact e1
    |2=>exact e2
    |3=>exact e3
    |4=>exact e4
    |5=>exact e5
    |6=>exact e6
    |7=>exact e7
    |i+8=>rw[List.getElem?_eq_none (by rw[bX];show 8<=_;omega)];rfl
   rw[hx,d0,d1,d2,d3,d4,d5,d6,d7];rfl
theorem k5_laws:Tryz.prog.cellsOf 72=4:=by kernel_rfl
theorem k5_form:Tryz.prog.cellsOf 107=8:=by kernel_rfl
end
theorem ints_laid{n:String}{tab:List Int}{kd:IntKind}{arr el:TypeId}{N:Nat}{r:List (String×DataW Unit)}{W:World}{g:Nat}(h:laidMet Tryz.prog ((n,.agg (tab.map fun z=> .lit (.int kd z)))::r) W)
 (ur:Tryz.prog.globalNamed n=some g)(Nl:(Tryz.prog.globals[g]?).map (·.type)=some arr)(ha:Tryz.prog.underlying arr=some (.array N el))(he:Tryz.prog.underlying el=some (.int kd))(pY:Tryz.prog.cellsOf el=1)(L8:Tryz.prog.cellsOf arr=N)(hN:tab.length=N):
 ∀(k:Nat) z,tab[k]?=some z->W.cell? ⟨g,k,none⟩=some (.int kd z):=by
 obtain⟨ps,⟨g',t,cs,fuel,p,q,hg,ht,hv,hd,_,_⟩,_,_⟩:=h;obtain rfl:=Option.some.inj (ur.symm.trans hg);obtain rfl:=Option.some.inj (Nl.symm.trans ht);obtain⟨xs,m,_,ex,bj,hl,fY⟩:=DataW.trod_array ha hd;rw[L8]at bj;intro k z hk;have dO:k<N:=by rw[<-hN];exact(List.getElem?_eq_some_iff.1 hk).1
 have hE:=fY k dO;rw[pY,Nat.mul_one,List.getElem?_eq_getElem Mcq]at hE;obtain⟨y,e1,e2,_⟩:=DataW.trod_int he hE;have e3:(xs.map (·.1))=tab.map fun z=> .lit (.int kd z):=(DataW.agg.inj (Prod.mk.inj ex).1).symm
 have e4:=congrArg (fun l=>l[k]?) e3;simp only[List.getElem?_map,hk,List.getElem?_eq_getElem (show k<xs.length by omega),e2,Option.map_some,Option.some.injEq,DataW.lit.injEq,Lit.int.injEq,true_and]at e4;have h0:((cs.toList.drop k).take 1)[0]?=some (.int kd y):=by rw[e1];rfl
 have h1:cs.toList[k]?=some (.int kd y):=MdJ;rw[World.var?_cell hg hv k,<-Array.getElem?_toList,h1,e4]
theorem lens_laid{r:List (String×DataW Unit)}{W:World}(h:laidMet Tryz.prog (("mortsafe/rule.lengths",Rows.laid_mortsafe_rule_lengths)::r) W):LensIn W:=by
 have h1:=ints_laid (tab:=zgy) (kd:=.i64) (arr:=158) (el:=3) (N:=12) (g:=1) (by
  have e:(Rows.laid_mortsafe_rule_lengths:DataW Unit)=.agg (zgy.map fun z=> .lit (.int .i64 z)):=Mcs
  rw[<-e];exact h) Mcs Mcs Tryz.underlying158 Tryz.underlying3 Mcs Mcs Mcs
 exact⟨zkH (h1 0 31 rfl),h1⟩
def formD(s:Form):DataW Unit:=.agg [.lit (.string s.word.data.toList),.lit (.bool s.place),.lit (.bool s.frm),.lit (.bool s.cls),.lit (.bool s.years),.lit (.bool s.all),.lit (.bool s.parts),.lit (.bool s.shares)]
theorem formD_inj{a b:Form}(h:formD a=formD b):a=b:=by
 obtain⟨⟨⟨x⟩⟩,p1,p2,p3,p4,p5,p6,p7⟩:=a;obtain⟨⟨⟨y⟩⟩,q1,q2,q3,q4,q5,q6,q7⟩:=b;simp[formD]at h;obtain⟨rfl,rfl,rfl,rfl,rfl,rfl,rfl,rfl⟩:=h;rfl
theorem zpv{r:List (String×DataW Unit)}{W:World}(h:laidMet Tryz.prog (("mortsafe/right.forms",Rows.laid_mortsafe_right_forms)::r) W):FormsIn W:=by
 have e0:(Rows.laid_mortsafe_right_forms:DataW Unit)=.agg (zed.map formD):=Mcs;rw[e0]at h;obtain⟨ps,⟨g',t,cs,fuel,p,q,hg,ht,hv,hd,_,_⟩,_,_⟩:=h;obtain rfl:=Option.some.inj ((show Tryz.prog.globalNamed "mortsafe/right.forms" =some 0 by kernel_rfl).symm.trans hg)
 obtain rfl:=Option.some.inj ((show(Tryz.prog.globals[0]?).map (·.type)=some 108 by kernel_rfl).symm.trans ht);obtain⟨xs,m,_,ex,bj,hl,fY⟩:=DataW.trod_array Tryz.underlying108 hd;have key:∀k (f:Form),zed[k]?=some f->∀j u,f.cells[j]?=some u->W.cell? ⟨0,k*8+j,none⟩=some u:=fun k f hk j u hu=>by
  have dO:k<9:=(List.getElem?_eq_some_iff.1 hk).1;have hE:=fY k dO;rw[k5_form,List.getElem?_eq_getElem Mcq]at hE;obtain⟨s,e1,e2⟩:=open_form _ _ _ hE;have e3:(xs.map (·.1))=zed.map formD:=(DataW.agg.inj (Prod.mk.inj ex).1).symm;have e4:=congrArg (fun l=>l[k]?) e3;simp only[List.getElem?_map,hk,List.getElem?_eq_getElem (show k<xs.length by omega),e2,Option.map_some,Option.some.injEq]at e4;have e5:s=f:=formD_inj e4;subst e5;have hj:j<8:=(List.getElem?_eq_some_iff.1 hu).1;have h1:((cs.toList.drop (k*8)).take 8)[j]?=some u:=by rw[e1];exact hu
  rw[List.getElem?_take_of_lt hj,List.getElem?_drop]at h1;rw[World.var?_cell hg hv (k*8+j),<-Array.getElem?_toList,h1]
 exact⟨zkH (key 0 _ rfl 0 _ rfl),key⟩
section
variable {H:Type} {enc:TypeId×Value->H} {P:Program} {w:World} {base:Nat} {spare:Nat->Bool} {held:Bool}
theorem zns{α:Type}{R:World->α->List Value->Prop}{size:Nat}(hsz:0<size)(ae:∀x cs,R w x cs->cs.length=size){t e:TypeId}{fuel:Nat}{cs:List Value}{x:DataW H×List MemPlace}(ht:P.underlying t=some (.slice e))(hC:P.cellsOf e=size)
 (mI:∀(n:Nat) (cs:List Value) (y:DataW H×List MemPlace),DataW.trod enc P w base spare held n e cs=some y->∃s:α,R w s cs)(h:DataW.trod enc P w base spare held fuel t cs=some x):
 ∃(A:Option Addr) (n c:Nat) (xs:List α),cs=[.slice A n c]/\n=xs.length/\SlW w size R A xs/\xs.length<=c/\c<=maxLen:=by
 rcases open_slice ht h with⟨rfl,_⟩|⟨a,len,cap,m,n,D,Pl,rfl,_,hl,hm,fC,_,hi⟩
 ·exact⟨none,0,0,[],rfl,rfl,SlW.nil,Qc,Nat.zero_le _⟩
 ·have bu:len<=m:=by rw[fC];split<;>omega
  obtain⟨l,fM,hq⟩:=zmu (Q:=fun i (s:α)=>∃cs,R w s cs/\∀j,j<size->w.cell? ((a.add (i*size)).add j)=cs[j]?) len (fun i fg=>by
   obtain⟨cs',hc,hr⟩:=hi i Mcq;obtain⟨s,hs⟩:=mI _ _ _ hr;rw[hC]at hc
   exact⟨s,cs',hs,(World.cells?_some hc).2.2⟩)
  refine⟨some a,len,cap,l,rfl,fM.symm,fun hp=>?_,by omega,hm⟩;have h0:0<l.length:=hp;obtain⟨cs0,qy,dG⟩:=hq 0 l[0] (List.getElem?_eq_getElem h0);have hx:=dG 0 hsz;have hv:∃v,cs0[0]?=some v:=⟨_,List.getElem?_eq_getElem (by rw[ae _ _ qy];exact hsz)⟩
  obtain⟨v,hv⟩:=hv;rw[hv]at hx;have ck:=World.cell?_spot hx;have cJ:=World.block_lt_of_cell? _ _ hx;obtain⟨b,off,spot⟩:=a;have tz:spot=none:=by simpa[Addr.add]using ck
  subst tz;refine⟨b,off,rfl,by simpa[Addr.add]using cJ,fun k y hy=>?_⟩;obtain⟨cs1,fk,gn⟩:=hq k y hy;refine⟨cs1,fk,fun j u hu=>?_⟩;have hj:j<size:=by have:=(List.getElem?_eq_some_iff.1 hu).1;rw[ae _ _ fk]at this;exact this
  have:=gn j hj;rw[hu]at this;rw[<-this];congr 1
  unfold Addr.add;split<;>split<;>simp_all<;>omega
end
section
variable {H:Type} {enc:TypeId×Value->H} {w:World} {base:Nat} {spare:Nat->Bool} {held:Bool}
theorem k5_part:Tryz.prog.cellsOf 59=3:=by kernel_rfl
theorem k5_parts:Tryz.prog.cellsOf 26=1:=by kernel_rfl
theorem k5_deed:Tryz.prog.cellsOf 28=7:=by kernel_rfl
theorem k5_lawsl:Tryz.prog.cellsOf 22=1:=by kernel_rfl
theorem k5_deedsl:Tryz.prog.cellsOf 23=1:=by kernel_rfl
theorem k5_rights:Tryz.prog.cellsOf 25=2:=by kernel_rfl
theorem rpart_len(x:RPart):x.cells.length=3:=rfl
abbrev PartX:Type:= {r:RPart // r.name.size<=maxLen}
theorem open_part(n:Nat)(cs:List Value)(x:DataW H×List MemPlace)(h:DataW.trod enc Tryz.prog w base spare held n 59 cs=some x):∃s:PartX,cs=s.1.cells:=by
 obtain⟨xs,m,_,ex,ae,bX,hf⟩:=DataW.trod_struct Tryz.underlying59 h;rw[show Tryz.prog.cellsOf 59=3 by kernel_rfl]at ae;match cs,ae with
 | [v0,v1,v2],_=>
   have g:∀i,i<2->∃y,xs[i]?=some y:=fun i hi=>⟨_,List.getElem?_eq_getElem Md5⟩
   obtain⟨y0,e0⟩:=g 0 Mcu;have h0:DataW.trod enc Tryz.prog w base spare held m 9 (List.take (Tryz.prog.cellsOf 9) (List.drop 0 [v0,v1,v2]))=some y0:=(hf 0 _ rfl).trans e0;rw[zog]at h0;obtain⟨q0,c0,d0,z0⟩:=DataW.trod_string Tryz.underlying9 h0;simp only[List.drop_succ_cons,List.drop_zero,List.take_succ_cons,List.take_zero,List.cons.injEq,and_true]at c0;obtain⟨y1,e1⟩:=g 1 Mcu;have h1:DataW.trod enc Tryz.prog w base spare held m 57 (List.take (Tryz.prog.cellsOf 57) (List.drop 1 [v0,v1,v2]))=some y1:=(hf 1 _ rfl).trans e1;rw[k5_frac]at h1;obtain⟨q1,r1,c1⟩:=zmi _ _ _ h1;simp only[List.drop_succ_cons,List.drop_zero,List.take_succ_cons,List.take_zero,List.cons.injEq,and_true]at c1;subst c0;obtain⟨cx1,cy1⟩:=c1;subst cx1 cy1;exact⟨⟨⟨q0,q1,r1⟩,z0⟩,rfl⟩
theorem zmj(n:Nat)(cs:List Value)(x:DataW H×List MemPlace)(h:DataW.trod enc Tryz.prog w base spare held n 28 cs=some x):∃d:Deed,zfL w d cs/\d.frm.size<=maxLen/\∀p∈d.to,p.name.size<=maxLen:=by
 obtain⟨xs,m,_,ex,ae,bX,hf⟩:=DataW.trod_struct Tryz.underlying28 h;rw[show Tryz.prog.cellsOf 28=7 by kernel_rfl]at ae;match cs,ae with
 | [v0,v1,v2,v3,v4,v5,v6],_=>
   have g:∀i,i<7->∃y,xs[i]?=some y:=fun i hi=>⟨_,List.getElem?_eq_getElem Md5⟩
   obtain⟨y0,e0⟩:=g 0 Mcu;have h0:DataW.trod enc Tryz.prog w base spare held m 3 (List.take (Tryz.prog.cellsOf 3) (List.drop 0 [v0,v1,v2,v3,v4,v5,v6]))=some y0:=(hf 0 _ rfl).trans e0;rw[zje]at h0;obtain⟨q0,c0,d0,_⟩:=DataW.trod_int Tryz.underlying3 h0;simp only[List.drop_succ_cons,List.drop_zero,List.take_succ_cons,List.take_zero,List.cons.injEq,and_true]at c0;obtain⟨y1,e1⟩:=g 1 Mcu;have h1:DataW.trod enc Tryz.prog w base spare held m 3 (List.take (Tryz.prog.cellsOf 3) (List.drop 1 [v0,v1,v2,v3,v4,v5,v6]))=some y1:=(hf 1 _ rfl).trans e1;rw[zje]at h1;obtain⟨q1,c1,d1,_⟩:=DataW.trod_int Tryz.underlying3 h1;simp only[List.drop_succ_cons,List.drop_zero,List.take_succ_cons,List.take_zero,List.cons.injEq,and_true]at c1;obtain⟨y2,e2⟩:=g 2 Mcu;have h2:DataW.trod enc Tryz.prog w base spare held m 9 (List.take (Tryz.prog.cellsOf 9) (List.drop 2 [v0,v1,v2,v3,v4,v5,v6]))=some y2:=(hf 2 _ rfl).trans e2;rw[zog]at h2;obtain⟨q2,c2,d2,_⟩:=DataW.trod_string Tryz.underlying9 h2;simp only[List.drop_succ_cons,List.drop_zero,List.take_succ_cons,List.take_zero,List.cons.injEq,and_true]at c2;obtain⟨y3,e3⟩:=g 3 Mcu;have h3:DataW.trod enc Tryz.prog w base spare held m 9 (List.take (Tryz.prog.cellsOf 9) (List.drop 3 [v0,v1,v2,v3,v4,v5,v6]))=some y3:=(hf 3 _ rfl).trans e3;rw[zog]at h3;obtain⟨q3,c3,d3,z3⟩:=DataW.trod_string Tryz.underlying9 h3;simp only[List.drop_succ_cons,List.drop_zero,List.take_succ_cons,List.take_zero,List.cons.injEq,and_true]at c3;obtain⟨y4,e4⟩:=g 4 Mcu
   have h4:DataW.trod enc Tryz.prog w base spare held m 26 (List.take (Tryz.prog.cellsOf 26) (List.drop 4 [v0,v1,v2,v3,v4,v5,v6]))=some y4:=(hf 4 _ rfl).trans e4;rw[k5_parts]at h4;obtain⟨B4,n4,cap4,q4,c4,Ep,hS4,iV,_⟩:=zj2 (f:=fun s:PartX=>s.1.cells) (size:=3) Mcu (fun s=>rpart_len s.1) Tryz.underlying26 k5_part open_part h4;simp only[List.drop_succ_cons,List.drop_zero,List.take_succ_cons,List.take_zero,List.cons.injEq,and_true]at c4;obtain⟨y5,e5⟩:=g 5 Mcu;have h5:DataW.trod enc Tryz.prog w base spare held m 3 (List.take (Tryz.prog.cellsOf 3) (List.drop 5 [v0,v1,v2,v3,v4,v5,v6]))=some y5:=(hf 5 _ rfl).trans e5;rw[zje]at h5;obtain⟨q5,c5,d5,_⟩:=DataW.trod_int Tryz.underlying3 h5;simp only[List.drop_succ_cons,List.drop_zero,List.take_succ_cons,List.take_zero,List.cons.injEq,and_true]at c5;obtain⟨y6,e6⟩:=g 6 Mcu;have h6:DataW.trod enc Tryz.prog w base spare held m 3 (List.take (Tryz.prog.cellsOf 3) (List.drop 6 [v0,v1,v2,v3,v4,v5,v6]))=some y6:=(hf 6 _ rfl).trans e6;rw[zje]at h6;obtain⟨q6,c6,d6,_⟩:=DataW.trod_int Tryz.underlying3 h6;simp only[List.drop_succ_cons,List.drop_zero,List.take_succ_cons,List.take_zero,List.cons.injEq,and_true]at c6;subst c0;subst c1;subst c2;subst c3;subst c4;subst c5;subst c6;subst Ep;refine⟨⟨q0,q1,q2,q3,q4.map (·.1),q5,q6⟩,⟨B4,cap4,?_,?_,fun hl=>?_⟩,z3,fun p hp=>?_⟩
   ·show(q4.map (·.1)).length<=cap4;rw[List.length_map];exact iV
   ·simp
   ·obtain⟨b,off,hA,hb,ah⟩:=hS4 Mez;refine⟨b,off,hA,hb,fun k x hk j u hu=>?_⟩;have Hl:(q4.map (·.1))[k]?=some x:=hk;rw[List.getElem?_map]at Hl;obtain⟨y,hy,rfl⟩:=Option.map_eq_some_iff.1 Hl;exact ah k y hy j u hu
   ·obtain⟨y,_,rfl⟩:=List.mem_map.1 (show p∈q4.map (·.1) from hp);exact y.2
theorem deedR_len{W:World}:∀(d:Deed) (cs:List Value),zfL W d cs->cs.length=7:=by
 rintro d cs ⟨B,c,_,rfl,_⟩;rfl
theorem znt{v:Value}{d:DataW H}{p:List MemPlace}{r:Reach}{b0:Nat}(hv:Value.okWide Tryz.prog w r b0 25 v)(h:DataW.Trod enc Tryz.prog w base spare held 25 v d p):
 ∃(ls:List Law) (ds:List Deed) (A:Option Addr) (nc:Nat) (B:Option Addr) (mc:Nat),v=.agg #[.slice A ls.length nc,.slice B ds.length mc]/\RightsIn w ls ds A ls.length nc B ds.length mc:=by
 obtain⟨cs,rfl,hsz⟩:=okWide_struct Tryz.underlying25 hv;obtain⟨l⟩:=cs;rw[k5_rights]at hsz;match l,hsz with
 | [v0,v1],_=>
   obtain⟨fuel,oY⟩:=h;obtain⟨xs,m,_,_,_,bX,hf⟩:=DataW.trod_struct Tryz.underlying25 oY;have g:∀i,i<2->∃y,xs[i]?=some y:=fun i hi=>⟨_,List.getElem?_eq_getElem Md5⟩
   obtain⟨y0,e0⟩:=g 0 Mcu;obtain⟨y1,e1⟩:=g 1 Mcu;have h0:DataW.trod enc Tryz.prog w base spare held m 22 (List.take (Tryz.prog.cellsOf 22) (List.drop 0 [v0,v1]))=some y0:=(hf 0 _ rfl).trans e0;have h1:DataW.trod enc Tryz.prog w base spare held m 23 (List.take (Tryz.prog.cellsOf 23) (List.drop 1 [v0,v1]))=some y1:=(hf 1 _ rfl).trans e1;rw[k5_lawsl]at h0;rw[k5_deedsl]at h1;obtain⟨A,n,nc,ls,ea,hn,hS,hc,_⟩:=zj2 (f:=Law.cells) (size:=4) Mcu (fun x=>rfl) Tryz.underlying22 k5_laws open_law h0;obtain⟨B,k,mc,ds,er,hk,hD,I0,_⟩:=zns (R:=zfL) (size:=7) Mcu deedR_len Tryz.underlying23 k5_deed (fun n cs y h=>(zmj n cs y h).imp fun _ h=>h.1) h1;simp at ea er;subst ea er hn hk;exact⟨ls,ds,A,nc,B,mc,rfl,rfl,rfl,hc,I0,hS,hD⟩
end
variable {H:Type} {enc:TypeId×Value->H} {w:World} {base:Nat} {spare:Nat->Bool} {held:Bool}
theorem zpw{v:Value}{d:DataW H}{p:List MemPlace}{r:Reach}{b0:Nat}(hv:Value.okWide Tryz.prog w r b0 28 v)(h:DataW.Trod enc Tryz.prog w base spare held 28 v d p):
 ∃(x:Deed) (B:Option Addr) (c:Nat),v=x.v B c/\x.to.length<=c/\Sl w 3 RPart.cells B x.to/\x.frm.size<=maxLen/\∀p∈x.to,p.name.size<=maxLen:=by
 obtain⟨cs,rfl,hsz⟩:=okWide_struct Tryz.underlying28 hv;obtain⟨l⟩:=cs;obtain⟨fuel,oY⟩:=h;obtain⟨x,⟨B,c,hc,he,hS⟩,h1,h2⟩:=zmj fuel l _ oY;subst he;exact⟨x,B,c,rfl,hc,hS,h1,h2⟩
end
theorem Told.holders{k:Nat}{s:St}(h:Told k s)(pl:ByteArray)(dy:Int):(zbW s pl dy).length<=80*k:=by
 unfold zbW;cases hg:zaS s pl dy with
 |none=>simp
 |some i=>
  obtain⟨g,_,h2,h3⟩:=ziK hg;simp only[h2];exact(h.few.held g h3).1
