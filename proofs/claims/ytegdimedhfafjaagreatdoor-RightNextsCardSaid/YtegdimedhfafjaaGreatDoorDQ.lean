import Derived.Test.YtegdimedhfafjaaGreatDoorTie
import Derived.Test.YtegdimedhfafjaaGreatDoorAZ
set_option linter.all false
set_option maxRecDepth 100000
set_option maxHeartbeats 4000000
namespace Go.Proofs.YtegdimedhfafjaaGreatDoor
open Go.RowKit Go.Shelf
attribute [local go_sem] World.cell?_alloc_mark zaf za5 zao za8 zav zaw zax zay zaz za0 za1
attribute [local go_sem] zaq zad
section
open Go.ChangeShapes Go.WideShapes Go.ChangeAt Go.Deep
section
variable {H:Type} {enc:TypeId×Value->H} {w:World} {base:Nat} {spare:Nat->Bool} {held:Bool}
theorem ziN:Tryz.prog.cellsOf 3=1:=by kernel_rfl
theorem zom:Tryz.prog.cellsOf 9=1:=by kernel_rfl
theorem zft:Tryz.prog.cellsOf 4=1:=by kernel_rfl
theorem k5_frac:Tryz.prog.cellsOf 56=2:=by kernel_rfl
theorem zmg(n:Nat)(cs:List Value)(x:DataW H×List MemPlace)(h:DataW.trod enc Tryz.prog w base spare held n 56 cs=some x):∃a b:Int,cs=[.int .i64 a,.int .i64 b]:=by
 obtain⟨xs,m,_,ex,ag,bs,hf⟩:=DataW.trod_struct Tryz.underlying56 h;rw[show Tryz.prog.cellsOf 56=2 by kernel_rfl]at ag;match cs,ag with
 | [v0,v1],_=>
   have g:∀i,i<2->∃y,xs[i]?=some y:=fun i hi=>⟨_,List.getElem?_eq_getElem Md3⟩
   obtain⟨y0,e0⟩:=g 0 Mco;have h0:DataW.trod enc Tryz.prog w base spare held m 3 (List.take (Tryz.prog.cellsOf 3) (List.drop 0 [v0,v1]))=some y0:=(hf 0 _ rfl).trans e0;rw[ziN]at h0;obtain⟨q0,c0,d0,_⟩:=DataW.trod_int Tryz.underlying3 h0;simp only[List.drop_succ_cons,List.drop_zero,List.take_succ_cons,List.take_zero,List.cons.injEq,and_true]at c0;obtain⟨y1,e1⟩:=g 1 Mco;have h1:DataW.trod enc Tryz.prog w base spare held m 3 (List.take (Tryz.prog.cellsOf 3) (List.drop 1 [v0,v1]))=some y1:=(hf 1 _ rfl).trans e1;rw[ziN]at h1;obtain⟨q1,c1,d1,_⟩:=DataW.trod_int Tryz.underlying3 h1;simp only[List.drop_succ_cons,List.drop_zero,List.take_succ_cons,List.take_zero,List.cons.injEq,and_true]at c1;subst c0 c1;exact⟨q0,q1,rfl⟩
theorem open_law(n:Nat)(cs:List Value)(x:DataW H×List MemPlace)(h:DataW.trod enc Tryz.prog w base spare held n 72 cs=some x):∃s:Law,cs=s.cells:=by
 obtain⟨xs,m,_,ex,ag,bs,hf⟩:=DataW.trod_struct Tryz.underlying72 h;rw[show Tryz.prog.cellsOf 72=4 by kernel_rfl]at ag;match cs,ag with
 | [v0,v1,v2,v3],_=>
   have g:∀i,i<3->∃y,xs[i]?=some y:=fun i hi=>⟨_,List.getElem?_eq_getElem Md3⟩
   obtain⟨y0,e0⟩:=g 0 Mco;have h0:DataW.trod enc Tryz.prog w base spare held m 3 (List.take (Tryz.prog.cellsOf 3) (List.drop 0 [v0,v1,v2,v3]))=some y0:=(hf 0 _ rfl).trans e0;rw[ziN]at h0;obtain⟨q0,c0,d0,_⟩:=DataW.trod_int Tryz.underlying3 h0;simp only[List.drop_succ_cons,List.drop_zero,List.take_succ_cons,List.take_zero,List.cons.injEq,and_true]at c0;obtain⟨y1,e1⟩:=g 1 Mco;have h1:DataW.trod enc Tryz.prog w base spare held m 4 (List.take (Tryz.prog.cellsOf 4) (List.drop 1 [v0,v1,v2,v3]))=some y1:=(hf 1 _ rfl).trans e1;rw[zft]at h1;obtain⟨q1,c1,d1⟩:=DataW.trod_bool Tryz.underlying4 h1;simp only[List.drop_succ_cons,List.drop_zero,List.take_succ_cons,List.take_zero,List.cons.injEq,and_true]at c1;obtain⟨y2,e2⟩:=g 2 Mco;have h2:DataW.trod enc Tryz.prog w base spare held m 56 (List.take (Tryz.prog.cellsOf 56) (List.drop 2 [v0,v1,v2,v3]))=some y2:=(hf 2 _ rfl).trans e2;rw[k5_frac]at h2;obtain⟨q2,r2,c2⟩:=zmg _ _ _ h2;simp only[List.drop_succ_cons,List.drop_zero,List.take_succ_cons,List.take_zero,List.cons.injEq,and_true]at c2;subst c0;subst c1;obtain⟨cx2,cy2⟩:=c2;subst cx2 cy2;exact⟨⟨q0,q1,q2,r2⟩,rfl⟩
theorem open_form(n:Nat)(cs:List Value)(x:DataW H×List MemPlace)(h:DataW.trod enc Tryz.prog w base spare held n 112 cs=some x):∃s:Form,cs=s.cells/\x.1=.agg [.lit (.string s.word.data.toList),.lit (.bool s.place),.lit (.bool s.frm),.lit (.bool s.cls),.lit (.bool s.years),.lit (.bool s.all),.lit (.bool s.parts),.lit (.bool s.shares)]:=by
 obtain⟨xs,m,_,ex,ag,bs,hf⟩:=DataW.trod_struct Tryz.underlying112 h;rw[show Tryz.prog.cellsOf 112=8 by kernel_rfl]at ag;match cs,ag with
 | [v0,v1,v2,v3,v4,v5,v6,v7],_=>
   have g:∀i,i<8->∃y,xs[i]?=some y:=fun i hi=>⟨_,List.getElem?_eq_getElem Md3⟩
   obtain⟨y0,e0⟩:=g 0 Mco;have h0:DataW.trod enc Tryz.prog w base spare held m 9 (List.take (Tryz.prog.cellsOf 9) (List.drop 0 [v0,v1,v2,v3,v4,v5,v6,v7]))=some y0:=(hf 0 _ rfl).trans e0;rw[zom]at h0;obtain⟨q0,c0,d0,_⟩:=DataW.trod_string Tryz.underlying9 h0;simp only[List.drop_succ_cons,List.drop_zero,List.take_succ_cons,List.take_zero,List.cons.injEq,and_true]at c0;obtain⟨y1,e1⟩:=g 1 Mco;have h1:DataW.trod enc Tryz.prog w base spare held m 4 (List.take (Tryz.prog.cellsOf 4) (List.drop 1 [v0,v1,v2,v3,v4,v5,v6,v7]))=some y1:=(hf 1 _ rfl).trans e1;rw[zft]at h1;obtain⟨q1,c1,d1⟩:=DataW.trod_bool Tryz.underlying4 h1;simp only[List.drop_succ_cons,List.drop_zero,List.take_succ_cons,List.take_zero,List.cons.injEq,and_true]at c1;obtain⟨y2,e2⟩:=g 2 Mco;have h2:DataW.trod enc Tryz.prog w base spare held m 4 (List.take (Tryz.prog.cellsOf 4) (List.drop 2 [v0,v1,v2,v3,v4,v5,v6,v7]))=some y2:=(hf 2 _ rfl).trans e2;rw[zft]at h2;obtain⟨q2,c2,d2⟩:=DataW.trod_bool Tryz.underlying4 h2;simp only[List.drop_succ_cons,List.drop_zero,List.take_succ_cons,List.take_zero,List.cons.injEq,and_true]at c2;obtain⟨y3,e3⟩:=g 3 Mco;have h3:DataW.trod enc Tryz.prog w base spare held m 4 (List.take (Tryz.prog.cellsOf 4) (List.drop 3 [v0,v1,v2,v3,v4,v5,v6,v7]))=some y3:=(hf 3 _ rfl).trans e3;rw[zft]at h3;obtain⟨q3,c3,d3⟩:=DataW.trod_bool Tryz.underlying4 h3;simp only[List.drop_succ_cons,List.drop_zero,List.take_succ_cons,List.take_zero,List.cons.injEq,and_true]at c3;obtain⟨y4,e4⟩:=g 4 Mco
   have h4:DataW.trod enc Tryz.prog w base spare held m 4 (List.take (Tryz.prog.cellsOf 4) (List.drop 4 [v0,v1,v2,v3,v4,v5,v6,v7]))=some y4:=(hf 4 _ rfl).trans e4;rw[zft]at h4;obtain⟨q4,c4,d4⟩:=DataW.trod_bool Tryz.underlying4 h4;simp only[List.drop_succ_cons,List.drop_zero,List.take_succ_cons,List.take_zero,List.cons.injEq,and_true]at c4;obtain⟨y5,e5⟩:=g 5 Mco;have h5:DataW.trod enc Tryz.prog w base spare held m 4 (List.take (Tryz.prog.cellsOf 4) (List.drop 5 [v0,v1,v2,v3,v4,v5,v6,v7]))=some y5:=(hf 5 _ rfl).trans e5;rw[zft]at h5;obtain⟨q5,c5,d5⟩:=DataW.trod_bool Tryz.underlying4 h5;simp only[List.drop_succ_cons,List.drop_zero,List.take_succ_cons,List.take_zero,List.cons.injEq,and_true]at c5;obtain⟨y6,e6⟩:=g 6 Mco;have h6:DataW.trod enc Tryz.prog w base spare held m 4 (List.take (Tryz.prog.cellsOf 4) (List.drop 6 [v0,v1,v2,v3,v4,v5,v6,v7]))=some y6:=(hf 6 _ rfl).trans e6;rw[zft]at h6;obtain⟨q6,c6,d6⟩:=DataW.trod_bool Tryz.underlying4 h6;simp only[List.drop_succ_cons,List.drop_zero,List.take_succ_cons,List.take_zero,List.cons.injEq,and_true]at c6;obtain⟨y7,e7⟩:=g 7 Mco;have h7:DataW.trod enc Tryz.prog w base spare held m 4 (List.take (Tryz.prog.cellsOf 4) (List.drop 7 [v0,v1,v2,v3,v4,v5,v6,v7]))=some y7:=(hf 7 _ rfl).trans e7;rw[zft]at h7;obtain⟨q7,c7,d7⟩:=DataW.trod_bool Tryz.underlying4 h7;simp only[List.drop_succ_cons,List.drop_zero,List.take_succ_cons,List.take_zero,List.cons.injEq,and_true]at c7;subst c0;subst c1;subst c2;subst c3;subst c4;subst c5;subst c6;subst c7
   refine⟨⟨q0,q1,q2,q3,q4,q5,q6,q7⟩,rfl,?_⟩;rw[ex];have hx:xs=[y0,y1,y2,y3,y4,y5,y6,y7]:=by
    apply List.ext_getElem?;intro i;match i with
    |0=>exact e0
    |1=>exact e1
    |2=>exact e2
    |3=>exact e3
    |4=>exact e4
    |5=>exact e5
    |6=>exact e6
    |7=>exact e7
    |i+8=>rw[List.getElem?_eq_none (by rw[bs];show 8<=_;omega)];rfl
   rw[hx,d0,d1,d2,d3,d4,d5,d6,d7];rfl
theorem k5_laws:Tryz.prog.cellsOf 72=4:=by kernel_rfl
theorem k5_form:Tryz.prog.cellsOf 112=8:=by kernel_rfl
end
theorem zmh{n:String}{tab:List Int}{kd:IntKind}{arr el:TypeId}{N:Nat}{r:List (String×DataW Unit)}{W:World}{g:Nat}(h:laidMet Tryz.prog ((n,.agg (tab.map fun z=> .lit (.int kd z)))::r) W)
 (oH:Tryz.prog.globalNamed n=some g)(Lu:(Tryz.prog.globals[g]?).map (·.type)=some arr)(ha:Tryz.prog.underlying arr=some (.array N el))(he:Tryz.prog.underlying el=some (.int kd))(oC:Tryz.prog.cellsOf el=1)(Ks:Tryz.prog.cellsOf arr=N)(hN:tab.length=N):
 ∀(k:Nat) z,tab[k]?=some z->W.cell? ⟨g,k,none⟩=some (.int kd z):=by
 obtain⟨ps,⟨g',t,cs,fuel,p,q,hg,ht,hv,hd,_,_⟩,_,_⟩:=h;obtain rfl:=Option.some.inj (oH.symm.trans hg);obtain rfl:=Option.some.inj (Lu.symm.trans ht);obtain⟨xs,m,_,ex,bk,hl,hel⟩:=DataW.trod_array ha hd;rw[Ks]at bk;intro k z hk;have bV:k<N:=by rw[<-hN];exact(List.getElem?_eq_some_iff.1 hk).1
 have hE:=hel k bV;rw[oC,Nat.mul_one,List.getElem?_eq_getElem Mcm]at hE;obtain⟨y,e1,e2,_⟩:=DataW.trod_int he hE;have e3:(xs.map (·.1))=tab.map fun z=> .lit (.int kd z):=(DataW.agg.inj (Prod.mk.inj ex).1).symm
 have e4:=congrArg (fun l=>l[k]?) e3;simp only[List.getElem?_map,hk,List.getElem?_eq_getElem (show k<xs.length by omega),e2,Option.map_some,Option.some.injEq,DataW.lit.injEq,Lit.int.injEq,true_and]at e4;have h0:((cs.toList.drop k).take 1)[0]?=some (.int kd y):=by rw[e1];rfl
 have h1:cs.toList[k]?=some (.int kd y):=Mdg;rw[World.var?_cell hg hv k,<-Array.getElem?_toList,h1,e4]
theorem tz_laid{r:List (String×DataW Unit)}{W:World}(h:laidMet Tryz.prog (("math/bits.deBruijn64tab",Rows.laid_math_bits_deBruijn64tab)::r) W):TzTab W:=by
 have h1:=zmh (tab:=Lib.deBruijn64tab.map fun(z:Nat)=>(z:Int)) (kd:=.u8) (arr:=198) (el:=5) (N:=64) (g:=2) (by
  have e:(Rows.laid_math_bits_deBruijn64tab:DataW Unit)=.agg ((Lib.deBruijn64tab.map fun(z:Nat)=>(z:Int)).map fun z=> .lit (.int .u8 z)):=Mcn
  rw[<-e];exact h) Mcn Mcn Tryz.underlying198 Tryz.underlying5 Mcn Mcn Mcn
 have h2:TabAt 2 Lib.deBruijn64tab W:=fun j hj=>h1 j (Lib.deBruijn64tab.getD j 0:Nat) (by
  rw[List.getElem?_map,List.getD_eq_getElem?_getD,List.getElem?_eq_getElem hj]
  rfl)
 exact⟨h2,zfF (h2 0 (by decide+kernel))⟩
theorem lens_laid{r:List (String×DataW Unit)}{W:World}(h:laidMet Tryz.prog (("mortsafe/rule.lengths",Rows.laid_mortsafe_rule_lengths)::r) W):LensIn W:=by
 have h1:=zmh (tab:=zgw) (kd:=.i64) (arr:=222) (el:=3) (N:=12) (g:=4) (by
  have e:(Rows.laid_mortsafe_rule_lengths:DataW Unit)=.agg (zgw.map fun z=> .lit (.int .i64 z)):=Mcn
  rw[<-e];exact h) Mcn Mcn Tryz.underlying222 Tryz.underlying3 Mcn Mcn Mcn
 exact⟨zfF (h1 0 31 rfl),h1⟩
def formD(s:Form):DataW Unit:=.agg [.lit (.string s.word.data.toList),.lit (.bool s.place),.lit (.bool s.frm),.lit (.bool s.cls),.lit (.bool s.years),.lit (.bool s.all),.lit (.bool s.parts),.lit (.bool s.shares)]
theorem formD_inj{a b:Form}(h:formD a=formD b):a=b:=by
 obtain⟨⟨⟨x⟩⟩,p1,p2,p3,p4,p5,p6,p7⟩:=a;obtain⟨⟨⟨y⟩⟩,q1,q2,q3,q4,q5,q6,q7⟩:=b;simp[formD]at h;obtain⟨rfl,rfl,rfl,rfl,rfl,rfl,rfl,rfl⟩:=h;rfl
theorem zpf{r:List (String×DataW Unit)}{W:World}(h:laidMet Tryz.prog (("mortsafe/right.forms",Rows.laid_mortsafe_right_forms)::r) W):FormsIn W:=by
 have e0:(Rows.laid_mortsafe_right_forms:DataW Unit)=.agg (zfM.map formD):=Mcn;rw[e0]at h;obtain⟨ps,⟨g',t,cs,fuel,p,q,hg,ht,hv,hd,_,_⟩,_,_⟩:=h;obtain rfl:=Option.some.inj ((show Tryz.prog.globalNamed "mortsafe/right.forms" =some 0 by kernel_rfl).symm.trans hg)
 obtain rfl:=Option.some.inj ((show(Tryz.prog.globals[0]?).map (·.type)=some 113 by kernel_rfl).symm.trans ht);obtain⟨xs,m,_,ex,bk,hl,hel⟩:=DataW.trod_array Tryz.underlying113 hd;have key:∀k (f:Form),zfM[k]?=some f->∀j u,f.cells[j]?=some u->W.cell? ⟨0,k*8+j,none⟩=some u:=fun k f hk j u hu=>by
  have bV:k<9:=(List.getElem?_eq_some_iff.1 hk).1;have hE:=hel k bV;rw[k5_form,List.getElem?_eq_getElem Mcm]at hE;obtain⟨s,e1,e2⟩:=open_form _ _ _ hE;have e3:(xs.map (·.1))=zfM.map formD:=(DataW.agg.inj (Prod.mk.inj ex).1).symm;have e4:=congrArg (fun l=>l[k]?) e3;simp only[List.getElem?_map,hk,List.getElem?_eq_getElem (show k<xs.length by omega),e2,Option.map_some,Option.some.injEq]at e4;have e5:s=f:=formD_inj e4;subst e5;have hj:j<8:=(List.getElem?_eq_some_iff.1 hu).1;have h1:((cs.toList.drop (k*8)).take 8)[j]?=some u:=by rw[e1];exact hu
  rw[List.getElem?_take_of_lt hj,List.getElem?_drop]at h1;rw[World.var?_cell hg hv (k*8+j),<-Array.getElem?_toList,h1]
 exact⟨zfF (key 0 _ rfl 0 _ rfl),key⟩
section
variable {H:Type} {enc:TypeId×Value->H} {P:Program} {w:World} {base:Nat} {spare:Nat->Bool} {held:Bool}
theorem znp{α:Type}{R:World->α->List Value->Prop}{size:Nat}(hsz:0<size)(ag:∀x cs,R w x cs->cs.length=size){t e:TypeId}{fuel:Nat}{cs:List Value}{x:DataW H×List MemPlace}(ht:P.underlying t=some (.slice e))(hC:P.cellsOf e=size)
 (mw:∀(n:Nat) (cs:List Value) (y:DataW H×List MemPlace),DataW.trod enc P w base spare held n e cs=some y->∃s:α,R w s cs)(h:DataW.trod enc P w base spare held fuel t cs=some x):
 ∃(A:Option Addr) (n c:Nat) (xs:List α),cs=[.slice A n c]/\n=xs.length/\SlW w size R A xs/\xs.length<=c/\c<=maxLen:=by
 rcases open_slice ht h with⟨rfl,_⟩|⟨a,len,cap,m,n,D,Pl,rfl,_,hl,hm,cX,_,hi⟩
 ·exact⟨none,0,0,[],rfl,rfl,SlW.nil,Nat.le_refl _,Nat.zero_le _⟩
 ·have bG:len<=m:=by rw[cX];split<;>omega
  obtain⟨l,fG,hq⟩:=zmx (Q:=fun i (s:α)=>∃cs,R w s cs/\∀j,j<size->w.cell? ((a.add (i*size)).add j)=cs[j]?) len (fun i eU=>by
   obtain⟨cs',hc,hr⟩:=hi i Mcm;obtain⟨s,hs⟩:=mw _ _ _ hr;rw[hC]at hc
   exact⟨s,cs',hs,(World.cells?_some hc).2.2⟩)
  refine⟨some a,len,cap,l,rfl,fG.symm,fun hp=>?_,by omega,hm⟩;have h0:0<l.length:=hp;obtain⟨cs0,qg,fu⟩:=hq 0 l[0] (List.getElem?_eq_getElem h0);have hx:=fu 0 hsz;have hv:∃v,cs0[0]?=some v:=⟨_,List.getElem?_eq_getElem (by rw[ag _ _ qg];exact hsz)⟩
  obtain⟨v,hv⟩:=hv;rw[hv]at hx;have cj:=World.cell?_spot hx;have cu:=World.block_lt_of_cell? _ _ hx;obtain⟨b,off,spot⟩:=a;have sU:spot=none:=by simpa[Addr.add]using cj
  subst sU;refine⟨b,off,rfl,by simpa[Addr.add]using cu,fun k y hy=>?_⟩;obtain⟨cs1,fJ,jW⟩:=hq k y hy;refine⟨cs1,fJ,fun j u hu=>?_⟩;have hj:j<size:=by have:=(List.getElem?_eq_some_iff.1 hu).1;rw[ag _ _ fJ]at this;exact this
  have:=jW j hj;rw[hu]at this;rw[<-this];congr 1
  unfold Addr.add;split<;>split<;>simp_all<;>omega
end
section
variable {H:Type} {enc:TypeId×Value->H} {w:World} {base:Nat} {spare:Nat->Bool} {held:Bool}
theorem k5_part:Tryz.prog.cellsOf 62=3:=by kernel_rfl
theorem k5_parts:Tryz.prog.cellsOf 26=1:=by kernel_rfl
theorem k5_deed:Tryz.prog.cellsOf 28=7:=by kernel_rfl
theorem k5_lawsl:Tryz.prog.cellsOf 22=1:=by kernel_rfl
theorem k5_deedsl:Tryz.prog.cellsOf 23=1:=by kernel_rfl
theorem k5_rights:Tryz.prog.cellsOf 25=2:=by kernel_rfl
theorem rpart_len(x:RPart):x.cells.length=3:=rfl
theorem open_part(n:Nat)(cs:List Value)(x:DataW H×List MemPlace)(h:DataW.trod enc Tryz.prog w base spare held n 62 cs=some x):∃s:RPart,cs=s.cells:=by
 obtain⟨xs,m,_,ex,ag,bs,hf⟩:=DataW.trod_struct Tryz.underlying62 h;rw[show Tryz.prog.cellsOf 62=3 by kernel_rfl]at ag;match cs,ag with
 | [v0,v1,v2],_=>
   have g:∀i,i<2->∃y,xs[i]?=some y:=fun i hi=>⟨_,List.getElem?_eq_getElem Md3⟩
   obtain⟨y0,e0⟩:=g 0 Mco;have h0:DataW.trod enc Tryz.prog w base spare held m 9 (List.take (Tryz.prog.cellsOf 9) (List.drop 0 [v0,v1,v2]))=some y0:=(hf 0 _ rfl).trans e0;rw[zom]at h0;obtain⟨q0,c0,d0,_⟩:=DataW.trod_string Tryz.underlying9 h0;simp only[List.drop_succ_cons,List.drop_zero,List.take_succ_cons,List.take_zero,List.cons.injEq,and_true]at c0;obtain⟨y1,e1⟩:=g 1 Mco;have h1:DataW.trod enc Tryz.prog w base spare held m 56 (List.take (Tryz.prog.cellsOf 56) (List.drop 1 [v0,v1,v2]))=some y1:=(hf 1 _ rfl).trans e1;rw[k5_frac]at h1;obtain⟨q1,r1,c1⟩:=zmg _ _ _ h1;simp only[List.drop_succ_cons,List.drop_zero,List.take_succ_cons,List.take_zero,List.cons.injEq,and_true]at c1;subst c0;obtain⟨cx1,cy1⟩:=c1;subst cx1 cy1;exact⟨⟨q0,q1,r1⟩,rfl⟩
theorem zmi(n:Nat)(cs:List Value)(x:DataW H×List MemPlace)(h:DataW.trod enc Tryz.prog w base spare held n 28 cs=some x):∃d:Deed,zdY w d cs:=by
 obtain⟨xs,m,_,ex,ag,bs,hf⟩:=DataW.trod_struct Tryz.underlying28 h;rw[show Tryz.prog.cellsOf 28=7 by kernel_rfl]at ag;match cs,ag with
 | [v0,v1,v2,v3,v4,v5,v6],_=>
   have g:∀i,i<7->∃y,xs[i]?=some y:=fun i hi=>⟨_,List.getElem?_eq_getElem Md3⟩
   obtain⟨y0,e0⟩:=g 0 Mco;have h0:DataW.trod enc Tryz.prog w base spare held m 3 (List.take (Tryz.prog.cellsOf 3) (List.drop 0 [v0,v1,v2,v3,v4,v5,v6]))=some y0:=(hf 0 _ rfl).trans e0;rw[ziN]at h0;obtain⟨q0,c0,d0,_⟩:=DataW.trod_int Tryz.underlying3 h0;simp only[List.drop_succ_cons,List.drop_zero,List.take_succ_cons,List.take_zero,List.cons.injEq,and_true]at c0;obtain⟨y1,e1⟩:=g 1 Mco;have h1:DataW.trod enc Tryz.prog w base spare held m 3 (List.take (Tryz.prog.cellsOf 3) (List.drop 1 [v0,v1,v2,v3,v4,v5,v6]))=some y1:=(hf 1 _ rfl).trans e1;rw[ziN]at h1;obtain⟨q1,c1,d1,_⟩:=DataW.trod_int Tryz.underlying3 h1;simp only[List.drop_succ_cons,List.drop_zero,List.take_succ_cons,List.take_zero,List.cons.injEq,and_true]at c1;obtain⟨y2,e2⟩:=g 2 Mco;have h2:DataW.trod enc Tryz.prog w base spare held m 9 (List.take (Tryz.prog.cellsOf 9) (List.drop 2 [v0,v1,v2,v3,v4,v5,v6]))=some y2:=(hf 2 _ rfl).trans e2;rw[zom]at h2;obtain⟨q2,c2,d2,_⟩:=DataW.trod_string Tryz.underlying9 h2;simp only[List.drop_succ_cons,List.drop_zero,List.take_succ_cons,List.take_zero,List.cons.injEq,and_true]at c2;obtain⟨y3,e3⟩:=g 3 Mco;have h3:DataW.trod enc Tryz.prog w base spare held m 9 (List.take (Tryz.prog.cellsOf 9) (List.drop 3 [v0,v1,v2,v3,v4,v5,v6]))=some y3:=(hf 3 _ rfl).trans e3;rw[zom]at h3;obtain⟨q3,c3,d3,_⟩:=DataW.trod_string Tryz.underlying9 h3;simp only[List.drop_succ_cons,List.drop_zero,List.take_succ_cons,List.take_zero,List.cons.injEq,and_true]at c3;obtain⟨y4,e4⟩:=g 4 Mco
   have h4:DataW.trod enc Tryz.prog w base spare held m 26 (List.take (Tryz.prog.cellsOf 26) (List.drop 4 [v0,v1,v2,v3,v4,v5,v6]))=some y4:=(hf 4 _ rfl).trans e4;rw[k5_parts]at h4;obtain⟨B4,n4,cap4,q4,c4,GE,hS4,iS,_⟩:=zjy (f:=RPart.cells) (size:=3) Mco rpart_len Tryz.underlying26 k5_part open_part h4;simp only[List.drop_succ_cons,List.drop_zero,List.take_succ_cons,List.take_zero,List.cons.injEq,and_true]at c4;obtain⟨y5,e5⟩:=g 5 Mco;have h5:DataW.trod enc Tryz.prog w base spare held m 3 (List.take (Tryz.prog.cellsOf 3) (List.drop 5 [v0,v1,v2,v3,v4,v5,v6]))=some y5:=(hf 5 _ rfl).trans e5;rw[ziN]at h5;obtain⟨q5,c5,d5,_⟩:=DataW.trod_int Tryz.underlying3 h5;simp only[List.drop_succ_cons,List.drop_zero,List.take_succ_cons,List.take_zero,List.cons.injEq,and_true]at c5;obtain⟨y6,e6⟩:=g 6 Mco;have h6:DataW.trod enc Tryz.prog w base spare held m 3 (List.take (Tryz.prog.cellsOf 3) (List.drop 6 [v0,v1,v2,v3,v4,v5,v6]))=some y6:=(hf 6 _ rfl).trans e6;rw[ziN]at h6;obtain⟨q6,c6,d6,_⟩:=DataW.trod_int Tryz.underlying3 h6;simp only[List.drop_succ_cons,List.drop_zero,List.take_succ_cons,List.take_zero,List.cons.injEq,and_true]at c6;subst c0;subst c1;subst c2;subst c3;subst c4;subst c5;subst c6;subst GE;exact⟨⟨q0,q1,q2,q3,q4,q5,q6⟩,B4,cap4,iS,rfl,hS4⟩
theorem deedR_len{W:World}:∀(d:Deed) (cs:List Value),zdY W d cs->cs.length=7:=by
 rintro d cs ⟨B,c,_,rfl,_⟩;rfl
theorem znq{v:Value}{d:DataW H}{p:List MemPlace}{r:Reach}{b0:Nat}(hv:Value.okWide Tryz.prog w r b0 25 v)(h:DataW.Trod enc Tryz.prog w base spare held 25 v d p):
 ∃(ls:List Law) (ds:List Deed) (A:Option Addr) (nc:Nat) (B:Option Addr) (mc:Nat),v=.agg #[.slice A ls.length nc,.slice B ds.length mc]/\RightsIn w ls ds A ls.length nc B ds.length mc:=by
 obtain⟨cs,rfl,hsz⟩:=okWide_struct Tryz.underlying25 hv;obtain⟨l⟩:=cs;rw[k5_rights]at hsz;match l,hsz with
 | [v0,v1],_=>
   obtain⟨fuel,u7⟩:=h;obtain⟨xs,m,_,_,_,bs,hf⟩:=DataW.trod_struct Tryz.underlying25 u7;have g:∀i,i<2->∃y,xs[i]?=some y:=fun i hi=>⟨_,List.getElem?_eq_getElem Md3⟩
   obtain⟨y0,e0⟩:=g 0 Mco;obtain⟨y1,e1⟩:=g 1 Mco;have h0:DataW.trod enc Tryz.prog w base spare held m 22 (List.take (Tryz.prog.cellsOf 22) (List.drop 0 [v0,v1]))=some y0:=(hf 0 _ rfl).trans e0;have h1:DataW.trod enc Tryz.prog w base spare held m 23 (List.take (Tryz.prog.cellsOf 23) (List.drop 1 [v0,v1]))=some y1:=(hf 1 _ rfl).trans e1;rw[k5_lawsl]at h0;rw[k5_deedsl]at h1;obtain⟨A,n,nc,ls,ea,hn,hS,hc,_⟩:=zjy (f:=Law.cells) (size:=4) Mco (fun x=>rfl) Tryz.underlying22 k5_laws open_law h0;obtain⟨B,k,mc,ds,er,hk,hD,sK,_⟩:=znp (R:=zdY) (size:=7) Mco deedR_len Tryz.underlying23 k5_deed zmi h1;simp at ea er;subst ea er hn hk;exact⟨ls,ds,A,nc,B,mc,rfl,rfl,rfl,hc,sK,hS,hD⟩
end
end
theorem zjo(ls:List Law)(A:Option Addr)(n c:Nat)(w:World)(hn:n=ls.length)(hS:Sl w 4 Law.cells A ls):Calls Tryz.prog 26 #[.slice A n c] w (Ret w (.int .i64 (zaA ls))):=by
 subst hn;go_enter Tryz.func26,Tryz.ntmps26
 by_cases F6:10<ls.length
 ·exact MaU
 have hx:decide ((10:Int)<(ls.length:Int))=false:=Mcr;go_wp2_with fail
 have hT:zaA ls=zeW (ls.drop 0) (befP ls 0):=by rw[zaA,if_neg Mcr];rfl
 go_loopw [3] (fun i wr=>∃k:Nat,k<=ls.length/\i=.int .i64 k/\zaA ls=zeW (ls.drop k) (befP ls k)/\∃z,wr=w.ext z) (fun i _=>ls.length-(intOf i).toNat)
 case atStart=>exact⟨0,Nat.zero_le _,rfl,hT,zaV (Below.refl _ _)⟩
 case round=>
  obtain⟨k,hk,rfl,hf,z,rfl⟩:=hrel;clear hT hx;by_cases aa:k<ls.length
  ·rw[List.drop_eq_getElem_cons aa,zeW]at hf;obtain⟨b,off,rfl,hb,hc⟩:=hS.at aa;have h0:w.cell? ⟨b,off+k*4,none⟩=some (.int .i64 ls[k].frm):=hc 0 _ rfl;have h1:w.cell? ⟨b,off+k*4+1,none⟩=some (.bool ls[k].stems):=hc 1 _ rfl;have h2:w.cell? ⟨b,off+k*4+2,none⟩=some (.int .i64 ls[k].num):=hc 2 _ rfl;have h3:w.cell? ⟨b,off+k*4+3,none⟩=some (.int .i64 ls[k].den):=hc 3 _ rfl;have HF:=zHi hf;have jB:(k:Int)<(ls.length:Int):=Mcm;have iG:0<k->w.cell? ⟨b,off+(k-1)*4,none⟩=some (.int .i64 (ls[k-1]' Mcm).frm):=fun aP=>by
    exact Mbu
   have HP:=zHi iG;have HB:befP ls (k+1)=some ls[k].frm:=zh9 ls aa;have HB:=zHi HB;clear hc hf hS iG
   go_upto_region 10 with(first
    |(go_at_call 58;refine(zdj _ _).mono ?_;intro e wq hq;rcases Ret0.bools hq with⟨rfl,⟨hb,rfl⟩|⟨hb,rfl⟩⟩<;>clear hq)
    |(go_at_call 59;refine(zh1 _ _ _).mono ?_;intro e wq hq;rcases Ret.bools hq with⟨zq,rfl,⟨hb,rfl⟩|⟨hb,rfl⟩⟩<;>clear hq))
   all_goals first
    |(go_ret
      exact Ret.of (zbC MdZ) Bw)
    |skip
   rcases Nat.eq_zero_or_pos k with aP|aP
   ·have hd:decide ((k:Int)>0)=false:=Mcr;have hJ:befP ls k=none:=by rw[befP,if_pos aP]
    go_quiet (fail)
    go_wp2_with fail
    go_round
    case rel=>subst aP;exact⟨1,by omega,rfl,by rw[HF.o,HB.o];simp[zhp, *],zaV Bw⟩
    case measure=>simp[intOf];omega
   ·have hd:decide ((k:Int)>0)=true:=Mcr;have qm:IntKind.i64.wrap ((k:Int)-1)=(k:Int)-1:=IntWalk.i64_in _ Mcm;have ia:0<=(k:Int)-1:=Mcm;have fK:((k:Int)-1).toNat=k-1:=Mcm;have br:(k:Int)-1<(ls.length:Int):=Mcm;have hp:=HP.o aP;have aE:befP ls k=some (ls[k-1]' Mcm).frm:=by have:=zh9 ls (k:=k-1) Mcm;rwa [Nat.sub_add_cancel aP]at this
    go_quiet (fail)
    go_wp2_with fail
    all_goals first
     |(go_ret
       exact Ret.of (zbC MdZ) Bw)
     |(go_round
       case rel=>exact⟨k+1,by omega,by go_num,by rw[HF.o,HB.o];simp[zhp, *],zaV Bw⟩
       case measure=>simp[intOf];omega)
  ·exact Max
theorem zpg(ls:List Law)(A:Option Addr)(c:Nat)(day:Int)(w:World)(hl:ls.length<=10)(hS:Sl w 4 Law.cells A ls):Calls Tryz.prog 169 #[.slice A ls.length c,.int .i64 day] w (Ret w (zbb ls day).v):=by
 go_enter Tryz.func169,Tryz.ntmps169
 go_upto_region 3 with(go_at_call 136;go_must(refine(ziq _).mono ?_);rintro e wq ⟨rfl,z,rfl⟩)
 obtain⟨L,hL⟩:∃L,L=w.heap.size+1+z.os.size:=⟨_,rfl⟩
 have zU:w.heap.size<L:=Mcm;rw[<-hL];have HL:=zHi hL;clear hL;go_loopw [6] (fun i wr=>∃k:Nat,k<=ls.length/\i=.int .i64 k/\∃x:Law,x=zbb (ls.take k) day/\Below w.heap.size w wr/\L+1<=wr.heap.size/\wr.heap[w.heap.size]?=some (.cells #[.int .i64 0,.bool false,.int .i64 0,.int .i64 0] 72)/\wr.heap[L]?=some (.cells #[.int .i64 x.frm,.bool x.stems,.int .i64 x.num,.int .i64 x.den] 72)) (fun i _=>ls.length-(intOf i).toNat)
 case atStart=>
  refine⟨0,Nat.zero_le _,rfl,zmw,rfl,?_,?_,?_,?_⟩
  ·exact Bw
  ·rw[HL.o];simp[zaf]
  ·exact zak (zbv (zas _ _ _ rfl))
  ·exact zas _ _ _ (by rw[HL.o];simp[zaf])
 case round=>
  obtain⟨k,hk,rfl,x,hx,hB,hsz,g0,g1⟩:=hrel;have c0:wr.cell? ⟨L,0,none⟩=some (.int .i64 x.frm):=Mcs;have c1:wr.cell? ⟨L,1,none⟩=some (.bool x.stems):=Mcs;have c2:wr.cell? ⟨L,2,none⟩=some (.int .i64 x.num):=Mcs;have c3:wr.cell? ⟨L,3,none⟩=some (.int .i64 x.den):=Mcs;have d0:wr.cell? ⟨w.heap.size,0,none⟩=some (.int .i64 0):=Mcq;have d1:wr.cell? ⟨w.heap.size,1,none⟩=some (.bool false):=Mcq;have d2:wr.cell? ⟨w.heap.size,2,none⟩=some (.int .i64 0):=Mcq;have d3:wr.cell? ⟨w.heap.size,3,none⟩=some (.int .i64 0):=Mcq;have f0:wr.frozen? ⟨w.heap.size,0,none⟩=false:=Mcz;have f1:wr.frozen? ⟨L,0,none⟩=false:=McA;have e1:wr.frozen? ⟨L,1,none⟩=false:=McA;have e2:wr.frozen? ⟨L,2,none⟩=false:=McA;have e3:wr.frozen? ⟨L,3,none⟩=false:=McA;have m1:wr.frozen? ⟨w.heap.size,1,none⟩=false:=Mcz;have m2:wr.frozen? ⟨w.heap.size,2,none⟩=false:=Mcz;have m3:wr.frozen? ⟨w.heap.size,3,none⟩=false:=Mcz;have dq:L<wr.heap.size:=Mcm;have ay:w.heap.size<wr.heap.size:=Mcm;have bo:L≠wr.heap.size:=Mcm;by_cases aa:k<ls.length
  ·obtain⟨b,off,rfl,hb,hc⟩:=(hS.keep hB).at aa;have h0:wr.cell? ⟨b,off+k*4,none⟩=some (.int .i64 ls[k].frm):=hc 0 _ rfl;have h1:wr.cell? ⟨b,off+k*4+1,none⟩=some (.bool ls[k].stems):=hc 1 _ rfl;have h2:wr.cell? ⟨b,off+k*4+2,none⟩=some (.int .i64 ls[k].num):=hc 2 _ rfl;have h3:wr.cell? ⟨b,off+k*4+3,none⟩=some (.int .i64 ls[k].den):=hc 3 _ rfl;clear hc hS;go_wp2_with fail
   ·refine⟨⟨k+1,by omega,by go_num,ls[k],by rw[zf0 ls day aa,if_pos (by simp;assumption)],?_,?_,?_,?_⟩,by simp[intOf];omega⟩
    ·exact zaL (zaL (zaL (zaL hB McC _) McC _) McC _) McC _
    ·first|omega|(simp;omega)
    ·exact((zaL (zaL (zaL (zaL (Below.refl L wr) McC _) McC _) McC _) McC _).block w.heap.size Mcm).trans g0
    ·exact znB g1
   ·exact⟨⟨k+1,by omega,by go_num,zbb (ls.take k) day,by rw[zf0 ls day aa,if_neg (by simp;assumption)],hB,hsz,g0,by simpa[hx]using g1⟩,by simp[intOf];omega⟩
  ·go_wp2_with fail
   have pU:ls.take k=ls:=List.take_of_length_le Mcm;have g4:=znB (a:=.int .i64 (zbb ls day).frm) (b:=.bool (zbb ls day).stems) (c:=.int .i64 (zbb ls day).num) (d:=.int .i64 (zbb ls day).den) g0;rw[pU];refine bodyPost_ret (v:=(zbb ls day).v) ?_ rfl ?_
   ·refine zid rfl _ _ w.heap.size _ rfl ?_ ?_ ?_ ?_<;>simp[World.cell?,g4]
   ·exact Ret.of rfl (zaL (zaL (zaL (zaL hB McC _) McC _) McC _) McC _)
def zph(w:World)(ds:List Deed)(R:St×Nat×Int)(e:Ending)(w':World):Prop:=
 ∃base b la co,e=.returned (.tuple #[.pointer (some ⟨b,0,none⟩),.int .i64 R.2.1,.int .i64 R.2.2])/\w.heap.size<=base/\WldAt base w' b R.1 la co/\Below w.heap.size w w'/\(R.2.2=0->co=(ds.length:Int)/\la=zeJ ds/\GoodSt R.1 la/\FewS ds.length R.1/\ds.length<=60)
theorem znr(laws:List Law)(ds:List Deed)(upto:Int)(LA:Option Addr)(n nc:Nat)(DA:Option Addr)(m mc:Nat)(w:World)(hR:RightsIn w laws ds LA n nc DA m mc)(hF:FormsIn w)(hL:LensIn w)(hO:∀d∈ds,zdt d)(hup:upto=200000):
 Calls Tryz.prog 20 #[.agg #[.slice LA n nc,.slice DA m mc],.int .i64 upto] w (zph w ds (zcR laws ds upto)):=by
 obtain⟨R,hR⟩:∃R,R=zcR laws ds upto:=⟨_,rfl⟩
 rw[<-hR];unfold zcR at hR;have HR:=zHi hR;clear hR;obtain⟨rfl,rfl,uf,kS,eC,gy⟩:=hR;obtain⟨HF,HL,HO,cM,cJ⟩:=yH5 hF hL hO eC gy;clear hF hL hO eC gy;go_enter Tryz.func20,Tryz.ntmps20
 go_upto_region 2 with(go_at_call 43;go_must(refine(zgG _).mono ?_);rintro e wq ⟨rfl,n1,n2,n3⟩;obtain⟨N1,N2,N3⟩:=yH3 n1 n2 n3;clear n1 n2 n3)
 have bW:=wld_new (base:=w.heap.size+1) (w:=w.alloc (.cells #[.slice LA laws.length nc,.slice DA ds.length mc] 25)) (W:=wq) Mcp N1.o.symm N2.o;have hsz:=N1.o;simp only[World.size_alloc]at bW hsz;have b8:Below w.heap.size w wq:=Below.trans (zac (Below.refl _ _) _) (N3.o.mono Mcp);have fh:wq.heap[w.heap.size]?=some (.cells #[.slice LA laws.length nc,.slice DA ds.length mc] 25):=(N3.o.block _ Mcp).trans (zas _ _ _ rfl);have cu:=zab fh;have bx:∀o,Below w.heap.size w (wq.alloc o):=fun o=>zac b8 _ Mcm
 have rQ:∀o,(wq.alloc o).heap[w.heap.size]?=some (.cells #[.slice LA laws.length nc,.slice DA ds.length mc] 25):=fun o=>zak fh
 obtain⟨b,hb⟩:∃b,b=wq.heap.size:=⟨_,rfl⟩
 rw[<-hb]at bW⊢;have h2:=bx (.cells #[.map (some (w.heap.size+1+1)),.map (some (w.heap.size+1+1+1)),.map (some (w.heap.size+1+1+1+1)),.slice none 0 0,.map (some (w.heap.size+1+1+1+1+1)),.map (some (w.heap.size+1+1+1+1+1+1)),.slice none 0 0,.int .i64 0,.int .i64 0] 97);have dA:=rQ (.cells #[.map (some (w.heap.size+1+1)),.map (some (w.heap.size+1+1+1)),.map (some (w.heap.size+1+1+1+1)),.slice none 0 0,.map (some (w.heap.size+1+1+1+1+1)),.map (some (w.heap.size+1+1+1+1+1+1)),.slice none 0 0,.int .i64 0,.int .i64 0] 97);clear bx rQ b8 fh cu hsz N1 N2 N3 hb;generalize wq.alloc _=W2 at*;obtain⟨od,aA,av⟩:=yH3 bW h2 dA;have aV:=zab dA;obtain⟨x0,x1⟩:=cF2 dA;have iL:=zHi (fun W (hB:Below W2.heap.size W2 W)=>zfL laws LA laws.length nc W rfl (cM.o.keep (h2.trans (hB.mono (Nat.le_of_lt aV)))));clear bW h2 dA;by_cases aY:zaA laws=0
 ·rw[aY]at iL HR;have dE:=zHi aY;clear aY;go_upto_block 0 with(go_at_call 44;go_must(refine(iL.o _ Bw).mono ?_);rintro e wq ⟨rfl,z,rfl⟩)
  clear iL x0 x1;go_cut [9,10,11,25]from 26 (fun _ _ _ _ W=>∃s,Hid (R=(s,ds.length,0))/\∃la co,WldAt (w.heap.size+1) W b s la co/\Below w.heap.size w W/\W.heap[w.heap.size]?=some (.cells #[.slice LA laws.length nc,.slice DA ds.length mc] 25)/\(co=(ds.length:Int)/\la=zeJ ds/\GoodSt s la/\FewS ds.length s/\ds.length<=60))
  case first=>
   go_wp2_with fail
   go_loopw [25] (fun i wr=>∃(k:Nat) (s:St) (last:Int),k<=ds.length/\i=.int .i64 k/\Hid (R=zdS laws upto (ds.drop k) s k last)/\Hid (WldAt (w.heap.size+1) wr b s last k)/\Hid (GoodSt s last)/\Hid (FewS k s)/\k<=60/\Hid (last=zeJ (ds.take k))/\Below w.heap.size w wr/\wr.heap[w.heap.size]?=some (.cells #[.slice LA laws.length nc,.slice DA ds.length mc] 25)) (fun i _=>ds.length-(intOf i).toNat)
   case atStart=>
    refine⟨0,zb3,0,Nat.zero_le _,rfl,?_,od.o.keep (n:=W2.heap.size) Bw,zdO 0,zfC,by omega,zHi rfl,?_,?_⟩
    ·show _=_;rw[HR.o];simp
    ·exact aA.o.trans (Below.mono (B:=W2.heap.size) Bw (Nat.le_of_lt aV))
    ·exact zbv av.o
   case round=>
    obtain⟨k,s,last,hk,rfl,HX,HW,HG,nh,fm,cr,hB,hX⟩:=hrel;clear od aA av HR;obtain x0:=cF1 hX;have dO:=zab hX;obtain⟨HB,pE⟩:=yH2 hB hX;by_cases aa:k<ds.length
    ·obtain⟨db,off,cs,hA,Kw,⟨B,c,ar,bj,hS⟩,hc⟩:=(cJ.o.keep zb5 hB).at aa;subst hA bj;have aj:=HX.o;rw[List.drop_eq_getElem_cons aa,zdS,<-List.drop_eq_getElem_cons aa]at aj;have qL:=zHi (zjP aa);have bH:=HO.o ds[k] (List.getElem_mem aa);have jR:∀W,Below wr.heap.size wr W->_:=fun W hW=>zeg ds[k] B c W (HF.o.keep (hB.trans (hW.mono (Nat.le_of_lt dO)))) bH ar (hS.keep hW)
     have dR:∀W,Below wr.heap.size wr W->OkD ds[k]->_:=fun W hW hd=>zkH (w.heap.size+1) b s k last laws LA nc ds[k] B c W (HW.o.keep hW) HG.o nh.o hd dE.o (HL.o.keep (hB.trans (hW.mono (Nat.le_of_lt dO)))) (cM.o.keep (hB.trans (hW.mono (Nat.le_of_lt dO)))) ar (hS.keep hW)
     rw[zeH]at jR;obtain⟨am,lB,aH,dD,dU⟩:=yH5 aa (show k+(ds.drop k).length=ds.length by rw[List.length_drop];omega) aj jR dR;generalize ds[k]=d at*;clear aj bH jR dR hX hB hS;have bn:OkD d->(zdz laws s k last d).2=0->k<60/\GoodSt (zdz laws s k last d).1 d.day/\FewS (k+1) (zdz laws s k last d).1:=fun hd h=>zkJ h hd HG.o nh.o dE.o
     have jw:za3 d=0->OkD d:=zdN;have oT:=fun h=>zlS (laws:=laws) (s:=s) (co:=k) (last:=last) (d:=d) h
     obtain⟨kd,dy,pl,fr,ts,cl,yr⟩:=d;have i0:wr.cell? ⟨db,off+k*7,none⟩=some (.int .i64 kd):=hc 0 _ rfl;have i1:wr.cell? ⟨db,off+k*7+1,none⟩=some (.int .i64 dy):=hc 1 _ rfl;have i2:wr.cell? ⟨db,off+k*7+2,none⟩=some (.string pl):=hc 2 _ rfl;have i3:wr.cell? ⟨db,off+k*7+3,none⟩=some (.string fr):=hc 3 _ rfl;have i4:wr.cell? ⟨db,off+k*7+4,none⟩=some (.slice B ts.length c):=hc 4 _ rfl;have i5:wr.cell? ⟨db,off+k*7+5,none⟩=some (.int .i64 cl):=hc 5 _ rfl;have i6:wr.cell? ⟨db,off+k*7+6,none⟩=some (.int .i64 yr):=hc 6 _ rfl;have au:(k:Int)<(ds.length:Int):=Mcm;have aP:(0:Int)<=(k:Int):=Mcm;have Gs:(k:Int)<=(mc:Int):=Mcm;have kB:w.heap.size≠wr.heap.size:=Mcm;unfold Deed.v at dU;simp only at oT bn dU aH;clear hc;by_cases hce:za3 ⟨kd,dy,pl,fr,ts,cl,yr⟩=0
     ·have mL:=jw hce;have aj:=aH.o;rw[hce,oT hce]at aj;rw[hce]at dD;have jC:=bn mL;have iT:=fun h=>zlR (laws:=laws) (s:=s) (d:=⟨kd,dy,pl,fr,ts,cl,yr⟩) (co:=k) (last:=last) h
      have gu:=zHi (fun W hW=>dU.o W hW mL);have kT:=mL.day.2;clear aH dU oT bn jw mL;generalize zdz laws s k last ⟨kd,dy,pl,fr,ts,cl,yr⟩=x at*;generalize za3 ⟨kd,dy,pl,fr,ts,cl,yr⟩=ce at*;obtain⟨s',er⟩:=x;by_cases gD:upto<dy
      ·exact absurd gD (by simp only at kT;omega)
      ·have ck:R=if(er != 0)=true then(s,k,er)else zdS laws upto (ds.drop (k+1)) s' (k+1) dy:=by rw[aj,if_neg (by simp[gD])]
       have cN:=zHi ck;have mn:=dD.o;clear aj ck lB;by_cases h0:er=0
       ·subst h0;obtain⟨jA,ow,vR⟩:=jC rfl;obtain⟨fL,uP⟩:=yH2 ow vR;have l8:=wrap_k (k:=k) (Nat.lt_trans jA Mco);have ut:=znb (k:=k) (Nat.lt_trans jA Mco);clear jC iT ow vR mn
        go_wp2_with (first
         |(go_at_call 21;go_must(refine(dD.o _ Bw).mono ?_);rintro e wq ⟨rfl,z,rfl⟩)
         |(go_at_call 22
           go_must(refine(gu.o _ Bw).mono ?_)
           rintro e wq ⟨rfl,t1,t2⟩;simp only[if_true]at t1;have T1:=zHi t1;have aS:Below w.heap.size w wq:=(HB.o.trans (Below.mono (B:=wr.heap.size) Bw (Nat.le_of_lt dO))).trans (t2.mono (Nat.le_succ _));have yW:=(t2.block w.heap.size (Nat.lt_succ_self _)).trans (show _=some (.cells #[.slice LA laws.length nc,.slice (some ⟨db,off,none⟩) ds.length mc] 25) from by have hX:=pE.o;repeat(first|assumption|with_reducible refine zak ?_|with_reducible refine zbv ?_|with_reducible refine J_ne Mcm ?_));obtain⟨aW,pD⟩:=yH2 aS yW
           clear t1 t2 aS yW))
        go_round
        case rel=>
         clear l8 ut;refine⟨k+1,s',dy,am.o,by go_num,?_,T1.o,fL.o,uP.o,jA,zHi qL.o.symm,aW.o,pD.o⟩;show _=_;rw[cN.o];simp
        case measure=>clear l8 ut;have:=am.o;simp only[intOf];omega
       ·have hs:=iT h0;simp only at hs;subst hs;have bw:Hid (R=(s',k,er)):=by
         show _=_;rw[cN.o,if_pos Mdg]
        clear jC iT cN mn
        go_wp2_with (first
         |(go_at_call 21;go_must(refine(dD.o _ Bw).mono ?_);rintro e wq ⟨rfl,z,rfl⟩)
         |(go_at_call 22
           go_must(refine(gu.o _ Bw).mono ?_)
           rintro e wq ⟨rfl,t1,t2⟩;have T1:=zHi t1;have aS:Below w.heap.size w wq:=(HB.o.trans (Below.mono (B:=wr.heap.size) Bw (Nat.le_of_lt dO))).trans (t2.mono (Nat.le_succ _));have aW:=zHi aS
           clear t1 t2 aS))
        go_ret3
        rw[bw.o];exact⟨w.heap.size+1,b,_,_,rfl,by omega,T1.o,aW.o,fun h=>absurd h h0⟩
     ·have ai:(zbT laws s k last ⟨kd,dy,pl,fr,ts,cl,yr⟩)=(s,za3 ⟨kd,dy,pl,fr,ts,cl,yr⟩):=by
       unfold zbT;rw[if_pos MdS]
      have aj:=aH.o;rw[ai]at aj;generalize za3 ⟨kd,dy,pl,fr,ts,cl,yr⟩=ce at*;have bw:Hid (R=(s,k,ce)):=by
       show _=_;rw[aj,if_neg (by simp[hce]),if_pos MdS]
      clear aj ai aH dU oT bn jw lB;go_wp2_with (go_at_call 21;go_must(refine(dD.o _ Bw).mono ?_);rintro e wq ⟨rfl,z,rfl⟩)
      go_ret3
      rw[bw.o];exact⟨w.heap.size+1,b,last,k,rfl,by omega,HW.o.keep (n:=wr.heap.size) Bw,HB.o.trans (Below.mono (B:=wr.heap.size) Bw Mcm),fun h=>absurd h hce⟩
    ·have au:¬(k:Int)<(ds.length:Int):=Mcm;have hx:=HX.o;rw[List.drop_eq_nil_of_le Mcm,zdS]at hx;have kv:k=ds.length:=Mcm;have bw:Hid (R=(s,ds.length,0)):=by show _=_;rw[hx,kv]
     have oL:=kv;clear hx kv hX hB;go_wp2_with fail
     go_meet
     exact⟨s,bw.o,last,k,HW.o,HB.o,pE.o,by rw[oL],by rw[cr.o,oL,List.take_length],HG.o,oL▸nh.o,oL▸fm⟩
  case rest=>
   obtain⟨s,bw,la,co,hW,hB,hX,hg⟩:=hcut;obtain⟨-,x1⟩:=cF2 hX;have dO:=zab hX;obtain⟨HW,HB⟩:=yH2 hW hB;clear hW hB hX;go_upto_region 15 with fail
   go_quiet (fail)
   go_wp2_with fail
   go_ret3
   rw[bw.o];exact⟨w.heap.size+1,b,la,co,rfl,by omega,HW.o.keep (n:=wc.heap.size) Bw,HB.o.trans (Below.mono (B:=wc.heap.size) Bw Mcm),fun _=>hg⟩
 ·generalize zaA laws=er at*;have ai:(er != 0)=true:=by simpa using aY
  have bw:Hid (R=(zb3,0,er)):=by show _=_;rw[HR.o,if_pos ai]
  clear HR;go_wp2_with (go_at_call 44;go_must(refine(iL.o _ Bw).mono ?_);rintro e wq ⟨rfl,z,rfl⟩)
  go_ret3
  rw[bw.o];exact⟨w.heap.size+1,b,0,0,rfl,by omega,od.o.keep (n:=W2.heap.size) Bw,aA.o.trans (Below.mono (B:=W2.heap.size) Bw Mcm),fun h=>absurd h aY⟩
