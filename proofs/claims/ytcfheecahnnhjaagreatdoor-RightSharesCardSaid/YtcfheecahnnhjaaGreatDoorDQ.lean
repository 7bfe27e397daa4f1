import Derived.Test.YtcfheecahnnhjaaGreatDoorTie
import Derived.Test.YtcfheecahnnhjaaGreatDoorAZ
import Derived.Test.YtcfheecahnnhjaaGreatDoorDK
set_option linter.all false
set_option maxRecDepth 100000
set_option maxHeartbeats 4000000
namespace Go.Proofs.YtcfheecahnnhjaaGreatDoor
open Go.RowKit Go.Shelf
attribute [local go_sem] World.cell?_alloc_mark zag za4 zar zaB zaw zax zay zaz za0 za1 za2
attribute [local go_sem] zas zad
section
open Go.ChangeShapes Go.WideShapes Go.ChangeAt Go.Deep
section
variable {H:Type} {enc:TypeId×Value->H} {w:World} {base:Nat} {spare:Nat->Bool} {held:Bool}
theorem zh5:Tryz.prog.cellsOf 3=1:=by kernel_rfl
theorem zmq:Tryz.prog.cellsOf 9=1:=by kernel_rfl
theorem zft:Tryz.prog.cellsOf 4=1:=by kernel_rfl
theorem k5_frac:Tryz.prog.cellsOf 31=2:=by kernel_rfl
theorem zmr(n:Nat)(cs:List Value)(x:DataW H×List MemPlace)(h:DataW.trod enc Tryz.prog w base spare held n 31 cs=some x):∃a b:Int,cs=[.int .i64 a,.int .i64 b]:=by
 obtain⟨xs,m,_,ex,ag,bR,hf⟩:=DataW.trod_struct Tryz.underlying31 h;rw[show Tryz.prog.cellsOf 31=2 by kernel_rfl]at ag;match cs,ag with
 | [v0,v1],_=>
   have g:∀i,i<2->∃y,xs[i]?=some y:=fun i hi=>⟨_,List.getElem?_eq_getElem MdL⟩
   obtain⟨y0,e0⟩:=g 0 Mcw;have h0:DataW.trod enc Tryz.prog w base spare held m 3 (List.take (Tryz.prog.cellsOf 3) (List.drop 0 [v0,v1]))=some y0:=(hf 0 _ rfl).trans e0;rw[zh5]at h0;obtain⟨q0,c0,d0,_⟩:=DataW.trod_int Tryz.underlying3 h0;simp only[List.drop_succ_cons,List.drop_zero,List.take_succ_cons,List.take_zero,List.cons.injEq,and_true]at c0;obtain⟨y1,e1⟩:=g 1 Mcw;have h1:DataW.trod enc Tryz.prog w base spare held m 3 (List.take (Tryz.prog.cellsOf 3) (List.drop 1 [v0,v1]))=some y1:=(hf 1 _ rfl).trans e1;rw[zh5]at h1;obtain⟨q1,c1,d1,_⟩:=DataW.trod_int Tryz.underlying3 h1;simp only[List.drop_succ_cons,List.drop_zero,List.take_succ_cons,List.take_zero,List.cons.injEq,and_true]at c1;subst c0 c1;exact⟨q0,q1,rfl⟩
theorem open_law(n:Nat)(cs:List Value)(x:DataW H×List MemPlace)(h:DataW.trod enc Tryz.prog w base spare held n 100 cs=some x):∃s:Law,cs=s.cells:=by
 obtain⟨xs,m,_,ex,ag,bR,hf⟩:=DataW.trod_struct Tryz.underlying100 h;rw[show Tryz.prog.cellsOf 100=4 by kernel_rfl]at ag;match cs,ag with
 | [v0,v1,v2,v3],_=>
   have g:∀i,i<3->∃y,xs[i]?=some y:=fun i hi=>⟨_,List.getElem?_eq_getElem MdL⟩
   obtain⟨y0,e0⟩:=g 0 Mcw;have h0:DataW.trod enc Tryz.prog w base spare held m 3 (List.take (Tryz.prog.cellsOf 3) (List.drop 0 [v0,v1,v2,v3]))=some y0:=(hf 0 _ rfl).trans e0;rw[zh5]at h0;obtain⟨q0,c0,d0,_⟩:=DataW.trod_int Tryz.underlying3 h0;simp only[List.drop_succ_cons,List.drop_zero,List.take_succ_cons,List.take_zero,List.cons.injEq,and_true]at c0;obtain⟨y1,e1⟩:=g 1 Mcw;have h1:DataW.trod enc Tryz.prog w base spare held m 4 (List.take (Tryz.prog.cellsOf 4) (List.drop 1 [v0,v1,v2,v3]))=some y1:=(hf 1 _ rfl).trans e1;rw[zft]at h1;obtain⟨q1,c1,d1⟩:=DataW.trod_bool Tryz.underlying4 h1;simp only[List.drop_succ_cons,List.drop_zero,List.take_succ_cons,List.take_zero,List.cons.injEq,and_true]at c1;obtain⟨y2,e2⟩:=g 2 Mcw;have h2:DataW.trod enc Tryz.prog w base spare held m 31 (List.take (Tryz.prog.cellsOf 31) (List.drop 2 [v0,v1,v2,v3]))=some y2:=(hf 2 _ rfl).trans e2;rw[k5_frac]at h2;obtain⟨q2,r2,c2⟩:=zmr _ _ _ h2;simp only[List.drop_succ_cons,List.drop_zero,List.take_succ_cons,List.take_zero,List.cons.injEq,and_true]at c2;subst c0;subst c1;obtain⟨cx2,cy2⟩:=c2;subst cx2 cy2;exact⟨⟨q0,q1,q2,r2⟩,rfl⟩
theorem open_form(n:Nat)(cs:List Value)(x:DataW H×List MemPlace)(h:DataW.trod enc Tryz.prog w base spare held n 169 cs=some x):∃s:Form,cs=s.cells/\x.1=.agg [.lit (.string s.word.data.toList),.lit (.bool s.place),.lit (.bool s.frm),.lit (.bool s.cls),.lit (.bool s.years),.lit (.bool s.all),.lit (.bool s.parts),.lit (.bool s.shares)]:=by
 obtain⟨xs,m,_,ex,ag,bR,hf⟩:=DataW.trod_struct Tryz.underlying169 h;rw[show Tryz.prog.cellsOf 169=8 by kernel_rfl]at ag;match cs,ag with
 | [v0,v1,v2,v3,v4,v5,v6,v7],_=>
   have g:∀i,i<8->∃y,xs[i]?=some y:=fun i hi=>⟨_,List.getElem?_eq_getElem MdL⟩
   obtain⟨y0,e0⟩:=g 0 Mcw;have h0:DataW.trod enc Tryz.prog w base spare held m 9 (List.take (Tryz.prog.cellsOf 9) (List.drop 0 [v0,v1,v2,v3,v4,v5,v6,v7]))=some y0:=(hf 0 _ rfl).trans e0;rw[zmq]at h0;obtain⟨q0,c0,d0,_⟩:=DataW.trod_string Tryz.underlying9 h0;simp only[List.drop_succ_cons,List.drop_zero,List.take_succ_cons,List.take_zero,List.cons.injEq,and_true]at c0;obtain⟨y1,e1⟩:=g 1 Mcw;have h1:DataW.trod enc Tryz.prog w base spare held m 4 (List.take (Tryz.prog.cellsOf 4) (List.drop 1 [v0,v1,v2,v3,v4,v5,v6,v7]))=some y1:=(hf 1 _ rfl).trans e1;rw[zft]at h1;obtain⟨q1,c1,d1⟩:=DataW.trod_bool Tryz.underlying4 h1;simp only[List.drop_succ_cons,List.drop_zero,List.take_succ_cons,List.take_zero,List.cons.injEq,and_true]at c1;obtain⟨y2,e2⟩:=g 2 Mcw;have h2:DataW.trod enc Tryz.prog w base spare held m 4 (List.take (Tryz.prog.cellsOf 4) (List.drop 2 [v0,v1,v2,v3,v4,v5,v6,v7]))=some y2:=(hf 2 _ rfl).trans e2;rw[zft]at h2;obtain⟨q2,c2,d2⟩:=DataW.trod_bool Tryz.underlying4 h2;simp only[List.drop_succ_cons,List.drop_zero,List.take_succ_cons,List.take_zero,List.cons.injEq,and_true]at c2;obtain⟨y3,e3⟩:=g 3 Mcw;have h3:DataW.trod enc Tryz.prog w base spare held m 4 (List.take (Tryz.prog.cellsOf 4) (List.drop 3 [v0,v1,v2,v3,v4,v5,v6,v7]))=some y3:=(hf 3 _ rfl).trans e3;rw[zft]at h3;obtain⟨q3,c3,d3⟩:=DataW.trod_bool Tryz.underlying4 h3;simp only[List.drop_succ_cons,List.drop_zero,List.take_succ_cons,List.take_zero,List.cons.injEq,and_true]at c3;obtain⟨y4,e4⟩:=g 4 Mcw
   have h4:DataW.trod enc Tryz.prog w base spare held m 4 (List.take (Tryz.prog.cellsOf 4) (List.drop 4 [v0,v1,v2,v3,v4,v5,v6,v7]))=some y4:=(hf 4 _ rfl).trans e4;rw[zft]at h4;obtain⟨q4,c4,d4⟩:=DataW.trod_bool Tryz.underlying4 h4;simp only[List.drop_succ_cons,List.drop_zero,List.take_succ_cons,List.take_zero,List.cons.injEq,and_true]at c4;obtain⟨y5,e5⟩:=g 5 Mcw;have h5:DataW.trod enc Tryz.prog w base spare held m 4 (List.take (Tryz.prog.cellsOf 4) (List.drop 5 [v0,v1,v2,v3,v4,v5,v6,v7]))=some y5:=(hf 5 _ rfl).trans e5;rw[zft]at h5;obtain⟨q5,c5,d5⟩:=DataW.trod_bool Tryz.underlying4 h5;simp only[List.drop_succ_cons,List.drop_zero,List.take_succ_cons,List.take_zero,List.cons.injEq,and_true]at c5;obtain⟨y6,e6⟩:=g 6 Mcw;have h6:DataW.trod enc Tryz.prog w base spare held m 4 (List.take (Tryz.prog.cellsOf 4) (List.drop 6 [v0,v1,v2,v3,v4,v5,v6,v7]))=some y6:=(hf 6 _ rfl).trans e6;rw[zft]at h6;obtain⟨q6,c6,d6⟩:=DataW.trod_bool Tryz.underlying4 h6;simp only[List.drop_succ_cons,List.drop_zero,List.take_succ_cons,List.take_zero,List.cons.injEq,and_true]at c6;obtain⟨y7,e7⟩:=g 7 Mcw;have h7:DataW.trod enc Tryz.prog w base spare held m 4 (List.take (Tryz.prog.cellsOf 4) (List.drop 7 [v0,v1,v2,v3,v4,v5,v6,v7]))=some y7:=(hf 7 _ rfl).trans e7;rw[zft]at h7;obtain⟨q7,c7,d7⟩:=DataW.trod_bool Tryz.underlying4 h7;simp only[List.drop_succ_cons,List.drop_zero,List.take_succ_cons,List.take_zero,List.cons.injEq,and_true]at c7;subst c0;subst c1;subst c2;subst c3;subst c4;subst c5;subst c6;subst c7
   refine⟨⟨q0,q1,q2,q3,q4,q5,q6,q7⟩,rfl,?_⟩;rw[ex];have hx:xs=[y0,y1,y2,y3,y4,y5,y6,y7]:=by
    apply List.ext_getElem?;intro i;match i with
    |0=>exact e0
    |1=>exact e1
    |2=>exact e2
    |3=>exact e3
    |4=>exact e4
    |5=>exact e5
    |6=>exact e6
    |7=>exact e7
    |i+8=>rw[List.getElem?_eq_none (by rw[bR];show 8<=_;omega)];rfl
   rw[hx,d0,d1,d2,d3,d4,d5,d6,d7];rfl
theorem k5_laws:Tryz.prog.cellsOf 100=4:=by kernel_rfl
theorem k5_form:Tryz.prog.cellsOf 169=8:=by kernel_rfl
end
theorem zms{n:String}{tab:List Int}{kd:IntKind}{arr el:TypeId}{N:Nat}{r:List (String×DataW Unit)}{W:World}{g:Nat}(h:laidMet Tryz.prog ((n,.agg (tab.map fun z=> .lit (.int kd z)))::r) W)
 (oI:Tryz.prog.globalNamed n=some g)(Ll:(Tryz.prog.globals[g]?).map (·.type)=some arr)(ha:Tryz.prog.underlying arr=some (.array N el))(he:Tryz.prog.underlying el=some (.int kd))(im:Tryz.prog.cellsOf el=1)(Kl:Tryz.prog.cellsOf arr=N)(hN:tab.length=N):
 ∀(k:Nat) z,tab[k]?=some z->W.cell? ⟨g,k,none⟩=some (.int kd z):=by
 obtain⟨ps,⟨g',t,cs,fuel,p,q,hg,ht,hv,hd,_,_⟩,_,_⟩:=h;obtain rfl:=Option.some.inj (oI.symm.trans hg);obtain rfl:=Option.some.inj (Ll.symm.trans ht);obtain⟨xs,m,_,ex,bi,hl,hel⟩:=DataW.trod_array ha hd;rw[Kl]at bi;intro k z hk;have bX:k<N:=by rw[<-hN];exact(List.getElem?_eq_some_iff.1 hk).1
 have hE:=hel k bX;rw[im,Nat.mul_one,List.getElem?_eq_getElem Mcu]at hE;obtain⟨y,e1,e2,_⟩:=DataW.trod_int he hE;have e3:(xs.map (·.1))=tab.map fun z=> .lit (.int kd z):=(DataW.agg.inj (Prod.mk.inj ex).1).symm
 have e4:=congrArg (fun l=>l[k]?) e3;simp only[List.getElem?_map,hk,List.getElem?_eq_getElem (show k<xs.length by omega),e2,Option.map_some,Option.some.injEq,DataW.lit.injEq,Lit.int.injEq,true_and]at e4;have h0:((cs.toList.drop k).take 1)[0]?=some (.int kd y):=by rw[e1];rfl
 have h1:cs.toList[k]?=some (.int kd y):=MdA;rw[World.var?_cell hg hv k,<-Array.getElem?_toList,h1,e4]
theorem tz_laid{r:List (String×DataW Unit)}{W:World}(h:laidMet Tryz.prog (("math/bits.deBruijn64tab",Rows.laid_math_bits_deBruijn64tab)::r) W):TzTab W:=by
 have h1:=zms (tab:=Lib.deBruijn64tab.map fun(z:Nat)=>(z:Int)) (kd:=.u8) (arr:=186) (el:=5) (N:=64) (g:=2) (by
  have e:(Rows.laid_math_bits_deBruijn64tab:DataW Unit)=.agg ((Lib.deBruijn64tab.map fun(z:Nat)=>(z:Int)).map fun z=> .lit (.int .u8 z)):=Mcv
  rw[<-e];exact h) Mcv Mcv Tryz.underlying186 Tryz.underlying5 Mcv Mcv Mcv
 have h2:TabAt 2 Lib.deBruijn64tab W:=fun j hj=>h1 j (Lib.deBruijn64tab.getD j 0:Nat) (by
  rw[List.getElem?_map,List.getD_eq_getElem?_getD,List.getElem?_eq_getElem hj]
  rfl)
 exact⟨h2,zdk (h2 0 (by decide+kernel))⟩
theorem lens_laid{r:List (String×DataW Unit)}{W:World}(h:laidMet Tryz.prog (("mortsafe/rule.lengths",Rows.laid_mortsafe_rule_lengths)::r) W):LensIn W:=by
 have h1:=zms (tab:=zgp) (kd:=.i64) (arr:=243) (el:=3) (N:=12) (g:=4) (by
  have e:(Rows.laid_mortsafe_rule_lengths:DataW Unit)=.agg (zgp.map fun z=> .lit (.int .i64 z)):=Mcv
  rw[<-e];exact h) Mcv Mcv Tryz.underlying243 Tryz.underlying3 Mcv Mcv Mcv
 exact⟨zdk (h1 0 31 rfl),h1⟩
def formD(s:Form):DataW Unit:=.agg [.lit (.string s.word.data.toList),.lit (.bool s.place),.lit (.bool s.frm),.lit (.bool s.cls),.lit (.bool s.years),.lit (.bool s.all),.lit (.bool s.parts),.lit (.bool s.shares)]
theorem formD_inj{a b:Form}(h:formD a=formD b):a=b:=by
 obtain⟨⟨⟨x⟩⟩,p1,p2,p3,p4,p5,p6,p7⟩:=a;obtain⟨⟨⟨y⟩⟩,q1,q2,q3,q4,q5,q6,q7⟩:=b;simp[formD]at h;obtain⟨rfl,rfl,rfl,rfl,rfl,rfl,rfl,rfl⟩:=h;rfl
theorem zpp{r:List (String×DataW Unit)}{W:World}(h:laidMet Tryz.prog (("mortsafe/right.forms",Rows.laid_mortsafe_right_forms)::r) W):FormsIn W:=by
 have e0:(Rows.laid_mortsafe_right_forms:DataW Unit)=.agg (zfH.map formD):=Mcv;rw[e0]at h;obtain⟨ps,⟨g',t,cs,fuel,p,q,hg,ht,hv,hd,_,_⟩,_,_⟩:=h;obtain rfl:=Option.some.inj ((show Tryz.prog.globalNamed "mortsafe/right.forms" =some 0 by kernel_rfl).symm.trans hg)
 obtain rfl:=Option.some.inj ((show(Tryz.prog.globals[0]?).map (·.type)=some 170 by kernel_rfl).symm.trans ht);obtain⟨xs,m,_,ex,bi,hl,hel⟩:=DataW.trod_array Tryz.underlying170 hd;have key:∀k (f:Form),zfH[k]?=some f->∀j u,f.cells[j]?=some u->W.cell? ⟨0,k*8+j,none⟩=some u:=fun k f hk j u hu=>by
  have bX:k<9:=(List.getElem?_eq_some_iff.1 hk).1;have hE:=hel k bX;rw[k5_form,List.getElem?_eq_getElem Mcu]at hE;obtain⟨s,e1,e2⟩:=open_form _ _ _ hE;have e3:(xs.map (·.1))=zfH.map formD:=(DataW.agg.inj (Prod.mk.inj ex).1).symm;have e4:=congrArg (fun l=>l[k]?) e3;simp only[List.getElem?_map,hk,List.getElem?_eq_getElem (show k<xs.length by omega),e2,Option.map_some,Option.some.injEq]at e4;have e5:s=f:=formD_inj e4;subst e5;have hj:j<8:=(List.getElem?_eq_some_iff.1 hu).1;have h1:((cs.toList.drop (k*8)).take 8)[j]?=some u:=by rw[e1];exact hu
  rw[List.getElem?_take_of_lt hj,List.getElem?_drop]at h1;rw[World.var?_cell hg hv (k*8+j),<-Array.getElem?_toList,h1]
 exact⟨zdk (key 0 _ rfl 0 _ rfl),key⟩
section
variable {H:Type} {enc:TypeId×Value->H} {P:Program} {w:World} {base:Nat} {spare:Nat->Bool} {held:Bool}
theorem znu{α:Type}{R:World->α->List Value->Prop}{size:Nat}(hsz:0<size)(ag:∀x cs,R w x cs->cs.length=size){t e:TypeId}{fuel:Nat}{cs:List Value}{x:DataW H×List MemPlace}(ht:P.underlying t=some (.slice e))(hC:P.cellsOf e=size)
 (mA:∀(n:Nat) (cs:List Value) (y:DataW H×List MemPlace),DataW.trod enc P w base spare held n e cs=some y->∃s:α,R w s cs)(h:DataW.trod enc P w base spare held fuel t cs=some x):
 ∃(A:Option Addr) (n c:Nat) (xs:List α),cs=[.slice A n c]/\n=xs.length/\SlW w size R A xs/\xs.length<=c/\c<=maxLen:=by
 rcases open_slice ht h with⟨rfl,_⟩|⟨a,len,cap,m,n,D,Pl,rfl,_,hl,hm,ct,_,hi⟩
 ·exact⟨none,0,0,[],rfl,rfl,SlW.nil,Nat.le_refl _,Nat.zero_le _⟩
 ·have bP:len<=m:=by rw[ct];split<;>omega
  obtain⟨l,fH,hq⟩:=znt (Q:=fun i (s:α)=>∃cs,R w s cs/\∀j,j<size->w.cell? ((a.add (i*size)).add j)=cs[j]?) len (fun i eF=>by
   obtain⟨cs',hc,hr⟩:=hi i Mcu;obtain⟨s,hs⟩:=mA _ _ _ hr;rw[hC]at hc
   exact⟨s,cs',hs,(World.cells?_some hc).2.2⟩)
  refine⟨some a,len,cap,l,rfl,fH.symm,fun hp=>?_,by omega,hm⟩;have h0:0<l.length:=hp;obtain⟨cs0,qd,f9⟩:=hq 0 l[0] (List.getElem?_eq_getElem h0);have hx:=f9 0 hsz;have hv:∃v,cs0[0]?=some v:=⟨_,List.getElem?_eq_getElem (by rw[ag _ _ qd];exact hsz)⟩
  obtain⟨v,hv⟩:=hv;rw[hv]at hx;have cv:=World.cell?_spot hx;have dK:=World.block_lt_of_cell? _ _ hx;obtain⟨b,off,spot⟩:=a;have sY:spot=none:=by simpa[Addr.add]using cv
  subst sY;refine⟨b,off,rfl,by simpa[Addr.add]using dK,fun k y hy=>?_⟩;obtain⟨cs1,fL,jM⟩:=hq k y hy;refine⟨cs1,fL,fun j u hu=>?_⟩;have hj:j<size:=by have:=(List.getElem?_eq_some_iff.1 hu).1;rw[ag _ _ fL]at this;exact this
  have:=jM j hj;exact MbK
end
section
variable {H:Type} {enc:TypeId×Value->H} {w:World} {base:Nat} {spare:Nat->Bool} {held:Bool}
theorem k5_part:Tryz.prog.cellsOf 64=3:=by kernel_rfl
theorem k5_parts:Tryz.prog.cellsOf 48=1:=by kernel_rfl
theorem k5_deed:Tryz.prog.cellsOf 69=7:=by kernel_rfl
theorem k5_lawsl:Tryz.prog.cellsOf 22=1:=by kernel_rfl
theorem k5_deedsl:Tryz.prog.cellsOf 23=1:=by kernel_rfl
theorem k5_rights:Tryz.prog.cellsOf 25=2:=by kernel_rfl
theorem rpart_len(x:RPart):x.cells.length=3:=rfl
theorem open_part(n:Nat)(cs:List Value)(x:DataW H×List MemPlace)(h:DataW.trod enc Tryz.prog w base spare held n 64 cs=some x):∃s:RPart,cs=s.cells:=by
 obtain⟨xs,m,_,ex,ag,bR,hf⟩:=DataW.trod_struct Tryz.underlying64 h;rw[show Tryz.prog.cellsOf 64=3 by kernel_rfl]at ag;match cs,ag with
 | [v0,v1,v2],_=>
   have g:∀i,i<2->∃y,xs[i]?=some y:=fun i hi=>⟨_,List.getElem?_eq_getElem MdL⟩
   obtain⟨y0,e0⟩:=g 0 Mcw;have h0:DataW.trod enc Tryz.prog w base spare held m 9 (List.take (Tryz.prog.cellsOf 9) (List.drop 0 [v0,v1,v2]))=some y0:=(hf 0 _ rfl).trans e0;rw[zmq]at h0;obtain⟨q0,c0,d0,_⟩:=DataW.trod_string Tryz.underlying9 h0;simp only[List.drop_succ_cons,List.drop_zero,List.take_succ_cons,List.take_zero,List.cons.injEq,and_true]at c0;obtain⟨y1,e1⟩:=g 1 Mcw;have h1:DataW.trod enc Tryz.prog w base spare held m 31 (List.take (Tryz.prog.cellsOf 31) (List.drop 1 [v0,v1,v2]))=some y1:=(hf 1 _ rfl).trans e1;rw[k5_frac]at h1;obtain⟨q1,r1,c1⟩:=zmr _ _ _ h1;simp only[List.drop_succ_cons,List.drop_zero,List.take_succ_cons,List.take_zero,List.cons.injEq,and_true]at c1;subst c0;obtain⟨cx1,cy1⟩:=c1;subst cx1 cy1;exact⟨⟨q0,q1,r1⟩,rfl⟩
theorem open_deed(n:Nat)(cs:List Value)(x:DataW H×List MemPlace)(h:DataW.trod enc Tryz.prog w base spare held n 69 cs=some x):∃d:Deed,zfE w d cs:=by
 obtain⟨xs,m,_,ex,ag,bR,hf⟩:=DataW.trod_struct Tryz.underlying69 h;rw[show Tryz.prog.cellsOf 69=7 by kernel_rfl]at ag;match cs,ag with
 | [v0,v1,v2,v3,v4,v5,v6],_=>
   have g:∀i,i<7->∃y,xs[i]?=some y:=fun i hi=>⟨_,List.getElem?_eq_getElem MdL⟩
   obtain⟨y0,e0⟩:=g 0 Mcw;have h0:DataW.trod enc Tryz.prog w base spare held m 3 (List.take (Tryz.prog.cellsOf 3) (List.drop 0 [v0,v1,v2,v3,v4,v5,v6]))=some y0:=(hf 0 _ rfl).trans e0;rw[zh5]at h0;obtain⟨q0,c0,d0,_⟩:=DataW.trod_int Tryz.underlying3 h0;simp only[List.drop_succ_cons,List.drop_zero,List.take_succ_cons,List.take_zero,List.cons.injEq,and_true]at c0;obtain⟨y1,e1⟩:=g 1 Mcw;have h1:DataW.trod enc Tryz.prog w base spare held m 3 (List.take (Tryz.prog.cellsOf 3) (List.drop 1 [v0,v1,v2,v3,v4,v5,v6]))=some y1:=(hf 1 _ rfl).trans e1;rw[zh5]at h1;obtain⟨q1,c1,d1,_⟩:=DataW.trod_int Tryz.underlying3 h1;simp only[List.drop_succ_cons,List.drop_zero,List.take_succ_cons,List.take_zero,List.cons.injEq,and_true]at c1;obtain⟨y2,e2⟩:=g 2 Mcw;have h2:DataW.trod enc Tryz.prog w base spare held m 9 (List.take (Tryz.prog.cellsOf 9) (List.drop 2 [v0,v1,v2,v3,v4,v5,v6]))=some y2:=(hf 2 _ rfl).trans e2;rw[zmq]at h2;obtain⟨q2,c2,d2,_⟩:=DataW.trod_string Tryz.underlying9 h2;simp only[List.drop_succ_cons,List.drop_zero,List.take_succ_cons,List.take_zero,List.cons.injEq,and_true]at c2;obtain⟨y3,e3⟩:=g 3 Mcw;have h3:DataW.trod enc Tryz.prog w base spare held m 9 (List.take (Tryz.prog.cellsOf 9) (List.drop 3 [v0,v1,v2,v3,v4,v5,v6]))=some y3:=(hf 3 _ rfl).trans e3;rw[zmq]at h3;obtain⟨q3,c3,d3,_⟩:=DataW.trod_string Tryz.underlying9 h3;simp only[List.drop_succ_cons,List.drop_zero,List.take_succ_cons,List.take_zero,List.cons.injEq,and_true]at c3;obtain⟨y4,e4⟩:=g 4 Mcw
   have h4:DataW.trod enc Tryz.prog w base spare held m 48 (List.take (Tryz.prog.cellsOf 48) (List.drop 4 [v0,v1,v2,v3,v4,v5,v6]))=some y4:=(hf 4 _ rfl).trans e4;rw[k5_parts]at h4;obtain⟨B4,n4,cap4,q4,c4,Gy,hS4,ki,_⟩:=zka (f:=RPart.cells) (size:=3) Mcw rpart_len Tryz.underlying48 k5_part open_part h4;simp only[List.drop_succ_cons,List.drop_zero,List.take_succ_cons,List.take_zero,List.cons.injEq,and_true]at c4;obtain⟨y5,e5⟩:=g 5 Mcw;have h5:DataW.trod enc Tryz.prog w base spare held m 3 (List.take (Tryz.prog.cellsOf 3) (List.drop 5 [v0,v1,v2,v3,v4,v5,v6]))=some y5:=(hf 5 _ rfl).trans e5;rw[zh5]at h5;obtain⟨q5,c5,d5,_⟩:=DataW.trod_int Tryz.underlying3 h5;simp only[List.drop_succ_cons,List.drop_zero,List.take_succ_cons,List.take_zero,List.cons.injEq,and_true]at c5;obtain⟨y6,e6⟩:=g 6 Mcw;have h6:DataW.trod enc Tryz.prog w base spare held m 3 (List.take (Tryz.prog.cellsOf 3) (List.drop 6 [v0,v1,v2,v3,v4,v5,v6]))=some y6:=(hf 6 _ rfl).trans e6;rw[zh5]at h6;obtain⟨q6,c6,d6,_⟩:=DataW.trod_int Tryz.underlying3 h6;simp only[List.drop_succ_cons,List.drop_zero,List.take_succ_cons,List.take_zero,List.cons.injEq,and_true]at c6;subst c0;subst c1;subst c2;subst c3;subst c4;subst c5;subst c6;subst Gy;exact⟨⟨q0,q1,q2,q3,q4,q5,q6⟩,B4,cap4,ki,rfl,hS4⟩
theorem deedR_len{W:World}:∀(d:Deed) (cs:List Value),zfE W d cs->cs.length=7:=by
 rintro d cs ⟨B,c,_,rfl,_⟩;rfl
theorem znv{v:Value}{d:DataW H}{p:List MemPlace}{r:Reach}{b0:Nat}(hv:Value.okWide Tryz.prog w r b0 25 v)(h:DataW.Trod enc Tryz.prog w base spare held 25 v d p):
 ∃(ls:List Law) (ds:List Deed) (A:Option Addr) (nc:Nat) (B:Option Addr) (mc:Nat),v=.agg #[.slice A ls.length nc,.slice B ds.length mc]/\RightsIn w ls ds A ls.length nc B ds.length mc:=by
 obtain⟨cs,rfl,hsz⟩:=okWide_struct Tryz.underlying25 hv;obtain⟨l⟩:=cs;rw[k5_rights]at hsz;match l,hsz with
 | [v0,v1],_=>
   obtain⟨fuel,ui⟩:=h;obtain⟨xs,m,_,_,_,bR,hf⟩:=DataW.trod_struct Tryz.underlying25 ui;have g:∀i,i<2->∃y,xs[i]?=some y:=fun i hi=>⟨_,List.getElem?_eq_getElem MdL⟩
   obtain⟨y0,e0⟩:=g 0 Mcw;obtain⟨y1,e1⟩:=g 1 Mcw;have h0:DataW.trod enc Tryz.prog w base spare held m 22 (List.take (Tryz.prog.cellsOf 22) (List.drop 0 [v0,v1]))=some y0:=(hf 0 _ rfl).trans e0;have h1:DataW.trod enc Tryz.prog w base spare held m 23 (List.take (Tryz.prog.cellsOf 23) (List.drop 1 [v0,v1]))=some y1:=(hf 1 _ rfl).trans e1;rw[k5_lawsl]at h0;rw[k5_deedsl]at h1;obtain⟨A,n,nc,ls,ea,hn,hS,hc,_⟩:=zka (f:=Law.cells) (size:=4) Mcw (fun x=>rfl) Tryz.underlying22 k5_laws open_law h0;obtain⟨B,k,mc,ds,er,hk,hD,sP,_⟩:=znu (R:=zfE) (size:=7) Mcw deedR_len Tryz.underlying23 k5_deed open_deed h1;simp at ea er;subst ea er hn hk;exact⟨ls,ds,A,nc,B,mc,rfl,rfl,rfl,hc,sP,hS,hD⟩
theorem zja:Tryz.prog.cellsOf 27=2:=by kernel_rfl
theorem open_spot{v:Value}{d:DataW H}{p:List MemPlace}{r:Reach}{b0:Nat}(hv:Value.okWide Tryz.prog w r b0 27 v)(h:DataW.Trod enc Tryz.prog w base spare held 27 v d p):
 ∃(q0:ByteArray) (q1:Int),v=.agg #[.string q0,.int .i64 q1]/\q0.size<=maxLen:=by
 obtain⟨cs,rfl,hsz⟩:=okWide_struct Tryz.underlying27 hv;obtain⟨l⟩:=cs;rw[zja]at hsz;match l,hsz with
 | [v0,v1],_=>
   obtain⟨fuel,ui⟩:=h;obtain⟨xs,m,_,_,_,bR,hf⟩:=DataW.trod_struct Tryz.underlying27 ui;have g:∀i,i<2->∃y,xs[i]?=some y:=fun i hi=>⟨_,List.getElem?_eq_getElem MdL⟩
   obtain⟨y0,e0⟩:=g 0 Mcw;have h0:DataW.trod enc Tryz.prog w base spare held m 9 (List.take (Tryz.prog.cellsOf 9) (List.drop 0 [v0,v1]))=some y0:=(hf 0 _ rfl).trans e0;rw[zmq]at h0;obtain⟨q0,c0,d0,z0⟩:=DataW.trod_string Tryz.underlying9 h0;simp only[List.drop_succ_cons,List.drop_zero,List.take_succ_cons,List.take_zero,List.cons.injEq,and_true]at c0;obtain⟨y1,e1⟩:=g 1 Mcw;have h1:DataW.trod enc Tryz.prog w base spare held m 3 (List.take (Tryz.prog.cellsOf 3) (List.drop 1 [v0,v1]))=some y1:=(hf 1 _ rfl).trans e1;rw[zh5]at h1;obtain⟨q1,c1,d1,_⟩:=DataW.trod_int Tryz.underlying3 h1;simp only[List.drop_succ_cons,List.drop_zero,List.take_succ_cons,List.take_zero,List.cons.injEq,and_true]at c1;subst c0;subst c1;exact⟨q0,q1,rfl,z0⟩
end
end
def zfu(d:Deed):Bool:=!(decide (20<d.place.size)||decide (20<d.frm.size)||decide (10<d.to.length))&&d.to.all fun p=>!decide (20<p.name.size)
def fewP(ls:List Law)(ds:List Deed):Bool:=!(decide (12<ls.length)||decide (14<ds.length))&&ds.all zfu
theorem zpq{d:Deed}(h:zfu d=true):zdB d:=by
 unfold zfu at h;simp at h;obtain⟨⟨⟨h1,h2⟩,h3⟩,h4⟩:=h;exact⟨by omega,by omega,fun p hp=>by have:=h4 p hp;omega,by omega⟩
theorem few_lens{ls:List Law}{ds:List Deed}(h:fewP ls ds=true):(∀d∈ds,zdB d)/\ls.length<=12/\ds.length<=14/\(∀d∈ds,d.to.length<=10):=by
 unfold fewP at h;simp at h;obtain⟨⟨h1,h2⟩,h3⟩:=h;refine⟨fun d hd=>zpq (h3 d hd),h1,h2,fun d hd=>?_⟩;have:=h3 d hd;unfold zfu at this;simp at this;exact this.1.2
theorem brief_any(d:Deed)(B:Option Addr)(c:Nat)(w:World)(hc:d.to.length<=c)(hS:Sl w 3 RPart.cells B d.to):
 Calls Tryz.prog 22 #[d.v B c] w (Ret w (.bool (zfu d))):=by
 obtain⟨kd,dy,pl,fr,ts,cl,yr⟩:=d;have HS:=zHi hS;obtain⟨R,hR⟩:∃R,R=zfu ⟨kd,dy,pl,fr,ts,cl,yr⟩:=⟨_,rfl⟩
 rw[<-hR];unfold zfu at hR;unfold Deed.v;simp only at hR hc hS⊢;clear hS;go_enter Tryz.func22,Tryz.ntmps22
 by_cases l1:20<pl.size
 ·have HE:Hid (R=false):=by show _=_;rw[hR,decide_eq_true l1];rfl
  have q1:(20:Int)<(pl.size:Int):=Mcu;exact Mag
 have q1:¬(20:Int)<(pl.size:Int):=Mcu;by_cases l2:20<fr.size
 ·have HE:Hid (R=false):=by show _=_;rw[hR,decide_eq_true l2];simp
  have q2:(20:Int)<(fr.size:Int):=Mcu;exact Mag
 have q2:¬(20:Int)<(fr.size:Int):=Mcu;by_cases l3:10<ts.length
 ·have HE:Hid (R=false):=by show _=_;rw[hR,decide_eq_true l3];simp
  have q3:(10:Int)<(ts.length:Int):=Mcu;exact Mag
 have q3:¬(10:Int)<(ts.length:Int):=Mcu;have vI:Hid (R=(ts.drop 0).all fun p=>!decide (20<p.name.size)):=by
  show _=_;rw[hR,decide_eq_false l1,decide_eq_false l2,decide_eq_false l3,List.drop_zero];rfl
 clear hR;go_upto_region 3 with fail
 have k4:(w.alloc (.cells #[.int .i64 kd,.int .i64 dy,.string pl,.string fr,.slice B ts.length c,.int .i64 cl,.int .i64 yr] 69)).cell? ⟨w.heap.size,4,none⟩=some (.slice B ts.length c):=Mc0;have hB:Below w.heap.size w (w.alloc (.cells #[.int .i64 kd,.int .i64 dy,.string pl,.string fr,.slice B ts.length c,.int .i64 cl,.int .i64 yr] 69)):=Bw;generalize w.alloc (.cells #[.int .i64 kd,.int .i64 dy,.string pl,.string fr,.slice B ts.length c,.int .i64 cl,.int .i64 yr] 69)=W at*;obtain⟨pC,HB⟩:=yH2 (HS.o.keep hB) hB;clear hB HS;go_upto_region 4 with fail
 go_loopw [3] (fun i wr=>∃k:Nat,k<=ts.length/\i=.int .i64 k/\W=wr/\Hid (R=(ts.drop k).all fun p=>!decide (20<p.name.size))) (fun i _=>ts.length-(intOf i).toNat)
 case atStart=>exact⟨0,Nat.zero_le _,rfl,rfl,vI.o⟩
 case round=>
  obtain⟨k,hk,rfl,rfl,HX⟩:=hrel;by_cases ae:k<ts.length
  ·obtain⟨b,off,rfl,hb,ah⟩:=pC.o.at ae;have hx:=HX.o;rw[List.drop_eq_getElem_cons ae,List.all_cons]at hx;obtain⟨av,am⟩:=yH2 hx ae;generalize ts[k]=x at*;obtain⟨nm,nu,de⟩:=x;have i0:W.cell? ⟨b,off+k*3,none⟩=some (.string nm):=ah 0 _ rfl;have ar:(k:Int)<(ts.length:Int):=Mcu;have aT:(0:Int)<=(k:Int):=Mcu;clear ah hx ae;by_cases l5:20<nm.size
   ·have HE:Hid (R=false):=by show _=_;rw[av.o];simp[l5]
    have q5:(20:Int)<(nm.size:Int):=Mcu;exact MR
   ·have q5:¬(20:Int)<(nm.size:Int):=Mcu;have HE:Hid (R=(ts.drop (k+1)).all fun p=>!decide (20<p.name.size)):=by show _=_;rw[av.o];simp[l5]
    go_wp2_with fail
    exact MI
  ·have ar:¬(k:Int)<(ts.length:Int):=Mcu;have HE:Hid (R=true):=by show _=_;rw[HX.o,List.drop_of_length_le Mcu];rfl
   exact MR
theorem few_any(ls:List Law)(ds:List Deed)(LA:Option Addr)(n nc:Nat)(DA:Option Addr)(m mc:Nat)(w:World)(hR:RightsIn w ls ds LA n nc DA m mc):
 Calls Tryz.prog 5 #[.agg #[.slice LA n nc,.slice DA m mc]] w (Ret w (.bool (fewP ls ds))):=by
 obtain⟨rfl,rfl,yj,sP,_,hD⟩:=hR;have HD:=zHi hD;obtain⟨R,hR⟩:∃R,R=fewP ls ds:=⟨_,rfl⟩
 rw[<-hR];unfold fewP at hR;clear hD;go_enter Tryz.func5,Tryz.ntmps5
 by_cases l1:12<ls.length
 ·have HE:Hid (R=false):=by show _=_;rw[hR,decide_eq_true l1];rfl
  have q1:(12:Int)<(ls.length:Int):=Mcu;exact Mag
 have q1:¬(12:Int)<(ls.length:Int):=Mcu;by_cases l2:14<ds.length
 ·have HE:Hid (R=false):=by show _=_;rw[hR,decide_eq_true l2];simp
  have q2:(14:Int)<(ds.length:Int):=Mcu;exact Mag
 have q2:¬(14:Int)<(ds.length:Int):=Mcu;have vI:Hid (R=(ds.drop 0).all zfu):=by
  show _=_;rw[hR,decide_eq_false l1,decide_eq_false l2,List.drop_zero];rfl
 clear hR;go_upto_region 3 with fail
 have k4:(w.alloc (.cells #[.slice LA ls.length nc,.slice DA ds.length mc] 25)).cell? ⟨w.heap.size,1,none⟩=some (.slice DA ds.length mc):=Mc0;have hB:Below w.heap.size w (w.alloc (.cells #[.slice LA ls.length nc,.slice DA ds.length mc] 25)):=Bw;have hsz:w.heap.size<(w.alloc (.cells #[.slice LA ls.length nc,.slice DA ds.length mc] 25)).heap.size:=Mcx;generalize w.alloc (.cells #[.slice LA ls.length nc,.slice DA ds.length mc] 25)=W at*;obtain⟨jB,HB⟩:=yH2 (HD.o.keep zch hB) hB;clear hB HD;go_upto_region 4 with fail
 go_loopw [3] (fun i wr=>∃k:Nat,k<=ds.length/\i=.int .i64 k/\Hid (R=(ds.drop k).all zfu)/\Below W.heap.size W wr) (fun i _=>ds.length-(intOf i).toNat)
 case atStart=>exact⟨0,Nat.zero_le _,rfl,vI.o,Below.refl _ _⟩
 case round=>
  obtain⟨k,hk,rfl,HX,nC⟩:=hrel;have j4:wr.cell? ⟨w.heap.size,1,none⟩=some (.slice DA ds.length mc):=(zah nC hsz).trans k4;have Au:=nC.size;by_cases ae:k<ds.length
  ·obtain⟨b,off,cs,hA,hb,hr,ah⟩:=(jB.o.keep zch nC).at ae;have hx:=HX.o;rw[List.drop_eq_getElem_cons ae,List.all_cons]at hx;obtain⟨av,am⟩:=yH2 hx ae;generalize ds[k]=x at*;obtain⟨B,c,hc,rfl,hS⟩:=hr;have zC:=zHi (fun W' (h:Below wr.heap.size wr W')=>brief_any x B c W' hc (hS.keep h));unfold Deed.v at zC;subst hA;have i0:=ah 0 _ rfl;have i1:=ah 1 _ rfl;have i2:=ah 2 _ rfl;have i3:=ah 3 _ rfl;have i4:=ah 4 _ rfl;have i5:=ah 5 _ rfl;have i6:=ah 6 _ rfl;simp only[Nat.add_zero]at i0;have ar:(k:Int)<(ds.length:Int):=Mcu;have aT:(0:Int)<=(k:Int):=Mcu;have b8:=zHi nC;generalize zfu x=q at*;clear ah hx ae hS nC;cases q
   ·have HE:Hid (R=false):=MdJ;go_wp2_with (go_at_call 22;go_must(refine(zC.o _ Bw).mono ?_);rintro e wq ⟨rfl,z,rfl⟩)
    go_ret
    exact Ret.of (zaP HE.o.symm) (HB.o.trans ((b8.o.trans (Below.mono (B:=wr.heap.size) Bw Au)).mono HB.o.size))
   ·have HE:Hid (R=(ds.drop (k+1)).all zfu):=MdJ;go_wp2_with (go_at_call 22;go_must(refine(zC.o _ Bw).mono ?_);rintro e wq ⟨rfl,z,rfl⟩)
    go_round
    case rel=>exact⟨k+1,am.o,by go_num,HE.o,b8.o.trans (Below.mono (B:=wr.heap.size) Bw Au)⟩
    case measure=>have:=am.o;simp only[intOf];omega
  ·have ar:¬(k:Int)<(ds.length:Int):=Mcu;have HE:Hid (R=true):=by show _=_;rw[HX.o,List.drop_of_length_le Mcu];rfl
   have b8:=zHi nC;clear nC;go_wp2_with fail
   go_ret
   exact Ret.of (zaP HE.o.symm) (HB.o.trans (b8.o.mono HB.o.size))
theorem zmt{d:Deed}(h1:inR d.kind 0 8=true)(h2:inR d.years 0 99=true):zfr d=zfK d:=
 zpk (zf0.1 h1) (zf0.1 h2).1
theorem zj0(d:Deed)(B:Option Addr)(c:Nat)(w:World)(hl:zdB d)(hS:Sl w 3 RPart.cells B d.to):Calls Tryz.prog 57 #[d.v B c] w (Ret w (.int .i64 (zaI d))):=by
 obtain⟨R,hR⟩:∃R,R=zaI d:=⟨_,rfl⟩
 rw[<-hR];have uj:=zmt (d:=d);have oG:=fun W (hl:d.to.length<=1000) (h:Below w.heap.size w W)=>zno d B c W hl (hS.keep h)
 obtain⟨kd,dy,pl,fr,ts,cl,yr⟩:=d;obtain⟨l1,l2,eG,ae⟩:=hl;have HS:=zHi hS;unfold zaI at hR;unfold Deed.v at oG⊢;simp only at hR l1 l2 eG ae hS uj oG;obtain⟨HR,nr,nW,dM⟩:=yH4 hR uj oG eG;clear hR hS uj oG eG;go_enter Tryz.func57,Tryz.ntmps57
 go_upto_region 1 with fail
 generalize ak:w.alloc _=W0;obtain⟨g0,aE⟩:=boxed ak;obtain⟨d0,d1,d2,d3,d4,d5,d6⟩:=zaH g0;have l0:=zab g0;have aj:=zHi aE;clear ak aE;cases iy:inR kd 0 8
 ·have HE:Hid (R=15):=by show _=_;rw[HR.o];simp[iy]
  exact Ms
 go_upto_region 3 with(first
                        |(go_at_call 61;go_must(refine(zc5 _ _ _ _).mono ?_);rintro e wq ⟨rfl,rfl⟩;(first|rw[iy]|rw[hc9]|rw[hy9]))
                        |(go_at_call 31;go_must(refine(zcS _ _).mono ?_);rintro e wq ⟨rfl,rfl⟩;rw[ip])
                        |(go_at_call 30;go_must(refine(zcR _ _ Mc6).mono ?_);rintro e wq ⟨rfl,rfl⟩;(first|rw[cM]|rw[fw]|rw[mT])))
 cases ip:zbl dy
 ·have HE:Hid (R=2):=by show _=_;rw[HR.o];simp[iy,ip]
  exact Ms
 cases hc9:inR cl 0 4
 ·have HE:Hid (R=2):=by show _=_;rw[HR.o];simp[iy,ip,hc9]
  exact Ms
 cases hy9:inR yr 0 99
 ·have HE:Hid (R=2):=by show _=_;rw[HR.o];simp[iy,ip,hc9,hy9]
  exact Ms
 go_upto_region 5 with(first
                        |(go_at_call 61;go_must(refine(zc5 _ _ _ _).mono ?_);rintro e wq ⟨rfl,rfl⟩;(first|rw[iy]|rw[hc9]|rw[hy9]))
                        |(go_at_call 31;go_must(refine(zcS _ _).mono ?_);rintro e wq ⟨rfl,rfl⟩;rw[ip])
                        |(go_at_call 30;go_must(refine(zcR _ _ Mc6).mono ?_);rintro e wq ⟨rfl,rfl⟩;(first|rw[cM]|rw[fw]|rw[mT])))
 by_cases h8:8<ts.length
 ·have h9:(8:Int)<(ts.length:Int):=Mcu;have HE:Hid (R=8):=by show _=_;rw[HR.o];simp[iy,ip,hc9,hy9,h8]
  exact Ms
 have h9:¬(8:Int)<(ts.length:Int):=Mcu;have uw:R=if !zb1 pl||!zb1 fr||!ts.all (fun p=>zaT p.name)then 4 else if !zfK ⟨kd,dy,pl,fr,ts,cl,yr⟩then 3 else 0:=by rw[HR.o];simp[iy,ip,hc9,hy9,h8]
 rw[<-nr.o iy hy9]at uw;have bI:=zHi uw;clear uw nr HR;go_upto_region 7 with fail
 go_cut [47]from 28 to 47 (fun v wc=>v=.bool (!zb1 pl||!zb1 fr)/\W0=wc)
 case first=>
  cases z1:noB pl
  ·have w1:¬pl.toList=[]:=by simpa using(show pl.toList.isEmpty=false from z1)
   cases iB:zaT pl
   ·have cM:zcE pl=false:=by rw[<-zd3,iB]
    exact Mr
   ·have cM:zcE pl=true:=by rw[<-zd3,iB]
    cases z2:noB fr
    ·exact Mcb
    ·exact Mcn
  ·have w1:pl.toList=[]:=by simpa using(show pl.toList.isEmpty=true from z1)
   cases z2:noB fr
   ·exact Mcb
   ·exact Mcn
 case rest=>
  obtain⟨rfl,rfl⟩:=hcut;cases hn9:(!zb1 pl||!zb1 fr)
  ·have yE:R=if !ts.all (fun p=>zaT p.name)then 4 else if !zfr ⟨kd,dy,pl,fr,ts,cl,yr⟩then 3 else 0:=by rw[bI.o,hn9,Bool.false_or]
   have qy:=zHi (fun W h=>nW.o W Mcu h);generalize zfr ⟨kd,dy,pl,fr,ts,cl,yr⟩=fo at*;have iX:=zHi yE;clear yE bI nW;go_upto_region 10 with fail
   go_loopw [3] (fun i wr=>∃k:Nat,k<=ts.length/\i=.int .i64 k/\W0=wr/\Hid (R=if !(ts.drop k).all (fun p=>zaT p.name)then 4 else if !fo then 3 else 0)) (fun i _=>ts.length-(intOf i).toNat)
   case atStart=>exact⟨0,Nat.zero_le _,rfl,rfl,by rw[List.drop_zero];exact iX.o⟩
   case round=>
    obtain⟨k,hk,rfl,rfl,HX⟩:=hrel;by_cases ae:k<ts.length
    ·obtain⟨b,off,rfl,hb,ah⟩:=(HS.o.keep aj.o).at ae;have hx:=HX.o;rw[List.drop_eq_getElem_cons ae,List.all_cons]at hx;have hsz:=dM.o _ (List.getElem_mem ae);obtain⟨av,am⟩:=yH2 hx ae;generalize ts[k]=x at*;obtain⟨nm,nu,de⟩:=x;have i0:W0.cell? ⟨b,off+k*3,none⟩=some (.string nm):=ah 0 _ rfl;have ar:(k:Int)<(ts.length:Int):=Mcu;have aT:(0:Int)<=(k:Int):=Mcu;simp only at hsz;clear ah hx ae;cases hp3:zaT nm
     ·have mT:zcE nm=false:=Mel;have HE:Hid (R=4):=by show _=_;rw[av.o];simp[hp3]
      exact Ms
     ·have mT:zcE nm=true:=Mel;have HE:Hid (R=if !(ts.drop (k+1)).all (fun p=>zaT p.name)then 4 else if !fo then 3 else 0):=by show _=_;rw[av.o,hp3,Bool.true_and]
      go_wp2_with (first
                    |(go_at_call 61;go_must(refine(zc5 _ _ _ _).mono ?_);rintro e wq ⟨rfl,rfl⟩;(first|rw[iy]|rw[hc9]|rw[hy9]))
                    |(go_at_call 31;go_must(refine(zcS _ _).mono ?_);rintro e wq ⟨rfl,rfl⟩;rw[ip])
                    |(go_at_call 30;go_must(refine(zcR _ _ Mc6).mono ?_);rintro e wq ⟨rfl,rfl⟩;(first|rw[cM]|rw[fw]|rw[mT])))
      exact MI
    ·have ar:¬(k:Int)<(ts.length:Int):=Mcu;have HE:Hid (R=if !fo then 3 else 0):=by show _=_;rw[HX.o,List.drop_of_length_le Mcu];rfl
     cases fo
     ·exact MaD
     ·exact MaD
  ·have HE:Hid (R=4):=by show _=_;rw[bI.o,hn9];rfl
   exact Ms
def zbz(nm:ByteArray)(day:Int)(gs:List Grave):List ByteArray:=(gs.filter (zcf nm day)).map (·.place)
theorem zpr(nm:ByteArray)(day:Int)(gs:List Grave){k:Nat}(h:k<gs.length):zbz nm day (gs.take (k+1))=zbz nm day (gs.take k)++if zcf nm day gs[k]then[gs[k].place]else[]:=by
 unfold zbz;rw[List.take_succ_eq_append_getElem h,List.filter_append,List.map_append];cases hq:zcf nm day gs[k]<;>simp[hq]
def HeldApi(w:World)(s:St)(nm:ByteArray)(day:Int)(E:Int)(e:Ending)(w':World):Prop:=
 Below w.heap.size w w'/\((E≠0/\e=.returned (.tuple #[.slice none 0 0,.int .i64 E]))\/
  (E=0/\∃A c ys,e=.returned (.tuple #[.slice A ys.length c,.int .i64 0])/\Sl w' 1 sC A ys/\ys.Perm (zbz nm day s.graves)/\(ys.Pairwise fun a b=>zbb b a=false)))
theorem held5_any(laws:List Law)(ds:List Deed)(name:ByteArray)(day:Int)(LA:Option Addr)(n nc:Nat)(DA:Option Addr)(m mc:Nat)(w:World)(hR:RightsIn w laws ds LA n nc DA m mc)(hF:FormsIn w)(hL:LensIn w)(hO:∀d∈ds,zdB d)(hp:name.size<=100000):
 Calls Tryz.prog 8 #[.agg #[.slice LA n nc,.slice DA m mc],.string name,.int .i64 day] w (HeldApi w (zaQ laws ds day).1 name day (zcs laws ds [name] day)):=by
 have fB:=zHi (fun W (hB:Below w.heap.size w W) NA (hS:Sl W 1 sC NA [name])=>zoi laws ds day [name] LA n nc DA m mc NA 1 1 W (hR.keep hB) (hF.keep hB) (hL.keep hB) hO rfl Mcx (by simpa using hp) hS);clear hR hF hL hO hp;unfold zjV at fB;generalize zcs laws ds [name] day=E at*;generalize(zaQ laws ds day).1=s at*;go_enter Tryz.func8,Tryz.ntmps8
 by_cases h0:E=0;rotate_left 1
 ·have Cd:(E != 0)=true:=MdA;have HE:=zHi h0;clear h0
  go_wp2_with (go_at_call 23
               go_must(refine(fB.o _ Bw _ (zcC (zaq _ _ _ Mcx))).mono ?_)
               rintro e wq ⟨h1,⟨_,rfl⟩|⟨hz,_⟩⟩;rotate_left 1
               ·exact absurd hz HE.o
               have aR:Below w.heap.size w wq:=Below.trans (zac (zac (Below.refl _ _) _) _ Mcx) (h1.mono Mcz);have aC:=zHi aR
               clear h1 aR)
  go_ret2
  exact⟨aC.o,.inl ⟨HE.o,rfl⟩⟩
 go_upto_region 4 with(go_at_call 23
                       go_must(refine(fB.o _ Bw _ (zcC (zaq _ _ _ Mcx))).mono ?_)
                       rintro e wq ⟨h1,⟨ai,_⟩|⟨_,base,b,la,co,rfl,h2,h3,⟨last,h4⟩,h5⟩⟩
                       ·exact absurd h0 ai
                       obtain⟨H1,H3,H4,H5⟩:=yH4 h1 h3 h4 h5
                       clear h1 h2 h3 h4 h5)
 clear fB;obtain⟨k,ft,bM⟩:=H5.o;have aC:Hid (Below w.heap.size w wq):=zHi (Below.trans (zac (zac (Below.refl _ _) _) _ Mcx) (H1.o.mono Mcz));have H0:=zHi h0;clear h0 H1 H5;obtain⟨Bk,dd,cc,pp,wl,rr,mv,tv,ps,ba,hC,hP,hT⟩:=H3.o;obtain⟨TA,tc,rfl,wQ,t8⟩:=hT.own.sl zcL;have cq:=bM.graves;have fK:=hT.len;have dK:=zab hC;unfold WldC at hC;obtain⟨-,-,-,-,-,-,k6⟩:=cF7 hC;obtain⟨HT,kP,J3,Ie⟩:=yH4 hT fK (fun W (hB:Below wq.heap.size wq W)=>(wQ.keep hB:Sl W 1 ptrC TA ps)) bM;have bk:=aC.o.size;have ag:(zbz name day s.graves).length<=1000:=by
  unfold zbz;rw[List.length_map];have:=List.length_filter_le (zcf name day) s.graves;omega
 have vw:=zHi ag;have hpk:ps.length<=1000:=Mcu;clear hC hP hT wQ bM ag;go_wp2_with fail
 go_loopw [10,29] (fun v i wr=>∃(k:Nat),k<=ps.length/\i=.int .i64 k/\OwnS wr wq.heap.size 9 1 sC v (zbz name day (s.graves.take k))/\Below wq.heap.size wq wr) (fun _ i _=>ps.length-(intOf i).toNat)
 case atStart=>exact⟨0,Nat.zero_le _,rfl,OwnS.nil,Below.refl _ _⟩
 case round=>
  obtain⟨k,hk,rfl,aa,hB⟩:=hrel;obtain⟨VA,vc,rfl,_,jx⟩:=aa.sl za9;have hsz:=hB.size;obtain⟨HO,HB⟩:=yH2 aa hB;by_cases ae:k<ps.length
  ·have kn:k<s.graves.length:=Mcu;have CF:=(HT.o.keep hB).all k ps[k] s.graves[k] (List.getElem?_eq_getElem ae) (List.getElem?_eq_getElem kn);have aW:=H4.o.graves s.graves[k] (List.getElem_mem kn);have ix:=Ie.o.held s.graves[k] (List.getElem_mem kn);obtain⟨TB,toff,CE,JZ,wT⟩:=(J3.o wr hB).at ae;subst CE;have bw:=zpr name day s.graves kn;have i0:wr.cell? ⟨TB,toff+k,none⟩=some (.pointer (some ⟨ps[k],0,none⟩)):=by have:=wT 0 _ rfl;simpa using this
   generalize ps[k]=T at*;generalize s.graves[k]=g at*;have yD:zcf name day g=(zaR g day&&decide (0<(zaf g.holders name).num)):=rfl;obtain⟨H,aM,D,dc,frm,t1,t2,t3,t4,t5,t6,t7⟩:=CF;have ca:=zab t1;unfold zbw at t1;obtain⟨g0,-,-,g3,g4⟩:=cF5 t1;obtain⟨qI,dh,bT,lU⟩:=yH4 (fun W (hW:Below wr.heap.size wr W)=>zfQ g H aM T day W ((zah hW ca).trans g3) ((zah hW ca).trans g4)) (fun W (hW:Below wr.heap.size wr W)=>zdz g.holders H aM T name W ((zah hW ca).trans g4) (Nat.lt_of_lt_of_le ca hW.size) Mcu aW.good.asc (Ro.sl zam (t5.keep hW))) bw yD;generalize zaR g day=fi at*;generalize zaf g.holders name=q at*;unfold zaA at dh;have ar:(k:Int)<(ps.length:Int):=Mcu;have aT:(0:Int)<=(k:Int):=Mcu;have cX:(zbz name day (s.graves.take k)).length<=1000:=by
    unfold zbz;rw[List.length_map];exact M3
   generalize zbz name day (s.graves.take k)=cS at*;have dM:=zHi cX;clear aW ix bw yD t1 t5 t6 t7 t2 t3 t4 wT aa hB cX g3 g4;have uj:=zhi q.num q.den;cases fi
   ·rw[Bool.false_and]at lU;clear g0;go_wp2_with (go_at_call 27;refine(qI.o _ Bw).mono ?_;rintro e wz ⟨rfl,z,rfl⟩)
    exact Mau
   ·rw[Bool.true_and]at lU;by_cases hq:0<q.num
    ·rw[decide_eq_true hq]at lU;have g0':∀W,Below wr.heap.size wr W->W.cell? ⟨T,0,none⟩=some (.string g.place):=fun W hW=>(zah hW ca).trans g0
     have Ig:=zHi g0';clear g0 g0'
     go_upto_region 9 with(first
      |(go_at_call 27;refine(qI.o _ Bw).mono ?_;rintro e wz ⟨rfl,z,rfl⟩)
      |(go_at_call 25;refine(dh.o _ Bw).mono ?_;rintro e wy ⟨rfl,z2,rfl⟩))
     have bD:Below wr.heap.size wr ((wr.ext z).ext z2):=zbg (zbg (Below.refl _ _) z) z2;have g0:=Ig.o _ bD;have eo:=zHi bD;generalize(wr.ext z).ext z2=w9 at*;have hT9:T<w9.heap.size:=by have:=eo.o.size;omega
     have sW:=eo.o.size;clear bD;go_wp2_with (at_builtin;go_loud(refine zat (v:=.slice VA cS.length vc) (n:=cS.length) (m:=1) rfl _ _ rfl zb9 za9 zb8 rfl (HO.o.keep (n:=wr.heap.size) (by have:=eo.o;exact Bw)) rfl rfl rfl (zcC (x:=g.place) (zaq _ _ _ Mcx)) (by simp[maxLen];have:=dM.o;omega) (by have:=dM.o;omega) Mcz ?_);intro v3 w3 h1 h2 h3)
     go_roundw
     case rel=>
      refine⟨k+1,by omega,by go_num,by rw[bT.o,lU.o];exact h1,?_⟩;exact Mbr
     case measure=>simp[intOf];omega
    ·rw[decide_eq_false hq]at lU;clear g0
     go_wp2_with (first
      |(go_at_call 27;refine(qI.o _ Bw).mono ?_;rintro e wz ⟨rfl,z,rfl⟩)
      |(go_at_call 25;refine(dh.o _ Bw).mono ?_;rintro e wy ⟨rfl,z2,rfl⟩))
     exact Mau
  ·have GC:¬(k:Int)<(ps.length:Int):=Mcu;have aU:s.graves.take k=s.graves:=List.take_of_length_le Mcu;rw[aU]at HO;have ko:=vw.o;generalize pS:zbz name day s.graves=cS at*;have te:(zbz name day (s.graves.take k)).length=cS.length:=by rw[aU,pS]
   rw[te];have vo:=zHi pS;clear aU te pS aa hB;go_wp2_with (go_at_call 28;go_must(refine(sortT_any (.slice VA cS.length vc) cS wq.heap.size _ HO.o Mcu).mono ?_);rintro e wz ⟨rfl,L,s1,s2,s3,s4⟩)
   go_ret2
   obtain⟨A',c',hv,hS,_⟩:=s3.sl za9;exact⟨zh3 bk (fun g hg=>(HO.o.ge g hg).1) s4 (aC.o.trans (HB.o.mono bk)),.inr ⟨H0.o,A',c',L,by rw[hv];rfl,hS,by rw[vo.o];exact s1,s2⟩⟩
theorem zeO{fn:Func}{p q:Tmp}(h:fn.results= #[.cell p 31,.tmp q])(tmps:Array Value)(w:World)(B:Nat)(x y:Int)(e:Value){t:TypeId}{f:Nat×Nat}(hp:tmps.getD p undef=.pointer (some ⟨B,0,none⟩))(hq:tmps.getD q undef=e)
 (hB:w.heap[B]?=some (.cells #[.int .i64 x,.int .i64 y] t f)):(results fn tmps).run Tryz.prog w=.ok (.tuple #[.agg #[.int .i64 x,.int .i64 y],e]) w:=by
 obtain⟨h0,h1⟩:=cF2 hB;clear hB;exact MbE
theorem sl_two{w:World}{b:Nat}{x y:ByteArray}{t:TypeId}{fr:Nat×Nat}(h:w.heap[b]?=some (.cells #[.string x,.string y] t fr)):Sl w 1 sC (some ⟨b,0,none⟩) [x,y]:=fun _=>⟨b,0,rfl,zab h,fun k z hz j u hu=>by
 have hj:j=0:=by
  match j,hu with
  |0,_=>rfl
  |j+1,hu=>simp[sC]at hu
 subst hj;match k,hz with
 |0,hz=>simp at hz;subst hz;simp[sC]at hu;simp[World.cell?,h,<-hu]
 |1,hz=>simp at hz;subst hz;simp[sC]at hu;simp[World.cell?,h,<-hu]
 |k+2,hz=>simp at hz⟩
def zjb(E:Int)(q:Rat):Value:=if E=0 then .agg #[.int .i64 q.num,.int .i64 q.den]else .agg #[.int .i64 0,.int .i64 0]
theorem zps(laws:List Law)(ds:List Deed)(place name:ByteArray)(day:Int)(LA:Option Addr)(n nc:Nat)(DA:Option Addr)(m mc:Nat)(w:World)(hR:RightsIn w laws ds LA n nc DA m mc)(hF:FormsIn w)(hL:LensIn w)(hO:∀d∈ds,zdB d)(hp:place.size<=100000)(hn:name.size<=100000):
 Calls Tryz.prog 6 #[.agg #[.slice LA n nc,.slice DA m mc],.string place,.string name,.int .i64 day] w (Ret w (.tuple #[zjb (zcs laws ds [place,name] day) (zaf (zb3 (zaQ laws ds day).1 place day) name),.int .i64 (zcs laws ds [place,name] day)])):=by
 have fB:=zHi (fun W (hB:Below w.heap.size w W) NA (hS:Sl W 1 sC NA [place,name])=>zoi laws ds day [place,name] LA n nc DA m mc NA 2 2 W (hR.keep hB) (hF.keep hB) (hL.keep hB) hO rfl Mcx (by intro x hx;simp at hx;rcases hx with rfl|rfl<;>assumption) hS);clear hR hF hL hO hp hn;unfold zjV at fB;generalize zcs laws ds [place,name] day=E at*;generalize(zaQ laws ds day).1=s at*;obtain⟨q,hq⟩:∃q,q=zaf (zb3 s place day) name:=⟨_,rfl⟩
 rw[<-hq];go_enter Tryz.func6,Tryz.ntmps6
 have im:∀W,Below (w.heap.size+2) ((w.alloc (.cells #[.slice LA n nc,.slice DA m mc] 25)).alloc (.cells #[.int .i64 0,.int .i64 0] 31)) W->W.heap[w.heap.size+1]?=some (.cells #[.int .i64 0,.int .i64 0] 31):=fun W hW=>(hW.block _ Mcu).trans (zaq _ _ _ Mcx)
 have nj:=zHi im;clear im;by_cases h0:E=0;rotate_left 1
 ·have Cd:(E != 0)=true:=MdA;have HE:=zHi h0;unfold zjb;rw[if_neg h0];clear h0
  go_upto_region 3 with(first
   |(go_at_call 23
     go_must(refine(fB.o _ Bw _ (sl_two (zaq _ _ _ Mcx))).mono ?_)
     rintro e wq ⟨h1,⟨_,rfl⟩|⟨hz,_⟩⟩;rotate_left 1
     ·exact absurd hz HE.o
     go_loud(have hf:=nj.o _ (((zac (Below.refl _ _) _ McG):Below (w.heap.size+2) _ _).trans (h1.mono McG)))
     go_loud(have aR:Below w.heap.size w wq:=Below.trans (zac (zac (zac (Below.refl _ _) _) _ McG) _ McG) (h1.mono McG))
     obtain⟨nk,aC⟩:=yH2 hf aR
     clear h1 hf aR))
  obtain⟨f0,f1⟩:=zby nk.o;have fz:=frz nk.o;have ae:=zab nk.o;go_wp2_with fail
  refine bodyPost_ret (v:=.tuple #[.agg #[.int .i64 (0),.int .i64 (0)],.int .i64 (E)]) (zeO rfl _ _ (w.heap.size+1) (0) (0) _ rfl rfl (zdy nk.o)) rfl ?_;exact Ret.of rfl (zaM (zaM aC.o Mcx _) Mcx _)
 have HE:=zHi h0;unfold zjb;rw[if_pos h0,h0];clear h0
 go_upto_region 4 with(first
  |(go_at_call 23
    go_must(refine(fB.o _ Bw _ (sl_two (zaq _ _ _ Mcx))).mono ?_)
    rintro e wq ⟨h1,⟨ai,_⟩|⟨_,base,b,la,co,rfl,h2,h3,⟨last,h4⟩,h5⟩⟩
    ·exact absurd HE.o ai
    have hf:=nj.o _ (((zac (Below.refl _ _) _ McG):Below (w.heap.size+2) _ _).trans (h1.mono McG));have aR:Below w.heap.size w wq:=Below.trans (zac (zac (zac (Below.refl _ _) _) _ McG) _ McG) (h1.mono McG);obtain⟨nk,aC,H3,H4,H5⟩:=yH5 hf aR h3 h4 h5
    clear h1 h2 h3 h4 h5 hf aR))
 clear fB nj;obtain⟨k,ft,bM⟩:=H5.o;obtain⟨Bk,dd,cc,pp,wl,rr,mv,tv,ps,ba,hC,hP,hT⟩:=H3.o;have cq:=bM.graves;have bK:=zHi (fun W (hB:Below wq.heap.size wq W)=>zi3 base b s la co place day W (hC.keep hB) (hT.keep hB) Mcu);have ae:=zab nk.o;have bk:=aC.o.size;unfold zb3 at hq;obtain⟨f0,f1⟩:=zby nk.o;have fz:=frz nk.o;cases aO:zaL s place day with
 |none=>
  rw[aO]at bK hq;have dL:q=0:=by rw[hq];rfl
  clear hC hP hT bM hq aO;go_upto_region 7 with(go_at_call 24;go_must(refine(bK.o _ Bw).mono ?_);rintro e wz ⟨rfl,z,rfl⟩;simp only[zlw,Option.map_none])
  have HQ:=zHi dL;clear dL;go_wp2_with fail
  rw[HQ.o];refine bodyPost_ret (v:=.tuple #[.agg #[.int .i64 ((0:Rat).num),.int .i64 (((0:Rat).den:Int))],.int .i64 (0)]) (zeO rfl _ _ (w.heap.size+1) ((0:Rat).num) (((0:Rat).den:Int)) _ rfl rfl (zb5 (zdy nk.o))) rfl ?_;exact Ret.of rfl (zbg (zaM (zaM aC.o Mcx _) Mcx _) z)
 |some i=>
  obtain⟨T,g,g7,ia,aG,bG,fT,_⟩:=zdM hT aO;rw[aO]at bK hq;simp only[bG]at hq;have aW:=H4.o.graves g (List.mem_of_getElem? aG);have ix:=bM.held g (List.mem_of_getElem? aG);obtain⟨H,aM,D,dc,frm,t1,t2,t3,t4,t5,t6,t7⟩:=fT;have ca:=zab t1;have Bh:Hid (∀W,Below wq.heap.size wq W->Calls Tryz.prog 24 #[.pointer (some ⟨b,0,none⟩),.string place,.int .i64 day] W (Ret W (.pointer (some ⟨T,0,none⟩)))):=zHi fun W hB=>by
   have:=bK.o W hB;exact MaF
  unfold zbw at t1;obtain⟨-,-,-,-,g4⟩:=cF5 t1;have dh:=zHi (fun W (hW:Below wq.heap.size wq W)=>zdz g.holders H aM T name W ((zah hW ca).trans g4) (Nat.lt_of_lt_of_le ca hW.size) Mcu aW.good.asc (Ro.sl zam (t5.keep hW)));rw[<-hq]at dh;unfold zaA at dh;clear hC hP hT bM hq aO bK t1 t2 t3 t4 t5 t6 t7 g7 ia aG bG aW ix g4;go_upto_region 6 with(go_at_call 24;go_must(refine(Bh.o _ Bw).mono ?_);rintro e wz ⟨rfl,z,rfl⟩)
  go_wp2_with (go_at_call 25;go_must(refine(dh.o _ Bw).mono ?_);rintro e wy ⟨rfl,z2,rfl⟩)
  refine bodyPost_ret (v:=.tuple #[.agg #[.int .i64 (q.num),.int .i64 ((q.den:Int))],.int .i64 (0)]) (zeO rfl _ _ (w.heap.size+1) (q.num) ((q.den:Int)) _ rfl rfl (zb5 (zb5 (zdy nk.o)))) rfl ?_;exact Ret.of rfl (zbg (zbg (zaM (zaM aC.o Mcx _) Mcx _) z) z2)
