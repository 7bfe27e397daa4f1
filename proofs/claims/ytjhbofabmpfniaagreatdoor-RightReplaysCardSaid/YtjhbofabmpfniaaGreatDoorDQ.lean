/- Walk of the reference's CheckDeed. -/
import Derived.Test.YtjhbofabmpfniaaGreatDoorDM
set_option linter.unusedSimpArgs false
set_option linter.unusedVariables false
set_option maxRecDepth 100000
set_option maxHeartbeats 4000000
namespace Go.Proofs.YtjhbofabmpfniaaGreatDoor
open Go.ChangeShapes Go.WideShapes Go.ChangeAt Go.RowKit Go.Deep Go.Shelf
section
variable {H:Type} {enc:TypeId×Value->H} {P:Program} {w:World} {base:Nat} {spare:Nat->Bool} {held:Bool}
theorem znr {α:Type} {R:World->α->List Value->Prop} {size:Nat} (hsz:0<size) (ag: ∀x cs,R w x cs->cs.length=size) {t e:TypeId} {fuel:Nat} {cs:List Value} {x:DataW H×List MemPlace} (ht:P.underlying t=some (.slice e)) (hC:P.cellsOf e=size)
 (mx: ∀(n:Nat) (cs:List Value) (y:DataW H×List MemPlace),DataW.trod enc P w base spare held n e cs=some y-> ∃s:α,R w s cs) (h:DataW.trod enc P w base spare held fuel t cs=some x):
 ∃(A:Option Addr) (n c:Nat) (xs:List α),cs=[.slice A n c]/\n=xs.length/\SlW w size R A xs/\xs.length<=c/\c<=maxLen:=by
 rcases open_slice ht h with⟨rfl,_⟩|⟨a,len,cap,m,n,D,Pl,rfl,_,hl,hm,cY,_,hi⟩
 ·exact⟨none,0,0,[],rfl,rfl,SlW.nil,Nat.le_refl _,Nat.zero_le _⟩
 ·have bN:len<=m:=by rw[cY];split<;>omega
  obtain⟨l,fg,hq⟩:=zmy (Q:=fun i (s:α)=> ∃cs,R w s cs/\ ∀j,j<size->w.cell? ((a.add (i*size)).add j)=cs[j]?) len (fun i f9=>by
   obtain⟨cs',hc,hr⟩:=hi i Mcn;obtain⟨s,hs⟩:=mx _ _ _ hr;rw[hC]at hc
   exact⟨s,cs',hs,(World.cells?_some hc).2.2⟩)
  refine⟨some a,len,cap,l,rfl,fg.symm,fun hp=> ?_,by omega,hm⟩;have h0:0<l.length:=hp;obtain⟨cs0,pV,dU⟩:=hq 0 l[0] (List.getElem?_eq_getElem h0);have hx:=dU 0 hsz;have hv: ∃v,cs0[0]?=some v:=⟨_,List.getElem?_eq_getElem (by rw[ag _ _ pV];exact hsz)⟩
  obtain⟨v,hv⟩:=hv;rw[hv]at hx;have cn:=World.cell?_spot hx;have cW:=World.block_lt_of_cell? _ _ hx;obtain⟨b,off,spot⟩:=a;have sD:spot=none:=by simpa[Addr.add]using cn
  subst sD;refine⟨b,off,rfl,by simpa[Addr.add]using cW,fun k y hy=> ?_⟩;obtain⟨cs1,fL,ke⟩:=hq k y hy;refine⟨cs1,fL,fun j u hu=> ?_⟩;have hj:j<size:=by have:=(List.getElem?_eq_some_iff.1 hu).1;rw[ag _ _ fL]at this;exact this
  have:=ke j hj;rw[hu]at this;rw[<-this];congr 1
  unfold Addr.add;split<;>split<;>simp_all<;>omega
end
section
variable {H:Type} {enc:TypeId×Value->H} {w:World} {base:Nat} {spare:Nat->Bool} {held:Bool}
theorem k5_part:Tryz.prog.cellsOf 75=3:=by kernel_rfl
theorem k5_parts:Tryz.prog.cellsOf 39=1:=by kernel_rfl
theorem k5_deed:Tryz.prog.cellsOf 52=7:=by kernel_rfl
theorem k5_lawsl:Tryz.prog.cellsOf 22=1:=by kernel_rfl
theorem k5_deedsl:Tryz.prog.cellsOf 23=1:=by kernel_rfl
theorem k5_rights:Tryz.prog.cellsOf 25=2:=by kernel_rfl
theorem rpart_len (x:RPart):x.cells.length=3:=rfl
theorem open_part (n:Nat) (cs:List Value) (x:DataW H×List MemPlace) (h:DataW.trod enc Tryz.prog w base spare held n 75 cs=some x): ∃s:RPart,cs=s.cells:=by
 obtain⟨xs,m,_,ex,ag,bv,hf⟩:=DataW.trod_struct Tryz.underlying75 h;rw[show Tryz.prog.cellsOf 75=3 by kernel_rfl]at ag;match cs,ag with
 | [v0,v1,v2],_=>
   have g: ∀i,i<2-> ∃y,xs[i]?=some y:=fun i hi=>⟨_,List.getElem?_eq_getElem Mdw⟩
   obtain⟨y0,e0⟩:=g 0 Mcp;have h0:DataW.trod enc Tryz.prog w base spare held m 9 (List.take (Tryz.prog.cellsOf 9) (List.drop 0 [v0,v1,v2]))=some y0:=(hf 0 _ rfl).trans e0;rw[zh3]at h0;obtain⟨q0,c0,d0,_⟩:=DataW.trod_string Tryz.underlying9 h0;simp only[List.drop_succ_cons,List.drop_zero,List.take_succ_cons,List.take_zero,List.cons.injEq,and_true]at c0;obtain⟨y1,e1⟩:=g 1 Mcp;have h1:DataW.trod enc Tryz.prog w base spare held m 71 (List.take (Tryz.prog.cellsOf 71) (List.drop 1 [v0,v1,v2]))=some y1:=(hf 1 _ rfl).trans e1;rw[znp]at h1;obtain⟨q1,r1,c1⟩:=ziU _ _ _ h1;simp only[List.drop_succ_cons,List.drop_zero,List.take_succ_cons,List.take_zero,List.cons.injEq,and_true]at c1;subst c0;obtain⟨cx1,cy1⟩:=c1;subst cx1 cy1;exact⟨⟨q0,q1,r1⟩,rfl⟩
theorem open_deed (n:Nat) (cs:List Value) (x:DataW H×List MemPlace) (h:DataW.trod enc Tryz.prog w base spare held n 52 cs=some x): ∃d:Deed,zfc w d cs:=by
 obtain⟨xs,m,_,ex,ag,bv,hf⟩:=DataW.trod_struct Tryz.underlying52 h;rw[show Tryz.prog.cellsOf 52=7 by kernel_rfl]at ag;match cs,ag with
 | [v0,v1,v2,v3,v4,v5,v6],_=>
   have g: ∀i,i<7-> ∃y,xs[i]?=some y:=fun i hi=>⟨_,List.getElem?_eq_getElem Mdw⟩
   obtain⟨y0,e0⟩:=g 0 Mcp;have h0:DataW.trod enc Tryz.prog w base spare held m 3 (List.take (Tryz.prog.cellsOf 3) (List.drop 0 [v0,v1,v2,v3,v4,v5,v6]))=some y0:=(hf 0 _ rfl).trans e0;rw[zgI]at h0;obtain⟨q0,c0,d0,_⟩:=DataW.trod_int Tryz.underlying3 h0;simp only[List.drop_succ_cons,List.drop_zero,List.take_succ_cons,List.take_zero,List.cons.injEq,and_true]at c0;obtain⟨y1,e1⟩:=g 1 Mcp;have h1:DataW.trod enc Tryz.prog w base spare held m 3 (List.take (Tryz.prog.cellsOf 3) (List.drop 1 [v0,v1,v2,v3,v4,v5,v6]))=some y1:=(hf 1 _ rfl).trans e1;rw[zgI]at h1;obtain⟨q1,c1,d1,_⟩:=DataW.trod_int Tryz.underlying3 h1;simp only[List.drop_succ_cons,List.drop_zero,List.take_succ_cons,List.take_zero,List.cons.injEq,and_true]at c1;obtain⟨y2,e2⟩:=g 2 Mcp;have h2:DataW.trod enc Tryz.prog w base spare held m 9 (List.take (Tryz.prog.cellsOf 9) (List.drop 2 [v0,v1,v2,v3,v4,v5,v6]))=some y2:=(hf 2 _ rfl).trans e2;rw[zh3]at h2;obtain⟨q2,c2,d2,_⟩:=DataW.trod_string Tryz.underlying9 h2;simp only[List.drop_succ_cons,List.drop_zero,List.take_succ_cons,List.take_zero,List.cons.injEq,and_true]at c2;obtain⟨y3,e3⟩:=g 3 Mcp;have h3:DataW.trod enc Tryz.prog w base spare held m 9 (List.take (Tryz.prog.cellsOf 9) (List.drop 3 [v0,v1,v2,v3,v4,v5,v6]))=some y3:=(hf 3 _ rfl).trans e3;rw[zh3]at h3;obtain⟨q3,c3,d3,_⟩:=DataW.trod_string Tryz.underlying9 h3;simp only[List.drop_succ_cons,List.drop_zero,List.take_succ_cons,List.take_zero,List.cons.injEq,and_true]at c3;obtain⟨y4,e4⟩:=g 4 Mcp
   have h4:DataW.trod enc Tryz.prog w base spare held m 39 (List.take (Tryz.prog.cellsOf 39) (List.drop 4 [v0,v1,v2,v3,v4,v5,v6]))=some y4:=(hf 4 _ rfl).trans e4;rw[k5_parts]at h4;obtain⟨B4,n4,cap4,q4,c4,Gg,hS4,iO,_⟩:=zj4 (f:=RPart.cells) (size:=3) Mcp rpart_len Tryz.underlying39 k5_part open_part h4;simp only[List.drop_succ_cons,List.drop_zero,List.take_succ_cons,List.take_zero,List.cons.injEq,and_true]at c4;obtain⟨y5,e5⟩:=g 5 Mcp;have h5:DataW.trod enc Tryz.prog w base spare held m 3 (List.take (Tryz.prog.cellsOf 3) (List.drop 5 [v0,v1,v2,v3,v4,v5,v6]))=some y5:=(hf 5 _ rfl).trans e5;rw[zgI]at h5;obtain⟨q5,c5,d5,_⟩:=DataW.trod_int Tryz.underlying3 h5;simp only[List.drop_succ_cons,List.drop_zero,List.take_succ_cons,List.take_zero,List.cons.injEq,and_true]at c5;obtain⟨y6,e6⟩:=g 6 Mcp;have h6:DataW.trod enc Tryz.prog w base spare held m 3 (List.take (Tryz.prog.cellsOf 3) (List.drop 6 [v0,v1,v2,v3,v4,v5,v6]))=some y6:=(hf 6 _ rfl).trans e6;rw[zgI]at h6;obtain⟨q6,c6,d6,_⟩:=DataW.trod_int Tryz.underlying3 h6;simp only[List.drop_succ_cons,List.drop_zero,List.take_succ_cons,List.take_zero,List.cons.injEq,and_true]at c6;subst c0;subst c1;subst c2;subst c3;subst c4;subst c5;subst c6;subst Gg;exact⟨⟨q0,q1,q2,q3,q4,q5,q6⟩,B4,cap4,iO,rfl,hS4⟩
theorem deedR_len {W:World}: ∀(d:Deed) (cs:List Value),zfc W d cs->cs.length=7:=by
 rintro d cs ⟨B,c,_,rfl,_⟩;rfl
theorem zns {v:Value} {d:DataW H} {p:List MemPlace} {r:Reach} {b0:Nat} (hv:Value.okWide Tryz.prog w r b0 25 v) (h:DataW.Trod enc Tryz.prog w base spare held 25 v d p):
 ∃(ls:List Law) (ds:List Deed) (A:Option Addr) (nc:Nat) (B:Option Addr) (mc:Nat),v= .agg #[.slice A ls.length nc, .slice B ds.length mc]/\RightsIn w ls ds A ls.length nc B ds.length mc:=by
 obtain⟨cs,rfl,hsz⟩:=okWide_struct Tryz.underlying25 hv;obtain⟨l⟩:=cs;rw[k5_rights]at hsz;match l,hsz with
 | [v0,v1],_=>
   obtain⟨fuel,pC⟩:=h;obtain⟨xs,m,_,_,_,bv,hf⟩:=DataW.trod_struct Tryz.underlying25 pC;have g: ∀i,i<2-> ∃y,xs[i]?=some y:=fun i hi=>⟨_,List.getElem?_eq_getElem Mdw⟩
   obtain⟨y0,e0⟩:=g 0 Mcp;obtain⟨y1,e1⟩:=g 1 Mcp;have h0:DataW.trod enc Tryz.prog w base spare held m 22 (List.take (Tryz.prog.cellsOf 22) (List.drop 0 [v0,v1]))=some y0:=(hf 0 _ rfl).trans e0;have h1:DataW.trod enc Tryz.prog w base spare held m 23 (List.take (Tryz.prog.cellsOf 23) (List.drop 1 [v0,v1]))=some y1:=(hf 1 _ rfl).trans e1;rw[k5_lawsl]at h0;rw[k5_deedsl]at h1;obtain⟨A,n,nc,ls,ea,hn,hS,hc,_⟩:=zj4 (f:=Law.cells) (size:=4) Mcp (fun x=>rfl) Tryz.underlying22 k5_laws open_law h0;obtain⟨B,k,mc,ds,er,hk,hD,su,_⟩:=znr (R:=zfc) (size:=7) Mcp deedR_len Tryz.underlying23 k5_deed open_deed h1;simp at ea er;subst ea er hn hk;exact⟨ls,ds,A,nc,B,mc,rfl,rfl,rfl,hc,su,hS,hD⟩
theorem ziX:Tryz.prog.cellsOf 80=2:=by kernel_rfl
theorem open_spot {v:Value} {d:DataW H} {p:List MemPlace} {r:Reach} {b0:Nat} (hv:Value.okWide Tryz.prog w r b0 80 v) (h:DataW.Trod enc Tryz.prog w base spare held 80 v d p):
 ∃(q0:ByteArray) (q1:Int),v= .agg #[.string q0, .int .i64 q1]/\q0.size<=maxLen:=by
 obtain⟨cs,rfl,hsz⟩:=okWide_struct Tryz.underlying80 hv;obtain⟨l⟩:=cs;rw[ziX]at hsz;match l,hsz with
 | [v0,v1],_=>
   obtain⟨fuel,pC⟩:=h;obtain⟨xs,m,_,_,_,bv,hf⟩:=DataW.trod_struct Tryz.underlying80 pC;have g: ∀i,i<2-> ∃y,xs[i]?=some y:=fun i hi=>⟨_,List.getElem?_eq_getElem Mdw⟩
   obtain⟨y0,e0⟩:=g 0 Mcp;have h0:DataW.trod enc Tryz.prog w base spare held m 9 (List.take (Tryz.prog.cellsOf 9) (List.drop 0 [v0,v1]))=some y0:=(hf 0 _ rfl).trans e0;rw[zh3]at h0;obtain⟨q0,c0,d0,z0⟩:=DataW.trod_string Tryz.underlying9 h0;simp only[List.drop_succ_cons,List.drop_zero,List.take_succ_cons,List.take_zero,List.cons.injEq,and_true]at c0;obtain⟨y1,e1⟩:=g 1 Mcp;have h1:DataW.trod enc Tryz.prog w base spare held m 3 (List.take (Tryz.prog.cellsOf 3) (List.drop 1 [v0,v1]))=some y1:=(hf 1 _ rfl).trans e1;rw[zgI]at h1;obtain⟨q1,c1,d1,_⟩:=DataW.trod_int Tryz.underlying3 h1;simp only[List.drop_succ_cons,List.drop_zero,List.take_succ_cons,List.take_zero,List.cons.injEq,and_true]at c1;subst c0;subst c1;exact⟨q0,q1,rfl,z0⟩
theorem ziY:Tryz.prog.cellsOf 73=6:=by kernel_rfl
theorem open_gift {v:Value} {d:DataW H} {p:List MemPlace} {r:Reach} {b0:Nat} (hv:Value.okWide Tryz.prog w r b0 73 v) (h:DataW.Trod enc Tryz.prog w base spare held 73 v d p):
 ∃(q0:ByteArray) (q1:ByteArray) (q2:ByteArray) (q3:Int) (q4 r4:Int),v= .agg #[.string q0, .string q1, .string q2, .int .i64 q3, .int .i64 q4, .int .i64 r4]/\q0.size<=maxLen/\q1.size<=maxLen/\q2.size<=maxLen:=by
 obtain⟨cs,rfl,hsz⟩:=okWide_struct Tryz.underlying73 hv;obtain⟨l⟩:=cs;rw[ziY]at hsz;match l,hsz with
 | [v0,v1,v2,v3,v4,v5],_=>
   obtain⟨fuel,pC⟩:=h;obtain⟨xs,m,_,_,_,bv,hf⟩:=DataW.trod_struct Tryz.underlying73 pC;have g: ∀i,i<5-> ∃y,xs[i]?=some y:=fun i hi=>⟨_,List.getElem?_eq_getElem Mdw⟩
   obtain⟨y0,e0⟩:=g 0 Mcp;have h0:DataW.trod enc Tryz.prog w base spare held m 9 (List.take (Tryz.prog.cellsOf 9) (List.drop 0 [v0,v1,v2,v3,v4,v5]))=some y0:=(hf 0 _ rfl).trans e0;rw[zh3]at h0;obtain⟨q0,c0,d0,z0⟩:=DataW.trod_string Tryz.underlying9 h0;simp only[List.drop_succ_cons,List.drop_zero,List.take_succ_cons,List.take_zero,List.cons.injEq,and_true]at c0;obtain⟨y1,e1⟩:=g 1 Mcp;have h1:DataW.trod enc Tryz.prog w base spare held m 9 (List.take (Tryz.prog.cellsOf 9) (List.drop 1 [v0,v1,v2,v3,v4,v5]))=some y1:=(hf 1 _ rfl).trans e1;rw[zh3]at h1;obtain⟨q1,c1,d1,z1⟩:=DataW.trod_string Tryz.underlying9 h1;simp only[List.drop_succ_cons,List.drop_zero,List.take_succ_cons,List.take_zero,List.cons.injEq,and_true]at c1;obtain⟨y2,e2⟩:=g 2 Mcp;have h2:DataW.trod enc Tryz.prog w base spare held m 9 (List.take (Tryz.prog.cellsOf 9) (List.drop 2 [v0,v1,v2,v3,v4,v5]))=some y2:=(hf 2 _ rfl).trans e2;rw[zh3]at h2;obtain⟨q2,c2,d2,z2⟩:=DataW.trod_string Tryz.underlying9 h2;simp only[List.drop_succ_cons,List.drop_zero,List.take_succ_cons,List.take_zero,List.cons.injEq,and_true]at c2;obtain⟨y3,e3⟩:=g 3 Mcp;have h3:DataW.trod enc Tryz.prog w base spare held m 3 (List.take (Tryz.prog.cellsOf 3) (List.drop 3 [v0,v1,v2,v3,v4,v5]))=some y3:=(hf 3 _ rfl).trans e3;rw[zgI]at h3;obtain⟨q3,c3,d3,_⟩:=DataW.trod_int Tryz.underlying3 h3;simp only[List.drop_succ_cons,List.drop_zero,List.take_succ_cons,List.take_zero,List.cons.injEq,and_true]at c3;obtain⟨y4,e4⟩:=g 4 Mcp
   have h4:DataW.trod enc Tryz.prog w base spare held m 71 (List.take (Tryz.prog.cellsOf 71) (List.drop 4 [v0,v1,v2,v3,v4,v5]))=some y4:=(hf 4 _ rfl).trans e4;rw[znp]at h4;obtain⟨q4,r4,c4⟩:=ziU _ _ _ h4;simp only[List.drop_succ_cons,List.drop_zero,List.take_succ_cons,List.take_zero,List.cons.injEq,and_true]at c4;subst c0;subst c1;subst c2;subst c3;obtain⟨cx4,cy4⟩:=c4;subst cx4 cy4;exact⟨q0,q1,q2,q3,q4,r4,rfl,z0,z1,z2⟩
end
end Go.Proofs.YtjhbofabmpfniaaGreatDoor
namespace Go.Proofs.YtjhbofabmpfniaaGreatDoor
open Go.RowKit Go.Shelf
attribute [local go_sem] World.cell?_alloc_mark zae za3 zam za6 zas zat zau zav zaw zax zay
attribute [local go_sem] zaj zac
theorem zmk {d:Deed} (h1:inR d.kind 0 8=true) (h2:inR d.years 0 99=true):zfx d=zfS d:=
 zoX (zf6.1 h1) (zf6.1 h2).1
theorem zfR (d:Deed) (B:Option Addr) (c:Nat) (w:World) (hl:zc8 d) (hS:Sl w 3 RPart.cells B d.to):Calls Tryz.prog 61 #[d.v B c] w (Ret w (.int .i64 (za5 d))):=by
 obtain⟨R,hR⟩: ∃R,R=za5 d:=⟨_,rfl⟩
 rw[<-hR];have zV:=zmk (d:=d);have ox:=fun W (hl:d.to.length<=1000) (h:Below w.heap.size w W)=>znk d B c W hl (hS.keep h)
 obtain⟨kd,dy,pl,fr,ts,cl,yr⟩:=d;obtain⟨l1,l2,eJ,aa⟩:=hl;have HS:=zHi hS;unfold za5 at hR;unfold Deed.v at ox⊢;simp only at hR l1 l2 eJ aa hS zV ox;have HR:=zHi hR;have mX:=zHi zV;have nP:=zHi ox;have eE:=zHi eJ;clear hR hS zV ox eJ;go_enter Tryz.func61,Tryz.ntmps61
 go_upto_region 1 with fail
 generalize ao:w.alloc _=W0;obtain⟨g0,aJ⟩:=boxed ao;obtain⟨d0,d1,d2,d3,d4,d5,d6⟩:=zaG g0;have l0:=zab g0;have ak:=zHi aJ;clear ao aJ;cases hJ:inR kd 0 8
 ·have HE:Hid (R=15):=by show _=_;rw[HR.o];simp[hJ]
  exact Ms
 go_upto_region 3 with(first
                        |(go_at_call 79;go_must(refine(zcy _ _ _ _).mono ?_);rintro e wq ⟨rfl,rfl⟩;(first|rw[hJ]|rw[mj]|rw[hy9]))
                        |(go_at_call 66;go_must(refine(zcM _ _).mono ?_);rintro e wq ⟨rfl,rfl⟩;rw[jX])
                        |(go_at_call 28;go_must(refine(zcL _ _ McY).mono ?_);rintro e wq ⟨rfl,rfl⟩;(first|rw[cZ]|rw[gN]|rw[nF])))
 cases jX:zbk dy
 ·have HE:Hid (R=2):=by show _=_;rw[HR.o];simp[hJ,jX]
  exact Ms
 cases mj:inR cl 0 4
 ·have HE:Hid (R=2):=by show _=_;rw[HR.o];simp[hJ,jX,mj]
  exact Ms
 cases hy9:inR yr 0 99
 ·have HE:Hid (R=2):=by show _=_;rw[HR.o];simp[hJ,jX,mj,hy9]
  exact Ms
 go_upto_region 5 with(first
                        |(go_at_call 79;go_must(refine(zcy _ _ _ _).mono ?_);rintro e wq ⟨rfl,rfl⟩;(first|rw[hJ]|rw[mj]|rw[hy9]))
                        |(go_at_call 66;go_must(refine(zcM _ _).mono ?_);rintro e wq ⟨rfl,rfl⟩;rw[jX])
                        |(go_at_call 28;go_must(refine(zcL _ _ McY).mono ?_);rintro e wq ⟨rfl,rfl⟩;(first|rw[cZ]|rw[gN]|rw[nF])))
 by_cases h8:8<ts.length
 ·have h9:(8:Int)<(ts.length:Int):=Mcn;have HE:Hid (R=8):=by show _=_;rw[HR.o];simp[hJ,jX,mj,hy9,h8]
  exact Ms
 have h9: ¬(8:Int)<(ts.length:Int):=Mcn;have tV:R=if !zbx pl||!zbx fr||!ts.all (fun p=>zaR p.name)then 4 else if !zfS ⟨kd,dy,pl,fr,ts,cl,yr⟩then 3 else 0:=by rw[HR.o];simp[hJ,jX,mj,hy9,h8]
 rw[<-mX.o hJ hy9]at tV;have br:=zHi tV;clear tV mX HR;go_upto_region 7 with fail
 go_cut [47]from 28 to 47 (fun v wc=>v= .bool (!zbx pl||!zbx fr)/\W0=wc)
 case first=>
  cases z1:noB pl
  ·have w1: ¬pl.toList=[]:=by simpa using(show pl.toList.isEmpty=false from z1)
   cases jZ:zaR pl
   ·have cZ:zcA pl=false:=by rw[<-zdv,jZ]
    exact Mr
   ·have cZ:zcA pl=true:=by rw[<-zdv,jZ]
    cases z2:noB fr
    ·exact Mb4
    ·exact Mcg
  ·have w1:pl.toList=[]:=by simpa using(show pl.toList.isEmpty=true from z1)
   cases z2:noB fr
   ·exact Mb4
   ·exact Mcg
 case rest=>
  obtain⟨rfl,rfl⟩:=hcut;cases Ak:(!zbx pl||!zbx fr)
  ·have xR:R=if !ts.all (fun p=>zaR p.name)then 4 else if !zfx ⟨kd,dy,pl,fr,ts,cl,yr⟩then 3 else 0:=by rw[br.o,Ak,Bool.false_or]
   have qq:=zHi (fun W h=>nP.o W Mcn h);generalize zfx ⟨kd,dy,pl,fr,ts,cl,yr⟩=fo at*;have lP:=zHi xR;clear xR br nP;go_upto_region 10 with fail
   go_loopw [3] (fun i wr=> ∃k:Nat,k<=ts.length/\i= .int .i64 k/\W0=wr/\Hid (R=if !(ts.drop k).all (fun p=>zaR p.name)then 4 else if !fo then 3 else 0)) (fun i _=>ts.length-(intOf i).toNat)
   case atStart=>exact⟨0,Nat.zero_le _,rfl,rfl,by rw[List.drop_zero];exact lP.o⟩
   case round=>
    obtain⟨k,hk,rfl,rfl,HX⟩:=hrel;by_cases aa:k<ts.length
    ·obtain⟨b,off,rfl,hb,ah⟩:=(HS.o.keep ak.o).at aa;have hx:=HX.o;rw[List.drop_eq_getElem_cons aa,List.all_cons]at hx;have hsz:=eE.o _ (List.getElem_mem aa);have av:=zHi hx;have am:=zHi aa;generalize ts[k]=x at*;obtain⟨nm,nu,de⟩:=x;have i0:W0.cell? ⟨b,off+k*3,none⟩=some (.string nm):=ah 0 _ rfl;have ar:(k:Int)<(ts.length:Int):=Mcn;have aT:(0:Int)<=(k:Int):=Mcn;simp only at hsz;clear ah hx aa;cases hp3:zaR nm
     ·have nF:zcA nm=false:=Mej;have HE:Hid (R=4):=by show _=_;rw[av.o];simp[hp3]
      exact Ms
     ·have nF:zcA nm=true:=Mej;have HE:Hid (R=if !(ts.drop (k+1)).all (fun p=>zaR p.name)then 4 else if !fo then 3 else 0):=by show _=_;rw[av.o,hp3,Bool.true_and]
      go_wp2_with (first
                    |(go_at_call 79;go_must(refine(zcy _ _ _ _).mono ?_);rintro e wq ⟨rfl,rfl⟩;(first|rw[hJ]|rw[mj]|rw[hy9]))
                    |(go_at_call 66;go_must(refine(zcM _ _).mono ?_);rintro e wq ⟨rfl,rfl⟩;rw[jX])
                    |(go_at_call 28;go_must(refine(zcL _ _ McY).mono ?_);rintro e wq ⟨rfl,rfl⟩;(first|rw[cZ]|rw[gN]|rw[nF])))
      exact MI
    ·have ar: ¬(k:Int)<(ts.length:Int):=Mcn;have HE:Hid (R=if !fo then 3 else 0):=by show _=_;rw[HX.o,List.drop_of_length_le Mcn];rfl
     cases fo
     ·exact MaF
     ·exact MaF
  ·have HE:Hid (R=4):=by show _=_;rw[br.o,Ak];rfl
   exact Ms
end Go.Proofs.YtjhbofabmpfniaaGreatDoor
