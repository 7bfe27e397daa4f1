/- Records that come in as data, with the lengths of their texts. -/
import Derived.Test.YtkhkhnellekofaaGreatDoorDM
import Derived.Test.YtkhkhnellekofaaGreatDoorUX
set_option linter.unusedSimpArgs false
set_option linter.unusedVariables false
namespace Go.Proofs.YtkhkhnellekofaaGreatDoor
open Go.ChangeShapes Go.WideShapes Go.ChangeAt Go.RowKit Go.Deep Go.Shelf
abbrev RecX:Type:= {r:Rec // r.name.size<=maxLen/\r.other.size<=maxLen/\r.place.size<=maxLen}
section
variable {H:Type} {enc:TypeId×Value->H} {w:World} {base:Nat} {spare:Nat->Bool} {held:Bool}
set_option maxRecDepth 100000 in
theorem open_recX (n:Nat) (cs:List Value) (x:DataW H×List MemPlace) (h:DataW.trod enc Tryz.prog w base spare held n 65 cs=some x): ∃s:RecX,cs=s.1.cells:=by
 obtain⟨xs,m,_,ex,hlen,hxl,hf⟩:=DataW.trod_struct Tryz.underlying65 h
 rw[show Tryz.prog.cellsOf 65=8 by kernel_rfl]at hlen
 match cs,hlen with
 | [v0,v1,v2,v3,v4,v5,v6,v7],_=>
   have g: ∀i,i<7-> ∃y,xs[i]?=some y:=fun i hi=>⟨_,List.getElem?_eq_getElem (by rw[hxl];exact hi)⟩
   obtain⟨y0,e0⟩:=g 0 (by decide)
   have h0:DataW.trod enc Tryz.prog w base spare held m 3 (List.take (Tryz.prog.cellsOf 3) (List.drop 0 [v0,v1,v2,v3,v4,v5,v6,v7]))=some y0:=(hf 0 _ rfl).trans e0
   rw[k5_int]at h0
   obtain⟨q0,c0,d0,_⟩:=DataW.trod_int Tryz.underlying3 h0
   simp only[List.drop_succ_cons,List.drop_zero,List.take_succ_cons,List.take_zero,List.cons.injEq,and_true]at c0
   obtain⟨y1,e1⟩:=g 1 (by decide)
   have h1:DataW.trod enc Tryz.prog w base spare held m 9 (List.take (Tryz.prog.cellsOf 9) (List.drop 1 [v0,v1,v2,v3,v4,v5,v6,v7]))=some y1:=(hf 1 _ rfl).trans e1
   rw[k5_str]at h1
   obtain⟨q1,c1,d1,z1⟩:=DataW.trod_string Tryz.underlying9 h1
   simp only[List.drop_succ_cons,List.drop_zero,List.take_succ_cons,List.take_zero,List.cons.injEq,and_true]at c1
   obtain⟨y2,e2⟩:=g 2 (by decide)
   have h2:DataW.trod enc Tryz.prog w base spare held m 9 (List.take (Tryz.prog.cellsOf 9) (List.drop 2 [v0,v1,v2,v3,v4,v5,v6,v7]))=some y2:=(hf 2 _ rfl).trans e2
   rw[k5_str]at h2
   obtain⟨q2,c2,d2,z2⟩:=DataW.trod_string Tryz.underlying9 h2
   simp only[List.drop_succ_cons,List.drop_zero,List.take_succ_cons,List.take_zero,List.cons.injEq,and_true]at c2
   obtain⟨y3,e3⟩:=g 3 (by decide)
   have h3:DataW.trod enc Tryz.prog w base spare held m 9 (List.take (Tryz.prog.cellsOf 9) (List.drop 3 [v0,v1,v2,v3,v4,v5,v6,v7]))=some y3:=(hf 3 _ rfl).trans e3
   rw[k5_str]at h3
   obtain⟨q3,c3,d3,z3⟩:=DataW.trod_string Tryz.underlying9 h3
   simp only[List.drop_succ_cons,List.drop_zero,List.take_succ_cons,List.take_zero,List.cons.injEq,and_true]at c3
   obtain⟨y4,e4⟩:=g 4 (by decide)
   have h4:DataW.trod enc Tryz.prog w base spare held m 3 (List.take (Tryz.prog.cellsOf 3) (List.drop 4 [v0,v1,v2,v3,v4,v5,v6,v7]))=some y4:=(hf 4 _ rfl).trans e4
   rw[k5_int]at h4
   obtain⟨q4,c4,d4,_⟩:=DataW.trod_int Tryz.underlying3 h4
   simp only[List.drop_succ_cons,List.drop_zero,List.take_succ_cons,List.take_zero,List.cons.injEq,and_true]at c4
   obtain⟨y5,e5⟩:=g 5 (by decide)
   have h5:DataW.trod enc Tryz.prog w base spare held m 3 (List.take (Tryz.prog.cellsOf 3) (List.drop 5 [v0,v1,v2,v3,v4,v5,v6,v7]))=some y5:=(hf 5 _ rfl).trans e5
   rw[k5_int]at h5
   obtain⟨q5,c5,d5,_⟩:=DataW.trod_int Tryz.underlying3 h5
   simp only[List.drop_succ_cons,List.drop_zero,List.take_succ_cons,List.take_zero,List.cons.injEq,and_true]at c5
   obtain⟨y6,e6⟩:=g 6 (by decide)
   have h6:DataW.trod enc Tryz.prog w base spare held m 39 (List.take (Tryz.prog.cellsOf 39) (List.drop 6 [v0,v1,v2,v3,v4,v5,v6,v7]))=some y6:=(hf 6 _ rfl).trans e6
   rw[k5_frac]at h6
   obtain⟨q6,r6,c6⟩:=open_frac _ _ _ h6
   simp only[List.drop_succ_cons,List.drop_zero,List.take_succ_cons,List.take_zero,List.cons.injEq,and_true]at c6
   subst c0
   subst c1
   subst c2
   subst c3
   subst c4
   subst c5
   obtain⟨cx6,cy6⟩:=c6
   subst cx6 cy6
   exact⟨⟨⟨q0,q1,q2,q3,q4,q5,q6,r6⟩,z1,z2,z3⟩,rfl⟩
set_option maxRecDepth 100000 in
theorem open_recsX {v:Value} {d:DataW H} {p:List MemPlace} {r:Reach} {b0:Nat} (hv:Value.okWide Tryz.prog w r b0 22 v) (h:DataW.Trod enc Tryz.prog w base spare held 22 v d p):
 ∃(es:List Rec) (E:Option Addr) (ec:Nat),v= .slice E es.length ec/\Sl w 8 Rec.cells E es/\es.length<=ec/\recLensX es:=by
 obtain⟨a,len,cap,rfl⟩:=okWide_slice Tryz.underlying22 hv
 obtain⟨fuel,hf⟩:=h
 obtain⟨E,n,c,es,ea,hn,hS,hc,_⟩:=sl_of_trod (f:=fun s:RecX=>s.1.cells) (size:=8) (by decide) (fun s=>recC_len s.1) Tryz.underlying22 k5_recs open_recX hf
 simp[Value.cells]at ea
 obtain⟨rfl,rfl,rfl⟩:=ea
 subst hn
 refine⟨es.map (·.1),_,_,by rw[List.length_map],fun hl=> ?_,by rw[List.length_map];exact hc,fun x hx=> ?_⟩
 ·obtain⟨b,off,hA,hb,hcc⟩:=hS (by simpa using hl)
  refine⟨b,off,hA,hb,fun k x hk j u hu=> ?_⟩
  rw[List.getElem?_map]at hk
  obtain⟨y,hy,rfl⟩:=Option.map_eq_some_iff.1 hk
  exact hcc k y hy j u hu
 ·obtain⟨y,_,rfl⟩:=List.mem_map.1 hx
  exact y.2
end
end Go.Proofs.YtkhkhnellekofaaGreatDoor
