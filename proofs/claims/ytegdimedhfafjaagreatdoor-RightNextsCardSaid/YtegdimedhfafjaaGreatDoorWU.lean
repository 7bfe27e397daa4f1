import Derived.Test.YtegdimedhfafjaaGreatDoorDR
set_option linter.all false
set_option maxRecDepth 100000
set_option maxHeartbeats 4000000
namespace Go.Proofs.YtegdimedhfafjaaGreatDoor
open Go.RowKit Go.Shelf
attribute [local go_sem] World.cell?_alloc_mark zaf za5 zao za8 zav zaw zax zay zaz za0 za1
attribute [local go_sem] zaq zad
noncomputable def nextE (laws:List Law) (ds:List Deed) (d:Deed):Int:=
 if(zcR laws ds 200000).2.2 != 0 then(zcR laws ds 200000).2.2 else if za3 d != 0 then za3 d else(zdz laws (zcR laws ds 200000).1 ds.length (zeJ ds) d).2
theorem stop_laws{laws:List Law}{ds:List Deed}{u:Int}(h:(zcR laws ds u).2.2=0):zaA laws=0:=by
 unfold zcR at h;split at h
 ·rename_i h1
  simp only at h;exact absurd h McP
 ·rename_i h1
  simpa using h1
def zmu(w:World)(laws:List Law)(ds:List Deed)(d:Deed)(E:Int)(e:Ending)(w':World):Prop:=
 Below w.heap.size w w'/\((E≠0/\e=.returned (.tuple #[.agg #[.slice none 0 0,.slice none 0 0],.int .i64 E]))\/
  (E=0/\∃A nc B mc,e=.returned (.tuple #[.agg #[.slice A laws.length nc,.slice B (ds.length+1) mc],.int .i64 0])/\RightsIn w' laws (ds++[d]) A laws.length nc B (ds.length+1) mc))
theorem zp2{fn:Func}{p q:Tmp}{a:TypeId}(h:fn.results= #[.cell p a,.tmp q])(tmps:Array Value)(P:Program)(w:World):
 (results fn tmps).run P w=((asAddr (tmps.getD p undef)).run P w).andThen fun x w₁=>((loadVar a x).run P w₁).andThen fun v w₂=> .ok (.tuple #[v,tmps.getD q undef]) w₂:=by
 exact Mbp
theorem zfI{fn:Func}{p q:Tmp}(h:fn.results= #[.cell p 25,.tmp q])(tmps:Array Value)(w:World)(B:Nat)(x0 x1 y:Value)(hp:tmps.getD p undef=.pointer (some ⟨B,0,none⟩))(hq:tmps.getD q undef=y)
 (hx:w.heap[B]?=some (.cells #[x0,x1] 25)):(results fn tmps).run Tryz.prog w=.ok (.tuple #[.agg #[x0,x1],y]) w:=by
 obtain⟨h0,h1⟩:=cF2 hx;clear hx;rw[zp2 h,hp,hq];go_simp
theorem zjd{w:World}{g:Nat}{z0 z1 a b:Value}{t:TypeId}{fr:Nat×Nat}(h:w.heap[g]?=some (.cells #[z0,z1] t fr)):
 ((w.setCell ⟨g,0,none⟩ a).setCell ⟨g,1,none⟩ b).heap[g]?=some (.cells #[a,b] t fr):=by
 exact MbK
theorem zn3{w:World}{b o k:Nat}{v:Value}(ai:k≠b)(hk:k<w.heap.size):(w.setCell ⟨b,o,none⟩ v).heap[k]?=w.heap[k]?:=by
 have h:w.heap[k]?=some w.heap[k]:=Array.getElem?_eq_getElem hk;rw[J_ne ai h,h]
theorem next5_any(laws:List Law)(ds:List Deed)(d:Deed)(LA:Option Addr)(n nc:Nat)(DA:Option Addr)(m mc:Nat)(B:Option Addr)(c:Nat)(w:World)(hR:RightsIn w laws ds LA n nc DA m mc)(hF:FormsIn w)(hL:LensIn w)(hO:∀x∈ds,zdt x)(hl:laws.length<=100000)(bA:ds.length<=100000)
 (hd:zdt d)(ar:d.to.length<=c)(hS:Sl w 3 RPart.cells B d.to):
 Calls Tryz.prog 7 #[.agg #[.slice LA n nc,.slice DA m mc],d.v B c] w (zmu w laws ds d (nextE laws ds d)):=by
 have oX:=fun W (hB:Below w.heap.size w W)=>znr laws ds 200000 LA n nc DA m mc W (hR.keep hB) (hF.keep hB) (hL.keep hB) hO rfl
 obtain⟨rfl,rfl,uf,kS,eC,gy⟩:=hR;have jR:=fun W (hB:Below w.heap.size w W)=>zeg d B c W (hF.keep hB) hd ar (hS.keep hB)
 rw[zeH]at jR;have dR:=fun(base b:Nat) (s:St) (last:Int) W (hB:Below w.heap.size w W) (hW:WldAt base W b s last (ds.length:Int)) (hG:GoodSt s last) (ov:FewS ds.length s) (hk:OkD d) (aY:zaA laws=0)=>
  zkH base b s ds.length last laws LA nc d B c W hW hG ov hk aY (hL.keep hB) (eC.keep hB) ar (hS.keep hB)
 have hE:nextE laws ds d=_:=rfl;have tZ:za3 d=0->OkD d:=zdN;have aj:(zcR laws ds 200000).2.2=0->zaA laws=0:=stop_laws;unfold nextE at hE⊢;clear hE;generalize za3 d=ce at*;generalize zcR laws ds 200000=R at*;obtain⟨S0,n0,er⟩:=R;simp only at aj⊢;obtain⟨iP,dD,dU,cJ,cM,HS,HO⟩:=yH7 oX jR dR gy eC hS hO;unfold Deed.v at dU;unfold Deed.v;clear oX jR dR gy eC hS hF hL hO;go_enter Tryz.func7,Tryz.ntmps7
 go_upto_region 1 with fail
 obtain⟨W1,aI⟩:∃W1,W1=((w.alloc (.cells #[.slice LA laws.length nc,.slice DA ds.length mc] 25)).alloc (.cells #[.int .i64 d.kind,.int .i64 d.day,.string d.place,.string d.frm,.slice B d.to.length c,.int .i64 d.cls,.int .i64 d.years] 28)).alloc (.cells #[.slice none 0 0,.slice none 0 0] 25):=⟨_,rfl⟩
 have b0:W1.heap[w.heap.size]?=some (.cells #[.slice LA laws.length nc,.slice DA ds.length mc] 25):=by rw[aI];exact zak (zak (zas _ _ _ rfl))
 have d0:W1.heap[w.heap.size+1]?=some (.cells #[.int .i64 d.kind,.int .i64 d.day,.string d.place,.string d.frm,.slice B d.to.length c,.int .i64 d.cls,.int .i64 d.years] 28):=by rw[aI];exact zak (zas _ _ _ Mcp)
 have r0:W1.heap[w.heap.size+2]?=some (.cells #[.slice none 0 0,.slice none 0 0] 25):=by rw[aI];exact zas _ _ _ Mcp
 have bE:Below w.heap.size w W1:=Mdz;rw[<-aI];have aB:=zHi bE;clear aI bE;have l2:=zab r0;obtain⟨c0,c1⟩:=cF2 b0
 go_upto_region 2 with(go_at_call 20
                       go_must(refine(iP.o _ (aB.o.trans (Below.mono (B:=W1.heap.size) Bw aB.o.size))).mono ?_)
                       rintro e w2 ⟨base,wb,la,co,rfl,h1,h2,h3,h4⟩)
 obtain⟨HW,H4⟩:=yH2 h2 h4;have dq:=aB.o.size;have bx:Below w.heap.size w w2:=aB.o.trans (h3.mono dq);have k0:=(h3.block _ Mcm).trans b0;have k1:=(h3.block _ Mcm).trans d0;have k2:=(h3.block _ l2).trans r0;have aA:=zHi bx;have aE:=bx.size;clear h2 h3 h4 b0 d0 r0 c0 c1 iP aB bx;obtain⟨t0,t1⟩:=cF2 k2;have f0:∀j,w2.frozen? ⟨w.heap.size+2,j,none⟩=false:=fun j=>by simp[World.frozen?,k2]
 by_cases h0:er=0
 ·subst h0;have e0:zaA laws=0:=aj rfl;obtain⟨Ai,Av,hG,ov,oh⟩:=H4.o rfl;subst Ai Av;rw[if_neg Mcp];clear aj H4;obtain⟨g0,g1,g2,g3,g4,g5,g6⟩:=cF7 k1;by_cases hce:ce=0
  ·have mL:=tZ hce;subst hce;have gu:=zHi (fun W (hB:Below w2.heap.size w2 W)=>dU.o base wb S0 (zeJ ds) W (aA.o.trans (hB.mono aE)) (HW.o.keep hB) hG ov mL e0);have AD:=fun h=>zkJ (laws:=laws) (s:=S0) (k:=ds.length) (last:=zeJ ds) (d:=d) h mL hG ov e0
   generalize zdz laws S0 ds.length (zeJ ds) d=x at*;obtain⟨s',e2⟩:=x;rw[if_neg Mcp];simp only at AD⊢;obtain c0:=cF1 k0;clear dU tZ hG ov HW
   go_upto_region 7 with(go_at_call 21;go_must(refine(dD.o _ (aA.o.trans (Below.mono (B:=w2.heap.size) Bw aE))).mono ?_);go_loud(rintro e wq ⟨rfl,z,hz⟩)
                         have be:Below w2.heap.size w2 wq:=by rw[hz];exact Bw
                         have q0:wq.heap[w.heap.size]?=some (.cells #[.slice LA laws.length nc,.slice DA ds.length mc] 25):=by rw[hz];exact zbv k0
                         have q1:wq.heap[w.heap.size+1]?=some (.cells #[.int .i64 d.kind,.int .i64 d.day,.string d.place,.string d.frm,.slice B d.to.length c,.int .i64 d.cls,.int .i64 d.years] 28):=by rw[hz];exact zbv k1
                         have q2:wq.heap[w.heap.size+2]?=some (.cells #[.slice none 0 0,.slice none 0 0] 25):=by rw[hz];exact zbv k2
                         clear hz)
   have Kp:=be.size;have l0:=zab q2;have HQ:=zHi be;clear t0 t1 f0 c0 g0 g1 g2 g3 g4 g5 g6 k0 k1 k2 be dD;obtain c0:=cF1 q0;obtain⟨g0,g1,g2,g3,g4,g5,g6⟩:=cF7 q1;go_upto_region 8 with(go_at_call 22;go_must(refine(gu.o _ HQ.o).mono ?_);go_loud(rintro e w3 ⟨rfl,y1,y2⟩))
   have aL:=zHi ((aA.o.trans (HQ.o.mono aE)).trans (y2.mono Mcm));have fT:=aL.o.size;have k0:=(y2.block w.heap.size Mcm).trans q0;have k1:=(y2.block (w.heap.size+1) Mcm).trans q1;have k2:=(y2.block (w.heap.size+2) Mcm).trans q2;clear y1 y2 c0 g0 g1 g2 g3 g4 g5 g6 q0 q1 q2 HQ gu aA;obtain⟨t0,t1⟩:=cF2 k2;have f0:∀j,w3.frozen? ⟨w.heap.size+2,j,none⟩=false:=fun j=>by simp[World.frozen?,k2]
   by_cases mu:e2=0
   ·subst mu;obtain c0:=cF1 k0;have bZ:=zHi (zlB laws LA laws.length nc w3 rfl hl (cM.o.keep aL.o))
    go_upto_region 11 with(go_at_call 23;go_must(refine bZ.o.mono ?_);go_loud(rintro e w4 ⟨v4,rfl,o4,aD⟩)
                           obtain⟨A4,c4,rfl,iS,s4⟩:=o4.ro
                           clear o4)
    have yw:=aD.size;have l2:=zab k2;obtain⟨OB,gW⟩:∃OB,OB=w4.heap.size:=⟨_,rfl⟩
    obtain⟨W5,wG⟩:∃W5,W5=w4.alloc (.cells #[.slice A4 laws.length c4,.slice none 0 0] 25):=⟨_,rfl⟩
    have o5:W5.heap[OB]?=some (.cells #[.slice A4 laws.length c4,.slice none 0 0] 25):=by rw[wG];exact zas _ _ _ gW
    have io:Below w3.heap.size w3 W5:=by rw[wG];exact zac aD _
    obtain⟨S5,I5,bl⟩:=yH3 (show Ro W5 72 Law.cells A4 laws from by rw[wG];exact s4.keep (n:=w4.heap.size) (zac (Below.refl _ _) _)) iS (aL.o.trans (io.mono fT));have iH:=io.size;have m0:=(io.block _ Mcm).trans k0;have m1:=(io.block _ Mcm).trans k1;have m2:=(io.block _ Mcm).trans k2;have hob:w3.heap.size<=OB:=Mcm;rw[<-wG,<-gW];clear wG io s4 iS aD bZ c0 t0 t1 f0 k0 k1 k2 gW yw;obtain⟨xs,mW,Hp,bu⟩:=dv_of cJ.o;have bs:xs.length=ds.length:=by rw[<-mW,List.length_map]
    have nP:∀y∈xs++[(⟨d,B,c⟩:DV)],y.d.to.length<=100000/\y.d.to.length<=y.c/\Sl w 3 RPart.cells y.B y.d.to:=fun y hy=>by
     rcases List.mem_append.1 hy with hy|hy
     ·exact⟨(HO.o y.d (by rw[<-mW];exact List.mem_map_of_mem hy)).2.2.2,Hp y hy⟩
     ·obtain rfl:=List.mem_singleton.1 hy;exact⟨hd.2.2.2,ar,HS.o⟩
    have qu:=zHi (fun W (h:Below W5.heap.size W5 W)=>zk5 xs DA ds.length mc W bs.symm Mcm (bu.keep (bl.o.trans (h.mono bl.o.size))));have Eh:(xs++[(⟨d,B,c⟩:DV)]).map (·.d)=ds++[d]:=by rw[List.map_append,mW];rfl
    have pg:(xs++[(⟨d,B,c⟩:DV)]).length=ds.length+1:=by rw[List.length_append,bs];rfl
    have eZ:Hid (xs.length<=100000):=by show _<=_;omega
    obtain⟨zs,cZ⟩:∃zs,zs=xs++[(⟨d,B,c⟩:DV)]:=⟨_,rfl⟩
    rw[<-cZ]at nP Eh pg;obtain⟨tI,Jh,pG,Jf⟩:=yH4 cZ Eh pg nP;have AE:w.heap.size+2<W5.heap.size:=Mcm;have Ja:=zHi AE
    have ax:=zHi (fun(w':World) (h:Below W5.heap.size W5 w')=>(show w'.cell? ⟨w.heap.size,1,none⟩=some (.slice DA ds.length mc)/\w'.cell? ⟨w.heap.size+1,0,none⟩=some (.int .i64 d.kind)/\w'.cell? ⟨w.heap.size+1,1,none⟩=some (.int .i64 d.day)/\w'.cell? ⟨w.heap.size+1,2,none⟩=some (.string d.place)/\w'.cell? ⟨w.heap.size+1,3,none⟩=some (.string d.frm)/\w'.cell? ⟨w.heap.size+1,4,none⟩=some (.slice B d.to.length c)/\w'.cell? ⟨w.heap.size+1,5,none⟩=some (.int .i64 d.cls)/\w'.cell? ⟨w.heap.size+1,6,none⟩=some (.int .i64 d.years) from by
     have hx:=h.block w.heap.size Mcm;have hy:=h.block (w.heap.size+1) Mcm;rw[m0]at hx;rw[m1]at hy
     refine⟨?_,?_,?_,?_,?_,?_,?_,?_⟩<;>(simp only[World.cell?,hx,hy];rfl)))
    have wf:=zab o5;have yQ:w.heap.size+2<OB:=Mcm;clear nP Eh pg cZ mW Hp bu bs cJ HO m0 m1 fT iH l2;go_cut [48,49,50]from 43 to 50 (fun v48 v49 v50 wc=>∃VA vc,v48=.slice VA zs.length vc/\v49=.int .i64 (zs.length:Int)/\v50=.int .i64 0/\Hid (Ro wc 28 DV.cells VA zs)/\Below W5.heap.size W5 wc/\zs.length<=vc)
    case first=>
     refine zaB 5 (fun bb w'=>bb=true\/(w'.cell? ⟨w.heap.size,1,none⟩=some (.slice DA ds.length mc)/\w'.cell? ⟨w.heap.size+1,0,none⟩=some (.int .i64 d.kind)/\w'.cell? ⟨w.heap.size+1,1,none⟩=some (.int .i64 d.day)/\w'.cell? ⟨w.heap.size+1,2,none⟩=some (.string d.place)/\w'.cell? ⟨w.heap.size+1,3,none⟩=some (.string d.frm)/\w'.cell? ⟨w.heap.size+1,4,none⟩=some (.slice B d.to.length c)/\w'.cell? ⟨w.heap.size+1,5,none⟩=some (.int .i64 d.cls)/\w'.cell? ⟨w.heap.size+1,6,none⟩=some (.int .i64 d.years))) Mcn (.inr (ax.o _ (zaH (Below.refl _ _)))) ?hrest
     case hrest=>
      intro hHeld;refine TkM 0 ?_;refine TkM 1 ?_;refine TkM 3 ?_;refine FrM 7 false ?_;refine TwM 2 4 (fun K hK=>?_) fun K hK=>?_
      ·go_simp
       refine(qu.o _ (zaH (Below.refl _ _))).mono ?_;rintro e w6 ⟨v6,rfl,o6,aG⟩;have wN:Below W5.heap.size W5 w6:=(zaH (Below.refl _ _):Below W5.heap.size W5 W5.drew).trans aG;obtain⟨A6,c6,rfl,_,_⟩:=o6.sl zbn;refine NxM hK (fun hHeld=>?_) (.inr (ax.o _ wN));clear hK K;refine OnM 4 false fun K hK=>?_
       go_simp
       have aR:Below W5.heap.size W5 (w6.alloc (.cells #[.int .i64 d.kind,.int .i64 d.day,.string d.place,.string d.frm,.slice B d.to.length c,.int .i64 d.cls,.int .i64 d.years] 28)):=zac wN _;have n7:(w6.alloc (.cells #[.int .i64 d.kind,.int .i64 d.day,.string d.place,.string d.frm,.slice B d.to.length c,.int .i64 d.cls,.int .i64 d.years] 28)).heap[w6.heap.size]?=some (.cells #[.int .i64 d.kind,.int .i64 d.day,.string d.place,.string d.frm,.slice B d.to.length c,.int .i64 d.cls,.int .i64 d.years] 28):=zas _ _ _ rfl;have o7:OwnS (w6.alloc (.cells #[.int .i64 d.kind,.int .i64 d.day,.string d.place,.string d.frm,.slice B d.to.length c,.int .i64 d.cls,.int .i64 d.years] 28)) W5.drew.heap.size 28 7 DV.cells (.slice A6 xs.length c6) xs:=o6.keep (n:=w6.heap.size) (zac (Below.refl _ _) _);exact MG
      ·go_simp
       have n6:(W5.drew.alloc (.cells #[.int .i64 d.kind,.int .i64 d.day,.string d.place,.string d.frm,.slice B d.to.length c,.int .i64 d.cls,.int .i64 d.years] 28)).heap[W5.heap.size]?=some (.cells #[.int .i64 d.kind,.int .i64 d.day,.string d.place,.string d.frm,.slice B d.to.length c,.int .i64 d.cls,.int .i64 d.years] 28):=zas _ _ _ rfl;have aG:Below W5.heap.size W5 (W5.drew.alloc (.cells #[.int .i64 d.kind,.int .i64 d.day,.string d.place,.string d.frm,.slice B d.to.length c,.int .i64 d.cls,.int .i64 d.years] 28)):=zac (zaH (Below.refl _ _)) _;refine NxM hK (fun hHeld=>?_) (.inr (ax.o _ aG));clear hK K;refine OnM 2 false fun K hK=>?_
       go_simp
       refine(qu.o _ aG).mono ?_;rintro e w7 ⟨v6,rfl,o7,fj⟩;replace o7:=o7.base_le (show W5.heap.size<=(W5.drew.alloc (.cells #[.int .i64 d.kind,.int .i64 d.day,.string d.place,.string d.frm,.slice B d.to.length c,.int .i64 d.cls,.int .i64 d.years] 28)).heap.size by simp);have aR:Below W5.heap.size W5 w7:=aG.trans (fj.mono Mcp);have n7:w7.heap[W5.heap.size]?=some (.cells #[.int .i64 d.kind,.int .i64 d.day,.string d.place,.string d.frm,.slice B d.to.length c,.int .i64 d.cls,.int .i64 d.years] 28):=(fj.block _ Mcp).trans n6;obtain⟨A6,c6,rfl,_,_⟩:=o7.sl zbn;exact MG
    case rest=>
     obtain⟨VA,vc,rfl,rfl,rfl,oa,iR,jV⟩:=hcut;obtain⟨NB,Cu⟩:∃NB,NB=wc.heap.size:=⟨_,rfl⟩
     have JL:OB<NB:=by have:=iR.size;omega
     have GK:=(iR.block OB wf).trans o5;obtain⟨IU,AS,Hy⟩:=yH3 (S5.o.keep iR) (bl.o.trans (iR.mono bl.o.size)) iR;have r2:=(iR.block (w.heap.size+2) Ja.o).trans m2
     have ES:=zHi (fun(α:Type) (e:TypeId) (f:α->List Value) (A:Option Addr) (es:List α) (wr:World) (h:Ro wc e f A es) (ai:e≠25) (hf:∀j,j<NB->j≠OB->wr.heap[j]?=wc.heap[j]?)=>(show Ro wr e f A es from h.same fun b cur fr hb _=>hf b (by rw[Cu];exact zab hb) (fun e'=>by
      subst e';rw[GK]at hb;simp only[Option.some.injEq,Obj.cells.injEq]at hb
      exact ai hb.2.1.symm)))
     obtain⟨BB,bD,iQ⟩:=yH3 Cu r2 yQ;clear iR bl S5 o5 m2 Cu r2 qu ax wf yQ;go_upto_region 12 with fail
     go_loopw [50] (fun i wr=>∃(k:Nat) (ys:List DV) (v:Value),k<=zs.length/\i=.int .i64 k/\Hid (ys.map (·.d)=(zs.map (·.d)).take k)/\Hid (∀y∈ys,y.d.to.length<=y.c/\Ro wr 62 RPart.cells y.B y.d.to)/\OwnS wr NB 28 7 DV.cells v ys/\wr.heap[OB]?=some (.cells #[.slice A4 laws.length c4,v] 25)/\Hid (Below OB wc wr/\NB<=wr.heap.size/\∀j,j<NB->j≠OB->wr.heap[j]?=wc.heap[j]?)) (fun i _=>zs.length-(intOf i).toNat)
     case atStart=>exact⟨0,[],.slice none 0 0,Nat.zero_le _,rfl,zHi Mcp,zHi Mcp,OwnS.nil,GK,zHi ⟨Below.refl _ _,by rw[BB.o];exact Nat.le_refl _,fun _ _ _=>rfl⟩⟩
     case round=>
      obtain⟨k,ys,v,hk,rfl,HM,HP,ae,ho,iM⟩:=hrel;have iZ:=zab ho;obtain⟨VY,vy,rfl,_,sZ⟩:=ae.sl zbn;have pe:ys.length=k:=by
       have:=congrArg List.length HM.o;simp at this;omega
      have ki:=zHi pe;have i8:k<=100001:=by have:=pG.o;omega
      obtain⟨dH,BE,J8⟩:=yH3 ae ho sZ;have qm:w.heap.size<wr.heap.size:=by have:=iM.o.2.1;have:=iQ.o;omega
      have aW:Hid (Below w.heap.size w wr):=AS.o.trans (iM.o.1.mono (by have:=iQ.o;omega));by_cases aa:k<zs.length
      ·obtain⟨b,off,hA,hb,ah⟩:=((ES.o _ _ _ _ _ _ oa.o Mco iM.o.2.2).sl zbn).at aa;have nP:=Jf.o _ (List.getElem_mem aa);have dR:(zs.map (·.d)).take (k+1)=(zs.map (·.d)).take k++[zs[k].d]:=by rw[List.take_add_one,List.getElem?_map,List.getElem?_eq_getElem aa];rfl
       obtain⟨dU,am⟩:=yH2 dR aa;generalize zs[k]=x at*;have i0:=ah 0 _ rfl;have i1:=ah 1 _ rfl;have i2:=ah 2 _ rfl;have i3:=ah 3 _ rfl;have i4:=ah 4 _ rfl;have i5:=ah 5 _ rfl;have i6:=ah 6 _ rfl;simp only[Nat.add_zero]at i0;have au:(k:Int)<(zs.length:Int):=Mcm;have aP:(0:Int)<=(k:Int):=Mcm;obtain⟨-,p1⟩:=cF2 ho;subst hA;have pE:=zHi nP;clear ah nP dR ae sZ pe ho aa;go_upto_region 14 with fail
       obtain⟨WZ,fg⟩:∃WZ,WZ=wr.alloc (.cells #[.int .i64 x.d.kind,.int .i64 x.d.day,.string x.d.place,.string x.d.frm,.slice (x.B) x.d.to.length (x.c),.int .i64 x.d.cls,.int .i64 x.d.years] 28):=⟨_,rfl⟩
       have z0:WZ.heap[wr.heap.size]?=some (.cells #[.int .i64 x.d.kind,.int .i64 x.d.day,.string x.d.place,.string x.d.frm,.slice (x.B) x.d.to.length (x.c),.int .i64 x.d.cls,.int .i64 x.d.years] 28):=by rw[fg];exact zas _ _ _ rfl
       have eP:Below wr.heap.size wr WZ:=by rw[fg];exact Bw
       rw[<-fg];have fA:=zHi eP;have cZ:=eP.size;have q1:WZ.cell? ⟨OB,1,none⟩=some (.slice VY ys.length vy):=(zah eP iZ).trans p1;have Lk:OB<WZ.heap.size:=Mcm;have AC:wr.heap.size<WZ.heap.size:=zab z0
       have qX:=zHi (fun(w':World) (h:Below WZ.heap.size WZ w')=>(show w'.cell? ⟨OB,1,none⟩=some (.slice VY ys.length vy)/\w'.cell? ⟨wr.heap.size,0,none⟩=some (.int .i64 x.d.kind)/\w'.cell? ⟨wr.heap.size,1,none⟩=some (.int .i64 x.d.day)/\w'.cell? ⟨wr.heap.size,2,none⟩=some (.string x.d.place)/\w'.cell? ⟨wr.heap.size,3,none⟩=some (.string x.d.frm)/\w'.cell? ⟨wr.heap.size,4,none⟩=some (.slice x.B x.d.to.length x.c)/\w'.cell? ⟨wr.heap.size,5,none⟩=some (.int .i64 x.d.cls)/\w'.cell? ⟨wr.heap.size,6,none⟩=some (.int .i64 x.d.years) from by
        have hx:=h.block wr.heap.size AC;rw[z0]at hx
        refine⟨(zah h Lk).trans q1,?_,?_,?_,?_,?_,?_,?_⟩<;>(simp only[World.cell?,hx];rfl)))
       have fB:=zHi (fun W' (h:Below WZ.heap.size WZ W')=>zns x.d x.B x.c W' pE.o.1 (pE.o.2.2.keep (aW.o.trans ((eP.trans (h.mono cZ)).mono (Nat.le_of_lt qm)))));unfold Deed.v at fB;clear fg eP z0 q1 p1 i0 i1 i2 i3 i4 i5 i6;refine zaB 5 (fun bb w'=>bb=true\/(w'.cell? ⟨OB,1,none⟩=some (.slice VY ys.length vy)/\w'.cell? ⟨wr.heap.size,0,none⟩=some (.int .i64 x.d.kind)/\w'.cell? ⟨wr.heap.size,1,none⟩=some (.int .i64 x.d.day)/\w'.cell? ⟨wr.heap.size,2,none⟩=some (.string x.d.place)/\w'.cell? ⟨wr.heap.size,3,none⟩=some (.string x.d.frm)/\w'.cell? ⟨wr.heap.size,4,none⟩=some (.slice x.B x.d.to.length x.c)/\w'.cell? ⟨wr.heap.size,5,none⟩=some (.int .i64 x.d.cls)/\w'.cell? ⟨wr.heap.size,6,none⟩=some (.int .i64 x.d.years))) Mcn (.inr (qX.o _ (zaH (Below.refl _ _)))) ?hrest
       case hrest=>
        intro hHeld;refine TkM 0 ?_;refine TkM 1 ?_;refine TkM 2 ?_;refine OnM 3 false fun K hK=>?_
        go_simp
        refine(fB.o _ (zaH (Below.refl _ _))).mono ?_;rintro e w5 ⟨B5,c5,rfl,mi,ro5,aq⟩;unfold Deed.v;have cG:Below WZ.heap.size WZ w5:=(zaH (Below.refl _ _):Below WZ.heap.size WZ WZ.drew).trans aq;refine NxM hK (fun hHeld=>?_) (.inr (qX.o _ cG));clear hK K;refine OnM 4 false fun K hK=>?_
        go_simp
        have aG:Below WZ.heap.size WZ (w5.alloc (.cells #[.int .i64 x.d.kind,.int .i64 x.d.day,.string x.d.place,.string x.d.frm,.slice (B5) x.d.to.length (c5),.int .i64 x.d.cls,.int .i64 x.d.years] 28)):=zac cG _;have n6:(w5.alloc (.cells #[.int .i64 x.d.kind,.int .i64 x.d.day,.string x.d.place,.string x.d.frm,.slice (B5) x.d.to.length (c5),.int .i64 x.d.cls,.int .i64 x.d.years] 28)).heap[w5.heap.size]?=some (.cells #[.int .i64 x.d.kind,.int .i64 x.d.day,.string x.d.place,.string x.d.frm,.slice (B5) x.d.to.length (c5),.int .i64 x.d.cls,.int .i64 x.d.years] 28):=zas _ _ _ rfl;have ro6:Ro (w5.alloc (.cells #[.int .i64 x.d.kind,.int .i64 x.d.day,.string x.d.place,.string x.d.frm,.slice (B5) x.d.to.length (c5),.int .i64 x.d.cls,.int .i64 x.d.years] 28)) 62 RPart.cells B5 x.d.to:=ro5.keep (n:=w5.heap.size) (zac (Below.refl _ _) _);refine NxM hK (fun hHeld=>?_) (.inr (qX.o _ aG));clear hK K;refine OnM 5 true fun K hK=>?_
        generalize w5.alloc (.cells #[.int .i64 x.d.kind,.int .i64 x.d.day,.string x.d.place,.string x.d.frm,.slice (B5) x.d.to.length (c5),.int .i64 x.d.cls,.int .i64 x.d.years] 28)=W6 at*;have iu:Below wr.heap.size wr W6:=fA.o.trans (aG.mono cZ);have ow6:=dH.o.keep iu;refine zal (v:=.slice VY ys.length vy) (n:=ys.length) (m:=1) rfl _ _ rfl zex zbn zew rfl (xs:=ys) (ys:=[⟨x.d,B5,c5⟩]) ow6 rfl rfl rfl (zey zbn n6 Mew) (by have:=ki.o;have:=pG.o;simp only[maxLen];omega) (by have:=ki.o;have:=pG.o;omega) (by have:=iu.size;have:=iM.o.2.1;omega) ?_;intro v7 w7 h1 h2 h3;obtain⟨A7,c7,ja,_,_⟩:=h1.sl zbn;rw[List.length_append]at ja;subst ja;have xU:∀j,j<NB->za7 (.slice VY ys.length vy)≠some j:=fun j hj e=>by have:=(ow6.ge _ e).1;omega
        have ol:=iu.size;have o7:w7.heap[OB]?=some (.cells #[.slice A4 laws.length c4,.slice VY ys.length vy] 25):=(h2.block OB Mcm (fun e=>xU OB JL e.symm)).trans ((iu.block OB iZ).trans BE.o);have ro7:Ro w7 62 RPart.cells B5 x.d.to:=zf8 ro6 ow6 h2 Mco;have rs7:∀y∈ys,y.d.to.length<=y.c/\Ro w7 62 RPart.cells y.B y.d.to:=fun y hy=>⟨(HP.o y hy).1,zf8 ((HP.o y hy).2.keep iu) ow6 h2 Mco⟩
        have Dm:=iM.o;have aR:Below OB wc w7:=Below.grown (Dm.1.trans (iu.mono Mcm)) h2 Mcm (fun j hj=>by have:=(ow6.ge _ hj).1;omega);have KD:∀j,j<NB->j≠OB->w7.heap[j]?=wc.heap[j]?:=fun j hj As=>(h2.block j Mcm (fun e=>xU j hj e.symm)).trans ((iu.block j Mcm).trans (Dm.2.2 j hj As))
        have vJ:NB<=w7.heap.size:=by have:=h2.size;omega
        have f7:w7.frozen? ⟨OB,1,none⟩=false:=by simp[World.frozen?,o7]
        obtain⟨-,t7⟩:=cF2 o7;refine NxM hK fun hHeld=>?_
        clear hK K;refine OnM 6 true fun K hK=>?_
        go_simp
        refine NxM hK fun hHeld=>?_
        clear hK K;refine OnM 7 true fun K hK=>?_
        go_simp
        refine NxM hK fun hHeld=>?_
        clear hK K;refine zaI Mcn ?_ _;clear hHeld;have H1:=zHi h1;clear Dm h1 h2 h3 ol iu aG cG aq ow6;go_wp2_with fail
        go_round
        case rel=>
         refine⟨k+1,ys++[⟨x.d,B5,c5⟩],_,am.o,by go_num,zHi (by rw[List.map_append,HM.o,dU.o];rfl),zHi (fun y hy=>?_),H1.o.grown (zar _ _ _ _) (.inr fun e=>by have:=(H1.o.ge _ e).1;omega),?_,zHi ⟨zaL aR (Nat.le_refl _) _,by simpa using vJ,fun j hj As=>(zn3 As (Nat.lt_of_lt_of_le hj vJ)).trans (KD j hj As)⟩⟩
         ·exact Mam
         ·have:=Joins.block_setCell (i:=1) o7 (.slice A7 (ys.length+[(⟨x.d,B5,c5⟩:DV)].length) c7);simpa using this
        case measure=>have:=am.o;simp only[intOf];omega
      ·have au:¬(k:Int)<(zs.length:Int):=Mcm;have ug:ys.map (·.d)=ds++[d]:=by rw[HM.o,List.take_of_length_le Mcr,Jh.o]
       have bQ:ys.length=ds.length+1:=by have:=pG.o;omega
       obtain⟨-,p1⟩:=cF2 ho;obtain p0:=cF1 ho;have r3:=(iM.o.2.2 (w.heap.size+2) (by have:=iQ.o;omega) (by have:=iQ.o;omega)).trans bD.o;obtain⟨t0,t1⟩:=cF2 r3;have f0:∀j,wr.frozen? ⟨w.heap.size+2,j,none⟩=false:=fun j=>by simp[World.frozen?,r3]
       rw[bQ]at p1 sZ;obtain⟨Bt,jM,BW⟩:=yH3 ug bQ sZ;clear ug bQ ae aa pe ho sZ J8;go_wp2_with fail
       refine bodyPost_ret (v:=.tuple #[.agg #[.slice A4 laws.length c4,.slice VY (ds.length+1) vy],.int .i64 0]) ?_ rfl ?_
       ·exact zfI rfl _ _ (w.heap.size+2) _ _ _ rfl rfl (zjd r3)
       ·have rr:=Joins.block_setCell (i:=0) r3 (.slice A4 laws.length c4);have jC:∀ {α:Type} {e:TypeId} {f:α->List Value} {A:Option Addr} {es:List α},e≠25->Ro wr e f A es->Ro ((wr.setCell ⟨w.heap.size+2,0,none⟩ (.slice A4 laws.length c4)).setCell ⟨w.heap.size+2,1,none⟩ (.slice VY (ds.length+1) vy)) e f A es:=fun ai h=>
         (h.kept (zar _ _ _ _) r3 (fun e=>ai e.symm)).kept (zar _ _ _ _) rr (fun e=>ai e.symm)
        obtain⟨VY',vy',he,_,AA⟩:=dH.o.ro;obtain⟨rfl,_,rfl⟩:VY=VY'/\ys.length=ys.length/\vy=vy':=by simpa using he
        refine⟨zaL (zaL aW.o Mcr _) Mcr _,.inr ⟨rfl,A4,c4,VY,vy,rfl,⟨rfl,by simp,I5.o,BW.o,?_,?_⟩⟩⟩
        ·exact(jC Mco (ES.o _ _ _ _ _ _ IU.o Mco iM.o.2.2)).sl (fun _=>rfl)
        ·exact znY ((jC Mco AA).sl zbn) Bt.o fun y hy=>⟨(HP.o y hy).1,(jC Mco (HP.o y hy).2).sl zfm⟩
   ·have ai:(e2 != 0)=true:=by simpa using mu
    go_wp2_with fail
    refine bodyPost_ret (v:=.tuple #[.agg #[.slice none 0 0,.slice none 0 0],.int .i64 e2]) ?_ rfl ?_
    ·exact zfI rfl _ _ (w.heap.size+2) _ _ _ rfl rfl (zjd k2)
    ·exact⟨zaL (zaL aL.o Mcr _) Mcr _,.inl ⟨mu,rfl⟩⟩
  ·have ai:(ce != 0)=true:=MdS;rw[if_pos ai];clear dU cJ cM HS HW hG ov tZ
   go_wp2_with (go_at_call 21;go_must(refine(dD.o _ (aA.o.trans (Below.mono (B:=w2.heap.size) Bw aE))).mono ?_);go_loud(rintro e wq ⟨rfl,z,hz⟩)
                have q2:wq.heap[w.heap.size+2]?=some (.cells #[.slice none 0 0,.slice none 0 0] 25):=by rw[hz];exact zbv k2
                have be:Below w2.heap.size w2 wq:=by rw[hz];exact Bw
                obtain⟨t0,t1⟩:=cF2 q2;have f0:∀j,wq.frozen? ⟨w.heap.size+2,j,none⟩=false:=fun j=>by simp[World.frozen?,q2]
                clear hz)
   refine bodyPost_ret (v:=.tuple #[.agg #[.slice none 0 0,.slice none 0 0],.int .i64 ce]) ?_ rfl ?_
   ·exact zfI rfl _ _ (w.heap.size+2) _ _ _ rfl rfl (zjd q2)
   ·exact⟨zaL (zaL (aA.o.trans (be.mono aE)) Mcr _) Mcr _,.inl ⟨hce,rfl⟩⟩
 ·have ai:(er != 0)=true:=Mdg;rw[if_pos ai];clear dD dU cJ cM HS HW H4;go_wp2_with fail
  refine bodyPost_ret (v:=.tuple #[.agg #[.slice none 0 0,.slice none 0 0],.int .i64 er]) ?_ rfl ?_
  ·exact zfI rfl _ _ (w.heap.size+2) _ _ _ rfl rfl (zjd k2)
  ·exact⟨zaL (zaL aA.o Mcr _) Mcr _,.inl ⟨h0,rfl⟩⟩
