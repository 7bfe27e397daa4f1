import Derived.Test.YthhgkjfgpkbliaaGreatDoorOW
set_option linter.all false
set_option maxRecDepth 100000
set_option maxHeartbeats 4000000
namespace Go.Proofs.YthhgkjfgpkbliaaGreatDoor
open Go.RowKit Go.Shelf
attribute [local go_sem] World.cell?_alloc_mark zae zav zai zaw zam zan zao zap zaq zar zas
attribute [local go_sem] zah zac
noncomputable def zfW (laws:List Law) (ds:List Deed) (d:Deed):Int:=
 if(zch laws ds 200000).2.2 != 0 then(zch laws ds 200000).2.2 else if za8 d != 0 then za8 d else(zcH laws (zch laws ds 200000).1 ds.length (ze7 ds) d).2
theorem stop_laws{laws:List Law}{ds:List Deed}{u:Int}(h:(zch laws ds u).2.2=0):za7 laws=0:=by
 unfold zch at h;split at h
 ·rename_i h1
  simp only at h;exact absurd h Mb7
 ·rename_i h1
  simpa using h1
def zkh(w:World)(laws:List Law)(ds:List Deed)(d:Deed)(E:Int)(e:Ending)(w':World):Prop:=
 Below w.heap.size w w'/\((E≠0/\e=.returned (.tuple #[.agg #[.slice none 0 0,.slice none 0 0],.int .i64 E]))\/
  (E=0/\∃A nc B mc,e=.returned (.tuple #[.agg #[.slice A laws.length nc,.slice B (ds.length+1) mc],.int .i64 0])/\RightsIn w' laws (ds++[d]) A laws.length nc B (ds.length+1) mc))
theorem zmN{fn:Func}{p q:Tmp}{a:TypeId}(h:fn.results= #[.cell p a,.tmp q])(tmps:Array Value)(P:Program)(w:World):
 (results fn tmps).run P w=((asAddr (tmps.getD p undef)).run P w).andThen fun x w₁=>((loadVar a x).run P w₁).andThen fun v w₂=> .ok (.tuple #[v,tmps.getD q undef]) w₂:=by
 simp only[results,h];simp[Sem.run_bind,Result.andThen]
theorem ze5{fn:Func}{p q:Tmp}(h:fn.results= #[.cell p 25,.tmp q])(tmps:Array Value)(w:World)(B:Nat)(x0 x1 y:Value)(hp:tmps.getD p undef=.pointer (some ⟨B,0,none⟩))(hq:tmps.getD q undef=y)
 (hx:w.heap[B]?=some (.cells #[x0,x1] 25)):(results fn tmps).run Tryz.prog w=.ok (.tuple #[.agg #[x0,x1],y]) w:=by
 obtain⟨h0,h1⟩:=cF2 hx;clear hx;rw[zmN h,hp,hq];go_simp
theorem zh7{w:World}{g:Nat}{z0 z1 a b:Value}{t:TypeId}{fr:Nat×Nat}(h:w.heap[g]?=some (.cells #[z0,z1] t fr)):
 ((w.setCell ⟨g,0,none⟩ a).setCell ⟨g,1,none⟩ b).heap[g]?=some (.cells #[a,b] t fr):=by
 exact Ma7
theorem zli{w:World}{b o k:Nat}{v:Value}(ag:k≠b)(hk:k<w.heap.size):(w.setCell ⟨b,o,none⟩ v).heap[k]?=w.heap[k]?:=by
 have h:w.heap[k]?=some w.heap[k]:=Array.getElem?_eq_getElem hk;rw[J_ne ag h,h]
theorem zki(laws:List Law)(ds:List Deed)(d:Deed)(LA:Option Addr)(n nc:Nat)(DA:Option Addr)(m mc:Nat)(B:Option Addr)(c:Nat)(w:World)(hR:RightsIn w laws ds LA n nc DA m mc)(hF:FormsIn w)(hL:LensIn w)(hO:∀x∈ds,zdi x)(hl:laws.length<=100000)(aZ:ds.length<=100000)
 (hd:zdi d)(aj:d.to.length<=c)(hS:Sl w 3 RPart.cells B d.to):
 Calls Tryz.prog 10 #[.agg #[.slice LA n nc,.slice DA m mc],d.v B c] w (zkh w laws ds d (zfW laws ds d)):=by
 have jT:=fun W (hB:Below w.heap.size w W)=>zlg laws ds 200000 LA n nc DA m mc W (hR.keep hB) (hF.keep hB) (hL.keep hB) hO rfl
 obtain⟨rfl,rfl,sZ,qg,dg,i8⟩:=hR;have im:=fun W (hB:Below w.heap.size w W)=>zdw d B c W (hF.keep hB) hd aj (hS.keep hB)
 rw[zdR]at im;have aD:=fun(base b:Nat) (s:St) (last:Int) W (hB:Below w.heap.size w W) (hW:WldAt base W b s last (ds.length:Int)) (hG:GoodSt s last) (jv:FewS ds.length s) (hk:OkD d) (aG:za7 laws=0)=>
  ziX base b s ds.length last laws LA nc d B c W hW hG jv hk aG (hL.keep hB) (dg.keep hB) aj (hS.keep hB)
 have hE:zfW laws ds d=_:=rfl;have iW:za8 d=0->OkD d:=zdv;have am:(zch laws ds 200000).2.2=0->za7 laws=0:=stop_laws;unfold zfW at hE⊢;clear hE;generalize za8 d=ce at*;generalize zch laws ds 200000=R at*;obtain⟨S0,n0,er⟩:=R;simp only at am⊢;obtain⟨lD,dX,cR,fN,bM,HS,HO⟩:=yH7 jT im aD i8 dg hS hO;unfold Deed.v at cR;unfold Deed.v;clear jT im aD i8 dg hS hF hL hO;go_enter Tryz.func10,Tryz.ntmps10
 go_upto_region 1 with fail
 obtain⟨W1,aV⟩:∃W1,W1=((w.alloc (.cells #[.slice LA laws.length nc,.slice DA ds.length mc] 25)).alloc (.cells #[.int .i64 d.kind,.int .i64 d.day,.string d.place,.string d.frm,.slice B d.to.length c,.int .i64 d.cls,.int .i64 d.years] 28)).alloc (.cells #[.slice none 0 0,.slice none 0 0] 25):=⟨_,rfl⟩
 have b0:W1.heap[w.heap.size]?=some (.cells #[.slice LA laws.length nc,.slice DA ds.length mc] 25):=by rw[aV];exact zal (zal (za3 _ _ _ rfl))
 have d0:W1.heap[w.heap.size+1]?=some (.cells #[.int .i64 d.kind,.int .i64 d.day,.string d.place,.string d.frm,.slice B d.to.length c,.int .i64 d.cls,.int .i64 d.years] 28):=by rw[aV];exact zal (za3 _ _ _ MbF)
 have r0:W1.heap[w.heap.size+2]?=some (.cells #[.slice none 0 0,.slice none 0 0] 25):=by rw[aV];exact za3 _ _ _ MbF
 have bo:Below w.heap.size w W1:=Mcz;rw[<-aV];have bl:=zHi bo;clear aV bo;have l2:=zad r0;obtain⟨c0,c1⟩:=cF2 b0
 go_upto_region 2 with(go_at_call 36
                       go_must(refine(lD.o _ (bl.o.trans (Below.mono (B:=W1.heap.size) Bw bl.o.size))).mono ?_)
                       rintro e w2 ⟨base,wb,la,co,rfl,h1,h2,h3,h4⟩)
 obtain⟨HW,H4⟩:=yH2 h2 h4;have eG:=bl.o.size;have bs:Below w.heap.size w w2:=bl.o.trans (h3.mono eG);have k0:=(h3.block _ MbC).trans b0;have k1:=(h3.block _ MbC).trans d0;have k2:=(h3.block _ l2).trans r0;have b9:=zHi bs;have aS:=bs.size;clear h2 h3 h4 b0 d0 r0 c0 c1 lD bl bs;obtain⟨t0,t1⟩:=cF2 k2;have f0:∀j,w2.frozen? ⟨w.heap.size+2,j,none⟩=false:=fun j=>by simp[World.frozen?,k2]
 by_cases h0:er=0
 ·subst h0;have e0:za7 laws=0:=am rfl;obtain⟨sL,Cy,hG,jv,km⟩:=H4.o rfl;subst sL Cy;rw[if_neg MbF];clear am H4;obtain⟨g0,g1,g2,g3,g4,g5,g6⟩:=cF7 k1;by_cases hce:ce=0
  ·have iB:=iW hce;subst hce;have dD:=zHi (fun W (hB:Below w2.heap.size w2 W)=>cR.o base wb S0 (ze7 ds) W (b9.o.trans (hB.mono aS)) (HW.o.keep hB) hG jv iB e0);have tt:=fun h=>ziZ (laws:=laws) (s:=S0) (k:=ds.length) (last:=ze7 ds) (d:=d) h iB hG jv e0
   generalize zcH laws S0 ds.length (ze7 ds) d=x at*;obtain⟨s',e2⟩:=x;rw[if_neg MbF];simp only at tt⊢;obtain c0:=cF1 k0;clear cR iW hG jv HW
   go_upto_region 7 with(go_at_call 37;go_must(refine(dX.o _ (b9.o.trans (Below.mono (B:=w2.heap.size) Bw aS))).mono ?_);go_loud(rintro e wq ⟨rfl,z,hz⟩)
                         have gL:Below w2.heap.size w2 wq:=by rw[hz];exact Bw
                         have q0:wq.heap[w.heap.size]?=some (.cells #[.slice LA laws.length nc,.slice DA ds.length mc] 25):=by rw[hz];exact zbZ k0
                         have q1:wq.heap[w.heap.size+1]?=some (.cells #[.int .i64 d.kind,.int .i64 d.day,.string d.place,.string d.frm,.slice B d.to.length c,.int .i64 d.cls,.int .i64 d.years] 28):=by rw[hz];exact zbZ k1
                         have q2:wq.heap[w.heap.size+2]?=some (.cells #[.slice none 0 0,.slice none 0 0] 25):=by rw[hz];exact zbZ k2
                         clear hz)
   have BS:=gL.size;have l0:=zad q2;have HQ:=zHi gL;clear t0 t1 f0 c0 g0 g1 g2 g3 g4 g5 g6 k0 k1 k2 gL dX;obtain c0:=cF1 q0;obtain⟨g0,g1,g2,g3,g4,g5,g6⟩:=cF7 q1;go_upto_region 8 with(go_at_call 38;go_must(refine(dD.o _ HQ.o).mono ?_);go_loud(rintro e w3 ⟨rfl,y1,y2⟩))
   have bw:=zHi ((b9.o.trans (HQ.o.mono aS)).trans (y2.mono MbC));have mS:=bw.o.size;have k0:=(y2.block w.heap.size MbC).trans q0;have k1:=(y2.block (w.heap.size+1) MbC).trans q1;have k2:=(y2.block (w.heap.size+2) MbC).trans q2;clear y1 y2 c0 g0 g1 g2 g3 g4 g5 g6 q0 q1 q2 HQ dD b9;obtain⟨t0,t1⟩:=cF2 k2;have f0:∀j,w3.frozen? ⟨w.heap.size+2,j,none⟩=false:=fun j=>by simp[World.frozen?,k2]
   by_cases kx:e2=0
   ·subst kx;obtain c0:=cF1 k0;have bj:=zHi (zjD laws LA laws.length nc w3 rfl hl (bM.o.keep bw.o))
    go_upto_region 11 with(go_at_call 39;go_must(refine bj.o.mono ?_);go_loud(rintro e w4 ⟨v4,rfl,o4,nK⟩)
                           obtain⟨A4,c4,rfl,gq,s4⟩:=o4.ro
                           clear o4)
    have tk:=nK.size;have l2:=zad k2;obtain⟨OB,iT⟩:∃OB,OB=w4.heap.size:=⟨_,rfl⟩
    obtain⟨W5,mg⟩:∃W5,W5=w4.alloc (.cells #[.slice A4 laws.length c4,.slice none 0 0] 25):=⟨_,rfl⟩
    have o5:W5.heap[OB]?=some (.cells #[.slice A4 laws.length c4,.slice none 0 0] 25):=by rw[mg];exact za3 _ _ _ iT
    have fm:Below w3.heap.size w3 W5:=by rw[mg];exact zau nK _
    obtain⟨S5,ni,cA⟩:=yH3 (show Ro W5 96 Law.cells A4 laws from by rw[mg];exact s4.keep (n:=w4.heap.size) (zau (Below.refl _ _) _)) gq (bw.o.trans (fm.mono mS));have dU:=fm.size;have m0:=(fm.block _ MbC).trans k0;have m1:=(fm.block _ MbC).trans k1;have m2:=(fm.block _ MbC).trans k2;have hob:w3.heap.size<=OB:=MbC;rw[<-mg,<-iT];clear mg fm s4 gq nK bj c0 t0 t1 f0 k0 k1 k2 iT tk;obtain⟨xs,tA,zm,br⟩:=dv_of fN.o;have bv:xs.length=ds.length:=by rw[<-tA,List.length_map]
    have jg:∀y∈xs++[(⟨d,B,c⟩:DV)],y.d.to.length<=100000/\y.d.to.length<=y.c/\Sl w 3 RPart.cells y.B y.d.to:=fun y hy=>by
     rcases List.mem_append.1 hy with hy|hy
     ·exact⟨(HO.o y.d (by rw[<-tA];exact List.mem_map_of_mem hy)).2.2.2,zm y hy⟩
     ·obtain rfl:=List.mem_singleton.1 hy;exact⟨hd.2.2.2,aj,HS.o⟩
    have kX:=zHi (fun W (h:Below W5.heap.size W5 W)=>ziM xs DA ds.length mc W bv.symm MbC (br.keep (cA.o.trans (h.mono cA.o.size))));have wC:(xs++[(⟨d,B,c⟩:DV)]).map (·.d)=ds++[d]:=by rw[List.map_append,tA];rfl
    have mZ:(xs++[(⟨d,B,c⟩:DV)]).length=ds.length+1:=by rw[List.length_append,bv];rfl
    have nz:Hid (xs.length<=100000):=by show _<=_;omega
    obtain⟨zs,bH⟩:∃zs,zs=xs++[(⟨d,B,c⟩:DV)]:=⟨_,rfl⟩
    rw[<-bH]at jg wC mZ;obtain⟨uu,AT,sj,AP⟩:=yH4 bH wC mZ jg;have zi:w.heap.size+2<W5.heap.size:=MbC;have AL:=zHi zi
    have cC:=zHi (fun(w':World) (h:Below W5.heap.size W5 w')=>(show w'.cell? ⟨w.heap.size,1,none⟩=some (.slice DA ds.length mc)/\w'.cell? ⟨w.heap.size+1,0,none⟩=some (.int .i64 d.kind)/\w'.cell? ⟨w.heap.size+1,1,none⟩=some (.int .i64 d.day)/\w'.cell? ⟨w.heap.size+1,2,none⟩=some (.string d.place)/\w'.cell? ⟨w.heap.size+1,3,none⟩=some (.string d.frm)/\w'.cell? ⟨w.heap.size+1,4,none⟩=some (.slice B d.to.length c)/\w'.cell? ⟨w.heap.size+1,5,none⟩=some (.int .i64 d.cls)/\w'.cell? ⟨w.heap.size+1,6,none⟩=some (.int .i64 d.years) from by
     have hx:=h.block w.heap.size MbC;have hy:=h.block (w.heap.size+1) MbC;rw[m0]at hx;rw[m1]at hy
     refine⟨?_,?_,?_,?_,?_,?_,?_,?_⟩<;>(simp only[World.cell?,hx,hy];rfl)))
    have pG:=zad o5;have rL:w.heap.size+2<OB:=MbC;clear jg wC mZ bH tA zm br bv fN HO m0 m1 mS dU l2;go_cut [48,49,50]from 43 to 50 (fun v48 v49 v50 wc=>∃VA vc,v48=.slice VA zs.length vc/\v49=.int .i64 (zs.length:Int)/\v50=.int .i64 0/\Hid (Ro wc 28 DV.cells VA zs)/\Below W5.heap.size W5 wc/\zs.length<=vc)
    case first=>
     refine zbS 5 (fun bb w'=>bb=true\/(w'.cell? ⟨w.heap.size,1,none⟩=some (.slice DA ds.length mc)/\w'.cell? ⟨w.heap.size+1,0,none⟩=some (.int .i64 d.kind)/\w'.cell? ⟨w.heap.size+1,1,none⟩=some (.int .i64 d.day)/\w'.cell? ⟨w.heap.size+1,2,none⟩=some (.string d.place)/\w'.cell? ⟨w.heap.size+1,3,none⟩=some (.string d.frm)/\w'.cell? ⟨w.heap.size+1,4,none⟩=some (.slice B d.to.length c)/\w'.cell? ⟨w.heap.size+1,5,none⟩=some (.int .i64 d.cls)/\w'.cell? ⟨w.heap.size+1,6,none⟩=some (.int .i64 d.years))) MbE (.inr (cC.o _ (zaI (Below.refl _ _)))) ?hrest
     case hrest=>
      intro hHeld;refine TkM 0 ?_;refine TkM 1 ?_;refine TkM 3 ?_;refine FrM 7 false ?_;refine TwM 2 4 (fun K hK=>?_) fun K hK=>?_
      ·go_simp
       refine(kX.o _ (zaI (Below.refl _ _))).mono ?_;rintro e w6 ⟨v6,rfl,o6,aY⟩;have pW:Below W5.heap.size W5 w6:=(zaI (Below.refl _ _):Below W5.heap.size W5 W5.drew).trans aY;obtain⟨A6,c6,rfl,_,_⟩:=o6.sl zcN;refine NxM hK (fun hHeld=>?_) (.inr (cC.o _ pW));clear hK K;refine OnM 4 false fun K hK=>?_
       go_simp
       have aW:Below W5.heap.size W5 (w6.alloc (.cells #[.int .i64 d.kind,.int .i64 d.day,.string d.place,.string d.frm,.slice B d.to.length c,.int .i64 d.cls,.int .i64 d.years] 28)):=zau pW _;have n7:(w6.alloc (.cells #[.int .i64 d.kind,.int .i64 d.day,.string d.place,.string d.frm,.slice B d.to.length c,.int .i64 d.cls,.int .i64 d.years] 28)).heap[w6.heap.size]?=some (.cells #[.int .i64 d.kind,.int .i64 d.day,.string d.place,.string d.frm,.slice B d.to.length c,.int .i64 d.cls,.int .i64 d.years] 28):=za3 _ _ _ rfl;have o7:OwnS (w6.alloc (.cells #[.int .i64 d.kind,.int .i64 d.day,.string d.place,.string d.frm,.slice B d.to.length c,.int .i64 d.cls,.int .i64 d.years] 28)) W5.drew.heap.size 28 7 DV.cells (.slice A6 xs.length c6) xs:=o6.keep (n:=w6.heap.size) (zau (Below.refl _ _) _);exact Mo
      ·go_simp
       have n6:(W5.drew.alloc (.cells #[.int .i64 d.kind,.int .i64 d.day,.string d.place,.string d.frm,.slice B d.to.length c,.int .i64 d.cls,.int .i64 d.years] 28)).heap[W5.heap.size]?=some (.cells #[.int .i64 d.kind,.int .i64 d.day,.string d.place,.string d.frm,.slice B d.to.length c,.int .i64 d.cls,.int .i64 d.years] 28):=za3 _ _ _ rfl;have aY:Below W5.heap.size W5 (W5.drew.alloc (.cells #[.int .i64 d.kind,.int .i64 d.day,.string d.place,.string d.frm,.slice B d.to.length c,.int .i64 d.cls,.int .i64 d.years] 28)):=zau (zaI (Below.refl _ _)) _;refine NxM hK (fun hHeld=>?_) (.inr (cC.o _ aY));clear hK K;refine OnM 2 false fun K hK=>?_
       go_simp
       refine(kX.o _ aY).mono ?_;rintro e w7 ⟨v6,rfl,o7,cT⟩;replace o7:=o7.base_le (show W5.heap.size<=(W5.drew.alloc (.cells #[.int .i64 d.kind,.int .i64 d.day,.string d.place,.string d.frm,.slice B d.to.length c,.int .i64 d.cls,.int .i64 d.years] 28)).heap.size by simp);have aW:Below W5.heap.size W5 w7:=aY.trans (cT.mono MbF);have n7:w7.heap[W5.heap.size]?=some (.cells #[.int .i64 d.kind,.int .i64 d.day,.string d.place,.string d.frm,.slice B d.to.length c,.int .i64 d.cls,.int .i64 d.years] 28):=(cT.block _ MbF).trans n6;obtain⟨A6,c6,rfl,_,_⟩:=o7.sl zcN;exact Mo
    case rest=>
     obtain⟨VA,vc,rfl,rfl,rfl,jq,lS,mX⟩:=hcut;obtain⟨NB,uN⟩:∃NB,NB=wc.heap.size:=⟨_,rfl⟩
     have Bo:OB<NB:=by have:=lS.size;omega
     have yU:=(lS.block OB pG).trans o5;obtain⟨Ay,tG,zv⟩:=yH3 (S5.o.keep lS) (cA.o.trans (lS.mono cA.o.size)) lS;have r2:=(lS.block (w.heap.size+2) AL.o).trans m2
     have xh:=zHi (fun(α:Type) (e:TypeId) (f:α->List Value) (A:Option Addr) (es:List α) (wr:World) (h:Ro wc e f A es) (ag:e≠25) (hf:∀j,j<NB->j≠OB->wr.heap[j]?=wc.heap[j]?)=>(show Ro wr e f A es from h.same fun b cur fr hb _=>hf b (by rw[uN];exact zad hb) (fun e'=>by
      subst e';rw[yU]at hb;simp only[Option.some.injEq,Obj.cells.injEq]at hb
      exact ag hb.2.1.symm)))
     obtain⟨u9,lC,gJ⟩:=yH3 uN r2 rL;clear lS cA S5 o5 m2 uN r2 kX cC pG rL;go_upto_region 12 with fail
     go_loopw [50] (fun i wr=>∃(k:Nat) (ys:List DV) (v:Value),k<=zs.length/\i=.int .i64 k/\Hid (ys.map (·.d)=(zs.map (·.d)).take k)/\Hid (∀y∈ys,y.d.to.length<=y.c/\Ro wr 59 RPart.cells y.B y.d.to)/\OwnS wr NB 28 7 DV.cells v ys/\wr.heap[OB]?=some (.cells #[.slice A4 laws.length c4,v] 25)/\Hid (Below OB wc wr/\NB<=wr.heap.size/\∀j,j<NB->j≠OB->wr.heap[j]?=wc.heap[j]?)) (fun i _=>zs.length-(intOf i).toNat)
     case atStart=>exact⟨0,[],.slice none 0 0,Nat.zero_le _,rfl,zHi MbF,zHi MbF,OwnS.nil,yU,zHi ⟨Below.refl _ _,by rw[u9.o];exact Nat.le_refl _,fun _ _ _=>rfl⟩⟩
     case round=>
      obtain⟨k,ys,v,hk,rfl,HM,HP,ae,ho,eM⟩:=hrel;have kK:=zad ho;obtain⟨VY,vy,rfl,_,rH⟩:=ae.sl zcN;have wA:ys.length=k:=by
       have:=congrArg List.length HM.o;simp at this;omega
      have xv:=zHi wA;have yE:k<=100001:=by have:=sj.o;omega
      obtain⟨eO,ua,AK⟩:=yH3 ae ho rH;have rM:w.heap.size<wr.heap.size:=by have:=eM.o.2.1;have:=gJ.o;omega
      have aM:Hid (Below w.heap.size w wr):=tG.o.trans (eM.o.1.mono (by have:=gJ.o;omega));by_cases aa:k<zs.length
      ·obtain⟨b,off,hA,hb,ah⟩:=((xh.o _ _ _ _ _ _ jq.o MbD eM.o.2.2).sl zcN).at aa;have jg:=AP.o _ (List.getElem_mem aa);have aD:(zs.map (·.d)).take (k+1)=(zs.map (·.d)).take k++[zs[k].d]:=by rw[List.take_add_one,List.getElem?_map,List.getElem?_eq_getElem aa];rfl
       obtain⟨cR,aq⟩:=yH2 aD aa;generalize zs[k]=x at*;have i0:=ah 0 _ rfl;have i1:=ah 1 _ rfl;have i2:=ah 2 _ rfl;have i3:=ah 3 _ rfl;have i4:=ah 4 _ rfl;have i5:=ah 5 _ rfl;have i6:=ah 6 _ rfl;simp only[Nat.add_zero]at i0;have ao:(k:Int)<(zs.length:Int):=MbC;have bf:(0:Int)<=(k:Int):=MbC;obtain⟨-,p1⟩:=cF2 ho;subst hA;have ki:=zHi jg;clear ah jg aD ae rH wA ho aa;go_upto_region 14 with fail
       obtain⟨WZ,em⟩:∃WZ,WZ=wr.alloc (.cells #[.int .i64 x.d.kind,.int .i64 x.d.day,.string x.d.place,.string x.d.frm,.slice (x.B) x.d.to.length (x.c),.int .i64 x.d.cls,.int .i64 x.d.years] 28):=⟨_,rfl⟩
       have z0:WZ.heap[wr.heap.size]?=some (.cells #[.int .i64 x.d.kind,.int .i64 x.d.day,.string x.d.place,.string x.d.frm,.slice (x.B) x.d.to.length (x.c),.int .i64 x.d.cls,.int .i64 x.d.years] 28):=by rw[em];exact za3 _ _ _ rfl
       have df:Below wr.heap.size wr WZ:=by rw[em];exact Bw
       rw[<-em];have dK:=zHi df;have bH:=df.size;have q1:WZ.cell? ⟨OB,1,none⟩=some (.slice VY ys.length vy):=(za4 df kK).trans p1;have CP:OB<WZ.heap.size:=MbC;have tj:wr.heap.size<WZ.heap.size:=zad z0
       have lK:=zHi (fun(w':World) (h:Below WZ.heap.size WZ w')=>(show w'.cell? ⟨OB,1,none⟩=some (.slice VY ys.length vy)/\w'.cell? ⟨wr.heap.size,0,none⟩=some (.int .i64 x.d.kind)/\w'.cell? ⟨wr.heap.size,1,none⟩=some (.int .i64 x.d.day)/\w'.cell? ⟨wr.heap.size,2,none⟩=some (.string x.d.place)/\w'.cell? ⟨wr.heap.size,3,none⟩=some (.string x.d.frm)/\w'.cell? ⟨wr.heap.size,4,none⟩=some (.slice x.B x.d.to.length x.c)/\w'.cell? ⟨wr.heap.size,5,none⟩=some (.int .i64 x.d.cls)/\w'.cell? ⟨wr.heap.size,6,none⟩=some (.int .i64 x.d.years) from by
        have hx:=h.block wr.heap.size tj;rw[z0]at hx
        refine⟨(za4 h CP).trans q1,?_,?_,?_,?_,?_,?_,?_⟩<;>(simp only[World.cell?,hx];rfl)))
       have gE:=zHi (fun W' (h:Below WZ.heap.size WZ W')=>zlh x.d x.B x.c W' ki.o.1 (ki.o.2.2.keep (aM.o.trans ((df.trans (h.mono bH)).mono (Nat.le_of_lt rM)))));unfold Deed.v at gE;clear em df z0 q1 p1 i0 i1 i2 i3 i4 i5 i6;refine zbS 5 (fun bb w'=>bb=true\/(w'.cell? ⟨OB,1,none⟩=some (.slice VY ys.length vy)/\w'.cell? ⟨wr.heap.size,0,none⟩=some (.int .i64 x.d.kind)/\w'.cell? ⟨wr.heap.size,1,none⟩=some (.int .i64 x.d.day)/\w'.cell? ⟨wr.heap.size,2,none⟩=some (.string x.d.place)/\w'.cell? ⟨wr.heap.size,3,none⟩=some (.string x.d.frm)/\w'.cell? ⟨wr.heap.size,4,none⟩=some (.slice x.B x.d.to.length x.c)/\w'.cell? ⟨wr.heap.size,5,none⟩=some (.int .i64 x.d.cls)/\w'.cell? ⟨wr.heap.size,6,none⟩=some (.int .i64 x.d.years))) MbE (.inr (lK.o _ (zaI (Below.refl _ _)))) ?hrest
       case hrest=>
        intro hHeld;refine TkM 0 ?_;refine TkM 1 ?_;refine TkM 2 ?_;refine OnM 3 false fun K hK=>?_
        go_simp
        refine(gE.o _ (zaI (Below.refl _ _))).mono ?_;rintro e w5 ⟨B5,c5,rfl,nL,ro5,bx⟩;unfold Deed.v;have gn:Below WZ.heap.size WZ w5:=(zaI (Below.refl _ _):Below WZ.heap.size WZ WZ.drew).trans bx;refine NxM hK (fun hHeld=>?_) (.inr (lK.o _ gn));clear hK K;refine OnM 4 false fun K hK=>?_
        go_simp
        have aY:Below WZ.heap.size WZ (w5.alloc (.cells #[.int .i64 x.d.kind,.int .i64 x.d.day,.string x.d.place,.string x.d.frm,.slice (B5) x.d.to.length (c5),.int .i64 x.d.cls,.int .i64 x.d.years] 28)):=zau gn _;have n6:(w5.alloc (.cells #[.int .i64 x.d.kind,.int .i64 x.d.day,.string x.d.place,.string x.d.frm,.slice (B5) x.d.to.length (c5),.int .i64 x.d.cls,.int .i64 x.d.years] 28)).heap[w5.heap.size]?=some (.cells #[.int .i64 x.d.kind,.int .i64 x.d.day,.string x.d.place,.string x.d.frm,.slice (B5) x.d.to.length (c5),.int .i64 x.d.cls,.int .i64 x.d.years] 28):=za3 _ _ _ rfl;have ro6:Ro (w5.alloc (.cells #[.int .i64 x.d.kind,.int .i64 x.d.day,.string x.d.place,.string x.d.frm,.slice (B5) x.d.to.length (c5),.int .i64 x.d.cls,.int .i64 x.d.years] 28)) 59 RPart.cells B5 x.d.to:=ro5.keep (n:=w5.heap.size) (zau (Below.refl _ _) _);refine NxM hK (fun hHeld=>?_) (.inr (lK.o _ aY));clear hK K;refine OnM 5 true fun K hK=>?_
        generalize w5.alloc (.cells #[.int .i64 x.d.kind,.int .i64 x.d.day,.string x.d.place,.string x.d.frm,.slice (B5) x.d.to.length (c5),.int .i64 x.d.cls,.int .i64 x.d.years] 28)=W6 at*;have eo:Below wr.heap.size wr W6:=dK.o.trans (aY.mono bH);have ow6:=eO.o.keep eo;refine zaV (v:=.slice VY ys.length vy) (n:=ys.length) (m:=1) rfl _ _ rfl zlG zcN zlF rfl (xs:=ys) (ys:=[⟨x.d,B5,c5⟩]) ow6 rfl rfl rfl (zhw zcN n6 (by simp[DV.cells])) (by have:=xv.o;have:=sj.o;simp only[maxLen];omega) (by have:=xv.o;have:=sj.o;omega) (by have:=eo.size;have:=eM.o.2.1;omega) ?_;intro v7 w7 h1 h2 h3;obtain⟨A7,c7,kT,_,_⟩:=h1.sl zcN;rw[List.length_append]at kT;subst kT;have qR:∀j,j<NB->za1 (.slice VY ys.length vy)≠some j:=fun j hj e=>by have:=(ow6.ge _ e).1;omega
        have AX:=eo.size;have o7:w7.heap[OB]?=some (.cells #[.slice A4 laws.length c4,.slice VY ys.length vy] 25):=(h2.block OB MbC (fun e=>qR OB Bo e.symm)).trans ((eo.block OB kK).trans ua.o);have ro7:Ro w7 59 RPart.cells B5 x.d.to:=zg6 ro6 ow6 h2 MbD;have rs7:∀y∈ys,y.d.to.length<=y.c/\Ro w7 59 RPart.cells y.B y.d.to:=fun y hy=>⟨(HP.o y hy).1,zg6 ((HP.o y hy).2.keep eo) ow6 h2 MbD⟩
        have gN:=eM.o;have aW:Below OB wc w7:=Below.grown (gN.1.trans (eo.mono MbC)) h2 MbC (fun j hj=>by have:=(ow6.ge _ hj).1;omega);have C9:∀j,j<NB->j≠OB->w7.heap[j]?=wc.heap[j]?:=fun j hj sU=>(h2.block j MbC (fun e=>qR j hj e.symm)).trans ((eo.block j MbC).trans (gN.2.2 j hj sU))
        have xx:NB<=w7.heap.size:=by have:=h2.size;omega
        have f7:w7.frozen? ⟨OB,1,none⟩=false:=by simp[World.frozen?,o7]
        obtain⟨-,t7⟩:=cF2 o7;refine NxM hK fun hHeld=>?_
        clear hK K;refine OnM 6 true fun K hK=>?_
        go_simp
        refine NxM hK fun hHeld=>?_
        clear hK K;refine OnM 7 true fun K hK=>?_
        go_simp
        refine NxM hK fun hHeld=>?_
        clear hK K;refine zcF MbE ?_ _;clear hHeld;have H1:=zHi h1;clear gN h1 h2 h3 AX eo aY gn bx ow6;go_wp2_with fail
        go_round
        case rel=>
         refine⟨k+1,ys++[⟨x.d,B5,c5⟩],_,aq.o,by go_num,zHi (by rw[List.map_append,HM.o,cR.o];rfl),zHi (fun y hy=>?_),H1.o.grown (zay _ _ _ _) (.inr fun e=>by have:=(H1.o.ge _ e).1;omega),?_,zHi ⟨zaU aW (Nat.le_refl _) _,by simpa using xx,fun j hj sU=>(zli sU (Nat.lt_of_lt_of_le hj xx)).trans (C9 j hj sU)⟩⟩
         ·exact M4
         ·have:=Joins.block_setCell (i:=1) o7 (.slice A7 (ys.length+[(⟨x.d,B5,c5⟩:DV)].length) c7);simpa using this
        case measure=>have:=aq.o;simp only[intOf];omega
      ·have ao:¬(k:Int)<(zs.length:Int):=MbC;have nS:ys.map (·.d)=ds++[d]:=by rw[HM.o,List.take_of_length_le MbH,AT.o]
       have bQ:ys.length=ds.length+1:=by have:=sj.o;omega
       obtain⟨-,p1⟩:=cF2 ho;obtain p0:=cF1 ho;have r3:=(eM.o.2.2 (w.heap.size+2) (by have:=gJ.o;omega) (by have:=gJ.o;omega)).trans lC.o;obtain⟨t0,t1⟩:=cF2 r3;have f0:∀j,wr.frozen? ⟨w.heap.size+2,j,none⟩=false:=fun j=>by simp[World.frozen?,r3]
       rw[bQ]at p1 rH;obtain⟨tX,jZ,uo⟩:=yH3 nS bQ rH;clear nS bQ ae aa wA ho rH AK;go_wp2_with fail
       refine bodyPost_ret (v:=.tuple #[.agg #[.slice A4 laws.length c4,.slice VY (ds.length+1) vy],.int .i64 0]) ?_ rfl ?_
       ·exact ze5 rfl _ _ (w.heap.size+2) _ _ _ rfl rfl (zh7 r3)
       ·have rr:=Joins.block_setCell (i:=0) r3 (.slice A4 laws.length c4);have fD:∀ {α:Type} {e:TypeId} {f:α->List Value} {A:Option Addr} {es:List α},e≠25->Ro wr e f A es->Ro ((wr.setCell ⟨w.heap.size+2,0,none⟩ (.slice A4 laws.length c4)).setCell ⟨w.heap.size+2,1,none⟩ (.slice VY (ds.length+1) vy)) e f A es:=fun ag h=>
         (h.kept (zay _ _ _ _) r3 (fun e=>ag e.symm)).kept (zay _ _ _ _) rr (fun e=>ag e.symm)
        obtain⟨VY',vy',he,_,CX⟩:=eO.o.ro;obtain⟨rfl,_,rfl⟩:VY=VY'/\ys.length=ys.length/\vy=vy':=by simpa using he
        refine⟨zaU (zaU aM.o MbH _) MbH _,.inr ⟨rfl,A4,c4,VY,vy,rfl,⟨rfl,by simp,ni.o,uo.o,?_,?_⟩⟩⟩
        ·exact(fD MbD (xh.o _ _ _ _ _ _ Ay.o MbD eM.o.2.2)).sl (fun _=>rfl)
        ·exact slw_of ((fD MbD CX).sl zcN) tX.o fun y hy=>⟨(HP.o y hy).1,(fD MbD (HP.o y hy).2).sl zio⟩
   ·have ag:(e2 != 0)=true:=by simpa using kx
    go_wp2_with fail
    refine bodyPost_ret (v:=.tuple #[.agg #[.slice none 0 0,.slice none 0 0],.int .i64 e2]) ?_ rfl ?_
    ·exact ze5 rfl _ _ (w.heap.size+2) _ _ _ rfl rfl (zh7 k2)
    ·exact⟨zaU (zaU bw.o MbH _) MbH _,.inl ⟨kx,rfl⟩⟩
  ·have ag:(ce != 0)=true:=McP;rw[if_pos ag];clear cR fN bM HS HW hG jv iW
   go_wp2_with (go_at_call 37;go_must(refine(dX.o _ (b9.o.trans (Below.mono (B:=w2.heap.size) Bw aS))).mono ?_);go_loud(rintro e wq ⟨rfl,z,hz⟩)
                have q2:wq.heap[w.heap.size+2]?=some (.cells #[.slice none 0 0,.slice none 0 0] 25):=by rw[hz];exact zbZ k2
                have gL:Below w2.heap.size w2 wq:=by rw[hz];exact Bw
                obtain⟨t0,t1⟩:=cF2 q2;have f0:∀j,wq.frozen? ⟨w.heap.size+2,j,none⟩=false:=fun j=>by simp[World.frozen?,q2]
                clear hz)
   refine bodyPost_ret (v:=.tuple #[.agg #[.slice none 0 0,.slice none 0 0],.int .i64 ce]) ?_ rfl ?_
   ·exact ze5 rfl _ _ (w.heap.size+2) _ _ _ rfl rfl (zh7 q2)
   ·exact⟨zaU (zaU (b9.o.trans (gL.mono aS)) MbH _) MbH _,.inl ⟨hce,rfl⟩⟩
 ·have ag:(er != 0)=true:=Mcf;rw[if_pos ag];clear dX cR fN bM HS HW H4;go_wp2_with fail
  refine bodyPost_ret (v:=.tuple #[.agg #[.slice none 0 0,.slice none 0 0],.int .i64 er]) ?_ rfl ?_
  ·exact ze5 rfl _ _ (w.heap.size+2) _ _ _ rfl rfl (zh7 k2)
  ·exact⟨zaU (zaU b9.o MbH _) MbH _,.inl ⟨h0,rfl⟩⟩
