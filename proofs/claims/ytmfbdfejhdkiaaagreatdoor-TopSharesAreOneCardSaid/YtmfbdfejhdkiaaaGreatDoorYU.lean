/- Walk of the program's Tenures. -/
import Derived.Test.YtmfbdfejhdkiaaaGreatDoorSD
import Derived.Test.YtmfbdfejhdkiaaaGreatDoorXX
set_option linter.all false
set_option maxRecDepth 100000
set_option maxHeartbeats 4000000
namespace Go.Proofs.YtmfbdfejhdkiaaaGreatDoor
open Go.RowKit Go.Shelf
attribute [local go_sem] World.cell?_alloc_mark zae za4 zao za8 zav zaw zax zay zaz za0 za1
attribute [local go_sem] zap zac
theorem days_snoc{laws:List Law}{ds:List Deed}{place:ByteArray}{l:List Deed}{k:Nat}(h:k<l.length):zeT laws ds place (l.take (k+1))=zeT laws ds place (l.take k)++(l[k].day::zec place (zaB laws ds l[k].day).1.graves):=by
 unfold zeT;rw[List.take_succ_eq_append_getElem h,List.flatMap_append];simp
theorem ends_snoc{place:ByteArray}{gs:List Grave}{k:Nat}(h:k<gs.length):zec place (gs.take (k+1))=zec place (gs.take k)++if(zaf gs[k].place place&&decide (0<=gs[k].fin))=true then[gs[k].fin]else[]:=by
 unfold zec;rw[List.take_succ_eq_append_getElem h,List.filter_append,List.map_append];cases hq:(zaf gs[k].place place&&decide (0<=gs[k].fin))<;>simp[hq]
theorem ends_len(place:ByteArray)(gs:List Grave):(zec place gs).length<=gs.length:=by
 unfold zec;exact MbC
theorem znx{w W:World}{row:Option Nat}{b o:Nat}(h:w.grownBy W row)(hb:b<w.heap.size)(ag:some b≠row):W.cell? ⟨b,o,none⟩=w.cell? ⟨b,o,none⟩:=by
 simp only[World.cell?,h.block b hb ag]
theorem gr_then{w W W':World}{row row':Option Nat}(h:w.grownBy W row)(k:W.grownBy W' row')(hr:∀g,row'=some g->row=some g\/w.heap.size<=g):w.grownBy W' row:=
 ⟨k.os.trans h.os,k.tape.trans h.tape,k.output.trans h.output,Nat.le_trans h.size k.size,fun j hj ag=>(k.block j (Nat.lt_of_lt_of_le hj h.size) fun e=>(hr j e.symm).elim (fun e2=>ag e2.symm) fun e2=>by omega).trans (h.block j hj ag)⟩
theorem sl_z1{w:World}{b:Nat}{x:Int}{t:TypeId}{fr:Nat×Nat}(h:w.heap[b]?=some (.cells #[.int .i64 x] t fr)):Sl w 1 zC (some ⟨b,0,none⟩) [x]:=fun _=>⟨b,0,rfl,zab h,fun k y hy j u hu=>by
 have hk:k=0:=McD;subst hk;simp only[List.getElem?_cons_zero,Option.some.injEq]at hy;subst hy;match j,hu with
 |0,hu=>simp[zC]at hu;simp[World.cell?,h,<-hu]
 |j+1,hu=>simp[zC]at hu⟩
structure TX where
 day:Int
 hs:Parts
 A:Option Addr
 c:Nat
def TX.cells(x:TX):List Value:=[.int .i64 x.day,.slice x.A x.hs.length x.c]
theorem zmo(x:TX):x.cells.length=2:=rfl
theorem zoi(x:TX):∀u∈x.cells,u.oneCell'=true:=by simp[TX.cells,Value.oneCell']
theorem elTen:ElTy Tryz.prog 43 49 2 32:=zdC (z:=.agg #[.int .i64 0,.slice none 0 0]) Mcs Mcs rfl Mcu
theorem sl_tx{w:World}{b:Nat}{x:TX}{t:TypeId}{fr:Nat×Nat}(h:w.heap[b]?=some (.cells #[.int .i64 x.day,.slice x.A x.hs.length x.c] t fr)):Sl w 2 TX.cells (some ⟨b,0,none⟩) [x]:=fun _=>⟨b,0,rfl,zab h,fun k y hy j u hu=>by
 have hk:k=0:=McD;subst hk;simp only[List.getElem?_cons_zero,Option.some.injEq]at hy;subst hy;match j,hu with
 |0,hu=>simp[TX.cells]at hu;simp[World.cell?,h,<-hu]
 |1,hu=>simp[TX.cells]at hu;simp[World.cell?,h,<-hu]
 |j+2,hu=>simp[TX.cells]at hu⟩
def befT(txs:List TX):Parts:=(txs.getLast?.map (·.hs)).getD []
def txP(x:TX):Int×Parts:=(x.day,x.hs)
def HsAt(W:World)(txs:List TX):Prop:= ∀x∈txs,Ro W 59 zaa x.A x.hs/\x.hs.length<=100000
theorem HsAt.row{W W':World}{base:Nat}{v:Value}{txs us:List TX}(h:HsAt W txs)(ho:OwnS W base 49 2 TX.cells v us)(hg:W.grownBy W' (za6 v)):HsAt W' txs:=fun x hx=>by
 obtain⟨h1,h2⟩:=h x hx;refine⟨?_,h2⟩;cases hb:za6 v with
 |none=>
  rw[hb]at hg;exact h1.same fun b cur fr hc _=>hg.block b (zab hc) (fun e=>by cases e)
 |some g=>
  obtain⟨cur,mG⟩:=ziI ho hb;rw[hb]at hg;exact h1.kept hg mG Mcu
theorem zny{i y:Nat}(h:y=i+1)(hl:y<1000000000):IntKind.i64.wrap ((y:Int)-1)=(i:Int):=by
 subst h;rw[IntKind.wrap_i64];omega
theorem bef_at{txs:List TX}{i:Nat}(h:txs.length=i+1):befT txs=(txs[i]' Mcq).hs:=by
 unfold befT;rw[List.getLast?_eq_getElem?,show txs.length-1=i by omega,List.getElem?_eq_getElem Mcq];rfl
def TenApi(w:World)(laws:List Law)(ds:List Deed)(place:ByteArray)(E:Int)(e:Ending)(w':World):Prop:=
 Qa w w'/\((E≠0/\e=.returned (.tuple #[.slice none 0 0,.int .i64 E]))\/
  (E=0/\∃A c txs L,e=.returned (.tuple #[.slice A txs.length c,.int .i64 0])/\Sl w' 2 TX.cells A txs/\(∀x∈txs,Sl w' 3 zaa x.A x.hs)/\L.Pairwise (· < ·)/\(∀x,x∈L↔x∈zeT laws ds place ds)/\txs.map (fun x=>(x.day,x.hs))=zbO (hOn laws ds place) L []))
theorem zmp(laws:List Law)(ds:List Deed)(place:ByteArray)(LA:Option Addr)(n nc:Nat)(DA:Option Addr)(m mc:Nat)(w:World)(hR:RightsIn w laws ds LA n nc DA m mc)(hF:FormsIn w)(hL:LensIn w)(hO:∀d∈ds,zdE d)(hp:place.size<=100000)(iX:ds.length<=1000):
 Calls Tryz.prog 9 #[.agg #[.slice LA n nc,.slice DA m mc],.string place] w (TenApi w laws ds place (zct laws ds [place] 0)):=by
 obtain⟨kj,tX,aA,og⟩:=yH4 (fun W (hB:Qa w W) NA (hS:Sl W 1 sC NA [place])=>on_any laws ds 0 [place] LA n nc DA m mc NA 1 1 W (hR.keep hB) (hF.keep hB) (hL.keep hB) hO rfl Mcv Mel hS) (fun(dy:Int) W (hB:Qa w W)=>zht laws ds dy LA n nc DA m mc W (hR.keep hB) (hF.keep hB) (hL.keep hB) hO) (fun(h:zct laws ds [place] 0=0) (dy:Int)=>(zfE (ziN h).1 dy).1) (fun(h:zct laws ds [place] 0=0)=>days_ok h place);obtain⟨rfl,rfl,uz,kA,eT,gC⟩:=hR;have dj:=zHi gC;clear hF hL hO hp eT gC;unfold zob at kj;generalize zct laws ds [place] 0=E at*;go_enter Tryz.func9,Tryz.ntmps9
 have dG:∀W,Below (w.heap.size+1) (w.alloc (.cells #[.slice LA laws.length nc,.slice DA ds.length mc] 25)) W->W.heap[w.heap.size]?=some (.cells #[.slice LA laws.length nc,.slice DA ds.length mc] 25):=fun W hW=>(hW.block _ Mcq).trans (zat _ _ _ rfl)
 have u7:=zHi dG;clear dG;by_cases h0:E=0;rotate_left 1
 ·have wu:(E != 0)=true:=MdJ;have HE:=zHi h0;clear h0
  go_wp2_with (go_at_call 27
               go_must(refine(kj.o _ Bw _ (zdX (zat _ _ _ Mcv))).mono ?_)
               rintro e wq ⟨h1,⟨_,rfl⟩|⟨hz,_⟩⟩;rotate_left 1
               ·exact absurd hz HE.o
               have aO:Qa w wq:=Below.trans (zad (zad Qb _) _ Mcv) (h1.mono Mcw);have aE:=zHi aO
               clear h1 aO)
  go_ret2
  exact⟨aE.o,.inl ⟨HE.o,rfl⟩⟩
 have HE:=zHi h0
 go_upto_block 0 with(first
  |(go_at_call 27
    go_must(refine(kj.o _ Bw _ (zdX (zat _ _ _ Mcv))).mono ?_)
    rintro e wq ⟨h1,⟨ag,_⟩|⟨_,base,b,la,co,rfl,h2,h3,⟨last,h4⟩,h5⟩⟩
    ·exact absurd HE.o ag
    have aE:Hid (Qa w wq):=zHi (Below.trans (zad (zad Qb _) _ Mcv) (h1.mono Mcw));have iQ:=zHi (u7.o _ (((zad Qb _ (by first|omega|(simp only[World.size_alloc];omega))):Below (w.heap.size+1) _ _).trans (h1.mono (by first|omega|(simp only[World.size_alloc];omega)))));obtain⟨x0,x1⟩:=zbj iQ.o
    clear h1 h2 h3 h4 h5))
 clear kj u7;have jZ:=zab iQ.o;have aZ:=aE.o.size;go_cut [6,8,10,12]from 33 to 132 (fun _ v8 _ _ W=>OwnS W wq.heap.size 3 1 zC v8 (zeT laws ds place ds)/\(zeT laws ds place ds).length<=100*ds.length/\Qa wq W)
 case first=>
  go_wp2_with fail
  go_loopw [8,33] (fun v i wr=>∃k:Nat,k<=ds.length/\i=.int .i64 k/\OwnS wr wq.heap.size 3 1 zC v (zeT laws ds place (ds.take k))/\Hid ((zeT laws ds place (ds.take k)).length<=100*k)/\Qa wq wr) (fun _ i _=>ds.length-(intOf i).toNat)
  case atStart=>exact⟨0,Nat.zero_le _,rfl,OwnS.nil,Nat.zero_le _,Qb⟩
  case round=>
   obtain⟨k,hk,rfl,ac,cv,hB⟩:=hrel;obtain⟨WR,mn⟩:=Qd wr
   subst mn;have hsz:=hB.size;have qI:=(hB.block _ jZ).trans iQ.o;obtain⟨VA,vc,rfl,_,kf⟩:=ac.sl zh7;obtain⟨HB,HO,FH⟩:=yH3 hB ac qI;by_cases aa:k<ds.length
   ·obtain⟨db,off,cs,hA,DT,⟨B,c,ao,aQ,hS⟩,hc⟩:=(dj.o.keep zbP (aE.o.trans (hB.mono aZ))).at aa;subst hA aQ;have bN:=days_snoc (laws:=laws) (ds:=ds) (place:=place) aa;have fS:=zHi (fun W (h:Qa w W)=>tX.o ds[k].day W h);have fP:=aA.o HE.o ds[k].day;unfold zhs at fS;generalize ds[k]=d at*;obtain⟨kd,dy,pl,fr,ts,cl,yr⟩:=d;simp only at bN fP;have i0:WR.cell? ⟨db,off+k*7,none⟩=some (.int .i64 kd):=hc 0 _ rfl;have i1:WR.cell? ⟨db,off+k*7+1,none⟩=some (.int .i64 dy):=hc 1 _ rfl;have i2:WR.cell? ⟨db,off+k*7+2,none⟩=some (.string pl):=hc 2 _ rfl;have i3:WR.cell? ⟨db,off+k*7+3,none⟩=some (.string fr):=hc 3 _ rfl;have i4:WR.cell? ⟨db,off+k*7+4,none⟩=some (.slice B ts.length c):=hc 4 _ rfl;have i5:WR.cell? ⟨db,off+k*7+5,none⟩=some (.int .i64 cl):=hc 5 _ rfl;have i6:WR.cell? ⟨db,off+k*7+6,none⟩=some (.int .i64 yr):=hc 6 _ rfl;rw[<-fP]at bN;have dI:=zHi bN;simp only at fS;generalize zco laws ds dy=R at*;obtain⟨pre,kJ⟩:=Qd (zeT laws ds place (ds.take k))
    rw[<-kJ]at HO dI cv kf⊢;have ar:(k:Int)<(ds.length:Int):=Mcq;have aR:(0:Int)<=(k:Int):=Mcq;have ak:=zHi aa;have N7:pre.length<=100000:=by have:=cv.o;omega
    clear hc hS ao bN fP ac hB qI kJ x0 x1;go_upto_region 9 with(at_builtin;go_loud(refine zas (v:=.slice VA pre.length vc) (n:=pre.length) (m:=1) rfl _ _ rfl elInt zh7 zC_one rfl (HO.o.keep (n:=WR.heap.size) Bw) rfl rfl rfl (sl_z1 (x:=dy) (zat _ _ _ Mcv)) McK Mcq Mcw ?_);intro v3 w3 h1 h2 h3)
    have av:Qa wq w3:=zd9 Qc (fun g hg=>(HO.o.ge g hg).1) h2 (zad (zad HB.o _) _);have DQ:w3.heap[WR.heap.size]?=some (.cells #[.int .i64 kd,.int .i64 dy,.string pl,.string fr,.slice B ts.length c,.int .i64 cl,.int .i64 yr] 28):=(h2.block _ Mcw (fun e=>by have:=(HO.o.ge _ e.symm).2;omega)).trans (zal (zat _ _ _ rfl));obtain⟨y0,y1⟩:=zbj ((av.block _ jZ).trans iQ.o);have hy3:=zab ((av.block _ jZ).trans iQ.o);obtain⟨-,d1⟩:=cF2 DQ;have br:=zab DQ;obtain⟨A3,c3,rfl,_,_⟩:=h1.sl zh7;obtain⟨p1,gT⟩:=Qd (pre++[dy])
    rw[<-gT]at h1⊢;obtain⟨Fv,O3,aJ⟩:=yH3 gT h1 av;have eA:=av.size;have yF:p1.length<=100001:=by rw[gT,List.length_append];simp;omega
    clear h1 h2 h3 av DQ gT HO i0 i1 i2 i3 i4 i5 i6 DT
    go_upto_block 2 with(first
     |(go_at_call 19
       go_must(refine(fS.o _ (aE.o.trans (aJ.o.mono aZ))).mono ?_)
       rintro e wz ⟨base,b2,la,co,rfl,aW,hW,eY,⟨last,hg⟩,kk,mR,hf⟩;obtain⟨Bk,dd,cc,pp,wl,rr,mv,tv,ps,aN,hC,hP,hT⟩:=hW;obtain⟨TA,tc,rfl,wS,uI⟩:=hT.own.sl zcK;have cg:=hf.graves;have nF:=zHi hT.len;have cJ:=zab hC;unfold WldC at hC;obtain⟨-,-,-,-,-,-,k6⟩:=cF7 hC;obtain⟨HT,vT,dH⟩:=yH3 hT wS eY
       clear hC hP hT wS eY hg hf))
    have nk:=dH.o.size;have uC:ps.length<=60:=Md8;obtain⟨gs,aD⟩:=Qd R.1.graves
    rw[<-aD]at nF HT dI cg;have O4:=zHi (O3.o.keep dH.o);have aX:∀g,za6 (.slice A3 p1.length c3)=some g->g<base:=fun g hg=>by have:=(O3.o.ge g hg).2;omega
    obtain⟨bB,dl⟩:=yH2 aX aD;clear aX aD;go_wp2_with fail
    go_loopw [8,55] (fun v i wi=>∃q:Nat,q<=ps.length/\i=.int .i64 q/\OwnS wi wq.heap.size 3 1 zC v (p1++zec place (gs.take q))/\wz.grownBy wi (za6 (.slice A3 p1.length c3))/\Hid (∀g,za6 v=some g->za6 (.slice A3 p1.length c3)=some g\/wz.heap.size<=g)) (fun _ i _=>ps.length-(intOf i).toNat)
    case atStart=>exact⟨0,Nat.zero_le _,rfl,by rw[List.take_zero];simpa[zec]using O4.o,zc3 _ _,fun g hg=> .inl hg⟩
    case round=>
     obtain⟨q,hq,rfl,py,aK,iL⟩:=hrel;obtain⟨VI,vi,rfl,_,hvi⟩:=py.sl zh7;have fY:(zec place (gs.take q)).length<=60:=by
      have:=ends_len place (gs.take q);rw[List.length_take]at this;have:=nF.o;omega
     have Lo:=aK.size;obtain⟨zN,BH⟩:=yH2 py aK;by_cases hqt:q<ps.length
     ·have Ia:q<gs.length:=Md8;have Dq:=HT.o.all q ps[q] gs[q] (List.getElem?_eq_getElem hqt) (List.getElem?_eq_getElem Ia);obtain⟨TB,toff,Ak,Dp,wV⟩:=vT.o.at hqt;have KH:base<=TB:=(HT.o.own.ge TB (by rw[Ak];rfl)).1;subst Ak;have eZ:=ends_snoc (place:=place) Ia;have j0:wz.cell? ⟨TB,toff+q,none⟩=some (.pointer (some ⟨ps[q],0,none⟩)):=by have:=wV 0 _ rfl;simpa using this
      generalize ps[q]=T at*;generalize gs[q]=g at*;obtain⟨H,aI,D,dc,frm,t1,t2,t3,t4,t5,t6,t7⟩:=Dq;have cZ:=zab t1;unfold zb1 at t1;obtain⟨g0,-,-,g3⟩:=cF4 t1;have tk:some T≠za6 (.slice A3 p1.length c3):=fun e=>by have:=bB.o T e.symm;omega
      have yo:some TB≠za6 (.slice A3 p1.length c3):=fun e=>by have:=bB.o TB e.symm;omega
      have j0':=(znx aK Dp yo).trans j0;have g0':=(znx aK cZ tk).trans g0;have g3':=(znx aK cZ tk).trans g3;have gW:=zHi eZ;have Nb:(q:Int)<(ps.length:Int):=Mcq;have eJ:(0:Int)<=(q:Int):=Mcq;have hTi:T<wr.heap.size:=Mcq;generalize zec place (gs.take q)=en at*;clear wV t1 t2 t3 t4 t5 t6 t7 j0 g0 g3 eZ py aK tk yo Dp cZ;cases hs:zaf g.place place
      ·have eb:(g.place.toList==place.toList)=false:=hs;have iJ:Hid (zec place (gs.take (q+1))=en):=by show _=_;rw[gW.o,hs];simp
       exact MaE
      ·have eb:(g.place.toList==place.toList)=true:=hs;by_cases oY:0<=g.fin
       ·have iJ:Hid (zec place (gs.take (q+1))=en++[g.fin]):=by show _=_;rw[gW.o,hs];simp[oY]
        clear hs gW;go_wp2_with (at_builtin;go_loud(refine zas (v:=.slice VI (p1++en).length vi) (n:=(p1++en).length) (m:=1) rfl _ _ rfl elInt zh7 zC_one rfl (zN.o.keep (n:=wr.heap.size) Bw) rfl rfl rfl (sl_z1 (x:=g.fin) (zat _ _ _ Mcv)) McK Mcw Mcw ?_);intro v3 w4 h1 h2 h3)
        go_round
        case rel=>
         refine⟨q+1,by omega,by go_num,by rw[iJ.o,<-List.append_assoc];exact h1,?_,fun g hg=>?_⟩
         ·exact gr_then (gr_then BH.o (W':=wr.alloc _) ⟨rfl,rfl,rfl,by simp,fun j hj _=>Below.heap_alloc _ _ j hj⟩ (row':=none) (fun g hg=>by cases hg)) h2 iL.o
         ·rcases h3 g hg with h|h
          ·exact iL.o g h
          ·simp at h;exact .inr Mcq
        case measure=>simp[intOf];omega
       ·have iJ:Hid (zec place (gs.take (q+1))=en):=by show _=_;rw[gW.o,hs];simp[oY]
        have Ay:g.fin<0:=Mcq;exact MaE
     ·have Nb:¬(q:Int)<(ps.length:Int):=Mcq;have dw:gs.take q=gs:=List.take_of_length_le Md8;rw[dw]at zN fY;have Bc:(p1++zec place (gs.take q)).length=(p1++zec place gs).length:=by rw[dw]
      rw[Bc];have lK:Hid (zeT laws ds place (ds.take (k+1))=p1++zec place gs):=by show _=_;rw[dI.o,Fv.o];simp
      have gR:(p1++zec place gs).length<=100*(k+1):=by
       have:=cv.o;rw[List.length_append,Fv.o,List.length_append];simp only[List.length_singleton];omega
      have fF:=zHi gR;clear gR;generalize p1++zec place gs=p2 at*;clear dw Bc py aK;go_wp2_with fail
      go_round
      case rel=>exact⟨k+1,by have:=ak.o;omega,by go_num,by rw[lK.o];exact zN.o,by show _<=_;rw[lK.o];exact fF.o,zd9 Qc (fun g hg=>(O4.o.ge g hg).1) BH.o (aJ.o.trans (dH.o.mono eA))⟩
      case measure=>have:=ak.o;simp only[intOf];omega
   ·have ar:¬(k:Int)<(ds.length:Int):=Mcq;have dw:ds.take k=ds:=List.take_of_length_le Mcq;have gR:=cv.o;have iz:k=ds.length:=Mcq;obtain⟨J6,dK⟩:=yH2 iz dw;clear dw iz ac hB qI;go_wp2_with fail
    go_meet
    have ho:=HO.o;have hl:=cv.o;rw[dK.o]at ho hl;refine⟨by rw[dK.o];exact ho,by rw[<-J6.o];exact hl,HB.o⟩
 case rest=>
  obtain⟨ac,ci,hB⟩:=hcut;obtain⟨A8,c8,rfl,_,_⟩:=ac.sl zh7;have hsz:=hB.size;obtain⟨eo,HB,FH⟩:=yH3 ac hB ((hB.block _ jZ).trans iQ.o);obtain⟨xs,bv⟩:=Qd (zeT laws ds place ds)
  rw[<-bv]at eo ci⊢;have cd:=zHi bv;have pf:xs.length<=1000000000:=Mcq;obtain⟨Fm,BX⟩:=yH2 pf ci;clear ac hB bv ci pf
  go_upto_block 4 with(first
   |(go_at_call 28
     go_must(refine(sortZ_any (.slice A8 xs.length c8) xs wq.heap.size _ eo.o Fm.o).mono ?_)
     rintro e w2 ⟨rfl,L,s1,s2,s3,s4⟩;obtain⟨S1,S2,S3,S4⟩:=yH4 s1 s2 s3 s4
     clear s1 s2 s3 s4)
   |(go_at_call 29
     go_must(refine(compZ_any (.slice A8 xs.length c8) L wq.heap.size _ S3.o (by rw[S1.o.length_eq];exact Fm.o)).mono ?_)
     rintro e w3 ⟨v9,rfl,t1,t2⟩;obtain⟨A9,c9,rfl,_,_⟩:=t1.sl zh7;obtain⟨T1,T2⟩:=yH2 t1 t2
     clear t1 t2))
  have bC:=zd9 Qc (fun g hg=>(eo.o.ge g hg).1) S4.o HB.o;have av:=zd9 Qc (fun g hg=>(S3.o.ge g hg).1) T2.o bC;have oP:=znl S2.o;have bh:∀x,x∈Lib.compact L↔x∈zeT laws ds place ds:=fun x=>(znk L x).trans (by rw[<-cd.o];exact S1.o.mem_iff)
  have br:=Lib.compact_length_le L;obtain⟨aJ,Bj,jd⟩:=yH3 av oP bh;have eA:=av.size;have Ld:(Lib.compact L).length<=100000:=by
   have h1:=BX.o;have h2:=S1.o.length_eq;omega
  generalize Lib.compact L=D at*;have qG:=(av.block _ jZ).trans iQ.o;have dW:=zHi qG;clear bC av oP bh br eo HB FH S1 S2 S3 S4 T2 qG;have IR:=zHi (fun x (hx:x∈D)=>og.o HE.o x ((jd.o x).1 hx));have rA:Hid (∀W,Qa w3 W->Sl W 1 zC A9 D):=zHi fun W hW=>by
   obtain⟨A',c',e',h',_⟩:=T1.o.sl zh7;simp only[Value.slice.injEq]at e';rw[e'.1];exact h'.keep hW
  clear T1 og;go_wp2_with fail
  go_loopw [13,86] (fun v i wr=>∃(k:Nat) (txs:List TX),k<=D.length/\i=.int .i64 k/\OwnS wr w3.heap.size 49 2 TX.cells v txs/\Hid (HsAt wr txs)/\Hid (zbO (hOn laws ds place) D []=txs.map txP++zbO (hOn laws ds place) (D.drop k) (befT txs))/\Hid (txs.length<=k)/\Qa w3 wr) (fun _ i _=>D.length-(intOf i).toNat)
  case atStart=>exact⟨0,[],Nat.zero_le _,rfl,OwnS.nil,fun x hx=>by simp at hx,rfl,Qc,Qb⟩
  case round=>
   obtain⟨k,txs,hk,rfl,ac,ig,Ci,rF,hB⟩:=hrel;obtain⟨VA,vc,rfl,gH,kf⟩:=ac.sl zmo;have yY:=hB.size;obtain⟨HO,HB⟩:=yH2 ac hB;have qI:=(hB.block _ (zab dW.o)).trans dW.o;have l7:=zHi gH;by_cases aa:k<D.length
   ·obtain⟨b9,o9,K5,eV,lh⟩:=(rA.o wr hB).at aa;subst K5;have oW:=IR.o D[k] (List.getElem_mem aa);have ic:=Ci.o;rw[List.drop_eq_getElem_cons aa,zbO]at ic;have i0:wr.cell? ⟨b9,o9+k,none⟩=some (.int .i64 D[k]):=by have:=lh 0 _ rfl;simpa using this
    generalize D[k]=day at*;have fS:=zHi (fun W (h:Qa w W)=>tX.o day W h);have fP:=aA.o HE.o day;have hH:hOn laws ds place day=zbW (zco laws ds day).1 place day:=by unfold hOn;rw[fP]
    unfold zhs at fS;rw[hH]at ic;generalize zco laws ds day=R at*;obtain⟨ik,ak,Bv⟩:=yH3 ic aa oW;obtain⟨r0,r1⟩:=zbj qI;have LP:=zab qI;have ar:(k:Int)<(D.length:Int):=Mcq;have aR:(0:Int)<=(k:Int):=Mcq;clear lh ac hB qI ic oW fP hH gH Ci
    go_upto_region 25 with(first
     |(go_at_call 30;go_must(refine(zbQ _ _).mono ?_);rintro e wz ⟨rfl,rfl⟩;rw[Bv.o])
     |(go_at_call 19
       go_must(refine(fS.o _ (aE.o.trans ((aJ.o.trans (HB.o.mono eA)).mono aZ))).mono ?_)
       rintro e w5 ⟨base,b2,la,co,rfl,aW,hW,eY,⟨last,hg⟩,kk,mR,hf⟩;obtain⟨HW,dH,HG,HF⟩:=yH4 hW eY hg hf
       clear hW eY hg hf))
    obtain⟨Bk,dd,cc,pp,wl,rr,mv,tv,ps,aN,hC,hP,hT⟩:=HW.o;have cg:=HF.o.graves;have cu:=zHi (fun W (hB:Qa w5 W)=>zjD base b2 R.1 la co place day W (hC.keep hB) (hT.keep hB) Mcq);have ke:=dH.o.size;have KY:=zab hC;clear i0 r0 r1 LP;cases bf:zaS R.1 place day with
    |none=>
     have mW:zbW R.1 place day=[]:=by unfold zbW;rw[bf]
     rw[bf]at cu;rw[mW]at ik;have BN:=zHi (fun W (h:Qa wr W) x hx=>And.intro ((ig.o x hx).1.keep h) (ig.o x hx).2);clear hC hP hT bf mW aN;go_upto_region 29 with(go_at_call 31;go_must(refine(cu.o _ Bw).mono ?_);rintro e wz ⟨rfl,z,rfl⟩;simp only[zkp,Option.map_none])
     clear BN;have bR:=zHi (show Qa wr (w5.ext z) from zaZ dH.o z);have iO:=zHi (show Ro (w5.ext z) 59 zaa none ([]:Parts) from Ro.nil);have tT:=zHi (show(([]:Parts)).length<=100000 from by simp);have rj:=zHi (show HsAt (w5.ext z) txs from fun x hx=>⟨(ig.o x hx).1.keep bR.o,(ig.o x hx).2⟩);have fG:=zHi (HO.o.keep bR.o);have au:=zHi (HB.o.trans (bR.o.mono yY));have vV:=zHi (l7.o.keep bR.o);generalize w5.ext z=W6 at*;have tw:=au.o.size;have nW:=bR.o.size;have EN:txs.length<=100000:=by have:=rF.o;omega
     clear HO HB l7 ig cu;by_cases lz:txs.length=0
     ·have ka:¬(0:Int)<(txs.length:Int):=Mcq;have dA:befT txs=[]:=by rw[List.eq_nil_of_length_eq_zero lz];rfl
      have jj:=zHi dA;clear lz dA;go_upto_if 123 with(go_at_call 32;go_must(refine(zkQ ([]:Parts) [] none none 0 0 _ (Ro.sl zai (iO.o.keep (n:=W6.heap.size) Bw)) Sl.nil tT.o Mcv).mono ?_);rintro e wy ⟨r,rfl,hr,z2,rfl⟩;have HR:=zHi hr;clear hr)
      cases r
      ·go_wp2_with (at_builtin;go_loud(refine zas (v:=.slice VA txs.length vc) (n:=txs.length) (m:=1) rfl _ _ rfl elTen zmo zoi rfl (fG.o.keep (n:=W6.heap.size) Bw) rfl rfl rfl (sl_tx (x:=⟨day,([]:Parts),none,0⟩) (zat _ _ _ Mdi)) McK Mcq McA ?_);intro v3 w7 h1 h2 h3)
       go_round
       case rel=>
        have df:¬([]:Parts)=befT txs:=fun h=>by have:=HR.o.2 (by first|exact h.trans jj.o|exact True.intro);cases this
        exact MG
       case measure=>have:=ak.o;simp only[intOf];omega
      ·exact Mb4
     ·have ka:(0:Int)<(txs.length:Int):=Mcq;obtain⟨i9,mP⟩:∃i,txs.length=i+1:=⟨txs.length-1,by omega⟩
      have jI:=zny mP Mcq;have eG:(0:Int)<=(i9:Int):=Mcq;have qi:(i9:Int)<(txs.length:Int):=Mcq;have cy:=bef_at mP;obtain⟨vb,vo,Dt,dg,nr⟩:=vV.o.at (k:=i9) Mcq;have yf:=rj.o (txs[i9]' Mcq) (List.getElem_mem _);have c1:W6.cell? ⟨vb,vo+i9*2+1,none⟩=some (.slice (txs[i9]' Mcq).A (txs[i9]' Mcq).hs.length (txs[i9]' Mcq).c):=nr 1 _ rfl;generalize txs[i9]' Mcq=tx at*;obtain⟨pJ,vC⟩:=yH2 cy yf;subst Dt;clear cy yf nr mP lz;go_upto_if 123 with(go_at_call 32;go_must(refine(zkQ ([]:Parts) tx.hs none tx.A 0 tx.c _ (Ro.sl zai (iO.o.keep (n:=W6.heap.size) Bw)) (Ro.sl zai (vC.o.1.keep (n:=W6.heap.size) Bw)) tT.o vC.o.2).mono ?_);rintro e wy ⟨r,rfl,hr,z2,rfl⟩;have HR:=zHi hr;clear hr)
      cases r
      ·go_wp2_with (at_builtin;go_loud(refine zas (v:=.slice (some ⟨vb,vo,none⟩) txs.length vc) (n:=txs.length) (m:=1) rfl _ _ rfl elTen zmo zoi rfl (fG.o.keep (n:=W6.heap.size) Bw) rfl rfl rfl (sl_tx (x:=⟨day,([]:Parts),none,0⟩) (zat _ _ _ Mdi)) McK Mcq McA ?_);intro v3 w7 h1 h2 h3)
       go_round
       case rel=>
        have df:¬([]:Parts)=befT txs:=fun h=>by have:=HR.o.2 (by first|exact h.trans pJ.o|exact True.intro);cases this
        exact MG
       case measure=>have:=ak.o;simp only[intOf];omega
      ·exact Mb3
    |some i=>
     obtain⟨T,g,ib,ia,aK,bL,jS,_⟩:=zex hT bf;have mW:zbW R.1 place day=g.holders:=by unfold zbW;rw[bf];simp only[bL]
     rw[bf]at cu;rw[mW]at ik;have vv:Hid (∀W,Qa w5 W->Calls Tryz.prog 31 #[.pointer (some ⟨b2,0,none⟩),.string place,.int .i64 day] W (Ret W (.pointer (some ⟨T,0,none⟩)))):=zHi fun W hB=>by
      have:=cu.o W hB;simpa only[zkp,Option.map_some,ia]using this
     have mM:=HF.o.held g (List.mem_of_getElem? aK);obtain⟨H,aI,D9,dc,frm,t1,t2,t3,t4,t5,t6,t7⟩:=jS;have cZ:=zab t1;unfold zb1 at t1;obtain⟨-,-,-,-,g4⟩:=cF5 t1;have oy:=zHi t5;have jw:g.holders.length<=100000:=Mcq;have om:=zHi jw;clear hC hP hT bf mW aN cu ib ia aK bL t1 t2 t3 t4 t5 t6 t7 mM jw;go_upto_region 29 with(go_at_call 31;go_must(refine(vv.o _ Bw).mono ?_);rintro e wz ⟨rfl,z,rfl⟩)
     have cu:=vv;have bR:=zHi (show Qa wr (w5.ext z) from zaZ dH.o z);have iO:=zHi (show Ro (w5.ext z) 59 zaa H g.holders from oy.o.keep (zaq w5 z));have tT:=zHi (show(g.holders).length<=100000 from om.o);have rj:=zHi (show HsAt (w5.ext z) txs from fun x hx=>⟨(ig.o x hx).1.keep bR.o,(ig.o x hx).2⟩);have fG:=zHi (HO.o.keep bR.o);have au:=zHi (HB.o.trans (bR.o.mono yY));have vV:=zHi (l7.o.keep bR.o);generalize w5.ext z=W6 at*;have tw:=au.o.size;have nW:=bR.o.size;have EN:txs.length<=100000:=by have:=rF.o;omega
     clear HO HB l7 ig cu;by_cases lz:txs.length=0
     ·have ka:¬(0:Int)<(txs.length:Int):=Mcq;have dA:befT txs=[]:=by rw[List.eq_nil_of_length_eq_zero lz];rfl
      have jj:=zHi dA;clear lz dA;go_upto_if 123 with(go_at_call 32;go_must(refine(zkQ g.holders [] H none aI 0 _ (Ro.sl zai (iO.o.keep (n:=W6.heap.size) Bw)) Sl.nil tT.o Mcv).mono ?_);rintro e wy ⟨r,rfl,hr,z2,rfl⟩;have HR:=zHi hr;clear hr)
      cases r
      ·go_wp2_with (at_builtin;go_loud(refine zas (v:=.slice VA txs.length vc) (n:=txs.length) (m:=1) rfl _ _ rfl elTen zmo zoi rfl (fG.o.keep (n:=W6.heap.size) Bw) rfl rfl rfl (sl_tx (x:=⟨day,g.holders,H,aI⟩) (zat _ _ _ Mdi)) McK Mcq McA ?_);intro v3 w7 h1 h2 h3)
       go_round
       case rel=>
        have df:¬g.holders=befT txs:=fun h=>by have:=HR.o.2 (by first|exact h.trans jj.o|exact True.intro);cases this
        exact MH
       case measure=>have:=ak.o;simp only[intOf];omega
      ·exact Mb4
     ·have ka:(0:Int)<(txs.length:Int):=Mcq;obtain⟨i9,mP⟩:∃i,txs.length=i+1:=⟨txs.length-1,by omega⟩
      have jI:=zny mP Mcq;have eG:(0:Int)<=(i9:Int):=Mcq;have qi:(i9:Int)<(txs.length:Int):=Mcq;have cy:=bef_at mP;obtain⟨vb,vo,Dt,dg,nr⟩:=vV.o.at (k:=i9) Mcq;have yf:=rj.o (txs[i9]' Mcq) (List.getElem_mem _);have c1:W6.cell? ⟨vb,vo+i9*2+1,none⟩=some (.slice (txs[i9]' Mcq).A (txs[i9]' Mcq).hs.length (txs[i9]' Mcq).c):=nr 1 _ rfl;generalize txs[i9]' Mcq=tx at*;obtain⟨pJ,vC⟩:=yH2 cy yf;subst Dt;clear cy yf nr mP lz;go_upto_if 123 with(go_at_call 32;go_must(refine(zkQ g.holders tx.hs H tx.A aI tx.c _ (Ro.sl zai (iO.o.keep (n:=W6.heap.size) Bw)) (Ro.sl zai (vC.o.1.keep (n:=W6.heap.size) Bw)) tT.o vC.o.2).mono ?_);rintro e wy ⟨r,rfl,hr,z2,rfl⟩;have HR:=zHi hr;clear hr)
      cases r
      ·go_wp2_with (at_builtin;go_loud(refine zas (v:=.slice (some ⟨vb,vo,none⟩) txs.length vc) (n:=txs.length) (m:=1) rfl _ _ rfl elTen zmo zoi rfl (fG.o.keep (n:=W6.heap.size) Bw) rfl rfl rfl (sl_tx (x:=⟨day,g.holders,H,aI⟩) (zat _ _ _ Mdi)) McK Mcq McA ?_);intro v3 w7 h1 h2 h3)
       go_round
       case rel=>
        have df:¬g.holders=befT txs:=fun h=>by have:=HR.o.2 (by first|exact h.trans pJ.o|exact True.intro);cases this
        exact MH
       case measure=>have:=ak.o;simp only[intOf];omega
      ·exact Mb3
   ·have ar:¬(k:Int)<(D.length:Int):=Mcq;have ic:=Ci.o;rw[List.drop_of_length_le Mcq,zbO,List.append_nil]at ic;have ik:=zHi ic;clear ic ac hB qI gH;go_wp2_with fail
    go_ret2
    exact⟨aE.o.trans ((aJ.o.trans (HB.o.mono eA)).mono aZ),.inr ⟨by first|rfl|exact HE.o,VA,vc,txs,D,rfl,l7.o,fun x hx=>(ig.o x hx).1.sl zai,Bj.o,jd.o,ik.o.symm⟩⟩
