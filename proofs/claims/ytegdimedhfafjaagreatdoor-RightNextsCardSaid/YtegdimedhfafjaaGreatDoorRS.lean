import Derived.Test.YtegdimedhfafjaaGreatDoorOB
set_option linter.all false
set_option maxRecDepth 100000
set_option maxHeartbeats 4000000
namespace Go.Proofs.YtegdimedhfafjaaGreatDoor
open Go.RowKit
attribute [local go_sem] World.cell?_alloc_mark zaf za5 zao za8 zav zaw zax zay zaz za0 za1
section
open Go.Shelf
attribute [local go_sem] zaq zad
theorem zng(l:List Rec)(A:Option Addr)(c:Nat)(w:World)(hc:l.length<=c)(hl:l.length<=1000)(hk:∀x∈l,x.kind≠2)(hS:Sl w 8 Rec.cells A l):
 Calls Tryz.prog 78 #[.slice A l.length c] w (Ret w (.bool false)):=by
 have cX:= @run_makeMap Tryz.prog;obtain⟨HS,HK⟩:=yH2 hS hk;clear hS hk;go_enter Tryz.func78,Tryz.ntmps78
 go_upto_region 3 with fail
 clear cX;go_loopw [13] (fun i wr=>∃k:Nat,k<=l.length/\i=.int .i64 k/\MapS wr w.heap.size ekS (fun v:Value=>v) ([]:List (ByteArray×Value))/\Below w.heap.size w wr) (fun i _=>l.length-(intOf i).toNat)
 case atStart=>exact⟨0,Nat.zero_le _,rfl,MapS.new w,Bw⟩
 case round=>
  obtain⟨k,hk,rfl,hm,hB⟩:=hrel;have HB:=zHi hB;have aE:=hB.size;by_cases aa:k<l.length
  ·obtain⟨b,off,hA,hb,ah⟩:=(HS.o.keep hB).at aa;have bQ:=HK.o _ (List.getElem_mem aa);have am:=zHi aa;generalize l[k]=x at*;obtain⟨kd,nm,ot,pl,dy,tl,nu,de⟩:=x;have i0:wr.cell? ⟨b,off+k*8,none⟩=some (.int .i64 kd):=ah 0 _ rfl;have i1:wr.cell? ⟨b,off+k*8+1,none⟩=some (.string nm):=ah 1 _ rfl;have i2:wr.cell? ⟨b,off+k*8+2,none⟩=some (.string ot):=ah 2 _ rfl;have i3:wr.cell? ⟨b,off+k*8+3,none⟩=some (.string pl):=ah 3 _ rfl;have i4:wr.cell? ⟨b,off+k*8+4,none⟩=some (.int .i64 dy):=ah 4 _ rfl;have i5:wr.cell? ⟨b,off+k*8+5,none⟩=some (.int .i64 tl):=ah 5 _ rfl;have i6:wr.cell? ⟨b,off+k*8+6,none⟩=some (.int .i64 nu):=ah 6 _ rfl;have i7:wr.cell? ⟨b,off+k*8+7,none⟩=some (.int .i64 de):=ah 7 _ rfl;have au:(k:Int)<(l.length:Int):=Mcm;have aP:(0:Int)<=(k:Int):=Mcm;have fD:(k:Int)<=(c:Int):=Mcm;simp only at bQ;have HM:=zHi hm;subst hA;clear ah hm hB aa;go_wp2_with fail
   go_round
   case rel=>exact⟨k+1,am.o,by go_num,HM.o.below (n:=wr.heap.size) Bw,HB.o.trans (Below.mono (B:=wr.heap.size) Bw aE)⟩
   case measure=>have:=am.o;simp only[intOf];omega
  ·have au:¬(k:Int)<(l.length:Int):=Mcm;obtain⟨W1,rfl⟩:∃x,x=wr:=⟨_,rfl⟩
   have hIs:w.heap.size<W1.heap.size:=hm.at.lt;obtain⟨DW,ww⟩:=zjx (P:=Tryz.prog) hm (t:=90) Tryz.underlying90;generalize hm.choose_spec.choose=cc at*;generalize hm.choose=ce at*;have BJ:=zHi ww;clear ww hB hm aa;go_upto_region 9 with fail
   clear DW;go_loopg [6] 1 (fun gg v wr=>RangeAt wr w.heap.size W1.heap.size ekS (fun v:Value=>v) ([]:List (ByteArray×Value)) []/\Below W1.heap.size W1 wr/\0<gg)
   case atStart=>exact⟨BJ.o,Bw,by omega⟩
   case round=>
    obtain⟨sQ,bE,bf⟩:=hrel;rcases zkX (P:=Tryz.prog) sQ 0 with⟨h0,hrun⟩|⟨i,p,w',hi,_⟩
    ·have qq:=zHi (HB.o.trans (bE.mono HB.o.size));clear sQ h0;go_wp2_with fail
     go_ret
     exact Ret.of rfl (qq.o.trans (Below.mono Bw qq.o.size))
    ·simp at hi
theorem zlW(l:List Rec)(A:Option Addr)(c:Nat)(w:World)(hc:l.length<=c)(hl:l.length<=1000)(hk:∀x∈l,x.kind≠3)(hS:Sl w 8 Rec.cells A l):
 Calls Tryz.prog 79 #[.slice A l.length c] w (Ret w (.bool false)):=by
 have cX:= @run_makeMap Tryz.prog;obtain⟨HS,HK⟩:=yH2 hS hk;clear hS hk;go_enter Tryz.func79,Tryz.ntmps79
 go_upto_region 4 with fail
 clear cX;go_loopw [12] (fun i wr=>∃k:Nat,k<=l.length/\i=.int .i64 k/\Below w.heap.size w wr) (fun i _=>l.length-(intOf i).toNat)
 case atStart=>exact⟨0,Nat.zero_le _,rfl,Bw⟩
 case round=>
  obtain⟨k,hk,rfl,hB⟩:=hrel;have HB:=zHi hB;have aE:=hB.size;by_cases aa:k<l.length
  ·obtain⟨b,off,hA,hb,ah⟩:=(HS.o.keep hB).at aa;have bQ:=HK.o _ (List.getElem_mem aa);have am:=zHi aa;generalize l[k]=x at*;obtain⟨kd,nm,ot,pl,dy,tl,nu,de⟩:=x;have i0:wr.cell? ⟨b,off+k*8,none⟩=some (.int .i64 kd):=ah 0 _ rfl;have i1:wr.cell? ⟨b,off+k*8+1,none⟩=some (.string nm):=ah 1 _ rfl;have i2:wr.cell? ⟨b,off+k*8+2,none⟩=some (.string ot):=ah 2 _ rfl;have i3:wr.cell? ⟨b,off+k*8+3,none⟩=some (.string pl):=ah 3 _ rfl;have i4:wr.cell? ⟨b,off+k*8+4,none⟩=some (.int .i64 dy):=ah 4 _ rfl;have i5:wr.cell? ⟨b,off+k*8+5,none⟩=some (.int .i64 tl):=ah 5 _ rfl;have i6:wr.cell? ⟨b,off+k*8+6,none⟩=some (.int .i64 nu):=ah 6 _ rfl;have i7:wr.cell? ⟨b,off+k*8+7,none⟩=some (.int .i64 de):=ah 7 _ rfl;have au:(k:Int)<(l.length:Int):=Mcm;have aP:(0:Int)<=(k:Int):=Mcm;have fD:(k:Int)<=(c:Int):=Mcm;simp only at bQ;subst hA;clear ah hB aa;obtain⟨WZ,fg⟩:∃WZ,WZ=(wr.alloc (.cells #[.int .i64 kd,.string nm,.string ot,.string pl,.int .i64 dy,.int .i64 tl,.int .i64 nu,.int .i64 de] 58)).alloc (.cells #[.string pl,.int .i64 dy] 165):=⟨_,rfl⟩
   have z0:WZ.cell? ⟨wr.heap.size,0,none⟩=some (.int .i64 kd):=by rw[fg];simp[go_sem]
   have cZ:wr.heap.size+2=WZ.heap.size:=by rw[fg];simp
   have eP:Below wr.heap.size wr WZ:=by rw[fg];exact Bw
   have fA:=zHi (HB.o.trans (eP.mono aE));go_upto_region 7 with fail
   rw[<-fg];clear fg eP i0 i1 i2 i3 i4 i5 i6 i7;go_quiet (fail)
   go_wp2_with fail
   go_round
   case rel=>exact⟨k+1,am.o,by go_num,zd2 fA.o _⟩
   case measure=>have:=am.o;simp only[intOf];omega
  ·have au:¬(k:Int)<(l.length:Int):=Mcm;clear hB;exact Mbz
theorem tm_eql(W:World):(binOp .eql 89 (.map none) (.map none)).run Tryz.prog W=.ok (.bool true) W:=by
 kernel_rfl
theorem zlX(nm ot pl:ByteArray)(dy tl nu de q:Int)(A:Option Addr)(c:Nat)(w:World)(hc:1<=c)(yG:Int.tdiv 27720 de=q)(Kx:¬de=0)(hqb:0<=q/\q<=27720)(dw:0<=nu*q/\nu*q<=27720)(hS:Sl w 8 Rec.cells A [⟨3,nm,ot,pl,dy,tl,nu,de⟩]):
 Calls Tryz.prog 79 #[.slice A 1 c] w (Ret w (.bool false)):=by
 have cX:= @run_makeMap Tryz.prog;have HS:=zHi hS;have jI:IntKind.i64.wrap q=q:=McZ;have yJ:IntKind.i64.wrap (nu*q)=nu*q:=McZ;have LH:IntKind.i64.wrap (0+nu*q)=nu*q:=by rw[Int.zero_add];exact yJ
 have hvn:¬27720<nu*q:=Mcm;clear hS;go_enter Tryz.func79,Tryz.ntmps79
 go_upto_region 4 with fail
 clear cX;go_loopw [12] (fun i wr=>∃k:Nat,k<=1/\i=.int .i64 k/\(k=0->MapS wr w.heap.size ekSp (fun v:Value=>v) ([]:List (Spot×Value))/\MapS wr (w.heap.size+1) ekSp (fun v:Value=>v) ([]:List (Spot×Value)))/\Below w.heap.size w wr/\w.heap.size+2<=wr.heap.size) (fun i _=>1-(intOf i).toNat)
 case atStart=>
  refine⟨0,by omega,rfl,fun _=>⟨(MapS.new w).below (n:=w.heap.size+1) (zac (Below.refl _ _) _ Mcp) Mcp,?_⟩,Bw,by simp⟩;have:=MapS.new (ek:=ekSp) (ev:=fun v:Value=>v) (w.alloc (.map #[] 0));simpa using this
 case round=>
  obtain⟨k,hk,rfl,hm,hB,hsz⟩:=hrel;have HB:=zHi hB;have aE:=hB.size;by_cases aa:k<1
  ·obtain rfl:k=0:=by omega
   obtain⟨mI,sK⟩:=hm rfl;obtain⟨b,off,hA,hb,ah⟩:=(HS.o.keep hB).at (k:=0) Mcp;have i0:wr.cell? ⟨b,off,none⟩=some (.int .i64 3):=McT;have i1:wr.cell? ⟨b,off+1,none⟩=some (.string nm):=by have:=ah 1 _ rfl;simpa using this
   have i2:wr.cell? ⟨b,off+2,none⟩=some (.string ot):=by have:=ah 2 _ rfl;simpa using this
   have i3:wr.cell? ⟨b,off+3,none⟩=some (.string pl):=by have:=ah 3 _ rfl;simpa using this
   have i4:wr.cell? ⟨b,off+4,none⟩=some (.int .i64 dy):=by have:=ah 4 _ rfl;simpa using this
   have i5:wr.cell? ⟨b,off+5,none⟩=some (.int .i64 tl):=by have:=ah 5 _ rfl;simpa using this
   have i6:wr.cell? ⟨b,off+6,none⟩=some (.int .i64 nu):=by have:=ah 6 _ rfl;simpa using this
   have i7:wr.cell? ⟨b,off+7,none⟩=some (.int .i64 de):=by have:=ah 7 _ rfl;simpa using this
   have fD:(0:Int)<=(c:Int):=Mcm;obtain⟨EJ,kN⟩:=yH2 mI sK;subst hA;clear ah mI sK hB aa hm;obtain⟨WZ,fg⟩:∃WZ,WZ=(wr.alloc (.cells #[.int .i64 3,.string nm,.string ot,.string pl,.int .i64 dy,.int .i64 tl,.int .i64 nu,.int .i64 de] 58)).alloc (.cells #[.string pl,.int .i64 dy] 165):=⟨_,rfl⟩
   have eP:Below wr.heap.size wr WZ:=by rw[fg];exact Bw
   have cZ:WZ.heap.size=wr.heap.size+2:=by rw[fg];simp
   have z0:WZ.heap[wr.heap.size]?=some (.cells #[.int .i64 3,.string nm,.string ot,.string pl,.int .i64 dy,.int .i64 tl,.int .i64 nu,.int .i64 de] 58):=by rw[fg];exact zak (zas _ _ _ rfl)
   have z1:WZ.heap[wr.heap.size+1]?=some (.cells #[.string pl,.int .i64 dy] 165):=by rw[fg];exact zas _ _ _ Mcp
   go_upto_region 7 with fail
   rw[<-fg];have fA:=zHi eP;clear fg i0 i1 i2 i3 i4 i5 i6 i7 eP;obtain⟨y0,y1⟩:=cF2 z0;obtain⟨x0,x1⟩:=cF2 z1;obtain⟨C4,zB⟩:=yH2 z0 z1;clear z0 z1;have cY:∀q',(Instr.lookup 163 (.map (some (w.heap.size+1))) (.agg #[.string pl,.int .i64 dy]) false).run Tryz.prog (WZ.drewN q')=.ok (.map none) (WZ.drewN q'):=fun q'=>zb4 mapPM (kN.o.keep (w':=WZ.drewN q') (fA.o.block _ kN.o.at.lt)).at (pl,dy)
   have gT:∀q',(Instr.lookup 89 (.map none) (.string nm) false).run Tryz.prog (WZ.drewN q')=.ok (.bool false) (WZ.drewN q'):=fun q'=>zmX _ _
   have cX:= @run_makeMap Tryz.prog;go_quiet (fail)
   clear gT;have DM:∀W,(binOp .eql 89 (.map none) (.map none)).run Tryz.prog W=.ok (.bool true) W:=tm_eql;have pI:Below wr.heap.size wr ((WZ.drewN nq).alloc (.map #[] 0)):=fA.o.trans ((zac (zd2 (Below.refl _ _) _) _ (Nat.le_refl _)).mono Mcm);obtain⟨ph,tI⟩:=yH2 pI cZ;clear pI cZ;go_upto_region 10 with
    (at_mapUpdate
     obtain⟨w1,hrun,cm,cf,dq⟩:=zcs (P:=Tryz.prog) mapPM (kN.o.below ph.o) (pl,dy) (.map (some WZ.heap.size))
     go_loud(refine zdf rfl _ _ _ rfl _ _ _ rfl rfl rfl w1 hrun ?_))
   clear cX cY DM;have cZ:=tI.o;have yv:w1.heap.size=WZ.heap.size+1:=by rw[dq];simp[World.drewN]
   have FA:((WZ.drewN nq).alloc (.map #[] 0)).heap[WZ.heap.size]?=some (.map #[] 0):=zas _ _ _ (by simp[World.drewN]);have vS:∀j,j<WZ.heap.size+1->j≠w.heap.size+1->w1.heap[j]?=((WZ.drewN nq).alloc (.map #[] 0)).heap[j]?:=fun j hj ai=>cf.block j (by simp[World.drewN];exact hj) (by simpa using ai)
   have rE:w1.heap[wr.heap.size]?=_:=(vS _ Mcm Mcm).trans ((zak (w:=WZ.drewN nq) C4.o));have wt:w1.heap[wr.heap.size+1]?=_:=(vS _ Mcm Mcm).trans ((zak (w:=WZ.drewN nq) zB.o));have nB:=EJ.o.keep ((vS w.heap.size Mcm Mcm).trans (ph.o.block _ EJ.o.at.lt));have bE:Below w.heap.size w w1:=zaW ((HB.o.trans (ph.o.mono aE))) cf Mcm;have Cs:MapS w1 WZ.heap.size ekS evB ([]:List (ByteArray×Bool)):=⟨#[],0,(vS _ Mcm Mcm).trans FA,rfl,by simp,by simp⟩
   obtain⟨kk,fR⟩:∃kk,kk=WZ.heap.size:=⟨_,rfl⟩
   rw[<-fR]at cm Cs yv cZ;have pg:wr.heap.size+2<=kk:=Mcm;have bV:kk<w1.heap.size:=Mcm;clear fR cZ yv;have yA:(false=true\/(w1.drew.cell? ⟨wr.heap.size+1,0,none⟩=some (.string pl)/\w1.drew.cell? ⟨wr.heap.size+1,1,none⟩=some (.int .i64 dy)/\w1.drew.cell? ⟨wr.heap.size,1,none⟩=some (.string nm)/\(Instr.lookup 163 (.map (some (w.heap.size+1))) (.agg #[.string pl,.int .i64 dy]) false).run Tryz.prog w1.drew=.ok (.map (some kk)) w1.drew)):=by
    have h1:w1.drew.heap[wr.heap.size]?=_:=rE;have h2:w1.drew.heap[wr.heap.size+1]?=_:=wt;refine .inr ⟨by simp only[World.cell?,h2];rfl,by simp only[World.cell?,h2];rfl,by simp only[World.cell?,h1];rfl,?_⟩;have:=zb4 mapPM (cm.keep (w':=w1.drew) rfl).at (pl,dy);exact Mbm
   obtain⟨w5,mO,_,nF,Eg⟩:=zcs (P:=Tryz.prog) zo0 (Cs.keep (w':=w1.drew) rfl) nm true;have zN:∀j,j<kk->w5.heap[j]?=w1.heap[j]?:=fun j hj=>nF.block j (by show j<w1.heap.size;omega) Mcr
   have tQ:=(zN wr.heap.size Mcm).trans rE;have zY:=(zN (wr.heap.size+1) Mcm).trans wt;have hS5:=nB.keep (zN w.heap.size Mcm);have io:Below w.heap.size w w5:=zaW (zaH bE) nF Mcm;have LW:w1.heap.size<=w5.heap.size:=Nat.le_of_eq Eg.symm;have bl:=zHi io;clear zN nF io bE Cs cm nB rE wt FA vS dq cf;refine zaB 5 (fun bb w'=>bb=true\/(w'.cell? ⟨wr.heap.size+1,0,none⟩=some (.string pl)/\w'.cell? ⟨wr.heap.size+1,1,none⟩=some (.int .i64 dy)/\w'.cell? ⟨wr.heap.size,1,none⟩=some (.string nm)/\(Instr.lookup 163 (.map (some (w.heap.size+1))) (.agg #[.string pl,.int .i64 dy]) false).run Tryz.prog w'=.ok (.map (some kk)) w')) Mcn yA ?hrest
   case hrest=>
    intro hHeld;refine TkM 0 ?_;refine TkM 1 ?_;refine TkM 2 ?_;refine TkM 3 ?_;refine TkM 4 ?_;refine OnM 5 true fun K hK=>?_
    refine zmY rfl _ _ _ rfl _ _ _ rfl rfl rfl w5 mO ?_;refine NxM hK fun hHeld=>?_
    clear hK K;refine zaI Mcn ?_ _;clear hHeld mO yA Eg;go_upto_region 11 with fail
    have yB:(false=true\/(w5.drew.cell? ⟨wr.heap.size+1,0,none⟩=some (.string pl)/\w5.drew.cell? ⟨wr.heap.size+1,1,none⟩=some (.int .i64 dy)/\w5.drew.cell? ⟨wr.heap.size,6,none⟩=some (.int .i64 nu)/\w5.drew.cell? ⟨wr.heap.size,7,none⟩=some (.int .i64 de)/\(Instr.lookup 162 (.map (some w.heap.size)) (.agg #[.string pl,.int .i64 dy]) false).run Tryz.prog w5.drew=.ok (.int .i64 0) w5.drew)):=by
     have h1:w5.drew.heap[wr.heap.size]?=_:=tQ;have h2:w5.drew.heap[wr.heap.size+1]?=_:=zY;exact .inr ⟨by simp only[World.cell?,h2];rfl,by simp only[World.cell?,h2];rfl,by simp only[World.cell?,h1];rfl,by simp only[World.cell?,h1];rfl,zb4 mapPV (hS5.keep (w':=w5.drew) rfl).at (pl,dy)⟩
    obtain⟨w6,st,jj,eF,kw,mR,fm,bI,Hr⟩:=zkB (P:=Tryz.prog) mapPV (hS5.keep (w':=w5.drew) rfl) (pl,dy);have oH:(mget eqSp (pl,dy) ([]:List (Spot×Value))).getD (.int .i64 0)=.int .i64 0:=rfl;rw[oH]at eF kw mR fm;have zO:∀j,j<w5.heap.size->j≠w.heap.size->w6.heap[j]?=w5.heap[j]?:=fun j hj ai=>bI.block j hj (by simpa using ai)
    have sS:(false=true\/(w6.cell? ⟨wr.heap.size+1,0,none⟩=some (.string pl)/\w6.cell? ⟨wr.heap.size+1,1,none⟩=some (.int .i64 dy)/\w6.cell? ⟨wr.heap.size,6,none⟩=some (.int .i64 nu)/\w6.cell? ⟨wr.heap.size,7,none⟩=some (.int .i64 de)/\(Instr.lookup 162 (.map (some w.heap.size)) (.agg #[.string pl,.int .i64 dy]) false).run Tryz.prog w6=.ok (.int .i64 0) w6)):=by
     have h1:=(zO wr.heap.size Mcm Mcm).trans tQ;have h2:=(zO (wr.heap.size+1) Mcm Mcm).trans zY;refine .inr ⟨by simp only[World.cell?,h2];rfl,by simp only[World.cell?,h2];rfl,by simp only[World.cell?,h1];rfl,by simp only[World.cell?,h1];rfl,?_⟩;have:=zb4 mapPV kw.mapAt (pl,dy);exact Mbm
    obtain⟨w7,ym,sI,nG,Hs⟩:=zdK (P:=Tryz.prog) kw fm 162 (.int .i64 (nu*q));rw[mR]at sI;have LX:w5.heap.size<=w7.heap.size:=Nat.le_of_eq (Hs.trans Hr).symm;have Fj:∀j,j<w5.heap.size->j≠w.heap.size->w7.heap[j]?=w5.heap[j]?:=fun j hj ai=>(nG.block j (by have:w5.drew.heap.size=w5.heap.size:=rfl;omega) (by simpa using ai)).trans (zO j hj ai)
    have L8:(Instr.lookup 162 (.map (some w.heap.size)) (.agg #[.string pl,.int .i64 dy]) false).run Tryz.prog w7=.ok (.int .i64 (nu*q)) w7:=by
     have:=zb4 mapPV sI.at (pl,dy);exact Mbm
    have FF:=(Fj (wr.heap.size+1) Mcm Mcm).trans zY;obtain⟨j0,j1⟩:=cF2 FF;have Fb:Below w.heap.size w w7:=zaW (zaW (zaH bl.o) bI Mcm) nG Mcm;have bC:=zHi Fb;clear Fb sI Fj zO nG bI FF;refine zaB 14 (fun bb w'=>bb=true\/(w'.cell? ⟨wr.heap.size+1,0,none⟩=some (.string pl)/\w'.cell? ⟨wr.heap.size+1,1,none⟩=some (.int .i64 dy)/\w'.cell? ⟨wr.heap.size,6,none⟩=some (.int .i64 nu)/\w'.cell? ⟨wr.heap.size,7,none⟩=some (.int .i64 de)/\(Instr.lookup 162 (.map (some w.heap.size)) (.agg #[.string pl,.int .i64 dy]) false).run Tryz.prog w'=.ok (.int .i64 0) w')) Mcn yB ?hrest
    case hrest=>
     intro hHeld;refine TkM 0 ?_;refine TkM 1 ?_;refine TkM 2 ?_;refine TkM 3 ?_;refine TkM 4 ?_;refine TkM 5 ?_;refine TkM 6 ?_;refine TkM 7 ?_;refine TkM 8 ?_;refine TkM 9 ?_;refine TkM 10 ?_;refine TkM 11 ?_;refine OnM 12 false fun K hK=>?_
     refine zhh rfl _ _ rfl _ _ _ rfl rfl w6 eF ?_;refine NxM hK (fun hHeld=>?_) (sS);clear hK K;refine OnM 13 false fun K hK=>?_
     go_simp
     refine NxM hK (fun hHeld=>?_) (sS);clear hK K;refine OnM 14 true fun K hK=>?_
     refine zfX rfl _ _ _ rfl _ _ _ rfl rfl rfl w7 ym ?_;refine NxM hK fun hHeld=>?_
     clear hK K;refine zaI Mcn ?_ _;clear hHeld ym eF yB sS kw mR fm tQ zY hS5 oH;go_wp2_with fail
     go_round
     case rel=>exact⟨1,by omega,by go_num,fun h=>absurd h Mco,bC.o,by omega⟩
     case measure=>simp only[intOf];omega
  ·have au:¬(k:Int)<1:=Mcm;clear hB hm;exact Mbz
end
theorem zdU(s:ByteArray)(w:World)(hs:s.size<=100000):
 Calls Tryz.prog 61 #[.string s] w (Ret0 w (.bool (zcT s))):=by
 go_enter Tryz.func61,Tryz.ntmps61
 by_cases h0:s.size=0
 ·have H0:=zHi h0;have h1:(s.size:Int)<1:=Mcm;clear h0;go_wp2_with fail
  go_ret
  exact⟨by simp[zcT,h1],rfl⟩
 have Jk:0<s.size:=Mcm;have hg:(zdm s).getD 0 0=(s[0].toNat:Int):=by simp only[zdm,List.getD_eq_getElem?_getD,List.getElem?_map,Array.getElem?_toList];rw[Array.getElem?_eq_getElem Jk];rfl
 go_wp2_with (first
  |(go_at_call 97;refine(zjE _ _).mono ?_;intro e wq hq;rcases Ret0.bools hq with⟨rfl,⟨hb,rfl⟩|⟨hb,rfl⟩⟩<;>clear hq)
  |(go_at_call 98;refine(zly _ _).mono ?_;intro e wq hq;rcases Ret0.bools hq with⟨rfl,⟨hb,rfl⟩|⟨hb,rfl⟩⟩<;>clear hq))
 ·have HG:=zHi hg;clear hg;go_loop [3] (fun i=>∃k:Nat,1<=k/\k<=s.size/\i=.int .i64 k/\zje ((zdm s).drop 1)=zje ((zdm s).drop k)) (fun i=>s.size-(intOf i).toNat)
  case atStart=>exact⟨1,by omega,by omega,rfl,rfl⟩
  case round=>
   obtain⟨k,fQ,hk,rfl,hf⟩:=hrel;by_cases aa:k<s.size
   ·rw[zhV s k aa,show s.data[k]=s[k]from rfl]at hf;have HF:=zHi hf;clear hf;have HL:=zHi aa
    go_wp2_with (first
     |(go_at_call 97;refine(zjE _ _).mono ?_;intro e wq hq;rcases Ret0.bools hq with⟨rfl,⟨hb,rfl⟩|⟨hb,rfl⟩⟩<;>clear hq)
     |(go_at_call 98;refine(zly _ _).mono ?_;intro e wq hq;rcases Ret0.bools hq with⟨rfl,⟨hb,rfl⟩|⟨hb,rfl⟩⟩<;>clear hq))
    all_goals first
     |(go_round
       case rel=>exact⟨k+1,by omega,by have:=HL.o;omega,by go_num,by rw[HF.o,zje,if_neg (by simp[*])]⟩
       case measure=>have:=HL.o;simp[intOf];omega)
     |(go_ret
       exact⟨by rw[zcT,HG.o,HF.o,zje];simp[*],rfl⟩)
   ·have mJ:(zdm s).drop k=[]:=List.drop_eq_nil_of_le (by rw[zgO];omega);rw[mJ,zje]at hf;clear mJ;have HF:=zHi hf;clear hf;go_wp2_with fail
    go_ret
    exact⟨by rw[zcT,HG.o,HF.o];simp[*],rfl⟩
 ·go_ret
  exact⟨by rw[zcT,hg];simp[*],rfl⟩
 ·go_ret
  exact⟨by rw[zcT,hg];simp[*],rfl⟩
open Go.Shelf
attribute [local go_sem] zaq zad
theorem zdj(n:Int)(w:World):Calls Tryz.prog 58 #[.int .i64 n] w (Ret0 w (.bool (zb0 n))):=by
 go_enter Tryz.func58,Tryz.ntmps58
 exact Maq
theorem zh1(a b:Int)(w:World):Calls Tryz.prog 59 #[.agg #[.int .i64 a,.int .i64 b]] w (Ret w (.bool (za9 16 a b))):=by
 go_enter Tryz.func59,Tryz.ntmps59
 by_cases h1:inR b 1 16=true
 ·by_cases h2:inR a 0 b=true
  ·have x1:1<=b/\b<=16:=by simpa[inR]using h1
   have x2:0<=a/\a<=b:=by simpa[inR]using h2
   have g1:a.natAbs<=4611686018427387904:=Mcm;have g2:b.natAbs<=4611686018427387904:=Mcm;obtain⟨G1,G2⟩:=yH2 g1 g2;have hv:za9 16 a b=((Int.gcd a b:Int)==1):=by
    unfold za9;simp only[x1.1,x1.2,x2.1,x2.2,decide_true,Bool.true_and];rw[Bool.eq_iff_iff,beq_iff_eq,beq_iff_eq];omega
   have HV:=zHi hv;clear g1 g2 hv x1 x2
   go_wp2_with (first
    |(go_at_call 60;refine(zcx _ _ _ _).mono ?_;rintro e wq ⟨rfl,rfl⟩)
    |(go_at_call 96;refine(znK _ _ _ G1.o G2.o).mono ?_;rintro e w1 ⟨rfl,z1,rfl⟩))
   all_goals go_ret
   all_goals exact Ret.of (zaO (by rw[HV.o])) Bw
  ·have hv:za9 16 a b=false:=by
    unfold za9;simp[inR]at h1 h2⊢;omega
   exact MaT
 ·have hv:za9 16 a b=false:=by
   unfold za9;simp[inR]at h1⊢;omega
  exact MaT
def zdV(p:RPart):Bool:=za9 16 p.num p.den&&p.num != 0
def sumR:List RPart->Rat->Rat×Bool
 | [],o=>(o,true)
 |p::l,o=>if zdV p then sumR l (o+p.rat)else(o,false)
theorem zjT{k:Nat}{o:Rat}(hk:k<=1000)(h:IsN 720720 o)(h0:0<=o)(h1:o<=(k:Rat)):zaJ o:=by
 have hd:=zkk Mco h;have hn:0<=o.num:=Rat.num_nonneg.2 h0;have h2:=(Rat.le_iff o (k:Rat)).1 h1;have e1:((k:Rat)).num=(k:Int):=Rat.num_natCast k;have e2:((k:Rat)).den=1:=Rat.den_natCast k;rw[e1,e2]at h2;have h3:o.num<=(k:Int)*(o.den:Int):=Mee;have h4:(k:Int)*(o.den:Int)<=1000*720720:=Int.mul_le_mul Mcm Mcm Mcm Mcm;exact⟨by omega,by omega⟩
theorem zoj(l:List RPart)(A:Option Addr)(c:Nat)(w:World)(hl:l.length<=1000)(hS:Sl w 3 RPart.cells A l):Calls Tryz.prog 102 #[.slice A l.length c] w (Ret w (.tuple #[zaC (sumR l 0).1,.bool (sumR l 0).2])):=by
 have HS:=zHi hS;obtain⟨R,hR⟩:∃R,R=sumR l 0:=⟨_,rfl⟩
 rw[<-hR];have HR:=zHi hR;clear hS hR;go_enter Tryz.func102,Tryz.ntmps102
 go_upto_region 2 with(go_at_call 136;go_must(refine(ziq _).mono ?_);rintro e wq ⟨rfl,z0,rfl⟩)
 obtain⟨OB,gW⟩:∃OB,OB=w.heap.size+1+z0.os.size:=⟨_,rfl⟩
 obtain⟨W0,ao⟩:∃W0,W0=((w.alloc (.cells #[.int .i64 0,.int .i64 0] 56)).ext z0).alloc (.cells #[.int .i64 0,.int .i64 1] 56):=⟨_,rfl⟩
 have b0:W0.heap[w.heap.size]?=some (.cells #[.int .i64 0,.int .i64 0] 56):=by rw[ao];exact zak (zbv (zas _ _ _ rfl))
 have b1:W0.heap[OB]?=some (.cells #[.int .i64 0,.int .i64 1] 56):=by rw[ao];exact zas _ _ _ (by rw[gW];simp[zaf])
 have aO:Below w.heap.size w W0:=McW;rw[<-ao,<-gW];have ak:=zHi aO;have dC:w.heap.size<OB:=Mcm;clear ao aO gW;go_upto_region 3 with fail
 go_loopw [5] (fun i wr=>∃(k:Nat) (o:Rat),k<=l.length/\i=.int .i64 k/\Hid (R=sumR (l.drop k) o)/\Hid (IsN 720720 o/\0<=o/\o<=(k:Rat))/\Below w.heap.size w wr/\wr.heap[w.heap.size]?=some (.cells #[.int .i64 0,.int .i64 0] 56)/\wr.heap[OB]?=some (.cells #[.int .i64 o.num,.int .i64 o.den] 56)) (fun i _=>l.length-(intOf i).toNat)
 case atStart=>exact⟨0,0,Nat.zero_le _,rfl,by rw[List.drop_zero];exact HR.o,zHi ⟨zkj _,Rat.le_refl,by simp⟩,ak.o,b0,b1⟩
 case round=>
  obtain⟨k,o,hk,rfl,HX,HN,hB,g0,g1⟩:=hrel;have HB:=zHi hB;have aE:=hB.size;have x0:=zab g0;have x1:=zab g1;obtain⟨c0,c1⟩:=cF2 g1;obtain⟨t0,t1⟩:=cF2 g0;have f0:∀j,wr.frozen? ⟨w.heap.size,j,none⟩=false:=fun j=>by simp[World.frozen?,g0]
  by_cases aa:k<l.length
  ·obtain⟨b,off,rfl,hb,ah⟩:=(HS.o.keep hB).at aa;have hx:=HX.o;rw[List.drop_eq_getElem_cons aa,sumR]at hx;obtain⟨av,am⟩:=yH2 hx aa;generalize l[k]=x at*;obtain⟨nm,nu,de⟩:=x;have i1:wr.cell? ⟨b,off+k*3+1,none⟩=some (.int .i64 nu):=ah 1 _ rfl;have i2:wr.cell? ⟨b,off+k*3+2,none⟩=some (.int .i64 de):=ah 2 _ rfl;have au:(k:Int)<(l.length:Int):=Mcm;have aP:(0:Int)<=(k:Int):=Mcm;have tB:=zHi (fun W=>zh1 nu de W);clear ah hx aa hB;cases bO:za9 16 nu de
   ·have HE:Hid (R=(o,false)):=by show _=_;rw[av.o];simp[zdV,bO]
    rw[bO]at tB;exact MX
   ·rw[bO]at tB;by_cases hz:nu=0
    ·subst hz;have HE:Hid (R=(o,false)):=by show _=_;rw[av.o];simp[zdV]
     exact MX
    ·have jc:(nu==0)=false:=Mdy;have l7:=zbk bO;have Dz:=zep bO;have kZ:=l7.1;have AA:=l7.2.1;generalize hq:Rat.divInt nu de=q at*;have HE:Hid (R=sumR (l.drop (k+1)) (o+q)):=by show _=_;rw[av.o];unfold zdV RPart.rat;simp only;rw[bO,hq];simp[hz]
     have hn:=HN.o;have fQ:((k+1:Nat):Rat)=(k:Rat)+1:=Mcp;have kK:Hid (IsN 720720 (o+q)/\0<=o+q/\o+q<=((k+1:Nat):Rat)):=by
      refine zHi ⟨zkh hn.1 Dz,?_,?_⟩
      ·have:=l7.2.2.1;have:=hn.2.1;grind
      ·rw[fQ];have:=l7.2.2.2;have:=hn.2.2;grind
     have un:zaJ o:=zjT Mcm hn.1 hn.2.1 hn.2.2;have dP:zaJ q:=zjT (k:=1) Mcm Dz l7.2.2.1 (by simpa using l7.2.2.2);have jX:=zHi (fun W=>znL o q W un dP);unfold zaC at jX;rw[kZ,AA]at jX;clear l7 Dz kZ AA hq hn fQ un dP bO;go_upto_region 7 with(go_at_call 59;go_must(refine(tB.o _).mono ?_);rintro e wq ⟨rfl,z,rfl⟩)
     have j1:(wr.ext z).cell? ⟨b,off+k*3+1,none⟩=some (.int .i64 nu):=(za5 _ _ _ _ hb).trans i1;have j2:(wr.ext z).cell? ⟨b,off+k*3+2,none⟩=some (.int .i64 de):=(za5 _ _ _ _ hb).trans i2;have y0:(wr.ext z).heap[w.heap.size]?=_:=zbv g0;have y1:(wr.ext z).heap[OB]?=_:=zbv g1;have FX:Below w.heap.size w (wr.ext z):=zbm HB.o z;clear c0 c1 t0 t1 f0 i1 i2 g0 g1 hb aE x0 x1;generalize wr.ext z=WY at*;have fx:=zHi FX;obtain⟨c0,c1⟩:=cF2 y1;clear FX;refine zaB 6 (fun bb w'=>bb=true\/(w'.cell? ⟨OB,0,none⟩=some (.int .i64 o.num)/\w'.cell? ⟨OB,1,none⟩=some (.int .i64 o.den)/\w'.cell? ⟨b,off+k*3+1,none⟩=some (.int .i64 nu)/\w'.cell? ⟨b,off+k*3+2,none⟩=some (.int .i64 de))) Mcn (.inr ⟨c0,c1,j1,j2⟩) ?hrest
     case hrest=>
      intro hHeld;refine TkM 0 ?_;refine TkM 1 ?_;refine TkM 2 ?_;refine TkM 3 ?_;refine TkM 4 ?_;refine TkM 5 ?_;refine OnM 6 true fun K hK=>?_
      go_simp
      refine(jX.o _).mono ?_;rintro e w5 ⟨rfl,z5,rfl⟩;have v0:(WY.drew.ext z5).heap[w.heap.size]?=_:=zbv (w:=WY.drew) y0;have v1:(WY.drew.ext z5).heap[OB]?=_:=zbv (w:=WY.drew) y1;have aq:Below w.heap.size w (WY.drew.ext z5):=zbm (zaH fx.o) z5;refine NxM hK fun hHeld=>?_
      clear hK K;generalize WY.drew.ext z5=W5 at*;obtain⟨s0,s1⟩:=cF2 v1;have sf:∀j,W5.frozen? ⟨OB,j,none⟩=false:=fun j=>by simp[World.frozen?,v1]
      refine OnM 7 true fun K hK=>?_
      go_simp
      refine NxM hK fun hHeld=>?_
      clear hK K;refine zaI Mcn ?_ _;clear hHeld;go_wp2_with fail
      go_round
      case rel=>exact⟨k+1,o+q,am.o,by go_num,HE,kK,zaL (zaL aq Mcr _) Mcr _,J_ne Mcm (J_ne Mcm v0),zeo v1⟩
      case measure=>have:=am.o;simp only[intOf];omega
  ·have au:¬(k:Int)<(l.length:Int):=Mcm;have HE:Hid (R=(o,true)):=by show _=_;rw[HX.o,List.drop_of_length_le Mcm];rfl
   clear hB;go_wp2_with fail
   rw[HE.o];refine bodyPost_ret (v:=.tuple #[zaC o,.bool true]) ?_ rfl ?_
   ·exact zg2 rfl _ _ w.heap.size _ _ _ rfl rfl (zeo g0)
   ·exact Ret.of rfl (zaL (zaL HB.o Mcp _) Mcp _)
def sixV(a b c d e f:Int):Value:=.agg #[.int .i64 a,.int .i64 b,.int .i64 c,.int .i64 d,.int .i64 e,.int .i64 f]
def zkL(k:Int):Value:=if k=0 then sixV 1 0 2 1 1 1 else if k=1 then sixV 1 1 2 1 0 0 else if k=2 then sixV 1 1 0 0 0 0 else if k=3 then sixV 1 0 0 0 0 1 else if k=4 then sixV 0 1 2 1 0 0 else if k=8 then sixV 0 1 0 0 0 0 else sixV 0 1 1 0 0 0
theorem znh{fn:Func}{p:Tmp}(h:fn.results= #[.cell p 146])(tmps:Array Value)(w:World)(B:Nat)(a b c d e f:Int)(hp:tmps.getD p undef=.pointer (some ⟨B,0,none⟩))
 (h0:w.cell? ⟨B,0,none⟩=some (.int .i64 a))(h1:w.cell? ⟨B,1,none⟩=some (.int .i64 b))(h2:w.cell? ⟨B,2,none⟩=some (.int .i64 c))(h3:w.cell? ⟨B,3,none⟩=some (.int .i64 d))(h4:w.cell? ⟨B,4,none⟩=some (.int .i64 e))(h5:w.cell? ⟨B,5,none⟩=some (.int .i64 f)):
 (results fn tmps).run Tryz.prog w=.ok (sixV a b c d e f) w:=by
 rw[zdD h,hp];unfold sixV;go_simp
theorem zni(k:Int)(w:World):Calls Tryz.prog 99 #[.int .i64 k] w (Ret w (zkL k)):=by
 unfold zkL;go_enter Tryz.func99,Tryz.ntmps99
 by_cases h0:k=0
 ·rw[if_pos h0];subst h0;go_wp2_with fail
  refine bodyPost_ret (v:=sixV 1 0 2 1 1 1) ?_ rfl ?_
  ·exact MZ
  ·exact Ret.of rfl Bw
 rw[if_neg h0];have e0:(k==0)=false:=Mdg;by_cases h1:k=1
 ·rw[if_pos h1];subst h1;go_wp2_with fail
  refine bodyPost_ret (v:=sixV 1 1 2 1 0 0) ?_ rfl ?_
  ·exact MZ
  ·exact Ret.of rfl Bw
 rw[if_neg h1];have e1:(k==1)=false:=McP;by_cases h2:k=2
 ·rw[if_pos h2];subst h2;go_wp2_with fail
  refine bodyPost_ret (v:=sixV 1 1 0 0 0 0) ?_ rfl ?_
  ·exact MZ
  ·exact Ret.of rfl Bw
 rw[if_neg h2];have e2:(k==2)=false:=Mee;by_cases h3:k=3
 ·rw[if_pos h3];subst h3;go_wp2_with fail
  refine bodyPost_ret (v:=sixV 1 0 0 0 0 1) ?_ rfl ?_
  ·exact MZ
  ·exact Ret.of rfl Bw
 rw[if_neg h3];have e3:(k==3)=false:=by simpa using h3
 by_cases h4:k=4
 ·rw[if_pos h4];subst h4;go_wp2_with fail
  refine bodyPost_ret (v:=sixV 0 1 2 1 0 0) ?_ rfl ?_
  ·exact MZ
  ·exact Ret.of rfl Bw
 rw[if_neg h4];have e4:(k==4)=false:=by simpa using h4
 by_cases h8:k=8
 ·rw[if_pos h8];subst h8;go_wp2_with fail
  refine bodyPost_ret (v:=sixV 0 1 0 0 0 0) ?_ rfl ?_
  ·exact MZ
  ·exact Ret.of rfl Bw
 rw[if_neg h8];have e8:(k==8)=false:=by simpa using h8
 go_wp2_with fail
 refine bodyPost_ret (v:=sixV 0 1 1 0 0 0) ?_ rfl ?_
 ·exact MZ
 ·exact Ret.of rfl Bw
def zh6(p:RPart):Bool:=p.num==0&&p.den==0
theorem rBare_any(l:List RPart)(A:Option Addr)(c:Nat)(w:World)(hl:l.length<=1000000000)(hS:Sl w 3 RPart.cells A l):Calls Tryz.prog 101 #[.slice A l.length c] w (Ret0 w (.bool (l.all zh6))):=by
 have HS:=zHi hS;obtain⟨R,hR⟩:∃R,R=l.all zh6:=⟨_,rfl⟩
 rw[<-hR];have HR:Hid (R=(l.drop 0).all zh6):=Mei;clear hS hR;go_enter Tryz.func101,Tryz.ntmps101
 go_upto_region 2 with fail
 go_loopw [3] (fun i wr=>∃k:Nat,k<=l.length/\i=.int .i64 k/\w=wr/\Hid (R=(l.drop k).all zh6)) (fun i _=>l.length-(intOf i).toNat)
 case atStart=>exact⟨0,Nat.zero_le _,rfl,rfl,HR.o⟩
 case round=>
  obtain⟨k,hk,rfl,rfl,HX⟩:=hrel;by_cases aa:k<l.length
  ·obtain⟨b,off,rfl,hb,ah⟩:=HS.o.at aa;have hx:=HX.o;rw[List.drop_eq_getElem_cons aa,List.all_cons]at hx;obtain⟨av,am⟩:=yH2 hx aa;generalize l[k]=x at*;obtain⟨nm,nu,de⟩:=x;have i1:w.cell? ⟨b,off+k*3+1,none⟩=some (.int .i64 nu):=ah 1 _ rfl;have i2:w.cell? ⟨b,off+k*3+2,none⟩=some (.int .i64 de):=ah 2 _ rfl;have au:(k:Int)<(l.length:Int):=Mcm;have aP:(0:Int)<=(k:Int):=Mcm;clear ah hx aa;by_cases h1:nu=0
   ·subst h1;by_cases h2:de=0
    ·subst h2;have HE:Hid (R=(l.drop (k+1)).all zh6):=MdJ;go_wp2_with fail
     exact MK
    ·have h3:(de==0)=false:=Mee;have HE:Hid (R=false):=by show _=_;rw[av.o];simp[zh6,h3]
     exact M6
   ·have h3:(nu==0)=false:=McP;have HE:Hid (R=false):=by show _=_;rw[av.o];simp[zh6,h3]
    exact M6
  ·have au:¬(k:Int)<(l.length:Int):=Mcm;have HE:Hid (R=true):=by show _=_;rw[HX.o,List.drop_of_length_le Mcm];rfl
   exact M6
def zd0(l:List RPart)(frm:ByteArray)(k:Nat):Bool:=zcU (l.drop k) ((l.take k).map (·.name)).reverse&&(l.drop k).all fun p=>!zae p.name frm
def clash(l:List RPart)(x:ByteArray)(j m:Nat):Bool:=((l.take m).drop j).any fun p=>zae x p.name
theorem zoX{l:List RPart}{frm:ByteArray}{k:Nat}(h:k<l.length):zd0 l frm k=(!clash l l[k].name 0 k&&(!zae l[k].name frm&&zd0 l frm (k+1))):=by
 unfold zd0 clash;rw[List.drop_eq_getElem_cons h,zcU,List.all_cons,List.take_add_one,List.getElem?_eq_getElem h,List.drop_zero];have e:((l.take k).map (·.name)).reverse.any (zae l[k].name)=(l.take k).any fun p=>zae l[k].name p.name:=by
  rw[List.any_reverse,List.any_map];rfl
 rw[e];simp only[Option.toList_some,List.map_append,List.map_cons,List.map_nil,List.reverse_append,List.reverse_cons,List.reverse_nil,List.nil_append,List.singleton_append];cases(l.take k).any fun p=>zae l[k].name p.name<;>cases zae l[k].name frm<;>simp
theorem zoY{l:List RPart}{x:ByteArray}{j m:Nat}(h:j<m)(hm:m<l.length):clash l x j m=(zae x (l[j]' Mcm).name||clash l x (j+1) m):=by
 unfold clash;have hj:j<(l.take m).length:=Mc6;rw[List.drop_eq_getElem_cons hj,List.any_cons,List.getElem_take]
theorem clash_end{l:List RPart}{x:ByteArray}{j m:Nat}(h:¬j<m):clash l x j m=false:=by
 unfold clash;rw[List.drop_of_length_le Mc6];rfl
theorem zlY(a b:ByteArray):zae a b=zae b a:=by rw[Bool.eq_iff_iff,za2,za2];exact⟨Eq.symm,Eq.symm⟩
theorem zoZ(l:List RPart)(frm:ByteArray)(A:Option Addr)(c:Nat)(w:World)(hl:l.length<=1000000)(hS:Sl w 3 RPart.cells A l):Calls Tryz.prog 100 #[.slice A l.length c,.string frm] w (Ret w (.bool (zd0 l frm 0))):=by
 have HS:=zHi hS;obtain⟨R,hR⟩:∃R,R=zd0 l frm 0:=⟨_,rfl⟩
 rw[<-hR];have HR:=zHi hR;clear hS hR;go_enter Tryz.func100,Tryz.ntmps100
 go_upto_region 2 with fail
 go_loopw [5,6] (fun i _ wr=>∃k:Nat,k<=l.length/\i=.int .i64 k/\Hid (R=zd0 l frm k)/\Below w.heap.size w wr) (fun i _ _=>l.length-(intOf i).toNat)
 case atStart=>exact⟨0,Nat.zero_le _,rfl,HR.o,Below.refl _ _⟩
 case round=>
  obtain⟨k,hk,rfl,HX,hB⟩:=hrel;obtain⟨WR,oz⟩:∃WR,WR=wr:=⟨_,rfl⟩
  subst oz;have HB:=zHi hB;by_cases aa:k<l.length
  ·have hx:=HX.o;rw[zoX aa]at hx;obtain⟨av,am⟩:=yH2 hx aa;have au:(k:Int)<(l.length:Int):=Mcm;have aP:(0:Int)<=(k:Int):=Mcm;clear hx hB;go_upto_region 5 with fail
   go_loopw [6] (fun v6 wr=>∃j:Nat,j<=k/\v6=.int .i64 j/\Hid (R=(!clash l (l[k]'aa).name j k&&(!zae (l[k]'aa).name frm&&zd0 l frm (k+1))))/\Below w.heap.size w wr) (fun v6 _=>k-(intOf v6).toNat)
   case atStart=>exact⟨0,Nat.zero_le _,rfl,av.o,HB.o⟩
   case round=>
    obtain⟨j,hj,rfl,HY,gx⟩:=hrel;have fx:=zHi gx;have pf:=gx.size;have oM:=(HS.o.keep gx).at aa;by_cases hjk:j<k
    ·have cW:j<l.length:=Mcm;have hy:=HY.o;rw[zoY hjk aa]at hy;obtain⟨b,off,hA,hb,ah⟩:=oM;obtain⟨b2,off2,lU,_,wS⟩:=(HS.o.keep gx).at cW;obtain⟨rfl,rfl⟩:b=b2/\off=off2:=by rw[hA]at lU;simpa using lU
     have i1:wr.cell? ⟨b,off+k*3,none⟩=some (.string (l[k]'aa).name):=ah 0 _ rfl;have i0:wr.cell? ⟨b,off+j*3,none⟩=some (.string (l[j]'cW).name):=wS 0 _ rfl;obtain⟨vH,Ey⟩:=yH2 hy hjk;have DD:(j:Int)<(k:Int):=Mcm;have sB:(0:Int)<=(j:Int):=Mcm;have KW:(j:Int)<(l.length:Int):=Mcm;clear ah wS lU hy gx;subst hA;go_upto_region 7 with fail
     generalize cA:(l[k]'aa).name=n1 at*;generalize(l[j]'cW).name=n0 at*;cases hs:zae n0 n1
     ·have bo:(n0.toList==n1.toList)=false:=hs;have fT:zae n1 n0=false:=by rw[zlY];exact hs
      have HE:Hid (R=(!clash l n1 (j+1) k&&(!zae n1 frm&&zd0 l frm (k+1)))):=by show _=_;rw[vH.o,fT];rfl
      (refine zaj Mcn Mcn ?_
       repeat(first|go_big_quiet_skip|(go_big_quiet_want;go_big_quiet_op;first|go_big_quiet_on|(apply Exists.intro;refine⟨fun _=>?_,?_⟩;(fail);go_big_quiet_on)))
       refine wpQuiet_nil ?_
       rintro _ ⟨zq,rfl⟩)
      go_wp2_with fail
      go_round
      case rel=>exact⟨j+1,Ey.o,by go_num,by(first|exact HE|(rw[cA];exact HE)),zbm fx.o zq⟩
      case measure=>have:=Ey.o;simp only[intOf];omega
     ·have bo:(n0.toList==n1.toList)=true:=hs;have fT:zae n1 n0=true:=by rw[zlY];exact hs
      have HE:Hid (R=false):=by show _=_;rw[vH.o,fT];rfl
      (refine zaj Mcn Mcn ?_
       repeat(first|go_big_quiet_skip|(go_big_quiet_want;go_big_quiet_op;first|go_big_quiet_on|(apply Exists.intro;refine⟨fun _=>?_,?_⟩;(fail);go_big_quiet_on)))
       refine wpQuiet_nil ?_
       rintro _ ⟨zq,rfl⟩)
      go_wp2_with fail
      go_ret
      exact Ret.of (zaO HE.o.symm) (zbm fx.o zq)
    ·have DD:¬(j:Int)<(k:Int):=Mcm;have hy:=HY.o;rw[clash_end hjk]at hy;obtain⟨b,off,rfl,hb,ah⟩:=oM;have vH:=zHi hy;have i1:wr.cell? ⟨b,off+k*3,none⟩=some (.string (l[k]'aa).name):=ah 0 _ rfl;clear ah hy gx hjk hj av;generalize(l[k]'aa).name=n1 at*;cases hs:zae n1 frm
     ·have bo:(n1.toList==frm.toList)=false:=hs;have HE:Hid (R=zd0 l frm (k+1)):=by show _=_;rw[vH.o,hs];simp
      go_wp2_with fail
      go_round
      case rel=>exact⟨k+1,am.o,by go_num,HE.o,fx.o⟩
      case measure=>have:=am.o;simp only[intOf];omega
     ·have bo:(n1.toList==frm.toList)=true:=hs;have HE:Hid (R=false):=by show _=_;rw[vH.o,hs];simp
      go_wp2_with fail
      go_ret
      exact Ret.of (zaO HE.o.symm) fx.o
  ·have au:¬(k:Int)<(l.length:Int):=Mcm;have HE:Hid (R=true):=by show _=_;rw[HX.o];unfold zd0;rw[List.drop_of_length_le Mcm];rfl
   clear hB;exact MV
theorem zhQ(w:World):Calls Tryz.prog 103 #[] w (Ret w (.agg #[.int .i64 1,.int .i64 1])):=by
 go_enter Tryz.func103,Tryz.ntmps103
 go_wp2_with fail
 refine bodyPost_ret (v:=.agg #[.int .i64 1,.int .i64 1]) ?_ rfl ?_
 ·exact MbG
 ·exact Ret.of rfl Bw
theorem rQuoI(a b c d:Int)(w:World)(ha:a.natAbs<=1000000000)(hb:b.natAbs<=1000000000)(hc:c.natAbs<=1000000000)(hd:d.natAbs<=1000000000)(b8:0<b)(iv:0<d)(gC:0<c):Calls Tryz.prog 148 #[.agg #[.int .i64 a,.int .i64 b],.agg #[.int .i64 c,.int .i64 d]] w (Ret w (zaC (Rat.divInt (a*d) (b*c)))):=by
 have m1:=zaN ha hd;have m2:=zaN hc hb;have m3:=zaN hb hd;have m4:0<b*d:=Int.mul_pos b8 iv;obtain⟨m1,n1⟩:=m1;obtain⟨m2,n2⟩:=m2;obtain⟨m3,n3⟩:=m3;have w1:IntKind.i64.wrap (a*d)=a*d:=IntWalk.i64_in _ Mcm;have w2:IntKind.i64.wrap (c*b)=c*b:=IntWalk.i64_in _ Mcm;have w3:IntKind.i64.wrap (b*d)=b*d:=IntWalk.i64_in _ Mcm;have m5:=zaN ha hc;obtain⟨m5,n5⟩:=m5;have m6:=zaN hb hc;obtain⟨m6,n6⟩:=m6;have w5:IntKind.i64.wrap (a*c)=a*c:=IntWalk.i64_in _ Mcm;have w6:IntKind.i64.wrap (b*c)=b*c:=IntWalk.i64_in _ Mcm;have hs:(a*d).natAbs<=4611686018427387904:=Mcm;have hl:(b*c)<=4611686018427387904:=Mcm;have h4:0<(b*c):=Int.mul_pos b8 gC;obtain⟨HS,HL,H4⟩:=yH3 hs hl h4;clear hs hl m4 h4 ha hb hc hd;go_enter Tryz.func148,Tryz.ntmps148
 go_wp2_with (go_at_call 165;go_must(refine(ze8 _ _ _ HS.o H4.o HL.o).mono ?_);rintro e w1 ⟨rfl,z1,rfl⟩;simp only[zaC])
 refine bodyPost_ret (v:=zaC (Rat.divInt (a*d) (b*c))) ?_ rfl ?_
 ·exact Maz
 ·exact Ret.of rfl Bw
theorem rQuo_any(p q:Rat)(w:World)(cj:zaJ p)(dP:zaJ q)(h0:0<q):Calls Tryz.prog 148 #[zaC p,zaC q] w (Ret w (zaC (p/q))):=by
 rw[zjv p q h0];exact rQuoI _ _ _ _ _ cj.1 (by have:=cj.2;omega) dP.1 (by have:=dP.2;omega) (zbW p) (zbW q) (by have:=(Rat.lt_iff 0 q).1 h0;simpa using this)
def renT(n frm:ByteArray)(d:Deed):Bool:=zae d.frm n&&zae (zbg d) frm
def ableR(rd:List Deed)(dd:List ByteArray)(n frm:ByteArray):Bool:=!rd.any (renT n frm)&&(!noB n&&(!zae n frm&&!dd.any (zae n)))
theorem ableR_eq(s:St)(rd:List Deed)(h:s.renounce=rd.map fun d=>(d.frm,zbg d))(n frm:ByteArray):ableR rd s.dead n frm=zdX s n frm:=by
 unfold ableR zdX zaM;rw[h,List.any_map];show(!rd.any (renT n frm)&&(!noB n&&(!zae n frm&&!s.dead.any (zae n))))=(!noB n&&!zae n frm&&!s.dead.any (zae n)&&!rd.any (renT n frm))
 cases rd.any (renT n frm)<;>cases noB n<;>cases zae n frm<;>cases s.dead.any (zae n)<;>rfl
theorem rAble_any(rd:List Deed)(dd:List ByteArray)(n frm:ByteArray)(LA CA MA DA WA RA GA:Option Addr)(n0 c0 n1 c1 n2 c2 n3 c3 n4 c4 n5 c5 n6 c6:Nat)(w:World)(hl:rd.length<=100000)(nM:∀d∈rd,d.to≠[])(hS:SlW w 7 zdY RA rd)(bA:dd.length<=100000)(kS:dd.length<=c3)(hD:Sl w 1 sC DA dd):
 Calls Tryz.prog 170 #[.agg #[.slice LA n0 c0,.slice CA n1 c1,.slice MA n2 c2,.slice DA dd.length c3,.slice WA n4 c4,.slice RA rd.length c5,.slice GA n6 c6],.string n,.string frm] w (Ret w (.bool (ableR rd dd n frm))):=by
 obtain⟨fY,J0,ig⟩:=yH3 hS nM (fun W (h:Below w.heap.size w W)=>zeI dd n LA CA MA DA WA RA GA n0 c0 n1 c1 n2 c2 dd.length c3 n4 c4 rd.length c5 n6 c6 W bA kS (hD.keep h));obtain⟨R,hR⟩:∃R,R=ableR rd dd n frm:=⟨_,rfl⟩
 rw[<-hR];obtain⟨D,Fe⟩:∃D,D=dd.any (zae n):=⟨_,rfl⟩
 unfold ableR at hR;rw[<-Fe]at hR ig;have HR:Hid (R=(!(rd.drop 0).any (renT n frm)&&(!noB n&&(!zae n frm&&!D)))):=Mei;clear hS hR nM hD Fe;go_enter Tryz.func170,Tryz.ntmps170
 go_upto_region 1 with fail
 obtain⟨W0,ao⟩:∃W0,W0=w.alloc (.cells #[.slice LA n0 c0,.slice CA n1 c1,.slice MA n2 c2,.slice DA dd.length c3,.slice WA n4 c4,.slice RA rd.length c5,.slice GA n6 c6] 41):=⟨_,rfl⟩
 have b0:W0.heap[w.heap.size]?=some (.cells #[.slice LA n0 c0,.slice CA n1 c1,.slice MA n2 c2,.slice DA dd.length c3,.slice WA n4 c4,.slice RA rd.length c5,.slice GA n6 c6] 41):=Mdi;have aO:Below w.heap.size w W0:=McW;rw[<-ao];obtain⟨ak,HS⟩:=yH2 aO (fY.o.keep zb5 aO);obtain⟨k0,k1,k2,k3,k4,k5,k6⟩:=cF7 b0;clear ao b0 aO fY;go_upto_region 2 with fail
 go_loopw [7] (fun i wr=>∃k:Nat,k<=rd.length/\i=.int .i64 k/\W0=wr/\Hid (R=(!(rd.drop k).any (renT n frm)&&(!noB n&&(!zae n frm&&!D))))) (fun i _=>rd.length-(intOf i).toNat)
 case atStart=>exact⟨0,Nat.zero_le _,rfl,rfl,HR.o⟩
 case round=>
  obtain⟨k,hk,rfl,rfl,HX⟩:=hrel;by_cases aa:k<rd.length
  ·obtain⟨b,off,cs,rfl,hb,hr,ah⟩:=HS.o.at aa;have hx:=HX.o;rw[List.drop_eq_getElem_cons aa,List.any_cons]at hx;have ai:=J0.o _ (List.getElem_mem aa);obtain⟨av,am⟩:=yH2 hx aa;generalize rd[k]=x at*;obtain⟨B,c,hc,rfl,hP⟩:=hr;obtain⟨kd,dy,pl,fr,ts,cl,yr⟩:=x;simp only at ai hc hP ah;cases ts with
   |nil=>exact absurd rfl ai
   |cons p ts=>
    obtain⟨tb,tof,rfl,Hc,ur⟩:=hP.at (k:=0) (Nat.succ_pos _);obtain⟨pn,pu,pd⟩:=p;have t0:W0.cell? ⟨tb,tof,none⟩=some (.string pn):=MdK;have fK:zbg ⟨kd,dy,pl,fr,⟨pn,pu,pd⟩::ts,cl,yr⟩=pn:=rfl;have i3:=ah 3 _ rfl;have i4:=ah 4 _ rfl;have au:(k:Int)<(rd.length:Int):=Mcm;have aP:(0:Int)<=(k:Int):=Mcm;generalize eE:(⟨pn,pu,pd⟩::ts:List RPart).length=ln at*;have jD:(0:Int)<(ln:Int):=by rw[<-eE];simp
    have DG:0<ln:=Mcm;clear ah aa hx ai hP ur eE hc;cases dq:zae fr n
    ·have bo:(fr.toList==n.toList)=false:=dq;have HE:Hid (R=(!(rd.drop (k+1)).any (renT n frm)&&(!noB n&&(!zae n frm&&!D)))):=by show _=_;rw[av.o];simp[renT,dq]
     go_wp2_with fail
     exact MK
    ·have bo:(fr.toList==n.toList)=true:=dq;cases fT:zae pn frm
     ·have yw:(pn.toList==frm.toList)=false:=fT;have HE:Hid (R=(!(rd.drop (k+1)).any (renT n frm)&&(!noB n&&(!zae n frm&&!D)))):=by show _=_;rw[av.o];simp[renT,fK,fT]
      go_wp2_with fail
      exact MK
     ·have yw:(pn.toList==frm.toList)=true:=fT;have HE:Hid (R=false):=by show _=_;rw[av.o];simp[renT,fK,dq,fT]
      exact Ma4
  ·have au:¬(k:Int)<(rd.length:Int):=Mcm;have hx:=HX.o;rw[List.drop_of_length_le Mcm]at hx;have av:=zHi hx;clear hx;cases z1:noB n
   ·have y1:n.toList.isEmpty=false:=z1;have w1:¬n.toList=[]:=by simpa using y1
    cases dq:zae n frm
    ·have bo:(n.toList==frm.toList)=false:=dq;have HE:Hid (R=!D):=by show _=_;rw[av.o,z1,dq];simp
     go_wp2_with (go_at_call 111;go_must(refine(ig.o _ Mdh).mono ?_);rintro e wq ⟨rfl,z,rfl⟩)
     go_ret
     exact Ret.of (zaO HE.o.symm) (zbm ak.o z)
    ·have bo:(n.toList==frm.toList)=true:=dq;have HE:Hid (R=false):=by show _=_;rw[av.o,z1,dq];simp
     exact Ma4
   ·have y1:n.toList.isEmpty=true:=z1;have w1:n.toList=[]:=by simpa using y1
    have HE:Hid (R=false):=by show _=_;rw[av.o,z1];simp
    exact Ma4
def znj(dd:List ByteArray)(p:RPart):Bool:=dd.any (zae p.name)
theorem zkM(l:List RPart)(A:Option Addr)(c:Nat)(dd:List ByteArray)(LA CA MA DA WA RA GA:Option Addr)(n0 c0 n1 c1 n2 c2 n3 c3 n4 c4 n5 c5 n6 c6:Nat)(w:World)(hl:l.length<=1000000)(hS:Sl w 3 RPart.cells A l)(bA:dd.length<=100000)(kS:dd.length<=c3)(hD:Sl w 1 sC DA dd):
 Calls Tryz.prog 139 #[.agg #[.slice LA n0 c0,.slice CA n1 c1,.slice MA n2 c2,.slice DA dd.length c3,.slice WA n4 c4,.slice RA n5 c5,.slice GA n6 c6],.slice A l.length c] w (Ret w (.bool (l.any (znj dd)))):=by
 obtain⟨fY,ig⟩:=yH2 hS (fun x W (h:Below w.heap.size w W)=>zeI dd x LA CA MA DA WA RA GA n0 c0 n1 c1 n2 c2 dd.length c3 n4 c4 n5 c5 n6 c6 W bA kS (hD.keep h));obtain⟨R,hR⟩:∃R,R=l.any (znj dd):=⟨_,rfl⟩
 rw[<-hR];have HR:Hid (R=(l.drop 0).any (znj dd)):=Mei;clear hS hD hR;go_enter Tryz.func139,Tryz.ntmps139
 go_upto_region 1 with fail
 obtain⟨W0,ao⟩:∃W0,W0=w.alloc (.cells #[.slice LA n0 c0,.slice CA n1 c1,.slice MA n2 c2,.slice DA dd.length c3,.slice WA n4 c4,.slice RA n5 c5,.slice GA n6 c6] 41):=⟨_,rfl⟩
 have b0:W0.heap[w.heap.size]?=some (.cells #[.slice LA n0 c0,.slice CA n1 c1,.slice MA n2 c2,.slice DA dd.length c3,.slice WA n4 c4,.slice RA n5 c5,.slice GA n6 c6] 41):=Mdi;have aO:Below w.heap.size w W0:=McW;rw[<-ao];obtain⟨ak,HS⟩:=yH2 aO (fY.o.keep aO);have lT:=aO.size;have l0:=zab b0
 have HC:=zHi (fun(W':World) (h:Below W0.heap.size W0 W')=>(show W'.cell? ⟨w.heap.size,0,none⟩=some (.slice LA n0 c0)/\W'.cell? ⟨w.heap.size,1,none⟩=some (.slice CA n1 c1)/\W'.cell? ⟨w.heap.size,2,none⟩=some (.slice MA n2 c2)/\W'.cell? ⟨w.heap.size,3,none⟩=some (.slice DA dd.length c3)/\W'.cell? ⟨w.heap.size,4,none⟩=some (.slice WA n4 c4)/\W'.cell? ⟨w.heap.size,5,none⟩=some (.slice RA n5 c5)/\W'.cell? ⟨w.heap.size,6,none⟩=some (.slice GA n6 c6) from by
  refine⟨?_,?_,?_,?_,?_,?_,?_⟩<;>(refine(zah h l0).trans ?_;simp only[World.cell?,b0];rfl)))
 clear ao b0 aO fY;go_upto_region 2 with fail
 go_loopw [5] (fun i wr=>∃k:Nat,k<=l.length/\i=.int .i64 k/\Hid (R=(l.drop k).any (znj dd))/\Below W0.heap.size W0 wr) (fun i _=>l.length-(intOf i).toNat)
 case atStart=>exact⟨0,Nat.zero_le _,rfl,HR.o,Below.refl _ _⟩
 case round=>
  obtain⟨k,hk,rfl,HX,hB⟩:=hrel;have HB:=zHi hB;have aE:=hB.size;have bW:w.heap.size<wr.heap.size:=Mcm;obtain⟨d0,d1,d2,d3,d4,d5,d6⟩:=HC.o _ hB;by_cases aa:k<l.length
  ·obtain⟨b,off,rfl,hb,ah⟩:=(HS.o.keep hB).at aa;have hx:=HX.o;rw[List.drop_eq_getElem_cons aa,List.any_cons]at hx;obtain⟨av,am⟩:=yH2 hx aa;generalize l[k]=x at*;obtain⟨nm,nu,de⟩:=x;have i0:wr.cell? ⟨b,off+k*3,none⟩=some (.string nm):=ah 0 _ rfl;have au:(k:Int)<(l.length:Int):=Mcm;have aP:(0:Int)<=(k:Int):=Mcm;have vF:=zHi (ak.o.trans (hB.mono lT));have fV:=zHi (fun W (h:Below wr.heap.size wr W)=>ig.o nm W (vF.o.trans (h.mono vF.o.size)));clear ah hx aa hB;cases hd:dd.any (zae nm)
   ·have HE:Hid (R=(l.drop (k+1)).any (znj dd)):=by show _=_;rw[av.o];unfold znj;rw[hd];rfl
    rw[hd]at fV;clear hd;go_upto_region 4 with fail
    (refine zaj Mcn Mcn ?_
     repeat(first|go_big_quiet_skip|(go_big_quiet_want;go_big_quiet_op;first|go_big_quiet_on|(apply Exists.intro;refine⟨fun _=>?_,?_⟩;(go_at_call 111;exact quietx (fV.o _ Bw));go_big_quiet_on)))
     refine wpQuiet_nil ?_
     rintro _ ⟨zq,rfl⟩)
    go_wp2_with fail
    go_round
    case rel=>exact⟨k+1,am.o,by go_num,HE.o,zbm HB.o zq⟩
    case measure=>have:=am.o;simp only[intOf];omega
   ·have HE:Hid (R=true):=by show _=_;rw[av.o];unfold znj;rw[hd];rfl
    rw[hd]at fV;clear hd;go_upto_region 4 with fail
    (refine zaj Mcn Mcn ?_
     repeat(first|go_big_quiet_skip|(go_big_quiet_want;go_big_quiet_op;first|go_big_quiet_on|(apply Exists.intro;refine⟨fun _=>?_,?_⟩;(go_at_call 111;exact quietx (fV.o _ Bw));go_big_quiet_on)))
     refine wpQuiet_nil ?_
     rintro _ ⟨zq,rfl⟩)
    go_wp2_with fail
    go_ret
    exact Ret.of (zaO HE.o.symm) (zbm vF.o zq)
  ·have au:¬(k:Int)<(l.length:Int):=Mcm;have HE:Hid (R=false):=by show _=_;rw[HX.o,List.drop_of_length_le Mcm];rfl
   clear hB;go_wp2_with fail
   go_ret
   exact Ret.of (zaO HE.o.symm) (ak.o.trans (HB.o.mono lT))
