import Derived.Test.YtcfheecahnnhjaaGreatDoorOD
import Derived.Shelf.SortG.Plain
import Derived.Shelf.SortG.SortNone
set_option linter.all false
set_option maxRecDepth 100000
set_option maxHeartbeats 4000000
namespace Go.Proofs.YtcfheecahnnhjaaGreatDoor
open Go.RowKit Go.Shelf
attribute [local go_sem] World.cell?_alloc_mark zag za4 zar zaB zaw zax zay zaz za0 za1 za2
section
attribute [local go_sem] zas zad
theorem znl(l:List Rec)(A:Option Addr)(c:Nat)(w:World)(hc:l.length<=c)(hl:l.length<=1000)(hk:∀x∈l,x.kind≠2)(hS:Sl w 8 Rec.cells A l):
 Calls Tryz.prog 73 #[.slice A l.length c] w (Ret w (.bool false)):=by
 have ct:= @run_makeMap Tryz.prog;obtain⟨HS,HK⟩:=yH2 hS hk;clear hS hk;go_enter Tryz.func73,Tryz.ntmps73
 go_upto_region 3 with fail
 clear ct;go_loopw [13] (fun i wr=>∃k:Nat,k<=l.length/\i=.int .i64 k/\MapS wr w.heap.size ekS (fun v:Value=>v) ([]:List (ByteArray×Value))/\Below w.heap.size w wr) (fun i _=>l.length-(intOf i).toNat)
 case atStart=>exact⟨0,Nat.zero_le _,rfl,MapS.new w,Bw⟩
 case round=>
  obtain⟨k,hk,rfl,hm,hB⟩:=hrel;have HB:=zHi hB;have aI:=hB.size;by_cases ae:k<l.length
  ·obtain⟨b,off,hA,hb,ah⟩:=(HS.o.keep hB).at ae;have bV:=HK.o _ (List.getElem_mem ae);have am:=zHi ae;generalize l[k]=x at*;obtain⟨kd,nm,ot,pl,dy,tl,nu,de⟩:=x;have i0:wr.cell? ⟨b,off+k*8,none⟩=some (.int .i64 kd):=ah 0 _ rfl;have i1:wr.cell? ⟨b,off+k*8+1,none⟩=some (.string nm):=ah 1 _ rfl;have i2:wr.cell? ⟨b,off+k*8+2,none⟩=some (.string ot):=ah 2 _ rfl;have i3:wr.cell? ⟨b,off+k*8+3,none⟩=some (.string pl):=ah 3 _ rfl;have i4:wr.cell? ⟨b,off+k*8+4,none⟩=some (.int .i64 dy):=ah 4 _ rfl;have i5:wr.cell? ⟨b,off+k*8+5,none⟩=some (.int .i64 tl):=ah 5 _ rfl;have i6:wr.cell? ⟨b,off+k*8+6,none⟩=some (.int .i64 nu):=ah 6 _ rfl;have i7:wr.cell? ⟨b,off+k*8+7,none⟩=some (.int .i64 de):=ah 7 _ rfl;have ar:(k:Int)<(l.length:Int):=Mcu;have aT:(0:Int)<=(k:Int):=Mcu;have fu:(k:Int)<=(c:Int):=Mcu;simp only at bV;have HM:=zHi hm;subst hA;clear ah hm hB ae;go_wp2_with fail
   go_round
   case rel=>exact⟨k+1,am.o,by go_num,HM.o.below (n:=wr.heap.size) Bw,HB.o.trans (Below.mono (B:=wr.heap.size) Bw aI)⟩
   case measure=>have:=am.o;simp only[intOf];omega
  ·have ar:¬(k:Int)<(l.length:Int):=Mcu;obtain⟨W1,rfl⟩:∃x,x=wr:=⟨_,rfl⟩
   have JB:w.heap.size<W1.heap.size:=hm.at.lt;obtain⟨yK,pH⟩:=zgR (P:=Tryz.prog) hm (t:=78) Tryz.underlying78;generalize hm.choose_spec.choose=cc at*;generalize hm.choose=ce at*;have vJ:=zHi pH;clear pH hB hm ae;go_upto_region 9 with fail
   clear yK;go_loopg [6] 1 (fun gg v wr=>RangeAt wr w.heap.size W1.heap.size ekS (fun v:Value=>v) ([]:List (ByteArray×Value)) []/\Below W1.heap.size W1 wr/\0<gg)
   case atStart=>exact⟨vJ.o,Bw,by omega⟩
   case round=>
    obtain⟨mU,cA,aW⟩:=hrel;rcases zif (P:=Tryz.prog) mU 0 with⟨h0,hrun⟩|⟨i,p,w',hi,_⟩
    ·have lC:=zHi (HB.o.trans (cA.mono HB.o.size));clear mU h0;go_wp2_with fail
     go_ret
     exact Ret.of rfl (lC.o.trans (Below.mono Bw lC.o.size))
    ·simp at hi
theorem zme(l:List Rec)(A:Option Addr)(c:Nat)(w:World)(hc:l.length<=c)(hl:l.length<=1000)(hk:∀x∈l,x.kind≠3)(hS:Sl w 8 Rec.cells A l):
 Calls Tryz.prog 74 #[.slice A l.length c] w (Ret w (.bool false)):=by
 have ct:= @run_makeMap Tryz.prog;obtain⟨HS,HK⟩:=yH2 hS hk;clear hS hk;go_enter Tryz.func74,Tryz.ntmps74
 go_upto_region 4 with fail
 clear ct;go_loopw [12] (fun i wr=>∃k:Nat,k<=l.length/\i=.int .i64 k/\Below w.heap.size w wr) (fun i _=>l.length-(intOf i).toNat)
 case atStart=>exact⟨0,Nat.zero_le _,rfl,Bw⟩
 case round=>
  obtain⟨k,hk,rfl,hB⟩:=hrel;have HB:=zHi hB;have aI:=hB.size;by_cases ae:k<l.length
  ·obtain⟨b,off,hA,hb,ah⟩:=(HS.o.keep hB).at ae;have bV:=HK.o _ (List.getElem_mem ae);have am:=zHi ae;generalize l[k]=x at*;obtain⟨kd,nm,ot,pl,dy,tl,nu,de⟩:=x;have i0:wr.cell? ⟨b,off+k*8,none⟩=some (.int .i64 kd):=ah 0 _ rfl;have i1:wr.cell? ⟨b,off+k*8+1,none⟩=some (.string nm):=ah 1 _ rfl;have i2:wr.cell? ⟨b,off+k*8+2,none⟩=some (.string ot):=ah 2 _ rfl;have i3:wr.cell? ⟨b,off+k*8+3,none⟩=some (.string pl):=ah 3 _ rfl;have i4:wr.cell? ⟨b,off+k*8+4,none⟩=some (.int .i64 dy):=ah 4 _ rfl;have i5:wr.cell? ⟨b,off+k*8+5,none⟩=some (.int .i64 tl):=ah 5 _ rfl;have i6:wr.cell? ⟨b,off+k*8+6,none⟩=some (.int .i64 nu):=ah 6 _ rfl;have i7:wr.cell? ⟨b,off+k*8+7,none⟩=some (.int .i64 de):=ah 7 _ rfl;have ar:(k:Int)<(l.length:Int):=Mcu;have aT:(0:Int)<=(k:Int):=Mcu;have fu:(k:Int)<=(c:Int):=Mcu;simp only at bV;subst hA;clear ah hB ae;obtain⟨WZ,fq⟩:∃WZ,WZ=(wr.alloc (.cells #[.int .i64 kd,.string nm,.string ot,.string pl,.int .i64 dy,.int .i64 tl,.int .i64 nu,.int .i64 de] 60)).alloc (.cells #[.string pl,.int .i64 dy] 167):=⟨_,rfl⟩
   have z0:WZ.cell? ⟨wr.heap.size,0,none⟩=some (.int .i64 kd):=by rw[fq];simp[go_sem]
   have fe:wr.heap.size+2=WZ.heap.size:=by rw[fq];simp
   have eR:Below wr.heap.size wr WZ:=by rw[fq];exact Bw
   have eu:=zHi (HB.o.trans (eR.mono aI));go_upto_region 7 with fail
   rw[<-fq];clear fq eR i0 i1 i2 i3 i4 i5 i6 i7;go_quiet (fail)
   go_wp2_with fail
   go_round
   case rel=>exact⟨k+1,am.o,by go_num,zd9 eu.o _⟩
   case measure=>have:=am.o;simp only[intOf];omega
  ·have ar:¬(k:Int)<(l.length:Int):=Mcu;clear hB;exact MbJ
theorem tm_eql(W:World):(binOp .eql 77 (.map none) (.map none)).run Tryz.prog W=.ok (.bool true) W:=by
 kernel_rfl
theorem zmf(nm ot pl:ByteArray)(dy tl nu de q:Int)(A:Option Addr)(c:Nat)(w:World)(hc:1<=c)(htd:Int.tdiv 27720 de=q)(Ko:¬de=0)(hqb:0<=q/\q<=27720)(dH:0<=nu*q/\nu*q<=27720)(hS:Sl w 8 Rec.cells A [⟨3,nm,ot,pl,dy,tl,nu,de⟩]):
 Calls Tryz.prog 74 #[.slice A 1 c] w (Ret w (.bool false)):=by
 have ct:= @run_makeMap Tryz.prog;have HS:=zHi hS;have jy:IntKind.i64.wrap q=q:=Mdc;have zh:IntKind.i64.wrap (nu*q)=nu*q:=Mdc;have zi:IntKind.i64.wrap (0+nu*q)=nu*q:=by rw[Int.zero_add];exact zh
 have hvn:¬27720<nu*q:=Mcu;clear hS;go_enter Tryz.func74,Tryz.ntmps74
 go_upto_region 4 with fail
 clear ct;go_loopw [12] (fun i wr=>∃k:Nat,k<=1/\i=.int .i64 k/\(k=0->MapS wr w.heap.size ekSp (fun v:Value=>v) ([]:List (Spot×Value))/\MapS wr (w.heap.size+1) ekSp (fun v:Value=>v) ([]:List (Spot×Value)))/\Below w.heap.size w wr/\w.heap.size+2<=wr.heap.size) (fun i _=>1-(intOf i).toNat)
 case atStart=>
  refine⟨0,by omega,rfl,fun _=>⟨(MapS.new w).below (n:=w.heap.size+1) (zac (Below.refl _ _) _ Mcx) Mcx,?_⟩,Bw,by simp⟩;have:=MapS.new (ek:=ekSp) (ev:=fun v:Value=>v) (w.alloc (.map #[] 0));simpa using this
 case round=>
  obtain⟨k,hk,rfl,hm,hB,hsz⟩:=hrel;have HB:=zHi hB;have aI:=hB.size;by_cases ae:k<1
  ·obtain rfl:k=0:=by omega
   obtain⟨mN,sP⟩:=hm rfl;obtain⟨b,off,hA,hb,ah⟩:=(HS.o.keep hB).at (k:=0) Mcx;have i0:wr.cell? ⟨b,off,none⟩=some (.int .i64 3):=McW;have i1:wr.cell? ⟨b,off+1,none⟩=some (.string nm):=by have:=ah 1 _ rfl;simpa using this
   have i2:wr.cell? ⟨b,off+2,none⟩=some (.string ot):=by have:=ah 2 _ rfl;simpa using this
   have i3:wr.cell? ⟨b,off+3,none⟩=some (.string pl):=by have:=ah 3 _ rfl;simpa using this
   have i4:wr.cell? ⟨b,off+4,none⟩=some (.int .i64 dy):=by have:=ah 4 _ rfl;simpa using this
   have i5:wr.cell? ⟨b,off+5,none⟩=some (.int .i64 tl):=by have:=ah 5 _ rfl;simpa using this
   have i6:wr.cell? ⟨b,off+6,none⟩=some (.int .i64 nu):=by have:=ah 6 _ rfl;simpa using this
   have i7:wr.cell? ⟨b,off+7,none⟩=some (.int .i64 de):=by have:=ah 7 _ rfl;simpa using this
   have fu:(0:Int)<=(c:Int):=Mcu;obtain⟨EE,jF⟩:=yH2 mN sP;subst hA;clear ah mN sP hB ae hm;obtain⟨WZ,fq⟩:∃WZ,WZ=(wr.alloc (.cells #[.int .i64 3,.string nm,.string ot,.string pl,.int .i64 dy,.int .i64 tl,.int .i64 nu,.int .i64 de] 60)).alloc (.cells #[.string pl,.int .i64 dy] 167):=⟨_,rfl⟩
   have eR:Below wr.heap.size wr WZ:=by rw[fq];exact Bw
   have fe:WZ.heap.size=wr.heap.size+2:=by rw[fq];simp
   have z0:WZ.heap[wr.heap.size]?=some (.cells #[.int .i64 3,.string nm,.string ot,.string pl,.int .i64 dy,.int .i64 tl,.int .i64 nu,.int .i64 de] 60):=by rw[fq];exact zal (zaq _ _ _ rfl)
   have z1:WZ.heap[wr.heap.size+1]?=some (.cells #[.string pl,.int .i64 dy] 167):=by rw[fq];exact zaq _ _ _ Mcx
   go_upto_region 7 with fail
   rw[<-fq];have eu:=zHi eR;clear fq i0 i1 i2 i3 i4 i5 i6 i7 eR;obtain⟨y0,y1⟩:=cF2 z0;obtain⟨x0,x1⟩:=cF2 z1;obtain⟨C2,zU⟩:=yH2 z0 z1;clear z0 z1;have cM:∀q',(Instr.lookup 165 (.map (some (w.heap.size+1))) (.agg #[.string pl,.int .i64 dy]) false).run Tryz.prog (WZ.drewN q')=.ok (.map none) (WZ.drewN q'):=fun q'=>zbn mapPM (jF.o.keep (w':=WZ.drewN q') (eu.o.block _ jF.o.at.lt)).at (pl,dy)
   have fw:∀q',(Instr.lookup 77 (.map none) (.string nm) false).run Tryz.prog (WZ.drewN q')=.ok (.bool false) (WZ.drewN q'):=fun q'=>zmZ _ _
   have ct:= @run_makeMap Tryz.prog;go_quiet (fail)
   clear fw;have DJ:∀W,(binOp .eql 77 (.map none) (.map none)).run Tryz.prog W=.ok (.bool true) W:=tm_eql;have pE:Below wr.heap.size wr ((WZ.drewN nq).alloc (.map #[] 0)):=eu.o.trans ((zac (zd9 (Below.refl _ _) _) _ (Nat.le_refl _)).mono Mcu);obtain⟨pe,zW⟩:=yH2 pE fe;clear pE fe;go_upto_region 10 with
    (at_mapUpdate
     obtain⟨w1,hrun,cf,bz,dm⟩:=zcc (P:=Tryz.prog) mapPM (jF.o.below pe.o) (pl,dy) (.map (some WZ.heap.size))
     go_loud(refine zc7 rfl _ _ _ rfl _ _ _ rfl rfl rfl w1 hrun ?_))
   clear ct cM DJ;have fe:=zW.o;have yR:w1.heap.size=WZ.heap.size+1:=by rw[dm];simp[World.drewN]
   have Fz:((WZ.drewN nq).alloc (.map #[] 0)).heap[WZ.heap.size]?=some (.map #[] 0):=zaq _ _ _ (by simp[World.drewN]);have wk:∀j,j<WZ.heap.size+1->j≠w.heap.size+1->w1.heap[j]?=((WZ.drewN nq).alloc (.map #[] 0)).heap[j]?:=fun j hj ai=>bz.block j (by simp[World.drewN];exact hj) (by simpa using ai)
   have kf:w1.heap[wr.heap.size]?=_:=(wk _ Mcu Mcu).trans ((zal (w:=WZ.drewN nq) C2.o));have wJ:w1.heap[wr.heap.size+1]?=_:=(wk _ Mcu Mcu).trans ((zal (w:=WZ.drewN nq) zU.o));have wL:=EE.o.keep ((wk w.heap.size Mcu Mcu).trans (pe.o.block _ EE.o.at.lt));have cA:Below w.heap.size w w1:=zaU ((HB.o.trans (pe.o.mono aI))) bz Mcu;have Cp:MapS w1 WZ.heap.size ekS evB ([]:List (ByteArray×Bool)):=⟨#[],0,(wk _ Mcu Mcu).trans Fz,rfl,by simp,by simp⟩
   obtain⟨kk,fY⟩:∃kk,kk=WZ.heap.size:=⟨_,rfl⟩
   rw[<-fY]at cf Cp yR fe;have zw:wr.heap.size+2<=kk:=Mcu;have bX:kk<w1.heap.size:=Mcu;clear fY fe yR;have yW:(false=true\/(w1.drew.cell? ⟨wr.heap.size+1,0,none⟩=some (.string pl)/\w1.drew.cell? ⟨wr.heap.size+1,1,none⟩=some (.int .i64 dy)/\w1.drew.cell? ⟨wr.heap.size,1,none⟩=some (.string nm)/\(Instr.lookup 165 (.map (some (w.heap.size+1))) (.agg #[.string pl,.int .i64 dy]) false).run Tryz.prog w1.drew=.ok (.map (some kk)) w1.drew)):=by
    have h1:w1.drew.heap[wr.heap.size]?=_:=kf;have h2:w1.drew.heap[wr.heap.size+1]?=_:=wJ;refine .inr ⟨by simp only[World.cell?,h2];rfl,by simp only[World.cell?,h2];rfl,by simp only[World.cell?,h1];rfl,?_⟩;have:=zbn mapPM (cf.keep (w':=w1.drew) rfl).at (pl,dy);exact Mbt
   obtain⟨w5,kw,_,nJ,Ef⟩:=zcc (P:=Tryz.prog) zll (Cp.keep (w':=w1.drew) rfl) nm true;have Ad:∀j,j<kk->w5.heap[j]?=w1.heap[j]?:=fun j hj=>nJ.block j (by show j<w1.heap.size;omega) Mcz
   have u7:=(Ad wr.heap.size Mcu).trans kf;have Al:=(Ad (wr.heap.size+1) Mcu).trans wJ;have hS5:=wL.keep (Ad w.heap.size Mcu);have fk:Below w.heap.size w w5:=zaU (zaE cA) nJ Mcu;have LP:w1.heap.size<=w5.heap.size:=Nat.le_of_eq Ef.symm;have bo:=zHi fk;clear Ad nJ fk cA Cp cf wL kf wJ Fz wk dm bz;refine za7 5 (fun bb w'=>bb=true\/(w'.cell? ⟨wr.heap.size+1,0,none⟩=some (.string pl)/\w'.cell? ⟨wr.heap.size+1,1,none⟩=some (.int .i64 dy)/\w'.cell? ⟨wr.heap.size,1,none⟩=some (.string nm)/\(Instr.lookup 165 (.map (some (w.heap.size+1))) (.agg #[.string pl,.int .i64 dy]) false).run Tryz.prog w'=.ok (.map (some kk)) w')) Mcv yW ?hrest
   case hrest=>
    intro hHeld;refine TkM 0 ?_;refine TkM 1 ?_;refine TkM 2 ?_;refine TkM 3 ?_;refine TkM 4 ?_;refine OnM 5 true fun K hK=>?_
    refine ziP rfl _ _ _ rfl _ _ _ rfl rfl rfl w5 kw ?_;refine NxM hK fun hHeld=>?_
    clear hK K;refine zaG Mcv ?_ _;clear hHeld kw yW Ef;go_upto_region 11 with fail
    have yX:(false=true\/(w5.drew.cell? ⟨wr.heap.size+1,0,none⟩=some (.string pl)/\w5.drew.cell? ⟨wr.heap.size+1,1,none⟩=some (.int .i64 dy)/\w5.drew.cell? ⟨wr.heap.size,6,none⟩=some (.int .i64 nu)/\w5.drew.cell? ⟨wr.heap.size,7,none⟩=some (.int .i64 de)/\(Instr.lookup 164 (.map (some w.heap.size)) (.agg #[.string pl,.int .i64 dy]) false).run Tryz.prog w5.drew=.ok (.int .i64 0) w5.drew)):=by
     have h1:w5.drew.heap[wr.heap.size]?=_:=u7;have h2:w5.drew.heap[wr.heap.size+1]?=_:=Al;exact .inr ⟨by simp only[World.cell?,h2];rfl,by simp only[World.cell?,h2];rfl,by simp only[World.cell?,h1];rfl,by simp only[World.cell?,h1];rfl,zbn mapPV (hS5.keep (w':=w5.drew) rfl).at (pl,dy)⟩
    obtain⟨w6,st,jj,eH,iD,mX,ft,bF,Hl⟩:=zkJ (P:=Tryz.prog) mapPV (hS5.keep (w':=w5.drew) rfl) (pl,dy);have oI:(mget eqSp (pl,dy) ([]:List (Spot×Value))).getD (.int .i64 0)=.int .i64 0:=rfl;rw[oI]at eH iD mX ft;have Ae:∀j,j<w5.heap.size->j≠w.heap.size->w6.heap[j]?=w5.heap[j]?:=fun j hj ai=>bF.block j hj (by simpa using ai)
    have sX:(false=true\/(w6.cell? ⟨wr.heap.size+1,0,none⟩=some (.string pl)/\w6.cell? ⟨wr.heap.size+1,1,none⟩=some (.int .i64 dy)/\w6.cell? ⟨wr.heap.size,6,none⟩=some (.int .i64 nu)/\w6.cell? ⟨wr.heap.size,7,none⟩=some (.int .i64 de)/\(Instr.lookup 164 (.map (some w.heap.size)) (.agg #[.string pl,.int .i64 dy]) false).run Tryz.prog w6=.ok (.int .i64 0) w6)):=by
     have h1:=(Ae wr.heap.size Mcu Mcu).trans u7;have h2:=(Ae (wr.heap.size+1) Mcu Mcu).trans Al;refine .inr ⟨by simp only[World.cell?,h2];rfl,by simp only[World.cell?,h2];rfl,by simp only[World.cell?,h1];rfl,by simp only[World.cell?,h1];rfl,?_⟩;have:=zbn mapPV iD.mapAt (pl,dy);exact Mbt
    obtain⟨w7,yF,sL,nK,Hm⟩:=zdT (P:=Tryz.prog) iD ft 164 (.int .i64 (nu*q));rw[mX]at sL;have LQ:w5.heap.size<=w7.heap.size:=Nat.le_of_eq (Hm.trans Hl).symm;have Fj:∀j,j<w5.heap.size->j≠w.heap.size->w7.heap[j]?=w5.heap[j]?:=fun j hj ai=>(nK.block j (by have:w5.drew.heap.size=w5.heap.size:=rfl;omega) (by simpa using ai)).trans (Ae j hj ai)
    have L0:(Instr.lookup 164 (.map (some w.heap.size)) (.agg #[.string pl,.int .i64 dy]) false).run Tryz.prog w7=.ok (.int .i64 (nu*q)) w7:=by
     have:=zbn mapPV sL.at (pl,dy);exact Mbt
    have FE:=(Fj (wr.heap.size+1) Mcu Mcu).trans Al;obtain⟨j0,j1⟩:=cF2 FE;have ou:Below w.heap.size w w7:=zaU (zaU (zaE bo.o) bF Mcu) nK Mcu;have bS:=zHi ou;clear ou sL Fj Ae nK bF FE;refine za7 14 (fun bb w'=>bb=true\/(w'.cell? ⟨wr.heap.size+1,0,none⟩=some (.string pl)/\w'.cell? ⟨wr.heap.size+1,1,none⟩=some (.int .i64 dy)/\w'.cell? ⟨wr.heap.size,6,none⟩=some (.int .i64 nu)/\w'.cell? ⟨wr.heap.size,7,none⟩=some (.int .i64 de)/\(Instr.lookup 164 (.map (some w.heap.size)) (.agg #[.string pl,.int .i64 dy]) false).run Tryz.prog w'=.ok (.int .i64 0) w')) Mcv yX ?hrest
    case hrest=>
     intro hHeld;refine TkM 0 ?_;refine TkM 1 ?_;refine TkM 2 ?_;refine TkM 3 ?_;refine TkM 4 ?_;refine TkM 5 ?_;refine TkM 6 ?_;refine TkM 7 ?_;refine TkM 8 ?_;refine TkM 9 ?_;refine TkM 10 ?_;refine TkM 11 ?_;refine OnM 12 false fun K hK=>?_
     refine zhg rfl _ _ rfl _ _ _ rfl rfl w6 eH ?_;refine NxM hK (fun hHeld=>?_) (sX);clear hK K;refine OnM 13 false fun K hK=>?_
     go_simp
     refine NxM hK (fun hHeld=>?_) (sX);clear hK K;refine OnM 14 true fun K hK=>?_
     refine zfV rfl _ _ _ rfl _ _ _ rfl rfl rfl w7 yF ?_;refine NxM hK fun hHeld=>?_
     clear hK K;refine zaG Mcv ?_ _;clear hHeld yF eH yX sX iD mX ft u7 Al hS5 oI;go_wp2_with fail
     go_round
     case rel=>exact⟨1,by omega,by go_num,fun h=>absurd h Mcw,bS.o,by omega⟩
     case measure=>simp only[intOf];omega
  ·have ar:¬(k:Int)<1:=Mcu;clear hB hm;exact MbJ
theorem znm(l:List Rec)(A:Option Addr)(c:Nat)(w:World)(hc:l.length<=c)(hl:l.length<=1000)(h0:∀x∈l,0<=x.kind/\x.kind<=4)(h2:∀x∈l,x.kind≠2)
 (h3:(∀x∈l,x.kind≠3)\/∃nm ot pl dy tl nu de q,l=[⟨3,nm,ot,pl,dy,tl,nu,de⟩]/\Int.tdiv 27720 de=q/\¬de=0/\(0<=q/\q<=27720)/\(0<=nu*q/\nu*q<=27720))(hS:Sl w 8 Rec.cells A l):
 Calls Tryz.prog 45 #[.slice A l.length c] w (Ret w (.bool (zkj l))):=by
 have h:=zju l A c false false w hc hl h0 hS (fun W hB=>znl l A c W hc hl h2 (hS.keep hB)) (fun W hB=>by
  rcases h3 with h3|⟨nm,ot,pl,dy,tl,nu,de,q,rfl,e1,e2,e3,e4⟩
  ·exact zme l A c W hc hl h3 (hS.keep hB)
  ·exact zmf nm ot pl dy tl nu de q A c W hc e1 e2 e3 e4 (hS.keep hB))
 rw[Bool.or_false,Bool.or_false]at h;exact h
theorem lens5:recLens zfq:=by
 intro x hx;simp only[zfq,List.mem_cons,List.not_mem_nil,or_false]at hx;rcases hx with rfl|rfl|rfl|rfl|rfl<;>exact⟨by decide,by decide,by decide⟩
def Con5(w:World)(xs:List Nat)(b:Bool):Prop:= ∀W,Below w.heap.size w W->∀A c,(ofP zfq xs).length<=c->Sl W 8 Rec.cells A (ofP zfq xs)->Calls Tryz.prog 45 #[.slice A (ofP zfq xs).length c] W (Ret W (.bool b))
theorem con5_low{w:World}{k:Nat}(h:k<6):Con5 w (zdb 5 k) (k==5):=fun W hB A c hc hS=>by
 have aU:∀k<6,(ofP zfq (zdb 5 k)).all (fun x=>decide (0<=x.kind)&&decide (x.kind<=4)&&x.kind != 2&&x.kind != 3)=true/\zkj (ofP zfq (zdb 5 k))=(k==5)/\(ofP zfq (zdb 5 k)).length<=1000:=by decide+kernel
 obtain⟨e1,e2,e3⟩:=aU k h;rw[List.all_eq_true]at e1;have h:=znm (ofP zfq (zdb 5 k)) A c W hc e3 (fun x hx=>by have:=e1 x hx;simp at this;omega) (fun x hx=>by have:=e1 x hx;simp at this;omega) (.inl fun x hx=>by have:=e1 x hx;simp at this;omega) hS;rw[e2]at h;exact h
theorem con5_one{w:World}{xs:List Nat}(h:xs=[3]\/xs=[4]):Con5 w xs false:=fun W hB A c hc hS=>by
 rcases h with rfl|rfl
 ·exact znm (ofP zfq [3]) A c W hc Mcw Mcw Mcw (.inr ⟨_,_,_,_,_,_,_,13860,rfl,by decide,by decide,by decide,by decide⟩) hS
 ·exact znm (ofP zfq [4]) A c W hc Mcw Mcw Mcw (.inr ⟨_,_,_,_,_,_,_,9240,rfl,by decide,by decide,by decide,by decide⟩) hS
theorem bits5:∀k,k<32->6<=k->2<(zdb 5 k).length\/((zdb 5 k).length=2/\0<lexC (zdb 5 k) [0,2])\/zdb 5 k=[3]\/zdb 5 k=[4]:=by decide+kernel
theorem bits5_in:∀k,k<32->((zdb 5 k).length<=5/\∀i∈zdb 5 k,i<5):=by decide+kernel
theorem neqA(W:World):(binOp .neq 56 (.slice none 0 0) (.slice none 0 0)).run Tryz.prog W=.ok (.bool false) W:=by kernel_rfl
theorem neqB(a:Addr)(n c:Nat)(W:World):(binOp .neq 56 (.slice (some a) n c) (.slice none 0 0)).run Tryz.prog W=.ok (.bool true) W:=by kernel_rfl
theorem eqlB(a:Addr)(n c:Nat)(W:World):(binOp .eql 56 (.slice (some a) n c) (.slice none 0 0)).run Tryz.prog W=.ok (.bool false) W:=by kernel_rfl
def zhl(w:World)(e:Ending)(w':World):Prop:= ∃A c,e=.returned (.tuple #[.slice A 2 c,.int .i64 0])/\2<=c/\Sl w' 1 intC A [0,2]/\Below w.heap.size w w'
def Best5(W:World)(base k:Nat)(v:Value):Prop:=(k<=5/\v=.slice none 0 0)\/(6<=k/\OwnS W base 3 1 intC v [0,2])
theorem Best5.keep{W W':World}{base k n:Nat}{v:Value}(h:Best5 W base k v)(hB:Below n W W')(hn:W.heap.size<=n:=by first|exact Nat.le_refl _|omega):Best5 W' base k v:=h.imp id fun⟨a,b⟩=>⟨a,b.keep hB hn⟩
theorem zpg(A:Option Addr)(c:Nat)(w:World)(hc:5<=c)(hT:TzTab w)(hS:Sl w 8 Rec.cells A zfq):Calls Tryz.prog 18 #[.slice A 5 c] w (zhl w):=by
 obtain⟨HS,lH⟩:=yH2 hS (fun W (hB:Below w.heap.size w W)=>zh7 zfq A 5 c W rfl hc lens5 (hS.keep hB));rw[recs5_ok]at lH;have HT:=zHi hT;clear hS hT;unfold zhl;go_enter Tryz.func18,Tryz.ntmps18
 go_upto_region 8 with(go_at_call 42;go_must(refine(lH.o _ Bw).mono ?_);rintro e wq ⟨rfl,z,rfl⟩)
 go_loopw [5,19] (fun v i wr=>∃k:Nat,k<=32/\i=.int .i64 k/\Best5 wr w.heap.size k v/\Below w.heap.size w wr) (fun _ i _=>32-(intOf i).toNat)
 case atStart=>exact⟨0,Nat.zero_le _,rfl,.inl ⟨by omega,rfl⟩,Bw⟩
 case round=>
  obtain⟨k,hk,rfl,mu,hB⟩:=hrel;have HB:=zHi hB;have aI:=hB.size;by_cases ae:k<32
  ·have eL:=zHi (zl5 5 k wr Mcu ae (HT.o.keep hB));obtain⟨bR,aJ⟩:=bits5_in k ae;have aq:=bits5 k ae;have dS:=fun(W:World) (h:k<6)=>con5_low (w:=W) h
   have am:=zHi ae;have ar:(k:Int)<32:=Mcu;have mB:k=5->zdb 5 k=[0,2]:=fun e=>by rw[e];decide+kernel
   have lC:=zHi mu;obtain⟨xs,bn⟩:∃xs,zdb 5 k=xs:=⟨_,rfl⟩
   rw[bn]at eL aJ bR aq dS mB;obtain⟨bK,Bn,bo,tF⟩:=yH4 aJ dS aq mB;clear hB ae mu bn aJ dS aq mB;go_upto_region 11 with(go_at_call 43;go_must(refine eL.o.mono ?_);rintro e wq ⟨vx,rfl,ib,Eb⟩)
   obtain⟨XA,xc,rfl,ue,uE⟩:=ib.sl zgx;obtain⟨Jc,aw,AT⟩:=yH3 (ib.base_le aI) (HB.o.trans (Eb.mono aI)) (lC.o.keep Eb);have ig:=zHi (fun W (hW:Below wq.heap.size wq W)=>some_any zfq xs A c XA xc W hc uE Mcu bK.o (HS.o.keep (aw.o.trans (hW.mono aw.o.size))) (ue.keep hW));have bL:=zHi ue;rw[show zfq.length=5 from rfl]at ig;clear ib ue Eb eL;rcases AT.o with⟨nM,hv⟩|⟨ft,aa⟩
   ·subst hv;have i8:=neqA;obtain⟨vr,lI⟩:=yH2 nM (Bn.o wq Mcu);clear nM;by_cases hk:k=5
    ·subst hk;have hx:=tF.o rfl;subst hx
     go_wp2_with (first
      |(go_at_call 44;go_must(refine(jR.o _ Bw).mono ?_);rintro e wq5 ⟨rfl,rfl⟩)
      |(go_at_call 46;go_must(refine(ig.o _ Bw).mono ?_);rintro e w7 ⟨v7,rfl,q8,bU⟩;obtain⟨A7,c7,rfl,kx,xf⟩:=q8.sl zgy;obtain⟨bS,vP⟩:=yH2 bU kx;clear q8 bU kx)
      |(go_at_call 45;go_must(refine(lI.o _ bS.o A7 c7 xf vP.o).mono ?_);rintro e wq8 ⟨rfl,z8,rfl⟩))
     go_round
     case rel=>exact⟨6,by omega,by go_num,.inr ⟨Nat.le_refl _,(Jc.o.keep bS.o).keep (zao w7 z8)⟩,aw.o.trans ((bS.o.trans ((zao w7 z8).mono bS.o.size)).mono (aw.o.size))⟩
     case measure=>simp only[intOf];omega
    ·have mH:(k==5)=false:=by simpa using hk
     rw[mH]at lI;have Iq:=zHi (show k+1<=5 by have:=vr.o;omega);clear hk mH;generalize jt:xs.length=nx at*
     go_wp2_with (first
      |(go_at_call 44;go_must(refine(jR.o _ Bw).mono ?_);rintro e wq5 ⟨rfl,rfl⟩)
      |(go_at_call 46;go_must(refine(ig.o _ Bw).mono ?_);rintro e w7 ⟨v7,rfl,q8,bU⟩;obtain⟨A7,c7,rfl,kx,xf⟩:=q8.sl zgy;obtain⟨bS,vP⟩:=yH2 bU kx;clear q8 bU kx)
      |(go_at_call 45;go_must(refine(lI.o _ bS.o A7 c7 xf vP.o).mono ?_);rintro e wq8 ⟨rfl,z8,rfl⟩))
     go_round
     case rel=>exact⟨k+1,am.o,by go_num,.inl ⟨Iq.o,rfl⟩,aw.o.trans ((bS.o.trans ((zao w7 z8).mono bS.o.size)).mono (aw.o.size))⟩
     case measure=>have:=am.o;simp only[intOf];omega
   ·obtain⟨SA,sc,rfl,Cy,GW⟩:=aa.sl zgx;obtain⟨dN,HK6,vt⟩:=yH3 aa ft (show 6<=k+1 by omega);cases SA with
    |none=>
     exfalso
     obtain⟨b,off,h,_⟩:=Cy Mcx;cases h
    |some sa=>
     have i8:=neqB sa 2 sc;have jR:=zHi (fun W (hW:Below wq.heap.size wq W)=>zmM xs [0,2] XA (some sa) xc sc W uE GW Mcu (bL.o.keep hW) (Cy.keep hW));rw[show([0,2]:List Nat).length=2 from rfl]at jR;have hb:=bo.o ft;clear Cy aa ft;rcases hb with h1|⟨h1,h2⟩|h1
     ·have bz:(2:Int)<(xs.length:Int):=Mcu;clear h1;generalize jt:xs.length=nx at*;go_wp2_with fail
      exact MaX
     ·have hC:(0:Int)<lexC xs [0,2]:=h2;generalize lexC xs [0,2]=C at*;rw[h1]at jR uE;have eJ:xs.length=2:=h1;clear h1 h2;go_wp2_with (go_at_call 44;go_must(refine(jR.o _ Bw).mono ?_);rintro e wq5 ⟨rfl,rfl⟩)
      exact MaX
     ·have lI:=zHi (con5_one (w:=wq) h1);have jM:xs.length=1:=by rcases h1 with rfl|rfl<;>rfl
      rw[jM]at ig;clear h1
      go_wp2_with (first
       |(go_at_call 44;go_must(refine(jR.o _ Bw).mono ?_);rintro e wq5 ⟨rfl,rfl⟩)
       |(go_at_call 46;go_must(refine(ig.o _ Bw).mono ?_);rintro e w7 ⟨v7,rfl,q8,bU⟩;obtain⟨A7,c7,rfl,kx,xf⟩:=q8.sl zgy;obtain⟨bS,vP⟩:=yH2 bU kx;clear q8 bU kx)
       |(go_at_call 45;go_must(refine(lI.o _ bS.o A7 c7 xf vP.o).mono ?_);rintro e wq8 ⟨rfl,z8,rfl⟩))
      go_round
      case rel=>exact⟨k+1,am.o,by go_num,.inr ⟨vt.o,(dN.o.keep bS.o).keep (zao w7 z8)⟩,aw.o.trans ((bS.o.trans ((zao w7 z8).mono bS.o.size)).mono (aw.o.size))⟩
      case measure=>have:=am.o;simp only[intOf];omega
  ·have ar:¬(k:Int)<32:=Mcu;have ft:¬k<=5:=Mcu;rcases mu with⟨h1,_⟩|⟨_,aa⟩
   ·exact absurd h1 ft
   ·obtain⟨SA,sc,rfl,h3,h4⟩:=aa.sl zgx;have H3:=zHi h3;cases SA with
    |none=>
     exfalso
     obtain⟨b,off,h,_⟩:=h3 Mcx;cases h
    |some sa=>
     have i8:=eqlB sa 2 sc;clear aa h3 hB ae ft;go_wp2_with fail
     go_ret2
     exact⟨some sa,sc,rfl,h4,H3.o,HB.o⟩
section
variable {W w:World} {b:Nat} {t:TypeId} {fr:Nat×Nat} {a0 a1 a2 a3 a4 a5 a6:Value}
theorem zby(h:W.heap[b]?=some (.cells #[a0,a1] t fr)):W.cell? ⟨b,0,none⟩=some a0/\W.cell? ⟨b,1,none⟩=some a1:=by
 simp only[World.cell?,h];exact⟨rfl,rfl⟩
theorem zei(h:W.heap[b]?=some (.cells #[a0,a1,a2,a3,a4] t fr)):W.cell? ⟨b,0,none⟩=some a0/\W.cell? ⟨b,1,none⟩=some a1/\W.cell? ⟨b,2,none⟩=some a2/\W.cell? ⟨b,3,none⟩=some a3/\W.cell? ⟨b,4,none⟩=some a4:=by
 simp only[World.cell?,h];exact⟨rfl,rfl,rfl,rfl,rfl⟩
theorem cells6(h:W.heap[b]?=some (.cells #[a0,a1,a2,a3,a4,a5] t fr)):W.cell? ⟨b,0,none⟩=some a0/\W.cell? ⟨b,1,none⟩=some a1/\W.cell? ⟨b,2,none⟩=some a2/\W.cell? ⟨b,3,none⟩=some a3/\W.cell? ⟨b,4,none⟩=some a4/\W.cell? ⟨b,5,none⟩=some a5:=by
 simp only[World.cell?,h];exact⟨rfl,rfl,rfl,rfl,rfl,rfl⟩
theorem zaH(h:W.heap[b]?=some (.cells #[a0,a1,a2,a3,a4,a5,a6] t fr)):W.cell? ⟨b,0,none⟩=some a0/\W.cell? ⟨b,1,none⟩=some a1/\W.cell? ⟨b,2,none⟩=some a2/\W.cell? ⟨b,3,none⟩=some a3/\W.cell? ⟨b,4,none⟩=some a4/\W.cell? ⟨b,5,none⟩=some a5/\W.cell? ⟨b,6,none⟩=some a6:=by
 simp only[World.cell?,h];exact⟨rfl,rfl,rfl,rfl,rfl,rfl,rfl⟩
theorem frz{cs:Array Value}(h:W.heap[b]?=some (.cells cs t (0,0))):∀j,W.frozen? ⟨b,j,none⟩=false:=fun j=>by simp[World.frozen?,h]
theorem boxed{o:Obj}(h:w.alloc o=W):W.heap[w.heap.size]?=some o/\Below w.heap.size w W:=by
 subst h;exact⟨zaq _ _ _ rfl,zac (Below.refl _ _) _⟩
end
theorem ziT{α:Type}{W:World}{base size n c:Nat}{e:TypeId}{f:α->List Value}{A:Option Addr}{xs:List α}(ag:∀x,(f x).length=size)(h:OwnS W base e size f (.slice A n c) xs):Sl W size f A xs/\xs.length<=c:=by
 obtain⟨A',c',he,h1,h2⟩:=h.sl ag;simp only[Value.slice.injEq]at he;obtain⟨rfl,_,rfl⟩:=he;exact⟨h1,h2⟩
structure Fld where
 p:Int
 f:Int
 n:Int
 s:Int
 c:Int
 y:Int
def fldP(k:Int):Fld:=if k=0 then⟨1,0,2,1,1,1⟩else if k=1 then⟨1,1,2,1,0,0⟩else if k=2 then⟨1,1,0,0,0,0⟩else if k=3 then⟨1,0,0,0,0,1⟩else if k=4 then⟨0,1,2,1,0,0⟩else if k=8 then⟨0,1,0,0,0,0⟩else⟨0,1,1,0,0,0⟩
theorem zph(k:Int):zkQ k=sixV (fldP k).p (fldP k).f (fldP k).n (fldP k).s (fldP k).c (fldP k).y:=by
 unfold zkQ fldP;repeat' split
 all_goals rfl
structure FldOk (x:Fld):Prop where
 p:x.p=0\/x.p=1
 f:x.f=0\/x.f=1
 n:x.n=0\/x.n=1\/x.n=2
 s:x.s=0\/x.s=1
 c:x.c=0\/x.c=1
 y:x.y=0\/x.y=1
theorem fld_ok(k:Int):FldOk (fldP k):=by
 unfold fldP;repeat' split
 all_goals exact⟨by decide,by decide,by decide,by decide,by decide,by decide⟩
def fm1(pl fr:ByteArray)(p f:Int)(ap:Bool):Bool:=(!noB pl) != (p==1)||(!noB fr) != (f==1)||!ap
def fm2(n:Int)(m:Nat):Bool:=n==0&&decide (0<m)||n==1&&m != 1||n==2&&m==0
def fm3(c y cl yr kd:Int):Bool:=c==0&&cl != 0||y==0&&yr != 0||kd==3&&yr==0
def fm5(kd cl yr:Int)(q:Rat):Bool:=kd != 0||q==1&&(cl != 2||decide (0<yr))
def zfr(d:Deed):Bool:=
 if fm1 d.place d.frm (fldP d.kind).p (fldP d.kind).f (zd4 d.to d.frm 0)then false else
 if fm2 (fldP d.kind).n d.to.length then false else
 if fm3 (fldP d.kind).c (fldP d.kind).y d.cls d.years d.kind then false else
 if(fldP d.kind).s==0 then d.to.all zh8 else
 if !(sumR d.to 0).2||decide ((sumR d.to 0).1.den<(sumR d.to 0).1.num)then false else fm5 d.kind d.cls d.years (sumR d.to 0).1
theorem znn:∀(l:List RPart) (o:Rat),(sumR l o).2=l.all zea/\(l.all zea=true->(sumR l o).1=o+sumQ (zan l))
 | [],o=>⟨rfl,fun _=>by show o=o+0;grind⟩
 |p::l,o=>by
  unfold sumR;cases h:zea p
  ·rw[if_neg Mcx];exact⟨by rw[List.all_cons,h];rfl,fun h2=>by rw[List.all_cons,h]at h2;cases h2⟩
  ·rw[if_pos rfl,List.all_cons,h,Bool.true_and];have ih:=znn l (o+p.rat);refine⟨ih.1,fun h2=>?_⟩;rw[ih.2 h2];show _=o+(p.rat+sumQ (zan l));grind
theorem zpi(l:List RPart)(frm:ByteArray):zd4 l frm 0=(zde l []&&l.all fun p=>!zae p.name frm):=rfl
theorem one_le{q:Rat}:decide ((q.den:Int)<q.num)=!decide (q<=1):=by
 have h:=Rat.le_iff q 1;have e:(q<=1)↔ ¬(q.den:Int)<q.num:=by rw[h];simp
 by_cases h1:q<=1
 ·rw[decide_eq_true h1,decide_eq_false (e.1 h1)];rfl
 ·rw[decide_eq_false h1,decide_eq_true (Classical.not_not.1 (fun h2=>h1 (e.2 h2)))];rfl
theorem parts_sum(all:Bool)(frm:ByteArray)(l:List RPart):zcF true all frm l=(zd4 l frm 0&&((sumR l 0).2&&decide ((sumR l 0).1<=1)&&(!all||(sumR l 0).1==1))):=by
 have h:=znn l 0;rw[zpi,h.1];unfold zcF;rw[if_pos rfl];show(_&&(l.all zea&&_&&_))=_;cases ha:l.all zea
 ·simp
 ·rw[h.2 ha,Rat.zero_add]
theorem zpj(all:Bool)(frm:ByteArray)(l:List RPart):zcF false all frm l=(zd4 l frm 0&&l.all zh8):=rfl
theorem len_empty(l:List RPart):(l.length==0)=l.isEmpty:=by cases l<;>rfl
theorem zpk{d:Deed}(hk:0<=d.kind/\d.kind<=8)(hy:0<=d.years):zfr d=zfK d:=by
 obtain⟨kd,dy,pl,fr,ts,cl,yr⟩:=d;have fY:kd=0\/kd=1\/kd=2\/kd=3\/kd=4\/kd=5\/kd=6\/kd=7\/kd=8:=by simp only at hk;omega
 unfold zfr zfK fm1 fm2 fm3 fm5;simp only[parts_sum,zpj,one_le]at hy⊢;have KW:ts.isEmpty=true->zd4 ts fr 0=true/\ts.all zh8=true:=by cases ts with
  |nil=>exact fun _=>⟨rfl,rfl⟩
  |cons=>exact fun h=>by cases h
 generalize zd4 ts fr 0=ap at*;generalize(sumR ts 0).2=s2;generalize(sumR ts 0).1=q;generalize ts.all zh8=bt at*;have bP:=len_empty ts;have pV:decide (0<ts.length)=!ts.isEmpty:=by cases ts<;>simp
 have pW:(ts.length==1)=true->ts.isEmpty=false:=by cases ts<;>simp
 have Gr:(ts.length != 1)=!(ts.length==1):=rfl;rw[pV,Gr,bP];generalize ts.isEmpty=em at*;generalize(ts.length==1)=on at*;generalize noB pl=np;generalize noB fr=nf;have hy:decide (0<yr)=!(yr==0):=by rw[Bool.eq_iff_iff];simp;omega
 have uH:(yr != 0)=!(yr==0):=rfl;have ah:(cl != 0)=!(cl==0):=rfl;have ug:(cl != 2)=!(cl==2):=rfl;rw[hy,uH,ah,ug];generalize(yr==0)=y0;generalize(cl==0)=c0;generalize(cl==2)=c2;generalize decide (q<=1)=q1;generalize(q==1)=q2;clear bP pV Gr hy uH ah ug hk;rcases fY with rfl|rfl|rfl|rfl|rfl|rfl|rfl|rfl|rfl<;>(clear q;simp[fldP])<;>(cases em<;>cases ap<;>simp at KW⊢ <;>cases on<;>simp at pW⊢ <;>cases y0<;>cases c0<;>cases s2<;>cases q1<;>cases q2<;>simp_all)
theorem zno(d:Deed)(B:Option Addr)(c:Nat)(w:World)(hl:d.to.length<=1000)(hS:Sl w 3 RPart.cells B d.to):Calls Tryz.prog 96 #[d.v B c] w (Ret w (.bool (zfr d))):=by
 obtain⟨R,hR⟩:∃R,R=zfr d:=⟨_,rfl⟩
 rw[<-hR];obtain⟨kd,dy,pl,fr,ts,cl,yr⟩:=d;have HS:=zHi hS;unfold zfr at hR;have dQ:=zph kd;have km:=fld_ok kd;simp only at hR hl hS;obtain⟨FP,Fk⟩:∃FP,FP=fldP kd:=⟨_,rfl⟩
 rw[<-Fk]at hR dQ km;clear Fk;obtain⟨fp,ff,fn,fs,fc,fy⟩:=FP;obtain⟨tE,tF⟩:=yH2 km (fun W=>zni kd W);rw[dQ]at tF;simp only at tF hR;unfold sixV at tF;have nF:=fun W (h:Below w.heap.size w W)=>zoO ts fr B c W Mcu (HS.o.keep h)
 have cT:=fun W (h:Below w.heap.size w W)=>zok ts B c W hl (HS.o.keep h)
 have FT:=fun W (h:Below w.heap.size w W)=>rBare_any ts B c W Mcu (HS.o.keep h)
 generalize zd4 ts fr 0=ap at*;generalize sumR ts 0=sq at*;generalize ts.all zh8=bt at*;obtain⟨q,s2⟩:=sq;unfold zaA at cT;obtain⟨HR,ny,qm⟩:=yH3 hR cT FT;unfold Deed.v;clear hR hS dQ km cT FT;go_enter Tryz.func96,Tryz.ntmps96
 go_upto_region 2 with(go_at_call 123;go_must(refine(tF.o _).mono ?_);rintro e wq ⟨rfl,z0,rfl⟩)
 obtain⟨F,hF⟩:∃F,F=w.heap.size+1+z0.os.size:=⟨_,rfl⟩
 obtain⟨W0,ak⟩:∃W0,W0=((w.alloc (.cells #[.int .i64 kd,.int .i64 dy,.string pl,.string fr,.slice B ts.length c,.int .i64 cl,.int .i64 yr] 69)).ext z0).alloc (.cells #[.int .i64 fp,.int .i64 ff,.int .i64 fn,.int .i64 fs,.int .i64 fc,.int .i64 fy] 177):=⟨_,rfl⟩
 have g0:W0.heap[w.heap.size]?=some (.cells #[.int .i64 kd,.int .i64 dy,.string pl,.string fr,.slice B ts.length c,.int .i64 cl,.int .i64 yr] 69):=by rw[ak];exact zal (zb5 (zaq _ _ _ rfl))
 have g1:W0.heap[F]?=some (.cells #[.int .i64 fp,.int .i64 ff,.int .i64 fn,.int .i64 fs,.int .i64 fc,.int .i64 fy] 177):=by rw[ak];exact zaq _ _ _ (by rw[hF];simp[zag])
 have hB:Below w.heap.size w W0:=Mc5;rw[<-ak,<-hF];clear ak hF;have Eh:=zHi (fun W (h:Below W0.heap.size W0 W)=>nF W (hB.trans (h.mono hB.size)));clear nF;have HB:=zHi hB;obtain⟨d0,d1,d2,d3,d4,d5,d6⟩:=zaH g0;obtain⟨e0,e1,e2,e3,e4,e5⟩:=cells6 g1;have l0:=zab g0;have l1:=zab g1;clear hB;go_cut [32]from 6 to 32 (fun v wc=>v=.bool (fm1 pl fr fp ff ap)/\Below w.heap.size w wc/\wc.heap[w.heap.size]?=some (.cells #[.int .i64 kd,.int .i64 dy,.string pl,.string fr,.slice B ts.length c,.int .i64 cl,.int .i64 yr] 69)/\wc.heap[F]?=some (.cells #[.int .i64 fp,.int .i64 ff,.int .i64 fn,.int .i64 fs,.int .i64 fc,.int .i64 fy] 177))
 case first=>
  cases ep:(fp==1)<;>cases ef:(ff==1)<;>cases z1:noB pl<;>cases z2:noB fr
  all_goals(
   first
    |(have w1:¬pl.toList=[]:=by simpa using(show pl.toList.isEmpty=false from z1))
    |(have w1:pl.toList=[]:=by simpa using(show pl.toList.isEmpty=true from z1))
   first
    |(have w2:¬fr.toList=[]:=by simpa using(show fr.toList.isEmpty=false from z2))
    |(have w2:fr.toList=[]:=by simpa using(show fr.toList.isEmpty=true from z2))
   go_wp2_with (go_at_call 124;go_must(refine(Eh.o _ Bw).mono ?_);rintro e wq ⟨rfl,z,rfl⟩)
   go_meet
   exact⟨zaP (by simp[fm1, *]),by first|exact HB.o|exact zbg HB.o z,by first|exact g0|exact zb5 g0,by first|exact g1|exact zb5 g1⟩)
 case rest=>
  obtain⟨rfl,hB,g0,g1⟩:=hcut;clear Eh d0 d1 d2 d3 d4 d5 d6 e0 e1 e2 e3 e4 e5 l0 l1 HB;have HB:=zHi hB;obtain⟨d0,d1,d2,d3,d4,d5,d6⟩:=zaH g0;obtain⟨e0,e1,e2,e3,e4,e5⟩:=cells6 g1;have l0:=zab g0;have l1:=zab g1;clear hB;cases jM:fm1 pl fr fp ff ap
  ·have bI:=HR.o;rw[jM,if_neg Mcx]at bI;have HR:=zHi bI;clear bI jM;go_upto_region 4 with fail
   go_cut [63]from 33 to 63 (fun v w4=>v=.bool (fm2 fn ts.length)/\wc=w4)
   case first=>
    rcases tE.o.n with h|h|h
    ·simp only at h;subst h;by_cases h1:0<ts.length
     ·have h2:(0:Int)<(ts.length:Int):=Mcu;exact MQ
     ·have h2:¬(0:Int)<(ts.length:Int):=Mcu;exact MQ
    ·simp only at h;subst h;by_cases h1:ts.length=1
     ·have h2:((ts.length:Int) != 1)=false:=by rw[h1];rfl
      have h3:(ts.length != 1)=false:=Mc1;exact MQ
     ·have h2:((ts.length:Int) != 1)=true:=by
       have:(ts.length:Int)≠1:=by omega
       simpa using this
      have h3:(ts.length != 1)=true:=Mc1;exact MQ
    ·simp only at h;subst h;by_cases h1:ts.length=0
     ·have h2:((ts.length:Int)==0)=true:=Mc1;have h3:(ts.length==0)=true:=Mc1;exact MQ
     ·have h2:((ts.length:Int)==0)=false:=Mc1;have h3:(ts.length==0)=false:=Mc1;exact MQ
   case rest=>
    obtain⟨rfl,rfl⟩:=hcut;cases eJ:fm2 fn ts.length
    ·have bI:=HR.o;rw[eJ,if_neg Mcx]at bI;have HR:=zHi bI;clear bI eJ;go_upto_region 6 with fail
     go_cut [91]from 64 to 91 (fun v w4=>v=.bool (fm3 fc fy cl yr kd)/\wc=w4)
     case first=>
      cases ec:(fc==0)<;>cases ey:(fy==0)<;>cases ecl:(cl==0)<;>cases eyr:(yr==0)<;>cases ek:(kd==3)
      all_goals(
       have ecl2:(cl != 0)=!(cl==0):=rfl;have eyr2:(yr != 0)=!(yr==0):=rfl;simp only[ecl,eyr,Bool.not_true,Bool.not_false]at ecl2 eyr2;go_wp2_with fail
       go_meet
       exact⟨zaP (by simp[fm3, *]),by first|exact True.intro|rfl⟩)
     case rest=>
      obtain⟨rfl,rfl⟩:=hcut;cases uD:fm3 fc fy cl yr kd
      ·have bI:=HR.o;rw[uD,if_neg Mcx]at bI;have HR:=zHi bI;clear bI uD;go_upto_region 8 with fail
       rcases tE.o.s with h|h
       ·simp only at h;subst h;have HE:Hid (R=bt):=by show _=_;rw[HR.o];rfl
        go_wp2_with (go_at_call 125;go_must(refine(qm.o _ HB.o).mono ?_);rintro e wq ⟨rfl,rfl⟩)
        go_ret
        exact Ret.of (zaP HE.o.symm) HB.o
       ·simp only at h;subst h;have bI:Hid (R=if !s2||decide ((q.den:Int)<q.num)then false else fm5 kd cl yr q):=by show _=_;rw[HR.o];rfl
        go_upto_region 11 with(go_at_call 126;go_must(refine(ny.o _ HB.o).mono ?_);rintro e wq ⟨rfl,z1,rfl⟩)
        obtain⟨Q,hQ⟩:∃Q,Q=wc.heap.size+z1.os.size:=⟨_,rfl⟩
        obtain⟨W3,be⟩:∃W3,W3=(wc.ext z1).alloc (.cells #[.int .i64 q.num,.int .i64 q.den] 31):=⟨_,rfl⟩
        have g3:W3.heap[Q]?=some (.cells #[.int .i64 q.num,.int .i64 q.den] 31):=by rw[be];exact zaq _ _ _ (by rw[hQ];simp[zag])
        have g2:W3.heap[w.heap.size]?=some (.cells #[.int .i64 kd,.int .i64 dy,.string pl,.string fr,.slice B ts.length c,.int .i64 cl,.int .i64 yr] 69):=by rw[be];exact zal (zb5 g0)
        have aH:Hid (Below w.heap.size w W3):=by show Below _ _ _;rw[be];exact zac (zbg HB.o z1) _
        rw[<-be,<-hQ];clear be hQ d0 d1 d2 d3 d4 d5 d6 e0 e1 e2 e3 e4 e5 l0 l1 g0 g1;obtain⟨d0,d1,d2,d3,d4,d5,d6⟩:=zaH g2;obtain⟨q0,q1⟩:=zby g3;have l2:=zab g2;have l3:=zab g3;cases s2
        ·have HE:Hid (R=false):=by show _=_;rw[bI.o];rfl
         have HB:=aH;exact MR
        ·by_cases hq:(q.den:Int)<q.num
         ·have HE:Hid (R=false):=by show _=_;rw[bI.o,if_pos MdH]
          have HB:=aH;exact MR
         ·have HE:Hid (R=fm5 kd cl yr q):=by show _=_;rw[bI.o,if_neg MdH]
          go_upto_region 13 with fail
          by_cases k0:kd=0
          ·subst k0;by_cases u1:q.num=1
           ·by_cases u2:(q.den:Int)=1
            ·have cg:q.den=1:=Mcu;have cM:q=1:=Rat.ext (by rw[u1];rfl) (by rw[cg];rfl);subst cM;cases k2:(cl != 2)
             ·cases k3:decide (0<yr)
              ·exact Mu
              ·exact Mu
             ·exact Mu
            ·have cM:(q==1)=false:=by simp;rintro rfl;exact u2 rfl
             have u3:((q.den:Int)==1)=false:=by simpa using u2
             exact Mu
           ·have cM:(q==1)=false:=by simp;rintro rfl;exact u1 rfl
            have u3:(q.num==1)=false:=by simpa using u1
            exact Mu
          ·have k1:(kd != 0)=true:=by simpa using k0
           exact Mu
      ·have HE:Hid (R=false):=by show _=_;rw[HR.o,uD];rfl
       exact MR
    ·have HE:Hid (R=false):=by show _=_;rw[HR.o,eJ];rfl
     exact MR
  ·have HE:Hid (R=false):=by show _=_;rw[HR.o,jM];rfl
   exact MR
theorem zpl(y:Int)(w:World)(h0:0<=y)(h1:y<=100000):Calls Tryz.prog 215 #[.int .i64 y] w (Ret0 w (.bool (zgO y))):=by
 have w1:wrap64 (y.tmod 4)=y.tmod 4:=McV;have w2:wrap64 (y.tmod 100)=y.tmod 100:=McV;have w3:wrap64 (y.tmod 400)=y.tmod 400:=McV;have v1:IntKind.i64.wrap (y.tmod 4)=y.tmod 4:=McQ;have v2:IntKind.i64.wrap (y.tmod 100)=y.tmod 100:=McQ;have v3:IntKind.i64.wrap (y.tmod 400)=y.tmod 400:=McQ;go_enter Tryz.func215,Tryz.ntmps215
 go_wp2_with fail
 all_goals go_ret
 all_goals exact⟨by simp[zgO,Int.tmod_eq_emod_of_nonneg h0, *],rfl⟩
theorem znp(y:Int)(w:World)(h0:0<=y)(h1:y<=100000):Calls Tryz.prog 214 #[.int .i64 y] w (Ret0 w (.int .i64 (zeZ y))):=by
 have e1:y.tdiv 4=y/4:=Int.tdiv_eq_ediv_of_nonneg h0;have e2:y.tdiv 100=y/100:=Int.tdiv_eq_ediv_of_nonneg h0;have e3:y.tdiv 400=y/400:=Int.tdiv_eq_ediv_of_nonneg h0;have hv:=zd1 h0;have HV:=zHi hv;clear hv;go_enter Tryz.func214,Tryz.ntmps214
 exact MbP
theorem znq{y:Int}(h0:0<=y)(h1:y<=100000):0<=zeZ y/\zeZ y<=100000:=by
 rw[zd1 h0];omega
theorem zfs(y:Int)(m:Nat)(w:World)(h0:0<=y)(h1:y<=100000)(cf:1<=m)(dX:m<=12):Calls Tryz.prog 199 #[.int .i64 y,.int .i64 m] w (Ret0 w (.int .i64 (za6 y m))):=by
 have hm:m=2\/m=1\/m=3\/m=4\/m=5\/m=6\/m=7\/m=8\/m=9\/m=10\/m=11\/m=12:=Mcu;rcases hm with h|h|h|h|h|h|h|h|h|h|h|h
 ·subst h;unfold za6;cases hl:zgO y
  ·have aO:∀W:World,Sem.run Tryz.prog (Instr.index 242 (.agg #[.int .i64 0,.int .i64 31,.int .i64 28,.int .i64 31,.int .i64 30,.int .i64 31,.int .i64 30,.int .i64 31,.int .i64 31,.int .i64 30,.int .i64 31,.int .i64 30,.int .i64 31]) (.int .i64 2)) W=.ok (.int .i64 28) W:=fun W=>by kernel_rfl
   exact MaH
  ·exact MaH
 ·(subst h
   have aO:∀W:World,Sem.run Tryz.prog (Instr.index 242 (.agg #[.int .i64 0,.int .i64 31,.int .i64 28,.int .i64 31,.int .i64 30,.int .i64 31,.int .i64 30,.int .i64 31,.int .i64 31,.int .i64 30,.int .i64 31,.int .i64 30,.int .i64 31]) (.int .i64 1)) W=.ok (.int .i64 31) W:=fun W=>by kernel_rfl
   go_enter Tryz.func199,Tryz.ntmps199
   go_wp2_with fail
   go_ret
   exact⟨rfl,rfl⟩)
 ·(subst h
   have aO:∀W:World,Sem.run Tryz.prog (Instr.index 242 (.agg #[.int .i64 0,.int .i64 31,.int .i64 28,.int .i64 31,.int .i64 30,.int .i64 31,.int .i64 30,.int .i64 31,.int .i64 31,.int .i64 30,.int .i64 31,.int .i64 30,.int .i64 31]) (.int .i64 3)) W=.ok (.int .i64 31) W:=fun W=>by kernel_rfl
   go_enter Tryz.func199,Tryz.ntmps199
   go_wp2_with fail
   go_ret
   exact⟨rfl,rfl⟩)
 ·(subst h
   have aO:∀W:World,Sem.run Tryz.prog (Instr.index 242 (.agg #[.int .i64 0,.int .i64 31,.int .i64 28,.int .i64 31,.int .i64 30,.int .i64 31,.int .i64 30,.int .i64 31,.int .i64 31,.int .i64 30,.int .i64 31,.int .i64 30,.int .i64 31]) (.int .i64 4)) W=.ok (.int .i64 30) W:=fun W=>by kernel_rfl
   go_enter Tryz.func199,Tryz.ntmps199
   go_wp2_with fail
   go_ret
   exact⟨rfl,rfl⟩)
 ·(subst h
   have aO:∀W:World,Sem.run Tryz.prog (Instr.index 242 (.agg #[.int .i64 0,.int .i64 31,.int .i64 28,.int .i64 31,.int .i64 30,.int .i64 31,.int .i64 30,.int .i64 31,.int .i64 31,.int .i64 30,.int .i64 31,.int .i64 30,.int .i64 31]) (.int .i64 5)) W=.ok (.int .i64 31) W:=fun W=>by kernel_rfl
   go_enter Tryz.func199,Tryz.ntmps199
   go_wp2_with fail
   go_ret
   exact⟨rfl,rfl⟩)
 ·(subst h
   have aO:∀W:World,Sem.run Tryz.prog (Instr.index 242 (.agg #[.int .i64 0,.int .i64 31,.int .i64 28,.int .i64 31,.int .i64 30,.int .i64 31,.int .i64 30,.int .i64 31,.int .i64 31,.int .i64 30,.int .i64 31,.int .i64 30,.int .i64 31]) (.int .i64 6)) W=.ok (.int .i64 30) W:=fun W=>by kernel_rfl
   go_enter Tryz.func199,Tryz.ntmps199
   go_wp2_with fail
   go_ret
   exact⟨rfl,rfl⟩)
 ·(subst h
   have aO:∀W:World,Sem.run Tryz.prog (Instr.index 242 (.agg #[.int .i64 0,.int .i64 31,.int .i64 28,.int .i64 31,.int .i64 30,.int .i64 31,.int .i64 30,.int .i64 31,.int .i64 31,.int .i64 30,.int .i64 31,.int .i64 30,.int .i64 31]) (.int .i64 7)) W=.ok (.int .i64 31) W:=fun W=>by kernel_rfl
   go_enter Tryz.func199,Tryz.ntmps199
   go_wp2_with fail
   go_ret
   exact⟨rfl,rfl⟩)
 ·(subst h
   have aO:∀W:World,Sem.run Tryz.prog (Instr.index 242 (.agg #[.int .i64 0,.int .i64 31,.int .i64 28,.int .i64 31,.int .i64 30,.int .i64 31,.int .i64 30,.int .i64 31,.int .i64 31,.int .i64 30,.int .i64 31,.int .i64 30,.int .i64 31]) (.int .i64 8)) W=.ok (.int .i64 31) W:=fun W=>by kernel_rfl
   go_enter Tryz.func199,Tryz.ntmps199
   go_wp2_with fail
   go_ret
   exact⟨rfl,rfl⟩)
 ·(subst h
   have aO:∀W:World,Sem.run Tryz.prog (Instr.index 242 (.agg #[.int .i64 0,.int .i64 31,.int .i64 28,.int .i64 31,.int .i64 30,.int .i64 31,.int .i64 30,.int .i64 31,.int .i64 31,.int .i64 30,.int .i64 31,.int .i64 30,.int .i64 31]) (.int .i64 9)) W=.ok (.int .i64 30) W:=fun W=>by kernel_rfl
   go_enter Tryz.func199,Tryz.ntmps199
   go_wp2_with fail
   go_ret
   exact⟨rfl,rfl⟩)
 ·(subst h
   have aO:∀W:World,Sem.run Tryz.prog (Instr.index 242 (.agg #[.int .i64 0,.int .i64 31,.int .i64 28,.int .i64 31,.int .i64 30,.int .i64 31,.int .i64 30,.int .i64 31,.int .i64 31,.int .i64 30,.int .i64 31,.int .i64 30,.int .i64 31]) (.int .i64 10)) W=.ok (.int .i64 31) W:=fun W=>by kernel_rfl
   go_enter Tryz.func199,Tryz.ntmps199
   go_wp2_with fail
   go_ret
   exact⟨rfl,rfl⟩)
 ·(subst h
   have aO:∀W:World,Sem.run Tryz.prog (Instr.index 242 (.agg #[.int .i64 0,.int .i64 31,.int .i64 28,.int .i64 31,.int .i64 30,.int .i64 31,.int .i64 30,.int .i64 31,.int .i64 31,.int .i64 30,.int .i64 31,.int .i64 30,.int .i64 31]) (.int .i64 11)) W=.ok (.int .i64 30) W:=fun W=>by kernel_rfl
   go_enter Tryz.func199,Tryz.ntmps199
   go_wp2_with fail
   go_ret
   exact⟨rfl,rfl⟩)
 ·(subst h
   have aO:∀W:World,Sem.run Tryz.prog (Instr.index 242 (.agg #[.int .i64 0,.int .i64 31,.int .i64 28,.int .i64 31,.int .i64 30,.int .i64 31,.int .i64 30,.int .i64 31,.int .i64 31,.int .i64 30,.int .i64 31,.int .i64 30,.int .i64 31]) (.int .i64 12)) W=.ok (.int .i64 31) W:=fun W=>by kernel_rfl
   go_enter Tryz.func199,Tryz.ntmps199
   go_wp2_with fail
   go_ret
   exact⟨rfl,rfl⟩)
theorem zds(y:Int)(m:Nat)(w:World)(h0:1800<=y)(h1:y<=2500)(cf:1<=m)(dX:m<=12):Calls Tryz.prog 198 #[.int .i64 y,.int .i64 m] w (Ret0 w (.int .i64 (zaD y m))):=by
 have KX:=znq (y:=y-1) Mcu Mcu;have k0:IntKind.i64.wrap (y-1)=y-1:=IntWalk.i64_in _ Mcu;have k1:IntKind.i64.wrap (y-1800)=y-1800:=IntWalk.i64_in _ Mcu;have k2:IntKind.i64.wrap (365*(y-1800))=365*(y-1800):=IntWalk.i64_in _ Mcu;have k3:IntKind.i64.wrap (365*(y-1800)+zeZ (y-1))=365*(y-1800)+zeZ (y-1):=IntWalk.i64_in _ Mcu;have k4:IntKind.i64.wrap (365*(y-1800)+zeZ (y-1)-436)=begP y:=by unfold begP;exact IntWalk.i64_in _ Mcu
 have ur:zeZ 1799=436:=Mcv;go_enter Tryz.func198,Tryz.ntmps198
 go_upto_region 3 with(go_at_call 214;refine(znp _ _ Mcu Mcu).mono ?_;rintro e wq ⟨rfl,rfl⟩;(try rw[ur]))
 clear k0 k1 k2 k3 k4 KX;go_loop [5,6] (fun n i=>∃k:Nat,1<=k/\k<=m/\i=.int .i64 k/\n=.int .i64 (zaD y k)) (fun _ i=>m-(intOf i).toNat)
 case atStart=>exact⟨1,by omega,cf,rfl,by rw[zbH]⟩
 case round=>
  obtain⟨k,fX,pU,rfl,rfl⟩:=hrel;by_cases ae:k<m
  ·have hb:=zbZ (m:=k) h0 h1 fX Mcu;have fW:=zdH y fX (show k<=12 by omega);have hu:=zf3 y fX;have HU:=zHi hu;have k2:IntKind.i64.wrap (zaD y k+za6 y k)=zaD y k+za6 y k:=IntWalk.i64_in _ Mcu;have bu:(k:Int)<(m:Int):=Mcu;clear hu;go_wp2_with (go_at_call 199;refine(zfs y k _ Mcu Mcu fX Mcu).mono ?_;rintro e wq ⟨rfl,rfl⟩)
   go_round
   case rel=>exact⟨k+1,by omega,by omega,by go_num,by rw[HU.o]⟩
   case measure=>simp[intOf];omega
  ·exact Mco
end
open Go.Sort
theorem own_put{α β:Type}[Inhabited β]{e:TypeId}{f:α->List Value}{enc:β->Value}{w:World}{base g o cap n:Nat}{cur:Array Value}{d:Array β}{L:List α}{os:Array Obj}(hg:w.heap[g]?=some (.cells cur e (0,0)))(hb:base<=g)(hc:L.length<=cap)(hm:cap<=maxLen)(hs:o+cap*1<=cur.size)(hd:d.size=L.length)(hf:L.flatMap f=d.toList.map enc):
 OwnS (Sort.grow (putRow enc (Sort.ahead w n) g o d) os) base e 1 f (.slice (some ⟨g,o,none⟩) L.length cap) L:=by
 have hl:=zab hg;refine .inr ⟨g,o,cap,putCells enc o d cur,rfl,hb,?_,hc,hm,by unfold putCells;rw[Array.size_mapIdx];exact hs,?_⟩
 ·exact MaB
 ·intro j u hu;rw[hf,List.getElem?_map]at hu;cases hj:d.toList[j]? with
  |none=>rw[hj]at hu;cases hu
  |some x=>
   rw[hj]at hu;have cQ:j<d.size:=by have:=(List.getElem?_eq_some_iff.1 hj).1;simpa using this
   have hx:d[j]! =x:=by
    rw[getElem!_pos d j cQ];have:=(List.getElem?_eq_some_iff.1 hj).2;simpa using this
   have KM:o+j<cur.size:=Mcu;have e1:o+j-o=j:=Mcu;unfold putCells;rw[Array.getElem?_mapIdx,Array.getElem?_eq_getElem KM,Option.map_some,if_pos ⟨by omega,by omega⟩,e1,hx];exact hu
theorem put_grown{β:Type}[Inhabited β]{enc:β->Value}{w:World}{g o n:Nat}(d:Array β)(os:Array Obj):w.grownBy (Sort.grow (putRow enc (Sort.ahead w n) g o d) os) (some g):=by
 refine⟨rfl,rfl,rfl,?_,fun k hk ai=>?_⟩
 ·exact Ma9
 ·have Gp:¬g=k:=fun e=>ai (by rw[e])
  exact MaC
theorem holds_own{α β:Type}[Inhabited β]{e:TypeId}{f:α->List Value}{enc:β->Value}{w:World}{g o:Nat}{cur:Array Value}{d:Array β}{L:List α}(hg:w.heap[g]?=some (.cells cur e (0,0)))(hf:L.flatMap f=d.toList.map enc)(hx:∀j u,(L.flatMap f)[j]?=some u->cur[o+j]?=some u):Sort.Holds enc w g o d:=fun j hj=>by
 have h1:=hx j (enc d[j]!) (by rw[hf,List.getElem?_map,List.getElem?_eq_getElem Med,getElem!_pos d j hj];rfl);exact⟨by simp only[World.cell?,hg];exact h1,by simp[World.frozen?,hg]⟩
theorem zh3{w w0 W:World}{v:Value}{base:Nat}(h:w0.heap.size<=base)(hv:∀g,za5 v=some g->base<=g)(hg:w.grownBy W (za5 v))(hB:Below w0.heap.size w0 w):Below w0.heap.size w0 W:=
 hB.trans ⟨hg.os,hg.tape,hg.output,hg.size,fun k hk=>hg.block k (Nat.lt_of_lt_of_le hk hB.size) fun e=>by have:=hv k e.symm;omega⟩
def txOf(l:List UInt8):ByteArray:=⟨l.toArray⟩
theorem txOf_data(b:ByteArray):txOf b.data.toList=b:=by cases b;simp[txOf]
theorem map_tx:∀l:List ByteArray,(l.map (·.data.toList)).map txOf=l
 | []=>rfl
 |b::l=>by rw[List.map_cons,List.map_cons,map_tx l,txOf_data]
theorem znr:∀l:List (List UInt8),(l.map txOf).flatMap sC=l.map encStr
 | []=>rfl
 |b::l=>by rw[List.map_cons,List.flatMap_cons,znr l];rfl
theorem tx_less(x y:List UInt8):zbb (txOf x) (txOf y)=decide (x<y):=by
 unfold zbb txOf;rw[ByteArray.toList_eq,ByteArray.toList_eq,Proofs.bytesLess_eq]
theorem sortT_any(v:Value)(xs:List ByteArray)(base:Nat)(w:World)(aa:OwnS w base 9 1 sC v xs)(hl:xs.length<=1000000000):
 Calls Tryz.prog 28 #[v] w (fun e w'=>e=.returned (.tuple #[])/\∃L,L.Perm xs/\(L.Pairwise fun a b=>zbb b a=false)/\OwnS w' base 9 1 sC v L/\w.grownBy w' (za5 v)):=by
 rcases aa with⟨rfl,rfl⟩|⟨g,o,cap,cur,rfl,hb,hg,hc,hm,hs,hx⟩
 ·have b9:=AnyG.slices_Sort_string_none srtStr none 0 w;change Calls Tryz.prog 28 _ _ _ at b9;refine b9.mono ?_;rintro e wq ⟨rfl,rfl⟩;exact⟨rfl,[],List.Perm.refl _,List.Pairwise.nil,OwnS.nil,zdp _ _⟩
 ·obtain⟨ss,nO⟩:∃ss,ss=xs.map (·.data.toList):=⟨_,rfl⟩
  have bn:xs=ss.map txOf:=by rw[nO,map_tx]
  have ag:ss.length=xs.length:=by rw[nO,List.length_map]
  have b9:=AnyG.slices_Sort_string srtStr g o cap ss w (holds_own (f:=sC) (L:=xs) hg (by rw[bn];exact znr ss) hx) (zab hg) Mcu;change Calls Tryz.prog 28 _ _ _ at b9;rw[ag]at b9;refine b9.mono ?_;rintro e wq ⟨rfl,n,os,rfl⟩;have hp:(ss.mergeSort fun x y=>decide (x<=y)).Perm ss:=List.mergeSort_perm _ _;have qg:(ss.mergeSort fun x y=>decide (x<=y)).Pairwise fun a b=>decide (a<=b)=true:=List.pairwise_mergeSort (le:=fun a b=>decide (a<=b)) (fun a b c h1 h2=>by simp only[decide_eq_true_eq]at*;exact List.le_trans h1 h2) (fun a b=>by simp only[Bool.or_eq_true,decide_eq_true_eq];exact List.le_total a b) ss
  generalize(ss.mergeSort fun x y=>decide (x<=y))=ts at*;have cw:(ts.map txOf).length=xs.length:=by rw[List.length_map,hp.length_eq,ag]
  refine⟨rfl,ts.map txOf,by rw[bn];exact hp.map _,?_,by rw[<-cw];exact own_put hg hb Mcu hm hs Mcx (znr ts),put_grown _ _⟩;rw[List.pairwise_map];refine qg.imp fun {a b} h=>?_
  rw[tx_less];simpa using h
