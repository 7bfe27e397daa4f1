/- Walk of the reference's Spouse. -/
import Derived.Test.YtckkbkdcdkhglaaGreatDoorOA
set_option linter.unusedSimpArgs false
set_option linter.unusedVariables false
set_option maxRecDepth 100000
set_option maxHeartbeats 4000000
namespace Go.Proofs.YtckkbkdcdkhglaaGreatDoor
open Go.RowKit
structure FewS (k:Nat) (s:St):Prop where
 graves:s.graves.length<=k
 kids:s.children.length<=k
 marr:s.marriages.length<=k
 dead:s.dead.length<=k
 ren:s.renounce.length<=k
 wills: ∀n,(zbu s n).length<=8
 held: ∀g∈s.graves,g.holders.length<=80*k/\g.died.length<=k/\g.fin<=200000
theorem zkJ (day years:Int):zci day years<=200000:=by
 unfold zci zbS;simp only;split
 ·decide
 ·split
  ·rename_i h
   have:=(zfz.1 h).2;omega
  ·decide
theorem zgA:FewS 0 zb3:=⟨Nat.le_refl _,Nat.le_refl _,Nat.le_refl _,Nat.le_refl _,Nat.le_refl _,fun n=>by simp[zb3,zbu],by simp[zb3]⟩
theorem FewS.up {k:Nat} {s:St} (h:FewS k s):FewS (k+1) s:=
 ⟨Nat.le_succ_of_le h.graves,Nat.le_succ_of_le h.kids,Nat.le_succ_of_le h.marr,Nat.le_succ_of_le h.dead,Nat.le_succ_of_le h.ren,h.wills,fun g hg=>by have:=h.held g hg;exact⟨by omega,by omega,this.2.2⟩⟩
theorem zdQ (l:Parts) (n:ByteArray):(zas l n).length<=l.length:=List.length_filter_le _ _
theorem zkK {own:Rat}: ∀ {l out o:Parts},zb6 own l out=some o->o.length<=out.length+l.length
 | [],out,o,h=>by
   rw[zb6]at h;cases h;simp
 |p::l,out,o,h=>by
  rw[zb6]at h;split at h
  ·cases h
  split at h
  ·cases h
  have:=zkK h;have h2:=zcy p.1 (own*p.2) out;simp;omega
theorem FewS.withG {k:Nat} {s:St} {i:Nat} {g g':Grave} (h:FewS k s) (hi:s.graves[i]?=some g) (h1:g'.holders.length<=80*k+80) (h2:g'.died.length<=k+1) (h3:g'.fin<=200000):FewS (k+1) (s.withGrave i g'):=by
 refine {h.up with graves:= ?_,held:=fun x hx=> ?_}
 ·unfold St.withGrave;simp only[List.length_set];exact Nat.le_succ_of_le h.graves
 ·unfold St.withGrave at hx;rcases List.mem_or_eq_of_mem_set hx with hx|rfl
  ·exact h.up.held x hx
  ·exact⟨by omega,h2,h3⟩
theorem zgB {s:St} {pl:ByteArray} {day:Int} {i:Nat} (h:zaJ s pl day=some i): ∃g,s.graves[i]?=some g/\s.graves.getD i ze0=g/\g∈s.graves:=by
 obtain⟨g,h1,_⟩:=zbI h;exact⟨g,h1,zdY h1,List.mem_of_getElem? h1⟩
theorem zkL {laws:List Law} {s s':St} {d:Deed} {last:Int} {k:Nat} (h:FewS k s) (hk:k<60) (hG:GoodSt s last) (hd:OkD d) (hl:last<=d.day) (bh:zaA laws=0) (ht:zbq laws s d=(s',0)):FewS (k+1) s':=by
 have nL:=hd.len;have cf:=hd.kind;unfold zbq at ht;split at ht
 ·unfold zcM at ht;split at ht
  ·simp at ht
  split at ht
  ·simp at ht
  split at ht
  ·simp at ht
  simp only[Prod.mk.injEq,and_true]at ht;rw[<-ht];refine {h.up with graves:= ?_,held:=fun g hg=> ?_}
  ·have:=h.graves;simp;omega
  ·rcases List.mem_append.1 hg with hg|hg
   ·exact h.up.held g hg
   ·rw[List.mem_singleton.1 hg];have:=zfh d.to [];simp only[List.length_nil]at this⊢;refine⟨by omega,Nat.zero_le _,?_⟩;split
    ·exact zkJ _ _
    ·decide
 split at ht
 ·unfold zbp at ht;split at ht
  ·simp at ht
  rename_i i hi
  obtain⟨g,bO,bS,rW⟩:=zgB hi;rw[bS]at ht;simp only at ht;split at ht
  ·simp at ht
  split at ht
  ·simp at ht
  split at ht
  ·simp at ht
  split at ht
  ·simp at ht
  split at ht
  ·simp at ht
  rename_i out ho
  simp only[Prod.mk.injEq,and_true]at ht;rw[<-ht];have h1:=zkK ho;have h2:=zcy d.frm (zaf g.holders d.frm*(1-sumQ (zao d.to))) (zas g.holders d.frm);have h3:=zdQ g.holders d.frm;have h4:=h.held g rW;have h5:(zao d.to).length=d.to.length:=by unfold zao;simp
  exact h.withG bO MdM MdM MdM
 split at ht
 ·unfold zaZ at ht;split at ht
  ·simp at ht
  rename_i i hi
  obtain⟨g,bO,bS,rW⟩:=zgB hi;rw[bS]at ht;simp only at ht;split at ht
  ·simp at ht
  split at ht
  ·simp at ht
  simp only[Prod.mk.injEq,and_true]at ht;rw[<-ht];have h3:=zdQ g.holders d.frm;have h4:=h.held g rW;exact h.withG bO (by simp only[List.length_map];omega) MdM MdM
 split at ht
 ·unfold zcX at ht;split at ht
  ·simp at ht
  rename_i i hi
  obtain⟨g,bO,bS,rW⟩:=zgB hi;rw[bS]at ht;simp only at ht;split at ht
  ·simp at ht
  split at ht
  ·simp at ht
  simp only[Prod.mk.injEq,and_true]at ht;rw[<-ht];have h4:=h.held g rW;exact h.withG bO MdM MdM (zkJ _ _)
 split at ht
 ·unfold zgO at ht;split at ht
  ·simp at ht
  simp only[Prod.mk.injEq,and_true]at ht;rw[<-ht];refine {h.up with wills:=fun n=> ?_};rw[zfL];split
  ·unfold zao;simpa using nL
  ·exact h.wills n
 split at ht
 ·unfold zb7 at ht;split at ht
  ·simp at ht
  split at ht
  ·simp at ht
  simp only[Prod.mk.injEq,and_true]at ht;rw[<-ht];exact {h.up with ren:=by have:=h.ren;simp;omega}
 split at ht
 ·unfold zcD at ht;split at ht
  ·simp at ht
  split at ht
  ·simp at ht
  split at ht
  ·simp at ht
  simp only[Prod.mk.injEq,and_true]at ht;rw[<-ht];exact {h.up with kids:=by have:=h.kids;simp;omega}
 split at ht
 ·unfold zdp at ht;split at ht
  ·simp at ht
  split at ht
  ·simp at ht
  simp only[Prod.mk.injEq,and_true]at ht;rw[<-ht];exact {h.up with marr:=by have:=h.marr;simp;omega}
 ·unfold zdJ at ht;split at ht
  ·simp at ht
  split at ht
  ·simp at ht
  rename_i gs aM
  simp only[Prod.mk.injEq,and_true]at ht;rw[<-ht];obtain⟨ag,gX⟩:=zmz aM;refine {h.up with graves:=by have:=h.graves;simp only;omega,dead:=by have:=h.dead;simp;omega,held:=fun x hx=> ?_};obtain⟨i,hi⟩:=List.mem_iff_getElem?.1 hx;obtain⟨g,g1,g2⟩:=gX i x hi;have h4:=h.held g (List.mem_of_getElem? g1);rcases g2 with⟨rfl,_⟩|⟨_,hs,out,e1,e2,rfl⟩
  ·exact h.up.held x (List.mem_of_getElem? g1)
  ·have h1:=zkK e2;have h3:=zdQ g.holders d.frm;have bn:=zeo bh d.day;have bT:=ze3 (hG.wills d.frm) bn e1;have gH:=(zeC (s:=s) (n:=d.frm) (hG.wills d.frm) bn).1 hs e1;have jO:=ziM (s:=s) (law:=zaV laws d.day) (n:=d.frm) (by rw[gH];exact bT.1);rw[gH]at jO;have:=h.wills d.frm;have:=h.kids;simp only[List.length_append,List.length_singleton]at*;exact⟨by omega,by omega,h4.2.2⟩
end Go.Proofs.YtckkbkdcdkhglaaGreatDoor
namespace Go.Proofs.YtckkbkdcdkhglaaGreatDoor
open Go.RowKit Go.Shelf
attribute [local go_sem] World.cell?_alloc_mark zag za5 zaq za8 zaw zax zay zaz za0 za1 za2
attribute [local go_sem] zap zad
theorem tm_eql (W:World):(binOp .eql 82 (.map none) (.map none)).run Tryz.prog W= .ok (.bool true) W:=by
 kernel_rfl
theorem zlR (nm ot pl:ByteArray) (dy tl nu de q:Int) (A:Option Addr) (c:Nat) (w:World) (hc:1<=c) (htd:Int.tdiv 27720 de=q) (JC: ¬de=0) (hqb:0<=q/\q<=27720) (dF:0<=nu*q/\nu*q<=27720) (hS:Sl w 8 Rec.cells A [⟨3,nm,ot,pl,dy,tl,nu,de⟩]):
 Calls Tryz.prog 95 #[.slice A 1 c] w (Ret w (.bool false)):=by
 have da:= @run_makeMap Tryz.prog;have HS:=zHi hS;have jD:IntKind.i64.wrap q=q:=McX;have yt:IntKind.i64.wrap (nu*q)=nu*q:=McX;have KP:IntKind.i64.wrap (0+nu*q)=nu*q:=by rw[Int.zero_add];exact yt
 have hvn: ¬27720<nu*q:=Mcl;clear hS;go_enter Tryz.func95,Tryz.ntmps95
 go_upto_region 4 with fail
 clear da;go_loopw [12] (fun i wr=> ∃k:Nat,k<=1/\i= .int .i64 k/\(k=0->MapS wr w.heap.size ekSp (fun v:Value=>v) ([]:List (Spot×Value))/\MapS wr (w.heap.size+1) ekSp (fun v:Value=>v) ([]:List (Spot×Value)))/\Below w.heap.size w wr/\w.heap.size+2<=wr.heap.size) (fun i _=>1-(intOf i).toNat)
 case atStart=>
  refine⟨0,by omega,rfl,fun _=>⟨(MapS.new w).below (n:=w.heap.size+1) (zac (Below.refl _ _) _ Mco) Mco,?_⟩,Bw,by simp⟩;have:=MapS.new (ek:=ekSp) (ev:=fun v:Value=>v) (w.alloc (.map #[] 0));simpa using this
 case round=>
  obtain⟨k,hk,rfl,hm,hB,hsz⟩:=hrel;have HB:=zHi hB;have aK:=hB.size;by_cases aa:k<1
  ·obtain rfl:k=0:=by omega
   obtain⟨mN,so⟩:=hm rfl;obtain⟨b,off,hA,hb,ah⟩:=(HS.o.keep hB).at (k:=0) Mco;have i0:wr.cell? ⟨b,off,none⟩=some (.int .i64 3):=McM;have i1:wr.cell? ⟨b,off+1,none⟩=some (.string nm):=by have:=ah 1 _ rfl;simpa using this
   have i2:wr.cell? ⟨b,off+2,none⟩=some (.string ot):=by have:=ah 2 _ rfl;simpa using this
   have i3:wr.cell? ⟨b,off+3,none⟩=some (.string pl):=by have:=ah 3 _ rfl;simpa using this
   have i4:wr.cell? ⟨b,off+4,none⟩=some (.int .i64 dy):=by have:=ah 4 _ rfl;simpa using this
   have i5:wr.cell? ⟨b,off+5,none⟩=some (.int .i64 tl):=by have:=ah 5 _ rfl;simpa using this
   have i6:wr.cell? ⟨b,off+6,none⟩=some (.int .i64 nu):=by have:=ah 6 _ rfl;simpa using this
   have i7:wr.cell? ⟨b,off+7,none⟩=some (.int .i64 de):=by have:=ah 7 _ rfl;simpa using this
   have fN:(0:Int)<=(c:Int):=Mcl;have E4:=zHi mN;have kO:=zHi so;subst hA;clear ah mN so hB aa hm;obtain⟨WZ,iv⟩: ∃WZ,WZ=(wr.alloc (.cells #[.int .i64 3, .string nm, .string ot, .string pl, .int .i64 dy, .int .i64 tl, .int .i64 nu, .int .i64 de] 60)).alloc (.cells #[.string pl, .int .i64 dy] 177):=⟨_,rfl⟩
   have io:Below wr.heap.size wr WZ:=by rw[iv];exact Bw
   have fx:WZ.heap.size=wr.heap.size+2:=by rw[iv];simp
   have z0:WZ.heap[wr.heap.size]?=some (.cells #[.int .i64 3, .string nm, .string ot, .string pl, .int .i64 dy, .int .i64 tl, .int .i64 nu, .int .i64 de] 60):=by rw[iv];exact zak (zar _ _ _ rfl)
   have z1:WZ.heap[wr.heap.size+1]?=some (.cells #[.string pl, .int .i64 dy] 177):=by rw[iv];exact zar _ _ _ Mco
   go_upto_region 7 with fail
   rw[<-iv];have dR:=zHi io;clear iv i0 i1 i2 i3 i4 i5 i6 i7 io;obtain⟨y0,y1⟩:=cF2 z0;obtain⟨x0,x1⟩:=cF2 z1;have BA:=zHi z0;have zd:=zHi z1;clear z0 z1;have df: ∀q',(Instr.lookup 175 (.map (some (w.heap.size+1))) (.agg #[.string pl, .int .i64 dy]) false).run Tryz.prog (WZ.drewN q')= .ok (.map none) (WZ.drewN q'):=fun q'=>zb0 mapPM (kO.o.keep (w':=WZ.drewN q') (dR.o.block _ kO.o.at.lt)).at (pl,dy)
   have gR: ∀q',(Instr.lookup 82 (.map none) (.string nm) false).run Tryz.prog (WZ.drewN q')= .ok (.bool false) (WZ.drewN q'):=fun q'=>zmM _ _
   have da:= @run_makeMap Tryz.prog;go_quiet (fail)
   clear gR;have Db: ∀W,(binOp .eql 82 (.map none) (.map none)).run Tryz.prog W= .ok (.bool true) W:=tm_eql;have ph:Below wr.heap.size wr ((WZ.drewN nq).alloc (.map #[] 0)):=dR.o.trans ((zac (zd4 (Below.refl _ _) _) _ (Nat.le_refl _)).mono Mcl);have oV:=zHi ph;have zf:=zHi fx;clear ph fx;go_upto_region 10 with
    (at_mapUpdate
     obtain⟨w1,hrun,cu,bO,eh⟩:=zcu (P:=Tryz.prog) mapPM (kO.o.below oV.o) (pl,dy) (.map (some WZ.heap.size))
     go_loud(refine zdi rfl _ _ _ rfl _ _ _ rfl rfl rfl w1 hrun ?_))
   clear da df Db;have fx:=zf.o;have xZ:w1.heap.size=WZ.heap.size+1:=by rw[eh];simp[World.drewN]
   have F2:((WZ.drewN nq).alloc (.map #[] 0)).heap[WZ.heap.size]?=some (.map #[] 0):=zar _ _ _ (by simp[World.drewN]);have vF: ∀j,j<WZ.heap.size+1->j≠w.heap.size+1->w1.heap[j]?=((WZ.drewN nq).alloc (.map #[] 0)).heap[j]?:=fun j hj ai=>bO.block j (by simp[World.drewN];exact hj) (by simpa using ai)
   have r9:w1.heap[wr.heap.size]?=_:=(vF _ Mcl Mcl).trans ((zak (w:=WZ.drewN nq) BA.o));have vU:w1.heap[wr.heap.size+1]?=_:=(vF _ Mcl Mcl).trans ((zak (w:=WZ.drewN nq) zd.o));have vY:=E4.o.keep ((vF w.heap.size Mcl Mcl).trans (oV.o.block _ E4.o.at.lt));have cE:Below w.heap.size w w1:=zaS ((HB.o.trans (oV.o.mono aK))) bO Mcl;have BX:MapS w1 WZ.heap.size ekS evB ([]:List (ByteArray×Bool)):=⟨#[],0,(vF _ Mcl Mcl).trans F2,rfl,by simp,by simp⟩
   obtain⟨kk,fY⟩: ∃kk,kk=WZ.heap.size:=⟨_,rfl⟩
   rw[<-fY]at cu BX xZ fx;have yE:wr.heap.size+2<=kk:=Mcl;have bV:kk<w1.heap.size:=Mcl;clear fY fx xZ;have ye:(false=true\/(w1.drew.cell? ⟨wr.heap.size+1,0,none⟩=some (.string pl)/\w1.drew.cell? ⟨wr.heap.size+1,1,none⟩=some (.int .i64 dy)/\w1.drew.cell? ⟨wr.heap.size,1,none⟩=some (.string nm)/\(Instr.lookup 175 (.map (some (w.heap.size+1))) (.agg #[.string pl, .int .i64 dy]) false).run Tryz.prog w1.drew= .ok (.map (some kk)) w1.drew)):=by
    have h1:w1.drew.heap[wr.heap.size]?=_:=r9;have h2:w1.drew.heap[wr.heap.size+1]?=_:=vU;refine .inr ⟨by simp only[World.cell?,h2];rfl,by simp only[World.cell?,h2];rfl,by simp only[World.cell?,h1];rfl,?_⟩;have:=zb0 mapPM (cu.keep (w':=w1.drew) rfl).at (pl,dy);exact Mbo
   obtain⟨w5,ck,_,nE,DF⟩:=zcu (P:=Tryz.prog) zos (BX.keep (w':=w1.drew) rfl) nm true;have zo: ∀j,j<kk->w5.heap[j]?=w1.heap[j]?:=fun j hj=>nE.block j (by show j<w1.heap.size;omega) Mcq
   have tA:=(zo wr.heap.size Mcl).trans r9;have zA:=(zo (wr.heap.size+1) Mcl).trans vU;have hS5:=vY.keep (zo w.heap.size Mcl);have nw:Below w.heap.size w w5:=zaS (zaM cE) nE Mcl;have L4:w1.heap.size<=w5.heap.size:=Nat.le_of_eq DF.symm;have aH:=zHi nw;clear zo nE nw cE BX cu vY r9 vU F2 vF eh bO;refine zaC 5 (fun bb w'=>bb=true\/(w'.cell? ⟨wr.heap.size+1,0,none⟩=some (.string pl)/\w'.cell? ⟨wr.heap.size+1,1,none⟩=some (.int .i64 dy)/\w'.cell? ⟨wr.heap.size,1,none⟩=some (.string nm)/\(Instr.lookup 175 (.map (some (w.heap.size+1))) (.agg #[.string pl, .int .i64 dy]) false).run Tryz.prog w'= .ok (.map (some kk)) w')) Mcm ye ?hrest
   case hrest=>
    intro hHeld;refine TkM 0 ?_;refine TkM 1 ?_;refine TkM 2 ?_;refine TkM 3 ?_;refine TkM 4 ?_;refine OnM 5 true fun K hK=> ?_
    refine zmN rfl _ _ _ rfl _ _ _ rfl rfl rfl w5 ck ?_;refine NxM hK fun hHeld=> ?_
    clear hK K;refine zaQ Mcm ?_ _;clear hHeld ck ye DF;go_upto_region 11 with fail
    have yf:(false=true\/(w5.drew.cell? ⟨wr.heap.size+1,0,none⟩=some (.string pl)/\w5.drew.cell? ⟨wr.heap.size+1,1,none⟩=some (.int .i64 dy)/\w5.drew.cell? ⟨wr.heap.size,6,none⟩=some (.int .i64 nu)/\w5.drew.cell? ⟨wr.heap.size,7,none⟩=some (.int .i64 de)/\(Instr.lookup 174 (.map (some w.heap.size)) (.agg #[.string pl, .int .i64 dy]) false).run Tryz.prog w5.drew= .ok (.int .i64 0) w5.drew)):=by
     have h1:w5.drew.heap[wr.heap.size]?=_:=tA;have h2:w5.drew.heap[wr.heap.size+1]?=_:=zA;exact .inr ⟨by simp only[World.cell?,h2];rfl,by simp only[World.cell?,h2];rfl,by simp only[World.cell?,h1];rfl,by simp only[World.cell?,h1];rfl,zb0 mapPV (hS5.keep (w':=w5.drew) rfl).at (pl,dy)⟩
    obtain⟨w6,st,jj,eP,kv,mT,fM,bH,Gv⟩:=zk5 (P:=Tryz.prog) mapPV (hS5.keep (w':=w5.drew) rfl) (pl,dy);have oB:(mget eqSp (pl,dy) ([]:List (Spot×Value))).getD (.int .i64 0)= .int .i64 0:=rfl;rw[oB]at eP kv mT fM;have zp: ∀j,j<w5.heap.size->j≠w.heap.size->w6.heap[j]?=w5.heap[j]?:=fun j hj ai=>bH.block j hj (by simpa using ai)
    have sz:(false=true\/(w6.cell? ⟨wr.heap.size+1,0,none⟩=some (.string pl)/\w6.cell? ⟨wr.heap.size+1,1,none⟩=some (.int .i64 dy)/\w6.cell? ⟨wr.heap.size,6,none⟩=some (.int .i64 nu)/\w6.cell? ⟨wr.heap.size,7,none⟩=some (.int .i64 de)/\(Instr.lookup 174 (.map (some w.heap.size)) (.agg #[.string pl, .int .i64 dy]) false).run Tryz.prog w6= .ok (.int .i64 0) w6)):=by
     have h1:=(zp wr.heap.size Mcl Mcl).trans tA;have h2:=(zp (wr.heap.size+1) Mcl Mcl).trans zA;refine .inr ⟨by simp only[World.cell?,h2];rfl,by simp only[World.cell?,h2];rfl,by simp only[World.cell?,h1];rfl,by simp only[World.cell?,h1];rfl,?_⟩;have:=zb0 mapPV kv.mapAt (pl,dy);exact Mbo
    obtain⟨w7,xU,sm,nF,Gw⟩:=zdK (P:=Tryz.prog) kv fM 174 (.int .i64 (nu*q));rw[mT]at sm;have L5:w5.heap.size<=w7.heap.size:=Nat.le_of_eq (Gw.trans Gv).symm;have EL: ∀j,j<w5.heap.size->j≠w.heap.size->w7.heap[j]?=w5.heap[j]?:=fun j hj ai=>(nF.block j (by have:w5.drew.heap.size=w5.heap.size:=rfl;omega) (by simpa using ai)).trans (zp j hj ai)
    have Ki:(Instr.lookup 174 (.map (some w.heap.size)) (.agg #[.string pl, .int .i64 dy]) false).run Tryz.prog w7= .ok (.int .i64 (nu*q)) w7:=by
     have:=zb0 mapPV sm.at (pl,dy);exact Mbo
    have F6:=(EL (wr.heap.size+1) Mcl Mcl).trans zA;obtain⟨j0,j1⟩:=cF2 F6;have Ew:Below w.heap.size w w7:=zaS (zaS (zaM aH.o) bH Mcl) nF Mcl;have bR:=zHi Ew;clear Ew sm EL zp nF bH F6;refine zaC 14 (fun bb w'=>bb=true\/(w'.cell? ⟨wr.heap.size+1,0,none⟩=some (.string pl)/\w'.cell? ⟨wr.heap.size+1,1,none⟩=some (.int .i64 dy)/\w'.cell? ⟨wr.heap.size,6,none⟩=some (.int .i64 nu)/\w'.cell? ⟨wr.heap.size,7,none⟩=some (.int .i64 de)/\(Instr.lookup 174 (.map (some w.heap.size)) (.agg #[.string pl, .int .i64 dy]) false).run Tryz.prog w'= .ok (.int .i64 0) w')) Mcm yf ?hrest
    case hrest=>
     intro hHeld;refine TkM 0 ?_;refine TkM 1 ?_;refine TkM 2 ?_;refine TkM 3 ?_;refine TkM 4 ?_;refine TkM 5 ?_;refine TkM 6 ?_;refine TkM 7 ?_;refine TkM 8 ?_;refine TkM 9 ?_;refine TkM 10 ?_;refine TkM 11 ?_;refine OnM 12 false fun K hK=> ?_
     refine zhf rfl _ _ rfl _ _ _ rfl rfl w6 eP ?_;refine NxM hK (fun hHeld=> ?_) (sz);clear hK K;refine OnM 13 false fun K hK=> ?_
     go_simp
     refine NxM hK (fun hHeld=> ?_) (sz);clear hK K;refine OnM 14 true fun K hK=> ?_
     refine zfR rfl _ _ _ rfl _ _ _ rfl rfl rfl w7 xU ?_;refine NxM hK fun hHeld=> ?_
     clear hK K;refine zaQ Mcm ?_ _;clear hHeld xU eP yf sz kv mT fM tA zA hS5 oB;go_wp2_with fail
     go_round
     case rel=>exact⟨1,by omega,by go_num,fun h=>absurd h Mcn,bR.o,by omega⟩
     case measure=>simp only[intOf];omega
  ·have ar: ¬(k:Int)<1:=Mcl;clear hB hm;exact Mby
def zlS (n o:ByteArray) (m:ByteArray×ByteArray):ByteArray:=if zae m.1 n then m.2 else o
def spSt (n o:ByteArray) (m:ByteArray×ByteArray):ByteArray:=if zae m.2 n then m.1 else zlS n o m
def spGo (n:ByteArray) (l:List (ByteArray×ByteArray)) (o:ByteArray):ByteArray:=l.foldl (spSt n) o
theorem zlT (n:ByteArray) (l:List (ByteArray×ByteArray)) (m:ByteArray×ByteArray) (o:ByteArray):spGo n (l++[m]) o=spSt n (spGo n l o) m:=by
 unfold spGo;rw[List.foldl_append];rfl
theorem spGo_eq (n:ByteArray) (l:List (ByteArray×ByteArray)):spGo n l.reverse ⟨#[]⟩=zdn n l:=by
 induction l with
 |nil=>rfl
 |cons m l ih=>
  rw[List.reverse_cons,zlT,ih];obtain⟨a,b⟩:=m;rw[zdn];unfold spSt zlS;simp only;cases h1:zae a n
  ·cases h2:zae b n<;>simp
  ·cases h2:zae b n
   ·simp
   ·simp only[if_true];exact(zat.1 h1).trans (zat.1 h2).symm
def zfU (ms:List (ByteArray×ByteArray)) (dd:List ByteArray) (n:ByteArray):ByteArray:=if dd.any (zae (spGo n ms ⟨#[]⟩))then⟨#[]⟩else spGo n ms ⟨#[]⟩
theorem zoP (s:St) (n:ByteArray):zfU s.marriages s.dead n=zaL s n:=by
 have h:=spGo_eq n s.marriages.reverse;rw[List.reverse_reverse]at h;unfold zfU zaL zaH;rw[h]
theorem zmZ (ms:List (ByteArray×ByteArray)) (dd:List ByteArray) (n:ByteArray) (LA CA MA DA WA RA GA:Option Addr) (n0 c0 n1 c1 n2 c2 n3 c3 n4 c4 n5 c5 n6 c6:Nat) (w:World) (hl:ms.length<=100000) (hS:Sl w 2 zaT MA ms) (bz:dd.length<=100000) (nD:dd.length<=c3) (hD:Sl w 1 sC DA dd):
 Calls Tryz.prog 40 #[.agg #[.slice LA n0 c0, .slice CA n1 c1, .slice MA ms.length c2, .slice DA dd.length c3, .slice WA n4 c4, .slice RA n5 c5, .slice GA n6 c6], .string n] w (Ret w (.string (zfU ms dd n))):=by
 have gw:=zHi hS;have ig:=zHi (fun x W (h:Below w.heap.size w W)=>zeH dd x LA CA MA DA WA RA GA n0 c0 n1 c1 ms.length c2 dd.length c3 n4 c4 n5 c5 n6 c6 W bz nD (hD.keep h));clear hS hD;go_enter Tryz.func40,Tryz.ntmps40
 go_upto_region 1 with fail
 obtain⟨W0,ao⟩: ∃W0,W0=w.alloc (.cells #[.slice LA n0 c0, .slice CA n1 c1, .slice MA ms.length c2, .slice DA dd.length c3, .slice WA n4 c4, .slice RA n5 c5, .slice GA n6 c6] 40):=⟨_,rfl⟩
 have b0:W0.heap[w.heap.size]?=some (.cells #[.slice LA n0 c0, .slice CA n1 c1, .slice MA ms.length c2, .slice DA dd.length c3, .slice WA n4 c4, .slice RA n5 c5, .slice GA n6 c6] 40):=Mdf;have aI:Below w.heap.size w W0:=McY;rw[<-ao];have ak:=zHi aI;have HS:=zHi (gw.o.keep aI);obtain⟨k0,k1,k2,k3,k4,k5,k6⟩:=cF7 b0;clear ao b0 aI gw;go_upto_region 3 with fail
 go_loopw [5,6,7] (fun v i _ wr=> ∃(k:Nat) (o:ByteArray),k<=ms.length/\i= .int .i64 k/\v= .string o/\W0=wr/\Hid (o=spGo n (ms.take k) ⟨#[]⟩)) (fun _ i _ _=>ms.length-(intOf i).toNat)
 case atStart=>exact⟨0,⟨#[]⟩,Nat.zero_le _,rfl,rfl,rfl,zHi rfl⟩
 case round=>
  obtain⟨k,o,hk,rfl,rfl,rfl,HX⟩:=hrel;by_cases aa:k<ms.length
  ·obtain⟨b,off,rfl,hb,ah⟩:=HS.o.at aa;have iZ:ms.take (k+1)=ms.take k++[ms[k]]:=by rw[List.take_add_one,List.getElem?_eq_getElem aa];rfl
   have aq:=zHi aa;have au:Hid (spGo n (ms.take (k+1)) ⟨#[]⟩=spSt n o ms[k]):=by show _=_;rw[iZ,zlT,<-HX.o];rfl
   generalize ms[k]=m at*;obtain⟨ma,mb⟩:=m;have i0:W0.cell? ⟨b,off+k*2,none⟩=some (.string ma):=ah 0 _ rfl;have i1:W0.cell? ⟨b,off+k*2+1,none⟩=some (.string mb):=ah 1 _ rfl;have ar:(k:Int)<(ms.length:Int):=Mcl;have aT:(0:Int)<=(k:Int):=Mcl;clear ah aa iZ;go_upto_region 6 with fail
   go_loopw [5,7] (fun v z wr=>W0=wr/\((z= .int .i64 0/\v= .string o)\/(z= .int .i64 1/\v= .string (zlS n o (ma,mb)))\/(z= .int .i64 2/\v= .string (spSt n o (ma,mb))))) (fun _ z _=>2-(intOf z).toNat)
   case atStart=>exact⟨rfl, .inl ⟨rfl,rfl⟩⟩
   case round=>
    obtain⟨rfl,⟨rfl,rfl⟩|⟨rfl,rfl⟩|⟨rfl,rfl⟩⟩:=hrel
    ·cases hs:zae ma n
     ·have br:(ma.toList==n.toList)=false:=hs;have he:zlS n o (ma,mb)=o:=by unfold zlS;simp[hs]
      exact Mav
     ·have br:(ma.toList==n.toList)=true:=hs;have he:zlS n o (ma,mb)=mb:=by unfold zlS;simp[hs]
      exact Mav
    ·generalize hmid:zlS n o (ma,mb)=o2 at*;have HM:=zHi hmid;clear hmid;cases hs:zae mb n
     ·have br:(mb.toList==n.toList)=false:=hs;have HE:Hid (spSt n o (ma,mb)=o2):=by show _=_;unfold spSt;rw[HM.o];simp[hs]
      exact MaM
     ·have br:(mb.toList==n.toList)=true:=hs;have HE:Hid (spSt n o (ma,mb)=ma):=by show _=_;unfold spSt;simp[hs]
      exact MaM
    ·go_wp2_with fail
     go_round
     case rel=>exact⟨k+1,_,aq.o,by go_num,rfl,by first|exact True.intro|rfl,zHi au.o.symm⟩
     case measure=>have:=aq.o;simp only[intOf];omega
  ·have ar: ¬(k:Int)<(ms.length:Int):=Mcl;have hx:=HX.o;rw[List.take_of_length_le Mcl]at hx;have sP:=zHi (fun W h=>ig.o o W h);cases hd:dd.any (zae o)
   ·have HE:Hid (zfU ms dd n=o):=by show _=_;unfold zfU;rw[<-hx,hd];rfl
    exact May
   ·have HE:Hid (zfU ms dd n=⟨#[]⟩):=by show _=_;unfold zfU;rw[<-hx,hd];rfl
    exact May
end Go.Proofs.YtckkbkdcdkhglaaGreatDoor
