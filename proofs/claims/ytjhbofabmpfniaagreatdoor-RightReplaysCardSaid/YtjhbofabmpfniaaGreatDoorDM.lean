/- Walks of the reference's dates: AddMonths, after. -/
import Derived.Test.YtjhbofabmpfniaaGreatDoorUF
import Derived.Test.YtjhbofabmpfniaaGreatDoorTie
import Derived.Test.YtjhbofabmpfniaaGreatDoorUI
set_option linter.unusedSimpArgs false
set_option linter.unusedVariables false
set_option maxRecDepth 100000
set_option maxHeartbeats 4000000
namespace Go.Proofs.YtjhbofabmpfniaaGreatDoor
open Go.RowKit Go.Shelf
attribute [local go_sem] World.cell?_alloc_mark zae za3 zam za6 zas zat zau zav zaw zax zay
attribute [local go_sem] zaj zac
theorem tm_eql (W:World):(binOp .eql 133 (.map none) (.map none)).run Tryz.prog W= .ok (.bool true) W:=by
 kernel_rfl
theorem zmf (nm ot pl:ByteArray) (dy tl nu de q:Int) (A:Option Addr) (c:Nat) (w:World) (hc:1<=c) (yo:Int.tdiv 27720 de=q) (JV: ¬de=0) (hqb:0<=q/\q<=27720) (dB:0<=nu*q/\nu*q<=27720) (hS:Sl w 8 Rec.cells A [⟨3,nm,ot,pl,dy,tl,nu,de⟩]):
 Calls Tryz.prog 174 #[.slice A 1 c] w (Ret w (.bool false)):=by
 have cY:= @run_makeMap Tryz.prog;have HS:=zHi hS;have jK:IntKind.i64.wrap q=q:=Mc0;have yu:IntKind.i64.wrap (nu*q)=nu*q:=Mc0;have L7:IntKind.i64.wrap (0+nu*q)=nu*q:=by rw[Int.zero_add];exact yu
 have hvn: ¬27720<nu*q:=Mcn;clear hS;go_enter Tryz.func174,Tryz.ntmps174
 go_upto_region 4 with fail
 clear cY;go_loopw [12] (fun i wr=> ∃k:Nat,k<=1/\i= .int .i64 k/\(k=0->MapS wr w.heap.size ekSp (fun v:Value=>v) ([]:List (Spot×Value))/\MapS wr (w.heap.size+1) ekSp (fun v:Value=>v) ([]:List (Spot×Value)))/\Below w.heap.size w wr/\w.heap.size+2<=wr.heap.size) (fun i _=>1-(intOf i).toNat)
 case atStart=>
  refine⟨0,by omega,rfl,fun _=>⟨(MapS.new w).below (n:=w.heap.size+1) (zad (Below.refl _ _) _ Mcq) Mcq,?_⟩,Bw,by simp⟩;have:=MapS.new (ek:=ekSp) (ev:=fun v:Value=>v) (w.alloc (.map #[] 0));simpa using this
 case round=>
  obtain⟨k,hk,rfl,hm,hB,hsz⟩:=hrel;have HB:=zHi hB;have aE:=hB.size;by_cases aa:k<1
  ·obtain rfl:k=0:=by omega
   obtain⟨mJ,su⟩:=hm rfl;obtain⟨b,off,hA,hb,ah⟩:=(HS.o.keep hB).at (k:=0) Mcq;have i0:wr.cell? ⟨b,off,none⟩=some (.int .i64 3):=McO;have i1:wr.cell? ⟨b,off+1,none⟩=some (.string nm):=by have:=ah 1 _ rfl;simpa using this
   have i2:wr.cell? ⟨b,off+2,none⟩=some (.string ot):=by have:=ah 2 _ rfl;simpa using this
   have i3:wr.cell? ⟨b,off+3,none⟩=some (.string pl):=by have:=ah 3 _ rfl;simpa using this
   have i4:wr.cell? ⟨b,off+4,none⟩=some (.int .i64 dy):=by have:=ah 4 _ rfl;simpa using this
   have i5:wr.cell? ⟨b,off+5,none⟩=some (.int .i64 tl):=by have:=ah 5 _ rfl;simpa using this
   have i6:wr.cell? ⟨b,off+6,none⟩=some (.int .i64 nu):=by have:=ah 6 _ rfl;simpa using this
   have i7:wr.cell? ⟨b,off+7,none⟩=some (.int .i64 de):=by have:=ah 7 _ rfl;simpa using this
   have fH:(0:Int)<=(c:Int):=Mcn;have Ej:=zHi mJ;have kP:=zHi su;subst hA;clear ah mJ su hB aa hm;obtain⟨WZ,fw⟩: ∃WZ,WZ=(wr.alloc (.cells #[.int .i64 3, .string nm, .string ot, .string pl, .int .i64 dy, .int .i64 tl, .int .i64 nu, .int .i64 de] 105)).alloc (.cells #[.string pl, .int .i64 dy] 260):=⟨_,rfl⟩
   have eV:Below wr.heap.size wr WZ:=by rw[fw];exact Bw
   have d9:WZ.heap.size=wr.heap.size+2:=by rw[fw];simp
   have z0:WZ.heap[wr.heap.size]?=some (.cells #[.int .i64 3, .string nm, .string ot, .string pl, .int .i64 dy, .int .i64 tl, .int .i64 nu, .int .i64 de] 105):=by rw[fw];exact zal (zar _ _ _ rfl)
   have z1:WZ.heap[wr.heap.size+1]?=some (.cells #[.string pl, .int .i64 dy] 260):=by rw[fw];exact zar _ _ _ Mcq
   go_upto_region 7 with fail
   rw[<-fw];have fF:=zHi eV;clear fw i0 i1 i2 i3 i4 i5 i6 i7 eV;obtain⟨y0,y1⟩:=cF2 z0;obtain⟨x0,x1⟩:=cF2 z1;have BP:=zHi z0;have zi:=zHi z1;clear z0 z1;have cZ: ∀q',(Instr.lookup 258 (.map (some (w.heap.size+1))) (.agg #[.string pl, .int .i64 dy]) false).run Tryz.prog (WZ.drewN q')= .ok (.map none) (WZ.drewN q'):=fun q'=>zb3 mapPM (kP.o.keep (w':=WZ.drewN q') (fF.o.block _ kP.o.at.lt)).at (pl,dy)
   have gN: ∀q',(Instr.lookup 133 (.map none) (.string nm) false).run Tryz.prog (WZ.drewN q')= .ok (.bool false) (WZ.drewN q'):=fun q'=>zmQ _ _
   have cY:= @run_makeMap Tryz.prog;go_quiet (fail)
   clear gN;have Du: ∀W,(binOp .eql 133 (.map none) (.map none)).run Tryz.prog W= .ok (.bool true) W:=tm_eql;have pj:Below wr.heap.size wr ((WZ.drewN nq).alloc (.map #[] 0)):=fF.o.trans ((zad (zd5 (Below.refl _ _) _) _ (Nat.le_refl _)).mono Mcn);have oX:=zHi pj;have th:=zHi d9;clear pj d9;go_upto_region 10 with
    (at_mapUpdate
     obtain⟨w1,hrun,ct,cj,dt⟩:=zcu (P:=Tryz.prog) mapPM (kP.o.below oX.o) (pl,dy) (.map (some WZ.heap.size))
     go_loud(refine zdk rfl _ _ _ rfl _ _ _ rfl rfl rfl w1 hrun ?_))
   clear cY cZ Du;have d9:=th.o;have xX:w1.heap.size=WZ.heap.size+1:=by rw[dt];simp[World.drewN]
   have Fg:((WZ.drewN nq).alloc (.map #[] 0)).heap[WZ.heap.size]?=some (.map #[] 0):=zar _ _ _ (by simp[World.drewN]);have vz: ∀j,j<WZ.heap.size+1->j≠w.heap.size+1->w1.heap[j]?=((WZ.drewN nq).alloc (.map #[] 0)).heap[j]?:=fun j hj ai=>cj.block j (by simp[World.drewN];exact hj) (by simpa using ai)
   have rh:w1.heap[wr.heap.size]?=_:=(vz _ Mcn Mcn).trans ((zal (w:=WZ.drewN nq) BP.o));have vP:w1.heap[wr.heap.size+1]?=_:=(vz _ Mcn Mcn).trans ((zal (w:=WZ.drewN nq) zi.o));have vT:=Ej.o.keep ((vz w.heap.size Mcn Mcn).trans (oX.o.block _ Ej.o.at.lt));have bY:Below w.heap.size w w1:=zaS ((HB.o.trans (oX.o.mono aE))) cj Mcn;have Cb:MapS w1 WZ.heap.size ekS evB ([]:List (ByteArray×Bool)):=⟨#[],0,(vz _ Mcn Mcn).trans Fg,rfl,by simp,by simp⟩
   obtain⟨kk,fT⟩: ∃kk,kk=WZ.heap.size:=⟨_,rfl⟩
   rw[<-fT]at ct Cb xX d9;have oW:wr.heap.size+2<=kk:=Mcn;have bR:kk<w1.heap.size:=Mcn;clear fT d9 xX;have ye:(false=true\/(w1.drew.cell? ⟨wr.heap.size+1,0,none⟩=some (.string pl)/\w1.drew.cell? ⟨wr.heap.size+1,1,none⟩=some (.int .i64 dy)/\w1.drew.cell? ⟨wr.heap.size,1,none⟩=some (.string nm)/\(Instr.lookup 258 (.map (some (w.heap.size+1))) (.agg #[.string pl, .int .i64 dy]) false).run Tryz.prog w1.drew= .ok (.map (some kk)) w1.drew)):=by
    have h1:w1.drew.heap[wr.heap.size]?=_:=rh;have h2:w1.drew.heap[wr.heap.size+1]?=_:=vP;refine .inr ⟨by simp only[World.cell?,h2];rfl,by simp only[World.cell?,h2];rfl,by simp only[World.cell?,h1];rfl,?_⟩;have:=zb3 mapPM (ct.keep (w':=w1.drew) rfl).at (pl,dy);exact Mbo
   obtain⟨w5,pW,_,nz,DT⟩:=zcu (P:=Tryz.prog) zox (Cb.keep (w':=w1.drew) rfl) nm true;have zu: ∀j,j<kk->w5.heap[j]?=w1.heap[j]?:=fun j hj=>nz.block j (by show j<w1.heap.size;omega) Mcr
   have tx:=(zu wr.heap.size Mcn).trans rh;have zF:=(zu (wr.heap.size+1) Mcn).trans vP;have hS5:=vT.keep (zu w.heap.size Mcn);have ik:Below w.heap.size w w5:=zaS (zaH bY) nz Mcn;have Lm:w1.heap.size<=w5.heap.size:=Nat.le_of_eq DT.symm;have bi:=zHi ik;clear zu nz ik bY Cb ct vT rh vP Fg vz dt cj;refine zaC 5 (fun bb w'=>bb=true\/(w'.cell? ⟨wr.heap.size+1,0,none⟩=some (.string pl)/\w'.cell? ⟨wr.heap.size+1,1,none⟩=some (.int .i64 dy)/\w'.cell? ⟨wr.heap.size,1,none⟩=some (.string nm)/\(Instr.lookup 258 (.map (some (w.heap.size+1))) (.agg #[.string pl, .int .i64 dy]) false).run Tryz.prog w'= .ok (.map (some kk)) w')) Mco ye ?hrest
   case hrest=>
    intro hHeld;refine TkM 0 ?_;refine TkM 1 ?_;refine TkM 2 ?_;refine TkM 3 ?_;refine TkM 4 ?_;refine OnM 5 true fun K hK=> ?_
    refine zmR rfl _ _ _ rfl _ _ _ rfl rfl rfl w5 pW ?_;refine NxM hK fun hHeld=> ?_
    clear hK K;refine zaN Mco ?_ _;clear hHeld pW ye DT;go_upto_region 11 with fail
    have yf:(false=true\/(w5.drew.cell? ⟨wr.heap.size+1,0,none⟩=some (.string pl)/\w5.drew.cell? ⟨wr.heap.size+1,1,none⟩=some (.int .i64 dy)/\w5.drew.cell? ⟨wr.heap.size,6,none⟩=some (.int .i64 nu)/\w5.drew.cell? ⟨wr.heap.size,7,none⟩=some (.int .i64 de)/\(Instr.lookup 257 (.map (some w.heap.size)) (.agg #[.string pl, .int .i64 dy]) false).run Tryz.prog w5.drew= .ok (.int .i64 0) w5.drew)):=by
     have h1:w5.drew.heap[wr.heap.size]?=_:=tx;have h2:w5.drew.heap[wr.heap.size+1]?=_:=zF;exact .inr ⟨by simp only[World.cell?,h2];rfl,by simp only[World.cell?,h2];rfl,by simp only[World.cell?,h1];rfl,by simp only[World.cell?,h1];rfl,zb3 mapPV (hS5.keep (w':=w5.drew) rfl).at (pl,dy)⟩
    obtain⟨w6,st,jj,eK,kA,mQ,fe,bG,GJ⟩:=zk5 (P:=Tryz.prog) mapPV (hS5.keep (w':=w5.drew) rfl) (pl,dy);have oz:(mget eqSp (pl,dy) ([]:List (Spot×Value))).getD (.int .i64 0)= .int .i64 0:=rfl;rw[oz]at eK kA mQ fe;have zv: ∀j,j<w5.heap.size->j≠w.heap.size->w6.heap[j]?=w5.heap[j]?:=fun j hj ai=>bG.block j hj (by simpa using ai)
    have sB:(false=true\/(w6.cell? ⟨wr.heap.size+1,0,none⟩=some (.string pl)/\w6.cell? ⟨wr.heap.size+1,1,none⟩=some (.int .i64 dy)/\w6.cell? ⟨wr.heap.size,6,none⟩=some (.int .i64 nu)/\w6.cell? ⟨wr.heap.size,7,none⟩=some (.int .i64 de)/\(Instr.lookup 257 (.map (some w.heap.size)) (.agg #[.string pl, .int .i64 dy]) false).run Tryz.prog w6= .ok (.int .i64 0) w6)):=by
     have h1:=(zv wr.heap.size Mcn Mcn).trans tx;have h2:=(zv (wr.heap.size+1) Mcn Mcn).trans zF;refine .inr ⟨by simp only[World.cell?,h2];rfl,by simp only[World.cell?,h2];rfl,by simp only[World.cell?,h1];rfl,by simp only[World.cell?,h1];rfl,?_⟩;have:=zb3 mapPV kA.mapAt (pl,dy);exact Mbo
    obtain⟨w7,xS,sr,nA,GK⟩:=zdM (P:=Tryz.prog) kA fe 257 (.int .i64 (nu*q));rw[mQ]at sr;have Lo:w5.heap.size<=w7.heap.size:=Nat.le_of_eq (GK.trans GJ).symm;have F0: ∀j,j<w5.heap.size->j≠w.heap.size->w7.heap[j]?=w5.heap[j]?:=fun j hj ai=>(nA.block j (by have:w5.drew.heap.size=w5.heap.size:=rfl;omega) (by simpa using ai)).trans (zv j hj ai)
    have KB:(Instr.lookup 257 (.map (some w.heap.size)) (.agg #[.string pl, .int .i64 dy]) false).run Tryz.prog w7= .ok (.int .i64 (nu*q)) w7:=by
     have:=zb3 mapPV sr.at (pl,dy);exact Mbo
    have Fk:=(F0 (wr.heap.size+1) Mcn Mcn).trans zF;obtain⟨j0,j1⟩:=cF2 Fk;have ER:Below w.heap.size w w7:=zaS (zaS (zaH bi.o) bG Mcn) nA Mcn;have bT:=zHi ER;clear ER sr F0 zv nA bG Fk;refine zaC 14 (fun bb w'=>bb=true\/(w'.cell? ⟨wr.heap.size+1,0,none⟩=some (.string pl)/\w'.cell? ⟨wr.heap.size+1,1,none⟩=some (.int .i64 dy)/\w'.cell? ⟨wr.heap.size,6,none⟩=some (.int .i64 nu)/\w'.cell? ⟨wr.heap.size,7,none⟩=some (.int .i64 de)/\(Instr.lookup 257 (.map (some w.heap.size)) (.agg #[.string pl, .int .i64 dy]) false).run Tryz.prog w'= .ok (.int .i64 0) w')) Mco yf ?hrest
    case hrest=>
     intro hHeld;refine TkM 0 ?_;refine TkM 1 ?_;refine TkM 2 ?_;refine TkM 3 ?_;refine TkM 4 ?_;refine TkM 5 ?_;refine TkM 6 ?_;refine TkM 7 ?_;refine TkM 8 ?_;refine TkM 9 ?_;refine TkM 10 ?_;refine TkM 11 ?_;refine OnM 12 false fun K hK=> ?_
     refine zhk rfl _ _ rfl _ _ _ rfl rfl w6 eK ?_;refine NxM hK (fun hHeld=> ?_) (sB);clear hK K;refine OnM 13 false fun K hK=> ?_
     go_simp
     refine NxM hK (fun hHeld=> ?_) (sB);clear hK K;refine OnM 14 true fun K hK=> ?_
     refine zgd rfl _ _ _ rfl _ _ _ rfl rfl rfl w7 xS ?_;refine NxM hK fun hHeld=> ?_
     clear hK K;refine zaN Mco ?_ _;clear hHeld xS eK yf sB kA mQ fe tx zF hS5 oz;go_wp2_with fail
     go_round
     case rel=>exact⟨1,by omega,by go_num,fun h=>absurd h Mcp,bT.o,by omega⟩
     case measure=>simp only[intOf];omega
  ·have ar: ¬(k:Int)<1:=Mcn;clear hB hm;exact MbA
theorem znn (l:List Rec) (A:Option Addr) (c:Nat) (w:World) (hc:l.length<=c) (hl:l.length<=1000) (h0: ∀x∈l,0<=x.kind/\x.kind<=4) (h2: ∀x∈l,x.kind≠2)
 (h3:(∀x∈l,x.kind≠3)\/ ∃nm ot pl dy tl nu de q,l=[⟨3,nm,ot,pl,dy,tl,nu,de⟩]/\Int.tdiv 27720 de=q/\ ¬de=0/\(0<=q/\q<=27720)/\(0<=nu*q/\nu*q<=27720)) (hS:Sl w 8 Rec.cells A l):
 Calls Tryz.prog 121 #[.slice A l.length c] w (Ret w (.bool (zkh l))):=by
 have h:=zjo l A c false false w hc hl h0 hS (fun W hB=>znb l A c W hc hl h2 (hS.keep hB)) (fun W hB=>by
  rcases h3 with h3|⟨nm,ot,pl,dy,tl,nu,de,q,rfl,e1,e2,e3,e4⟩
  ·exact zlT l A c W hc hl h3 (hS.keep hB)
  ·exact zmf nm ot pl dy tl nu de q A c W hc e1 e2 e3 e4 (hS.keep hB))
 rw[Bool.or_false,Bool.or_false]at h;exact h
theorem lens5:recLens zfw:=by
 intro x hx;simp only[zfw,List.mem_cons,List.not_mem_nil,or_false]at hx;rcases hx with rfl|rfl|rfl|rfl|rfl<;>exact⟨by decide,by decide,by decide⟩
def Con5 (w:World) (xs:List Nat) (b:Bool):Prop:= ∀W,Below w.heap.size w W-> ∀A c,(ofP zfw xs).length<=c->Sl W 8 Rec.cells A (ofP zfw xs)->Calls Tryz.prog 121 #[.slice A (ofP zfw xs).length c] W (Ret W (.bool b))
theorem con5_low {w:World} {k:Nat} (h:k<6):Con5 w (zcU 5 k) (k==5):=fun W hB A c hc hS=>by
 have b9: ∀k<6,(ofP zfw (zcU 5 k)).all (fun x=>decide (0<=x.kind)&&decide (x.kind<=4)&&x.kind != 2&&x.kind != 3)=true/\zkh (ofP zfw (zcU 5 k))=(k==5)/\(ofP zfw (zcU 5 k)).length<=1000:=by decide+kernel
 obtain⟨e1,e2,e3⟩:=b9 k h;rw[List.all_eq_true]at e1;have h:=znn (ofP zfw (zcU 5 k)) A c W hc e3 (fun x hx=>by have:=e1 x hx;simp at this;omega) (fun x hx=>by have:=e1 x hx;simp at this;omega) (.inl fun x hx=>by have:=e1 x hx;simp at this;omega) hS;rw[e2]at h;exact h
theorem con5_one {w:World} {xs:List Nat} (h:xs=[3]\/xs=[4]):Con5 w xs false:=fun W hB A c hc hS=>by
 rcases h with rfl|rfl
 ·exact znn (ofP zfw [3]) A c W hc Mcp Mcp Mcp (.inr ⟨_,_,_,_,_,_,_,13860,rfl,by decide,by decide,by decide,by decide⟩) hS
 ·exact znn (ofP zfw [4]) A c W hc Mcp Mcp Mcp (.inr ⟨_,_,_,_,_,_,_,9240,rfl,by decide,by decide,by decide,by decide⟩) hS
theorem bits5: ∀k,k<32->6<=k->2<(zcU 5 k).length\/((zcU 5 k).length=2/\0<lexC (zcU 5 k) [0,2])\/zcU 5 k=[3]\/zcU 5 k=[4]:=by decide+kernel
theorem bits5_in: ∀k,k<32->((zcU 5 k).length<=5/\ ∀i∈zcU 5 k,i<5):=by decide+kernel
theorem neqA (W:World):(binOp .neq 101 (.slice none 0 0) (.slice none 0 0)).run Tryz.prog W= .ok (.bool false) W:=by kernel_rfl
theorem neqB (a:Addr) (n c:Nat) (W:World):(binOp .neq 101 (.slice (some a) n c) (.slice none 0 0)).run Tryz.prog W= .ok (.bool true) W:=by kernel_rfl
theorem eqlB (a:Addr) (n c:Nat) (W:World):(binOp .eql 101 (.slice (some a) n c) (.slice none 0 0)).run Tryz.prog W= .ok (.bool false) W:=by kernel_rfl
def zhm (w:World) (e:Ending) (w':World):Prop:= ∃A c,e= .returned (.tuple #[.slice A 2 c, .int .i64 0])/\2<=c/\Sl w' 1 intC A [0,2]/\Below w.heap.size w w'
def Best5 (W:World) (base k:Nat) (v:Value):Prop:=(k<=5/\v= .slice none 0 0)\/(6<=k/\OwnS W base 3 1 intC v [0,2])
theorem Best5.keep {W W':World} {base k n:Nat} {v:Value} (h:Best5 W base k v) (hB:Below n W W') (hn:W.heap.size<=n:=by first|exact Nat.le_refl _|omega):Best5 W' base k v:=h.imp id fun⟨a,b⟩=>⟨a,b.keep hB hn⟩
theorem zpa (A:Option Addr) (c:Nat) (w:World) (hc:5<=c) (hT:TzTab w) (hS:Sl w 8 Rec.cells A zfw):Calls Tryz.prog 56 #[.slice A 5 c] w (zhm w):=by
 have HS:=zHi hS;have iI:=zHi (fun W (hB:Below w.heap.size w W)=>zh6 zfw A 5 c W rfl hc lens5 (hS.keep hB));rw[recs5_ok]at iI;have HT:=zHi hT;clear hS hT;unfold zhm;go_enter Tryz.func56,Tryz.ntmps56
 go_upto_region 8 with(go_at_call 118;go_must(refine(iI.o _ Bw).mono ?_);rintro e wq ⟨rfl,z,rfl⟩)
 go_loopw [5,19] (fun v i wr=> ∃k:Nat,k<=32/\i= .int .i64 k/\Best5 wr w.heap.size k v/\Below w.heap.size w wr) (fun _ i _=>32-(intOf i).toNat)
 case atStart=>exact⟨0,Nat.zero_le _,rfl, .inl ⟨by omega,rfl⟩,Bw⟩
 case round=>
  obtain⟨k,hk,rfl,mg,hB⟩:=hrel;have HB:=zHi hB;have aE:=hB.size;by_cases aa:k<32
  ·have eO:=zHi (zlJ 5 k wr Mcn aa (HT.o.keep hB));obtain⟨bv,aO⟩:=bits5_in k aa;have aq:=bits5 k aa;have dO:=fun(W:World) (h:k<6)=>con5_low (w:=W) h
   have am:=zHi aa;have ar:(k:Int)<32:=Mcn;have my:k=5->zcU 5 k=[0,2]:=fun e=>by rw[e];decide+kernel
   have qe:=zHi mg;obtain⟨xs,bw⟩: ∃xs,zcU 5 k=xs:=⟨_,rfl⟩
   rw[bw]at eO aO bv aq dO my;have bF:=zHi aO;have AZ:=zHi dO;have bi:=zHi aq;have sV:=zHi my;clear hB aa mg bw aO dO aq my;go_upto_region 11 with(go_at_call 119;go_must(refine eO.o.mono ?_);rintro e wq ⟨vx,rfl,jM,DR⟩)
   obtain⟨XA,xc,rfl,Cu,ub⟩:=jM.sl zg8;have IM:=zHi (jM.base_le aE);have ax:=zHi (HB.o.trans (DR.mono aE));have Ay:=zHi (qe.o.keep DR);have ij:=zHi (fun W (hW:Below wq.heap.size wq W)=>some_any zfw xs A c XA xc W hc ub Mcn bF.o (HS.o.keep (ax.o.trans (hW.mono ax.o.size))) (Cu.keep hW));have cf:=zHi Cu;rw[show zfw.length=5 from rfl]at ij;clear jM Cu DR eO;rcases Ay.o with⟨nC,hv⟩|⟨fe,ae⟩
   ·subst hv;have i8:=neqA;have uF:=zHi nC;have lB:=zHi (AZ.o wq Mcn);clear nC;by_cases hk:k=5
    ·subst hk;have hx:=sV.o rfl;subst hx
     go_wp2_with (first
      |(go_at_call 120;go_must(refine(kh.o _ Bw).mono ?_);rintro e wq5 ⟨rfl,rfl⟩)
      |(go_at_call 122;go_must(refine(ij.o _ Bw).mono ?_);rintro e w7 ⟨v7,rfl,pP,bj⟩;obtain⟨A7,c7,rfl,kB,wx⟩:=pP.sl zg9;have bT:=zHi bj;have uX:=zHi kB;clear pP bj kB)
      |(go_at_call 121;go_must(refine(lB.o _ bT.o A7 c7 wx uX.o).mono ?_);rintro e wq8 ⟨rfl,z8,rfl⟩))
     go_round
     case rel=>exact⟨6,by omega,by go_num, .inr ⟨Nat.le_refl _,(IM.o.keep bT.o).keep (zaq w7 z8)⟩,ax.o.trans ((bT.o.trans ((zaq w7 z8).mono bT.o.size)).mono (ax.o.size))⟩
     case measure=>simp only[intOf];omega
    ·have mE:(k==5)=false:=by simpa using hk
     rw[mE]at lB;have I5:=zHi (show k+1<=5 by have:=uF.o;omega);clear hk mE;generalize jG:xs.length=nx at*
     go_wp2_with (first
      |(go_at_call 120;go_must(refine(kh.o _ Bw).mono ?_);rintro e wq5 ⟨rfl,rfl⟩)
      |(go_at_call 122;go_must(refine(ij.o _ Bw).mono ?_);rintro e w7 ⟨v7,rfl,pP,bj⟩;obtain⟨A7,c7,rfl,kB,wx⟩:=pP.sl zg9;have bT:=zHi bj;have uX:=zHi kB;clear pP bj kB)
      |(go_at_call 121;go_must(refine(lB.o _ bT.o A7 c7 wx uX.o).mono ?_);rintro e wq8 ⟨rfl,z8,rfl⟩))
     go_round
     case rel=>exact⟨k+1,am.o,by go_num, .inl ⟨I5.o,rfl⟩,ax.o.trans ((bT.o.trans ((zaq w7 z8).mono bT.o.size)).mono (ax.o.size))⟩
     case measure=>have:=am.o;simp only[intOf];omega
   ·obtain⟨SA,sc,rfl,Cl,Gt⟩:=ae.sl zg8;have dJ:=zHi ae;have HK6:=zHi fe;have uG:=zHi (show 6<=k+1 by omega);cases SA with
    |none=>
     exfalso
     obtain⟨b,off,h,_⟩:=Cl Mcq;cases h
    |some sa=>
     have i8:=neqB sa 2 sc;have kh:=zHi (fun W (hW:Below wq.heap.size wq W)=>zmW xs [0,2] XA (some sa) xc sc W ub Gt Mcn (cf.o.keep hW) (Cl.keep hW));rw[show([0,2]:List Nat).length=2 from rfl]at kh;have hb:=bi.o fe;clear Cl ae fe;rcases hb with h1|⟨h1,h2⟩|h1
     ·have cj:(2:Int)<(xs.length:Int):=Mcn;clear h1;generalize jG:xs.length=nx at*;go_wp2_with fail
      exact MaY
     ·have hC:(0:Int)<lexC xs [0,2]:=h2;generalize lexC xs [0,2]=C at*;rw[h1]at kh ub;have dC:xs.length=2:=h1;clear h1 h2;go_wp2_with (go_at_call 120;go_must(refine(kh.o _ Bw).mono ?_);rintro e wq5 ⟨rfl,rfl⟩)
      exact MaY
     ·have lB:=zHi (con5_one (w:=wq) h1);have ke:xs.length=1:=by rcases h1 with rfl|rfl<;>rfl
      rw[ke]at ij;clear h1
      go_wp2_with (first
       |(go_at_call 120;go_must(refine(kh.o _ Bw).mono ?_);rintro e wq5 ⟨rfl,rfl⟩)
       |(go_at_call 122;go_must(refine(ij.o _ Bw).mono ?_);rintro e w7 ⟨v7,rfl,pP,bj⟩;obtain⟨A7,c7,rfl,kB,wx⟩:=pP.sl zg9;have bT:=zHi bj;have uX:=zHi kB;clear pP bj kB)
       |(go_at_call 121;go_must(refine(lB.o _ bT.o A7 c7 wx uX.o).mono ?_);rintro e wq8 ⟨rfl,z8,rfl⟩))
      go_round
      case rel=>exact⟨k+1,am.o,by go_num, .inr ⟨uG.o,(dJ.o.keep bT.o).keep (zaq w7 z8)⟩,ax.o.trans ((bT.o.trans ((zaq w7 z8).mono bT.o.size)).mono (ax.o.size))⟩
      case measure=>have:=am.o;simp only[intOf];omega
  ·have ar: ¬(k:Int)<32:=Mcn;have fe: ¬k<=5:=Mcn;rcases mg with⟨h1,_⟩|⟨_,ae⟩
   ·exact absurd h1 fe
   ·obtain⟨SA,sc,rfl,h3,h4⟩:=ae.sl zg8;have H3:=zHi h3;cases SA with
    |none=>
     exfalso
     obtain⟨b,off,h,_⟩:=h3 Mcq;cases h
    |some sa=>
     have i8:=eqlB sa 2 sc;clear ae h3 hB aa fe;go_wp2_with fail
     go_ret2
     exact⟨some sa,sc,rfl,h4,H3.o,HB.o⟩
def famR:List RPart:=[⟨nBob,3,8⟩,⟨nCat,3,8⟩,⟨nDan,1,4⟩]
theorem fam_cells:zgG.map zaa=famR.map RPart.cells:=by kernel_rfl
theorem fam_holds:zfH fam5 nA1 200=zgG:=by kernel_rfl
theorem fam_err (names:List ByteArray) (day:Int) (hn:names.any (fun s=>!zaR s)=false) (hd:zbk day=true):zcG zcj zbG names day=0:=by
 unfold zcG;have h:(zcK zcj zbG 200000).2=(5,0):=by rw[zed,zhl 200000 Mcp]
 rw[h,hn,hd];rfl
theorem fam_bury:zfI zcj zbG nA1 nAnn 300=(true,0):=by
 unfold zfI;rw[fam_err [nA1,nAnn] 300 Mco Mco,zhl 300 Mcp];have h:zaO fam5 nA1 300=some 0:=Mco;simp only[bne_self_eq_false,Bool.false_eq_true,if_false];rw[h];have hg:fam5.graves.getD 0 zfb=⟨nA1,1,-1,zgG,[nAnn]⟩:=rfl;simp only[hg];have he:entP fam5 ⟨nA1,1,-1,zgG,[nAnn]⟩ nAnn=true:=by
  unfold entP;have:[nAnn].any (zgf fam5 1 nAnn)=true:=by
   rw[List.any_cons];unfold zgf;rw[show zaf nAnn nAnn=true from zbY _];rfl
  rw[this,Bool.or_true]
 rw[he,Bool.or_true]
theorem zog: ∀d∈zbG,zc8 d:=by
 intro d hd;simp only[zbG,List.mem_cons,List.not_mem_nil,or_false]at hd;rcases hd with rfl|rfl|rfl|rfl|rfl<;>exact⟨by decide,by decide,by simp[famD];try decide,by simp[famD]⟩
structure Laid5 (w:World):Prop where
 forms:FormsIn w
 lens:LensIn w
 tz:TzTab w
theorem Laid5.keep {w W:World} {n:Nat} (h:Laid5 w) (hB:Below n w W) (hn:w.heap.size<=n:=by first|exact Nat.le_refl _|omega):Laid5 W:=⟨h.forms.keep hB hn,h.lens.keep hB hn,h.tz.keep hB hn⟩
def HoldPost (w:World) (e:Ending) (w':World):Prop:= ∃A c,e= .returned (.tuple #[.slice A 3 c, .int .i64 0])/\3<=c/\Sl w' 3 RPart.cells A famR/\Below w.heap.size w w'
theorem zjs (LA DA:Option Addr) (w:World) (hR:RightsIn w zcj zbG LA 2 2 DA 5 5) (hL:Laid5 w):Calls Tryz.prog 18 #[.agg #[.slice LA 2 2, .slice DA 5 5], .string ⟨#[97,49]⟩, .int .i64 200] w (HoldPost w):=by
 refine(zne zcj zbG nA1 200 LA 2 2 DA 5 5 w hR hL.forms hL.lens zog Mcp).mono ?_;rintro e w' ⟨hB,h⟩;rw[fam_err [nA1] 200 Mco Mco,zhl 200 Mcp]at h;rcases h with⟨h,_⟩|⟨_,A,c,rfl,hc,hS⟩
 ·exact absurd rfl h
 ·rw[show((fam5,5,(0:Int)):St×Nat×Int).1=fam5 from rfl,fam_holds]at hc hS⊢;exact⟨A,c,rfl,hc,sl_same hS fam_cells,hB⟩
theorem zno (LA DA:Option Addr) (w:World) (hR:RightsIn w zcj zbG LA 2 2 DA 5 5) (hL:Laid5 w):Calls Tryz.prog 51 #[.agg #[.slice LA 2 2, .slice DA 5 5], .string ⟨#[97,49]⟩, .string ⟨#[97,110,110]⟩, .int .i64 300] w (Ret w (.tuple #[.bool true, .int .i64 0])):=by
 have:=zng zcj zbG nA1 nAnn 300 LA 2 2 DA 5 5 w hR hL.forms hL.lens zog Mcp Mcp;rw[fam_bury]at this;exact this
theorem zmg (A:Option Addr) (w:World) (hS:Sl w 8 Rec.cells A zfw) (hL:Laid5 w):Calls Tryz.prog 56 #[.slice A 5 5] w (zhm w):=zpa A 5 w (Nat.le_refl _) hL.tz hS
theorem fam_same (A2:Option Addr) (c2:Nat) (cr:3<=c2) (P:Nat) (W:World) (h:Sl W 3 RPart.cells A2 famR) (hP:W.heap[P]?=some (.cells #[.string ⟨#[98,111,98]⟩, .int .i64 3, .int .i64 8, .string ⟨#[99,97,116]⟩, .int .i64 3, .int .i64 8, .string ⟨#[100,97,110]⟩, .int .i64 1, .int .i64 4] 75)):
 Calls Tryz.prog 24 #[.slice A2 3 c2, .slice (some ⟨P,0,none⟩) 3 3] W (Ret W (.bool true)):=
 zkQ famR A2 (some ⟨P,0,none⟩) c2 3 _ h (zee (fun _=>rfl) hP rfl) Mcp cr Mcp
theorem two_same (A5:Option Addr) (c5:Nat) (mi:2<=c5) (P:Nat) (W:World) (h:Sl W 1 intC A5 [0,2]) (hP:W.heap[P]?=some (.cells #[.int .i64 0, .int .i64 2] 3)):
 Calls Tryz.prog 58 #[.slice A5 2 c5, .slice (some ⟨P,0,none⟩) 2 2] W (Ret W (.bool true)):=
 zme [0,2] A5 (some ⟨P,0,none⟩) c5 2 _ h (zee (fun _=>rfl) hP rfl) Mcp mi Mcp
theorem zpb (w:World) (hL:Laid5 w):Calls Tryz.prog 13 #[] w (Ret w (.bool true)):=by
 have HL:=zHi hL;clear hL;go_enter Tryz.func13,Tryz.ntmps13
 go_upto_region 2 with(first
  |(go_at_call 55;go_must(refine(zjX _).mono ?_);rintro e w1 ⟨LA,DA,rfl,hr,hb⟩;have HR:=zHi hr;have HB:=zHi hb;clear hr hb)
  |(go_at_call 18;go_must(refine(zjs LA DA _ HR.o (HL.o.keep HB.o)).mono ?_);rintro e w2 ⟨A2,c2,rfl,cr,bp,bn⟩;have zb:=zHi bp;have aB:=zHi (HB.o.trans (bn.mono HB.o.size));clear bp bn))
 clear HR HB
 go_upto_region 3 with(first
  |(go_at_call 55;go_must(refine(zjX _).mono ?_);rintro e w3 ⟨LA3,DA3,rfl,hr,hb⟩;have HR:=zHi hr;have aH:=zHi hb;have HB:=zHi (aB.o.trans (hb.mono aB.o.size));clear hr hb)
  |(go_at_call 51;go_must(refine(zno LA3 DA3 _ HR.o (HL.o.keep HB.o)).mono ?_);rintro e w4 ⟨rfl,z4,rfl⟩))
 have Et:=zHi ((zb.o.keep aH.o).keep (zaq w3 z4));have eB:=zHi (HB.o.trans ((zaq w3 z4).mono HB.o.size));generalize w3.ext z4=W4 at*;clear HR HB zb aB aH;have GC:w.heap.size<=W4.heap.size:=eB.o.size
 go_upto_region 4 with(go_at_call 56
                       go_must(refine(zmg _ _ (zee (fun _=>rfl) (zar _ _ _ rfl) rfl) ((HL.o.keep eB.o).keep (n:=W4.heap.size) Bw)).mono ?_)
                       rintro e w5 ⟨A5,c5,rfl,mi,iY,aq⟩)
 have Eu:=zHi (Et.o.keep ((zad (Below.refl _ _) _ (Nat.le_refl _)).trans (aq.mono Mcq)));have bV:=zHi (eB.o.trans (((zad (Below.refl _ _) _ (Nat.le_refl _)).trans (aq.mono Mcq)).mono GC));have Ed:=zHi iY;clear Et eB iY aq;have jh:=zHi (fun(W:World) (hW:Below w5.heap.size w5 W)=>fun(P:Nat) hP=>fam_same A2 c2 cr P W (Eu.o.keep hW) hP);have sY:=zHi (fun(W:World) (hW:Below w5.heap.size w5 W)=>fun(P:Nat) hP=>two_same A5 c5 mi P W (Ed.o.keep hW) hP);clear Eu Ed;have Ap:w.heap.size<=w5.heap.size:=bV.o.size;clear HL
 go_wp2_with (first
  |(go_at_call 57;go_must(refine(zmd _ _ _ _).mono ?_);rintro e wq ⟨rfl,zq,rfl⟩)
  |(go_at_call 24;go_must(refine(jh.o _ Bw _ (zar _ _ _ Mdv)).mono ?_);rintro e wq ⟨rfl,zq,rfl⟩)
  |(go_at_call 58;go_must(refine(sY.o _ Bw _ (zar _ _ _ Mdv)).mono ?_);rintro e wq ⟨rfl,zq,rfl⟩))
 go_ret
 exact Ret.of rfl (bV.o.trans (Below.mono (B:=w5.heap.size) Bw bV.o.size))
end Go.Proofs.YtjhbofabmpfniaaGreatDoor
namespace Go.Proofs.YtjhbofabmpfniaaGreatDoor
open Go.ChangeShapes Go.WideShapes Go.ChangeAt Go.RowKit Go.Deep Go.Shelf
section
variable {H:Type} {enc:TypeId×Value->H} {w:World} {base:Nat} {spare:Nat->Bool} {held:Bool}
theorem zgI:Tryz.prog.cellsOf 3=1:=by kernel_rfl
theorem zh3:Tryz.prog.cellsOf 9=1:=by kernel_rfl
theorem zfz:Tryz.prog.cellsOf 4=1:=by kernel_rfl
theorem znp:Tryz.prog.cellsOf 71=2:=by kernel_rfl
theorem ziU (n:Nat) (cs:List Value) (x:DataW H×List MemPlace) (h:DataW.trod enc Tryz.prog w base spare held n 71 cs=some x): ∃a b:Int,cs=[.int .i64 a, .int .i64 b]:=by
 obtain⟨xs,m,_,ex,ag,bv,hf⟩:=DataW.trod_struct Tryz.underlying71 h;rw[show Tryz.prog.cellsOf 71=2 by kernel_rfl]at ag;match cs,ag with
 | [v0,v1],_=>
   have g: ∀i,i<2-> ∃y,xs[i]?=some y:=fun i hi=>⟨_,List.getElem?_eq_getElem Mdw⟩
   obtain⟨y0,e0⟩:=g 0 Mcp;have h0:DataW.trod enc Tryz.prog w base spare held m 3 (List.take (Tryz.prog.cellsOf 3) (List.drop 0 [v0,v1]))=some y0:=(hf 0 _ rfl).trans e0;rw[zgI]at h0;obtain⟨q0,c0,d0,_⟩:=DataW.trod_int Tryz.underlying3 h0;simp only[List.drop_succ_cons,List.drop_zero,List.take_succ_cons,List.take_zero,List.cons.injEq,and_true]at c0;obtain⟨y1,e1⟩:=g 1 Mcp;have h1:DataW.trod enc Tryz.prog w base spare held m 3 (List.take (Tryz.prog.cellsOf 3) (List.drop 1 [v0,v1]))=some y1:=(hf 1 _ rfl).trans e1;rw[zgI]at h1;obtain⟨q1,c1,d1,_⟩:=DataW.trod_int Tryz.underlying3 h1;simp only[List.drop_succ_cons,List.drop_zero,List.take_succ_cons,List.take_zero,List.cons.injEq,and_true]at c1;subst c0 c1;exact⟨q0,q1,rfl⟩
theorem open_law (n:Nat) (cs:List Value) (x:DataW H×List MemPlace) (h:DataW.trod enc Tryz.prog w base spare held n 130 cs=some x): ∃s:Law,cs=s.cells:=by
 obtain⟨xs,m,_,ex,ag,bv,hf⟩:=DataW.trod_struct Tryz.underlying130 h;rw[show Tryz.prog.cellsOf 130=4 by kernel_rfl]at ag;match cs,ag with
 | [v0,v1,v2,v3],_=>
   have g: ∀i,i<3-> ∃y,xs[i]?=some y:=fun i hi=>⟨_,List.getElem?_eq_getElem Mdw⟩
   obtain⟨y0,e0⟩:=g 0 Mcp;have h0:DataW.trod enc Tryz.prog w base spare held m 3 (List.take (Tryz.prog.cellsOf 3) (List.drop 0 [v0,v1,v2,v3]))=some y0:=(hf 0 _ rfl).trans e0;rw[zgI]at h0;obtain⟨q0,c0,d0,_⟩:=DataW.trod_int Tryz.underlying3 h0;simp only[List.drop_succ_cons,List.drop_zero,List.take_succ_cons,List.take_zero,List.cons.injEq,and_true]at c0;obtain⟨y1,e1⟩:=g 1 Mcp;have h1:DataW.trod enc Tryz.prog w base spare held m 4 (List.take (Tryz.prog.cellsOf 4) (List.drop 1 [v0,v1,v2,v3]))=some y1:=(hf 1 _ rfl).trans e1;rw[zfz]at h1;obtain⟨q1,c1,d1⟩:=DataW.trod_bool Tryz.underlying4 h1;simp only[List.drop_succ_cons,List.drop_zero,List.take_succ_cons,List.take_zero,List.cons.injEq,and_true]at c1;obtain⟨y2,e2⟩:=g 2 Mcp;have h2:DataW.trod enc Tryz.prog w base spare held m 71 (List.take (Tryz.prog.cellsOf 71) (List.drop 2 [v0,v1,v2,v3]))=some y2:=(hf 2 _ rfl).trans e2;rw[znp]at h2;obtain⟨q2,r2,c2⟩:=ziU _ _ _ h2;simp only[List.drop_succ_cons,List.drop_zero,List.take_succ_cons,List.take_zero,List.cons.injEq,and_true]at c2;subst c0;subst c1;obtain⟨cx2,cy2⟩:=c2;subst cx2 cy2;exact⟨⟨q0,q1,q2,r2⟩,rfl⟩
theorem open_form (n:Nat) (cs:List Value) (x:DataW H×List MemPlace) (h:DataW.trod enc Tryz.prog w base spare held n 186 cs=some x): ∃s:Form,cs=s.cells/\x.1= .agg [.lit (.string s.word.data.toList), .lit (.bool s.place), .lit (.bool s.frm), .lit (.bool s.cls), .lit (.bool s.years), .lit (.bool s.all), .lit (.bool s.parts), .lit (.bool s.shares)]:=by
 obtain⟨xs,m,_,ex,ag,bv,hf⟩:=DataW.trod_struct Tryz.underlying186 h;rw[show Tryz.prog.cellsOf 186=8 by kernel_rfl]at ag;match cs,ag with
 | [v0,v1,v2,v3,v4,v5,v6,v7],_=>
   have g: ∀i,i<8-> ∃y,xs[i]?=some y:=fun i hi=>⟨_,List.getElem?_eq_getElem Mdw⟩
   obtain⟨y0,e0⟩:=g 0 Mcp;have h0:DataW.trod enc Tryz.prog w base spare held m 9 (List.take (Tryz.prog.cellsOf 9) (List.drop 0 [v0,v1,v2,v3,v4,v5,v6,v7]))=some y0:=(hf 0 _ rfl).trans e0;rw[zh3]at h0;obtain⟨q0,c0,d0,_⟩:=DataW.trod_string Tryz.underlying9 h0;simp only[List.drop_succ_cons,List.drop_zero,List.take_succ_cons,List.take_zero,List.cons.injEq,and_true]at c0;obtain⟨y1,e1⟩:=g 1 Mcp;have h1:DataW.trod enc Tryz.prog w base spare held m 4 (List.take (Tryz.prog.cellsOf 4) (List.drop 1 [v0,v1,v2,v3,v4,v5,v6,v7]))=some y1:=(hf 1 _ rfl).trans e1;rw[zfz]at h1;obtain⟨q1,c1,d1⟩:=DataW.trod_bool Tryz.underlying4 h1;simp only[List.drop_succ_cons,List.drop_zero,List.take_succ_cons,List.take_zero,List.cons.injEq,and_true]at c1;obtain⟨y2,e2⟩:=g 2 Mcp;have h2:DataW.trod enc Tryz.prog w base spare held m 4 (List.take (Tryz.prog.cellsOf 4) (List.drop 2 [v0,v1,v2,v3,v4,v5,v6,v7]))=some y2:=(hf 2 _ rfl).trans e2;rw[zfz]at h2;obtain⟨q2,c2,d2⟩:=DataW.trod_bool Tryz.underlying4 h2;simp only[List.drop_succ_cons,List.drop_zero,List.take_succ_cons,List.take_zero,List.cons.injEq,and_true]at c2;obtain⟨y3,e3⟩:=g 3 Mcp;have h3:DataW.trod enc Tryz.prog w base spare held m 4 (List.take (Tryz.prog.cellsOf 4) (List.drop 3 [v0,v1,v2,v3,v4,v5,v6,v7]))=some y3:=(hf 3 _ rfl).trans e3;rw[zfz]at h3;obtain⟨q3,c3,d3⟩:=DataW.trod_bool Tryz.underlying4 h3;simp only[List.drop_succ_cons,List.drop_zero,List.take_succ_cons,List.take_zero,List.cons.injEq,and_true]at c3;obtain⟨y4,e4⟩:=g 4 Mcp
   have h4:DataW.trod enc Tryz.prog w base spare held m 4 (List.take (Tryz.prog.cellsOf 4) (List.drop 4 [v0,v1,v2,v3,v4,v5,v6,v7]))=some y4:=(hf 4 _ rfl).trans e4;rw[zfz]at h4;obtain⟨q4,c4,d4⟩:=DataW.trod_bool Tryz.underlying4 h4;simp only[List.drop_succ_cons,List.drop_zero,List.take_succ_cons,List.take_zero,List.cons.injEq,and_true]at c4;obtain⟨y5,e5⟩:=g 5 Mcp;have h5:DataW.trod enc Tryz.prog w base spare held m 4 (List.take (Tryz.prog.cellsOf 4) (List.drop 5 [v0,v1,v2,v3,v4,v5,v6,v7]))=some y5:=(hf 5 _ rfl).trans e5;rw[zfz]at h5;obtain⟨q5,c5,d5⟩:=DataW.trod_bool Tryz.underlying4 h5;simp only[List.drop_succ_cons,List.drop_zero,List.take_succ_cons,List.take_zero,List.cons.injEq,and_true]at c5;obtain⟨y6,e6⟩:=g 6 Mcp;have h6:DataW.trod enc Tryz.prog w base spare held m 4 (List.take (Tryz.prog.cellsOf 4) (List.drop 6 [v0,v1,v2,v3,v4,v5,v6,v7]))=some y6:=(hf 6 _ rfl).trans e6;rw[zfz]at h6;obtain⟨q6,c6,d6⟩:=DataW.trod_bool Tryz.underlying4 h6;simp only[List.drop_succ_cons,List.drop_zero,List.take_succ_cons,List.take_zero,List.cons.injEq,and_true]at c6;obtain⟨y7,e7⟩:=g 7 Mcp;have h7:DataW.trod enc Tryz.prog w base spare held m 4 (List.take (Tryz.prog.cellsOf 4) (List.drop 7 [v0,v1,v2,v3,v4,v5,v6,v7]))=some y7:=(hf 7 _ rfl).trans e7;rw[zfz]at h7;obtain⟨q7,c7,d7⟩:=DataW.trod_bool Tryz.underlying4 h7;simp only[List.drop_succ_cons,List.drop_zero,List.take_succ_cons,List.take_zero,List.cons.injEq,and_true]at c7;subst c0;subst c1;subst c2;subst c3;subst c4;subst c5;subst c6;subst c7
   refine⟨⟨q0,q1,q2,q3,q4,q5,q6,q7⟩,rfl,?_⟩;rw[ex];have hx:xs=[y0,y1,y2,y3,y4,y5,y6,y7]:=by
    apply List.ext_getElem?;intro i;match i with
    |0=>exact e0
    |1=>exact e1
    |2=>exact e2
    |3=>exact e3
    |4=>exact e4
    |5=>exact e5
    |6=>exact e6
    |7=>exact e7
    |i+8=>rw[List.getElem?_eq_none (by rw[bv];show 8<=_;omega)];rfl
   rw[hx,d0,d1,d2,d3,d4,d5,d6,d7];rfl
theorem k5_laws:Tryz.prog.cellsOf 130=4:=by kernel_rfl
theorem k5_form:Tryz.prog.cellsOf 186=8:=by kernel_rfl
end
theorem zmh {n:String} {tab:List Int} {kd:IntKind} {arr el:TypeId} {N:Nat} {r:List (String×DataW Unit)} {W:World} {g:Nat} (h:laidMet Tryz.prog ((n, .agg (tab.map fun z=> .lit (.int kd z)))::r) W)
 (oz:Tryz.prog.globalNamed n=some g) (KW:(Tryz.prog.globals[g]?).map (·.type)=some arr) (ha:Tryz.prog.underlying arr=some (.array N el)) (he:Tryz.prog.underlying el=some (.int kd)) (tF:Tryz.prog.cellsOf el=1) (JQ:Tryz.prog.cellsOf arr=N) (hN:tab.length=N):
 ∀(k:Nat) z,tab[k]?=some z->W.cell? ⟨g,k,none⟩=some (.int kd z):=by
 obtain⟨ps,⟨g',t,cs,fuel,p,q,hg,ht,hv,hd,_,_⟩,_,_⟩:=h;obtain rfl:=Option.some.inj (oz.symm.trans hg);obtain rfl:=Option.some.inj (KW.symm.trans ht);obtain⟨xs,m,_,ex,bm,hl,hel⟩:=DataW.trod_array ha hd;rw[JQ]at bm;intro k z hk;have bR:k<N:=by rw[<-hN];exact(List.getElem?_eq_some_iff.1 hk).1
 have hE:=hel k bR;rw[tF,Nat.mul_one,List.getElem?_eq_getElem Mcn]at hE;obtain⟨y,e1,e2,_⟩:=DataW.trod_int he hE;have e3:(xs.map (·.1))=tab.map fun z=> .lit (.int kd z):=(DataW.agg.inj (Prod.mk.inj ex).1).symm
 have e4:=congrArg (fun l=>l[k]?) e3;simp only[List.getElem?_map,hk,List.getElem?_eq_getElem (show k<xs.length by omega),e2,Option.map_some,Option.some.injEq,DataW.lit.injEq,Lit.int.injEq,true_and]at e4;have h0:((cs.toList.drop k).take 1)[0]?=some (.int kd y):=by rw[e1];rfl
 have h1:cs.toList[k]?=some (.int kd y):=Mdh;rw[World.var?_cell hg hv k,<-Array.getElem?_toList,h1,e4]
theorem tz_laid {r:List (String×DataW Unit)} {W:World} (h:laidMet Tryz.prog (("math/bits.deBruijn64tab",Rows.laid_math_bits_deBruijn64tab)::r) W):TzTab W:=by
 have h1:=zmh (tab:=Lib.deBruijn64tab.map fun(z:Nat)=>(z:Int)) (kd:= .u8) (arr:=278) (el:=5) (N:=64) (g:=4) (by
  have e:(Rows.laid_math_bits_deBruijn64tab:DataW Unit)= .agg ((Lib.deBruijn64tab.map fun(z:Nat)=>(z:Int)).map fun z=> .lit (.int .u8 z)):=Mco
  rw[<-e];exact h) Mco Mco Tryz.underlying278 Tryz.underlying5 Mco Mco Mco
 have h2:TabAt 4 Lib.deBruijn64tab W:=fun j hj=>h1 j (Lib.deBruijn64tab.getD j 0:Nat) (by
  rw[List.getElem?_map,List.getD_eq_getElem?_getD,List.getElem?_eq_getElem hj]
  rfl)
 exact⟨h2,zfJ (h2 0 (by decide+kernel))⟩
theorem lens_laid {r:List (String×DataW Unit)} {W:World} (h:laidMet Tryz.prog (("mortsafe/rule.lengths",Rows.laid_mortsafe_rule_lengths)::r) W):LensIn W:=by
 have h1:=zmh (tab:=zg2) (kd:= .i64) (arr:=262) (el:=3) (N:=12) (g:=1) (by
  have e:(Rows.laid_mortsafe_rule_lengths:DataW Unit)= .agg (zg2.map fun z=> .lit (.int .i64 z)):=Mco
  rw[<-e];exact h) Mco Mco Tryz.underlying262 Tryz.underlying3 Mco Mco Mco
 exact⟨zfJ (h1 0 31 rfl),h1⟩
def formD (s:Form):DataW Unit:= .agg [.lit (.string s.word.data.toList), .lit (.bool s.place), .lit (.bool s.frm), .lit (.bool s.cls), .lit (.bool s.years), .lit (.bool s.all), .lit (.bool s.parts), .lit (.bool s.shares)]
theorem formD_inj {a b:Form} (h:formD a=formD b):a=b:=by
 obtain⟨⟨⟨x⟩⟩,p1,p2,p3,p4,p5,p6,p7⟩:=a;obtain⟨⟨⟨y⟩⟩,q1,q2,q3,q4,q5,q6,q7⟩:=b;simp[formD]at h;obtain⟨rfl,rfl,rfl,rfl,rfl,rfl,rfl,rfl⟩:=h;rfl
theorem zpc {r:List (String×DataW Unit)} {W:World} (h:laidMet Tryz.prog (("mortsafe/right.forms",Rows.laid_mortsafe_right_forms)::r) W):FormsIn W:=by
 have e0:(Rows.laid_mortsafe_right_forms:DataW Unit)= .agg (zfP.map formD):=Mco;rw[e0]at h;obtain⟨ps,⟨g',t,cs,fuel,p,q,hg,ht,hv,hd,_,_⟩,_,_⟩:=h;obtain rfl:=Option.some.inj ((show Tryz.prog.globalNamed "mortsafe/right.forms" =some 0 by kernel_rfl).symm.trans hg)
 obtain rfl:=Option.some.inj ((show(Tryz.prog.globals[0]?).map (·.type)=some 187 by kernel_rfl).symm.trans ht);obtain⟨xs,m,_,ex,bm,hl,hel⟩:=DataW.trod_array Tryz.underlying187 hd;have key: ∀k (f:Form),zfP[k]?=some f-> ∀j u,f.cells[j]?=some u->W.cell? ⟨0,k*8+j,none⟩=some u:=fun k f hk j u hu=>by
  have bR:k<9:=(List.getElem?_eq_some_iff.1 hk).1;have hE:=hel k bR;rw[k5_form,List.getElem?_eq_getElem Mcn]at hE;obtain⟨s,e1,e2⟩:=open_form _ _ _ hE;have e3:(xs.map (·.1))=zfP.map formD:=(DataW.agg.inj (Prod.mk.inj ex).1).symm;have e4:=congrArg (fun l=>l[k]?) e3;simp only[List.getElem?_map,hk,List.getElem?_eq_getElem (show k<xs.length by omega),e2,Option.map_some,Option.some.injEq]at e4;have e5:s=f:=formD_inj e4;subst e5;have hj:j<8:=(List.getElem?_eq_some_iff.1 hu).1;have h1:((cs.toList.drop (k*8)).take 8)[j]?=some u:=by rw[e1];exact hu
  rw[List.getElem?_take_of_lt hj,List.getElem?_drop]at h1;rw[World.var?_cell hg hv (k*8+j),<-Array.getElem?_toList,h1]
 exact⟨zfJ (key 0 _ rfl 0 _ rfl),key⟩
end Go.Proofs.YtjhbofabmpfniaaGreatDoor
namespace Go.Proofs.YtjhbofabmpfniaaGreatDoor
open Go.RowKit Go.Shelf
attribute [local go_sem] World.cell?_alloc_mark zae za3 zam za6 zas zat zau zav zaw zax zay
attribute [local go_sem] zaj zac
def CopyPost (w:World) (ls:List Law) (ds:List Deed) (e:Ending) (w':World):Prop:=
 ∃A nc B mc,e= .returned (.agg #[.slice A ls.length nc, .slice B ds.length mc])/\RightsIn w' ls ds A ls.length nc B ds.length mc/\Below w.heap.size w w'
def CopyOwn (w:World) (ls:List Law) (ds:List Deed) (e:Ending) (w':World):Prop:=
 ∃A nc B mc base xs,e= .returned (.agg #[.slice A ls.length nc, .slice B ds.length mc])/\ls.length<=nc/\Sl w' 4 Law.cells A ls/\xs.map DV.d=ds/\(∀x∈xs,x.d.to.length<=x.c/\Ro w' 75 RPart.cells x.B x.d.to)/\OwnS w' base 52 7 DV.cells (.slice B ds.length mc) xs/\w.heap.size<=base/\Below w.heap.size w w'
theorem znq (ls:List Law) (ds:List Deed) (LA:Option Addr) (n nc:Nat) (DA:Option Addr) (m mc:Nat) (w:World) (hR:RightsIn w ls ds LA n nc DA m mc) (hl:ls.length<=1000) (hd:ds.length<=1000) (ht: ∀d∈ds,d.to.length<=100000):
 Calls Tryz.prog 16 #[.agg #[.slice LA n nc, .slice DA m mc]] w (CopyOwn w ls ds):=by
 obtain⟨rfl,rfl,xB,su,eH,gy⟩:=hR;have cE:=zHi eH;have dD:=zHi gy;have HT:=zHi ht;clear eH gy ht;go_enter Tryz.func16,Tryz.ntmps16
 go_upto_region 1 with fail
 obtain⟨W1,aM⟩: ∃W1,W1=(w.alloc (.cells #[.slice LA ls.length nc, .slice DA ds.length mc] 25)).alloc (.cells #[.slice none 0 0, .slice none 0 0] 25):=⟨_,rfl⟩
 have b0:W1.heap[w.heap.size]?=some (.cells #[.slice LA ls.length nc, .slice DA ds.length mc] 25):=MdK;have r0:W1.heap[w.heap.size+1]?=some (.cells #[.slice none 0 0, .slice none 0 0] 25):=by rw[aM];exact zar _ _ _ Mcq
 have bY:Below w.heap.size w W1:=Md3;rw[<-aM];have aA:=zHi bY;clear aM bY;have l0:=zab b0;have l1:=zab r0;obtain c0:=cF1 b0
 go_upto_region 2 with(at_builtin
                       go_loud(refine za1 (v:= .slice (some ⟨W1.heap.size,0,none⟩) 0 0) (n:=0) (m:=ls.length) rfl _ _ rfl elLaw (fun _=>rfl) lw_one rfl (xs:=[]) (ys:=ls) (made_law W1) rfl rfl rfl (cE.o.keep (aA.o.trans (Below.mono (B:=W1.heap.size) Bw aA.o.size))) McW Mcn Mcq ?_)
                       intro v2 w2 h1 h2 h3;rw[List.nil_append]at h1;have e1:w2.heap[w.heap.size]?=_:=(h2.block w.heap.size Mcr MdD).trans (zal b0);have e2:w2.heap[w.heap.size+1]?=_:=(h2.block (w.heap.size+1) Mcr MdD).trans (zal r0);have bn:Below W1.heap.size W1 w2:=Below.grown (zad (Below.refl _ _) _) h2 Mcq Mc1;obtain⟨A2,c2,rfl,cr,s2⟩:=h1.ro
                       clear h1 h2 h3)
 have S2:=zHi s2;have aB:=zHi (aA.o.trans (bn.mono aA.o.size));have bp:=aB.o.size;have m0:=zab e1;have m1:=zab e2;clear s2 bn aA b0 r0 c0 l0 l1 cE;obtain⟨OB,gU⟩: ∃OB,OB=w2.heap.size:=⟨_,rfl⟩
 have qW:Below OB w2 (w2.alloc (.cells #[.slice A2 ls.length c2, .slice none 0 0] 25)):=by rw[gU];exact Bw
 have o3:(w2.alloc (.cells #[.slice A2 ls.length c2, .slice none 0 0] 25)).heap[OB]?=some (.cells #[.slice A2 ls.length c2, .slice none 0 0] 25):=zar _ _ _ gU;go_upto_region 3 with fail
 rw[<-gU];have yX:=zHi gU;go_loopw [4] (fun i wr=> ∃(k:Nat) (xs:List DV) (v:Value),k<=ds.length/\i= .int .i64 k/\Hid (xs.map (·.d)=ds.take k)/\Hid (∀x∈xs,x.d.to.length<=x.c/\Ro wr 75 RPart.cells x.B x.d.to)/\OwnS wr (OB+1) 52 7 DV.cells v xs/\wr.heap[OB]?=some (.cells #[.slice A2 ls.length c2,v] 25)/\Below OB w2 wr) (fun i _=>ds.length-(intOf i).toNat)
 case atStart=>exact⟨0,[], .slice none 0 0,Nat.zero_le _,rfl,zHi Mcq,zHi Mcq,OwnS.nil,o3,qW⟩
 case round=>
  obtain⟨k,xs,v,hk,rfl,HM,HP,ae,ho,hB⟩:=hrel;have iW:=zab ho;have fu:Below w.heap.size w wr:=aB.o.trans (hB.mono Mcn);have aE:=fu.size;have b1:wr.heap[w.heap.size]?=some (.cells #[.slice LA ls.length nc, .slice DA ds.length mc] 25):=(hB.block _ Mcn).trans e1;have r1:wr.heap[w.heap.size+1]?=some (.cells #[.slice none 0 0, .slice none 0 0] 25):=(hB.block _ Mcn).trans e2;obtain⟨-,p2⟩:=cF2 b1;obtain⟨VA,vc,rfl,_,ka⟩:=ae.sl zb0;have bv:xs.length=k:=by
   have:=congrArg List.length HM.o;simp at this;omega
  by_cases aa:k<ds.length
  ·obtain⟨b,off,cs,hA,hb,hr,ah⟩:=(dD.o.keep zbM fu).at aa;have dS:ds.take (k+1)=ds.take k++[ds[k]]:=by rw[List.take_add_one,List.getElem?_eq_getElem aa];rfl
   have cK:=HT.o _ (List.getElem_mem aa);have am:=zHi aa;generalize ds[k]=x at*;obtain⟨B,c,hc,rfl,hS⟩:=hr;have jO:=zHi (fun W' (h:Below wr.heap.size wr W')=>deed_any x B c W' cK (hS.keep h));unfold Deed.v at jO;subst hA;obtain⟨-,p1⟩:=cF2 ho;rw[bv]at p1;have i0:=ah 0 _ rfl;have i1:=ah 1 _ rfl;have i2:=ah 2 _ rfl;have i3:=ah 3 _ rfl;have i4:=ah 4 _ rfl;have i5:=ah 5 _ rfl;have i6:=ah 6 _ rfl;simp only[Nat.add_zero]at i0;have ar:(k:Int)<(ds.length:Int):=Mcn;have aT:(0:Int)<=(k:Int):=Mcn;have dW:=zHi dS;have fP:=zHi bv;have dJ:=zHi ae;have Bm:=zHi ho;have HB:=zHi hB;have q9:w.heap.size<wr.heap.size:=Mcn
   have aG:=zHi (fun(w':World) (h:Below wr.heap.size wr w')=>(show w'.cell? ⟨OB,1,none⟩=some (.slice VA k vc)/\w'.cell? ⟨w.heap.size,1,none⟩=some (.slice (some ⟨b,off,none⟩) ds.length mc)/\w'.cell? ⟨b,off+k*7,none⟩=some (.int .i64 x.kind)/\w'.cell? ⟨b,off+k*7+1,none⟩=some (.int .i64 x.day)/\w'.cell? ⟨b,off+k*7+2,none⟩=some (.string x.place)/\w'.cell? ⟨b,off+k*7+3,none⟩=some (.string x.frm)/\w'.cell? ⟨b,off+k*7+4,none⟩=some (.slice B x.to.length c)/\w'.cell? ⟨b,off+k*7+5,none⟩=some (.int .i64 x.cls)/\w'.cell? ⟨b,off+k*7+6,none⟩=some (.int .i64 x.years) from
    ⟨(zah h iW).trans p1,(zah h q9).trans p2,(zah h hb).trans i0,(zah h hb).trans i1,(zah h hb).trans i2,(zah h hb).trans i3,(zah h hb).trans i4,(zah h hb).trans i5,(zah h hb).trans i6⟩))
   clear ah aa hS ae ho hB dS bv cK gU;go_upto_region 5 with fail
   refine zaC 9 (fun bb w'=>bb=true\/(w'.cell? ⟨OB,1,none⟩=some (.slice VA k vc)/\w'.cell? ⟨w.heap.size,1,none⟩=some (.slice (some ⟨b,off,none⟩) ds.length mc)/\w'.cell? ⟨b,off+k*7,none⟩=some (.int .i64 x.kind)/\w'.cell? ⟨b,off+k*7+1,none⟩=some (.int .i64 x.day)/\w'.cell? ⟨b,off+k*7+2,none⟩=some (.string x.place)/\w'.cell? ⟨b,off+k*7+3,none⟩=some (.string x.frm)/\w'.cell? ⟨b,off+k*7+4,none⟩=some (.slice B x.to.length c)/\w'.cell? ⟨b,off+k*7+5,none⟩=some (.int .i64 x.cls)/\w'.cell? ⟨b,off+k*7+6,none⟩=some (.int .i64 x.years))) Mco (.inr (aG.o _ (zaH (Below.refl _ _)))) ?hrest
   case hrest=>
    intro hHeld;refine TkM 0 ?_;refine TkM 1 ?_;refine TkM 2 ?_;refine TkM 3 ?_;refine TkM 4 ?_;refine TkM 5 ?_;refine TkM 6 ?_;refine OnM 7 false fun K hK=> ?_
    go_simp
    refine(jO.o _ (zaH (Below.refl _ _))).mono ?_;rintro e w5 ⟨B5,c5,rfl,mi,ro5,aq⟩;unfold Deed.v;have cH:Below wr.heap.size wr w5:=(zaH (Below.refl _ _):Below wr.heap.size wr wr.drew).trans aq;refine NxM hK (fun hHeld=> ?_) (.inr (aG.o _ cH));clear hK K;refine OnM 8 false fun K hK=> ?_
    go_simp
    have aI:Below wr.heap.size wr (w5.alloc (.cells #[.int .i64 x.kind, .int .i64 x.day, .string x.place, .string x.frm, .slice B5 x.to.length c5, .int .i64 x.cls, .int .i64 x.years] 52)):=zad cH _;have n6:(w5.alloc (.cells #[.int .i64 x.kind, .int .i64 x.day, .string x.place, .string x.frm, .slice B5 x.to.length c5, .int .i64 x.cls, .int .i64 x.years] 52)).heap[w5.heap.size]?=some (.cells #[.int .i64 x.kind, .int .i64 x.day, .string x.place, .string x.frm, .slice B5 x.to.length c5, .int .i64 x.cls, .int .i64 x.years] 52):=zar _ _ _ rfl;have ro6:Ro (w5.alloc (.cells #[.int .i64 x.kind, .int .i64 x.day, .string x.place, .string x.frm, .slice B5 x.to.length c5, .int .i64 x.cls, .int .i64 x.years] 52)) 75 RPart.cells B5 x.to:=ro5.keep (n:=w5.heap.size) (zad (Below.refl _ _) _);refine NxM hK (fun hHeld=> ?_) (.inr (aG.o _ aI));clear hK K;refine OnM 9 true fun K hK=> ?_
    generalize w5.alloc (.cells #[.int .i64 x.kind, .int .i64 x.day, .string x.place, .string x.frm, .slice B5 x.to.length c5, .int .i64 x.cls, .int .i64 x.years] 52)=W6 at*;have ow6:=dJ.o.keep aI;refine zak (v:= .slice VA k vc) (n:=k) (m:=1) rfl _ _ rfl zeW zb0 zeV rfl (xs:=xs) (ys:=[⟨x,B5,c5⟩]) (by have:=ow6;rw[fP.o]at this;exact this) fP.o rfl rfl (zfr zb0 n6 (by simp[DV.cells])) McW Mcn MdE ?_;intro v7 w7 h1 h2 h3;obtain⟨A7,c7,j8,_,_⟩:=h1.sl zb0;rw[List.length_append]at j8;subst j8;have ow7:OwnS W6 (OB+1) 52 7 DV.cells (.slice VA k vc) xs:=by have:=ow6;rw[fP.o]at this;exact this
    have o7:w7.heap[OB]?=some (.cells #[.slice A2 ls.length c2, .slice VA xs.length vc] 25):=(h2.block OB MdE (fun e=>by have:=ow7.ge _ e.symm;omega)).trans ((aI.block OB iW).trans Bm.o);have ro7:Ro w7 75 RPart.cells B5 x.to:=zhU ro6 ow7 h2 Mcp;have rs7: ∀y∈xs,y.d.to.length<=y.c/\Ro w7 75 RPart.cells y.B y.d.to:=fun y hy=>⟨(HP.o y hy).1,zhU ((HP.o y hy).2.keep aI) ow7 h2 Mcp⟩
    have bj:Below OB w2 w7:=Below.grown (HB.o.trans (aI.mono Mcn)) h2 (by have:=HB.o.size;have:=aI.size;omega) (fun j hj=>by have:=ow7.ge _ hj;omega);have f7:w7.frozen? ⟨OB,1,none⟩=false:=by simp[World.frozen?,o7]
    obtain⟨-,t7⟩:=cF2 o7;refine NxM hK fun hHeld=> ?_
    clear hK K;refine OnM 10 true fun K hK=> ?_
    go_simp
    refine NxM hK fun hHeld=> ?_
    clear hK K;refine OnM 11 true fun K hK=> ?_
    go_simp
    refine NxM hK fun hHeld=> ?_
    clear hK K;refine zaN Mco ?_ _;clear hHeld;go_wp2_with fail
    go_round
    case rel=>
     refine⟨k+1,xs++[⟨x,B5,c5⟩],_,am.o,by go_num,zHi (by rw[List.map_append,HM.o,dW.o];rfl),zHi (fun y hy=> ?_),h1.grown (zaz _ _ _ _) (.inr fun e=>by have:=h1.ge _ e;omega),?_,zaM bj (Nat.le_refl _) _⟩
     ·exact Maq
     ·have:=Joins.block_setCell (i:=1) o7 (.slice A7 (xs.length+[(⟨x,B5,c5⟩:DV)].length) c7);simpa using this
    case measure=>have:=am.o;simp only[intOf];omega
  ·have ar: ¬(k:Int)<(ds.length:Int):=Mcn;have tQ:xs.map (·.d)=ds:=by rw[HM.o,List.take_of_length_le Mcn]
   have bQ:xs.length=ds.length:=by rw[<-tQ,List.length_map]
   obtain⟨-,p1⟩:=cF2 ho;obtain p0:=cF1 ho;obtain⟨t0,t1⟩:=cF2 r1;have f0: ∀j,wr.frozen? ⟨w.heap.size+1,j,none⟩=false:=fun j=>by simp[World.frozen?,r1]
   rw[bQ]at p1;have Bb:=zHi tQ;have jQ:=zHi bQ;have dJ:=zHi ae;have HB:=zHi hB;have aW:=zHi fu;clear tQ bQ ae hB fu aa bv ho gU;go_wp2_with fail
   refine bodyPost_ret (v:= .agg #[.slice A2 ls.length c2, .slice VA ds.length vc]) ?_ rfl ?_
   ·exact ziI rfl _ _ (w.heap.size+1) _ _ rfl (zer r1)
   ·have rr:=Joins.block_setCell (i:=0) r1 (.slice A2 ls.length c2);have jD: ∀ {α:Type} {e:TypeId} {f:α->List Value} {A:Option Addr} {ys:List α},e≠25->Ro wr e f A ys->Ro ((wr.setCell ⟨w.heap.size+1,0,none⟩ (.slice A2 ls.length c2)).setCell ⟨w.heap.size+1,1,none⟩ (.slice VA ds.length vc)) e f A ys:=fun ai h=>
     (h.kept (zaz _ _ _ _) r1 (fun e=>ai e.symm)).kept (zaz _ _ _ _) rr (fun e=>ai e.symm)
    have Am:=zer (a:= .slice A2 ls.length c2) (b:= .slice VA ds.length vc) r1;refine⟨A2,c2,VA,vc,OB+1,xs,rfl,cr,(jD Mcp (S2.o.keep (n:=OB) HB.o (by have:=yX.o;omega))).sl (fun _=>rfl),Bb.o,fun y hy=>⟨(HP.o y hy).1,jD Mcp (HP.o y hy).2⟩,?_,by have:=yX.o;omega,zaM (zaM aW.o Mcq _) Mcq _⟩;have ho:=dJ.o;rw[jQ.o]at ho;have h1:=ho.grown (zaz wr (w.heap.size+1) 0 (.slice A2 ls.length c2)) (.inr fun e=>by have:=ho.ge _ e;have:=yX.o;omega);exact h1.grown (zaz _ (w.heap.size+1) 1 (.slice VA ds.length vc)) (.inr fun e=>by have:=ho.ge _ e;have:=yX.o;omega)
theorem zpd (ls:List Law) (ds:List Deed) (LA:Option Addr) (n nc:Nat) (DA:Option Addr) (m mc:Nat) (w:World) (hR:RightsIn w ls ds LA n nc DA m mc) (hl:ls.length<=1000) (hd:ds.length<=1000) (ht: ∀d∈ds,d.to.length<=100000):
 Calls Tryz.prog 16 #[.agg #[.slice LA n nc, .slice DA m mc]] w (CopyPost w ls ds):=by
 refine(znq ls ds LA n nc DA m mc w hR hl hd ht).mono ?_;rintro e w' ⟨A,a,D,c,b,xs,rfl,ha,hL,hm,hp,ho,hb,hB⟩;obtain⟨D',c',he,hx,hc⟩:=ho.sl zb0;simp only[Value.slice.injEq]at he;obtain⟨rfl,_,rfl⟩:=he;have hk:xs.length=ds.length:=by rw[<-hm,List.length_map]
 exact⟨A,a,D,c,rfl,⟨rfl,rfl,ha,by omega,hL,slw_of hx hm fun y hy=>⟨(hp y hy).1,(hp y hy).2.sl zjP⟩⟩,hB⟩
theorem zmi (day:Int) (w:World) (h0:0<=day) (h1:day<=200000):
 Calls Tryz.prog 269 #[.int .i64 day] w (fun e w'=>DateIs day (zbS day) (zbe day)/\Ret w (zmH (zbS day) (zbe day) (day-zaE (zbS day) (zbe day)+1)) e w'):=by
 have dO:=beg_low h0 h1;have eZ:=znI h0 h1;have wN:day.tdiv 366=day/366:=Int.tdiv_eq_ediv_of_nonneg h0;have gK:0<=day/366:=Mcn;have cZ:day/366<=546:=Mcn;rw[wN]at dO eZ;have yE:zbS day=zen day 10 (1800+day/366):=by unfold zbS;rw[wN]
 have HY:=zHi yE;have HH:=zHi eZ;clear yE eZ;go_enter Tryz.func269,Tryz.ntmps269
 go_wp2_with fail
 go_loopg [] 10 (fun gg wr=> ∃(f:Nat) (y:Int),f<=gg/\y+f=1800+day/366+10/\1800<=y/\y<=2400/\Hid (zbS day=zen day f y)/\Hid (begP y<=day)/\Below w.heap.size w wr/\wr.heap[w.heap.size]?=some (.cells #[.int .i64 0, .int .i64 0, .int .i64 0] 226)/\wr.heap[w.heap.size+1]?=some (.cells #[.int .i64 y, .int .i64 1, .int .i64 0] 226))
 case atStart=>exact⟨10,1800+day/366,Nat.le_refl _,by omega,by omega,by omega,HY.o,dO,Bw,zal (zar _ _ _ rfl),zar _ _ _ Mcq⟩
 case round=>
  obtain⟨f,y,hf,Lj,lh,Li,vl,fE,hB,g0,g1⟩:=hrel;have a0:wr.cell? ⟨w.heap.size+1,0,none⟩=some (.int .i64 y):=Mct;have a1:wr.cell? ⟨w.heap.size+1,1,none⟩=some (.int .i64 1):=Mct;have a2:wr.cell? ⟨w.heap.size+1,2,none⟩=some (.int .i64 0):=Mct;have z0:wr.frozen? ⟨w.heap.size+1,0,none⟩=false:=McB;have z1:wr.frozen? ⟨w.heap.size+1,1,none⟩=false:=McB;have z2:wr.frozen? ⟨w.heap.size+1,2,none⟩=false:=McB;have b0:wr.cell? ⟨w.heap.size,0,none⟩=some (.int .i64 0):=Mcs;have b1:wr.cell? ⟨w.heap.size,1,none⟩=some (.int .i64 0):=Mcs;have b2:wr.cell? ⟨w.heap.size,2,none⟩=some (.int .i64 0):=Mcs;have x0:wr.frozen? ⟨w.heap.size,0,none⟩=false:=McA;have x1:wr.frozen? ⟨w.heap.size,1,none⟩=false:=McA;have x2:wr.frozen? ⟨w.heap.size,2,none⟩=false:=McA;have e1:w.heap.size+1<wr.heap.size:=zab g1;have e0:w.heap.size<wr.heap.size:=zab g0;have k0:IntKind.i64.wrap (y+1)=y+1:=IntWalk.i64_in _ Mcn;by_cases hc:begP (y+1)<=day
  ·have JY:f≠0:=by
    exact MbD
   obtain⟨f',rfl⟩: ∃f',f=f'+1:=⟨f-1,by omega⟩
   have HN:Hid (zbS day=zen day f' (y+1)):=by
    show _=_;rw[vl.o,zlk Mee]
   have HC:=zHi hc;go_wp2_with (go_at_call 273;refine(zdo (y+1) 1 _ Mcn Mcn Mcn Mcn).mono ?_;rintro e wq ⟨rfl,rfl⟩;rw[zbC])
   exact MW
  ·have HN:Hid (zbS day=y):=by
    show _=_;rw[vl.o,zll Mee]
   have rW:=zca (m:=1) lh Mcn Mcn Mcn;rw[zbC]at rW;have k1:IntKind.i64.wrap (day-begP y)=day-begP y:=IntWalk.i64_in _ Mcn;have xy:zbe day=zdl day y 12 1:=by unfold zbe;rw[HN.o]
   have kJ:=zHi xy;have yF:day<zaE y 12+za7 y 12:=by
    rw[<-zj9 lh,zbC];omega
   have BO:=zHi yF;have ly:=fE.o;have ak:Hid (zaE y 1<=day):=by show _<=_;rw[zbC];exact ly
   clear xy yF ly;have G0:=zHi g0;have G1:=zHi g1;go_upto_region 4 with(go_at_call 273;refine(zdo (y+1) 1 _ Mcn Mcn Mcn Mcn).mono ?_;rintro e wq ⟨rfl,rfl⟩;rw[zbC])
   clear a0 a1 a2 z0 z1 z2 b0 b1 b2 x0 x1 x2 g0 g1;go_loopg [] 12 (fun gg wm=> ∃(m:Nat),1<=m/\m<=12/\12-m<=gg/\Hid (zbe day=zdl day y (13-m) m)/\Hid (zaE y m<=day)/\Below w.heap.size w wm/\wm.heap[w.heap.size]?=some (.cells #[.int .i64 0, .int .i64 0, .int .i64 0] 226)/\wm.heap[w.heap.size+1]?=some (.cells #[.int .i64 y, .int .i64 m, .int .i64 0] 226))
   case atStart=>exact⟨1,by omega,by omega,by omega,kJ.o,ak.o,hB,G0.o,G1.o⟩
   case round=>
    obtain⟨m,ct,fC,rZ,HM,qA,ES,g0,g1⟩:=hrel;have a0:wr.cell? ⟨w.heap.size+1,0,none⟩=some (.int .i64 y):=Mct;have a1:wr.cell? ⟨w.heap.size+1,1,none⟩=some (.int .i64 m):=Mct;have a2:wr.cell? ⟨w.heap.size+1,2,none⟩=some (.int .i64 0):=Mct;have z0:wr.frozen? ⟨w.heap.size+1,0,none⟩=false:=McB;have z1:wr.frozen? ⟨w.heap.size+1,1,none⟩=false:=McB;have z2:wr.frozen? ⟨w.heap.size+1,2,none⟩=false:=McB;have b0:wr.cell? ⟨w.heap.size,0,none⟩=some (.int .i64 0):=Mcs;have b1:wr.cell? ⟨w.heap.size,1,none⟩=some (.int .i64 0):=Mcs;have b2:wr.cell? ⟨w.heap.size,2,none⟩=some (.int .i64 0):=Mcs;have x0:wr.frozen? ⟨w.heap.size,0,none⟩=false:=McA;have x1:wr.frozen? ⟨w.heap.size,1,none⟩=false:=McA;have x2:wr.frozen? ⟨w.heap.size,2,none⟩=false:=McA;have e1:w.heap.size+1<wr.heap.size:=zab g1;have e0:w.heap.size<wr.heap.size:=zab g0;have fR:=zdB y ct fC;have ox:=zca (m:=m) lh Mcn ct Mcn;have hu:=zf8 y ct;have dG:=qA.o;have k3:IntKind.i64.wrap ((m:Int)+1)=(m:Int)+1:=IntWalk.i64_in _ Mcn;have k5:IntKind.i64.wrap (day-zaE y m)=day-zaE y m:=IntWalk.i64_in _ Mcn;have k4:IntKind.i64.wrap (day-zaE y m+1)=day-zaE y m+1:=IntWalk.i64_in _ Mcn;by_cases cr:m<12/\zaE y (m+1)<=day
    ·obtain⟨sn,mh⟩:=cr;have fK:(m:Int)<12:=Mcn;have kK:Hid (zbe day=zdl day y (13-(m+1)) (m+1)):=by
      show _=_;rw[HM.o,show 13-m=(13-(m+1))+1 by omega,zjA sn mh]
     have fZ:=zHi mh;have nP:=zHi (fun W=>zdo y (m+1) W lh Mcn Mcn Mcn);rw[show((m+1:Nat):Int)=(m:Int)+1 from rfl]at nP;clear hu dG;go_wp2_with (go_at_call 273;refine(nP.o _).mono ?_;rintro e wq ⟨rfl,rfl⟩)
     go_roundg (12-(m+1))
     case measure=>omega
     case rel=>
      refine⟨m+1,by omega,by omega,Nat.le_refl _,kK,fZ.o,by repeat(first|exact B_refl|exact Below.refl _ _|assumption|with_reducible refine zad ?_ _|with_reducible refine zb6 ?_ _|with_reducible refine zaH ?_|with_reducible refine zd5 ?_ _|with_reducible refine zaM ?_ Mdm _),J_ne Mcn g0,?_⟩;exact MbI
    ·have kK:Hid (zbe day=m):=by
      show _=_;rw[HM.o,zjB cr]
     have FR:day<zaE y m+za7 y m:=by
      by_cases nr:m<12
      ·have: ¬zaE y (m+1)<=day:=fun h=>cr ⟨nr,h⟩
       rw[hu]at this;omega
      ·obtain rfl:m=12:=by omega
       exact BO.o
     have HD:Hid (DateIs day (zbS day) (zbe day)):=by
      show DateIs _ _ _;rw[HN.o,kK.o];exact⟨lh,by omega,ct,fC,dG,FR⟩
     have nP:=zHi (fun W (h:m<12)=>zdo y (m+1) W lh Mcn Mcn Mcn);have qs:=zHi (fun W=>zdo y m W lh Mcn ct fC);rw[show((m+1:Nat):Int)=(m:Int)+1 from rfl]at nP;have bL: ∀W:World,W=W->True:=fun _ _=>trivial
     clear hu dG FR bL;by_cases nr:m<12
     ·have fK:(m:Int)<12:=Mcn;have iO: ¬zaE y (m+1)<=day:=fun h=>cr ⟨nr,h⟩
      have qq:=zHi (fun W=>nP.o W nr);clear cr;go_upto_region 6 with(go_at_call 273;refine(qq.o _).mono ?_;rintro e wq ⟨rfl,rfl⟩)
      exact Mcf
     ·have fK: ¬(m:Int)<12:=Mcn;clear cr nP;go_upto_region 6 with fail
      exact Mcf
theorem zh4 (n:Int) (w:World):Calls Tryz.prog 272 #[.int .i64 n] w (Ret0 w (.bool (inR n 1800 2347))):=by
 go_enter Tryz.func272,Tryz.ntmps272
 exact Mat
theorem ziV (n:Int) (w:World):Calls Tryz.prog 275 #[.int .i64 n] w (Ret0 w (.bool (zbk n))):=by
 go_enter Tryz.func275,Tryz.ntmps275
 exact Mat
theorem zjY (n:Int) (w:World) (h0:0<=n) (h1:n<=1000000):Calls Tryz.prog 271 #[.int .i64 n, .int .i64 12] w (Ret0 w (.int .i64 (n%12))):=by
 have e1:n.tmod 12=n%12:=Int.tmod_eq_emod_of_nonneg h0;have k1:IntKind.i64.wrap (n%12)=n%12:=IntWalk.i64_in _ Mcn;have k2:IntKind.i64.wrap (n%12+12)=n%12+12:=IntWalk.i64_in _ Mcn;have e2:(n%12+12).tmod 12=n%12:=by rw[Int.tmod_eq_emod_of_nonneg Mcn];omega
 go_enter Tryz.func271,Tryz.ntmps271
 go_wp2_with fail
 go_ret
 exact⟨by first|rfl|simp,rfl⟩
theorem zmj (n:Int) (w:World) (h0:0<=n) (h1:n<=1000000):Calls Tryz.prog 270 #[.int .i64 n, .int .i64 12] w (Ret0 w (.int .i64 (n/12))):=by
 have k1:IntKind.i64.wrap (n-n%12)=n-n%12:=IntWalk.i64_in _ Mcn;have e1:(n-n%12).tdiv 12=n/12:=by rw[Int.tdiv_eq_ediv_of_nonneg Mcn];omega
 have k2:IntKind.i64.wrap (n/12)=n/12:=IntWalk.i64_in _ Mcn;go_enter Tryz.func270,Tryz.ntmps270
 go_wp2_with (go_at_call 271;refine(zjY _ _ h0 h1).mono ?_;rintro e wq ⟨rfl,rfl⟩)
 go_ret
 exact⟨by first|rfl|simp,rfl⟩
theorem ziW (day mo:Int) (w:World) (h0:0<=day) (h1:day<=200000) (nD:0<=mo) (ct:mo<=12000):
 Calls Tryz.prog 260 #[.int .i64 day, .int .i64 mo] w (fun e w'=> ∃n:Int,∃ok:Bool,(ok=true->zbU day mo=n/\0<=n)/\(ok=false->zbU day mo= -1)/\Ret w (.tuple #[.int .i64 n, .bool ok]) e w'):=by
 have hA:zbU day mo=if !inR ((zbS day*12+zbe day-1+mo)/12) 1800 2347 then-1 else
  if zbk (zaE ((zbS day*12+zbe day-1+mo)/12) ((zbS day*12+zbe day-1+mo)%12+1).toNat+min (day-zaE (zbS day) (zbe day)+1) (za7 ((zbS day*12+zbe day-1+mo)/12) ((zbS day*12+zbe day-1+mo)%12+1))-1)then
   zaE ((zbS day*12+zbe day-1+mo)/12) ((zbS day*12+zbe day-1+mo)%12+1).toNat+min (day-zaE (zbS day) (zbe day)+1) (za7 ((zbS day*12+zbe day-1+mo)/12) ((zbS day*12+zbe day-1+mo)%12+1))-1 else-1:=rfl
 have HA:=zHi hA;clear hA;have HD:=zHi (fun W=>zmi day W h0 h1);generalize zbS day=y at*;generalize zbe day=m at*;generalize zbU day mo=R at*;go_enter Tryz.func260,Tryz.ntmps260
 go_upto_region 2 with(go_at_call 269;refine(HD.o _).mono ?_;rintro e wq ⟨CR,rfl,z,rfl⟩;simp only[zmH])
 obtain⟨d1,d2,d3,d4,d5,d6⟩:=CR;obtain⟨f1,f2⟩:=zdB y d3 d4;obtain⟨X,hX⟩: ∃X,X=day-zaE y m+1:=⟨_,rfl⟩
 obtain⟨N,hN⟩: ∃N,N=y*12+m-1+mo:=⟨_,rfl⟩
 have sM:Hid (R=if !inR (N/12) 1800 2347 then-1 else if zbk (zaE (N/12) (N%12+1).toNat+min X (za7 (N/12) (N%12+1))-1)then zaE (N/12) (N%12+1).toNat+min X (za7 (N/12) (N%12+1))-1 else-1):=by
  show _=_;rw[HA.o,hX,hN]
 have JC:1<=X:=Mcn;have rA:X<=31:=Mcn;rw[<-hX];have k1:IntKind.i64.wrap (y*12)=y*12:=IntWalk.i64_in _ Mcn;have k2:IntKind.i64.wrap (y*12+m)=y*12+m:=IntWalk.i64_in _ Mcn;have k3:IntKind.i64.wrap (y*12+m-1)=y*12+m-1:=IntWalk.i64_in _ Mcn;have k4:IntKind.i64.wrap (y*12+m-1+mo)=N:=by rw[hN];exact IntWalk.i64_in _ Mcn
 have Ce:0<=N/\N<=100000:=Mcn;obtain⟨ra,Cf⟩:=Ce;clear HA hX hN HD d5 d6 f1 f2;have gK:0<=N/12:=Mcn;obtain⟨mm,cY⟩: ∃mm:Nat,(mm:Int)=N%12+1:=⟨(N%12+1).toNat,by omega⟩
 have dq:1<=mm:=Mcn;have jF:mm<=12:=Mcn;have ht:(N%12+1).toNat=mm:=Mcn;have cD:Hid (R=if !inR (N/12) 1800 2347 then-1 else if zbk (zaE (N/12) mm+min X (za7 (N/12) mm)-1)then zaE (N/12) mm+min X (za7 (N/12) mm)-1 else-1):=by
  show _=_;rw[sM.o,ht,<-cY]
 have k5:IntKind.i64.wrap (N%12+1)=(mm:Int):=by rw[cY];exact IntWalk.i64_in _ Mcn
 obtain⟨Y,hY⟩: ∃Y,N/12=Y:=⟨_,rfl⟩
 rw[hY]at cD;have wg:Y<=10000:=Mcn;have cZ:0<=Y:=Mcn;clear sM ht;have yW:=zHi cY;clear cY
 go_upto_region 4 with(first
  |(go_at_call 270;refine(zmj _ _ ra Mcn).mono ?_;rintro e wq ⟨rfl,rfl⟩;rw[hY])
  |(go_at_call 271;refine(zjY _ _ ra Mcn).mono ?_;rintro e wq ⟨rfl,rfl⟩))
 cases aO:inR Y 1800 2347
 ·have HR:Hid (R= -1):=MdN;go_wp2_with (go_at_call 272;refine(zh4 _ _).mono ?_;rintro e wq ⟨rfl,rfl⟩;rw[aO])
  all_goals go_ret2
  all_goals exact⟨0,false,by simp,fun _=>HR.o,Ret.of rfl Bw⟩
 ·have wh:1800<=Y/\Y<=2347:=by simpa[inR]using aO
  obtain⟨f1,f2⟩:=zdB Y dq jF;have rW:=zca (m:=mm) wh.1 Mcn dq Mcn;have HR:Hid (R=if zbk (zaE Y mm+min X (za7 Y mm)-1)then zaE Y mm+min X (za7 Y mm)-1 else-1):=MdN;clear cD;go_upto_region 6 with(go_at_call 272;refine(zh4 _ _).mono ?_;rintro e wq ⟨rfl,rfl⟩;rw[aO])
  have uI:=zHi (fun W=>zfy Y mm W cZ Mcn dq jF);have ur:=zHi (fun W=>zdo Y mm W wh.1 Mcn dq jF);have j1:IntKind.i64.wrap (zaE Y mm+min X (za7 Y mm))=zaE Y mm+min X (za7 Y mm):=IntWalk.i64_in _ Mcn;have j2:IntKind.i64.wrap (zaE Y mm+min X (za7 Y mm)-1)=zaE Y mm+min X (za7 Y mm)-1:=IntWalk.i64_in _ Mcn;generalize za7 Y mm=L at*;generalize zaE Y mm=F at*;clear rW;refine zan Mco Mco ?_;repeat(first|go_big_quiet_skip|(go_big_quiet_want;go_big_quiet_op;first|go_big_quiet_on|(apply Exists.intro;refine⟨fun _=> ?_,?_⟩;(first|(go_at_call 274;exact zhZ (uI.o _))|(go_at_call 273;exact zhZ (ur.o _)));go_big_quiet_on)))
  refine wpQuiet_nil ?_;rintro _ ⟨zq,rfl⟩;generalize hO:F+min X L-1=out at*;have HO:=zHi hO;clear hO uI ur j1 j2;cases hd:zbk out
  ·have jN:=zHi hd;go_wp2_with (go_at_call 275;refine(ziV _ _).mono ?_;rintro e wq ⟨rfl,rfl⟩;rw[hd])
   exact MbF
  ·have jN:=zHi hd;go_wp2_with (go_at_call 275;refine(ziV _ _).mono ?_;rintro e wq ⟨rfl,rfl⟩;rw[hd])
   exact MaZ
theorem zjZ (day ys:Int) (w:World) (h0:0<=day) (h1:day<=200000) (nD:0<=ys) (ct:ys<=99):
 Calls Tryz.prog 234 #[.int .i64 day, .int .i64 ys] w (Ret w (.int .i64 (zcg day ys))):=by
 have HL:=zHi (ziW day (12*ys) w h0 h1 Mcn Mcn);have bN:=zkH day ys;unfold zcg at bN;have AW:=zHi bN;have kz:IntKind.i64.wrap (12*ys)=12*ys:=IntWalk.i64_in _ Mcn;clear bN;go_enter Tryz.func234,Tryz.ntmps234
 go_upto_region 2 with(go_at_call 260;refine(HL.o).mono ?_;rintro e wq ⟨n,ok,k1,k2,rfl,z,rfl⟩;have H1:=zHi k1;have H2:=zHi k2;clear k1 k2)
 cases ok
 ·have HE:Hid (zcg day ys= -1):=by show _=_;unfold zcg;exact H2.o rfl
  go_wp2_with fail
  go_ret
  exact Ret.of (zb1 HE.o.symm) Bw
 ·have HE:Hid (zcg day ys=n):=by show _=_;unfold zcg;exact(H1.o rfl).1
  have hn: ¬200000<n:=by have:=AW.o;have:=(H1.o rfl).1;omega
  go_wp2_with fail
  go_ret
  exact Ret.of (zb1 HE.o.symm) Bw
end Go.Proofs.YtjhbofabmpfniaaGreatDoor
