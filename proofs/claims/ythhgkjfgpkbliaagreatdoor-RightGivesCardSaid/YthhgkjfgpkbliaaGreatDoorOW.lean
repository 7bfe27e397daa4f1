import Derived.Test.YthhgkjfgpkbliaaGreatDoorEI
set_option linter.all false
set_option maxRecDepth 100000
set_option maxHeartbeats 4000000
namespace Go.Proofs.YthhgkjfgpkbliaaGreatDoor
open Go.RowKit Go.Shelf
attribute [local go_sem] World.cell?_alloc_mark zae zav zai zaw zam zan zao zap zaq zar zas
attribute [local go_sem] zah zac
theorem tm_eql(W:World):(binOp .eql 103 (.map none) (.map none)).run Tryz.prog W=.ok (.bool true) W:=by
 kernel_rfl
theorem zkg(nm ot pl:ByteArray)(dy tl nu de q:Int)(A:Option Addr)(c:Nat)(w:World)(hc:1<=c)(htd:Int.tdiv 27720 de=q)(C2:¬de=0)(hqb:0<=q/\q<=27720)(bL:0<=nu*q/\nu*q<=27720)(hS:Sl w 8 Rec.cells A [⟨3,nm,ot,pl,dy,tl,nu,de⟩]):
 Calls Tryz.prog 172 #[.slice A 1 c] w (Ret w (.bool false)):=by
 have cq:= @run_makeMap Tryz.prog;have HS:=zHi hS;have eZ:IntKind.i64.wrap q=q:=MbU;have tw:IntKind.i64.wrap (nu*q)=nu*q:=MbU;have hw3:IntKind.i64.wrap (0+nu*q)=nu*q:=by rw[Int.zero_add];exact tw
 have hvn:¬27720<nu*q:=MbC;clear hS;go_enter Tryz.func172,Tryz.ntmps172
 go_upto_region 4 with fail
 clear cq;go_loopw [12] (fun i wr=>∃k:Nat,k<=1/\i=.int .i64 k/\(k=0->MapS wr w.heap.size ekSp (fun v:Value=>v) ([]:List (Spot×Value))/\MapS wr (w.heap.size+1) ekSp (fun v:Value=>v) ([]:List (Spot×Value)))/\Below w.heap.size w wr/\w.heap.size+2<=wr.heap.size) (fun i _=>1-(intOf i).toNat)
 case atStart=>
  refine⟨0,by omega,rfl,fun _=>⟨(MapS.new w).below (n:=w.heap.size+1) (zau (Below.refl _ _) _ MbF) MbF,?_⟩,Bw,by simp⟩;have:=MapS.new (ek:=ekSp) (ev:=fun v:Value=>v) (w.alloc (.map #[] 0));simpa using this
 case round=>
  obtain⟨k,hk,rfl,hm,hB,hsz⟩:=hrel;have HB:=zHi hB;have aS:=hB.size;by_cases aa:k<1
  ·obtain rfl:k=0:=by omega
   obtain⟨yK,mI⟩:=hm rfl;obtain⟨b,off,hA,hb,ah⟩:=(HS.o.keep hB).at (k:=0) MbF;have i0:wr.cell? ⟨b,off,none⟩=some (.int .i64 3):=McA;have i1:wr.cell? ⟨b,off+1,none⟩=some (.string nm):=by have:=ah 1 _ rfl;simpa using this
   have i2:wr.cell? ⟨b,off+2,none⟩=some (.string ot):=by have:=ah 2 _ rfl;simpa using this
   have i3:wr.cell? ⟨b,off+3,none⟩=some (.string pl):=by have:=ah 3 _ rfl;simpa using this
   have i4:wr.cell? ⟨b,off+4,none⟩=some (.int .i64 dy):=by have:=ah 4 _ rfl;simpa using this
   have i5:wr.cell? ⟨b,off+5,none⟩=some (.int .i64 tl):=by have:=ah 5 _ rfl;simpa using this
   have i6:wr.cell? ⟨b,off+6,none⟩=some (.int .i64 nu):=by have:=ah 6 _ rfl;simpa using this
   have i7:wr.cell? ⟨b,off+7,none⟩=some (.int .i64 de):=by have:=ah 7 _ rfl;simpa using this
   have eV:(0:Int)<=(c:Int):=MbC;obtain⟨x8,gI⟩:=yH2 yK mI;subst hA;clear ah yK mI hB aa hm;obtain⟨WZ,em⟩:∃WZ,WZ=(wr.alloc (.cells #[.int .i64 3,.string nm,.string ot,.string pl,.int .i64 dy,.int .i64 tl,.int .i64 nu,.int .i64 de] 123)).alloc (.cells #[.string pl,.int .i64 dy] 251):=⟨_,rfl⟩
   have df:Below wr.heap.size wr WZ:=by rw[em];exact Bw
   have bH:WZ.heap.size=wr.heap.size+2:=by rw[em];simp
   have z0:WZ.heap[wr.heap.size]?=some (.cells #[.int .i64 3,.string nm,.string ot,.string pl,.int .i64 dy,.int .i64 tl,.int .i64 nu,.int .i64 de] 123):=by rw[em];exact zal (za3 _ _ _ rfl)
   have z1:WZ.heap[wr.heap.size+1]?=some (.cells #[.string pl,.int .i64 dy] 251):=by rw[em];exact za3 _ _ _ MbF
   go_upto_region 7 with fail
   rw[<-em];have dK:=zHi df;clear em i0 i1 i2 i3 i4 i5 i6 i7 df;obtain⟨y0,y1⟩:=cF2 z0;obtain⟨x0,x1⟩:=cF2 z1;obtain⟨AR,AS⟩:=yH2 z0 z1;clear z0 z1;have dJ:∀q',(Instr.lookup 249 (.map (some (w.heap.size+1))) (.agg #[.string pl,.int .i64 dy]) false).run Tryz.prog (WZ.drewN q')=.ok (.map none) (WZ.drewN q'):=fun q'=>zbh mapPM (gI.o.keep (w':=WZ.drewN q') (dK.o.block _ gI.o.at.lt)).at (pl,dy)
   have fG:∀q',(Instr.lookup 103 (.map none) (.string nm) false).run Tryz.prog (WZ.drewN q')=.ok (.bool false) (WZ.drewN q'):=fun q'=>zkW _ _
   have cq:= @run_makeMap Tryz.prog;go_quiet (fail)
   clear fG;have vS:∀W,(binOp .eql 103 (.map none) (.map none)).run Tryz.prog W=.ok (.bool true) W:=tm_eql;have kn:Below wr.heap.size wr ((WZ.drewN nq).alloc (.map #[] 0)):=dK.o.trans ((zau (zdY (Below.refl _ _) _) _ (Nat.le_refl _)).mono MbC);obtain⟨jX,uu⟩:=yH2 kn bH;clear kn bH;go_upto_region 10 with
    (at_mapUpdate
     obtain⟨w1,ai,cO,bn,eG⟩:=zbY (P:=Tryz.prog) mapPM (gI.o.below jX.o) (pl,dy) (.map (some WZ.heap.size))
     go_loud(refine zcB rfl _ _ _ rfl _ _ _ rfl rfl rfl w1 ai ?_))
   clear cq dJ vS;have bH:=uu.o;have rq:w1.heap.size=WZ.heap.size+1:=by rw[eG];simp[World.drewN]
   have xQ:((WZ.drewN nq).alloc (.map #[] 0)).heap[WZ.heap.size]?=some (.map #[] 0):=za3 _ _ _ (by simp[World.drewN]);have py:∀j,j<WZ.heap.size+1->j≠w.heap.size+1->w1.heap[j]?=((WZ.drewN nq).alloc (.map #[] 0)).heap[j]?:=fun j hj ag=>bn.block j (by simp[World.drewN];exact hj) (by simpa using ag)
   have lY:w1.heap[wr.heap.size]?=_:=(py _ MbC MbC).trans ((zal (w:=WZ.drewN nq) AR.o));have pL:w1.heap[wr.heap.size+1]?=_:=(py _ MbC MbC).trans ((zal (w:=WZ.drewN nq) AS.o));have pO:=x8.o.keep ((py w.heap.size MbC MbC).trans (jX.o.block _ x8.o.at.lt));have bo:Below w.heap.size w w1:=zaF ((HB.o.trans (jX.o.mono aS))) bn MbC;have uK:MapS w1 WZ.heap.size ekS evB ([]:List (ByteArray×Bool)):=⟨#[],0,(py _ MbC MbC).trans xQ,rfl,by simp,by simp⟩
   obtain⟨kk,dR⟩:∃kk,kk=WZ.heap.size:=⟨_,rfl⟩
   rw[<-dR]at cO uK rq bH;have mZ:wr.heap.size+2<=kk:=MbC;have bR:kk<w1.heap.size:=MbC;clear dR bH rq;have rz:(false=true\/(w1.drew.cell? ⟨wr.heap.size+1,0,none⟩=some (.string pl)/\w1.drew.cell? ⟨wr.heap.size+1,1,none⟩=some (.int .i64 dy)/\w1.drew.cell? ⟨wr.heap.size,1,none⟩=some (.string nm)/\(Instr.lookup 249 (.map (some (w.heap.size+1))) (.agg #[.string pl,.int .i64 dy]) false).run Tryz.prog w1.drew=.ok (.map (some kk)) w1.drew)):=by
    have h1:w1.drew.heap[wr.heap.size]?=_:=lY;have h2:w1.drew.heap[wr.heap.size+1]?=_:=pL;refine .inr ⟨by simp only[World.cell?,h2];rfl,by simp only[World.cell?,h2];rfl,by simp only[World.cell?,h1];rfl,?_⟩;have:=zbh mapPM (cO.keep (w':=w1.drew) rfl).at (pl,dy);exact MaR
   obtain⟨w5,jQ,_,iY,wB⟩:=zbY (P:=Tryz.prog) zml (uK.keep (w':=w1.drew) rfl) nm true;have sx:∀j,j<kk->w5.heap[j]?=w1.heap[j]?:=fun j hj=>iY.block j (by show j<w1.heap.size;omega) MbH
   have nF:=(sx wr.heap.size MbC).trans lY;have sF:=(sx (wr.heap.size+1) MbC).trans pL;have hS5:=pO.keep (sx w.heap.size MbC);have fm:Below w.heap.size w w5:=zaF (zaI bo) iY MbC;have Dk:w1.heap.size<=w5.heap.size:=Nat.le_of_eq wB.symm;have cA:=zHi fm;clear sx iY fm bo uK cO pO lY pL xQ py eG bn;refine zbS 5 (fun bb w'=>bb=true\/(w'.cell? ⟨wr.heap.size+1,0,none⟩=some (.string pl)/\w'.cell? ⟨wr.heap.size+1,1,none⟩=some (.int .i64 dy)/\w'.cell? ⟨wr.heap.size,1,none⟩=some (.string nm)/\(Instr.lookup 249 (.map (some (w.heap.size+1))) (.agg #[.string pl,.int .i64 dy]) false).run Tryz.prog w'=.ok (.map (some kk)) w')) MbE rz ?hrest
   case hrest=>
    intro hHeld;refine TkM 0 ?_;refine TkM 1 ?_;refine TkM 2 ?_;refine TkM 3 ?_;refine TkM 4 ?_;refine OnM 5 true fun K hK=>?_
    refine zkX rfl _ _ _ rfl _ _ _ rfl rfl rfl w5 jQ ?_;refine NxM hK fun hHeld=>?_
    clear hK K;refine zcF MbE ?_ _;clear hHeld jQ rz wB;go_upto_region 11 with fail
    have rA:(false=true\/(w5.drew.cell? ⟨wr.heap.size+1,0,none⟩=some (.string pl)/\w5.drew.cell? ⟨wr.heap.size+1,1,none⟩=some (.int .i64 dy)/\w5.drew.cell? ⟨wr.heap.size,6,none⟩=some (.int .i64 nu)/\w5.drew.cell? ⟨wr.heap.size,7,none⟩=some (.int .i64 de)/\(Instr.lookup 248 (.map (some w.heap.size)) (.agg #[.string pl,.int .i64 dy]) false).run Tryz.prog w5.drew=.ok (.int .i64 0) w5.drew)):=by
     have h1:w5.drew.heap[wr.heap.size]?=_:=nF;have h2:w5.drew.heap[wr.heap.size+1]?=_:=sF;exact .inr ⟨by simp only[World.cell?,h2];rfl,by simp only[World.cell?,h2];rfl,by simp only[World.cell?,h1];rfl,by simp only[World.cell?,h1];rfl,zbh mapPV (hS5.keep (w':=w5.drew) rfl).at (pl,dy)⟩
    obtain⟨w6,st,jj,nW,dV,iH,cN,aP,zr⟩:=ziW (P:=Tryz.prog) mapPV (hS5.keep (w':=w5.drew) rfl) (pl,dy);have nO:(mget eqSp (pl,dy) ([]:List (Spot×Value))).getD (.int .i64 0)=.int .i64 0:=rfl;rw[nO]at nW dV iH cN;have sy:∀j,j<w5.heap.size->j≠w.heap.size->w6.heap[j]?=w5.heap[j]?:=fun j hj ag=>aP.block j hj (by simpa using ag)
    have mT:(false=true\/(w6.cell? ⟨wr.heap.size+1,0,none⟩=some (.string pl)/\w6.cell? ⟨wr.heap.size+1,1,none⟩=some (.int .i64 dy)/\w6.cell? ⟨wr.heap.size,6,none⟩=some (.int .i64 nu)/\w6.cell? ⟨wr.heap.size,7,none⟩=some (.int .i64 de)/\(Instr.lookup 248 (.map (some w.heap.size)) (.agg #[.string pl,.int .i64 dy]) false).run Tryz.prog w6=.ok (.int .i64 0) w6)):=by
     have h1:=(sy wr.heap.size MbC MbC).trans nF;have h2:=(sy (wr.heap.size+1) MbC MbC).trans sF;refine .inr ⟨by simp only[World.cell?,h2];rfl,by simp only[World.cell?,h2];rfl,by simp only[World.cell?,h1];rfl,by simp only[World.cell?,h1];rfl,?_⟩;have:=zbh mapPV dV.mapAt (pl,dy);exact MaR
    obtain⟨w7,rg,mG,iZ,zt⟩:=zdk (P:=Tryz.prog) dV cN 248 (.int .i64 (nu*q));rw[iH]at mG;have Dl:w5.heap.size<=w7.heap.size:=Nat.le_of_eq (zt.trans zr).symm;have xF:∀j,j<w5.heap.size->j≠w.heap.size->w7.heap[j]?=w5.heap[j]?:=fun j hj ag=>(iZ.block j (by have:w5.drew.heap.size=w5.heap.size:=rfl;omega) (by simpa using ag)).trans (sy j hj ag)
    have CB:(Instr.lookup 248 (.map (some w.heap.size)) (.agg #[.string pl,.int .i64 dy]) false).run Tryz.prog w7=.ok (.int .i64 (nu*q)) w7:=by
     have:=zbh mapPV mG.at (pl,dy);exact MaR
    have xT:=(xF (wr.heap.size+1) MbC MbC).trans sF;obtain⟨j0,j1⟩:=cF2 xT;have xA:Below w.heap.size w w7:=zaF (zaF (zaI cA.o) aP MbC) iZ MbC;have cu:=zHi xA;clear xA mG xF sy iZ aP xT;refine zbS 14 (fun bb w'=>bb=true\/(w'.cell? ⟨wr.heap.size+1,0,none⟩=some (.string pl)/\w'.cell? ⟨wr.heap.size+1,1,none⟩=some (.int .i64 dy)/\w'.cell? ⟨wr.heap.size,6,none⟩=some (.int .i64 nu)/\w'.cell? ⟨wr.heap.size,7,none⟩=some (.int .i64 de)/\(Instr.lookup 248 (.map (some w.heap.size)) (.agg #[.string pl,.int .i64 dy]) false).run Tryz.prog w'=.ok (.int .i64 0) w')) MbE rA ?hrest
    case hrest=>
     intro hHeld;refine TkM 0 ?_;refine TkM 1 ?_;refine TkM 2 ?_;refine TkM 3 ?_;refine TkM 4 ?_;refine TkM 5 ?_;refine TkM 6 ?_;refine TkM 7 ?_;refine TkM 8 ?_;refine TkM 9 ?_;refine TkM 10 ?_;refine TkM 11 ?_;refine OnM 12 false fun K hK=>?_
     refine zfO rfl _ _ rfl _ _ _ rfl rfl w6 nW ?_;refine NxM hK (fun hHeld=>?_) (mT);clear hK K;refine OnM 13 false fun K hK=>?_
     go_simp
     refine NxM hK (fun hHeld=>?_) (mT);clear hK K;refine OnM 14 true fun K hK=>?_
     refine zeO rfl _ _ _ rfl _ _ _ rfl rfl rfl w7 rg ?_;refine NxM hK fun hHeld=>?_
     clear hK K;refine zcF MbE ?_ _;clear hHeld rg nW rA mT dV iH cN nF sF hS5 nO;go_wp2_with fail
     go_round
     case rel=>exact⟨1,by omega,by go_num,fun h=>absurd h MbD,cu.o,by omega⟩
     case measure=>simp only[intOf];omega
  ·have ao:¬(k:Int)<1:=MbC;clear hB hm;exact Ma1
theorem zlf(l:List Rec)(A:Option Addr)(c:Nat)(w:World)(hc:l.length<=c)(hl:l.length<=1000)(h0:∀x∈l,0<=x.kind/\x.kind<=4)(h2:∀x∈l,x.kind≠2)
 (h3:(∀x∈l,x.kind≠3)\/∃nm ot pl dy tl nu de q,l=[⟨3,nm,ot,pl,dy,tl,nu,de⟩]/\Int.tdiv 27720 de=q/\¬de=0/\(0<=q/\q<=27720)/\(0<=nu*q/\nu*q<=27720))(hS:Sl w 8 Rec.cells A l):
 Calls Tryz.prog 111 #[.slice A l.length c] w (Ret w (.bool (zi2 l))):=by
 have h:=zhL l A c false false w hc hl h0 hS (fun W hB=>zkZ l A c W hc hl h2 (hS.keep hB)) (fun W hB=>by
  rcases h3 with h3|⟨nm,ot,pl,dy,tl,nu,de,q,rfl,e1,e2,e3,e4⟩
  ·exact zjW l A c W hc hl h3 (hS.keep hB)
  ·exact zkg nm ot pl dy tl nu de q A c W hc e1 e2 e3 e4 (hS.keep hB))
 rw[Bool.or_false,Bool.or_false]at h;exact h
theorem lens5:recLens zer:=by
 intro x hx;simp only[zer,List.mem_cons,List.not_mem_nil,or_false]at hx;rcases hx with rfl|rfl|rfl|rfl|rfl<;>exact⟨by decide,by decide,by decide⟩
def Con5(w:World)(xs:List Nat)(b:Bool):Prop:= ∀W,Below w.heap.size w W->∀A c,(ofP zer xs).length<=c->Sl W 8 Rec.cells A (ofP zer xs)->Calls Tryz.prog 111 #[.slice A (ofP zer xs).length c] W (Ret W (.bool b))
theorem con5_low{w:World}{k:Nat}(h:k<6):Con5 w (zcz 5 k) (k==5):=fun W hB A c hc hS=>by
 have aE:∀k<6,(ofP zer (zcz 5 k)).all (fun x=>decide (0<=x.kind)&&decide (x.kind<=4)&&x.kind != 2&&x.kind != 3)=true/\zi2 (ofP zer (zcz 5 k))=(k==5)/\(ofP zer (zcz 5 k)).length<=1000:=by decide+kernel
 obtain⟨e1,e2,e3⟩:=aE k h;rw[List.all_eq_true]at e1;have h:=zlf (ofP zer (zcz 5 k)) A c W hc e3 (fun x hx=>by have:=e1 x hx;simp at this;omega) (fun x hx=>by have:=e1 x hx;simp at this;omega) (.inl fun x hx=>by have:=e1 x hx;simp at this;omega) hS;rw[e2]at h;exact h
theorem con5_one{w:World}{xs:List Nat}(h:xs=[3]\/xs=[4]):Con5 w xs false:=fun W hB A c hc hS=>by
 rcases h with rfl|rfl
 ·exact zlf (ofP zer [3]) A c W hc MbD MbD MbD (.inr ⟨_,_,_,_,_,_,_,13860,rfl,by decide,by decide,by decide,by decide⟩) hS
 ·exact zlf (ofP zer [4]) A c W hc MbD MbD MbD (.inr ⟨_,_,_,_,_,_,_,9240,rfl,by decide,by decide,by decide,by decide⟩) hS
theorem bits5:∀k,k<32->6<=k->2<(zcz 5 k).length\/((zcz 5 k).length=2/\0<lexC (zcz 5 k) [0,2])\/zcz 5 k=[3]\/zcz 5 k=[4]:=by decide+kernel
theorem bits5_in:∀k,k<32->((zcz 5 k).length<=5/\∀i∈zcz 5 k,i<5):=by decide+kernel
theorem neqA(W:World):(binOp .neq 102 (.slice none 0 0) (.slice none 0 0)).run Tryz.prog W=.ok (.bool false) W:=by kernel_rfl
theorem neqB(a:Addr)(n c:Nat)(W:World):(binOp .neq 102 (.slice (some a) n c) (.slice none 0 0)).run Tryz.prog W=.ok (.bool true) W:=by kernel_rfl
theorem eqlB(a:Addr)(n c:Nat)(W:World):(binOp .eql 102 (.slice (some a) n c) (.slice none 0 0)).run Tryz.prog W=.ok (.bool false) W:=by kernel_rfl
def zfV(w:World)(e:Ending)(w':World):Prop:= ∃A c,e=.returned (.tuple #[.slice A 2 c,.int .i64 0])/\2<=c/\Sl w' 1 intC A [0,2]/\Below w.heap.size w w'
def Best5(W:World)(base k:Nat)(v:Value):Prop:=(k<=5/\v=.slice none 0 0)\/(6<=k/\OwnS W base 3 1 intC v [0,2])
theorem Best5.keep{W W':World}{base k n:Nat}{v:Value}(h:Best5 W base k v)(hB:Below n W W')(hn:W.heap.size<=n:=by first|exact Nat.le_refl _|omega):Best5 W' base k v:=h.imp id fun⟨a,b⟩=>⟨a,b.keep hB hn⟩
theorem zmL(A:Option Addr)(c:Nat)(w:World)(hc:5<=c)(hT:TzTab w)(hS:Sl w 8 Rec.cells A zer):Calls Tryz.prog 52 #[.slice A 5 c] w (zfV w):=by
 obtain⟨HS,eL⟩:=yH2 hS (fun W (hB:Below w.heap.size w W)=>zgo zer A 5 c W rfl hc lens5 (hS.keep hB));rw[recs5_ok]at eL;have HT:=zHi hT;clear hS hT;unfold zfV;go_enter Tryz.func52,Tryz.ntmps52
 go_upto_region 8 with(go_at_call 108;go_must(refine(eL.o _ Bw).mono ?_);rintro e wq ⟨rfl,z,rfl⟩)
 go_loopw [5,19] (fun v i wr=>∃k:Nat,k<=32/\i=.int .i64 k/\Best5 wr w.heap.size k v/\Below w.heap.size w wr) (fun _ i _=>32-(intOf i).toNat)
 case atStart=>exact⟨0,Nat.zero_le _,rfl,.inl ⟨by omega,rfl⟩,Bw⟩
 case round=>
  obtain⟨k,hk,rfl,ii,hB⟩:=hrel;have HB:=zHi hB;have aS:=hB.size;by_cases aa:k<32
  ·have dL:=zHi (zjT 5 k wr MbC aa (HT.o.keep hB));obtain⟨bv,aB⟩:=bits5_in k aa;have bx:=bits5 k aa;have cX:=fun(W:World) (h:k<6)=>con5_low (w:=W) h
   have aq:=zHi aa;have ao:(k:Int)<32:=MbC;have iu:k=5->zcz 5 k=[0,2]:=fun e=>by rw[e];decide+kernel
   have rT:=zHi ii;obtain⟨xs,br⟩:∃xs,zcz 5 k=xs:=⟨_,rfl⟩
   rw[br]at dL aB bv bx cX iu;obtain⟨ba,tS,cA,zJ⟩:=yH4 aB cX bx iu;clear hB aa ii br aB cX bx iu;go_upto_region 11 with(go_at_call 109;go_must(refine dL.o.mono ?_);rintro e wq ⟨vx,rfl,wx,wv⟩)
   obtain⟨XA,xc,rfl,uW,ww⟩:=wx.sl zfz;obtain⟨AO,d9,tD⟩:=yH3 (wx.base_le aS) (HB.o.trans (wv.mono aS)) (rT.o.keep wv);have eh:=zHi (fun W (hW:Below wq.heap.size wq W)=>some_any zer xs A c XA xc W hc ww MbC ba.o (HS.o.keep (d9.o.trans (hW.mono d9.o.size))) (uW.keep hW));have si:=zHi uW;rw[show zer.length=5 from rfl]at eh;clear wx uW wv dL;rcases tD.o with⟨qA,hv⟩|⟨cN,ae⟩
   ·subst hv;have fF:=neqA;obtain⟨zX,gV⟩:=yH2 qA (tS.o wq MbC);clear qA;by_cases hk:k=5
    ·subst hk;have hx:=zJ.o rfl;subst hx
     go_wp2_with (first
      |(go_at_call 110;go_must(refine(fZ.o _ Bw).mono ?_);rintro e wq5 ⟨rfl,rfl⟩)
      |(go_at_call 112;go_must(refine(eh.o _ Bw).mono ?_);rintro e w7 ⟨v7,rfl,kJ,aW⟩;obtain⟨A7,c7,rfl,dW,pY⟩:=kJ.sl zf0;obtain⟨cu,pa⟩:=yH2 aW dW;clear kJ aW dW)
      |(go_at_call 111;go_must(refine(gV.o _ cu.o A7 c7 pY pa.o).mono ?_);rintro e wq8 ⟨rfl,z8,rfl⟩))
     go_round
     case rel=>exact⟨6,by omega,by go_num,.inr ⟨Nat.le_refl _,(AO.o.keep cu.o).keep (za5 w7 z8)⟩,d9.o.trans ((cu.o.trans ((za5 w7 z8).mono cu.o.size)).mono (d9.o.size))⟩
     case measure=>simp only[intOf];omega
    ·have vM:(k==5)=false:=by simpa using hk
     rw[vM]at gV;have zW:=zHi (show k+1<=5 by have:=zX.o;omega);clear hk vM;generalize eB:xs.length=nx at*
     go_wp2_with (first
      |(go_at_call 110;go_must(refine(fZ.o _ Bw).mono ?_);rintro e wq5 ⟨rfl,rfl⟩)
      |(go_at_call 112;go_must(refine(eh.o _ Bw).mono ?_);rintro e w7 ⟨v7,rfl,kJ,aW⟩;obtain⟨A7,c7,rfl,dW,pY⟩:=kJ.sl zf0;obtain⟨cu,pa⟩:=yH2 aW dW;clear kJ aW dW)
      |(go_at_call 111;go_must(refine(gV.o _ cu.o A7 c7 pY pa.o).mono ?_);rintro e wq8 ⟨rfl,z8,rfl⟩))
     go_round
     case rel=>exact⟨k+1,aq.o,by go_num,.inl ⟨zW.o,rfl⟩,d9.o.trans ((cu.o.trans ((za5 w7 z8).mono cu.o.size)).mono (d9.o.size))⟩
     case measure=>have:=aq.o;simp only[intOf];omega
   ·obtain⟨SA,sc,rfl,uS,zd⟩:=ae.sl zfz;obtain⟨eO,HK6,oO⟩:=yH3 ae cN (show 6<=k+1 by omega);cases SA with
    |none=>
     exfalso
     obtain⟨b,off,h,_⟩:=uS MbF;cases h
    |some sa=>
     have fF:=neqB sa 2 sc;have fZ:=zHi (fun W (hW:Below wq.heap.size wq W)=>zkR xs [0,2] XA (some sa) xc sc W ww zd MbC (si.o.keep hW) (uS.keep hW));rw[show([0,2]:List Nat).length=2 from rfl]at fZ;have hb:=cA.o cN;clear uS ae cN;rcases hb with h1|⟨h1,h2⟩|h1
     ·have bn:(2:Int)<(xs.length:Int):=MbC;clear h1;generalize eB:xs.length=nx at*;go_wp2_with fail
      exact Maq
     ·have hC:(0:Int)<lexC xs [0,2]:=h2;generalize lexC xs [0,2]=C at*;rw[h1]at fZ ww;have cz:xs.length=2:=h1;clear h1 h2;go_wp2_with (go_at_call 110;go_must(refine(fZ.o _ Bw).mono ?_);rintro e wq5 ⟨rfl,rfl⟩)
      exact Maq
     ·have gV:=zHi (con5_one (w:=wq) h1);have je:xs.length=1:=by rcases h1 with rfl|rfl<;>rfl
      rw[je]at eh;clear h1
      go_wp2_with (first
       |(go_at_call 110;go_must(refine(fZ.o _ Bw).mono ?_);rintro e wq5 ⟨rfl,rfl⟩)
       |(go_at_call 112;go_must(refine(eh.o _ Bw).mono ?_);rintro e w7 ⟨v7,rfl,kJ,aW⟩;obtain⟨A7,c7,rfl,dW,pY⟩:=kJ.sl zf0;obtain⟨cu,pa⟩:=yH2 aW dW;clear kJ aW dW)
       |(go_at_call 111;go_must(refine(gV.o _ cu.o A7 c7 pY pa.o).mono ?_);rintro e wq8 ⟨rfl,z8,rfl⟩))
      go_round
      case rel=>exact⟨k+1,aq.o,by go_num,.inr ⟨oO.o,(eO.o.keep cu.o).keep (za5 w7 z8)⟩,d9.o.trans ((cu.o.trans ((za5 w7 z8).mono cu.o.size)).mono (d9.o.size))⟩
      case measure=>have:=aq.o;simp only[intOf];omega
  ·have ao:¬(k:Int)<32:=MbC;have cN:¬k<=5:=MbC;rcases ii with⟨h1,_⟩|⟨_,ae⟩
   ·exact absurd h1 cN
   ·obtain⟨SA,sc,rfl,h3,h4⟩:=ae.sl zfz;have H3:=zHi h3;cases SA with
    |none=>
     exfalso
     obtain⟨b,off,h,_⟩:=h3 MbF;cases h
    |some sa=>
     have fF:=eqlB sa 2 sc;clear ae h3 hB aa cN;go_wp2_with fail
     go_ret2
     exact⟨some sa,sc,rfl,h4,H3.o,HB.o⟩
def zmM(w:World)(ds:List Deed)(R:St×Nat×Int)(e:Ending)(w':World):Prop:=
 ∃base b la co,e=.returned (.tuple #[.pointer (some ⟨b,0,none⟩),.int .i64 R.2.1,.int .i64 R.2.2])/\w.heap.size<=base/\WldAt base w' b R.1 la co/\Below w.heap.size w w'/\(R.2.2=0->co=(ds.length:Int)/\la=ze7 ds/\GoodSt R.1 la/\FewS ds.length R.1/\ds.length<=60)
theorem zlg(laws:List Law)(ds:List Deed)(upto:Int)(LA:Option Addr)(n nc:Nat)(DA:Option Addr)(m mc:Nat)(w:World)(hR:RightsIn w laws ds LA n nc DA m mc)(hF:FormsIn w)(hL:LensIn w)(hO:∀d∈ds,zdi d)(hup:upto=200000):
 Calls Tryz.prog 36 #[.agg #[.slice LA n nc,.slice DA m mc],.int .i64 upto] w (zmM w ds (zch laws ds upto)):=by
 obtain⟨R,hR⟩:∃R,R=zch laws ds upto:=⟨_,rfl⟩
 rw[<-hR];unfold zch at hR;have HR:=zHi hR;clear hR;obtain⟨rfl,rfl,sZ,qg,dg,i8⟩:=hR;obtain⟨HF,HL,HO,bM,fN⟩:=yH5 hF hL hO dg i8;clear hF hL hO dg i8;go_enter Tryz.func36,Tryz.ntmps36
 go_upto_region 2 with(go_at_call 89;go_must(refine(zf5 _).mono ?_);rintro e wq ⟨rfl,n1,n2,n3⟩;obtain⟨N1,N2,N3⟩:=yH3 n1 n2 n3;clear n1 n2 n3)
 have cP:=wld_new (base:=w.heap.size+1) (w:=w.alloc (.cells #[.slice LA laws.length nc,.slice DA ds.length mc] 25)) (W:=wq) MbF N1.o.symm N2.o;have hsz:=N1.o;simp only[World.size_alloc]at cP hsz;have ax:Below w.heap.size w wq:=Below.trans (zau (Below.refl _ _) _) (N3.o.mono MbF);have ik:wq.heap[w.heap.size]?=some (.cells #[.slice LA laws.length nc,.slice DA ds.length mc] 25):=(N3.o.block _ MbF).trans (za3 _ _ _ rfl);have bu:=zad ik;have bs:∀o,Below w.heap.size w (wq.alloc o):=fun o=>zau ax _ MbC
 have nJ:∀o,(wq.alloc o).heap[w.heap.size]?=some (.cells #[.slice LA laws.length nc,.slice DA ds.length mc] 25):=fun o=>zal ik
 obtain⟨b,hb⟩:∃b,b=wq.heap.size:=⟨_,rfl⟩
 rw[<-hb]at cP⊢;have h2:=bs (.cells #[.map (some (w.heap.size+1+1)),.map (some (w.heap.size+1+1+1)),.map (some (w.heap.size+1+1+1+1)),.slice none 0 0,.map (some (w.heap.size+1+1+1+1+1)),.map (some (w.heap.size+1+1+1+1+1+1)),.slice none 0 0,.int .i64 0,.int .i64 0] 111);have cz:=nJ (.cells #[.map (some (w.heap.size+1+1)),.map (some (w.heap.size+1+1+1)),.map (some (w.heap.size+1+1+1+1)),.slice none 0 0,.map (some (w.heap.size+1+1+1+1+1)),.map (some (w.heap.size+1+1+1+1+1+1)),.slice none 0 0,.int .i64 0,.int .i64 0] 111);clear bs nJ ax ik bu hsz N1 N2 N3 hb;generalize wq.alloc _=W2 at*;obtain⟨lO,b9,aK⟩:=yH3 cP h2 cz;have dr:=zad cz;obtain⟨x0,x1⟩:=cF2 cz;have eL:=zHi (fun W (hB:Below W2.heap.size W2 W)=>zeB laws LA laws.length nc W rfl (bM.o.keep (h2.trans (hB.mono (Nat.le_of_lt dr)))));clear cP h2 cz;by_cases aG:za7 laws=0
 ·rw[aG]at eL HR;have cQ:=zHi aG;clear aG;go_upto_block 0 with(go_at_call 90;go_must(refine(eL.o _ Bw).mono ?_);rintro e wq ⟨rfl,z,rfl⟩)
  clear eL x0 x1;go_cut [9,10,11,25]from 26 (fun _ _ _ _ W=>∃s,Hid (R=(s,ds.length,0))/\∃la co,WldAt (w.heap.size+1) W b s la co/\Below w.heap.size w W/\W.heap[w.heap.size]?=some (.cells #[.slice LA laws.length nc,.slice DA ds.length mc] 25)/\(co=(ds.length:Int)/\la=ze7 ds/\GoodSt s la/\FewS ds.length s/\ds.length<=60))
  case first=>
   go_wp2_with fail
   go_loopw [25] (fun i wr=>∃(k:Nat) (s:St) (last:Int),k<=ds.length/\i=.int .i64 k/\Hid (R=zcO laws upto (ds.drop k) s k last)/\Hid (WldAt (w.heap.size+1) wr b s last k)/\Hid (GoodSt s last)/\Hid (FewS k s)/\k<=60/\Hid (last=ze7 (ds.take k))/\Below w.heap.size w wr/\wr.heap[w.heap.size]?=some (.cells #[.slice LA laws.length nc,.slice DA ds.length mc] 25)) (fun i _=>ds.length-(intOf i).toNat)
   case atStart=>
    refine⟨0,zbf,0,Nat.zero_le _,rfl,?_,lO.o.keep (n:=W2.heap.size) Bw,zec 0,ziU,by omega,zHi rfl,?_,?_⟩
    ·show _=_;rw[HR.o];simp
    ·exact b9.o.trans (Below.mono (B:=W2.heap.size) Bw (Nat.le_of_lt dr))
    ·exact zbZ aK.o
   case round=>
    obtain⟨k,s,last,hk,rfl,HX,HW,HG,iM,cN,tP,hB,hX⟩:=hrel;clear lO b9 aK HR;obtain x0:=cF1 hX;have bT:=zad hX;obtain⟨HB,ki⟩:=yH2 hB hX;by_cases aa:k<ds.length
    ·obtain⟨db,off,cs,hA,C1,⟨B,c,aj,aL,hS⟩,hc⟩:=(fN.o.keep zcX hB).at aa;subst hA aL;have am:=HX.o;rw[List.drop_eq_getElem_cons aa,zcO,<-List.drop_eq_getElem_cons aa]at am;have tQ:=zHi (zm5 aa);have cr:=HO.o ds[k] (List.getElem_mem aa);have im:∀W,Below wr.heap.size wr W->_:=fun W hW=>zdw ds[k] B c W (HF.o.keep (hB.trans (hW.mono (Nat.le_of_lt bT)))) cr aj (hS.keep hW)
     have aD:∀W,Below wr.heap.size wr W->OkD ds[k]->_:=fun W hW hd=>ziX (w.heap.size+1) b s k last laws LA nc ds[k] B c W (HW.o.keep hW) HG.o iM.o hd cQ.o (HL.o.keep (hB.trans (hW.mono (Nat.le_of_lt bT)))) (bM.o.keep (hB.trans (hW.mono (Nat.le_of_lt bT)))) aj (hS.keep hW)
     rw[zdR]at im;obtain⟨aq,kZ,bO,dX,cR⟩:=yH5 aa (show k+(ds.drop k).length=ds.length by rw[List.length_drop];omega) am im aD;generalize ds[k]=d at*;clear am cr im aD hX hB hS;have aC:OkD d->(zcH laws s k last d).2=0->k<60/\GoodSt (zcH laws s k last d).1 d.day/\FewS (k+1) (zcH laws s k last d).1:=fun hd h=>ziZ h hd HG.o iM.o cQ.o
     have fx:za8 d=0->OkD d:=zdv;have jN:=fun h=>zkc (laws:=laws) (s:=s) (co:=k) (last:=last) (d:=d) h
     obtain⟨kd,dy,pl,fr,ts,cl,yr⟩:=d;have i0:wr.cell? ⟨db,off+k*7,none⟩=some (.int .i64 kd):=hc 0 _ rfl;have i1:wr.cell? ⟨db,off+k*7+1,none⟩=some (.int .i64 dy):=hc 1 _ rfl;have i2:wr.cell? ⟨db,off+k*7+2,none⟩=some (.string pl):=hc 2 _ rfl;have i3:wr.cell? ⟨db,off+k*7+3,none⟩=some (.string fr):=hc 3 _ rfl;have i4:wr.cell? ⟨db,off+k*7+4,none⟩=some (.slice B ts.length c):=hc 4 _ rfl;have i5:wr.cell? ⟨db,off+k*7+5,none⟩=some (.int .i64 cl):=hc 5 _ rfl;have i6:wr.cell? ⟨db,off+k*7+6,none⟩=some (.int .i64 yr):=hc 6 _ rfl;have ao:(k:Int)<(ds.length:Int):=MbC;have bf:(0:Int)<=(k:Int):=MbC;have Cv:(k:Int)<=(mc:Int):=MbC;have jd:w.heap.size≠wr.heap.size:=MbC;unfold Deed.v at cR;simp only at jN aC cR bO;clear hc;by_cases hce:za8 ⟨kd,dy,pl,fr,ts,cl,yr⟩=0
     ·have iB:=fx hce;have am:=bO.o;rw[hce,jN hce]at am;rw[hce]at dX;have fD:=aC iB;have ir:=fun h=>zkb (laws:=laws) (s:=s) (d:=⟨kd,dy,pl,fr,ts,cl,yr⟩) (co:=k) (last:=last) h
      have dD:=zHi (fun W hW=>cR.o W hW iB);have mx:=iB.day.2;clear bO cR jN aC fx iB;generalize zcH laws s k last ⟨kd,dy,pl,fr,ts,cl,yr⟩=x at*;generalize za8 ⟨kd,dy,pl,fr,ts,cl,yr⟩=ce at*;obtain⟨s',er⟩:=x;by_cases cG:upto<dy
      ·exact absurd cG (by simp only at mx;omega)
      ·have bC:R=if(er != 0)=true then(s,k,er)else zcO laws upto (ds.drop (k+1)) s' (k+1) dy:=by rw[am,if_neg (by simp[cG])]
       have dA:=zHi bC;have io:=dX.o;clear am bC kZ;by_cases h0:er=0
       ·subst h0;obtain⟨fC,jw,pw⟩:=fD rfl;obtain⟨dM,ox⟩:=yH2 jw pw;have fW:=wrap_k (k:=k) (Nat.lt_trans fC MbD);have nZ:=zlb (k:=k) (Nat.lt_trans fC MbD);clear fD ir jw pw io
        go_wp2_with (first
         |(go_at_call 37;go_must(refine(dX.o _ Bw).mono ?_);rintro e wq ⟨rfl,z,rfl⟩)
         |(go_at_call 38
           go_must(refine(dD.o _ Bw).mono ?_)
           rintro e wq ⟨rfl,t1,t2⟩;simp only[if_true]at t1;have T1:=zHi t1;have au:Below w.heap.size w wq:=(HB.o.trans (Below.mono (B:=wr.heap.size) Bw (Nat.le_of_lt bT))).trans (t2.mono (Nat.le_succ _));have rR:=(t2.block w.heap.size (Nat.lt_succ_self _)).trans (show _=some (.cells #[.slice LA laws.length nc,.slice (some ⟨db,off,none⟩) ds.length mc] 25) from by have hX:=ki.o;repeat(first|assumption|with_reducible refine zal ?_|with_reducible refine zbZ ?_|with_reducible refine J_ne MbC ?_));obtain⟨aM,ut⟩:=yH2 au rR
           clear t1 t2 au rR))
        go_round
        case rel=>
         clear fW nZ;refine⟨k+1,s',dy,aq.o,by go_num,?_,T1.o,dM.o,ox.o,fC,zHi tQ.o.symm,aM.o,ut.o⟩;show _=_;rw[dA.o];simp
        case measure=>clear fW nZ;have:=aq.o;simp only[intOf];omega
       ·have hs:=ir h0;simp only at hs;subst hs;have aX:Hid (R=(s',k,er)):=by
         show _=_;rw[dA.o,if_pos Mcf]
        clear fD ir dA io
        go_wp2_with (first
         |(go_at_call 37;go_must(refine(dX.o _ Bw).mono ?_);rintro e wq ⟨rfl,z,rfl⟩)
         |(go_at_call 38
           go_must(refine(dD.o _ Bw).mono ?_)
           rintro e wq ⟨rfl,t1,t2⟩;have T1:=zHi t1;have au:Below w.heap.size w wq:=(HB.o.trans (Below.mono (B:=wr.heap.size) Bw (Nat.le_of_lt bT))).trans (t2.mono (Nat.le_succ _));have aM:=zHi au
           clear t1 t2 au))
        go_ret3
        rw[aX.o];exact⟨w.heap.size+1,b,_,_,rfl,by omega,T1.o,aM.o,fun h=>absurd h h0⟩
     ·have ag:(zb4 laws s k last ⟨kd,dy,pl,fr,ts,cl,yr⟩)=(s,za8 ⟨kd,dy,pl,fr,ts,cl,yr⟩):=by
       unfold zb4;rw[if_pos McP]
      have am:=bO.o;rw[ag]at am;generalize za8 ⟨kd,dy,pl,fr,ts,cl,yr⟩=ce at*;have aX:Hid (R=(s,k,ce)):=by
       show _=_;rw[am,if_neg (by simp[hce]),if_pos McP]
      clear am ag bO cR jN aC fx kZ;go_wp2_with (go_at_call 37;go_must(refine(dX.o _ Bw).mono ?_);rintro e wq ⟨rfl,z,rfl⟩)
      go_ret3
      rw[aX.o];exact⟨w.heap.size+1,b,last,k,rfl,by omega,HW.o.keep (n:=wr.heap.size) Bw,HB.o.trans (Below.mono (B:=wr.heap.size) Bw MbC),fun h=>absurd h hce⟩
    ·have ao:¬(k:Int)<(ds.length:Int):=MbC;have hx:=HX.o;rw[List.drop_eq_nil_of_le MbC,zcO]at hx;have nQ:k=ds.length:=MbC;have aX:Hid (R=(s,ds.length,0)):=by show _=_;rw[hx,nQ]
     have jH:=nQ;clear hx nQ hX hB;go_wp2_with fail
     go_meet
     exact⟨s,aX.o,last,k,HW.o,HB.o,ki.o,by rw[jH],by rw[tP.o,jH,List.take_length],HG.o,jH▸iM.o,jH▸cN⟩
  case rest=>
   obtain⟨s,aX,la,co,hW,hB,hX,hg⟩:=hcut;obtain⟨-,x1⟩:=cF2 hX;have bT:=zad hX;obtain⟨HW,HB⟩:=yH2 hW hB;clear hW hB hX;go_upto_region 15 with fail
   go_quiet (fail)
   go_wp2_with fail
   go_ret3
   rw[aX.o];exact⟨w.heap.size+1,b,la,co,rfl,by omega,HW.o.keep (n:=wc.heap.size) Bw,HB.o.trans (Below.mono (B:=wc.heap.size) Bw MbC),fun _=>hg⟩
 ·generalize za7 laws=er at*;have ag:(er != 0)=true:=by simpa using aG
  have aX:Hid (R=(zbf,0,er)):=by show _=_;rw[HR.o,if_pos ag]
  clear HR;go_wp2_with (go_at_call 90;go_must(refine(eL.o _ Bw).mono ?_);rintro e wq ⟨rfl,z,rfl⟩)
  go_ret3
  rw[aX.o];exact⟨w.heap.size+1,b,0,0,rfl,by omega,lO.o.keep (n:=W2.heap.size) Bw,b9.o.trans (Below.mono (B:=W2.heap.size) Bw MbC),fun h=>absurd h aG⟩
theorem zlh(d:Deed)(B:Option Addr)(c:Nat)(w:World)(hl:d.to.length<=100000)(hS:Sl w 3 RPart.cells B d.to):Calls Tryz.prog 41 #[d.v B c] w (zg5 w d):=by
 obtain⟨kd,dy,pl,fr,ts,cl,yr⟩:=d;have HS:=zHi hS;unfold zg5 Deed.v;simp only at hl hS⊢;clear hS;go_enter Tryz.func41,Tryz.ntmps41
 go_upto_region 1 with fail
 obtain⟨W1,aV⟩:∃W1,W1=(w.alloc (.cells #[.int .i64 kd,.int .i64 dy,.string pl,.string fr,.slice B ts.length c,.int .i64 cl,.int .i64 yr] 28)).alloc (.cells #[.int .i64 0,.int .i64 0,.string ⟨#[]⟩,.string ⟨#[]⟩,.slice none 0 0,.int .i64 0,.int .i64 0] 28):=⟨_,rfl⟩
 have b0:W1.heap[w.heap.size]?=some (.cells #[.int .i64 kd,.int .i64 dy,.string pl,.string fr,.slice B ts.length c,.int .i64 cl,.int .i64 yr] 28):=Mcl;have r0:W1.heap[w.heap.size+1]?=some (.cells #[.int .i64 0,.int .i64 0,.string ⟨#[]⟩,.string ⟨#[]⟩,.slice none 0 0,.int .i64 0,.int .i64 0] 28):=by rw[aV];exact za3 _ _ _ MbF
 have bo:Below w.heap.size w W1:=Mcz;rw[<-aV];have bl:=zHi bo;have eG:=bo.size;clear aV;have l0:=zad b0;have l1:=zad r0;obtain⟨-,-,-,-,c4⟩:=cF5 b0;have bj:=zHi (zhK ts B ts.length c W1 rfl hl (HS.o.keep bo));clear bo
 go_upto_region 2 with(go_at_call 68
                       go_must(refine bj.o.mono ?_)
                       rintro e w2 ⟨v2,rfl,o2,cw⟩;have e1:w2.heap[w.heap.size]?=_:=(cw.block w.heap.size l0).trans b0;have e2:w2.heap[w.heap.size+1]?=_:=(cw.block (w.heap.size+1) l1).trans r0;obtain⟨A2,c2,rfl,bY,s2⟩:=o2.ro;have f4:w2.frozen? ⟨w.heap.size,4,none⟩=false:=by simp[World.frozen?,e1]
                       obtain⟨-,-,-,-,k4⟩:=cF5 e1
                       clear o2)
 exact Mj
structure PartsOk (l:Parts):Prop where
 good:GoodParts l
 small:zaC l=false
 one:l=[]\/sumQ l=1
theorem PartsOk.nil:PartsOk []:=⟨zcU,rfl,.inl rfl⟩
theorem on_stop{laws:List Law}{ds:List Deed}{names:List ByteArray}{day:Int}(h:zck laws ds names day=0):(zch laws ds 200000).2.2=0/\zbu day=true:=by
 unfold zck at h;split at h
 ·rename_i h1
  rw[h]at h1;simp at h1
 ·rename_i h1
  refine⟨by simpa using h1,?_⟩;split at h
  ·cases h
  ·split at h
   ·cases h
   ·rename_i h2
    simpa using h2
theorem zh6{laws:List Law}{ds:List Deed}{names:List ByteArray}{day:Int}(h:zck laws ds names day=0):∃last,GoodSt (zaz laws ds day).1 last:=by
 have aG:=on_laws h;obtain⟨h1,h2⟩:=on_stop h;have h0:0<=day:=by
  unfold zbu inR at h2;simp at h2;omega
 obtain⟨b,_,hg⟩:=zjC (laws:=laws) (upto:=day) aG (ds:=ds) (s:=zbf) (k:=0) (last:=0) (zec 0) h0;refine⟨b,?_⟩;rw[<-(zfT h1 day).1];unfold zch;rw[if_neg McT];exact hg
theorem zix{s:St}{last:Int}(h:GoodSt s last)(place:ByteArray)(day:Int):PartsOk (zbn s place day):=by
 unfold zbn;cases hx:zaH s place day with
 |none=>exact PartsOk.nil
 |some i=>
  obtain⟨g,hg,_,_⟩:=zbv hx;have e:s.graves.getD i ze6=g:=by rw[List.getD_eq_getElem?_getD,hg];rfl
  have k:=h.graves g (List.mem_of_getElem? hg);simp only[e];exact⟨k.good,k.small,k.one⟩
theorem ziy{M:Rat}:∀ {l:Parts},(∀p∈l,0<p.2/\((p.2.den:Int):Rat)<=M)->(l.length:Rat)<=M*sumQ l
 | [],_=>by simp[sumQ]
 |p::l,h=>by
  have ih:=ziy (l:=l) fun q hq=>h q (List.mem_cons_of_mem _ hq)
  obtain⟨h0,h1⟩:=h p List.mem_cons_self;have hn:=num_pos h0;have hd:((p.2.den:Int):Rat)≠0:=by
   intro e;have k:(p.2.den:Int)=0:=by exact_mod_cast e
   have:=p.2.den_pos;omega
  have e0:p.2=(p.2.num:Rat)/((p.2.den:Int):Rat):=by rw[<-Rat.divInt_eq_div];exact(Rat.num_divInt_den p.2).symm
  have e1:((1:Int):Rat)<=(p.2.num:Rat):=Rat.intCast_le_intCast.2 hn;have e1':(1:Rat)<=(p.2.num:Rat):=e1;have e:p.2*((p.2.den:Int):Rat)=(p.2.num:Rat):=by
   generalize((p.2.den:Int):Rat)=y at*;generalize(p.2.num:Rat)=x at*;rw[e0];grind
  have e3:p.2*((p.2.den:Int):Rat)<=p.2*M:=Rat.mul_le_mul_of_nonneg_left h1 MbV;rw[List.length_cons,sumQ];have e4:((l.length+1:Nat):Rat)=(l.length:Rat)+1:=MbF;rw[e4];generalize(l.length:Rat)=L at*;generalize sumQ l=S at*;generalize((p.2.den:Int):Rat)=y at*;generalize(p.2.num:Rat)=x at*;grind
theorem PartsOk.parts{l:Parts}(h:PartsOk l):(∀p∈l,0<p.2/\p.2<=1/\(p.2.den:Int)<=1000000000)/\sumQ l<=1/\l.length<=1000000000:=by
 have hs:sumQ l<=1:=by
  rcases h.one with e|e
  ·rw[e,sumQ];decide
  ·rw[e];exact Rat.le_refl
 have hp:=part_le h.good.pos hs;have hd:=not_large h.small;refine⟨fun p hm=>⟨h.good.pos p hm,hp p hm,hd p hm⟩,hs,?_⟩;obtain⟨M,hM⟩:∃M:Int,M=1000000000:=⟨_,rfl⟩
 have k:=ziy (M:=(M:Rat)) (l:=l) fun p hm=>⟨h.good.pos p hm,Rat.intCast_le_intCast.2 (by rw[hM];exact hd p hm)⟩
 have Bn:(0:Rat)<=(M:Rat):=by
  have:((0:Int):Rat)<=(M:Rat):=Rat.intCast_le_intCast.2 MbC;exact this
 have k1:(M:Rat)*sumQ l<=(M:Rat)*1:=Rat.mul_le_mul_of_nonneg_left hs Bn;have k2:(((l.length:Int)):Rat)<=(M:Rat):=by
  rw[Rat.intCast_natCast];grind
 have k3:=Rat.intCast_le_intCast.1 k2;omega
