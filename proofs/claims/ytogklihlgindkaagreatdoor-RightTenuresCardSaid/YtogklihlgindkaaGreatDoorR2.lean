import Derived.Shelf.SortG.Plain
import Derived.Shelf.SortG.SortNone
import Derived.Shelf.SlicesG.CompactI
import Derived.Lib.RowBridge
import Derived.Test.YtogklihlgindkaaGreatDoorWX
set_option linter.all false
set_option maxRecDepth 100000
set_option maxHeartbeats 4000000
namespace Go.Proofs.YtogklihlgindkaaGreatDoor
open Go.RowKit
attribute [local go_sem] World.cell?_alloc_mark zaf za3 zam za6 zat zau zav zaw zax zay zaz
section
open Go.Shelf
attribute [local go_sem] zao zac
def znC(l:List Rec)(A:Option Addr)(c:Nat)(w:World)(hc:l.length<=c)(hl:l.length<=1000)(hk:∀x∈l,x.kind≠2)(hS:Sl w 8 Rec.cells A l):
 Calls Tryz.prog 71 #[.slice A l.length c] w (Ret w (.bool false)):=by
 have dj:= @run_makeMap Tryz.prog;obtain⟨HS,HK⟩:=yH2 hS hk;clear hS hk;go_enter Tryz.func71,Tryz.ntmps71
 go_upto_region 3 with fail
 clear dj;go_loopw [13] (λi wr=>∃k:Nat,k<=l.length/\i=.int .i64 k/\MapS wr w.heap.size ekS (λv:Value=>v) ([]:List (ByteArray×Value))/\Qa w wr) (λi _=>l.length-(intOf i).toNat)
 case atStart=>exact⟨0,Nat.zero_le _,rfl,MapS.new w,Bw⟩
 case round=>
  obtain⟨k,hk,rfl,hm,hB⟩:=hrel;have HB:=zHi hB;have aM:=hB.size;by_cases ae:k<l.length
  ·obtain⟨b,off,hA,hb,ah⟩:=(HS.o.keep hB).at ae;have ck:=HK.o _ (List.getElem_mem ae);have aj:=zHi ae;generalize l[k]=x at*;obtain⟨kd,nm,ot,pl,dy,tl,nu,de⟩:=x;have i0:wr.cell? ⟨b,off+k*8,none⟩=some (.int .i64 kd):=ah 0 _ rfl;have i1:wr.cell? ⟨b,off+k*8+1,none⟩=some (.string nm):=ah 1 _ rfl;have i2:wr.cell? ⟨b,off+k*8+2,none⟩=some (.string ot):=ah 2 _ rfl;have i3:wr.cell? ⟨b,off+k*8+3,none⟩=some (.string pl):=ah 3 _ rfl;have i4:wr.cell? ⟨b,off+k*8+4,none⟩=some (.int .i64 dy):=ah 4 _ rfl;have i5:wr.cell? ⟨b,off+k*8+5,none⟩=some (.int .i64 tl):=ah 5 _ rfl;have i6:wr.cell? ⟨b,off+k*8+6,none⟩=some (.int .i64 nu):=ah 6 _ rfl;have i7:wr.cell? ⟨b,off+k*8+7,none⟩=some (.int .i64 de):=ah 7 _ rfl;have au:(k:Int)<(l.length:Int):=McS;have aR:(0:Int)<=(k:Int):=McS;have fZ:(k:Int)<=(c:Int):=McS;simp only at ck;have HM:=zHi hm;subst hA;clear ah hm hB ae;go_wp2_with fail
   go_round
   case rel=>exact⟨k+1,aj.o,by go_num,HM.o.below (n:=wr.heap.size) Bw,HB.o.trans (Below.mono (B:=wr.heap.size) Bw aM)⟩
   case measure=>have:=aj.o;simp only[intOf];omega
  ·have au:¬(k:Int)<(l.length:Int):=McS;obtain⟨W1,rfl⟩:∃x,x=wr:=⟨_,rfl⟩
   have hIs:w.heap.size<W1.heap.size:=hm.at.lt;obtain⟨EG,wR⟩:=zjF (P:=Tryz.prog) hm (t:=67) Tryz.underlying67;generalize hm.choose_spec.choose=cc at*;generalize hm.choose=ce at*;have Cc:=zHi wR;clear wR hB hm ae;go_upto_region 9 with fail
   clear EG;go_loopg [6] 1 (λgg v wr=>RangeAt wr w.heap.size W1.heap.size ekS (λv:Value=>v) ([]:List (ByteArray×Value)) []/\Qa W1 wr/\0<gg)
   case atStart=>exact⟨Cc.o,Bw,by omega⟩
   case round=>
    obtain⟨tq,cV,bh⟩:=hrel;rcases zlp (P:=Tryz.prog) tq 0 with⟨h0,hrun⟩|⟨i,p,w',hi,_⟩
    ·have qK:=zHi (HB.o.trans (cV.mono HB.o.size));clear tq h0;go_wp2_with fail
     go_ret
     exact Ret.of rfl (qK.o.trans (Below.mono Bw qK.o.size))
    ·simp at hi
def zmw(l:List Rec)(A:Option Addr)(c:Nat)(w:World)(hc:l.length<=c)(hl:l.length<=1000)(hk:∀x∈l,x.kind≠3)(hS:Sl w 8 Rec.cells A l):
 Calls Tryz.prog 72 #[.slice A l.length c] w (Ret w (.bool false)):=by
 have dj:= @run_makeMap Tryz.prog;obtain⟨HS,HK⟩:=yH2 hS hk;clear hS hk;go_enter Tryz.func72,Tryz.ntmps72
 go_upto_region 4 with fail
 clear dj;go_loopw [12] (λi wr=>∃k:Nat,k<=l.length/\i=.int .i64 k/\Qa w wr) (λi _=>l.length-(intOf i).toNat)
 case atStart=>exact⟨0,Nat.zero_le _,rfl,Bw⟩
 case round=>
  obtain⟨k,hk,rfl,hB⟩:=hrel;have HB:=zHi hB;have aM:=hB.size;by_cases ae:k<l.length
  ·obtain⟨b,off,hA,hb,ah⟩:=(HS.o.keep hB).at ae;have ck:=HK.o _ (List.getElem_mem ae);have aj:=zHi ae;generalize l[k]=x at*;obtain⟨kd,nm,ot,pl,dy,tl,nu,de⟩:=x;have i0:wr.cell? ⟨b,off+k*8,none⟩=some (.int .i64 kd):=ah 0 _ rfl;have i1:wr.cell? ⟨b,off+k*8+1,none⟩=some (.string nm):=ah 1 _ rfl;have i2:wr.cell? ⟨b,off+k*8+2,none⟩=some (.string ot):=ah 2 _ rfl;have i3:wr.cell? ⟨b,off+k*8+3,none⟩=some (.string pl):=ah 3 _ rfl;have i4:wr.cell? ⟨b,off+k*8+4,none⟩=some (.int .i64 dy):=ah 4 _ rfl;have i5:wr.cell? ⟨b,off+k*8+5,none⟩=some (.int .i64 tl):=ah 5 _ rfl;have i6:wr.cell? ⟨b,off+k*8+6,none⟩=some (.int .i64 nu):=ah 6 _ rfl;have i7:wr.cell? ⟨b,off+k*8+7,none⟩=some (.int .i64 de):=ah 7 _ rfl;have au:(k:Int)<(l.length:Int):=McS;have aR:(0:Int)<=(k:Int):=McS;have fZ:(k:Int)<=(c:Int):=McS;simp only at ck;subst hA;clear ah hB ae;obtain⟨WZ,iI⟩:=Qd ((wr.alloc (.cells #[.int .i64 kd,.string nm,.string ot,.string pl,.int .i64 dy,.int .i64 tl,.int .i64 nu,.int .i64 de] 52)).alloc (.cells #[.string pl,.int .i64 dy] 161))
   have z0:WZ.cell? ⟨wr.heap.size,0,none⟩=some (.int .i64 kd):=by rw[iI];simp[go_sem]
   have eI:wr.heap.size+2=WZ.heap.size:=by rw[iI];simp
   have iF:Qa wr WZ:=by rw[iI];exact Bw
   have dN:=zHi (HB.o.trans (iF.mono aM));go_upto_region 7 with fail
   rw[<-iI];clear iI iF i0 i1 i2 i3 i4 i5 i6 i7;go_quiet (fail)
   go_wp2_with fail
   go_round
   case rel=>exact⟨k+1,aj.o,by go_num,zcD dN.o _⟩
   case measure=>have:=aj.o;simp only[intOf];omega
  ·have au:¬(k:Int)<(l.length:Int):=McS;clear hB;exact MbX
def tm_eql(W:World):(binOp .eql 66 (.map none) (.map none)).run Tryz.prog W=.ok (.bool true) W:=by
 kernel_rfl
def zmx(nm ot pl:ByteArray)(dy tl nu de q:Int)(A:Option Addr)(c:Nat)(w:World)(hc:1<=c)(htd:Int.tdiv 27720 de=q)(KW:¬de=0)(hqb:0<=q/\q<=27720)(dg:0<=nu*q/\nu*q<=27720)(hS:Sl w 8 Rec.cells A [⟨3,nm,ot,pl,dy,tl,nu,de⟩]):
 Calls Tryz.prog 72 #[.slice A 1 c] w (Ret w (.bool false)):=by
 have dj:= @run_makeMap Tryz.prog;have HS:=zHi hS;have jU:IntKind.i64.wrap q=q:=Mdv;have zA:IntKind.i64.wrap (nu*q)=nu*q:=Mdv;have ET:IntKind.i64.wrap (0+nu*q)=nu*q:=by rw[Int.zero_add];exact zA
 have hvn:¬27720<nu*q:=McS;clear hS;go_enter Tryz.func72,Tryz.ntmps72
 go_upto_region 4 with fail
 clear dj;go_loopw [12] (λi wr=>∃k:Nat,k<=1/\i=.int .i64 k/\(k=0->MapS wr w.heap.size ekSp (λv:Value=>v) ([]:List (Spot×Value))/\MapS wr (w.heap.size+1) ekSp (λv:Value=>v) ([]:List (Spot×Value)))/\Qa w wr/\w.heap.size+2<=wr.heap.size) (λi _=>1-(intOf i).toNat)
 case atStart=>
  refine⟨0,by omega,rfl,λ_=>⟨(MapS.new w).below (n:=w.heap.size+1) (zad Qb _ McV) McV,?_⟩,Bw,by simp⟩;have:=MapS.new (ek:=ekSp) (ev:=λv:Value=>v) (w.alloc (.map #[] 0));simpa using this
 case round=>
  obtain⟨k,hk,rfl,hm,hB,hsz⟩:=hrel;have HB:=zHi hB;have aM:=hB.size;by_cases ae:k<1
  ·obtain rfl:k=0:=by omega
   obtain⟨ny,te⟩:=hm rfl;obtain⟨b,off,hA,hb,ah⟩:=(HS.o.keep hB).at (k:=0) McV;have i0:wr.cell? ⟨b,off,none⟩=some (.int .i64 3):=Mdk;have i1:wr.cell? ⟨b,off+1,none⟩=some (.string nm):=by have:=ah 1 _ rfl;simpa using this
   have i2:wr.cell? ⟨b,off+2,none⟩=some (.string ot):=by have:=ah 2 _ rfl;simpa using this
   have i3:wr.cell? ⟨b,off+3,none⟩=some (.string pl):=by have:=ah 3 _ rfl;simpa using this
   have i4:wr.cell? ⟨b,off+4,none⟩=some (.int .i64 dy):=by have:=ah 4 _ rfl;simpa using this
   have i5:wr.cell? ⟨b,off+5,none⟩=some (.int .i64 tl):=by have:=ah 5 _ rfl;simpa using this
   have i6:wr.cell? ⟨b,off+6,none⟩=some (.int .i64 nu):=by have:=ah 6 _ rfl;simpa using this
   have i7:wr.cell? ⟨b,off+7,none⟩=some (.int .i64 de):=by have:=ah 7 _ rfl;simpa using this
   have fZ:(0:Int)<=(c:Int):=McS;obtain⟨Fp,ly⟩:=yH2 ny te;subst hA;clear ah ny te hB ae hm;obtain⟨WZ,iI⟩:=Qd ((wr.alloc (.cells #[.int .i64 3,.string nm,.string ot,.string pl,.int .i64 dy,.int .i64 tl,.int .i64 nu,.int .i64 de] 52)).alloc (.cells #[.string pl,.int .i64 dy] 161))
   have iF:Qa wr WZ:=by rw[iI];exact Bw
   have eI:WZ.heap.size=wr.heap.size+2:=by rw[iI];simp
   have z0:WZ.heap[wr.heap.size]?=some (.cells #[.int .i64 3,.string nm,.string ot,.string pl,.int .i64 dy,.int .i64 tl,.int .i64 nu,.int .i64 de] 52):=by rw[iI];exact zal (zas _ _ _ rfl)
   have z1:WZ.heap[wr.heap.size+1]?=some (.cells #[.string pl,.int .i64 dy] 161):=by rw[iI];exact zas _ _ _ McV
   go_upto_region 7 with fail
   rw[<-iI];have dN:=zHi iF;clear iI i0 i1 i2 i3 i4 i5 i6 i7 iF;obtain⟨y0,y1⟩:=cF2 z0;obtain⟨x0,x1⟩:=cF2 z1;obtain⟨Cx,Ah⟩:=yH2 z0 z1;clear z0 z1;have cJ:∀q',(Instr.lookup 159 (.map (some (w.heap.size+1))) (.agg #[.string pl,.int .i64 dy]) false).run Tryz.prog (WZ.drewN q')=.ok (.map none) (WZ.drewN q'):=λq'=>zb4 mapPM (ly.o.keep (w':=WZ.drewN q') (dN.o.block _ ly.o.at.lt)).at (pl,dy)
   have eT:∀q',(Instr.lookup 66 (.map none) (.string nm) false).run Tryz.prog (WZ.drewN q')=.ok (.bool false) (WZ.drewN q'):=λq'=>znu _ _
   have dj:= @run_makeMap Tryz.prog;go_quiet (fail)
   clear eT;have Et:∀W,(binOp .eql 66 (.map none) (.map none)).run Tryz.prog W=.ok (.bool true) W:=tm_eql;have pZ:Qa wr ((WZ.drewN nq).alloc (.map #[] 0)):=dN.o.trans ((zad (zcD Qb _) _ Qc).mono McS);obtain⟨pN,Aj⟩:=yH2 pZ eI;clear pZ eI;go_upto_region 10 with
    (at_mapUpdate
     obtain⟨w1,hrun,ct,bX,eo⟩:=zcv (P:=Tryz.prog) mapPM (ly.o.below pN.o) (pl,dy) (.map (some WZ.heap.size))
     go_loud(refine zdl rfl _ _ _ rfl _ _ _ rfl rfl rfl w1 hrun ?_))
   clear dj cJ Et;have eI:=Aj.o;have za:w1.heap.size=WZ.heap.size+1:=by rw[eo];simp[World.drewN]
   have Gt:((WZ.drewN nq).alloc (.map #[] 0)).heap[WZ.heap.size]?=some (.map #[] 0):=zas _ _ _ (by simp[World.drewN]);have wx:∀j,j<WZ.heap.size+1->j≠w.heap.size+1->w1.heap[j]?=((WZ.drewN nq).alloc (.map #[] 0)).heap[j]?:=λj hj ai=>bX.block j (by simp[World.drewN];exact hj) (by simpa using ai)
   have rY:w1.heap[wr.heap.size]?=_:=(wx _ McS McS).trans ((zal (w:=WZ.drewN nq) Cx.o));have wO:w1.heap[wr.heap.size+1]?=_:=(wx _ McS McS).trans ((zal (w:=WZ.drewN nq) Ah.o));have wS:=Fp.o.keep ((wx w.heap.size McS McS).trans (pN.o.block _ Fp.o.at.lt));have cV:Qa w w1:=zaV ((HB.o.trans (pN.o.mono aM))) bX McS;have CT:MapS w1 WZ.heap.size ekS evB ([]:List (ByteArray×Bool)):=⟨#[],0,(wx _ McS McS).trans Gt,rfl,by simp,by simp⟩
   obtain⟨kk,fw⟩:=Qd WZ.heap.size
   rw[<-fw]at ct CT za eI;have zK:wr.heap.size+2<=kk:=McS;have cf:kk<w1.heap.size:=McS;clear fw eI za;have zh:(false=true\/(w1.drew.cell? ⟨wr.heap.size+1,0,none⟩=some (.string pl)/\w1.drew.cell? ⟨wr.heap.size+1,1,none⟩=some (.int .i64 dy)/\w1.drew.cell? ⟨wr.heap.size,1,none⟩=some (.string nm)/\(Instr.lookup 159 (.map (some (w.heap.size+1))) (.agg #[.string pl,.int .i64 dy]) false).run Tryz.prog w1.drew=.ok (.map (some kk)) w1.drew)):=by
    have h1:w1.drew.heap[wr.heap.size]?=_:=rY;have h2:w1.drew.heap[wr.heap.size+1]?=_:=wO;refine .inr ⟨by simp only[World.cell?,h2];rfl,by simp only[World.cell?,h2];rfl,by simp only[World.cell?,h1];rfl,?_⟩;have:=zb4 mapPM (ct.keep (w':=w1.drew) rfl).at (pl,dy);exact MbL
   obtain⟨w5,nE,_,ob,F2⟩:=zcv (P:=Tryz.prog) zoV (CT.keep (w':=w1.drew) rfl) nm true;have As:∀j,j<kk->w5.heap[j]?=w1.heap[j]?:=λj hj=>ob.block j (by show j<w1.heap.size;omega) McX
   have un:=(As wr.heap.size McS).trans rY;have AA:=(As (wr.heap.size+1) McS).trans wO;have hS5:=wS.keep (As w.heap.size McS);have nW:Qa w w5:=zaV (zaF cV) ob McS;have Ns:w1.heap.size<=w5.heap.size:=Nat.le_of_eq F2.symm;have bf:=zHi nW;clear As ob nW cV CT ct wS rY wO Gt wx eo bX;refine za9 5 (λbb w'=>bb=true\/(w'.cell? ⟨wr.heap.size+1,0,none⟩=some (.string pl)/\w'.cell? ⟨wr.heap.size+1,1,none⟩=some (.int .i64 dy)/\w'.cell? ⟨wr.heap.size,1,none⟩=some (.string nm)/\(Instr.lookup 159 (.map (some (w.heap.size+1))) (.agg #[.string pl,.int .i64 dy]) false).run Tryz.prog w'=.ok (.map (some kk)) w')) McT zh ?hrest
   case hrest=>
    intro hHeld;refine TkM 0 ?_;refine TkM 1 ?_;refine TkM 2 ?_;refine TkM 3 ?_;refine TkM 4 ?_;refine OnM 5 true λK hK=>?_
    refine znv rfl _ _ _ rfl _ _ _ rfl rfl rfl w5 nE ?_;refine NxM hK λhHeld=>?_
    clear hK K;refine zaO McT ?_ _;clear hHeld nE zh F2;go_upto_region 11 with fail
    have zi:(false=true\/(w5.drew.cell? ⟨wr.heap.size+1,0,none⟩=some (.string pl)/\w5.drew.cell? ⟨wr.heap.size+1,1,none⟩=some (.int .i64 dy)/\w5.drew.cell? ⟨wr.heap.size,6,none⟩=some (.int .i64 nu)/\w5.drew.cell? ⟨wr.heap.size,7,none⟩=some (.int .i64 de)/\(Instr.lookup 158 (.map (some w.heap.size)) (.agg #[.string pl,.int .i64 dy]) false).run Tryz.prog w5.drew=.ok (.int .i64 0) w5.drew)):=by
     have h1:w5.drew.heap[wr.heap.size]?=_:=un;have h2:w5.drew.heap[wr.heap.size+1]?=_:=AA;exact .inr ⟨by simp only[World.cell?,h2];rfl,by simp only[World.cell?,h2];rfl,by simp only[World.cell?,h1];rfl,by simp only[World.cell?,h1];rfl,zb4 mapPV (hS5.keep (w':=w5.drew) rfl).at (pl,dy)⟩
    obtain⟨w6,st,jj,eU,ii,nI,fM,bF,Bg⟩:=zkS (P:=Tryz.prog) mapPV (hS5.keep (w':=w5.drew) rfl) (pl,dy);have pa:(mget eqSp (pl,dy) ([]:List (Spot×Value))).getD (.int .i64 0)=.int .i64 0:=rfl;rw[pa]at eU ii nI fM;have At:∀j,j<w5.heap.size->j≠w.heap.size->w6.heap[j]?=w5.heap[j]?:=λj hj ai=>bF.block j hj (by simpa using ai)
    have tt:(false=true\/(w6.cell? ⟨wr.heap.size+1,0,none⟩=some (.string pl)/\w6.cell? ⟨wr.heap.size+1,1,none⟩=some (.int .i64 dy)/\w6.cell? ⟨wr.heap.size,6,none⟩=some (.int .i64 nu)/\w6.cell? ⟨wr.heap.size,7,none⟩=some (.int .i64 de)/\(Instr.lookup 158 (.map (some w.heap.size)) (.agg #[.string pl,.int .i64 dy]) false).run Tryz.prog w6=.ok (.int .i64 0) w6)):=by
     have h1:=(At wr.heap.size McS McS).trans un;have h2:=(At (wr.heap.size+1) McS McS).trans AA;refine .inr ⟨by simp only[World.cell?,h2];rfl,by simp only[World.cell?,h2];rfl,by simp only[World.cell?,h1];rfl,by simp only[World.cell?,h1];rfl,?_⟩;have:=zb4 mapPV ii.mapAt (pl,dy);exact MbL
    obtain⟨w7,yU,ta,od,Iv⟩:=zdT (P:=Tryz.prog) ii fM 158 (.int .i64 (nu*q));rw[nI]at ta;have Nt:w5.heap.size<=w7.heap.size:=Nat.le_of_eq (Iv.trans Bg).symm;have Gb:∀j,j<w5.heap.size->j≠w.heap.size->w7.heap[j]?=w5.heap[j]?:=λj hj ai=>(od.block j (by have:w5.drew.heap.size=w5.heap.size:=rfl;omega) (by simpa using ai)).trans (At j hj ai)
    have Lz:(Instr.lookup 158 (.map (some w.heap.size)) (.agg #[.string pl,.int .i64 dy]) false).run Tryz.prog w7=.ok (.int .i64 (nu*q)) w7:=by
     have:=zb4 mapPV ta.at (pl,dy);exact MbL
    have Gw:=(Gb (wr.heap.size+1) McS McS).trans AA;obtain⟨j0,j1⟩:=cF2 Gw;have FT:Qa w w7:=zaV (zaV (zaF bf.o) bF McS) od McS;have bT:=zHi FT;clear FT ta Gb At od bF Gw;refine za9 14 (λbb w'=>bb=true\/(w'.cell? ⟨wr.heap.size+1,0,none⟩=some (.string pl)/\w'.cell? ⟨wr.heap.size+1,1,none⟩=some (.int .i64 dy)/\w'.cell? ⟨wr.heap.size,6,none⟩=some (.int .i64 nu)/\w'.cell? ⟨wr.heap.size,7,none⟩=some (.int .i64 de)/\(Instr.lookup 158 (.map (some w.heap.size)) (.agg #[.string pl,.int .i64 dy]) false).run Tryz.prog w'=.ok (.int .i64 0) w')) McT zi ?hrest
    case hrest=>
     intro hHeld;refine TkM 0 ?_;refine TkM 1 ?_;refine TkM 2 ?_;refine TkM 3 ?_;refine TkM 4 ?_;refine TkM 5 ?_;refine TkM 6 ?_;refine TkM 7 ?_;refine TkM 8 ?_;refine TkM 9 ?_;refine TkM 10 ?_;refine TkM 11 ?_;refine OnM 12 false λK hK=>?_
     refine zhl rfl _ _ rfl _ _ _ rfl rfl w6 eU ?_;refine NxM hK (λhHeld=>?_) (tt);clear hK K;refine OnM 13 false λK hK=>?_
     go_simp
     refine NxM hK (λhHeld=>?_) (tt);clear hK K;refine OnM 14 true λK hK=>?_
     refine zfX rfl _ _ _ rfl _ _ _ rfl rfl rfl w7 yU ?_;refine NxM hK λhHeld=>?_
     clear hK K;refine zaO McT ?_ _;clear hHeld yU eU zi tt ii nI fM un AA hS5 pa;go_wp2_with fail
     go_round
     case rel=>exact⟨1,by omega,by go_num,λh=>absurd h McU,bT.o,by omega⟩
     case measure=>simp only[intOf];omega
  ·have au:¬(k:Int)<1:=McS;clear hB hm;exact MbX
def znD(l:List Rec)(A:Option Addr)(c:Nat)(w:World)(hc:l.length<=c)(hl:l.length<=1000)(h0:∀x∈l,0<=x.kind/\x.kind<=4)(h2:∀x∈l,x.kind≠2)
 (h3:(∀x∈l,x.kind≠3)\/∃nm ot pl dy tl nu de q,l=[⟨3,nm,ot,pl,dy,tl,nu,de⟩]/\Int.tdiv 27720 de=q/\¬de=0/\(0<=q/\q<=27720)/\(0<=nu*q/\nu*q<=27720))(hS:Sl w 8 Rec.cells A l):
 Calls Tryz.prog 39 #[.slice A l.length c] w (Ret w (.bool (zkq l))):=by
 have h:=zj3 l A c false false w hc hl h0 hS (λW hB=>znC l A c W hc hl h2 (hS.keep hB)) (λW hB=>by
  rcases h3 with h3|⟨nm,ot,pl,dy,tl,nu,de,q,rfl,e1,e2,e3,e4⟩
  ·exact zmw l A c W hc hl h3 (hS.keep hB)
  ·exact zmx nm ot pl dy tl nu de q A c W hc e1 e2 e3 e4 (hS.keep hB))
 rw[Bool.or_false,Bool.or_false]at h;exact h
def lens5:recLens zfq:=by
 intro x hx;simp only[zfq,List.mem_cons,List.not_mem_nil,or_false]at hx;rcases hx with rfl|rfl|rfl|rfl|rfl<;>exact⟨by decide,by decide,by decide⟩
def Con5(w:World)(xs:List Nat)(b:Bool):Prop:= ∀W,Qa w W->∀A c,(ofP zfq xs).length<=c->Sl W 8 Rec.cells A (ofP zfq xs)->Calls Tryz.prog 39 #[.slice A (ofP zfq xs).length c] W (Ret W (.bool b))
def con5_low{w:World}{k:Nat}(h:k<6):Con5 w (zcY 5 k) (k==5):=λW hB A c hc hS=>by
 have aV:∀k<6,(ofP zfq (zcY 5 k)).all (λx=>decide (0<=x.kind)&&decide (x.kind<=4)&&x.kind != 2&&x.kind != 3)=true/\zkq (ofP zfq (zcY 5 k))=(k==5)/\(ofP zfq (zcY 5 k)).length<=1000:=by decide+kernel
 obtain⟨e1,e2,e3⟩:=aV k h;rw[List.all_eq_true]at e1;have h:=znD (ofP zfq (zcY 5 k)) A c W hc e3 (λx hx=>by have:=e1 x hx;simp at this;omega) (λx hx=>by have:=e1 x hx;simp at this;omega) (.inl λx hx=>by have:=e1 x hx;simp at this;omega) hS;rw[e2]at h;exact h
def con5_one{w:World}{xs:List Nat}(h:xs=[3]\/xs=[4]):Con5 w xs false:=λW hB A c hc hS=>by
 rcases h with rfl|rfl
 ·exact znD (ofP zfq [3]) A c W hc McU McU McU (.inr ⟨_,_,_,_,_,_,_,13860,rfl,by decide,by decide,by decide,by decide⟩) hS
 ·exact znD (ofP zfq [4]) A c W hc McU McU McU (.inr ⟨_,_,_,_,_,_,_,9240,rfl,by decide,by decide,by decide,by decide⟩) hS
def bits5:∀k,k<32->6<=k->2<(zcY 5 k).length\/((zcY 5 k).length=2/\0<lexC (zcY 5 k) [0,2])\/zcY 5 k=[3]\/zcY 5 k=[4]:=by decide+kernel
def bits5_in:∀k,k<32->((zcY 5 k).length<=5/\∀i∈zcY 5 k,i<5):=by decide+kernel
def neqA(W:World):(binOp .neq 46 (.slice none 0 0) (.slice none 0 0)).run Tryz.prog W=.ok (.bool false) W:=by kernel_rfl
def neqB(a:Addr)(n c:Nat)(W:World):(binOp .neq 46 (.slice (some a) n c) (.slice none 0 0)).run Tryz.prog W=.ok (.bool true) W:=by kernel_rfl
def eqlB(a:Addr)(n c:Nat)(W:World):(binOp .eql 46 (.slice (some a) n c) (.slice none 0 0)).run Tryz.prog W=.ok (.bool false) W:=by kernel_rfl
def zhs(w:World)(e:Ending)(w':World):Prop:= ∃A c,e=.returned (.tuple #[.slice A 2 c,.int .i64 0])/\2<=c/\Sl w' 1 intC A [0,2]/\Qa w w'
def Best5(W:World)(base k:Nat)(v:Value):Prop:=(k<=5/\v=.slice none 0 0)\/(6<=k/\OwnS W base 3 1 intC v [0,2])
def Best5.keep{W W':World}{base k n:Nat}{v:Value}(h:Best5 W base k v)(hB:Below n W W')(hn:W.heap.size<=n:=by first|exact Qc|omega):Best5 W' base k v:=h.imp id λ⟨a,b⟩=>⟨a,b.keep hB hn⟩
def zpC(A:Option Addr)(c:Nat)(w:World)(hc:5<=c)(hT:TzTab w)(hS:Sl w 8 Rec.cells A zfq):Calls Tryz.prog 14 #[.slice A 5 c] w (zhs w):=by
 obtain⟨HS,jq⟩:=yH2 hS (λW (hB:Qa w W)=>zhD zfq A 5 c W rfl hc lens5 (hS.keep hB));rw[recs5_ok]at jq;have HT:=zHi hT;clear hS hT;unfold zhs;go_enter Tryz.func14,Tryz.ntmps14
 go_upto_region 8 with(go_at_call 36;go_must(refine(jq.o _ Bw).mono ?_);rintro e wq ⟨rfl,z,rfl⟩)
 go_loopw [5,19] (λv i wr=>∃k:Nat,k<=32/\i=.int .i64 k/\Best5 wr w.heap.size k v/\Qa w wr) (λ_ i _=>32-(intOf i).toNat)
 case atStart=>exact⟨0,Nat.zero_le _,rfl,.inl ⟨by omega,rfl⟩,Bw⟩
 case round=>
  obtain⟨k,hk,rfl,mS,hB⟩:=hrel;have HB:=zHi hB;have aM:=hB.size;by_cases ae:k<32
  ·have eX:=zHi (zlX 5 k wr McS ae (HT.o.keep hB));obtain⟨bx,aQ⟩:=bits5_in k ae;have ar:=bits5 k ae;have dP:=λ(W:World) (h:k<6)=>con5_low (w:=W) h
   have aj:=zHi ae;have au:(k:Int)<32:=McS;have mX:k=5->zcY 5 k=[0,2]:=λe=>by rw[e];decide+kernel
   have qK:=zHi mS;obtain⟨xs,br⟩:∃xs,zcY 5 k=xs:=⟨_,rfl⟩
   rw[br]at eX aQ bx ar dP mX;obtain⟨bI,BU,bf,tS⟩:=yH4 aQ dP ar mX;clear hB ae mS br aQ dP ar mX;go_upto_region 11 with(go_at_call 37;go_must(refine eX.o.mono ?_);rintro e wq ⟨vx,rfl,iz,EZ⟩)
   obtain⟨XA,xc,rfl,Dm,uP⟩:=iz.sl zg3;obtain⟨JN,av,Bq⟩:=yH3 (iz.base_le aM) (HB.o.trans (EZ.mono aM)) (qK.o.keep EZ);have iD:=zHi (λW (hW:Qa wq W)=>some_any zfq xs A c XA xc W hc uP McS bI.o (HS.o.keep (av.o.trans (hW.mono av.o.size))) (Dm.keep hW));have bU:=zHi Dm;rw[show zfq.length=5 from rfl]at iD;clear iz Dm EZ eX;rcases Bq.o with⟨om,hv⟩|⟨fM,aa⟩
   ·subst hv;have ix:=neqA;obtain⟨vB,mj⟩:=yH2 om (BU.o wq McS);clear om;by_cases hk:k=5
    ·subst hk;have hx:=tS.o rfl;subst hx
     go_wp2_with (first
      |(go_at_call 38;go_must(refine(kv.o _ Bw).mono ?_);rintro e wq5 ⟨rfl,rfl⟩)
      |(go_at_call 40;go_must(refine(iD.o _ Bw).mono ?_);rintro e w7 ⟨v7,rfl,qu,bj⟩;obtain⟨A7,c7,rfl,jn,xk⟩:=qu.sl zg4;obtain⟨bT,vX⟩:=yH2 bj jn;clear qu bj jn)
      |(go_at_call 39;go_must(refine(mj.o _ bT.o A7 c7 xk vX.o).mono ?_);rintro e wq8 ⟨rfl,z8,rfl⟩))
     go_round
     case rel=>exact⟨6,by omega,by go_num,.inr ⟨Qc,(JN.o.keep bT.o).keep (zan w7 z8)⟩,av.o.trans ((bT.o.trans ((zan w7 z8).mono bT.o.size)).mono (av.o.size))⟩
     case measure=>simp only[intOf];omega
    ·have nk:(k==5)=false:=by simpa using hk
     rw[nk]at mj;have J4:=zHi (show k+1<=5 by have:=vB.o;omega);clear hk nk;generalize jP:xs.length=nx at*
     go_wp2_with (first
      |(go_at_call 38;go_must(refine(kv.o _ Bw).mono ?_);rintro e wq5 ⟨rfl,rfl⟩)
      |(go_at_call 40;go_must(refine(iD.o _ Bw).mono ?_);rintro e w7 ⟨v7,rfl,qu,bj⟩;obtain⟨A7,c7,rfl,jn,xk⟩:=qu.sl zg4;obtain⟨bT,vX⟩:=yH2 bj jn;clear qu bj jn)
      |(go_at_call 39;go_must(refine(mj.o _ bT.o A7 c7 xk vX.o).mono ?_);rintro e wq8 ⟨rfl,z8,rfl⟩))
     go_round
     case rel=>exact⟨k+1,aj.o,by go_num,.inl ⟨J4.o,rfl⟩,av.o.trans ((bT.o.trans ((zan w7 z8).mono bT.o.size)).mono (av.o.size))⟩
     case measure=>have:=aj.o;simp only[intOf];omega
   ·obtain⟨SA,sc,rfl,Da,bY⟩:=aa.sl zg3;obtain⟨cR,HK6,vC⟩:=yH3 aa fM (show 6<=k+1 by omega);cases SA with
    |none=>
     exfalso
     obtain⟨b,off,h,_⟩:=Da McV;cases h
    |some sa=>
     have ix:=neqB sa 2 sc;have kv:=zHi (λW (hW:Qa wq W)=>znq xs [0,2] XA (some sa) xc sc W uP bY McS (bU.o.keep hW) (Da.keep hW));rw[show([0,2]:List Nat).length=2 from rfl]at kv;have hb:=bf.o fM;clear Da aa fM;rcases hb with h1|⟨h1,h2⟩|h1
     ·have bX:(2:Int)<(xs.length:Int):=McS;clear h1;generalize jP:xs.length=nx at*;go_wp2_with fail
      exact Mbg
     ·have hC:(0:Int)<lexC xs [0,2]:=h2;generalize lexC xs [0,2]=C at*;rw[h1]at kv uP;have cP:xs.length=2:=h1;clear h1 h2;go_wp2_with (go_at_call 38;go_must(refine(kv.o _ Bw).mono ?_);rintro e wq5 ⟨rfl,rfl⟩)
      exact Mbg
     ·have mj:=zHi (con5_one (w:=wq) h1);have gD:xs.length=1:=by rcases h1 with rfl|rfl<;>rfl
      rw[gD]at iD;clear h1
      go_wp2_with (first
       |(go_at_call 38;go_must(refine(kv.o _ Bw).mono ?_);rintro e wq5 ⟨rfl,rfl⟩)
       |(go_at_call 40;go_must(refine(iD.o _ Bw).mono ?_);rintro e w7 ⟨v7,rfl,qu,bj⟩;obtain⟨A7,c7,rfl,jn,xk⟩:=qu.sl zg4;obtain⟨bT,vX⟩:=yH2 bj jn;clear qu bj jn)
       |(go_at_call 39;go_must(refine(mj.o _ bT.o A7 c7 xk vX.o).mono ?_);rintro e wq8 ⟨rfl,z8,rfl⟩))
      go_round
      case rel=>exact⟨k+1,aj.o,by go_num,.inr ⟨vC.o,(cR.o.keep bT.o).keep (zan w7 z8)⟩,av.o.trans ((bT.o.trans ((zan w7 z8).mono bT.o.size)).mono (av.o.size))⟩
      case measure=>have:=aj.o;simp only[intOf];omega
  ·have au:¬(k:Int)<32:=McS;have fM:¬k<=5:=McS;rcases mS with⟨h1,_⟩|⟨_,aa⟩
   ·exact absurd h1 fM
   ·obtain⟨SA,sc,rfl,h3,h4⟩:=aa.sl zg3;have H3:=zHi h3;cases SA with
    |none=>
     exfalso
     obtain⟨b,off,h,_⟩:=h3 McV;cases h
    |some sa=>
     have ix:=eqlB sa 2 sc;clear aa h3 hB ae fM;go_wp2_with fail
     go_ret2
     exact⟨some sa,sc,rfl,h4,H3.o,HB.o⟩
end
section
section
variable {P:Program} {ops:Array Oper} {md:Region.Mode} {w₀:World}
def grow(P:Program)(o:Oper)(a:Act)(w₀:World)(K:Act->Prop):Prop:= ∃v,(∀z,o.quietAt P a (λw'=>∃z',w'=(w₀.ext z).ext z') (w₀.ext z) v)/\K (a.put o.dst v)
def zgH(P:Program)(ops:Array Oper)(w₀:World)(Q:Act->Prop):List Oper->Act->Prop
 | [],a=>Q a
 |o::rest,a=>if Region.wanted o (yielded ops a.tmps)then grow P o a w₀ (zgH P ops w₀ Q rest)else zgH P ops w₀ Q rest (a.put o.dst undef)
def zfE{Q:Act->Prop}{a:Act}(h:Q a):zgH P ops w₀ Q [] a:=h
def zeK{Q:Act->Prop}{a:Act}{o:Oper}{rest:List Oper}
 (h:∀K:Act->Prop,(∀a,zgH P ops w₀ Q rest a->K a)->if Region.wanted o (yielded ops a.tmps)then grow P o a w₀ K else K (a.put o.dst undef)):zgH P ops w₀ Q (o::rest) a:=
 h _ (λ_ h=>h)
def YieldsG(P:Program)(ops:Array Oper)(w₀:World)(o:Oper)(v:Value)(a:Act):Prop:=
 (Region.wanted o (yielded ops a.tmps)=true/\∀z,o.quietAt P a (λw'=>∃z',w'=(w₀.ext z).ext z') (w₀.ext z) v)\/(Region.wanted o (yielded ops a.tmps)=false/\v=undef)
def YieldsG.put{oi oj:Oper}{v u:Value}{a:Act}(h1:∀d,oi.dst=some d->d∉oj.looksAt ops)(EO:∀cs b,oj.op≠ .select cs b)(h:YieldsG P ops w₀ oj u (a.put oi.dst v)):YieldsG P ops w₀ oj u a:=by
 unfold YieldsG Oper.quietAt at*;rw[wanted_put oj a oi.dst v h1,execOp_put oj EO a oi.dst v h1]at h;exact h
def YieldsG.put'{oi oj:Oper}{v u:Value}{a:Act}(h1:∀d,oi.dst=some d->d∉oj.looksAt ops)(EO:∀cs b,oj.op≠ .select cs b)(h:YieldsG P ops w₀ oj u a):YieldsG P ops w₀ oj u (a.put oi.dst v):=by
 unfold YieldsG Oper.quietAt at*;rw[wanted_put oj a oi.dst v h1,execOp_put oj EO a oi.dst v h1];exact h
def zfL{i:Nat}{o:Oper}{v:Value}{a:Act}{K:Act->World->Prop}{Q:Exit->Act->World->Prop}{z:Ez}(hi:ops[i]?=some o)(hy:YieldsG P ops w₀ o v a)(hK:∀z',K (a.put o.dst v) ((w₀.ext z).ext z')):wpOp P ops Q i K a (w₀.ext z):=by
 have CS:K (a.put o.dst v) (w₀.ext z):=by
  have:=hK ⟨#[],(w₀.ext z).drawn⟩;simpa[World.ext]using this
 unfold wpOp;simp only[hi];rcases hy with⟨hw,hv⟩|⟨hw,rfl⟩
 ·rw[if_pos hw];refine .inl ?_;have h3:=hv z;unfold Oper.quietAt at h3;unfold Oper.wp;generalize(execOp a.eval o).run P (w₀.ext z)=r at*;cases r with
  |ok n w'=>
   cases n<;>simp only[Oper.quietUpon]at h3<;>simp only[Oper.upon]
   case value u=>obtain⟨e1,e2⟩:=h3;rw[e1,e2];exact CS
   case skip=>obtain⟨e1,e2⟩:=h3;rw[e1,<-e2];exact CS
   case enter f args=>
    obtain⟨e1,hc⟩:=h3;rw[e1];exact hc.mono λe w'' ⟨he,z',ES⟩=>by subst he ES;exact hK z'
  |halt x w'=>simp only[Oper.quietUpon]at h3
 ·rw[if_neg (by rw[hw];exact Bool.false_ne_true)];exact CS
def zgd(P:Program)(md:Region.Mode)(ops:Array Oper)(w₀:World)(n:Nat)(L:Array Bool->Act->Prop):Nat->Array Bool->Act->Prop
 |0,listed,a=>L listed a
 |f+1,listed,a=>(∃i∈Region.ready md ops listed,i<n)/\∀i∈Region.ready md ops listed,i<n->∃o v,ops[i]?=some o/\YieldsG P ops w₀ o v a/\zgd P md ops w₀ n L f (listed.setIfInBounds i true) (a.put o.dst v)
def zkZ{n i:Nat}{oi:Oper}{v:Value}{L:Array Bool->Act->Prop}(hi:ops[i]?=some oi)(dI:∀(j:Nat) (o:Oper) cs b,ops[j]?=some o->o.op≠ .select cs b)(aQ:i<n)
 (kj:∀listed a,L listed a->∀j∈Region.ready md ops listed,n<=j):
 ∀(f:Nat) (listed:Array Bool) (a:Act),
  (∀j oj,ops[j]?=some oj->j≠i->listed.getD j true=false->(∀e∈oj.after,Region.binds md e=true->e.on≠i)->oi.apart ops oj=true)->
  i∈Region.ready md ops listed->YieldsG P ops w₀ oi v a->
  zgd P md ops w₀ n L f (listed.setIfInBounds i true) (a.put oi.dst v)->zgd P md ops w₀ n L (f+1) listed a:=by
 intro f;induction f with
 |zero=>
  intro listed a _ hr hy H;refine⟨⟨i,hr,aQ⟩,λj hj Hq=>?_⟩;by_cases cd:j=i
  ·subst cd;exact⟨oi,v,hi,hy,H⟩
  ·have:=kj _ _ H j (ready_mono hj cd);omega
 |succ f ih=>
  intro listed a eb hr hy H;refine⟨⟨i,hr,aQ⟩,λj hj Hq=>?_⟩;by_cases cd:j=i
  ·subst cd;exact⟨oi,v,hi,hy,H⟩
  ·obtain⟨oj,u,jk,Nq,Hj⟩:=H.2 j (ready_mono hj cd) Hq;obtain⟨iQ,oj',yG,aV⟩:=mem_ready.1 hj;rw[jk]at yG;cases yG;have dm:=(mem_ready.1 hr).1;have nA:∀e∈oj.after,Region.binds md e=true->e.on≠i:=λe he hb xD=>by
    have h1:=aV e he hb;rw[xD,getD_both dm]at h1;cases h1
   obtain⟨h1,h2,h3⟩:=Oper.apart_spec (eb j oj jk cd iQ nA);refine⟨oj,u,jk,Nq.put h1 (λcs b=>dI j oj cs b jk),?_⟩;refine ih (listed.setIfInBounds j true) (a.put oj.dst u) ?_ (ready_mono hr (Ne.symm cd)) (hy.put' h3 (λcs b=>dI i oi cs b hi)) ?_
   ·intro k ok hk au dm cZ;refine eb k ok hk au ?_ cZ;by_cases fX:j=k
    ·subst fX;exact iQ
    ·rw[getD_set_ne true fX]at dm;exact dm
   ·rw[Array.setIfInBounds_comm _ _ cd,<-Act.put_comm a v u h2];exact Hj
def zeS(md:Region.Mode)(ops:Array Oper):Nat->Nat->Array Bool->Bool
 |0,k,listed=>decide (Region.ready md ops listed=[k])&&decide (Region.ready md ops (listed.setIfInBounds k true)=[k+1])&&decide (Region.ready md ops ((listed.setIfInBounds k true).setIfInBounds (k+1) true)=[])
 |f+1,k,listed=>(Region.ready md ops listed).contains k&&Region.free md ops listed k&&zeS md ops f (k+1) (listed.setIfInBounds k true)
def letB(md:Region.Mode)(ops:Array Oper)(n:Nat):Bool:=
 decide (ops.size=n+2)&&Region.noSelect ops&&
 (match ops[n]? with
  |none=>false
  |some al=>al.guard.isNone&&al.after.isEmpty&&(List.range n).all λj=>match ops[j]? with
   |none=>false
   |some oj=>al.apart ops oj&&oj.after.all λe=>e.on != n)&&
 (match ops[n+1]? with
  |none=>false
  |some st=>st.guard.isNone&&(List.range (n+1)).all λj=>st.after.any λe=>Region.binds md e&&e.on==j)&&
 zeS md ops n 0 (Array.replicate ops.size false)
def zje{n:Nat}{Lq:Act->Prop}(dI:Region.noSelect ops=true):
 ∀(l:List Oper) (k:Nat) (listed:Array Bool) (a:Act),(∀j,j<l.length->l[j]?=ops[k+j]?)->k+l.length=n->
 zeS md ops l.length k listed=true->zgH P ops w₀ Lq l a->
 zgd P md ops w₀ n (λlisted' a'=>zeS md ops 0 n listed'=true/\Lq a') l.length listed a
 | [],k,listed,a,_,hk,hB,h=>by
   have:k=n:=by simpa using hk
   subst this;exact⟨hB,h⟩
 |o::l,k,listed,a,hl,hk,hB,h=>by
  have h0:ops[k]?=some o:=by simpa using(hl 0 McV).symm
  simp only[List.length_cons,zeS,Bool.and_eq_true]at hB;obtain⟨⟨hr,hf⟩,fJ⟩:=hB;have jL:k<n:=by simp only[List.length_cons]at hk;omega
  have cx:k∈Region.ready md ops listed:=by simpa using hr
  obtain⟨v,hy,hK⟩:∃v,YieldsG P ops w₀ o v a/\zgH P ops w₀ Lq l (a.put o.dst v):=by
   unfold zgH at h;by_cases hw:Region.wanted o (yielded ops a.tmps)=true
   ·rw[if_pos hw]at h;obtain⟨v,h1,h2⟩:=h;exact⟨v,.inl ⟨hw,h1⟩,h2⟩
   ·rw[if_neg hw]at h;exact⟨undef,.inr ⟨by simpa using hw,rfl⟩,h⟩
  exact zkZ h0 (Region.noSelect_spec dI) jL (λlisted' a' hL j hj=>by
   have h1:=hL.1;simp only[zeS,Bool.and_eq_true,decide_eq_true_eq]at h1;rw[h1.1.1]at hj;have:j=n:=by simpa using hj
   omega) l.length listed a (Region.free_spec h0 hf) cx hy
   (zje dI l (k+1) _ _ (λj hj=>by have:=hl (j+1) McX;simpa[Nat.add_assoc,Nat.add_comm 1 j]using this) (by simp only[List.length_cons]at hk;omega) fJ hK)
def alloc_ext(w:World)(o:Obj):∃z,w.alloc o=w.ext z:=zaP (zad Qb o)
def zdE{id:Nat}{Q:Exit->Act->World->Prop}{a:Act}{w:World}{l:List Oper}(n:Nat)(al st:Oper)(obj obj':Obj)(hm:P.follows .mixedOrders=true)(hB:letB .any l.toArray n=true)
 (fV:l[n]?=some al)(aq:l[n+1]?=some st)
 (hrun:∀(a:Act) (W:World),(execOp a.eval al).run P W=.ok (.value (.pointer (some ⟨W.heap.size,0,none⟩))) (W.alloc obj))
 (ni:zgH P l.toArray w (λaF=>(∀W B,W.heap[B]?=some obj->∃W',(execOp (aF.put al.dst (.pointer (some ⟨B,0,none⟩))).eval st).run P W=.ok .skip W'/\W'.heap[B]?=some obj'/\W.grownBy W' (some B))/\
   (∀B W,(∃z,W=w.ext z)->w.heap.size<=B->W.heap[B]?=some obj'->Q .normal ((aF.put al.dst (.pointer (some ⟨B,0,none⟩))).put st.dst undef) W)) (l.take n) a):(Code.region id l.toArray true).wp P Q a w:=by
 generalize hLq:(λaF:Act=>(∀W B,W.heap[B]?=some obj->∃W',(execOp (aF.put al.dst (.pointer (some ⟨B,0,none⟩))).eval st).run P W=.ok .skip W'/\W'.heap[B]?=some obj'/\W.grownBy W' (some B))/\
  (∀B W,(∃z,W=w.ext z)->w.heap.size<=B->W.heap[B]?=some obj'->Q .normal ((aF.put al.dst (.pointer (some ⟨B,0,none⟩))).put st.dst undef) W))=Lq at ni
 simp only[letB,Bool.and_eq_true,decide_eq_true_eq]at hB;obtain⟨⟨⟨⟨hsz,dI⟩,cV⟩,bV⟩,y8⟩:=hB;have xe:l.toArray[n]?=some al:=by simpa using fV
 have tA:l.toArray[n+1]?=some st:=by simpa using aq
 rw[xe]at cV;rw[tA]at bV;simp only[Bool.and_eq_true,List.all_eq_true,List.mem_range,Option.isNone_iff_eq_none]at cV bV;obtain⟨⟨bX,haf⟩,cV⟩:=cV;obtain⟨cj,bV⟩:=bV;have zg:=Region.noSelect_spec dI;generalize hops:l.toArray=ops at*;have cF:(l.take n).length=n:=by
  have:l.length=n+2:=by rw[<-hsz,<-hops];simp
  simp;omega
 have H:=zje (md:=.any) (n:=n) dI (l.take n) 0 _ a (λj hj=>by
  have sS:j<n:=by rw[cF]at hj;exact hj
  rw[<-hops];simp[sS]) (by simpa using cF) (by rw[cF];exact y8) ni
 rw[cF,hsz]at H;refine wp_region_any hm ?_;rw[hsz];have ay:(Array.replicate (n+2) false).size=n+2:=McV;have oo:(Array.replicate (n+2) false).getD n true=false:=McV;have cu:(Array.replicate (n+2) false).getD (n+1) true=false:=McV;have uN:({w with drawn:=w.drawn+1}:World)=w.ext ⟨#[],w.drawn+1⟩:=by simp[World.ext]
 rw[uN];generalize(⟨#[],w.drawn+1⟩:Ez)=z0;generalize jM:Array.replicate (n+2) false=listed0 at*;clear jM ni y8 uN;have sn:∀j oj,j<n->ops[j]?=some oj->al.apart ops oj=true/\∀e∈oj.after,e.on≠n:=λj oj hj jk=>by
  have:=cV j hj;rw[jk]at this;simp only[Bool.and_eq_true,Array.all_eq_true',bne_iff_ne,ne_eq]at this;exact⟨this.1,λe he=>this.2 e he⟩
 have qD:∀(listed:Array Bool) (j:Nat),j<n+1->listed.getD j true=false->n+1∉Region.ready .any ops listed:=λlisted j hj dm hr=>by
  obtain⟨_,o,ho,aV⟩:=mem_ready.1 hr;rw[tA]at ho;cases ho;obtain⟨e,he,hb⟩:=Array.any_eq_true'.1 (bV j hj);simp only[Bool.and_eq_true,beq_iff_eq]at hb;have:=aV e he hb.1;rw[hb.2,getD_both dm]at this;cases this
 have ae:∀(listed:Array Bool) (j:Nat),j∈Region.ready .any ops listed->j<n\/j=n\/j=n+1:=λlisted j hj=>by
  obtain⟨_,o,ho,_⟩:=mem_ready.1 hj;have:=(Array.getElem?_eq_some_iff.1 ho).1;omega
 have EV:∀t,Region.wanted al (yielded ops t)=true:=λt=>by simp[Region.wanted,bX]
 have EX:∀t,Region.wanted st (yielded ops t)=true:=λt=>by simp[Region.wanted,cj]
 have last:∀(listed:Array Bool) (aF:Act) (z:Ez) (B:Nat),Lq aF->zeS .any ops 0 n listed=true->w.heap.size<=B->(w.ext z).heap[B]?=some obj->
  wpAny P .any ops Q 1 (listed.setIfInBounds n true) (aF.put al.dst (.pointer (some ⟨B,0,none⟩))) (w.ext z):=λlisted aF z B hq hL fj hb=>by
  rw[<-hLq]at hq;obtain⟨hstore,h⟩:=hq;simp only[zeS,Bool.and_eq_true,decide_eq_true_eq]at hL;refine⟨λh0=>(by rw[hL.1.2]at h0;cases h0),λi hi=>?_⟩;rw[hL.1.2]at hi;have aQ:i=n+1:=by simpa using hi
  subst aQ;unfold wpOp;simp only[tA];rw[if_pos (EX _)];refine .inl ?_;obtain⟨W',hr,cA,dD⟩:=hstore _ _ hb;unfold Oper.wp;rw[hr];refine⟨hL.2,h B W' ?_ fj cA⟩;exact zaP ((zan w z).grown dD (Below.size (zan w z)) (λk hk=>by cases hk;exact fj))
 have modeB:∀(f:Nat) (listed:Array Bool) (a:Act) (z:Ez) (B:Nat),listed.getD n true=false->w.heap.size<=B->(w.ext z).heap[B]?=some obj->
  zgd P .any ops w n (λlisted' a'=>zeS .any ops 0 n listed'=true/\Lq a') f listed a->
  wpAny P .any ops Q (f+1) (listed.setIfInBounds n true) (a.put al.dst (.pointer (some ⟨B,0,none⟩))) (w.ext z):=by
  intro f;induction f with
  |zero=>
   intro listed a z B _ fj hb hH;exact last listed a z B hH.2 hH.1 fj hb
  |succ f ih=>
   intro listed a z B dm fj hb hH;obtain⟨⟨i0,eE,xO⟩,aV⟩:=hH;have xN:=ready_mono eE (show i0≠n by omega);refine⟨λh0=>(by rw[h0]at xN;cases xN),λi hi=>?_⟩;have aQ:i≠n:=by
    rintro rfl;have:=(mem_ready.1 hi).1;have hs:i<listed.size:=by
     rcases Nat.lt_or_ge i listed.size with h|h
     ·exact h
     ·simp[Array.getElem?_eq_none h]at dm
    simp[Array.getElem?_setIfInBounds,hs]at this
   rcases ae _ i hi with ae|ae|ae
   ·obtain⟨hu,oi,yF,Du⟩:=mem_ready.1 hi;obtain⟨o8,cZ⟩:=sn i oi ae yF
    have hr:i∈Region.ready .any ops listed:=mem_ready.2 ⟨by rw[getD_set_ne true (Ne.symm aQ)]at hu;exact hu,oi,yF,λe he hb=>by
     have:=Du e he hb;rw[getD_set_ne false (Ne.symm (cZ e he))]at this
     exact this⟩
    obtain⟨o,v,ho,hy,wB⟩:=aV i hr ae;rw[yF]at ho;cases ho;obtain⟨h1,h2,h3⟩:=Oper.apart_spec o8;refine zfL yF (hy.put' h1 (λcs b=>zg i oi cs b yF)) λz'=>?_
    rw[<-Array.setIfInBounds_comm _ _ aQ,Act.put_comm a _ v h2,zie];refine ih _ _ _ B (by rw[getD_set_ne true aQ];exact dm) fj ?_ wB;rw[<-zie,zcL _ _ _ (Array.getElem?_eq_some_iff.1 hb).1];exact hb
   ·exact absurd ae aQ
   ·subst ae;have N9:(listed.setIfInBounds n true).getD i0 true=false:=by rw[getD_set_ne true McS];exact(mem_ready.1 eE).1
    exact absurd hi (qD _ i0 McS N9)
 have modeA:∀(f:Nat) (listed:Array Bool) (a:Act) (z:Ez),listed.getD n true=false->
  zgd P .any ops w n (λlisted' a'=>zeS .any ops 0 n listed'=true/\Lq a') f listed a->
  wpAny P .any ops Q (f+2) listed a (w.ext z):=by
  have make:∀(f:Nat) (listed:Array Bool) (a:Act) (z:Ez),listed.getD n true=false->zgd P .any ops w n (λlisted' a'=>zeS .any ops 0 n listed'=true/\Lq a') f listed a->
   wpOp P ops Q n (wpAny P .any ops Q (f+1) (listed.setIfInBounds n true)) a (w.ext z):=λf listed a z dm hH=>by
   unfold wpOp;simp only[xe];rw[if_pos (EV _)];refine .inl ?_;unfold Oper.wp;rw[hrun];obtain⟨z',Nr⟩:=alloc_ext (w.ext z) obj;have hb:=heap_alloc_new (w.ext z) obj;have jQ:w.heap.size<=(w.ext z).heap.size:=by rw[zaf];omega
   show wpAny P .any ops Q (f+1) (listed.setIfInBounds n true) (a.put al.dst (.pointer (some ⟨(w.ext z).heap.size,0,none⟩))) ((w.ext z).alloc obj);generalize(w.ext z).heap.size=B at*;rw[Nr,zie]at hb⊢;exact modeB f listed a _ B dm jQ hb hH
  intro f;induction f with
  |zero=>
   intro listed a z dm hH;have hL:=hH.1;simp only[zeS,Bool.and_eq_true,decide_eq_true_eq]at hL;refine⟨λh0=>(by rw[hL.1.1]at h0;cases h0),λi hi=>?_⟩;rw[hL.1.1]at hi;have aQ:i=n:=by simpa using hi
   subst aQ;exact make 0 listed a z dm hH
  |succ f ih=>
   intro listed a z dm hH;obtain⟨⟨i0,eE,xO⟩,aV⟩:=hH;refine⟨λh0=>(by rw[h0]at eE;cases eE),λi hi=>?_⟩;rcases ae _ i hi with ae|ae|ae
   ·obtain⟨o,v,ho,hy,wB⟩:=aV i hi ae;refine zfL ho hy λz'=>?_
    rw[zie];exact ih _ _ _ (by rw[getD_set_ne true McS];exact dm) wB
   ·subst ae;exact make (f+1) listed a z dm ⟨⟨i0,eE,xO⟩,aV⟩
   ·subst ae;exact absurd hi (qD _ i0 McS (mem_ready.1 eE).1)
 exact modeA n listed0 a z0 oo H
end
def quietg{P:Program}{f:FuncId}{args:Array Value}{W:World}{v:Value}(h:Calls P f args W (Ret W v)):Calls P f args W λe w''=>e=.returned v/\∃z,w''=W.ext z:=h
end
section
open Go.Shelf
attribute [local go_sem] zao zac
def dv_of{W:World}{A:Option Addr}{ds:List Deed}(h:SlW W 7 zfG A ds):∃xs:List DV,xs.map (·.d)=ds/\(∀x∈xs,x.d.to.length<=x.c/\Sl W 3 RPart.cells x.B x.d.to)/\Sl W 7 DV.cells A xs:=by
 by_cases h0:ds=[]
 ·subst h0;exact⟨[],rfl,by simp,λh=>absurd h McV⟩
 ·have hl:0<ds.length:=by cases ds with
   |nil=>exact absurd rfl h0
   |cons _ _=>simp
  obtain⟨b,off,hA,hb,hc⟩:=h hl;have hx:∀(k:Nat) (hk:k<ds.length),∃y:DV,y.d=ds[k]/\y.d.to.length<=y.c/\Sl W 3 RPart.cells y.B y.d.to/\∀j u,y.cells[j]?=some u->W.cell? ⟨b,off+k*7+j,none⟩=some u:=λk hk=>by
   obtain⟨cs,⟨B,c,h1,h2,h3⟩,h4⟩:=hc k _ (List.getElem?_eq_getElem hk);refine⟨⟨ds[k],B,c⟩,rfl,h1,h3,λj u hu=>h4 j u ?_⟩;rw[h2];exact hu
  have aV:∀n,n<=ds.length->∃xs:List DV,xs.map (·.d)=ds.take n/\(∀x∈xs,x.d.to.length<=x.c/\Sl W 3 RPart.cells x.B x.d.to)/\∀k x,xs[k]?=some x->∀j u,x.cells[j]?=some u->W.cell? ⟨b,off+k*7+j,none⟩=some u:=by
   intro n;induction n with
   |zero=>intro _;exact⟨[],by simp,by simp,by simp⟩
   |succ n ih=>
    intro hn;obtain⟨xs,h1,h2,h3⟩:=ih McS;obtain⟨y,e1,e2,e3,e4⟩:=hx n McS;have ag:xs.length=n:=by
     have:=congrArg List.length h1;simp at this;omega
    refine⟨xs++[y],?_,?_,?_⟩
    ·rw[List.map_append,h1,List.take_add_one,List.getElem?_eq_getElem (show n<ds.length by omega)];simp[e1]
    ·intro x pI;rcases List.mem_append.1 pI with pI|pI
     ·exact h2 x pI
     ·rw[List.mem_singleton]at pI;subst pI;exact⟨e2,e3⟩
    ·intro k x hk;by_cases jL:k<n
     ·rw[List.getElem?_append_left McS]at hk;exact h3 k x hk
     ·have fY:k=n:=by
       exact Mb8
      subst fY;rw[List.getElem?_append_right McS,ag]at hk;simp at hk;subst hk;exact e4
  obtain⟨xs,h1,h2,h3⟩:=aV ds.length Qc;rw[List.take_length]at h1;exact⟨xs,h1,h2,λ_=>⟨b,off,hA,hb,h3⟩⟩
def zmy{d:Deed}(h1:inR d.kind 0 8=true)(h2:inR d.years 0 99=true):zfs d=zfN d:=
 zp8 (zf4.1 h1) (zf4.1 h2).1
def zj7(d:Deed)(B:Option Addr)(c:Nat)(w:World)(hl:zdQ d)(hS:Sl w 3 RPart.cells B d.to):Calls Tryz.prog 54 #[d.v B c] w (Ret w (.int .i64 (zaH d))):=by
 obtain⟨R,hR⟩:=Qd (zaH d)
 rw[<-hR];have AQ:=zmy (d:=d);have p8:=λW (hl:d.to.length<=1000) (h:Qa w W)=>zn6 d B c W hl (hS.keep h)
 obtain⟨kd,dy,pl,fr,ts,cl,yr⟩:=d;obtain⟨l1,l2,cX,ae⟩:=hl;have HS:=zHi hS;unfold zaH at hR;unfold Deed.v at p8⊢;simp only at hR l1 l2 cX ae hS AQ p8;obtain⟨HR,nN,oD,cG⟩:=yH4 hR AQ p8 cX;clear hR hS AQ p8 cX;go_enter Tryz.func54,Tryz.ntmps54
 go_upto_region 1 with fail
 generalize am:w.alloc _=W0;obtain⟨g0,aO⟩:=boxed am;obtain⟨d0,d1,d2,d3,d4,d5,d6⟩:=zaG g0;have l0:=zab g0;have ak:=zHi aO;clear am aO;cases iR:inR kd 0 8
 ·have HE:Hid (R=15):=by show _=_;rw[HR.o];simp[iR]
  exact Ms
 go_upto_region 3 with(first
                        |(go_at_call 58;go_must(refine(zc3 _ _ _ _).mono ?_);rintro e wq ⟨rfl,rfl⟩;(first|rw[iR]|rw[lG]|rw[hy9]))
                        |(go_at_call 28;go_must(refine(zcP _ _).mono ?_);rintro e wq ⟨rfl,rfl⟩;rw[ki])
                        |(go_at_call 27;go_must(refine(zcO _ _ Mds).mono ?_);rintro e wq ⟨rfl,rfl⟩;(first|rw[cJ]|rw[eT]|rw[lS])))
 cases ki:zba dy
 ·have HE:Hid (R=2):=by show _=_;rw[HR.o];simp[iR,ki]
  exact Ms
 cases lG:inR cl 0 4
 ·have HE:Hid (R=2):=by show _=_;rw[HR.o];simp[iR,ki,lG]
  exact Ms
 cases hy9:inR yr 0 99
 ·have HE:Hid (R=2):=by show _=_;rw[HR.o];simp[iR,ki,lG,hy9]
  exact Ms
 go_upto_region 5 with(first
                        |(go_at_call 58;go_must(refine(zc3 _ _ _ _).mono ?_);rintro e wq ⟨rfl,rfl⟩;(first|rw[iR]|rw[lG]|rw[hy9]))
                        |(go_at_call 28;go_must(refine(zcP _ _).mono ?_);rintro e wq ⟨rfl,rfl⟩;rw[ki])
                        |(go_at_call 27;go_must(refine(zcO _ _ Mds).mono ?_);rintro e wq ⟨rfl,rfl⟩;(first|rw[cJ]|rw[eT]|rw[lS])))
 by_cases h8:8<ts.length
 ·have h9:(8:Int)<(ts.length:Int):=McS;have HE:Hid (R=8):=by show _=_;rw[HR.o];simp[iR,ki,lG,hy9,h8]
  exact Ms
 have h9:¬(8:Int)<(ts.length:Int):=McS;have uJ:R=if !zb0 pl||!zb0 fr||!ts.all (λp=>zaU p.name)then 4 else if !zfN ⟨kd,dy,pl,fr,ts,cl,yr⟩then 3 else 0:=by rw[HR.o];simp[iR,ki,lG,hy9,h8]
 rw[<-nN.o iR hy9]at uJ;have bK:=zHi uJ;clear uJ nN HR;go_upto_region 7 with fail
 go_cut [47]from 28 to 47 (λv wc=>v=.bool (!zb0 pl||!zb0 fr)/\W0=wc)
 case first=>
  cases z1:noB pl
  ·have w1:¬pl.toList=[]:=by simpa using(show pl.toList.isEmpty=false from z1)
   cases ei:zaU pl
   ·have cJ:zcE pl=false:=by rw[<-zdv,ei]
    exact Mr
   ·have cJ:zcE pl=true:=by rw[<-zdv,ei]
    cases z2:noB fr
    ·exact Mcv
    ·exact McL
  ·have w1:pl.toList=[]:=by simpa using(show pl.toList.isEmpty=true from z1)
   cases z2:noB fr
   ·exact Mcv
   ·exact McL
 case rest=>
  obtain⟨rfl,rfl⟩:=hcut;cases hn9:(!zb0 pl||!zb0 fr)
  ·have yS:R=if !ts.all (λp=>zaU p.name)then 4 else if !zfs ⟨kd,dy,pl,fr,ts,cl,yr⟩then 3 else 0:=by rw[bK.o,hn9,Bool.false_or]
   have qX:=zHi (λW h=>oD.o W McS h);generalize zfs ⟨kd,dy,pl,fr,ts,cl,yr⟩=fo at*;have mE:=zHi yS;clear yS bK oD;go_upto_region 10 with fail
   go_loopw [3] (λi wr=>∃k:Nat,k<=ts.length/\i=.int .i64 k/\W0=wr/\Hid (R=if !(ts.drop k).all (λp=>zaU p.name)then 4 else if !fo then 3 else 0)) (λi _=>ts.length-(intOf i).toNat)
   case atStart=>exact⟨0,Nat.zero_le _,rfl,rfl,by rw[List.drop_zero];exact mE.o⟩
   case round=>
    obtain⟨k,hk,rfl,rfl,HX⟩:=hrel;by_cases ae:k<ts.length
    ·obtain⟨b,off,rfl,hb,ah⟩:=(HS.o.keep ak.o).at ae;have hx:=HX.o;rw[List.drop_eq_getElem_cons ae,List.all_cons]at hx;have hsz:=cG.o _ (List.getElem_mem ae);obtain⟨aw,aj⟩:=yH2 hx ae;generalize ts[k]=x at*;obtain⟨nm,nu,de⟩:=x;have i0:W0.cell? ⟨b,off+k*3,none⟩=some (.string nm):=ah 0 _ rfl;have au:(k:Int)<(ts.length:Int):=McS;have aR:(0:Int)<=(k:Int):=McS;simp only at hsz;clear ah hx ae;cases hp3:zaU nm
     ·have lS:zcE nm=false:=MeN;have HE:Hid (R=4):=by show _=_;rw[aw.o];simp[hp3]
      exact Ms
     ·have lS:zcE nm=true:=MeN;have HE:Hid (R=if !(ts.drop (k+1)).all (λp=>zaU p.name)then 4 else if !fo then 3 else 0):=by show _=_;rw[aw.o,hp3,Bool.true_and]
      go_wp2_with (first
                    |(go_at_call 58;go_must(refine(zc3 _ _ _ _).mono ?_);rintro e wq ⟨rfl,rfl⟩;(first|rw[iR]|rw[lG]|rw[hy9]))
                    |(go_at_call 28;go_must(refine(zcP _ _).mono ?_);rintro e wq ⟨rfl,rfl⟩;rw[ki])
                    |(go_at_call 27;go_must(refine(zcO _ _ Mds).mono ?_);rintro e wq ⟨rfl,rfl⟩;(first|rw[cJ]|rw[eT]|rw[lS])))
      exact ML
    ·have au:¬(k:Int)<(ts.length:Int):=McS;have HE:Hid (R=if !fo then 3 else 0):=by show _=_;rw[HX.o,List.drop_of_length_le McS];rfl
     cases fo
     ·exact MaR
     ·exact MaR
  ·have HE:Hid (R=4):=by show _=_;rw[bK.o,hn9];rfl
   exact Ms
end
section
open Go.Shelf Go.Sort
def own_put{α β:Type}[Inhabited β]{e:TypeId}{f:α->List Value}{enc:β->Value}{w:World}{base g o cap n:Nat}{cur:Array Value}{d:Array β}{L:List α}{os:Array Obj}(hg:w.heap[g]?=some (.cells cur e (0,0)))(hb:base<=g)(hc:L.length<=cap)(hm:cap<=maxLen)(hs:o+cap*1<=cur.size)(hd:d.size=L.length)(hf:L.flatMap f=d.toList.map enc):
 OwnS (Sort.grow (putRow enc (Sort.ahead w n) g o d) os) base e 1 f (.slice (some ⟨g,o,none⟩) L.length cap) L:=by
 have hl:=zab hg;refine .inr ⟨g,o,cap,putCells enc o d cur,rfl,hb,?_,hc,hm,by unfold putCells;rw[Array.size_mapIdx];exact hs,?_⟩
 ·exact MaP
 ·intro j u hu;rw[hf,List.getElem?_map]at hu;cases hj:d.toList[j]? with
  |none=>rw[hj]at hu;cases hu
  |some x=>
   rw[hj]at hu;have cO:j<d.size:=by have:=(List.getElem?_eq_some_iff.1 hj).1;simpa using this
   have hx:d[j]! =x:=by
    rw[getElem!_pos d j cO];have:=(List.getElem?_eq_some_iff.1 hj).2;simpa using this
   exact MaM
def zmz{β:Type}[Inhabited β]{enc:β->Value}{w:World}{g o n:Nat}(d:Array β)(os:Array Obj):w.grownBy (Sort.grow (putRow enc (Sort.ahead w n) g o d) os) (some g):=by
 refine⟨rfl,rfl,rfl,?_,λk hk ai=>?_⟩
 ·exact Mbs
 ·have Ht:¬g=k:=λe=>ai (by rw[e])
  exact MaQ
def zm0{α β:Type}[Inhabited β]{e:TypeId}{f:α->List Value}{enc:β->Value}{w:World}{g o:Nat}{cur:Array Value}{d:Array β}{L:List α}(hg:w.heap[g]?=some (.cells cur e (0,0)))(hf:L.flatMap f=d.toList.map enc)(hx:∀j u,(L.flatMap f)[j]?=some u->cur[o+j]?=some u):Sort.Holds enc w g o d:=λj hj=>by
 have h1:=hx j (enc d[j]!) (by rw[hf,List.getElem?_map,List.getElem?_eq_getElem Meb,getElem!_pos d j hj];rfl);exact⟨by simp only[World.cell?,hg];exact h1,by simp[World.frozen?,hg]⟩
def zc4{w w0 W:World}{v:Value}{base:Nat}(h:w0.heap.size<=base)(hv:∀g,za4 v=some g->base<=g)(hg:w.grownBy W (za4 v))(hB:Qa w0 w):Qa w0 W:=
 hB.trans ⟨hg.os,hg.tape,hg.output,hg.size,λk hk=>hg.block k (Nat.lt_of_lt_of_le hk hB.size) λe=>by have:=hv k e.symm;omega⟩
def zm1:∀l:List Int,l.flatMap zC=l.map (Value.int .i64)
 | []=>rfl
 |b::l=>by rw[List.flatMap_cons,zm1 l];rfl
def sortZ_any(v:Value)(xs:List Int)(base:Nat)(w:World)(aa:OwnS w base 3 1 zC v xs)(hl:xs.length<=1000000000):
 Calls Tryz.prog 20 #[v] w (λe w'=>e=.returned (.tuple #[])/\∃L,L.Perm xs/\(L.Pairwise λa b=>a<=b)/\OwnS w' base 3 1 zC v L/\w.grownBy w' (za4 v)):=by
 rcases aa with⟨rfl,rfl⟩|⟨g,o,cap,cur,rfl,hb,hg,hc,hm,hs,hx⟩
 ·have aT:=AnyG.slices_Sort_int_none srtInt none 0 w;change Calls Tryz.prog 20 _ _ _ at aT;refine aT.mono ?_;rintro e wq ⟨rfl,rfl⟩;exact⟨rfl,[],List.Perm.refl _,List.Pairwise.nil,OwnS.nil,zc6 _ _⟩
 ·have aT:=AnyG.slices_Sort_int srtInt g o cap xs w (zm0 (f:=zC) (L:=xs) hg (zm1 xs) hx) (zab hg) McS;change Calls Tryz.prog 20 _ _ _ at aT;refine aT.mono ?_;rintro e wq ⟨rfl,n,os,rfl⟩;have hp:(xs.mergeSort λx y=>decide (x<=y)).Perm xs:=List.mergeSort_perm _ _;have qB:(xs.mergeSort λx y=>decide (x<=y)).Pairwise λa b=>decide (a<=b)=true:=List.pairwise_mergeSort (le:=λa b=>decide (a<=b)) (λa b c h1 h2=>by simp only[decide_eq_true_eq]at*;omega) (λa b=>by simp only[Bool.or_eq_true,decide_eq_true_eq];omega) xs
  generalize(xs.mergeSort λx y=>decide (x<=y))=ts at*;have cF:ts.length=xs.length:=hp.length_eq;refine⟨rfl,ts,hp,qB.imp λ{a b} h=>by simpa using h,by rw[<-cF];exact own_put hg hb McS hm hs McV (zm1 ts),zmz _ _⟩
def zpD:Go.Shelf.Ren:=⟨fun|43=>21|n=>n,fun|22=>46|23=>3|3=>3|4=>4|0=>0|n=>n,fun|n=>n⟩
def cmpInt:Go.Proofs.SlLaysN.n43 Tryz.prog zpD:= {
 mixed:=by kernel_rfl
 f43:=⟨Tryz.f21.name,by decide,Tryz.func21.trans (congrArg some McT)⟩
 t0:=Tryz.underlying0
 a0:=Tryz.isAgg0
 z0:=Tryz.sizeOf0
 v0:=Tryz.zeroValue0
 t3:=Tryz.underlying3
 a3:=Tryz.isAgg3
 z3:=Tryz.sizeOf3
 v3:=Tryz.zeroValue3
 t4:=Tryz.underlying4
 a4:=Tryz.isAgg4
 z4:=Tryz.sizeOf4
 v4:=Tryz.zeroValue4
 t22:=Tryz.underlying46
 a22:=Tryz.isAgg46
 z22:=Tryz.sizeOf46
 v22:=Tryz.zeroValue46
 t23:=Tryz.underlying3
 a23:=Tryz.isAgg3
 z23:=Tryz.sizeOf3
 v23:=Tryz.zeroValue3
 i23:=by kernel_rfl}
def own_put2{α β:Type}[Inhabited β]{e:TypeId}{f:α->List Value}{enc:β->Value}{w:World}{base g o cap n:Nat}{cur:Array Value}{d:Array β}{L:List α}(hg:w.heap[g]?=some (.cells cur e (0,0)))(hb:base<=g)(hc:L.length<=cap)(hm:cap<=maxLen)(hs:o+cap*1<=cur.size)(hd:L.length<=d.size)(hf:L.flatMap f=(d.toList.take L.length).map enc):
 OwnS (putRow enc (Sort.ahead w n) g o d) base e 1 f (.slice (some ⟨g,o,none⟩) L.length cap) L:=by
 have hl:=zab hg;refine .inr ⟨g,o,cap,putCells enc o d cur,rfl,hb,?_,hc,hm,by unfold putCells;rw[Array.size_mapIdx];exact hs,?_⟩
 ·show((Sort.mapBlock _ _ _).heap)[g]?=_;simp only[Sort.mapBlock,Sort.ahead];rw[Array.getElem?_modify,if_pos rfl,hg];rfl
 ·intro j u hu;rw[hf,List.getElem?_map]at hu;cases hj:(d.toList.take L.length)[j]? with
  |none=>rw[hj]at hu;cases hu
  |some x=>
   rw[hj]at hu;have cO:j<L.length:=by
    have:=(List.getElem?_eq_some_iff.1 hj).1;rw[List.length_take]at this;omega
   have Ll:j<d.size:=McS;have hx:d[j]! =x:=by
    rw[getElem!_pos d j Ll];have:=(List.getElem?_eq_some_iff.1 hj).2;simpa using this
   exact MaM
def zpE{β:Type}[Inhabited β]{enc:β->Value}{w:World}{g o n:Nat}(d:Array β):w.grownBy (putRow enc (Sort.ahead w n) g o d) (some g):=by
 have:=zmz (enc:=enc) (w:=w) (g:=g) (o:=o) (n:=n) d #[];rwa [grow_empty]at this
def zjf(zs:List Int)(x:Int):∀j,zs.toArray[j]! =x->∃i,i<=j/\zs.toArray[i]! =x/\Lib.keeps zs.toArray i=true
 |0,h=>⟨0,Qc,h,by simp[Lib.keeps]⟩
 |j+1,h=>by
  by_cases h1:zs.toArray[j]! =x
  ·obtain⟨i,hi,h2⟩:=zjf zs x j h1;exact⟨i,by omega,h2⟩
  ·refine⟨j+1,Qc,h,?_⟩;unfold Lib.keeps;rw[decide_eq_true_eq];exact .inr λe=>h1 (by rw[<-h,e];rfl)
def znE(zs:List Int)(x:Int):x∈Lib.compact zs↔x∈zs:=by
 unfold Lib.compact Lib.compactUpTo;simp only[List.mem_map,List.mem_filter,List.mem_range];constructor
 ·rintro⟨j,⟨hj,_⟩,rfl⟩;rw[getElem!_pos _ j Meb];simp
 ·intro hx;obtain⟨j,hj,he⟩:=List.mem_iff_getElem.1 hx;have oY:zs.toArray[j]! =x:=by rw[getElem!_pos _ j Meb];simpa using he
  obtain⟨i,hi,h1,h2⟩:=zjf zs x j oY;exact⟨i,⟨by omega,h2⟩,h1⟩
def znF{zs:List Int}(h:zs.Pairwise (· <= ·)):(Lib.compact zs).Pairwise (· < ·):=by
 unfold Lib.compact Lib.compactUpTo;rw[List.pairwise_map,List.pairwise_filter];have hr:(List.range zs.length).Pairwise λa b=>a<b/\b<zs.length:=by
  rw[List.pairwise_iff_getElem];intro i j hi hj ed;simp only[List.getElem_range];simp only[List.length_range]at hj;exact⟨ed,hj⟩
 refine hr.imp λ{a b} ⟨bL,hb⟩ _ hk=>?_
 unfold Lib.keeps at hk;rw[decide_eq_true_eq]at hk;rcases hk with hk|hk
 ·omega
 ·have hP:=List.pairwise_iff_getElem.1 h;have oW:a<zs.length:=McS;have aW:b-1<zs.length:=McS;rw[getElem!_pos _ b (by simpa using hb),getElem!_pos _ (b-1) (by simpa using aW)]at hk;rw[getElem!_pos _ b (by simpa using hb),getElem!_pos _ a (by simpa using oW)];simp only[List.getElem_toArray]at hk⊢;have h1:=hP (b-1) b aW hb McS;have h2:zs[a]<=zs[b-1]:=by
   by_cases e:a=b-1
   ·subst e;omega
   ·exact hP a (b-1) oW aW McS
  omega
def compZ_any(v:Value)(xs:List Int)(base:Nat)(w:World)(aa:OwnS w base 3 1 zC v xs)(hl:xs.length<=1000000000):
 Calls Tryz.prog 21 #[v] w λe w'=>∃v',e=.returned v'/\OwnS w' base 3 1 zC v' (Lib.compact xs)/\w.grownBy w' (za4 v):=by
 rcases aa with⟨rfl,rfl⟩|⟨g,o,cap,cur,rfl,hb,hg,hc,hm,hs,hx⟩
 ·have aT:=AnyG.slices_Compact_int_empty cmpInt none 0 w;change Calls Tryz.prog 21 _ _ _ at aT;refine aT.mono ?_;rintro e wq ⟨rfl,rfl⟩;exact⟨_,rfl,OwnS.nil,zc6 _ _⟩
 ·have aT:=AnyG.slices_Compact_int cmpInt g o cap xs w (zm0 (f:=zC) (L:=xs) hg (zm1 xs) hx) McS hc;change Calls Tryz.prog 21 _ _ _ at aT;refine aT.mono ?_;rintro e wq ⟨rfl,n,rfl⟩;have bG:=Lib.compact_length_le xs;refine⟨_,rfl,own_put2 hg hb McS hm hs McV ?_,zpE _⟩;rw[zm1];simp
end
section
open Go.Shelf
def znG{laws:List Law}{ds:List Deed}{names:List ByteArray}{day:Int}(h:zce laws ds names day=0):(zd7 laws ds 200000).2.2=0/\zba day=true:=by
 unfold zce at h;split at h
 ·rename_i h1
  rw[h]at h1;simp at h1
 ·rename_i h1
  refine⟨by simpa using h1,?_⟩;split at h
  ·cases h
  ·split at h
   ·cases h
   ·rename_i h2
    simpa using h2
end
open Go.Shelf
attribute [local go_sem] zao zac
