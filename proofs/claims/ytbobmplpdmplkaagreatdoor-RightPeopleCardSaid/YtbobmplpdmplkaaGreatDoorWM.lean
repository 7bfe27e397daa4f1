import Derived.Test.YtbobmplpdmplkaaGreatDoorOB
import Derived.Shelf.SortG.Plain
import Derived.Shelf.SortG.SortNone
set_option linter.all false
set_option maxRecDepth 100000
set_option maxHeartbeats 4000000
namespace Go.Proofs.YtbobmplpdmplkaaGreatDoor
open Go.RowKit
attribute [local go_sem] World.cell?_alloc_mark zaf za4 zam za7 zaw zax zay zaz za0 za1 za2
section
open Go.Shelf
attribute [local go_sem] zan zac
theorem tm_eql(W:World):(binOp .eql 84 (.map none) (.map none)).run Tryz.prog W=.ok (.bool true) W:=by
 kernel_rfl
theorem zlV(nm ot pl:ByteArray)(dy tl nu de q:Int)(A:Option Addr)(c:Nat)(w:World)(hc:1<=c)(htd:Int.tdiv 27720 de=q)(JY:¬de=0)(hqb:0<=q/\q<=27720)(dB:0<=nu*q/\nu*q<=27720)(hS:Sl w 8 Rec.cells A [⟨3,nm,ot,pl,dy,tl,nu,de⟩]):
 Calls Tryz.prog 85 #[.slice A 1 c] w (Ret w (.bool false)):=by
 have bO:= @run_makeMap Tryz.prog;have HS:=zHi hS;have jz:IntKind.i64.wrap q=q:=Mda;have yv:IntKind.i64.wrap (nu*q)=nu*q:=Mda;have Ld:IntKind.i64.wrap (0+nu*q)=nu*q:=by rw[Int.zero_add];exact yv
 have hvn:¬27720<nu*q:=Mcy;clear hS;go_enter Tryz.func85,Tryz.ntmps85
 go_upto_region 4 with fail
 clear bO;go_loopw [12] (fun i wr=>∃k:Nat,k<=1/\i=.int .i64 k/\(k=0->MapS wr w.heap.size ekSp (fun v:Value=>v) ([]:List (Spot×Value))/\MapS wr (w.heap.size+1) ekSp (fun v:Value=>v) ([]:List (Spot×Value)))/\Below w.heap.size w wr/\w.heap.size+2<=wr.heap.size) (fun i _=>1-(intOf i).toNat)
 case atStart=>
  refine⟨0,by omega,rfl,fun _=>⟨(MapS.new w).below (n:=w.heap.size+1) (zad (Below.refl _ _) _ McB) McB,?_⟩,Bw,by simp⟩;have:=MapS.new (ek:=ekSp) (ev:=fun v:Value=>v) (w.alloc (.map #[] 0));simpa using this
 case round=>
  obtain⟨k,hk,rfl,hm,hB,hsz⟩:=hrel;have HB:=zHi hB;have aG:=hB.size;by_cases ae:k<1
  ·obtain rfl:k=0:=by omega
   obtain⟨mM,sB⟩:=hm rfl;obtain⟨b,off,hA,hb,ah⟩:=(HS.o.keep hB).at (k:=0) McB;have i0:wr.cell? ⟨b,off,none⟩=some (.int .i64 3):=McZ;have i1:wr.cell? ⟨b,off+1,none⟩=some (.string nm):=by have:=ah 1 _ rfl;simpa using this
   have i2:wr.cell? ⟨b,off+2,none⟩=some (.string ot):=by have:=ah 2 _ rfl;simpa using this
   have i3:wr.cell? ⟨b,off+3,none⟩=some (.string pl):=by have:=ah 3 _ rfl;simpa using this
   have i4:wr.cell? ⟨b,off+4,none⟩=some (.int .i64 dy):=by have:=ah 4 _ rfl;simpa using this
   have i5:wr.cell? ⟨b,off+5,none⟩=some (.int .i64 tl):=by have:=ah 5 _ rfl;simpa using this
   have i6:wr.cell? ⟨b,off+6,none⟩=some (.int .i64 nu):=by have:=ah 6 _ rfl;simpa using this
   have i7:wr.cell? ⟨b,off+7,none⟩=some (.int .i64 de):=by have:=ah 7 _ rfl;simpa using this
   have fq:(0:Int)<=(c:Int):=Mcy;obtain⟨E9,jF⟩:=yH2 mM sB;subst hA;clear ah mM sB hB ae hm;obtain⟨WZ,fk⟩:∃WZ,WZ=(wr.alloc (.cells #[.int .i64 3,.string nm,.string ot,.string pl,.int .i64 dy,.int .i64 tl,.int .i64 nu,.int .i64 de] 67)).alloc (.cells #[.string pl,.int .i64 dy] 177):=⟨_,rfl⟩
   have eN:Below wr.heap.size wr WZ:=by rw[fk];exact Bw
   have fe:WZ.heap.size=wr.heap.size+2:=by rw[fk];simp
   have z0:WZ.heap[wr.heap.size]?=some (.cells #[.int .i64 3,.string nm,.string ot,.string pl,.int .i64 dy,.int .i64 tl,.int .i64 nu,.int .i64 de] 67):=by rw[fk];exact zal (zar _ _ _ rfl)
   have z1:WZ.heap[wr.heap.size+1]?=some (.cells #[.string pl,.int .i64 dy] 177):=by rw[fk];exact zar _ _ _ McB
   go_upto_region 7 with fail
   rw[<-fk];have dF:=zHi eN;clear fk i0 i1 i2 i3 i4 i5 i6 i7 eN;obtain⟨y0,y1⟩:=cF2 z0;obtain⟨x0,x1⟩:=cF2 z1;obtain⟨BC,zd⟩:=yH2 z0 z1;clear z0 z1;have cL:∀q',(Instr.lookup 175 (.map (some (w.heap.size+1))) (.agg #[.string pl,.int .i64 dy]) false).run Tryz.prog (WZ.drewN q')=.ok (.map none) (WZ.drewN q'):=fun q'=>zbk mapPM (jF.o.keep (w':=WZ.drewN q') (dF.o.block _ jF.o.at.lt)).at (pl,dy)
   have fu:∀q',(Instr.lookup 84 (.map none) (.string nm) false).run Tryz.prog (WZ.drewN q')=.ok (.bool false) (WZ.drewN q'):=fun q'=>zmL _ _
   have bO:= @run_makeMap Tryz.prog;go_quiet (fail)
   clear fu;have Dc:∀W,(binOp .eql 84 (.map none) (.map none)).run Tryz.prog W=.ok (.bool true) W:=tm_eql;have py:Below wr.heap.size wr ((WZ.drewN nq).alloc (.map #[] 0)):=dF.o.trans ((zad (zd3 (Below.refl _ _) _) _ (Nat.le_refl _)).mono Mcy);obtain⟨kF,zf⟩:=yH2 py fe;clear py fe;go_upto_region 10 with
    (at_mapUpdate
     obtain⟨w1,hrun,cd,bB,dN⟩:=zbY (P:=Tryz.prog) mapPM (jF.o.below kF.o) (pl,dy) (.map (some WZ.heap.size))
     go_loud(refine zc4 rfl _ _ _ rfl _ _ _ rfl rfl rfl w1 hrun ?_))
   clear bO cL Dc;have fe:=zf.o;have y9:w1.heap.size=WZ.heap.size+1:=by rw[dN];simp[World.drewN]
   have Fc:((WZ.drewN nq).alloc (.map #[] 0)).heap[WZ.heap.size]?=some (.map #[] 0):=zar _ _ _ (by simp[World.drewN]);have vH:∀j,j<WZ.heap.size+1->j≠w.heap.size+1->w1.heap[j]?=((WZ.drewN nq).alloc (.map #[] 0)).heap[j]?:=fun j hj ai=>bB.block j (by simp[World.drewN];exact hj) (by simpa using ai)
   have kf:w1.heap[wr.heap.size]?=_:=(vH _ Mcy Mcy).trans ((zal (w:=WZ.drewN nq) BC.o));have vX:w1.heap[wr.heap.size+1]?=_:=(vH _ Mcy Mcy).trans ((zal (w:=WZ.drewN nq) zd.o));have vZ:=E9.o.keep ((vH w.heap.size Mcy Mcy).trans (kF.o.block _ E9.o.at.lt));have cu:Below w.heap.size w w1:=zaQ ((HB.o.trans (kF.o.mono aG))) bB Mcy;have BY:MapS w1 WZ.heap.size ekS evB ([]:List (ByteArray×Bool)):=⟨#[],0,(vH _ Mcy Mcy).trans Fc,rfl,by simp,by simp⟩
   obtain⟨kk,fR⟩:∃kk,kk=WZ.heap.size:=⟨_,rfl⟩
   rw[<-fR]at cd BY y9 fe;have yE:wr.heap.size+2<=kk:=Mcy;have bV:kk<w1.heap.size:=Mcy;clear fR fe y9;have yg:(false=true\/(w1.drew.cell? ⟨wr.heap.size+1,0,none⟩=some (.string pl)/\w1.drew.cell? ⟨wr.heap.size+1,1,none⟩=some (.int .i64 dy)/\w1.drew.cell? ⟨wr.heap.size,1,none⟩=some (.string nm)/\(Instr.lookup 175 (.map (some (w.heap.size+1))) (.agg #[.string pl,.int .i64 dy]) false).run Tryz.prog w1.drew=.ok (.map (some kk)) w1.drew)):=by
    have h1:w1.drew.heap[wr.heap.size]?=_:=kf;have h2:w1.drew.heap[wr.heap.size+1]?=_:=vX;refine .inr ⟨by simp only[World.cell?,h2];rfl,by simp only[World.cell?,h2];rfl,by simp only[World.cell?,h1];rfl,?_⟩;have:=zbk mapPM (cd.keep (w':=w1.drew) rfl).at (pl,dy);exact Mbu
   obtain⟨w5,eZ,_,nF,DJ⟩:=zbY (P:=Tryz.prog) zli (BY.keep (w':=w1.drew) rfl) nm true;have zo:∀j,j<kk->w5.heap[j]?=w1.heap[j]?:=fun j hj=>nF.block j (by show j<w1.heap.size;omega) McD
   have tG:=(zo wr.heap.size Mcy).trans kf;have zB:=(zo (wr.heap.size+1) Mcy).trans vX;have hS5:=vZ.keep (zo w.heap.size Mcy);have jH:Below w.heap.size w w5:=zaQ (zaK cu) nF Mcy;have Lt:w1.heap.size<=w5.heap.size:=Nat.le_of_eq DJ.symm;have aR:=zHi jH;clear zo nF jH cu BY cd vZ kf vX Fc vH dN bB;refine zaB 5 (fun bb w'=>bb=true\/(w'.cell? ⟨wr.heap.size+1,0,none⟩=some (.string pl)/\w'.cell? ⟨wr.heap.size+1,1,none⟩=some (.int .i64 dy)/\w'.cell? ⟨wr.heap.size,1,none⟩=some (.string nm)/\(Instr.lookup 175 (.map (some (w.heap.size+1))) (.agg #[.string pl,.int .i64 dy]) false).run Tryz.prog w'=.ok (.map (some kk)) w')) Mcz yg ?hrest
   case hrest=>
    intro hHeld;refine TkM 0 ?_;refine TkM 1 ?_;refine TkM 2 ?_;refine TkM 3 ?_;refine TkM 4 ?_;refine OnM 5 true fun K hK=>?_
    refine ziH rfl _ _ _ rfl _ _ _ rfl rfl rfl w5 eZ ?_;refine NxM hK fun hHeld=>?_
    clear hK K;refine zaM Mcz ?_ _;clear hHeld eZ yg DJ;go_upto_region 11 with fail
    have yh:(false=true\/(w5.drew.cell? ⟨wr.heap.size+1,0,none⟩=some (.string pl)/\w5.drew.cell? ⟨wr.heap.size+1,1,none⟩=some (.int .i64 dy)/\w5.drew.cell? ⟨wr.heap.size,6,none⟩=some (.int .i64 nu)/\w5.drew.cell? ⟨wr.heap.size,7,none⟩=some (.int .i64 de)/\(Instr.lookup 174 (.map (some w.heap.size)) (.agg #[.string pl,.int .i64 dy]) false).run Tryz.prog w5.drew=.ok (.int .i64 0) w5.drew)):=by
     have h1:w5.drew.heap[wr.heap.size]?=_:=tG;have h2:w5.drew.heap[wr.heap.size+1]?=_:=zB;exact .inr ⟨by simp only[World.cell?,h2];rfl,by simp only[World.cell?,h2];rfl,by simp only[World.cell?,h1];rfl,by simp only[World.cell?,h1];rfl,zbk mapPV (hS5.keep (w':=w5.drew) rfl).at (pl,dy)⟩
    obtain⟨w6,st,jj,eC,ku,mU,eW,bC,GU⟩:=zk0 (P:=Tryz.prog) mapPV (hS5.keep (w':=w5.drew) rfl) (pl,dy);have oG:(mget eqSp (pl,dy) ([]:List (Spot×Value))).getD (.int .i64 0)=.int .i64 0:=rfl;rw[oG]at eC ku mU eW;have zp:∀j,j<w5.heap.size->j≠w.heap.size->w6.heap[j]?=w5.heap[j]?:=fun j hj ai=>bC.block j hj (by simpa using ai)
    have sJ:(false=true\/(w6.cell? ⟨wr.heap.size+1,0,none⟩=some (.string pl)/\w6.cell? ⟨wr.heap.size+1,1,none⟩=some (.int .i64 dy)/\w6.cell? ⟨wr.heap.size,6,none⟩=some (.int .i64 nu)/\w6.cell? ⟨wr.heap.size,7,none⟩=some (.int .i64 de)/\(Instr.lookup 174 (.map (some w.heap.size)) (.agg #[.string pl,.int .i64 dy]) false).run Tryz.prog w6=.ok (.int .i64 0) w6)):=by
     have h1:=(zp wr.heap.size Mcy Mcy).trans tG;have h2:=(zp (wr.heap.size+1) Mcy Mcy).trans zB;refine .inr ⟨by simp only[World.cell?,h2];rfl,by simp only[World.cell?,h2];rfl,by simp only[World.cell?,h1];rfl,by simp only[World.cell?,h1];rfl,?_⟩;have:=zbk mapPV ku.mapAt (pl,dy);exact Mbu
    obtain⟨w7,xV,sy,nG,GW⟩:=zdK (P:=Tryz.prog) ku eW 174 (.int .i64 (nu*q));rw[mU]at sy;have Lu:w5.heap.size<=w7.heap.size:=Nat.le_of_eq (GW.trans GU).symm;have EW:∀j,j<w5.heap.size->j≠w.heap.size->w7.heap[j]?=w5.heap[j]?:=fun j hj ai=>(nG.block j (by have:w5.drew.heap.size=w5.heap.size:=rfl;omega) (by simpa using ai)).trans (zp j hj ai)
    have KF:(Instr.lookup 174 (.map (some w.heap.size)) (.agg #[.string pl,.int .i64 dy]) false).run Tryz.prog w7=.ok (.int .i64 (nu*q)) w7:=by
     have:=zbk mapPV sy.at (pl,dy);exact Mbu
    have Fg:=(EW (wr.heap.size+1) Mcy Mcy).trans zB;obtain⟨j0,j1⟩:=cF2 Fg;have EL:Below w.heap.size w w7:=zaQ (zaQ (zaK aR.o) bC Mcy) nG Mcy;have cj:=zHi EL;clear EL sy EW zp nG bC Fg;refine zaB 14 (fun bb w'=>bb=true\/(w'.cell? ⟨wr.heap.size+1,0,none⟩=some (.string pl)/\w'.cell? ⟨wr.heap.size+1,1,none⟩=some (.int .i64 dy)/\w'.cell? ⟨wr.heap.size,6,none⟩=some (.int .i64 nu)/\w'.cell? ⟨wr.heap.size,7,none⟩=some (.int .i64 de)/\(Instr.lookup 174 (.map (some w.heap.size)) (.agg #[.string pl,.int .i64 dy]) false).run Tryz.prog w'=.ok (.int .i64 0) w')) Mcz yh ?hrest
    case hrest=>
     intro hHeld;refine TkM 0 ?_;refine TkM 1 ?_;refine TkM 2 ?_;refine TkM 3 ?_;refine TkM 4 ?_;refine TkM 5 ?_;refine TkM 6 ?_;refine TkM 7 ?_;refine TkM 8 ?_;refine TkM 9 ?_;refine TkM 10 ?_;refine TkM 11 ?_;refine OnM 12 false fun K hK=>?_
     refine zhc rfl _ _ rfl _ _ _ rfl rfl w6 eC ?_;refine NxM hK (fun hHeld=>?_) (sJ);clear hK K;refine OnM 13 false fun K hK=>?_
     go_simp
     refine NxM hK (fun hHeld=>?_) (sJ);clear hK K;refine OnM 14 true fun K hK=>?_
     refine zfR rfl _ _ _ rfl _ _ _ rfl rfl rfl w7 xV ?_;refine NxM hK fun hHeld=>?_
     clear hK K;refine zaM Mcz ?_ _;clear hHeld xV eC yh sJ ku mU eW tG zB hS5 oG;go_wp2_with fail
     go_round
     case rel=>exact⟨1,by omega,by go_num,fun h=>absurd h McA,cj.o,by omega⟩
     case measure=>simp only[intOf];omega
  ·have ar:¬(k:Int)<1:=Mcy;clear hB hm;exact MbJ
end
theorem zcM(s:ByteArray)(w:World)(hs:s.size<=100000):
 Calls Tryz.prog 37 #[.string s] w (Ret0 w (.bool (zcB s))):=by
 go_enter Tryz.func37,Tryz.ntmps37
 by_cases h0:s.size=0
 ·have H0:=zHi h0;have h1:(s.size:Int)<1:=Mcy;clear h0;go_wp2_with fail
  go_ret
  exact⟨by simp[zcB,h1],rfl⟩
 have IV:0<s.size:=Mcy;have hg:(zdp s).getD 0 0=(s[0].toNat:Int):=by simp only[zdp,List.getD_eq_getElem?_getD,List.getElem?_map,Array.getElem?_toList];rw[Array.getElem?_eq_getElem IV];rfl
 go_wp2_with (first
  |(go_at_call 70;refine(zjy _ _).mono ?_;intro e wq hq;rcases Ret0.bools hq with⟨rfl,⟨hb,rfl⟩|⟨hb,rfl⟩⟩<;>clear hq)
  |(go_at_call 71;refine(zkT _ _).mono ?_;intro e wq hq;rcases Ret0.bools hq with⟨rfl,⟨hb,rfl⟩|⟨hb,rfl⟩⟩<;>clear hq))
 ·have HG:=zHi hg;clear hg;go_loop [3] (fun i=>∃k:Nat,1<=k/\k<=s.size/\i=.int .i64 k/\zjf ((zdp s).drop 1)=zjf ((zdp s).drop k)) (fun i=>s.size-(intOf i).toNat)
  case atStart=>exact⟨1,by omega,by omega,rfl,rfl⟩
  case round=>
   obtain⟨k,fQ,hk,rfl,hf⟩:=hrel;by_cases ae:k<s.size
   ·rw[zhR s k ae,show s.data[k]=s[k]from rfl]at hf;have HF:=zHi hf;clear hf;have HL:=zHi ae
    go_wp2_with (first
     |(go_at_call 70;refine(zjy _ _).mono ?_;intro e wq hq;rcases Ret0.bools hq with⟨rfl,⟨hb,rfl⟩|⟨hb,rfl⟩⟩<;>clear hq)
     |(go_at_call 71;refine(zkT _ _).mono ?_;intro e wq hq;rcases Ret0.bools hq with⟨rfl,⟨hb,rfl⟩|⟨hb,rfl⟩⟩<;>clear hq))
    all_goals first
     |(go_round
       case rel=>exact⟨k+1,by omega,by have:=HL.o;omega,by go_num,by rw[HF.o,zjf,if_neg (by simp[*])]⟩
       case measure=>have:=HL.o;simp[intOf];omega)
     |(go_ret
       exact⟨by rw[zcB,HG.o,HF.o,zjf];simp[*],rfl⟩)
   ·have mO:(zdp s).drop k=[]:=List.drop_eq_nil_of_le (by rw[zgG];omega);rw[mO,zjf]at hf;clear mO;have HF:=zHi hf;clear hf;go_wp2_with fail
    go_ret
    exact⟨by rw[zcB,HG.o,HF.o];simp[*],rfl⟩
 ·go_ret
  exact⟨by rw[zcB,hg];simp[*],rfl⟩
 ·go_ret
  exact⟨by rw[zcB,hg];simp[*],rfl⟩
section
open Go.Shelf
attribute [local go_sem] zan zac
theorem zcN(n:Int)(w:World):Calls Tryz.prog 38 #[.int .i64 n] w (Ret0 w (.bool (zbn n))):=by
 go_enter Tryz.func38,Tryz.ntmps38
 exact Mam
theorem zhw(a b:Int)(w:World):Calls Tryz.prog 106 #[.agg #[.int .i64 a,.int .i64 b]] w (Ret w (.bool (za8 16 a b))):=by
 go_enter Tryz.func106,Tryz.ntmps106
 by_cases h1:inR b 1 16=true
 ·by_cases h2:inR a 0 b=true
  ·have x1:1<=b/\b<=16:=by simpa[inR]using h1
   have x2:0<=a/\a<=b:=by simpa[inR]using h2
   have g1:a.natAbs<=4611686018427387904:=Mcy;have g2:b.natAbs<=4611686018427387904:=Mcy;obtain⟨G1,G2⟩:=yH2 g1 g2;have hv:za8 16 a b=((Int.gcd a b:Int)==1):=by
    unfold za8;simp only[x1.1,x1.2,x2.1,x2.2,decide_true,Bool.true_and];rw[Bool.eq_iff_iff,beq_iff_eq,beq_iff_eq];omega
   have HV:=zHi hv;clear g1 g2 hv x1 x2
   go_wp2_with (first
    |(go_at_call 72;refine(zct _ _ _ _).mono ?_;rintro e wq ⟨rfl,rfl⟩)
    |(go_at_call 134;refine(znT _ _ _ G1.o G2.o).mono ?_;rintro e w1 ⟨rfl,z1,rfl⟩))
   all_goals go_ret
   all_goals exact Ret.of (zaO (by rw[HV.o])) Bw
  ·have hv:za8 16 a b=false:=by
    unfold za8;simp[inR]at h1 h2⊢;omega
   exact MaV
 ·have hv:za8 16 a b=false:=by
   unfold za8;simp[inR]at h1⊢;omega
  exact MaV
def zdR(p:RPart):Bool:=za8 16 p.num p.den&&p.num != 0
def sumR:List RPart->Rat->Rat×Bool
 | [],o=>(o,true)
 |p::l,o=>if zdR p then sumR l (o+p.rat)else(o,false)
theorem zjN{k:Nat}{o:Rat}(hk:k<=1000)(h:IsN 720720 o)(h0:0<=o)(h1:o<=(k:Rat)):zaI o:=by
 have hd:=zke McA h;have hn:0<=o.num:=Rat.num_nonneg.2 h0;have h2:=(Rat.le_iff o (k:Rat)).1 h1;have e1:((k:Rat)).num=(k:Int):=Rat.num_natCast k;have e2:((k:Rat)).den=1:=Rat.den_natCast k;rw[e1,e2]at h2;have h3:o.num<=(k:Int)*(o.den:Int):=Mek;have h4:(k:Int)*(o.den:Int)<=1000*720720:=Int.mul_le_mul Mcy Mcy Mcy Mcy;exact⟨by omega,by omega⟩
theorem zof(l:List RPart)(A:Option Addr)(c:Nat)(w:World)(hl:l.length<=1000)(hS:Sl w 3 RPart.cells A l):Calls Tryz.prog 138 #[.slice A l.length c] w (Ret w (.tuple #[zaA (sumR l 0).1,.bool (sumR l 0).2])):=by
 have HS:=zHi hS;obtain⟨R,hR⟩:∃R,R=sumR l 0:=⟨_,rfl⟩
 rw[<-hR];have HR:=zHi hR;clear hS hR;go_enter Tryz.func138,Tryz.ntmps138
 go_upto_region 2 with(go_at_call 41;go_must(refine(ziC _).mono ?_);rintro e wq ⟨rfl,z0,rfl⟩)
 obtain⟨OB,jI⟩:∃OB,OB=w.heap.size+1+z0.os.size:=⟨_,rfl⟩
 obtain⟨W0,am⟩:∃W0,W0=((w.alloc (.cells #[.int .i64 0,.int .i64 0] 31)).ext z0).alloc (.cells #[.int .i64 0,.int .i64 1] 31):=⟨_,rfl⟩
 have b0:W0.heap[w.heap.size]?=some (.cells #[.int .i64 0,.int .i64 0] 31):=by rw[am];exact zal (zbD (zar _ _ _ rfl))
 have b1:W0.heap[OB]?=some (.cells #[.int .i64 0,.int .i64 1] 31):=by rw[am];exact zar _ _ _ (by rw[jI];simp[zaf])
 have aK:Below w.heap.size w W0:=Mdb;rw[<-am,<-jI];have aj:=zHi aK;have cV:w.heap.size<OB:=Mcy;clear am aK jI;go_upto_region 3 with fail
 go_loopw [5] (fun i wr=>∃(k:Nat) (o:Rat),k<=l.length/\i=.int .i64 k/\Hid (R=sumR (l.drop k) o)/\Hid (IsN 720720 o/\0<=o/\o<=(k:Rat))/\Below w.heap.size w wr/\wr.heap[w.heap.size]?=some (.cells #[.int .i64 0,.int .i64 0] 31)/\wr.heap[OB]?=some (.cells #[.int .i64 o.num,.int .i64 o.den] 31)) (fun i _=>l.length-(intOf i).toNat)
 case atStart=>exact⟨0,0,Nat.zero_le _,rfl,by rw[List.drop_zero];exact HR.o,zHi ⟨zkd _,Rat.le_refl,by simp⟩,aj.o,b0,b1⟩
 case round=>
  obtain⟨k,o,hk,rfl,HX,HN,hB,g0,g1⟩:=hrel;have HB:=zHi hB;have aG:=hB.size;have x0:=zab g0;have x1:=zab g1;obtain⟨c0,c1⟩:=cF2 g1;obtain⟨t0,t1⟩:=cF2 g0;have f0:∀j,wr.frozen? ⟨w.heap.size,j,none⟩=false:=fun j=>by simp[World.frozen?,g0]
  by_cases ae:k<l.length
  ·obtain⟨b,off,rfl,hb,ah⟩:=(HS.o.keep hB).at ae;have hx:=HX.o;rw[List.drop_eq_getElem_cons ae,sumR]at hx;obtain⟨au,ak⟩:=yH2 hx ae;generalize l[k]=x at*;obtain⟨nm,nu,de⟩:=x;have i1:wr.cell? ⟨b,off+k*3+1,none⟩=some (.int .i64 nu):=ah 1 _ rfl;have i2:wr.cell? ⟨b,off+k*3+2,none⟩=some (.int .i64 de):=ah 2 _ rfl;have ar:(k:Int)<(l.length:Int):=Mcy;have aQ:(0:Int)<=(k:Int):=Mcy;have nW:=zHi (fun W=>zhw nu de W);clear ah hx ae hB;cases bA:za8 16 nu de
   ·have HE:Hid (R=(o,false)):=by show _=_;rw[au.o];simp[zdR,bA]
    rw[bA]at nW;exact MS
   ·rw[bA]at nW;by_cases hz:nu=0
    ·subst hz;have HE:Hid (R=(o,false)):=by show _=_;rw[au.o];simp[zdR]
     exact MS
    ·have iT:(nu==0)=false:=MdD;have li:=zbm bA;have CT:=zel bA;have lh:=li.1;have Gs:=li.2.1;generalize hq:Rat.divInt nu de=q at*;have HE:Hid (R=sumR (l.drop (k+1)) (o+q)):=by show _=_;rw[au.o];unfold zdR RPart.rat;simp only;rw[bA,hq];simp[hz]
     have hn:=HN.o;have fQ:((k+1:Nat):Rat)=(k:Rat)+1:=McB;have kM:Hid (IsN 720720 (o+q)/\0<=o+q/\o+q<=((k+1:Nat):Rat)):=by
      refine zHi ⟨zkb hn.1 CT,?_,?_⟩
      ·have:=li.2.2.1;have:=hn.2.1;grind
      ·rw[fQ];have:=li.2.2.2;have:=hn.2.2;grind
     have q8:zaI o:=zjN Mcy hn.1 hn.2.1 hn.2.2;have dw:zaI q:=zjN (k:=1) Mcy CT li.2.2.1 (by simpa using li.2.2.2);have jQ:=zHi (fun W=>znU o q W q8 dw);unfold zaA at jQ;rw[lh,Gs]at jQ;clear li CT lh Gs hq hn fQ q8 dw bA;go_upto_region 7 with(go_at_call 106;go_must(refine(nW.o _).mono ?_);rintro e wq ⟨rfl,z,rfl⟩)
     have j1:(wr.ext z).cell? ⟨b,off+k*3+1,none⟩=some (.int .i64 nu):=(za4 _ _ _ _ hb).trans i1;have j2:(wr.ext z).cell? ⟨b,off+k*3+2,none⟩=some (.int .i64 de):=(za4 _ _ _ _ hb).trans i2;have y0:(wr.ext z).heap[w.heap.size]?=_:=zbD g0;have y1:(wr.ext z).heap[OB]?=_:=zbD g1;have Fx:Below w.heap.size w (wr.ext z):=zbv HB.o z;clear c0 c1 t0 t1 f0 i1 i2 g0 g1 hb aG x0 x1;generalize wr.ext z=WY at*;have fx:=zHi Fx;obtain⟨c0,c1⟩:=cF2 y1;clear Fx;refine zaB 6 (fun bb w'=>bb=true\/(w'.cell? ⟨OB,0,none⟩=some (.int .i64 o.num)/\w'.cell? ⟨OB,1,none⟩=some (.int .i64 o.den)/\w'.cell? ⟨b,off+k*3+1,none⟩=some (.int .i64 nu)/\w'.cell? ⟨b,off+k*3+2,none⟩=some (.int .i64 de))) Mcz (.inr ⟨c0,c1,j1,j2⟩) ?hrest
     case hrest=>
      intro hHeld;refine TkM 0 ?_;refine TkM 1 ?_;refine TkM 2 ?_;refine TkM 3 ?_;refine TkM 4 ?_;refine TkM 5 ?_;refine OnM 6 true fun K hK=>?_
      go_simp
      refine(jQ.o _).mono ?_;rintro e w5 ⟨rfl,z5,rfl⟩;have v0:(WY.drew.ext z5).heap[w.heap.size]?=_:=zbD (w:=WY.drew) y0;have v1:(WY.drew.ext z5).heap[OB]?=_:=zbD (w:=WY.drew) y1;have ao:Below w.heap.size w (WY.drew.ext z5):=zbv (zaK fx.o) z5;refine NxM hK fun hHeld=>?_
      clear hK K;generalize WY.drew.ext z5=W5 at*;obtain⟨s0,s1⟩:=cF2 v1;have sf:∀j,W5.frozen? ⟨OB,j,none⟩=false:=fun j=>by simp[World.frozen?,v1]
      refine OnM 7 true fun K hK=>?_
      go_simp
      refine NxM hK fun hHeld=>?_
      clear hK K;refine zaM Mcz ?_ _;clear hHeld;go_wp2_with fail
      go_round
      case rel=>exact⟨k+1,o+q,ak.o,by go_num,HE,kM,zaP (zaP ao McD _) McD _,J_ne Mcy (J_ne Mcy v0),zek v1⟩
      case measure=>have:=ak.o;simp only[intOf];omega
  ·have ar:¬(k:Int)<(l.length:Int):=Mcy;have HE:Hid (R=(o,true)):=by show _=_;rw[HX.o,List.drop_of_length_le Mcy];rfl
   clear hB;go_wp2_with fail
   rw[HE.o];refine bodyPost_ret (v:=.tuple #[zaA o,.bool true]) ?_ rfl ?_
   ·exact zg0 rfl _ _ w.heap.size _ _ _ rfl rfl (zek g0)
   ·exact Ret.of rfl (zaP (zaP HB.o McB _) McB _)
def sixV(a b c d e f:Int):Value:=.agg #[.int .i64 a,.int .i64 b,.int .i64 c,.int .i64 d,.int .i64 e,.int .i64 f]
def zkH(k:Int):Value:=if k=0 then sixV 1 0 2 1 1 1 else if k=1 then sixV 1 1 2 1 0 0 else if k=2 then sixV 1 1 0 0 0 0 else if k=3 then sixV 1 0 0 0 0 1 else if k=4 then sixV 0 1 2 1 0 0 else if k=8 then sixV 0 1 0 0 0 0 else sixV 0 1 1 0 0 0
theorem znb{fn:Func}{p:Tmp}(h:fn.results= #[.cell p 187])(tmps:Array Value)(w:World)(B:Nat)(a b c d e f:Int)(hp:tmps.getD p undef=.pointer (some ⟨B,0,none⟩))
 (h0:w.cell? ⟨B,0,none⟩=some (.int .i64 a))(h1:w.cell? ⟨B,1,none⟩=some (.int .i64 b))(h2:w.cell? ⟨B,2,none⟩=some (.int .i64 c))(h3:w.cell? ⟨B,3,none⟩=some (.int .i64 d))(h4:w.cell? ⟨B,4,none⟩=some (.int .i64 e))(h5:w.cell? ⟨B,5,none⟩=some (.int .i64 f)):
 (results fn tmps).run Tryz.prog w=.ok (sixV a b c d e f) w:=by
 rw[zdC h,hp];unfold sixV;go_simp
theorem znc(k:Int)(w:World):Calls Tryz.prog 135 #[.int .i64 k] w (Ret w (zkH k)):=by
 unfold zkH;go_enter Tryz.func135,Tryz.ntmps135
 by_cases h0:k=0
 ·rw[if_pos h0];subst h0;go_wp2_with fail
  refine bodyPost_ret (v:=sixV 1 0 2 1 1 1) ?_ rfl ?_
  ·exact MV
  ·exact Ret.of rfl Bw
 rw[if_neg h0];have e0:(k==0)=false:=MdC;by_cases h1:k=1
 ·rw[if_pos h1];subst h1;go_wp2_with fail
  refine bodyPost_ret (v:=sixV 1 1 2 1 0 0) ?_ rfl ?_
  ·exact MV
  ·exact Ret.of rfl Bw
 rw[if_neg h1];have e1:(k==1)=false:=Mc4;by_cases h2:k=2
 ·rw[if_pos h2];subst h2;go_wp2_with fail
  refine bodyPost_ret (v:=sixV 1 1 0 0 0 0) ?_ rfl ?_
  ·exact MV
  ·exact Ret.of rfl Bw
 rw[if_neg h2];have e2:(k==2)=false:=Mek;by_cases h3:k=3
 ·rw[if_pos h3];subst h3;go_wp2_with fail
  refine bodyPost_ret (v:=sixV 1 0 0 0 0 1) ?_ rfl ?_
  ·exact MV
  ·exact Ret.of rfl Bw
 rw[if_neg h3];have e3:(k==3)=false:=by simpa using h3
 by_cases h4:k=4
 ·rw[if_pos h4];subst h4;go_wp2_with fail
  refine bodyPost_ret (v:=sixV 0 1 2 1 0 0) ?_ rfl ?_
  ·exact MV
  ·exact Ret.of rfl Bw
 rw[if_neg h4];have e4:(k==4)=false:=by simpa using h4
 by_cases h8:k=8
 ·rw[if_pos h8];subst h8;go_wp2_with fail
  refine bodyPost_ret (v:=sixV 0 1 0 0 0 0) ?_ rfl ?_
  ·exact MV
  ·exact Ret.of rfl Bw
 rw[if_neg h8];have e8:(k==8)=false:=by simpa using h8
 go_wp2_with fail
 refine bodyPost_ret (v:=sixV 0 1 1 0 0 0) ?_ rfl ?_
 ·exact MV
 ·exact Ret.of rfl Bw
def zh3(p:RPart):Bool:=p.num==0&&p.den==0
theorem rBare_any(l:List RPart)(A:Option Addr)(c:Nat)(w:World)(hl:l.length<=1000000000)(hS:Sl w 3 RPart.cells A l):Calls Tryz.prog 137 #[.slice A l.length c] w (Ret0 w (.bool (l.all zh3))):=by
 have HS:=zHi hS;obtain⟨R,hR⟩:∃R,R=l.all zh3:=⟨_,rfl⟩
 rw[<-hR];have HR:Hid (R=(l.drop 0).all zh3):=Men;clear hS hR;go_enter Tryz.func137,Tryz.ntmps137
 go_upto_region 2 with fail
 go_loopw [3] (fun i wr=>∃k:Nat,k<=l.length/\i=.int .i64 k/\w=wr/\Hid (R=(l.drop k).all zh3)) (fun i _=>l.length-(intOf i).toNat)
 case atStart=>exact⟨0,Nat.zero_le _,rfl,rfl,HR.o⟩
 case round=>
  obtain⟨k,hk,rfl,rfl,HX⟩:=hrel;by_cases ae:k<l.length
  ·obtain⟨b,off,rfl,hb,ah⟩:=HS.o.at ae;have hx:=HX.o;rw[List.drop_eq_getElem_cons ae,List.all_cons]at hx;obtain⟨au,ak⟩:=yH2 hx ae;generalize l[k]=x at*;obtain⟨nm,nu,de⟩:=x;have i1:w.cell? ⟨b,off+k*3+1,none⟩=some (.int .i64 nu):=ah 1 _ rfl;have i2:w.cell? ⟨b,off+k*3+2,none⟩=some (.int .i64 de):=ah 2 _ rfl;have ar:(k:Int)<(l.length:Int):=Mcy;have aQ:(0:Int)<=(k:Int):=Mcy;clear ah hx ae;by_cases h1:nu=0
   ·subst h1;by_cases h2:de=0
    ·subst h2;have HE:Hid (R=(l.drop (k+1)).all zh3):=MdP;go_wp2_with fail
     exact MH
    ·have h3:(de==0)=false:=Mek;have HE:Hid (R=false):=by show _=_;rw[au.o];simp[zh3,h3]
     exact M3
   ·have h3:(nu==0)=false:=Mc4;have HE:Hid (R=false):=by show _=_;rw[au.o];simp[zh3,h3]
    exact M3
  ·have ar:¬(k:Int)<(l.length:Int):=Mcy;have HE:Hid (R=true):=by show _=_;rw[HX.o,List.drop_of_length_le Mcy];rfl
   exact M3
def zd1(l:List RPart)(frm:ByteArray)(k:Nat):Bool:=zcY (l.drop k) ((l.take k).map (·.name)).reverse&&(l.drop k).all fun p=>!zae p.name frm
def clash(l:List RPart)(x:ByteArray)(j m:Nat):Bool:=((l.take m).drop j).any fun p=>zae x p.name
theorem zoZ{l:List RPart}{frm:ByteArray}{k:Nat}(h:k<l.length):zd1 l frm k=(!clash l l[k].name 0 k&&(!zae l[k].name frm&&zd1 l frm (k+1))):=by
 unfold zd1 clash;rw[List.drop_eq_getElem_cons h,zcY,List.all_cons,List.take_add_one,List.getElem?_eq_getElem h,List.drop_zero];have e:((l.take k).map (·.name)).reverse.any (zae l[k].name)=(l.take k).any fun p=>zae l[k].name p.name:=by
  rw[List.any_reverse,List.any_map];rfl
 rw[e];simp only[Option.toList_some,List.map_append,List.map_cons,List.map_nil,List.reverse_append,List.reverse_cons,List.reverse_nil,List.nil_append,List.singleton_append];cases(l.take k).any fun p=>zae l[k].name p.name<;>cases zae l[k].name frm<;>simp
theorem zpa{l:List RPart}{x:ByteArray}{j m:Nat}(h:j<m)(hm:m<l.length):clash l x j m=(zae x (l[j]' Mcy).name||clash l x (j+1) m):=by
 unfold clash;have hj:j<(l.take m).length:=Mdg;rw[List.drop_eq_getElem_cons hj,List.any_cons,List.getElem_take]
theorem clash_end{l:List RPart}{x:ByteArray}{j m:Nat}(h:¬j<m):clash l x j m=false:=by
 unfold clash;rw[List.drop_of_length_le Mdg];rfl
end
open Go.Shelf Go.Sort
theorem own_put{α β:Type}[Inhabited β]{e:TypeId}{f:α->List Value}{enc:β->Value}{w:World}{base g o cap n:Nat}{cur:Array Value}{d:Array β}{L:List α}{os:Array Obj}(hg:w.heap[g]?=some (.cells cur e (0,0)))(hb:base<=g)(hc:L.length<=cap)(hm:cap<=maxLen)(hs:o+cap*1<=cur.size)(hd:d.size=L.length)(hf:L.flatMap f=d.toList.map enc):
 OwnS (Sort.grow (putRow enc (Sort.ahead w n) g o d) os) base e 1 f (.slice (some ⟨g,o,none⟩) L.length cap) L:=by
 have hl:=zab hg;refine .inr ⟨g,o,cap,putCells enc o d cur,rfl,hb,?_,hc,hm,by unfold putCells;rw[Array.size_mapIdx];exact hs,?_⟩
 ·exact Maz
 ·intro j u hu;rw[hf,List.getElem?_map]at hu;cases hj:d.toList[j]? with
  |none=>rw[hj]at hu;cases hu
  |some x=>
   rw[hj]at hu;have cQ:j<d.size:=by have:=(List.getElem?_eq_some_iff.1 hj).1;simpa using this
   have hx:d[j]! =x:=by
    rw[getElem!_pos d j cQ];have:=(List.getElem?_eq_some_iff.1 hj).2;simpa using this
   have Kq:o+j<cur.size:=Mcy;have e1:o+j-o=j:=Mcy;unfold putCells;rw[Array.getElem?_mapIdx,Array.getElem?_eq_getElem Kq,Option.map_some,if_pos ⟨by omega,by omega⟩,e1,hx];exact hu
theorem put_grown{β:Type}[Inhabited β]{enc:β->Value}{w:World}{g o n:Nat}(d:Array β)(os:Array Obj):w.grownBy (Sort.grow (putRow enc (Sort.ahead w n) g o d) os) (some g):=by
 refine⟨rfl,rfl,rfl,?_,fun k hk ai=>?_⟩
 ·exact Ma9
 ·have FX:¬g=k:=fun e=>ai (by rw[e])
  exact MaA
theorem holds_own{α β:Type}[Inhabited β]{e:TypeId}{f:α->List Value}{enc:β->Value}{w:World}{g o:Nat}{cur:Array Value}{d:Array β}{L:List α}(hg:w.heap[g]?=some (.cells cur e (0,0)))(hf:L.flatMap f=d.toList.map enc)(hx:∀j u,(L.flatMap f)[j]?=some u->cur[o+j]?=some u):Sort.Holds enc w g o d:=fun j hj=>by
 have h1:=hx j (enc d[j]!) (by rw[hf,List.getElem?_map,List.getElem?_eq_getElem Meg,getElem!_pos d j hj];rfl);exact⟨by simp only[World.cell?,hg];exact h1,by simp[World.frozen?,hg]⟩
theorem zhx{w w0 W:World}{v:Value}{base:Nat}(h:w0.heap.size<=base)(hv:∀g,za5 v=some g->base<=g)(hg:w.grownBy W (za5 v))(hB:Below w0.heap.size w0 w):Below w0.heap.size w0 W:=
 hB.trans ⟨hg.os,hg.tape,hg.output,hg.size,fun k hk=>hg.block k (Nat.lt_of_lt_of_le hk hB.size) fun e=>by have:=hv k e.symm;omega⟩
def txOf(l:List UInt8):ByteArray:=⟨l.toArray⟩
theorem txOf_data(b:ByteArray):txOf b.data.toList=b:=by cases b;simp[txOf]
theorem map_tx:∀l:List ByteArray,(l.map (·.data.toList)).map txOf=l
 | []=>rfl
 |b::l=>by rw[List.map_cons,List.map_cons,map_tx l,txOf_data]
theorem znd:∀l:List (List UInt8),(l.map txOf).flatMap sC=l.map encStr
 | []=>rfl
 |b::l=>by rw[List.map_cons,List.flatMap_cons,znd l];rfl
theorem tx_less(x y:List UInt8):zbh (txOf x) (txOf y)=decide (x<y):=by
 unfold zbh txOf;rw[ByteArray.toList_eq,ByteArray.toList_eq,Proofs.bytesLess_eq]
theorem sortT_any(v:Value)(xs:List ByteArray)(base:Nat)(w:World)(aa:OwnS w base 9 1 sC v xs)(hl:xs.length<=1000000000):
 Calls Tryz.prog 35 #[v] w (fun e w'=>e=.returned (.tuple #[])/\∃L,L.Perm xs/\(L.Pairwise fun a b=>zbh b a=false)/\OwnS w' base 9 1 sC v L/\w.grownBy w' (za5 v)):=by
 rcases aa with⟨rfl,rfl⟩|⟨g,o,cap,cur,rfl,hb,hg,hc,hm,hs,hx⟩
 ·have aZ:=AnyG.slices_Sort_string_none srtStr none 0 w;change Calls Tryz.prog 35 _ _ _ at aZ;refine aZ.mono ?_;rintro e wq ⟨rfl,rfl⟩;exact⟨rfl,[],List.Perm.refl _,List.Pairwise.nil,OwnS.nil,zdk _ _⟩
 ·obtain⟨ss,nM⟩:∃ss,ss=xs.map (·.data.toList):=⟨_,rfl⟩
  have bv:xs=ss.map txOf:=by rw[nM,map_tx]
  have ag:ss.length=xs.length:=by rw[nM,List.length_map]
  have aZ:=AnyG.slices_Sort_string srtStr g o cap ss w (holds_own (f:=sC) (L:=xs) hg (by rw[bv];exact znd ss) hx) (zab hg) Mcy;change Calls Tryz.prog 35 _ _ _ at aZ;rw[ag]at aZ;refine aZ.mono ?_;rintro e wq ⟨rfl,n,os,rfl⟩;have hp:(ss.mergeSort fun x y=>decide (x<=y)).Perm ss:=List.mergeSort_perm _ _;have q8:(ss.mergeSort fun x y=>decide (x<=y)).Pairwise fun a b=>decide (a<=b)=true:=List.pairwise_mergeSort (le:=fun a b=>decide (a<=b)) (fun a b c h1 h2=>by simp only[decide_eq_true_eq]at*;exact List.le_trans h1 h2) (fun a b=>by simp only[Bool.or_eq_true,decide_eq_true_eq];exact List.le_total a b) ss
  generalize(ss.mergeSort fun x y=>decide (x<=y))=ts at*;have cn:(ts.map txOf).length=xs.length:=by rw[List.length_map,hp.length_eq,ag]
  refine⟨rfl,ts.map txOf,by rw[bv];exact hp.map _,?_,by rw[<-cn];exact own_put hg hb Mcy hm hs McB (znd ts),put_grown _ _⟩;rw[List.pairwise_map];refine q8.imp fun {a b} h=>?_
  rw[tx_less];simpa using h
