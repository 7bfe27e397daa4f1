import Derived.Test.YtogklihlgindkaaGreatDoorSD
set_option linter.all false
set_option maxRecDepth 100000
set_option maxHeartbeats 4000000
namespace Go.Proofs.YtogklihlgindkaaGreatDoor
open Go.RowKit Go.Shelf
attribute [local go_sem] World.cell?_alloc_mark zaf za3 zam za6 zat zau zav zaw zax zay zaz
attribute [local go_sem] zao zac
variable{place:ByteArray}{k:Nat}
def days_snoc{laws:List Law}{ds:List Deed}{l:List Deed}(h:k<l.length):zel laws ds place (l.take (k+1))=zel laws ds place (l.take k)++(l[k].day::zek place (zaI laws ds l[k].day).1.graves):=by
 unfold zel;rw[List.take_succ_eq_append_getElem h,List.flatMap_append];simp
def ends_snoc{gs:List Grave}(h:k<gs.length):zek place (gs.take (k+1))=zek place (gs.take k)++if(zae gs[k].place place&&decide (0<=gs[k].fin))=true then[gs[k].fin]else[]:=by
 unfold zek;rw[List.take_succ_eq_append_getElem h,List.filter_append,List.map_append];cases hq:(zae gs[k].place place&&decide (0<=gs[k].fin))<;>simp[hq]
def ends_len(place:ByteArray)(gs:List Grave):(zek place gs).length<=gs.length:=by
 unfold zek;exact Mbw
variable{w W:World}{rv:Option Nat}{b o:Nat}
def znT(h:w.grownBy W rv)(hb:b<w.heap.size)(ai:some b≠rv):W.cell? ⟨b,o,none⟩=w.cell? ⟨b,o,none⟩:=by
 simp only[World.cell?,h.block b hb ai]
variable{W':World}
def gr_then{row':Option Nat}(h:w.grownBy W rv)(k:W.grownBy W' row')(hr:∀g,row'=some g->rv=some g\/w.heap.size<=g):w.grownBy W' rv:=
 ⟨k.os.trans h.os,k.tape.trans h.tape,k.output.trans h.output,Nat.le_trans h.size k.size,λj hj ai=>(k.block j (Nat.lt_of_lt_of_le hj h.size) λe=>(hr j e.symm).elim (λe2=>ai e2.symm) λe2=>by omega).trans (h.block j hj ai)⟩
variable{x:Int}{t:TypeId}{fr:Nat×Nat}
def sl_z1(h:w.heap[b]?=some (.cells #[.int .i64 x] t fr)):Sl w 1 zC (some ⟨b,0,none⟩) [x]:=λ_=>⟨b,0,rfl,zab h,λk y hy j u hu=>by
 have hk:k=0:=Mc2;subst hk;simp only[List.getElem?_cons_zero,Option.some.injEq]at hy;subst hy;match j,hu with
 |0,hu=>simp[zC]at hu;simp[World.cell?,h,<-hu]
 |j+1,hu=>simp[zC]at hu⟩
structure TX where
 day:Int
 hs:Parts
 A:Option Addr
 c:Nat
def TX.cells(x:TX):List Value:=[.int .i64 x.day,.slice x.A x.hs.length x.c]
def zeT(x:TX):x.cells.length=2:=rfl
def zko(x:TX):∀u∈x.cells,u.oneCell'=true:=by simp[TX.cells,Value.oneCell']
def zlj:ElTy Tryz.prog 28 38 2 32:=zdm (z:=.agg #[.int .i64 0,.slice none 0 0]) McT McT rfl McU
def zpZ{x:TX}(h:w.heap[b]?=some (.cells #[.int .i64 x.day,.slice x.A x.hs.length x.c] t fr)):Sl w 2 TX.cells (some ⟨b,0,none⟩) [x]:=λ_=>⟨b,0,rfl,zab h,λk y hy j u hu=>by
 have hk:k=0:=Mc2;subst hk;simp only[List.getElem?_cons_zero,Option.some.injEq]at hy;subst hy;match j,hu with
 |0,hu=>simp[TX.cells]at hu;simp[World.cell?,h,<-hu]
 |1,hu=>simp[TX.cells]at hu;simp[World.cell?,h,<-hu]
 |j+2,hu=>simp[TX.cells]at hu⟩
def befT(txs:List TX):Parts:=(txs.getLast?.map (·.hs)).getD []
def txP(x:TX):Int×Parts:=(x.day,x.hs)
def HsAt(W:World)(txs:List TX):Prop:= ∀x∈txs,Ro W 55 zaa x.A x.hs/\x.hs.length<=100000
variable{base:Nat}{v:Value}{txs:List TX}
def HsAt.row{us:List TX}(h:HsAt W txs)(ho:OwnS W base 38 2 TX.cells v us)(hg:W.grownBy W' (za4 v)):HsAt W' txs:=λx hx=>by
 obtain⟨h1,h2⟩:=h x hx;refine⟨?_,h2⟩;cases hb:za4 v with
 |none=>
  rw[hb]at hg;exact h1.same λb cur fr hc _=>hg.block b (zab hc) (λe=>by cases e)
 |some g=>
  obtain⟨cur,mV⟩:=ziS ho hb;rw[hb]at hg;exact h1.kept hg mV McU
variable{i:Nat}
def zlk{y:Nat}(h:y=i+1)(hl:y<1000000000):IntKind.i64.wrap ((y:Int)-1)=(i:Int):=by
 subst h;rw[IntKind.wrap_i64];omega
def bef_at(h:txs.length=i+1):befT txs=(txs[i]' McS).hs:=by
 unfold befT;rw[List.getLast?_eq_getElem?,show txs.length-1=i by omega,List.getElem?_eq_getElem McS];rfl
def TenApi(w:World)(laws:List Law)(ds:List Deed)(place:ByteArray)(E:Int)(e:Ending)(w':World):Prop:=
 Qa w w'/\((E≠0/\e=.returned (.tuple #[.slice none 0 0,.int .i64 E]))\/
  (E=0/\∃A c txs L,e=.returned (.tuple #[.slice A txs.length c,.int .i64 0])/\Sl w' 2 TX.cells A txs/\(∀x∈txs,Sl w' 3 zaa x.A x.hs)/\L.Pairwise (· < ·)/\(∀x,x∈L↔x∈zel laws ds place ds)/\txs.map (λx=>(x.day,x.hs))=zfI (hOn laws ds place) L []))
def zmC(laws:List Law)(ds:List Deed)(place:ByteArray)(LA:Option Addr)(n nc:Nat)(DA:Option Addr)(m mc:Nat)(w:World)(hR:RightsIn w laws ds LA n nc DA m mc)(hF:FormsIn w)(hL:LensIn w)(hO:∀d∈ds,zdQ d)(hp:place.size<=100000)(iu:ds.length<=1000):
 Calls Tryz.prog 6 #[.agg #[.slice LA n nc,.slice DA m mc],.string place] w (TenApi w laws ds place (zce laws ds [place] 0)):=by
 obtain⟨lm,vS,aK,oB⟩:=yH4 (λW (hB:Qa w W) NA (hS:Sl W 1 sC NA [place])=>on_any laws ds 0 [place] LA n nc DA m mc NA 1 1 W (hR.keep hB) (hF.keep hB) (hL.keep hB) hO rfl McV (by simpa using hp) hS) (λ(dy:Int) W (hB:Qa w W)=>zhp laws ds dy LA n nc DA m mc W (hR.keep hB) (hF.keep hB) (hL.keep hB) hO) (λ(h:zce laws ds [place] 0=0) (dy:Int)=>(zkd (znG h).1 dy).1) (λ(h:zce laws ds [place] 0=0)=>days_ok h place);obtain⟨rfl,rfl,xY,lI,fT,gV⟩:=hR;have eW:=zHi gV;clear hF hL hO hp fT gV;unfold zmk at lm;generalize zce laws ds [place] 0=E at*;go_enter Tryz.func6,Tryz.ntmps6
 have eH:∀W,Below (w.heap.size+1) (w.alloc (.cells #[.slice LA laws.length nc,.slice DA ds.length mc] 25)) W->W.heap[w.heap.size]?=some (.cells #[.slice LA laws.length nc,.slice DA ds.length mc] 25):=λW hW=>(hW.block _ McS).trans (zas _ _ _ rfl)
 have lC:=zHi eH;clear eH;by_cases h0:E=0;rotate_left 1
 ·have K2:(E != 0)=true:=MdX;have HE:=zHi h0;clear h0
  go_wp2_with (go_at_call 18
               go_must(refine(lm.o _ Bw _ (zcU (zas _ _ _ McV))).mono ?_)
               rintro e wq ⟨h1,⟨_,rfl⟩|⟨hz,_⟩⟩;rotate_left 1
               ·exact absurd hz HE.o
               have aW:Qa w wq:=Below.trans (zad (zad Qb _) _ McV) (h1.mono McX);have aL:=zHi aW
               clear h1 aW)
  go_ret2
  exact⟨aL.o,.inl ⟨HE.o,rfl⟩⟩
 have HE:=zHi h0
 go_upto_block 0 with(first
  |(go_at_call 18
    go_must(refine(lm.o _ Bw _ (zcU (zas _ _ _ McV))).mono ?_)
    rintro e wq ⟨h1,⟨ai,_⟩|⟨_,base,b,la,co,rfl,h2,h3,⟨last,h4⟩,h5⟩⟩
    ·exact absurd HE.o ai
    have aL:Hid (Qa w wq):=zHi (Below.trans (zad (zad Qb _) _ McV) (h1.mono McX));have kE:=zHi (lC.o _ (((zad Qb _ (by first|omega|(simp only[World.size_alloc];omega))):Below (w.heap.size+1) _ _).trans (h1.mono (by first|omega|(simp only[World.size_alloc];omega)))));obtain⟨x0,x1⟩:=zbx kE.o
    clear h1 h2 h3 h4 h5))
 clear lm lC;have eS:=zab kE.o;have bl:=aL.o.size;go_cut [6,8,10,12]from 33 to 132 (λ_ v8 _ _ W=>OwnS W wq.heap.size 3 1 zC v8 (zel laws ds place ds)/\(zel laws ds place ds).length<=100*ds.length/\Qa wq W)
 case first=>
  go_wp2_with fail
  go_loopw [8,33] (λv i wr=>∃k:Nat,k<=ds.length/\i=.int .i64 k/\OwnS wr wq.heap.size 3 1 zC v (zel laws ds place (ds.take k))/\Hid ((zel laws ds place (ds.take k)).length<=100*k)/\Qa wq wr) (λ_ i _=>ds.length-(intOf i).toNat)
  case atStart=>exact⟨0,Nat.zero_le _,rfl,OwnS.nil,Nat.zero_le _,Qb⟩
  case round=>
   obtain⟨k,hk,rfl,aa,cG,hB⟩:=hrel;obtain⟨WR,kI⟩:=Qd wr
   subst kI;have hsz:=hB.size;have qF:=(hB.block _ eS).trans kE.o;obtain⟨VA,vc,rfl,_,gu⟩:=aa.sl zed;obtain⟨HB,HO,FF⟩:=yH3 hB aa qF;by_cases ae:k<ds.length
   ·obtain⟨db,off,cs,hA,ux,⟨B,c,aA,aY,hS⟩,hc⟩:=(eW.o.keep zbS (aL.o.trans (hB.mono bl))).at ae;subst hA aY;have bC:=days_snoc (laws:=laws) (ds:=ds) (place:=place) ae;have eB:=zHi (λW (h:Qa w W)=>vS.o ds[k].day W h);have iX:=aK.o HE.o ds[k].day;unfold zho at eB;generalize ds[k]=d at*;obtain⟨kd,dy,pl,fr,ts,cl,yr⟩:=d;simp only at bC iX;have i0:WR.cell? ⟨db,off+k*7,none⟩=some (.int .i64 kd):=hc 0 _ rfl;have i1:WR.cell? ⟨db,off+k*7+1,none⟩=some (.int .i64 dy):=hc 1 _ rfl;have i2:WR.cell? ⟨db,off+k*7+2,none⟩=some (.string pl):=hc 2 _ rfl;have i3:WR.cell? ⟨db,off+k*7+3,none⟩=some (.string fr):=hc 3 _ rfl;have i4:WR.cell? ⟨db,off+k*7+4,none⟩=some (.slice B ts.length c):=hc 4 _ rfl;have i5:WR.cell? ⟨db,off+k*7+5,none⟩=some (.int .i64 cl):=hc 5 _ rfl;have i6:WR.cell? ⟨db,off+k*7+6,none⟩=some (.int .i64 yr):=hc 6 _ rfl;rw[<-iX]at bC;have cM:=zHi bC;simp only at eB;generalize zd7 laws ds dy=R at*;obtain⟨pre,ig⟩:=Qd (zel laws ds place (ds.take k))
    rw[<-ig]at HO cM cG gu⊢;have au:(k:Int)<(ds.length:Int):=McS;have aR:(0:Int)<=(k:Int):=McS;have aj:=zHi ae;have Ew:pre.length<=100000:=Meu;clear hc hS aA bC iX aa hB qF ig x0 x1;go_upto_region 9 with(at_builtin;go_loud(refine zar (v:=.slice VA pre.length vc) (n:=pre.length) (m:=1) rfl _ _ rfl zlV zed zC_one rfl (HO.o.keep (n:=WR.heap.size) Bw) rfl rfl rfl (sl_z1 (x:=dy) (zas _ _ _ McV)) Mc8 McS McX ?_);intro v3 w3 h1 h2 h3)
    have ax:Qa wq w3:=zc4 Qc (λg hg=>(HO.o.ge g hg).1) h2 (zad (zad HB.o _) _);have DL:w3.heap[WR.heap.size]?=some (.cells #[.int .i64 kd,.int .i64 dy,.string pl,.string fr,.slice B ts.length c,.int .i64 cl,.int .i64 yr] 60):=(h2.block _ McX (λe=>by have:=(HO.o.ge _ e.symm).2;omega)).trans (zal (zas _ _ _ rfl));obtain⟨y0,y1⟩:=zbx ((ax.block _ eS).trans kE.o);have hy3:=zab ((ax.block _ eS).trans kE.o);obtain⟨-,d1⟩:=cF2 DL;have bA:=zab DL;obtain⟨A3,c3,rfl,_,_⟩:=h1.sl zed;obtain⟨p1,ei⟩:=Qd (pre++[dy])
    rw[<-ei]at h1⊢;obtain⟨vP,O3,aG⟩:=yH3 ei h1 ax;have dH:=ax.size;have tj:p1.length<=100001:=by rw[ei,List.length_append];simp;omega
    clear h1 h2 h3 ax DL ei HO i0 i1 i2 i3 i4 i5 i6 ux
    go_upto_block 2 with(first
     |(go_at_call 19
       go_must(refine(eB.o _ (aL.o.trans (aG.o.mono bl))).mono ?_)
       rintro e wz ⟨base,b2,la,co,rfl,aM,hW,eP,⟨last,hg⟩,kk,fM,hf⟩;obtain⟨Bk,dd,cc,pp,wl,rr,mv,tv,ps,ba,hC,hP,hT⟩:=hW;obtain⟨TA,tc,rfl,wW,tB⟩:=hT.own.sl zcK;have bQ:=hf.graves;have oL:=zHi hT.len;have cI:=zab hC;unfold WldC at hC;obtain⟨-,-,-,-,-,-,k6⟩:=cF7 hC;obtain⟨HT,JF,dN⟩:=yH3 hT wW eP
       clear hC hP hT wW eP hg hf))
    have jQ:=dN.o.size;have hpk:ps.length<=60:=Mev;obtain⟨gs,aI⟩:=Qd R.1.graves
    rw[<-aI]at oL HT cM bQ;have O4:=zHi (O3.o.keep dN.o);have b8:∀g,za4 (.slice A3 p1.length c3)=some g->g<base:=λg hg=>by have:=(O3.o.ge g hg).2;omega
    obtain⟨bJ,dq⟩:=yH2 b8 aI;clear b8 aI;go_wp2_with fail
    go_loopw [8,55] (λv i wi=>∃q:Nat,q<=ps.length/\i=.int .i64 q/\OwnS wi wq.heap.size 3 1 zC v (p1++zek place (gs.take q))/\wz.grownBy wi (za4 (.slice A3 p1.length c3))/\Hid (∀g,za4 v=some g->za4 (.slice A3 p1.length c3)=some g\/wz.heap.size<=g)) (λ_ i _=>ps.length-(intOf i).toNat)
    case atStart=>exact⟨0,Nat.zero_le _,rfl,by rw[List.take_zero];simpa[zek]using O4.o,zc6 _ _,λg hg=> .inl hg⟩
    case round=>
     obtain⟨q,hq,rfl,pC,aH,fF⟩:=hrel;obtain⟨VI,vi,rfl,_,hvi⟩:=pC.sl zed;have hel:(zek place (gs.take q)).length<=60:=by
      have:=ends_len place (gs.take q);rw[List.length_take]at this;have:=oL.o;omega
     have L6:=aH.size;obtain⟨Aa,pS⟩:=yH2 pC aH;by_cases hqt:q<ps.length
     ·have I9:q<gs.length:=Mev;have Dh:=HT.o.all q ps[q] gs[q] (List.getElem?_eq_getElem hqt) (List.getElem?_eq_getElem I9);obtain⟨TB,toff,AB,Dg,wZ⟩:=JF.o.at hqt;have KB:base<=TB:=(HT.o.own.ge TB (by rw[AB];rfl)).1;subst AB;have iv:=ends_snoc (place:=place) I9;have j0:wz.cell? ⟨TB,toff+q,none⟩=some (.pointer (some ⟨ps[q],0,none⟩)):=by have:=wZ 0 _ rfl;simpa using this
      generalize ps[q]=T at*;generalize gs[q]=g at*;obtain⟨H,aE,D,dc,frm,t1,t2,t3,t4,t5,t6,t7⟩:=Dh;have cz:=zab t1;unfold zbt at t1;obtain⟨g0,-,-,g3⟩:=cF4 t1;have th:some T≠za4 (.slice A3 p1.length c3):=λe=>by have:=bJ.o T e.symm;omega
      have yz:some TB≠za4 (.slice A3 p1.length c3):=λe=>by have:=bJ.o TB e.symm;omega
      have j0':=(znT aH Dg yz).trans j0;have g0':=(znT aH cz th).trans g0;have g3':=(znT aH cz th).trans g3;have ij:=zHi iv;have LV:(q:Int)<(ps.length:Int):=McS;have fO:(0:Int)<=(q:Int):=McS;have hTi:T<wr.heap.size:=McS;generalize zek place (gs.take q)=en at*;clear wZ t1 t2 t3 t4 t5 t6 t7 j0 g0 g3 iv pC aH th yz Dg cz;cases hs:zae g.place place
      ·have dQ:(g.place.toList==place.toList)=false:=hs;have kx:Hid (zek place (gs.take (q+1))=en):=by show _=_;rw[ij.o,hs];simp
       exact MaK
      ·have dQ:(g.place.toList==place.toList)=true:=hs;by_cases sL:0<=g.fin
       ·have kx:Hid (zek place (gs.take (q+1))=en++[g.fin]):=by show _=_;rw[ij.o,hs];simp[sL]
        clear hs ij;go_wp2_with (at_builtin;go_loud(refine zar (v:=.slice VI (p1++en).length vi) (n:=(p1++en).length) (m:=1) rfl _ _ rfl zlV zed zC_one rfl (Aa.o.keep (n:=wr.heap.size) Bw) rfl rfl rfl (sl_z1 (x:=g.fin) (zas _ _ _ McV)) Mc8 McX McX ?_);intro v3 w4 h1 h2 h3)
        go_round
        case rel=>
         refine⟨q+1,by omega,by go_num,by rw[kx.o,<-List.append_assoc];exact h1,?_,λg hg=>?_⟩
         ·exact gr_then (gr_then pS.o (W':=wr.alloc _) ⟨rfl,rfl,rfl,by simp,λj hj _=>Below.heap_alloc _ _ j hj⟩ (row':=none) (λg hg=>by cases hg)) h2 fF.o
         ·rcases h3 g hg with h|h
          ·exact fF.o g h
          ·simp at h;exact .inr McS
        case measure=>simp[intOf];omega
       ·have kx:Hid (zek place (gs.take (q+1))=en):=by show _=_;rw[ij.o,hs];simp[sL]
        have Hg:g.fin<0:=McS;exact MaK
     ·have LV:¬(q:Int)<(ps.length:Int):=McS;have fD:gs.take q=gs:=List.take_of_length_le Mev;rw[fD]at Aa hel;have Bb:(p1++zek place (gs.take q)).length=(p1++zek place gs).length:=by rw[fD]
      rw[Bb];have mq:Hid (zel laws ds place (ds.take (k+1))=p1++zek place gs):=by show _=_;rw[cM.o,vP.o];simp
      have ic:(p1++zek place gs).length<=100*(k+1):=by
       have:=cG.o;rw[List.length_append,vP.o,List.length_append];simp only[List.length_singleton];omega
      have fS:=zHi ic;clear ic;generalize p1++zek place gs=p2 at*;clear fD Bb pC aH;go_wp2_with fail
      go_round
      case rel=>exact⟨k+1,by have:=aj.o;omega,by go_num,by rw[mq.o];exact Aa.o,by show _<=_;rw[mq.o];exact fS.o,zc4 Qc (λg hg=>(O4.o.ge g hg).1) pS.o (aG.o.trans (dN.o.mono dH))⟩
      case measure=>have:=aj.o;simp only[intOf];omega
   ·have au:¬(k:Int)<(ds.length:Int):=McS;have fD:ds.take k=ds:=List.take_of_length_le McS;have ic:=cG.o;have fw:k=ds.length:=McS;obtain⟨J6,jx⟩:=yH2 fw fD;clear fD fw aa hB qF;go_wp2_with fail
    go_meet
    have ho:=HO.o;have hl:=cG.o;rw[jx.o]at ho hl;refine⟨by rw[jx.o];exact ho,by rw[<-J6.o];exact hl,HB.o⟩
 case rest=>
  obtain⟨aa,cX,hB⟩:=hcut;obtain⟨A8,c8,rfl,_,_⟩:=aa.sl zed;have hsz:=hB.size;obtain⟨cR,HB,FF⟩:=yH3 aa hB ((hB.block _ eS).trans kE.o);obtain⟨xs,br⟩:=Qd (zel laws ds place ds)
  rw[<-br]at cR cX⊢;have bU:=zHi br;have pk:xs.length<=1000000000:=McS;obtain⟨Fm,BT⟩:=yH2 pk cX;clear aa hB br cX pk
  go_upto_block 4 with(first
   |(go_at_call 20
     go_must(refine(sortZ_any (.slice A8 xs.length c8) xs wq.heap.size _ cR.o Fm.o).mono ?_)
     rintro e w2 ⟨rfl,L,s1,s2,s3,s4⟩;obtain⟨S1,S2,S3,S4⟩:=yH4 s1 s2 s3 s4
     clear s1 s2 s3 s4)
   |(go_at_call 21
     go_must(refine(compZ_any (.slice A8 xs.length c8) L wq.heap.size _ S3.o (by rw[S1.o.length_eq];exact Fm.o)).mono ?_)
     rintro e w3 ⟨v9,rfl,t1,t2⟩;obtain⟨A9,c9,rfl,_,_⟩:=t1.sl zed;obtain⟨T1,T2⟩:=yH2 t1 t2
     clear t1 t2))
  have bM:=zc4 Qc (λg hg=>(cR.o.ge g hg).1) S4.o HB.o;have ax:=zc4 Qc (λg hg=>(S3.o.ge g hg).1) T2.o bM;have xf:=znF S2.o;have bm:∀x,x∈Lib.compact L↔x∈zel laws ds place ds:=λx=>(znE L x).trans (by rw[<-bU.o];exact S1.o.mem_iff)
  have bA:=Lib.compact_length_le L;obtain⟨aG,Bm,js⟩:=yH3 ax xf bm;have dH:=ax.size;have KY:(Lib.compact L).length<=100000:=by
   have h1:=BT.o;have h2:=S1.o.length_eq;omega
  generalize Lib.compact L=D at*;have pJ:=(ax.block _ eS).trans kE.o;have du:=zHi pJ;clear bM ax xf bm bA cR HB FF S1 S2 S3 S4 T2 pJ;have IQ:=zHi (λx (hx:x∈D)=>oB.o HE.o x ((js.o x).1 hx));have rB:Hid (∀W,Qa w3 W->Sl W 1 zC A9 D):=zHi λW hW=>by
   obtain⟨A',c',e',h',_⟩:=T1.o.sl zed;simp only[Value.slice.injEq]at e';rw[e'.1];exact h'.keep hW
  clear T1 oB;go_wp2_with fail
  go_loopw [13,86] (λv i wr=>∃(k:Nat) (txs:List TX),k<=D.length/\i=.int .i64 k/\OwnS wr w3.heap.size 38 2 TX.cells v txs/\Hid (HsAt wr txs)/\Hid (zfI (hOn laws ds place) D []=txs.map txP++zfI (hOn laws ds place) (D.drop k) (befT txs))/\Hid (txs.length<=k)/\Qa w3 wr) (λ_ i _=>D.length-(intOf i).toNat)
  case atStart=>exact⟨0,[],Nat.zero_le _,rfl,OwnS.nil,λx hx=>by simp at hx,rfl,Qc,Qb⟩
  case round=>
   obtain⟨k,txs,hk,rfl,aa,gx,rA,lB,hB⟩:=hrel;obtain⟨VA,vc,rfl,fk,gu⟩:=aa.sl zeT;have zr:=hB.size;obtain⟨HO,HB⟩:=yH2 aa hB;have qF:=(hB.block _ (zab du.o)).trans du.o;have kg:=zHi fk;by_cases ae:k<D.length
   ·obtain⟨b9,o9,JY,bW,lG⟩:=(rB.o wr hB).at ae;subst JY;have uz:=IQ.o D[k] (List.getElem_mem ae);have bY:=rA.o;rw[List.drop_eq_getElem_cons ae,zfI]at bY;have i0:wr.cell? ⟨b9,o9+k,none⟩=some (.int .i64 D[k]):=by have:=lG 0 _ rfl;simpa using this
    generalize D[k]=day at*;have eB:=zHi (λW (h:Qa w W)=>vS.o day W h);have iX:=aK.o HE.o day;have hH:hOn laws ds place day=zbH (zd7 laws ds day).1 place day:=by unfold hOn;rw[iX]
    unfold zho at eB;rw[hH]at bY;generalize zd7 laws ds day=R at*;obtain⟨cU,aj,Bz⟩:=yH3 bY ae uz;obtain⟨r0,r1⟩:=zbx qF;have Ek:=zab qF;have au:(k:Int)<(D.length:Int):=McS;have aR:(0:Int)<=(k:Int):=McS;clear lG aa hB qF bY uz iX hH fk rA
    go_upto_region 25 with(first
     |(go_at_call 22;go_must(refine(zc7 _ _).mono ?_);rintro e wz ⟨rfl,rfl⟩;rw[Bz.o])
     |(go_at_call 19
       go_must(refine(eB.o _ (aL.o.trans ((aG.o.trans (HB.o.mono dH)).mono bl))).mono ?_)
       rintro e w5 ⟨base,b2,la,co,rfl,aM,hW,eP,⟨last,hg⟩,kk,fM,hf⟩;obtain⟨HW,dN,HG,HF⟩:=yH4 hW eP hg hf
       clear hW eP hg hf))
    obtain⟨Bk,dd,cc,pp,wl,rr,mv,tv,ps,ba,hC,hP,hT⟩:=HW.o;have bQ:=HF.o.graves;have bI:=zHi (λW (hB:Qa w5 W)=>ziB base b2 R.1 la co place day W (hC.keep hB) (hT.keep hB) McS);have jm:=dN.o.size;have KL:=zab hC;clear i0 r0 r1 Ek;cases aP:zaL R.1 place day with
    |none=>
     have nB:zbH R.1 place day=[]:=by unfold zbH;rw[aP]
     rw[aP]at bI;rw[nB]at cU;have BO:=zHi (λW (h:Qa wr W) x hx=>And.intro ((gx.o x hx).1.keep h) (gx.o x hx).2);clear hC hP hT aP nB ba;go_upto_region 29 with(go_at_call 23;go_must(refine(bI.o _ Bw).mono ?_);rintro e wz ⟨rfl,z,rfl⟩;simp only[zl7,Option.map_none])
     clear BO;have bs:=zHi (show Qa wr (w5.ext z) from zb2 dN.o z);have kf:=zHi (show Ro (w5.ext z) 55 zaa none ([]:Parts) from Ro.nil);have lj:=zHi (show(([]:Parts)).length<=100000 from by simp);have kZ:=zHi (show HsAt (w5.ext z) txs from λx hx=>⟨(gx.o x hx).1.keep bs.o,(gx.o x hx).2⟩);have eA:=zHi (HO.o.keep bs.o);have av:=zHi (HB.o.trans (bs.o.mono zr));have we:=zHi (kg.o.keep bs.o);generalize w5.ext z=W6 at*;have nH:=av.o.size;have ii:=bs.o.size;have zu:txs.length<=100000:=by have:=lB.o;omega
     clear HO HB kg gx bI;by_cases lX:txs.length=0
     ·have oo:¬(0:Int)<(txs.length:Int):=McS;have dU:befT txs=[]:=by rw[List.eq_nil_of_length_eq_zero lX];rfl
      have pX:=zHi dU;clear lX dU;go_upto_if 123 with(go_at_call 24;go_must(refine(zli ([]:Parts) [] none none 0 0 _ (Ro.sl zak (kf.o.keep (n:=W6.heap.size) Bw)) Sl.nil lj.o McV).mono ?_);rintro e wy ⟨r,rfl,hr,z2,rfl⟩;have HR:=zHi hr;clear hr)
      cases r
      ·go_wp2_with (at_builtin;go_loud(refine zar (v:=.slice VA txs.length vc) (n:=txs.length) (m:=1) rfl _ _ rfl zlj zeT zko rfl (eA.o.keep (n:=W6.heap.size) Bw) rfl rfl rfl (zpZ (x:=⟨day,([]:Parts),none,0⟩) (zas _ _ _ Mdu)) Mc8 McS Mc1 ?_);intro v3 w7 h1 h2 h3)
       go_round
       case rel=>
        have dl:¬([]:Parts)=befT txs:=λh=>by have:=HR.o.2 (by first|exact h.trans pX.o|exact True.intro);cases this
        exact MH
       case measure=>have:=aj.o;simp only[intOf];omega
      ·exact Mcr
     ·have oo:(0:Int)<(txs.length:Int):=McS;obtain⟨i9,og⟩:∃i,txs.length=i+1:=⟨txs.length-1,by omega⟩
      have kV:=zlk og McS;have eE:(0:Int)<=(i9:Int):=McS;have qm:(i9:Int)<(txs.length:Int):=McS;have cC:=bef_at og;obtain⟨vb,vo,Dk,dg,j8⟩:=we.o.at (k:=i9) McS;have yw:=kZ.o (txs[i9]' McS) (List.getElem_mem _);have c1:W6.cell? ⟨vb,vo+i9*2+1,none⟩=some (.slice (txs[i9]' McS).A (txs[i9]' McS).hs.length (txs[i9]' McS).c):=j8 1 _ rfl;generalize txs[i9]' McS=tx at*;obtain⟨qL,vH⟩:=yH2 cC yw;subst Dk;clear cC yw j8 og lX;go_upto_if 123 with(go_at_call 24;go_must(refine(zli ([]:Parts) tx.hs none tx.A 0 tx.c _ (Ro.sl zak (kf.o.keep (n:=W6.heap.size) Bw)) (Ro.sl zak (vH.o.1.keep (n:=W6.heap.size) Bw)) lj.o vH.o.2).mono ?_);rintro e wy ⟨r,rfl,hr,z2,rfl⟩;have HR:=zHi hr;clear hr)
      cases r
      ·go_wp2_with (at_builtin;go_loud(refine zar (v:=.slice (some ⟨vb,vo,none⟩) txs.length vc) (n:=txs.length) (m:=1) rfl _ _ rfl zlj zeT zko rfl (eA.o.keep (n:=W6.heap.size) Bw) rfl rfl rfl (zpZ (x:=⟨day,([]:Parts),none,0⟩) (zas _ _ _ Mdu)) Mc8 McS Mc1 ?_);intro v3 w7 h1 h2 h3)
       go_round
       case rel=>
        have dl:¬([]:Parts)=befT txs:=λh=>by have:=HR.o.2 (by first|exact h.trans qL.o|exact True.intro);cases this
        exact MH
       case measure=>have:=aj.o;simp only[intOf];omega
      ·exact Mcq
    |some i=>
     obtain⟨T,g,gB,iy,aH,bB,gA,_⟩:=zdI hT aP;have nB:zbH R.1 place day=g.holders:=by unfold zbH;rw[aP];simp only[bB]
     rw[aP]at bI;rw[nB]at cU;have vA:Hid (∀W,Qa w5 W->Calls Tryz.prog 23 #[.pointer (some ⟨b2,0,none⟩),.string place,.int .i64 day] W (Ret W (.pointer (some ⟨T,0,none⟩)))):=zHi λW hB=>by
      have:=bI.o W hB;exact MaU
     have ng:=HF.o.held g (List.mem_of_getElem? aH);obtain⟨H,aE,D9,dc,frm,t1,t2,t3,t4,t5,t6,t7⟩:=gA;have cz:=zab t1;unfold zbt at t1;obtain⟨-,-,-,-,g4⟩:=cF5 t1;have oN:=zHi t5;have jI:g.holders.length<=100000:=McS;have oE:=zHi jI;clear hC hP hT aP nB ba bI gB iy aH bB t1 t2 t3 t4 t5 t6 t7 ng jI;go_upto_region 29 with(go_at_call 23;go_must(refine(vA.o _ Bw).mono ?_);rintro e wz ⟨rfl,z,rfl⟩)
     have bI:=vA;have bs:=zHi (show Qa wr (w5.ext z) from zb2 dN.o z);have kf:=zHi (show Ro (w5.ext z) 55 zaa H g.holders from oN.o.keep (zan w5 z));have lj:=zHi (show(g.holders).length<=100000 from oE.o);have kZ:=zHi (show HsAt (w5.ext z) txs from λx hx=>⟨(gx.o x hx).1.keep bs.o,(gx.o x hx).2⟩);have eA:=zHi (HO.o.keep bs.o);have av:=zHi (HB.o.trans (bs.o.mono zr));have we:=zHi (kg.o.keep bs.o);generalize w5.ext z=W6 at*;have nH:=av.o.size;have ii:=bs.o.size;have zu:txs.length<=100000:=by have:=lB.o;omega
     clear HO HB kg gx bI;by_cases lX:txs.length=0
     ·have oo:¬(0:Int)<(txs.length:Int):=McS;have dU:befT txs=[]:=by rw[List.eq_nil_of_length_eq_zero lX];rfl
      have pX:=zHi dU;clear lX dU;go_upto_if 123 with(go_at_call 24;go_must(refine(zli g.holders [] H none aE 0 _ (Ro.sl zak (kf.o.keep (n:=W6.heap.size) Bw)) Sl.nil lj.o McV).mono ?_);rintro e wy ⟨r,rfl,hr,z2,rfl⟩;have HR:=zHi hr;clear hr)
      cases r
      ·go_wp2_with (at_builtin;go_loud(refine zar (v:=.slice VA txs.length vc) (n:=txs.length) (m:=1) rfl _ _ rfl zlj zeT zko rfl (eA.o.keep (n:=W6.heap.size) Bw) rfl rfl rfl (zpZ (x:=⟨day,g.holders,H,aE⟩) (zas _ _ _ Mdu)) Mc8 McS Mc1 ?_);intro v3 w7 h1 h2 h3)
       go_round
       case rel=>
        have dl:¬g.holders=befT txs:=λh=>by have:=HR.o.2 (by first|exact h.trans pX.o|exact True.intro);cases this
        exact MI
       case measure=>have:=aj.o;simp only[intOf];omega
      ·exact Mcr
     ·have oo:(0:Int)<(txs.length:Int):=McS;obtain⟨i9,og⟩:∃i,txs.length=i+1:=⟨txs.length-1,by omega⟩
      have kV:=zlk og McS;have eE:(0:Int)<=(i9:Int):=McS;have qm:(i9:Int)<(txs.length:Int):=McS;have cC:=bef_at og;obtain⟨vb,vo,Dk,dg,j8⟩:=we.o.at (k:=i9) McS;have yw:=kZ.o (txs[i9]' McS) (List.getElem_mem _);have c1:W6.cell? ⟨vb,vo+i9*2+1,none⟩=some (.slice (txs[i9]' McS).A (txs[i9]' McS).hs.length (txs[i9]' McS).c):=j8 1 _ rfl;generalize txs[i9]' McS=tx at*;obtain⟨qL,vH⟩:=yH2 cC yw;subst Dk;clear cC yw j8 og lX;go_upto_if 123 with(go_at_call 24;go_must(refine(zli g.holders tx.hs H tx.A aE tx.c _ (Ro.sl zak (kf.o.keep (n:=W6.heap.size) Bw)) (Ro.sl zak (vH.o.1.keep (n:=W6.heap.size) Bw)) lj.o vH.o.2).mono ?_);rintro e wy ⟨r,rfl,hr,z2,rfl⟩;have HR:=zHi hr;clear hr)
      cases r
      ·go_wp2_with (at_builtin;go_loud(refine zar (v:=.slice (some ⟨vb,vo,none⟩) txs.length vc) (n:=txs.length) (m:=1) rfl _ _ rfl zlj zeT zko rfl (eA.o.keep (n:=W6.heap.size) Bw) rfl rfl rfl (zpZ (x:=⟨day,g.holders,H,aE⟩) (zas _ _ _ Mdu)) Mc8 McS Mc1 ?_);intro v3 w7 h1 h2 h3)
       go_round
       case rel=>
        have dl:¬g.holders=befT txs:=λh=>by have:=HR.o.2 (by first|exact h.trans qL.o|exact True.intro);cases this
        exact MI
       case measure=>have:=aj.o;simp only[intOf];omega
      ·exact Mcq
   ·have au:¬(k:Int)<(D.length:Int):=McS;have bY:=rA.o;rw[List.drop_of_length_le McS,zfI,List.append_nil]at bY;have cU:=zHi bY;clear bY aa hB qF fk;go_wp2_with fail
    go_ret2
    exact⟨aL.o.trans ((aG.o.trans (HB.o.mono dH)).mono bl),.inr ⟨by first|rfl|exact HE.o,VA,vc,txs,D,rfl,kg.o,λx hx=>(gx.o x hx).1.sl zak,Bm.o,js.o,cU.o.symm⟩⟩
def isZ(u:Value):Prop:= ∃z,u=.int .i64 z
def AllI(W:World)(v:Value):Prop:= ∀g,za4 v=some g->∃cs t fr,W.heap[g]?=some (.cells cs t fr)/\∀(j:Nat) (u:Value),cs[j]?=some u->isZ u
def AllI.nil(W:World):AllI W (.slice none 0 0):=λg h=>by cases h
variable{n:Nat}
def AllI.keep(h:AllI W v)(hB:Below n W W')(hn:W.heap.size<=n:=by first|exact Qc|omega):AllI W' v:=λg hg=>by
 exact MbJ
def AllI.ne{u:Value}(h:AllI W v)(hc:W.cell? ⟨b,o,none⟩=some u)(hu:¬isZ u):some b≠za4 v:=λe=>by
 obtain⟨cs,t,fr,h1,h2⟩:=h b e.symm;simp only[World.cell?,h1]at hc;exact hu (h2 o u MdY)
def zero_int:∃i,Tryz.prog.info? 3=some i/\i.zero=some (.int .i64 0)/\i.size=1/\i.bytes=8:=by
 obtain⟨i,z,hi,hz,hs,hb,eI⟩:=zlV.hi;have h:(Tryz.prog.info? 3).bind (·.zero)=some (.int .i64 0):=McT;rw[hi]at h;exact⟨i,hi,h,hs,hb⟩
def zeros_int(n:Nat):∀(j:Nat) (u:Value),(Builtin.zeroCells (Value.int .i64 0).cells n)[j]?=some u->isZ u:=λj u h=>by
 unfold Builtin.zeroCells at h;obtain⟨hj,rfl⟩:=Array.getElem?_eq_some_iff.1 h;simp only[Array.getElem_map];exact⟨0,by simp[Value.cells,Nat.mod_one]⟩
def new_at(w:World)(b:Obj):(w.drew.alloc b).heap[w.heap.size]?=some b:=Array.getElem?_push_size
variable{ty c:Nat}{xs:List Int}{A:Option Addr}
def zmD(aa:OwnS w base 3 1 zC v xs)(ha:AllI w v)(hn:xs.length=n)(hS:Sl w 1 zC A [x])(fI:n+1<=maxLen)(aD:(n+1)*8<=140737488355328)(aC:base<=w.heap.size):
 ∃v' w',(Builtin.append_ #[46,46] ty #[v,.slice A 1 c]).run Tryz.prog w=.ok v' w'/\OwnS w' base 3 1 zC v' (xs++[x])/\w.grownBy w' (za4 v)/\(∀g,za4 v'=some g->za4 v=some g\/w.heap.size<=g)/\AllI w' v':=by
 obtain⟨v',w',hrun,h1,h2,h3⟩:=zeX (P:=Tryz.prog) (ty:=ty) (c:=c) (m:=1) zlV zed zC_one aa hn rfl hS fI aD aC;refine⟨v',w',hrun,h1,h2,h3,?_⟩;obtain⟨i,hi,hz,hs,hb⟩:=zero_int;obtain⟨ab,ao,rfl,bL,lF⟩:=hS.at (k:=0) McV;have jO:∀(j:Nat) (u:Value),([Value.int .i64 x]:List Value)[j]?=some u->w.cell? ((⟨ab,ao,none⟩:Addr).add j)=some u:=λj u hj=>by
  match j,hj with
  |0,hj=>
   simp at hj;subst hj;have:=lF 0 _ rfl;simpa[Addr.add]using this
  |j+1,hj=>simp at hj
 have km:∀(j:Nat) (u:Value),([Value.int .i64 x]:List Value)[j]?=some u->isZ u:=λj u hj=>by
  match j,hj with
  |0,hj=>
   simp at hj;exact⟨x,hj.symm⟩
  |j+1,hj=>simp at hj
 have happ:∀(cs:Array Value) (n:Nat),(∀(j:Nat) (u:Value),cs[j]?=some u->isZ u)->∀(j:Nat) (u:Value),(cs++Builtin.zeroCells (Value.int .i64 0).cells n)[j]?=some u->isZ u:=λcs n aY j u hj=>by
  rw[Array.getElem?_append]at hj;split at hj
  ·exact aY j u hj
  ·exact zeros_int n _ u hj
 rcases aa with⟨rfl,rfl⟩|⟨g,o,cap,cur,rfl,io,hg,hc,ir,aY,hx⟩
 ·have hr:=run_append_nil (P:=Tryz.prog) w 46 ty 3 i _ zlV.ht hi hz ⟨ab,ao,none⟩ 1 c [.int .i64 x] (by rw[hs];rfl) jO McS McS (by rw[hb];omega);exact MaG
 ·have eS:(xs.flatMap zC).length=xs.length*1:=ze2 zC 1 zed xs;obtain⟨cs0,t0,fr0,hq,aV⟩:=ha g rfl;rw[hg]at hq;injection hq with hq
  injection hq with cJ eT lS
  subst cJ;by_cases hr:xs.length+1<=cap
  ·have cE:o+xs.length*1+([Value.int .i64 x]:List Value).length<=cur.size:=by
    simp only[List.length_cons,List.length_nil];omega
   have yZ:=run_append_room_cells (P:=Tryz.prog) w 46 ty 3 i zlV.ht hi g o xs.length cap ⟨ab,ao,none⟩ 1 c [.int .i64 x] (by rw[hs];rfl) jO (λu hu=>by
    simp at hu;subst hu
    rfl) hr
    (λj hj=>by
      rw[hs];simp only[List.length_cons,List.length_nil]at hj;simp only[World.cell?,hg];rw[Array.getElem?_eq_getElem McS]
      rfl) (λj hj=>by simp[World.frozen?,hg])
   rw[hs]at yZ;rw[yZ]at hrun;injection hrun with e1 e2
   subst e1 e2;obtain⟨cur',h1,h2,h3,h4⟩:=zbw g [Value.int .i64 x] (o+xs.length*1) w cur hg cE;intro g' cr;injection cr with cr
   subst cr;refine⟨cur',_,_,h1,λj u hj=>?_⟩;by_cases hjo:j=o+xs.length*1
   ·subst hjo;have:=h4 0 (.int .i64 x) rfl;rw[Nat.add_zero]at this;rw[this]at hj;injection hj with hj
    exact⟨x,hj.symm⟩
   ·rw[h3 j (by simp only[List.length_cons,List.length_nil];omega)]at hj;exact aV j u hj
  ·have hr:=run_append_grow (P:=Tryz.prog) w 46 ty 3 i _ zlV.ht hi hz ⟨g,o,none⟩ xs.length cap (xs.flatMap zC) (by rw[hs];exact eS)
    (λj u hj=>by
      have:=hx j u hj;rw[Addr.add_lit];simp only[World.cell?,hg]
      exact this) ⟨ab,ao,none⟩ 1 c [.int .i64 x] (by rw[hs];rfl) jO McS McS (growslice_fits McS (by rw[hb];omega))
   rw[hr]at hrun;injection hrun with e1 e2
   subst e1 e2;intro g' cr;injection cr with cr
   subst cr;refine⟨_,_,_,new_at w _,happ _ _ (λj u hj=>?_)⟩;rw[Array.getElem?_append]at hj;split at hj
   ·rw[List.getElem?_toArray]at hj;obtain⟨y,_,hy⟩:=List.mem_flatMap.1 (List.mem_of_getElem? hj);simp only[zC,List.mem_singleton]at hy;exact⟨y,hy⟩
   ·rw[List.getElem?_toArray]at hj;exact km _ u hj
variable{ops:Array Oper}{rest:List Oper}{a:Act}{Q:Exit->Act->World->Prop}
def zfw{o:Oper}(bB:o.guard=none)(s y:Operand)(ho:o.op=.call {callee:=.builtin .append,args:= #[s,y],argTypes:= #[46,46]})
 {w:World}{base n c:Nat}{v:Value}{xs:List Int}{x:Int}(hs:a.eval s=v)(aa:OwnS w base 3 1 zC v xs)(fV:AllI w v)(hn:xs.length=n)
 {A:Option Addr}(hx:a.eval y=.slice A 1 c)(hS:Sl w 1 zC A [x])(fI:n+1<=maxLen)(aD:(n+1)*8<=140737488355328)(aC:base<=w.heap.size)
 (h:∀v' w',OwnS w' base 3 1 zC v' (xs++[x])->w.grownBy w' (za4 v)->(∀g,za4 v'=some g->za4 v=some g\/w.heap.size<=g)->AllI w' v'->wpList Tryz.prog ops Q rest (a.put o.dst v') w'):wpList Tryz.prog ops Q (o::rest) a w:=
 wpList_plain bB λ_ hK=>by
  obtain⟨v',w',hrun,h2,h3,h4,h5⟩:=zmD (ty:=o.type) (c:=c) aa fV hn hS fI aD aC;exact MaV
def atZ(xs:List Int)(a:Nat):Int:=(xs[a]?).getD 0
def zmE(xs:List Int)(i:Nat):Prop:= ∀a b,a<b->b<i->atZ xs a<=atZ xs b
def zqa(xs:List Int)(i k:Nat):Prop:= ∀a b,a<b->b<=i->b≠k->atZ xs a<=atZ xs b
def swp(xs:List Int)(k:Nat):List Int:=(xs.set k (atZ xs (k-1))).set (k-1) (atZ xs k)
def swp_len(xs:List Int)(k:Nat):(swp xs k).length=xs.length:=by simp[swp]
def zju{a:Nat}(h:a<xs.length):atZ xs a=xs[a]:=by simp[atZ,h]
def atZ_swp(h0:0<k)(hk:k<xs.length)(a:Nat):atZ (swp xs k) a=if a=k-1 then atZ xs k else if a=k then atZ xs (k-1)else atZ xs a:=by
 unfold swp;by_cases h1:a=k-1
 ·subst h1;simp only[if_true,atZ];rw[List.getElem?_set_self McX];rfl
 ·rw[if_neg h1];by_cases h2:a=k
  ·subst h2;rw[if_pos rfl];simp only[atZ];rw[List.getElem?_set_ne McS,List.getElem?_set_self hk];rfl
  ·rw[if_neg h2];simp only[atZ];rw[List.getElem?_set_ne McS,List.getElem?_set_ne McS]
def swp_perm(h0:0<k)(hk:k<xs.length):(swp xs k).Perm xs:=by
 unfold swp;rw[zju hk,zju (by omega:k-1<xs.length)];exact List.set_set_perm hk McS
def ins_start(h:zmE xs i):zqa xs i i:=λa b bL hb ai=>h a b bL McS
def ins_zero(h:zqa xs i 0):zmE xs (i+1):=λa b bL hb=>h a b bL McS McS
def ins_done(h:zqa xs i k)(hk:k<=i)(h0:0<k)(hl:atZ xs (k-1)<=atZ xs k):zmE xs (i+1):=λa b bL hb=>by
 by_cases jb:b=k
 ·subst jb;by_cases ha:a=b-1
  ·rw[ha];exact hl
  ·exact Int.le_trans (h a (b-1) McS McS McS) hl
 ·exact h a b bL McS jb
def ins_step(h:zqa xs i k)(hk:k<=i)(hi:i<xs.length)(h0:0<k)(hl:atZ xs k<atZ xs (k-1)):zqa (swp xs k) i (k-1):=λa b bL hb ai=>by
 have e:=atZ_swp (xs:=xs) h0 (by omega:k<xs.length);rw[e a,e b,if_neg ai];by_cases jb:b=k
 ·rw[if_pos jb];by_cases ha:a=k-1
  ·rw[if_pos ha];omega
  ·rw[if_neg ha,if_neg McS];exact h a (k-1) McS McS McS
 ·rw[if_neg jb];by_cases ha:a=k-1
  ·rw[if_pos ha];exact h k b McS hb jb
  ·rw[if_neg ha];by_cases AM:a=k
   ·rw[if_pos AM];exact h (k-1) b McS hb jb
   ·rw[if_neg AM];exact h a b bL hb jb
def znU(h:zmE xs xs.length):xs.Pairwise (· <= ·):=by
 rw[List.pairwise_iff_getElem];intro i j hi hj ed;have:=h i j ed hj;rwa [zju hi,zju hj]at this
variable{g:Nat}
def zoI(h:OwnS w base 3 1 zC (.slice (some ⟨g,o,none⟩) xs.length c) xs)(hk:k<xs.length):OwnS (w.setCell ⟨g,o+k,none⟩ (.int .i64 x)) base 3 1 zC (.slice (some ⟨g,o,none⟩) xs.length c) (xs.set k x):=by
 rcases h with⟨h1,h2⟩|⟨g',o',cap,cur,h1,io,hg,hc,ir,aY,hx⟩
 ·cases h1
 ·injection h1 with h1 h2 h3
  injection h1 with h1
  injection h1 with h4 h5 h6
  subst h3 h4 h5;have hz:∀ys:List Int,ys.flatMap zC=ys.map (λy=>Value.int .i64 y):=λys=>by
   exact Mcb
  refine .inr ⟨g,o,c,cur.setIfInBounds (o+k) (.int .i64 x),by rw[List.length_set],io,heap_setCell_same w g (o+k) cur _ _ hg,by rw[List.length_set];exact hc,ir,by simpa using aY,λj u hj=>?_⟩;rw[hz]at hj;rw[List.getElem?_map]at hj;by_cases fX:j=k
  ·subst fX;rw[List.getElem?_set_self hk]at hj;rw[Array.getElem?_setIfInBounds_self];have:o+j<cur.size:=by omega
   rw[if_pos this];exact hj
  ·rw[List.getElem?_set_ne McS]at hj;rw[Array.getElem?_setIfInBounds_ne McS];exact hx j u (by rw[hz,List.getElem?_map];exact hj)
def znV(h:OwnS w base 3 1 zC (.slice (some ⟨g,o,none⟩) xs.length c) xs)(hk:k<xs.length):w.cell? ⟨g,o+k,none⟩=some (.int .i64 (atZ xs k))/\w.frozen? ⟨g,o+k,none⟩=false:=by
 rcases h with⟨h1,h2⟩|⟨g',o',cap,cur,h1,io,hg,hc,ir,aY,hx⟩
 ·cases h1
 ·injection h1 with h1 h2 h3
  injection h1 with h1
  injection h1 with h4 h5 h6
  subst h3 h4 h5;have hz:∀ys:List Int,ys.flatMap zC=ys.map (λy=>Value.int .i64 y):=λys=>by
   exact Mcb
  have:=hx k (.int .i64 xs[k]) (by rw[hz,List.getElem?_map,List.getElem?_eq_getElem hk];rfl);rw[zju hk];refine⟨?_,by simp[World.frozen?,hg]⟩;simp only[World.cell?,hg];exact this
def noT(u:Value):Prop:= ∀s,u≠ .string s
def NoText(W:World)(v:Value):Prop:= ∀g,za4 v=some g->∃cs t fr,W.heap[g]?=some (.cells cs t fr)/\∀(j:Nat) (u:Value),cs[j]?=some u->noT u
def NoText.nil(W:World):NoText W (.slice none 0 0):=λg h=>by cases h
def NoText.keep(h:NoText W v)(hB:Below n W W')(hn:W.heap.size<=n:=by first|exact Qc|omega):NoText W' v:=λg hg=>by
 exact MbJ
def NoText.ne{s:ByteArray}(h:NoText W v)(hc:W.cell? ⟨b,o,none⟩=some (.string s)):some b≠za4 v:=λe=>by
 obtain⟨cs,t,fr,h1,h2⟩:=h b e.symm;simp only[World.cell?,h1]at hc;exact h2 o _ MdY s rfl
def tx_noT(x:TX):∀u∈x.cells,noT u:=λu hu s e=>by
 subst e;simp[TX.cells]at hu
def zero_ten:∃i,Tryz.prog.info? 38=some i/\i.zero=some (.agg #[.int .i64 0,.slice none 0 0])/\i.size=2/\i.bytes=32:=by
 obtain⟨i,z,hi,hz,hs,hb,eI⟩:=zlj.hi;have h:(Tryz.prog.info? 38).bind (·.zero)=some (.agg #[.int .i64 0,.slice none 0 0]):=McT;rw[hi]at h;exact⟨i,hi,h,hs,hb⟩
def zeros_ten(n:Nat):∀(j:Nat) (u:Value),(Builtin.zeroCells (Value.agg #[.int .i64 0,.slice none 0 0]).cells n)[j]?=some u->noT u:=λj u h=>by
 unfold Builtin.zeroCells at h;obtain⟨hj,rfl⟩:=Array.getElem?_eq_some_iff.1 h;simp only[Array.getElem_map,Array.getElem_range];have hc:(Value.agg #[.int .i64 0,.slice none 0 0]).cells= #[.int .i64 0,.slice none 0 0]:=McT;rw[hc];have h2:j%(#[Value.int .i64 0,Value.slice none 0 0]:Array Value).size=0\/j%(#[Value.int .i64 0,Value.slice none 0 0]:Array Value).size=1:=by
  show j%2=0\/j%2=1;omega
 rcases h2 with h2|h2<;>rw[h2]<;>intro s e<;>simp at e
def zmF{x:TX}(aa:OwnS w base 38 2 TX.cells v txs)(ha:NoText w v)(hn:txs.length=n)(hS:Sl w 2 TX.cells A [x])(fI:n+1<=maxLen)(aD:(n+1)*32<=140737488355328)(aC:base<=w.heap.size):
 ∃v' w',(Builtin.append_ #[28,28] ty #[v,.slice A 1 c]).run Tryz.prog w=.ok v' w'/\OwnS w' base 38 2 TX.cells v' (txs++[x])/\w.grownBy w' (za4 v)/\(∀g,za4 v'=some g->za4 v=some g\/w.heap.size<=g)/\NoText w' v':=by
 obtain⟨v',w',hrun,h1,h2,h3⟩:=zeX (P:=Tryz.prog) (ty:=ty) (c:=c) (m:=1) zlj zeT zko aa hn rfl hS fI aD aC;refine⟨v',w',hrun,h1,h2,h3,?_⟩;obtain⟨i,hi,hz,hs,hb⟩:=zero_ten;obtain⟨ab,ao,rfl,bL,lF⟩:=hS.at (k:=0) McV;have jO:∀(j:Nat) (u:Value),x.cells[j]?=some u->w.cell? ((⟨ab,ao,none⟩:Addr).add j)=some u:=λj u hj=>by
  have:=lF j u hj;rw[Addr.add_lit];simpa using this
 have km:∀(j:Nat) (u:Value),x.cells[j]?=some u->noT u:=λj u hj=>tx_noT x u (List.mem_of_getElem? hj)
 have happ:∀(cs:Array Value) (n:Nat),(∀(j:Nat) (u:Value),cs[j]?=some u->noT u)->∀(j:Nat) (u:Value),(cs++Builtin.zeroCells (Value.agg #[.int .i64 0,.slice none 0 0]).cells n)[j]?=some u->noT u:=λcs n aY j u hj=>by
  rw[Array.getElem?_append]at hj;split at hj
  ·exact aY j u hj
  ·exact zeros_ten n _ u hj
 rcases aa with⟨rfl,rfl⟩|⟨g,o,cap,cur,rfl,io,hg,hc,ir,aY,hx⟩
 ·have hr:=run_append_nil (P:=Tryz.prog) w 28 ty 38 i _ zlj.ht hi hz ⟨ab,ao,none⟩ 1 c x.cells (by rw[hs];rfl) jO McS McS (by rw[hb];omega);exact MaG
 ·have eS:(txs.flatMap TX.cells).length=txs.length*2:=ze2 TX.cells 2 zeT txs;obtain⟨cs0,t0,fr0,hq,aV⟩:=ha g rfl;rw[hg]at hq;injection hq with hq
  injection hq with cJ eT lS
  subst cJ;by_cases hr:txs.length+1<=cap
  ·have cE:o+txs.length*2+x.cells.length<=cur.size:=by
    rw[zeT];omega
   have yZ:=run_append_room_cells (P:=Tryz.prog) w 28 ty 38 i zlj.ht hi g o txs.length cap ⟨ab,ao,none⟩ 1 c x.cells (by rw[hs];rfl) jO (zko x) hr
    (λj hj=>by
      rw[hs];rw[zeT]at hj;simp only[World.cell?,hg];rw[Array.getElem?_eq_getElem McS]
      rfl) (λj hj=>by simp[World.frozen?,hg])
   rw[hs]at yZ;rw[yZ]at hrun;injection hrun with e1 e2
   subst e1 e2;obtain⟨cur',h1,h2,h3,h4⟩:=zbw g x.cells (o+txs.length*2) w cur hg cE;intro g' cr;injection cr with cr
   subst cr;refine⟨cur',_,_,h1,λj u hj=>?_⟩;by_cases hjo:j<o+txs.length*2\/o+txs.length*2+x.cells.length<=j
   ·rw[h3 j hjo]at hj;exact aV j u hj
   ·rw[zeT]at hjo;obtain⟨q,hq⟩:∃q,j=o+txs.length*2+q:=⟨j-(o+txs.length*2),by omega⟩
    subst hq;have eT:q<x.cells.length:=by rw[zeT];omega
    have:=h4 q _ (List.getElem?_eq_getElem eT);rw[this]at hj;injection hj with hj
    subst hj;exact tx_noT x _ (List.getElem_mem eT)
  ·have hr:=run_append_grow (P:=Tryz.prog) w 28 ty 38 i _ zlj.ht hi hz ⟨g,o,none⟩ txs.length cap (txs.flatMap TX.cells) (by rw[hs];exact eS)
    (λj u hj=>by
      have:=hx j u hj;rw[Addr.add_lit];simp only[World.cell?,hg]
      exact this) ⟨ab,ao,none⟩ 1 c x.cells (by rw[hs];rfl) jO McS McS (growslice_fits McS (by rw[hb];omega))
   rw[hr]at hrun;injection hrun with e1 e2
   subst e1 e2;intro g' cr;injection cr with cr
   subst cr;refine⟨_,_,_,new_at w _,happ _ _ (λj u hj=>?_)⟩;rw[Array.getElem?_append]at hj;split at hj
   ·rw[List.getElem?_toArray]at hj;obtain⟨y,_,hy⟩:=List.mem_flatMap.1 (List.mem_of_getElem? hj);exact tx_noT y u hy
   ·rw[List.getElem?_toArray]at hj;exact km _ u hj
def zfx{o:Oper}(bB:o.guard=none)(s y:Operand)(ho:o.op=.call {callee:=.builtin .append,args:= #[s,y],argTypes:= #[28,28]})
 {w:World}{base n c:Nat}{v:Value}{txs:List TX}{x:TX}(hs:a.eval s=v)(aa:OwnS w base 38 2 TX.cells v txs)(fV:NoText w v)(hn:txs.length=n)
 {A:Option Addr}(hx:a.eval y=.slice A 1 c)(hS:Sl w 2 TX.cells A [x])(fI:n+1<=maxLen)(aD:(n+1)*32<=140737488355328)(aC:base<=w.heap.size)
 (h:∀v' w',OwnS w' base 38 2 TX.cells v' (txs++[x])->w.grownBy w' (za4 v)->(∀g,za4 v'=some g->za4 v=some g\/w.heap.size<=g)->NoText w' v'->wpList Tryz.prog ops Q rest (a.put o.dst v') w'):wpList Tryz.prog ops Q (o::rest) a w:=
 wpList_plain bB λ_ hK=>by
  obtain⟨v',w',hrun,h2,h3,h4,h5⟩:=zmF (ty:=o.type) (c:=c) aa fV hn hS fI aD aC;exact MaV
def zgf{w':World}{xs:Parts}(h:Sl w 3 zaa A xs)(ha:NoText w v)(hg:w.grownBy w' (za4 v)):Sl w' 3 zaa A xs:=λh0=>by
 obtain⟨b,off,hA,hb,hc⟩:=h h0;have ai:=ha.ne (hc 0 _ (List.getElem?_eq_getElem h0) 0 _ rfl);exact Ma6
