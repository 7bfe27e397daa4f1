import Derived.Test.YtogklihlgindkaaGreatDoorSH
import Derived.Test.YtogklihlgindkaaGreatDoorDQ
set_option linter.all false
set_option maxRecDepth 100000
set_option maxHeartbeats 4000000
namespace Go.Proofs.YtogklihlgindkaaGreatDoor
open Go.RowKit Go.Shelf
attribute [local go_sem] World.cell?_alloc_mark zaf za3 zam za6 zat zau zav zaw zax zay zaz
attribute [local go_sem] zao zac
variable{w w':World}
def Sl.other{α:Type}{size:Nat}{f:α->List Value}{A:Option Addr}{xs:List α}{v:Value}(h:Sl w size f A xs)(ha:AllI w v)(hg:w.grownBy w' (za4 v))(hf:∀x,∃u,(f x)[0]?=some u/\¬isZ u):Sl w' size f A xs:=λh0=>by
 obtain⟨b,off,hA,hb,hc⟩:=h h0;obtain⟨u,hu,hz⟩:=hf (xs[0]'h0);have ai:=ha.ne (hc 0 _ (List.getElem?_eq_getElem h0) 0 u hu) hz;exact Ma6
variable{laws:List Law}{ds:List Deed}{k:Nat}
def zqb{l:List Deed}(h:k<l.length):zfu laws ds (l.take (k+1))=zfu laws ds (l.take k)++(l[k].day::ze0 (zaI laws ds l[k].day).1.graves):=by
 unfold zfu;rw[List.take_succ_eq_append_getElem h,List.flatMap_append];simp
def zqc{gs:List Grave}(h:k<gs.length):ze0 (gs.take (k+1))=ze0 (gs.take k)++if 0<=gs[k].fin then[gs[k].fin]else[]:=by
 unfold ze0;rw[List.take_succ_eq_append_getElem h,List.filter_append,List.map_append];by_cases hq:0<=gs[k].fin<;>simp[hq]
def endsR_len(gs:List Grave):(ze0 gs).length<=gs.length:=by
 unfold ze0;exact Mbw
def daysR_ok{names:List ByteArray}{day:Int}(h:zce laws ds names day=0):∀x∈zfu laws ds ds,zba x=true:=by
 intro x hx;obtain⟨d,hd,hx⟩:=List.mem_flatMap.1 hx;have hk:=(zlh h d hd).day;rcases List.mem_cons.1 hx with e|e
 ·rw[e];exact zjs hk
 ·unfold ze0 at e;obtain⟨g,hg,rfl⟩:=List.mem_map.1 e;obtain⟨h1,h2⟩:=List.mem_filter.1 hg;simp only[decide_eq_true_eq]at h2;have hT:=(zle (on_day h (zjs hk))).2;exact zjs ⟨h2,(hT.few.held g h1).2.2⟩
def HsS(W:World)(txs:List TX):Prop:= ∀x∈txs,Sl W 3 zaa x.A x.hs/\x.hs.length<=100000
def zjv(txs:List TX)(x:TX):befT (txs++[x])=x.hs:=by
 unfold befT;rw[List.getLast?_append];rfl
def befT_len{W:World}{txs:List TX}(h:HsS W txs):(befT txs).length<=100000:=by
 unfold befT;cases hl:txs.getLast? with
 |none=>simp
 |some x=>exact(h x (List.mem_of_getLast? hl)).2
variable{xs ys:Parts}{e:Ending}
def eq_true(hx:xs=ys)(h:zoE w xs ys e w'):Ret w (.bool true) e w':=by
 obtain⟨r,rfl,hr,hz⟩:=h;exact⟨by rw[hr.2 hx],hz⟩
def zll(hx:¬xs=ys)(h:zoE w xs ys e w'):Ret w (.bool false) e w':=by
 obtain⟨r,rfl,hr,hz⟩:=h;cases r
 ·exact⟨rfl,hz⟩
 ·exact absurd (hr.1 rfl) hx
def zqd{H:Int->Parts}{xs:List Int}(hk:k<xs.length)(b:Parts):zhw H (xs.drop k) b=if H (atZ xs k)≠b/\¬(k+1<xs.length/\atZ xs (k+1)=atZ xs k)then(atZ xs k,H (atZ xs k))::zhw H (xs.drop (k+1)) (H (atZ xs k))else zhw H (xs.drop (k+1)) b:=by
 have e:atZ xs k=xs[k]:=by unfold atZ;rw[List.getElem?_eq_getElem hk];rfl
 rw[e,List.drop_eq_getElem_cons hk,zhw];have e2:(xs.drop (k+1)).head?≠some xs[k]↔ ¬(k+1<xs.length/\atZ xs (k+1)=xs[k]):=by
  rw[List.head?_drop];by_cases h:k+1<xs.length
  ·have e3:atZ xs (k+1)=xs[k+1]:=by unfold atZ;rw[List.getElem?_eq_getElem h];rfl
   rw[e3,List.getElem?_eq_getElem h];simp[h]
  ·rw[List.getElem?_eq_none McS];simp[h]
 by_cases h1:H xs[k]=b
 ·rw[if_neg (λh=>h.1 h1),if_neg (λh=>h.1 h1)]
 ·by_cases h2:¬(k+1<xs.length/\atZ xs (k+1)=xs[k])
  ·rw[if_pos ⟨h1,e2.2 h2⟩,if_pos ⟨h1,h2⟩]
  ·rw[if_neg (λh=>h2 (e2.1 h.2)),if_neg (λh=>h2 h.2)]
def TenPost(w:World)(laws:List Law)(ds:List Deed)(place:ByteArray)(e:Ending)(w':World):Prop:=
 ∃A c txs M,e=.returned (.slice A txs.length c)/\Qa w w'/\Sl w' 2 TX.cells A txs/\(∀x∈txs,Sl w' 3 zaa x.A x.hs/\x.hs.length<=100000)/\M.Pairwise (· <= ·)/\M.Perm (zfu laws ds ds)/\txs.length<=100000/\txs.map txP=zhw (hOn laws ds place) M []
def zmG(laws:List Law)(ds:List Deed)(place:ByteArray)(LA:Option Addr)(n nc:Nat)(DA:Option Addr)(m mc:Nat)(w:World)(hR:RightsIn w laws ds LA n nc DA m mc)(hO:∀d∈ds,zdQ d)(iu:ds.length<=60)(h0:zce laws ds [place] 0=0):
 Calls Tryz.prog 9 #[.agg #[.slice LA n nc,.slice DA m mc],.string place] w (TenPost w laws ds place):=by
 obtain⟨vS,C7,qP,zS⟩:=yH4 (λ(dy:Int) W (hB:Qa w W)=>zjp laws ds dy LA n nc DA m mc W (hR.keep hB) hO McS) (λ(dy:Int) (hd:zba dy=true)=>zle (on_day (d:=dy) h0 hd)) (zlh h0) (daysR_ok h0);obtain⟨rfl,rfl,xY,lI,fT,gV⟩:=hR;have eW:=zHi gV;clear fT gV h0 hO;go_enter Tryz.func9,Tryz.ntmps9
 go_upto_region 1 with fail
 obtain⟨W0,am⟩:=Qd (w.alloc (.cells #[.slice LA laws.length nc,.slice DA ds.length mc] 25))
 obtain⟨b0,aO⟩:=boxed am.symm;rw[<-am];obtain⟨ak,lC⟩:=yH2 aO b0;have ay:=aO.size;have eS:=zab b0;clear am aO b0;go_upto_block 0 with fail
 go_cut [5,6,7,8,9,10]from 20 to 167 (λv5 _ _ _ _ _ W=>OwnS W W0.heap.size 3 1 zC v5 (zfu laws ds ds)/\(zfu laws ds ds).length<=100*ds.length/\Qa W0 W)
 case first=>
  go_wp2_with fail
  go_loopw [5,6] (λv i wr=>∃k:Nat,k<=ds.length/\i=.int .i64 k/\OwnS wr W0.heap.size 3 1 zC v (zfu laws ds (ds.take k))/\AllI wr v/\Hid ((zfu laws ds (ds.take k)).length<=100*k)/\Qa W0 wr) (λ_ i _=>ds.length-(intOf i).toNat)
  case atStart=>exact⟨0,Nat.zero_le _,rfl,OwnS.nil,AllI.nil _,Nat.zero_le _,Qb⟩
  case round=>
   obtain⟨k,hk,rfl,aa,fV,cG,hB⟩:=hrel;obtain⟨WR,kI⟩:=Qd wr
   subst kI;have hsz:=hB.size;obtain⟨VA,vc,rfl,_,gu⟩:=aa.sl zed;obtain⟨x0,x1⟩:=zbx ((hB.block _ eS).trans lC.o);have Ek:=zab ((hB.block _ eS).trans lC.o);obtain⟨HB,HO,ox⟩:=yH3 hB aa fV;clear fV;by_cases ae:k<ds.length
   ·obtain⟨db,off,cs,hA,ux,⟨B,c,aA,aY,hS⟩,hc⟩:=eW.o.at ae;subst hA aY;have bC:=zqb (laws:=laws) (ds:=ds) ae;have uy:=(qP.o ds[k] (List.getElem_mem ae)).day;have eB:=zHi (λW (h:Qa w W)=>vS.o ds[k].day W h);have pB:=C7.o ds[k].day (zjs uy);unfold zjo at eB;generalize ds[k]=d at*;obtain⟨kd,dy,pl,fr,ts,cl,yr⟩:=d;simp only at bC pB uy;have i1w:w.cell? ⟨db,off+k*7+1,none⟩=some (.int .i64 dy):=hc 1 _ rfl;have Fh:=zHi (λW (h:Qa w W)=>(zai h ux).trans i1w);have i1:=Fh.o WR (ak.o.trans (hB.mono ay));have KV:db<WR.heap.size:=zcs i1;obtain⟨cM,HQ,HT⟩:=yH3 bC pB.1 pB.2;generalize zaI laws ds dy=R at*;obtain⟨pre,ig⟩:=Qd (zfu laws ds (ds.take k))
    rw[<-ig]at HO ox cM cG gu⊢;have au:(k:Int)<(ds.length:Int):=McS;have aR:(0:Int)<=(k:Int):=McS;have aj:=zHi ae;have Ew:pre.length<=100000:=Meu;clear hc hS aA bC pB aa hB ig uy i1w ux;go_upto_region 6 with(at_builtin;go_loud(refine zfw (v:=.slice VA pre.length vc) (n:=pre.length) rfl _ _ rfl rfl (HO.o.keep (n:=WR.heap.size) Bw) (ox.o.keep (n:=WR.heap.size) Bw Qc) rfl rfl (sl_z1 (x:=dy) (zas _ _ _ McV)) (by simp only[maxLen];first|omega|(trace_state;fail "q1")) (by first|omega|fail "q2") (by simp;first|omega|(trace_state;fail "q3")) ?_);intro v3 w3 h1 h2 h3 h4)
    have ax:Qa W0 w3:=zc4 Qc (λg hg=>(HO.o.ge g hg).1) h2 (zad HB.o _);have lz:=zHi (λW (h:Qa w3 W)=>And.intro ((zbx (((h.block _ (zab ((ax.block _ eS).trans lC.o))).trans (ax.block _ eS)).trans lC.o))) (Fh.o W (ak.o.trans ((ax.trans (h.mono ax.size)).mono ay))));obtain⟨AD,c3,rfl,_,_⟩:=h1.sl zed;obtain⟨p1,ei⟩:=Qd (pre++[dy])
    rw[<-ei]at h1 h4⊢;obtain⟨vP,O3,A3,aG⟩:=yH4 ei h1 h4 ax;have dH:=ax.size;have tj:p1.length<=100001:=by rw[ei,List.length_append];simp;omega
    clear h1 h2 h3 h4 ax ei HO ox x0 x1 i1 Ek;go_cut [7,8,9]from 36 to 70 (λv7 _ _ W=>∃BB a0 a1 a2 a3 a4 a5 a6,v7=.pointer (some ⟨BB,0,none⟩)/\W.heap[BB]?=some (.cells #[a0,a1,a2,a3,a4,a5,a6] 86)/\StAt W laws R.1 a0 a1 a2 a3 a4 a5 a6/\Qa w3 W)
    case first=>
     refine za9 7 (λbb w'=>bb=true\/((w'.cell? ⟨w.heap.size,0,none⟩=some (.slice LA laws.length nc)/\w'.cell? ⟨w.heap.size,1,none⟩=some (.slice (some ⟨db,off,none⟩) ds.length mc))/\w'.cell? ⟨db,off+k*7+1,none⟩=some (.int .i64 dy))) McT (.inr (lz.o _ (zaF Qb))) ?hrest
     case hrest=>
      intro hHeld;refine TkM 0 ?_;refine TkM 1 ?_;refine TkM 2 ?_;refine TkM 3 ?_;refine TkM 4 ?_;refine TkM 5 ?_;refine TkM 6 ?_;refine zeb (rs:=[7,12]) McT McV (AllReadyM.cons (List.getElem?_toArray.trans rfl) true McT (λK hK=>?_) (AllReadyM.cons (List.getElem?_toArray.trans rfl) false McT (λK hK=>?_) AllReadyM.nil))
      ·go_simp
       refine(eB.o _ (ak.o.trans (((aG.o).trans ((zaF Qb).mono dH)).mono ay))).mono ?_;rintro e w5 ⟨a0,a1,a2,a3,a4,a5,a6,rfl,aZ,ar,aq⟩;obtain⟨⟨E0,m0,q0,rfl⟩,⟨E1,m1,q1,rfl⟩,⟨E2,m2,q2,rfl⟩,⟨E3,m3,q3,rfl⟩,⟨E4,m4,q4,rfl⟩,⟨E5,m5,q5,rfl⟩,⟨E6,m6,q6,rfl⟩⟩:=zcm aZ;have nK:=aq HQ.o;have cq:Qa w3 w5:=(zaF Qb:Qa w3 _).trans (ar.mono McV);refine NxM hK λhHeld=>?_
       clear hK K;refine FrM 8 true ?_;refine FrM 9 true ?_;refine FrM 10 true ?_;refine FrM 11 true ?_;refine OnM 12 true λK hK=>?_
       go_simp
       refine NxM hK λhHeld=>?_
       clear hK K;have jz:(w5.alloc (.cells #[.slice none 0 0,.slice none 0 0,.slice none 0 0,.slice none 0 0,.slice none 0 0,.slice none 0 0,.slice none 0 0] 86)).heap[w5.heap.size]?=some (.cells #[.slice none 0 0,.slice none 0 0,.slice none 0 0,.slice none 0 0,.slice none 0 0,.slice none 0 0,.slice none 0 0] 86):=zas _ _ _ rfl;exact Mco
      ·go_simp
       have aB:Qa w3 (w3.drew.alloc (.cells #[.slice none 0 0,.slice none 0 0,.slice none 0 0,.slice none 0 0,.slice none 0 0,.slice none 0 0,.slice none 0 0] 86)):=zad (zaF Qb) _;refine NxM hK (λhHeld=>?_) (.inr (lz.o _ aB));clear hK K;refine OnM 7 true λK hK=>?_
       go_simp
       refine(eB.o _ (ak.o.trans ((aG.o.trans (aB.mono dH)).mono ay))).mono ?_;rintro e w5 ⟨a0,a1,a2,a3,a4,a5,a6,rfl,aZ,ar,aq⟩;obtain⟨⟨E0,m0,q0,rfl⟩,⟨E1,m1,q1,rfl⟩,⟨E2,m2,q2,rfl⟩,⟨E3,m3,q3,rfl⟩,⟨E4,m4,q4,rfl⟩,⟨E5,m5,q5,rfl⟩,⟨E6,m6,q6,rfl⟩⟩:=zcm aZ;have nK:=aq HQ.o;have cq:Qa w3 w5:=(aB:Qa w3 _).trans (ar.mono McV);refine NxM hK λhHeld=>?_
       clear hK K;refine FrM 8 true ?_;refine FrM 9 true ?_;refine FrM 10 true ?_;refine FrM 11 true ?_;have jz:w5.heap[w3.heap.size]?=some (.cells #[.slice none 0 0,.slice none 0 0,.slice none 0 0,.slice none 0 0,.slice none 0 0,.slice none 0 0,.slice none 0 0] 86):=(ar.block _ McV).trans (zas _ _ _ McV);exact Mco
    case rest=>
     obtain⟨BB,a0,a1,a2,a3,a4,a5,a6,rfl,ja,aq,aB⟩:=hcut;obtain⟨wd,rd,LA2,CA,MA,DA2,WA,RA,GA,d0,d1,d2,d3,d4,d5,d6,rfl,rfl,rfl,rfl,rfl,rfl,rfl,hI,hL⟩:=aq;obtain⟨gxs,hm,bE,br⟩:=znK hI.graves;have pg:gxs.length=R.1.graves.length:=Mez;have bQ:R.1.graves.length<=60:=Nat.le_trans HT.o.few.graves iu;clear hI hL bE;obtain⟨gs,aI⟩:=Qd R.1.graves
     rw[<-aI]at hm pg bQ ja cM;have HM:=zHi hm;have DC:Qa W0 wc:=aG.o.trans (aB.mono dH);have OC:=O3.o.keep aB;have AC:=A3.o.keep aB;have jm:=aB.size;have oL:=zHi tj;obtain⟨q0,fO⟩:∃q:List Value,q=[.slice LA2 laws.length d0,.slice CA R.1.children.length d1,.slice MA R.1.marriages.length d2,.slice DA2 R.1.dead.length d3,.slice WA wd.length d4,.slice RA rd.length d5]:=⟨_,rfl⟩
     clear fO q0 aI hm HQ HT eB lz aG O3 A3 tj aB;go_wp2_with fail
     go_loopw [5,10] (λv i wr=>∃j:Nat,j<=gs.length/\i=.int .i64 j/\OwnS wr W0.heap.size 3 1 zC v (p1++ze0 (gs.take j))/\AllI wr v/\Qa W0 wr/\wr.heap[BB]?=some (.cells #[.slice LA2 laws.length d0,.slice CA R.1.children.length d1,.slice MA R.1.marriages.length d2,.slice DA2 R.1.dead.length d3,.slice WA wd.length d4,.slice RA rd.length d5,.slice GA gs.length d6] 86)/\Sl wr 5 GX.cells GA gxs) (λ_ i _=>gs.length-(intOf i).toNat)
     case atStart=>exact⟨0,Nat.zero_le _,rfl,by rw[List.take_zero];simpa[ze0]using OC,AC,DC,ja,br⟩
     case round=>
      obtain⟨j,hj,rfl,ho,ha,hB,iJ,hx⟩:=hrel;obtain⟨V2,vc2,rfl,_,j8⟩:=ho.sl zed;obtain⟨f0,f1,f2,f3,f4,f5,f6⟩:=zaG iJ;have cI:=zab iJ;have Am:=hB.size;have hel:=endsR_len (gs.take j);rw[List.length_take]at hel;have LS:(p1++ze0 (gs.take j)).length<=100061:=by rw[List.length_append];have:=oL.o;omega
      obtain⟨HO,HA,aN,av,HX⟩:=yH5 ho ha hB iJ hx;by_cases ae:j<gs.length
      ·have zm:=zqc ae;obtain⟨gb,gof,jA,dB,ah⟩:=hx.at (k:=j) McS;obtain⟨hi,ko⟩:=gx_at HM.o (List.getElem?_eq_getElem ae);have i2:wr.cell? ⟨gb,gof+j*5+2,none⟩=some (.int .i64 gs[j].fin):=by have:=ah 2 _ rfl;rw[<-ko];simpa using this
       subst jA;generalize gs[j].fin=z at*;obtain⟨pe,ti⟩:=Qd (p1++ze0 (gs.take j))
       rw[<-ti]at HO HA LS j8⊢;obtain⟨vY,jZ⟩:=yH2 zm ti;have cd:(j:Int)<(gs.length:Int):=McS;have oh:(0:Int)<=(j:Int):=McS;clear ah hi ko zm ho ha hB iJ hx ti hel;by_cases hz:0<=z
       ·have kC:Hid (ze0 (gs.take (j+1))=ze0 (gs.take j)++[z]):=by show _=_;rw[vY.o,if_pos hz]
        have ai:=HA.o.ne f0 (λ⟨_,h⟩=>by cases h);have fF:=zHi ai;clear ai;go_wp2_with (at_builtin;go_loud(refine zfw (v:=.slice V2 pe.length vc2) (n:=pe.length) rfl _ _ rfl rfl (HO.o.keep (n:=wr.heap.size) Bw) (HA.o.keep (n:=wr.heap.size) Bw Qc) rfl rfl (sl_z1 (x:=z) (zas _ _ _ McV)) Mdf McS McX ?_);intro v5 w5 k1 k2 k3 k4)
        go_roundw
        case rel=>
         refine⟨j+1,by omega,by go_num,by rw[kC.o,<-List.append_assoc,<-jZ.o];exact k1,k4,zc4 Qc (λg hg=>(HO.o.ge g hg).1) k2 (zad aN.o _),?_,?_⟩
         ·exact(k2.block BB McX fF.o).trans (((zad (Below.refl wr.heap.size wr) _).block BB cI).trans av.o)
         ·exact(HX.o.keep (n:=wr.heap.size) (zad Qb _)).other (HA.o.keep (n:=wr.heap.size) (zad Qb _) Qc) k2 (λx=>⟨_,rfl,λ⟨_,h⟩=>by cases h⟩)
        case measure=>simp[intOf];omega
       ·have kC:Hid (ze0 (gs.take (j+1))=ze0 (gs.take j)):=by show _=_;rw[vY.o,if_neg hz,List.append_nil]
        go_wp2_with fail
        go_roundw
        case rel=>exact⟨j+1,by omega,by go_num,by rw[kC.o,<-jZ.o];exact HO.o,HA.o,aN.o,av.o,HX.o⟩
        case measure=>simp[intOf];omega
      ·have cd:¬(j:Int)<(gs.length:Int):=McS;have e:zfu laws ds (ds.take (k+1))=p1++ze0 (gs.take j):=by rw[cM.o,vP.o,List.take_of_length_le (by omega:gs.length<=j)];simp
       have HE:=zHi e;have rj:Hid ((p1++ze0 (gs.take j)).length<=100*(k+1)):=by
        show _<=_;have h1:=cG.o;have h2:p1.length=pre.length+1:=by rw[vP.o];simp
        rw[List.length_append];omega
       have ol:=aj.o;clear e ho ha hB iJ hx hel;generalize p1++ze0 (gs.take j)=pe at*;go_wp2_with fail
       go_roundw
       case rel=>exact⟨k+1,by omega,by go_num,by rw[HE.o];exact HO.o,HA.o,by rw[HE.o];exact rj.o,aN.o⟩
       case measure=>simp[intOf];omega
   ·have au:¬(k:Int)<(ds.length:Int):=McS;have e:ds.take k=ds:=List.take_of_length_le McS;rw[e]at HO cG gu⊢;clear ox aa hB e;generalize zfu laws ds ds=dd at*;go_wp2_with fail
    go_meet
    exact⟨HO.o,Nat.le_trans cG.o (Nat.mul_le_mul_left _ hk),HB.o⟩
 case rest=>
  obtain⟨aa,cX,hB⟩:=hcut;have cG:=zHi cX;clear cX qP;generalize kN:zfu laws ds ds=dd at*;have fR:=zHi kN;clear kN;obtain⟨n,hn⟩:=Qd dd.length
  have LL:n<=6000:=Meu;obtain⟨VA,vc,rfl,_,gu⟩:=aa.sl zed;rw[<-hn]at aa gu⊢;have HN:=zHi hn;clear hn;go_upto_block 4 with fail
  go_cut [11,12]from 71 to 109 (λ_ _ W=>∃xs:List Int,xs.length=n/\Hid (xs.Perm dd)/\Hid (xs.Pairwise (· <= ·))/\OwnS W W0.heap.size 3 1 zC (.slice VA n vc) xs/\Qa W0 W)
  case first=>
   go_wp2_with fail
   go_loopw [11] (λi wr=>∃(k:Nat) (xs:List Int),k<=n/\i=.int .i64 k/\xs.length=n/\Hid (xs.Perm dd)/\Hid (zmE xs k)/\OwnS wr W0.heap.size 3 1 zC (.slice VA n vc) xs/\Qa W0 wr) (λi _=>n-(intOf i).toNat)
   case atStart=>exact⟨0,dd,Nat.zero_le _,rfl,HN.o.symm,List.Perm.refl _,λa b _ h=>by omega,aa,hB⟩
   case round=>
    obtain⟨k,xs,hk,rfl,bx,HP,HS,ho,hb⟩:=hrel;by_cases ae:k<n
    ·obtain⟨g,o,rfl⟩:∃g o,VA=some ⟨g,o,none⟩:=by
      rcases ho with⟨h1,h2⟩|⟨g,o,cap,cur,h1,_⟩
      ·subst h2;simp at bx;omega
      ·injection h1 with h1
       exact⟨g,o,h1⟩
     have au:(k:Int)<(n:Int):=McS;obtain⟨aj,HI,HO,HB,dw⟩:=yH5 ae (ins_start HS.o) ho hb bx;clear ae bx HS ho hb aa hB;go_upto_block 6 with fail
     go_wp2_with fail
     go_loopw [12] (λv wr=>∃(j:Nat) (ys:List Int),j<=k/\v=.int .i64 j/\ys.length=n/\Hid (ys.Perm dd)/\Hid (zqa ys k j)/\OwnS wr W0.heap.size 3 1 zC (.slice (some ⟨g,o,none⟩) n vc) ys/\Qa W0 wr) (λv _=>(intOf v).toNat)
     case atStart=>exact⟨k,xs,Qc,rfl,dw.o,HP,HI,HO.o,HB.o⟩
     case round=>
      clear HI HO HP HB dw;obtain⟨j,ys,fX,rfl,kp,HP,HI,ho,hb⟩:=hrel;have oG:=aj.o;have kH:=zHi kp;cases j with
      |zero=>
       obtain⟨kC,HO,HB⟩:=yH3 (ins_zero HI.o) ho hb;clear ho hb kp;exact Mam
      |succ m=>
       obtain⟨c1,z1⟩:=znV (xs:=ys) (c:=vc) (show OwnS wr W0.heap.size 3 1 zC (.slice (some ⟨g,o,none⟩) ys.length vc) ys by rw[kp];exact ho) (k:=m+1) McS;obtain⟨c0,z0⟩:=znV (xs:=ys) (c:=vc) (show OwnS wr W0.heap.size 3 1 zC (.slice (some ⟨g,o,none⟩) ys.length vc) ys by rw[kp];exact ho) (k:=m) McS;have ct:(m:Int)+1<(n:Int):=McS;have nv:(m:Int)<(n:Int):=McS;have fA:(0:Int)<=(m:Int):=McS;have En:(0:Int)<(m:Int)+1:=McS;by_cases hl:atZ ys (m+1)<atZ ys m
       ·have kC:=zHi (ins_step HI.o fX McS (Nat.succ_pos m) hl);have cT:Hid (∀W:World,OwnS W W0.heap.size 3 1 zC (.slice (some ⟨g,o,none⟩) n vc) ys->OwnS ((W.setCell ⟨g,o+(m+1),none⟩ (.int .i64 (atZ ys m))).setCell ⟨g,o+m,none⟩ (.int .i64 (atZ ys (m+1)))) W0.heap.size 3 1 zC (.slice (some ⟨g,o,none⟩) n vc) (swp ys (m+1))):=λW hW=>by
         have h1:=zoI (k:=m+1) (x:=atZ ys m) (show OwnS W W0.heap.size 3 1 zC (.slice (some ⟨g,o,none⟩) ys.length vc) ys by rw[kp];exact hW) McS;have h2:=zoI (k:=m) (x:=atZ ys (m+1)) (show OwnS _ W0.heap.size 3 1 zC (.slice (some ⟨g,o,none⟩) (ys.set (m+1) (atZ ys m)).length vc) (ys.set (m+1) (atZ ys m)) by rw[List.length_set];exact h1) (by rw[List.length_set];omega);rw[List.length_set,kp]at h2;exact h2
        obtain⟨Ca,HO,HB⟩:=yH3 (swp_perm (xs:=ys) (k:=m+1) (Nat.succ_pos m) McS) ho hb;clear ho hb kp;generalize atZ ys (m+1)=x1 at*;generalize atZ ys m=x0 at*;go_wp2_with fail
        go_quiet (fail)
        go_wp2_with fail
        go_region
        go_wp2_with fail
        go_roundw
        case rel=>
         refine⟨m,swp ys (m+1),by omega,by go_num,by rw[swp_len];exact kH.o,Ca.o.trans HP.o,kC,cT.o _ (HO.o.keep (n:=wr.heap.size) (zcD Qb _)),?_⟩;have bW:Qa W0 (wr.drewN (nq+1)):=zcD HB.o _;have bh:=(HO.o.ge g rfl).1;have hJ:=zaV bW (zbu g [.int .i64 x0] (o+(m+1)) (wr.drewN (nq+1))) bh;exact zaV hJ (zbu g [.int .i64 x1] (o+m) _) bh
        case measure=>first|(simp[intOf];done)|(simp[intOf];omega)
       ·have kC:=zHi (ins_done HI.o fX (Nat.succ_pos m) (by simpa using(by omega:atZ ys m<=atZ ys (m+1))));obtain⟨HO,HB⟩:=yH2 ho hb;clear ho hb kp;generalize atZ ys (m+1)=x1 at*;generalize atZ ys m=x0 at*;exact Mam
    ·have au:¬(k:Int)<(n:Int):=McS;have e:k=n:=McS;have hs:=HS.o;rw[e,<-bx]at hs;have HQ:=zHi (znU hs);clear hs e aa hB;go_wp2_with fail
     go_meet
     exact⟨xs,bx,HP,HQ,ho,hb⟩
  case rest=>
   clear aa hB;obtain⟨xs,bx,HP,HQ,aa,hB⟩:=hcut;obtain⟨WC,qd⟩:=Qd wc
   subst qd;obtain⟨cR,HB,HD⟩:=yH3 aa hB (λx (hx:x∈xs)=>C7.o x (zS.o x (HP.o.mem_iff.1 hx)));have pJ:=(hB.block _ eS).trans lC.o;have du:=zHi pJ;have dH:=hB.size;have dw:=zHi bx;clear aa hB pJ C7 zS bx;go_upto_block 8 with fail
   go_wp2_with fail
   go_loopw [13,14,15] (λv b i wr=>∃(k:Nat) (txs:List TX) (A:Option Addr) (c:Nat),k<=n/\i=.int .i64 k/\b=.slice A (befT txs).length c/\OwnS wr WC.heap.size 38 2 TX.cells v txs/\NoText wr v/\Hid (HsS wr txs)/\Hid (Sl wr 3 zaa A (befT txs))/\Hid (zhw (hOn laws ds place) xs []=txs.map txP++zhw (hOn laws ds place) (xs.drop k) (befT txs))/\Hid (txs.length<=k)/\Qa WC wr) (λ_ _ i _=>n-(intOf i).toNat)
   case atStart=>exact⟨0,[],none,0,Nat.zero_le _,rfl,rfl,OwnS.nil,NoText.nil _,λx hx=>by simp at hx,Sl.nil,rfl,Qc,Qb⟩
   case round=>
    obtain⟨k,txs,A,c,hk,rfl,rfl,aa,qs,gx,qL,rA,lB,hB⟩:=hrel;obtain⟨VA2,vc2,rfl,fk,j8⟩:=aa.sl zeT;by_cases ae:k<n
    ·obtain⟨w3,ET⟩:=Qd wr
     subst ET;obtain⟨g,o,rfl⟩:∃g o,VA=some ⟨g,o,none⟩:=by
      rcases cR.o with⟨h1,h2⟩|⟨g,o,cap,cur,h1,_⟩
      ·have:=dw.o;subst h2;simp at this;omega
      ·injection h1 with h1
       exact⟨g,o,h1⟩
     have hZ:∀j,j<n->WC.cell? ⟨g,o+j,none⟩=some (.int .i64 (atZ xs j)):=λj hj=>(znV (xs:=xs) (c:=vc) (show OwnS WC W0.heap.size 3 1 zC (.slice (some ⟨g,o,none⟩) xs.length vc) xs by rw[dw.o];exact cR.o) (k:=j) (by rw[dw.o];exact hj)).1
     have hz:=hZ k ae;have bQ:=zcs hz;have bm:atZ xs k∈xs:=by
      have hx:=dw.o;unfold atZ;rw[List.getElem?_eq_getElem McS];exact List.getElem_mem _
     have pB:=HD.o _ bm;have bY:=rA.o;rw[zqd Mdw,dw.o]at bY;have xA:k+1<n->WC.cell? ⟨g,o+(k+1),none⟩=some (.int .i64 (atZ xs (k+1))):=λh=>hZ (k+1) h
     generalize atZ xs k=day at*;generalize atZ xs (k+1)=dn at*;obtain⟨nw,Eu⟩:=Qd (hOn laws ds place day)
     rw[<-Eu]at bY;have yD:nw=zbH (zaI laws ds day).1 place day:=Eu;clear Eu;have eB:=zHi (λW (h:Qa w W)=>vS.o day W h);unfold zjo at eB;obtain⟨Jv,HT⟩:=yH2 pB.1 pB.2;generalize zaI laws ds day=R at*;have kP:=pB.2.holders place day;have aK:=zHi (λW a0 a1 a2 a3 a4 a5 a6 (h:StAt W laws R.1 a0 a1 a2 a3 a4 a5 a6)=>sHolders laws R.1 ds.length place day W h HT.o McS);unfold zhv at aK;rw[<-yD]at kP aK;have cU:=zHi bY;have yC:nw.length<=100000:=McS;obtain⟨lj,zN,vf,aj⟩:=yH4 yC (befT_len gx.o) xA ae;have pK:=(hB.block _ (zab du.o)).trans du.o;have Ej:=zab pK;have Bf:=(zai hB bQ).trans hz;have qh:=zcs Bf;have lz:=zHi (λW (h:Qa w3 W)=>And.intro (zbx ((h.block _ Ej).trans pK)) ((zai h qh).trans Bf));have aG:=zHi (ak.o.trans ((HB.o.trans (hB.mono dH)).mono ay));obtain⟨HO,HN,tK⟩:=yH3 aa qs hB;have zb:=hB.size;have zu:txs.length<=10000:=by have:=lB.o;omega
     have au:(k:Int)<(n:Int):=McS;have aR:(0:Int)<=(k:Int):=McS;clear hZ hz bQ bm pB bY xA kP yC pK Bf hB aa qs fk yD rA HD HQ;have HQ:=Jv;go_upto_region 24 with fail
     go_cut [16,17,18]from 116 to 125 (λv16 _ _ W=>∃BB a0 a1 a2 a3 a4 a5 a6,v16=.pointer (some ⟨BB,0,none⟩)/\W.heap[BB]?=some (.cells #[a0,a1,a2,a3,a4,a5,a6] 86)/\StAt W laws R.1 a0 a1 a2 a3 a4 a5 a6/\Qa w3 W)
     case first=>
      refine za9 5 (λbb w'=>bb=true\/((w'.cell? ⟨w.heap.size,0,none⟩=some (.slice LA laws.length nc)/\w'.cell? ⟨w.heap.size,1,none⟩=some (.slice DA ds.length mc))/\w'.cell? ⟨g,o+k,none⟩=some (.int .i64 day))) McT (.inr (lz.o _ (zaF Qb))) ?hrest
      case hrest=>
       intro hHeld;refine TkM 0 ?_;refine TkM 1 ?_;refine TkM 2 ?_;refine TkM 3 ?_;refine TkM 4 ?_;refine zeb (rs:=[5,10]) McT McV (AllReadyM.cons (List.getElem?_toArray.trans rfl) true McT (λK hK=>?_) (AllReadyM.cons (List.getElem?_toArray.trans rfl) false McT (λK hK=>?_) AllReadyM.nil))
       ·go_simp
        refine(eB.o _ (aG.o.trans ((zaF Qb).mono aG.o.size))).mono ?_;rintro e w5 ⟨a0,a1,a2,a3,a4,a5,a6,rfl,aZ,ar,aq⟩;obtain⟨⟨E0,m0,q0,rfl⟩,⟨E1,m1,q1,rfl⟩,⟨E2,m2,q2,rfl⟩,⟨E3,m3,q3,rfl⟩,⟨E4,m4,q4,rfl⟩,⟨E5,m5,q5,rfl⟩,⟨E6,m6,q6,rfl⟩⟩:=zcm aZ;have nK:=aq HQ.o;have cq:Qa w3 w5:=(zaF Qb:Qa w3 _).trans (ar.mono McV);refine NxM hK λhHeld=>?_
        clear hK K;refine FrM 6 true ?_;refine FrM 7 true ?_;refine FrM 8 true ?_;refine FrM 9 true ?_;refine OnM 10 true λK hK=>?_
        go_simp
        refine NxM hK λhHeld=>?_
        clear hK K;have jz:(w5.alloc (.cells #[.slice none 0 0,.slice none 0 0,.slice none 0 0,.slice none 0 0,.slice none 0 0,.slice none 0 0,.slice none 0 0] 86)).heap[w5.heap.size]?=some (.cells #[.slice none 0 0,.slice none 0 0,.slice none 0 0,.slice none 0 0,.slice none 0 0,.slice none 0 0,.slice none 0 0] 86):=zas _ _ _ rfl;exact Mcm
       ·go_simp
        have aB:Qa w3 (w3.drew.alloc (.cells #[.slice none 0 0,.slice none 0 0,.slice none 0 0,.slice none 0 0,.slice none 0 0,.slice none 0 0,.slice none 0 0] 86)):=zad (zaF Qb) _;refine NxM hK (λhHeld=>?_) (.inr (lz.o _ aB));clear hK K;refine OnM 5 true λK hK=>?_
        go_simp
        refine(eB.o _ (aG.o.trans (aB.mono aG.o.size))).mono ?_;rintro e w5 ⟨a0,a1,a2,a3,a4,a5,a6,rfl,aZ,ar,aq⟩;obtain⟨⟨E0,m0,q0,rfl⟩,⟨E1,m1,q1,rfl⟩,⟨E2,m2,q2,rfl⟩,⟨E3,m3,q3,rfl⟩,⟨E4,m4,q4,rfl⟩,⟨E5,m5,q5,rfl⟩,⟨E6,m6,q6,rfl⟩⟩:=zcm aZ;have nK:=aq HQ.o;have cq:Qa w3 w5:=(aB:Qa w3 _).trans (ar.mono McV);refine NxM hK λhHeld=>?_
        clear hK K;refine FrM 6 true ?_;refine FrM 7 true ?_;refine FrM 8 true ?_;refine FrM 9 true ?_;have jz:w5.heap[w3.heap.size]?=some (.cells #[.slice none 0 0,.slice none 0 0,.slice none 0 0,.slice none 0 0,.slice none 0 0,.slice none 0 0,.slice none 0 0] 86):=(ar.block _ McV).trans (zas _ _ _ McV);exact Mcm
     case rest=>
      obtain⟨BB,a0,a1,a2,a3,a4,a5,a6,rfl,ja,aq,aB⟩:=hcut;have HH:=zHi (λW (h:Qa wc W)=>aK.o W _ _ _ _ _ _ _ (aq.keep h));obtain⟨wd,rd,LA2,CA,MA,DA2,WA,RA,GA,d0,d1,d2,d3,d4,d5,d6,rfl,rfl,rfl,rfl,rfl,rfl,rfl,hI,hL⟩:=aq;obtain⟨f0,f1,f2,f3,f4,f5,f6⟩:=zaG ja;have cI:=zab ja;have FK:=zHi (λW (h:Qa wc W)=>And.intro (zaG ((h.block _ (zab ja)).trans ja)) (lz.o W (aB.trans (h.mono aB.size))).2);have dL:=zHi aB;obtain⟨W4,gZ⟩:=Qd wc
      subst gZ;clear hI hL aB aK ja eB f0 f1 f2 f3 f4 f5 f6 cI HQ;go_upto_region 25 with fail
      go_cut [19]from 126 to 132 (λv19 W=>∃NA na,v19=.slice NA nw.length na/\Sl W 3 zaa NA nw/\Qa W4 W)
      case first=>
       refine za9 6 (λbb w'=>bb=true\/((w'.cell? ⟨BB,0,none⟩=some (.slice LA2 laws.length d0)/\w'.cell? ⟨BB,1,none⟩=some (.slice CA R.1.children.length d1)/\w'.cell? ⟨BB,2,none⟩=some (.slice MA R.1.marriages.length d2)/\w'.cell? ⟨BB,3,none⟩=some (.slice DA2 R.1.dead.length d3)/\w'.cell? ⟨BB,4,none⟩=some (.slice WA wd.length d4)/\w'.cell? ⟨BB,5,none⟩=some (.slice RA rd.length d5)/\w'.cell? ⟨BB,6,none⟩=some (.slice GA R.1.graves.length d6))/\w'.cell? ⟨g,o+k,none⟩=some (.int .i64 day))) McT (.inr (FK.o _ (zaF Qb))) ?hrest
       case hrest=>
        intro hHeld;refine TkM 0 ?_;refine TkM 1 ?_;refine TkM 2 ?_;refine TkM 3 ?_;refine TkM 4 ?_;refine TkM 5 ?_;refine OnM 6 true λK hK=>?_
        go_simp
        refine(HH.o _ (zaF Qb)).mono ?_;rintro e w5 ⟨NA,na,rfl,lQ,ar⟩;refine NxM hK λhHeld=>?_
        clear hK K;refine OnM 7 true λK hK=>?_
        go_simp
        refine NxM hK λhHeld=>?_
        clear hK K;refine zaO McT ?_ _;clear hHeld;go_wp2_with fail
        go_meet
        exact⟨NA,na,rfl,lQ,(zaF Qb:Qa W4 W4.drew).trans (ar.mono McV)⟩
      case rest=>
       obtain⟨NA,na,rfl,lQ,ar⟩:=hcut;obtain⟨w5,Bc⟩:=Qd wc
       subst Bc;go_upto_region 26 with fail
       obtain⟨W6,fU⟩:=Qd w5
       subst fU;have aS:Qa w3 W6:=dL.o.trans (ar.mono dL.o.size);obtain⟨av,eA,rp⟩:=yH3 (tK.o.trans (aS.mono zb)) (HO.o.keep aS) (HN.o.keep aS);have kZ:Hid (HsS W6 txs):=zHi (λx hx=>⟨(gx.o x hx).1.keep aS,(gx.o x hx).2⟩);obtain⟨mf,tX⟩:=yH2 (qL.o.keep aS) lQ;have nH:=av.o.size;have Bg:=(lz.o W6 aS).2;have bF:=zcs Bg;have qQ:Hid (k+1<n->W6.cell? ⟨g,o+(k+1),none⟩=some (.int .i64 dn)):=zHi (λh=>(zai av.o (zcs (vf.o h))).trans (vf.o h));clear ar lQ aS HO HN gx qL HH FK lz dL vf;by_cases hA:nw=befT txs
       ·have HA:=zHi hA;clear hA;have fG:=zHi (λW (h:Qa W6 W)=>(zgP (befT txs) nw A NA c na W (mf.o.keep h) (tX.o.keep h) zN.o lj.o).mono λe w' hx=>eq_true HA.o.symm hx)
        (refine zag McT McT ?_
         repeat(first|go_big_quiet_skip|(go_big_quiet_want;go_big_quiet_op;first|go_big_quiet_on|(apply Exists.intro;refine⟨λ_=>?_,?_⟩;(go_at_call 10;exact quietx (fG.o _ Bw));go_big_quiet_on)))
         refine wpQuiet_nil ?_
         rintro _ ⟨zq,rfl⟩)
        clear fG;go_wp2_with fail
        go_roundw
        case rel=>
         have bY:=cU.o;rw[if_neg (λh=>h.1 HA.o)]at bY;exact Mak
        case measure=>have:=aj.o;simp only[intOf];omega
       ·have HA:=zHi hA;clear hA;by_cases hl:k+1<n
        ·have c1:=qQ.o hl;have fY:(0:Int)<=(k:Int)+1:=McS;have ol:(k:Int)+1<(n:Int):=McS;obtain⟨i9,og⟩:∃i,n=i+1:=⟨n-1,by omega⟩
         have kV:=zlk og McS;have LM:((k:Int)==(i9:Int))=false:=by
          have:¬(k:Int)=(i9:Int):=by omega
          simpa using this
         have HL:=zHi hl;clear og hl qQ;by_cases hd:dn=day
         ·subst hd;have fG:=zHi (λW (h:Qa W6 W)=>(zgP (befT txs) nw A NA c na W (mf.o.keep h) (tX.o.keep h) zN.o lj.o).mono λe w' hx=>zll (λh=>HA.o h.symm) hx)
          (refine zag McT McT ?_
           repeat(first|go_big_quiet_skip|(go_big_quiet_want;go_big_quiet_op;first|go_big_quiet_on|(apply Exists.intro;refine⟨λ_=>?_,?_⟩;(go_at_call 10;exact quietx (fG.o _ Bw));go_big_quiet_on)))
           refine wpQuiet_nil ?_
           rintro _ ⟨zq,rfl⟩)
          clear fG;go_wp2_with fail
          go_roundw
          case rel=>
           have bY:=cU.o;rw[if_neg (λh=>h.2 ⟨HL.o,rfl⟩)]at bY;exact Mak
          case measure=>have:=aj.o;simp only[intOf];omega
         ·have fR:=zHi hd;have ux:(dn != day)=true:=by simpa using hd
          have fG:=zHi (λW (h:Qa W6 W)=>(zgP (befT txs) nw A NA c na W (mf.o.keep h) (tX.o.keep h) zN.o lj.o).mono λe w' hx=>zll (λh=>HA.o h.symm) hx)
          (refine zag McT McT ?_
           repeat(first|go_big_quiet_skip|(go_big_quiet_want;go_big_quiet_op;first|go_big_quiet_on|(apply Exists.intro;refine⟨λ_=>?_,?_⟩;(go_at_call 10;exact quietx (fG.o _ Bw));go_big_quiet_on)))
           refine wpQuiet_nil ?_
           rintro _ ⟨zq,rfl⟩)
          clear fG;go_wp2_with (at_builtin;go_loud(refine zfx (v:=.slice VA2 txs.length vc2) (n:=txs.length) (x:=⟨day,nw,NA,na⟩) rfl _ _ rfl rfl (eA.o.keep (n:=W6.heap.size) Bw) (rp.o.keep (n:=W6.heap.size) Bw) rfl rfl (zpZ (x:=⟨day,nw,NA,na⟩) (zas _ _ _ Mdu)) Mdf McS Mc1 ?_);intro v3 w7 h1 h2 h3 h4)
          go_roundw
          case rel=>
           have bY:=cU.o;rw[if_pos ⟨HA.o,λh=>fR.o h.2⟩]at bY;exact MF
          case measure=>have:=aj.o;simp only[intOf];omega
        ·have kV:=zlk (i:=k) (y:=n) McS McS;have HL:=zHi hl;clear hl qQ;have fG:=zHi (λW (h:Qa W6 W)=>(zgP (befT txs) nw A NA c na W (mf.o.keep h) (tX.o.keep h) zN.o lj.o).mono λe w' hx=>zll (λh=>HA.o h.symm) hx)
         (refine zag McT McT ?_
          repeat(first|go_big_quiet_skip|(go_big_quiet_want;go_big_quiet_op;first|go_big_quiet_on|(apply Exists.intro;refine⟨λ_=>?_,?_⟩;(go_at_call 10;exact quietx (fG.o _ Bw));go_big_quiet_on)))
          refine wpQuiet_nil ?_
          rintro _ ⟨zq,rfl⟩)
         clear fG;go_wp2_with (at_builtin;go_loud(refine zfx (v:=.slice VA2 txs.length vc2) (n:=txs.length) (x:=⟨day,nw,NA,na⟩) rfl _ _ rfl rfl (eA.o.keep (n:=W6.heap.size) Bw) (rp.o.keep (n:=W6.heap.size) Bw) rfl rfl (zpZ (x:=⟨day,nw,NA,na⟩) (zas _ _ _ Mdu)) Mdf McS Mc1 ?_);intro v3 w7 h1 h2 h3 h4)
         go_roundw
         case rel=>
          have bY:=cU.o;rw[if_pos ⟨HA.o,λh=>HL.o h.1⟩]at bY;exact MF
         case measure=>have:=aj.o;simp only[intOf];omega
    ·have au:¬(k:Int)<(n:Int):=McS;have bY:=rA.o;rw[List.drop_of_length_le Mdw,zhw,List.append_nil]at bY;obtain⟨cU,kg⟩:=yH2 bY fk;have aN:=zHi (ak.o.trans ((HB.o.trans (hB.mono dH)).mono ay));clear bY fk hB aa qs;go_wp2_with fail
     go_ret
     exact⟨VA2,vc2,txs,xs,rfl,aN.o,kg.o,gx.o,HQ.o,by rw[fR.o];exact HP.o,by have:=lB.o;omega,cU.o.symm⟩
