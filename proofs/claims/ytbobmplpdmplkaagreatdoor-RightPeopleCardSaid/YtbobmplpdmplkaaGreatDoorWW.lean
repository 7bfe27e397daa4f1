import Derived.Test.YtbobmplpdmplkaaGreatDoorWM
import Derived.Test.YtbobmplpdmplkaaGreatDoorEE
set_option linter.all false
set_option maxRecDepth 100000
set_option maxHeartbeats 4000000
namespace Go.Proofs.YtbobmplpdmplkaaGreatDoor
open Go.RowKit Go.Shelf
attribute [local go_sem] World.cell?_alloc_mark zaf za4 zam za7 zaw zax zay zaz za0 za1 za2
attribute [local go_sem] zan zac
def CopyPost(w:World)(ls:List Law)(ds:List Deed)(e:Ending)(w':World):Prop:=
 ∃A nc B mc,e=.returned (.agg #[.slice A ls.length nc,.slice B ds.length mc])/\RightsIn w' ls ds A ls.length nc B ds.length mc/\Below w.heap.size w w'
def CopyOwn(w:World)(ls:List Law)(ds:List Deed)(e:Ending)(w':World):Prop:=
 ∃A nc B mc base xs,e=.returned (.agg #[.slice A ls.length nc,.slice B ds.length mc])/\ls.length<=nc/\Ro w' 109 Law.cells A ls/\xs.map DV.d=ds/\(∀x∈xs,x.d.to.length<=x.c/\Ro w' 71 RPart.cells x.B x.d.to)/\OwnS w' base 76 7 DV.cells (.slice B ds.length mc) xs/\w.heap.size<=base/\base<=w'.heap.size/\Below w.heap.size w w'
theorem zne(ls:List Law)(ds:List Deed)(LA:Option Addr)(n nc:Nat)(DA:Option Addr)(m mc:Nat)(w:World)(hR:RightsIn w ls ds LA n nc DA m mc)(hl:ls.length<=1000)(hd:ds.length<=1000)(ht:∀d∈ds,d.to.length<=100000):
 Calls Tryz.prog 8 #[.agg #[.slice LA n nc,.slice DA m mc]] w (CopyOwn w ls ds):=by
 obtain⟨rfl,rfl,xF,sB,ii,ke⟩:=hR;obtain⟨eu,fU,HT⟩:=yH3 ii ke ht;clear ii ke ht;go_enter Tryz.func8,Tryz.ntmps8
 go_upto_region 1 with fail
 obtain⟨W1,aT⟩:∃W1,W1=(w.alloc (.cells #[.slice LA ls.length nc,.slice DA ds.length mc] 25)).alloc (.cells #[.slice none 0 0,.slice none 0 0] 25):=⟨_,rfl⟩
 have b0:W1.heap[w.heap.size]?=some (.cells #[.slice LA ls.length nc,.slice DA ds.length mc] 25):=by rw[aT];exact zal (zar _ _ _ rfl)
 have r0:W1.heap[w.heap.size+1]?=some (.cells #[.slice none 0 0,.slice none 0 0] 25):=by rw[aT];exact zar _ _ _ McB
 have cu:Below w.heap.size w W1:=by rw[aT];exact Bw
 rw[<-aT];have aA:=zHi cu;clear aT cu;have l0:=zab b0;have l1:=zab r0;obtain c0:=cF1 b0
 go_upto_region 2 with(at_builtin
                       go_loud(refine zat (v:=.slice (some ⟨W1.heap.size,0,none⟩) 0 0) (n:=0) (m:=ls.length) rfl _ _ rfl elLaw (fun _=>rfl) lw_one rfl (xs:=[]) (ys:=ls) (made_law W1) rfl rfl rfl (eu.o.keep (aA.o.trans (Below.mono (B:=W1.heap.size) Bw aA.o.size))) Mc6 Mcy McB ?_)
                       intro v2 w2 h1 h2 h3;rw[List.nil_append]at h1;have e1:w2.heap[w.heap.size]?=_:=(h2.block w.heap.size McD MdL).trans (zal b0);have e2:w2.heap[w.heap.size+1]?=_:=(h2.block (w.heap.size+1) McD MdL).trans (zal r0);have bs:Below W1.heap.size W1 w2:=Below.grown (zad (Below.refl _ _) _) h2 McB Mdc;obtain⟨A2,c2,rfl,cx,s2⟩:=h1.ro
                       clear h1 h2 h3)
 obtain⟨S2,aJ⟩:=yH2 s2 (aA.o.trans (bs.mono aA.o.size));have bn:=aJ.o.size;have m0:=zab e1;have m1:=zab e2;clear s2 bs aA b0 r0 c0 l0 l1 eu;obtain⟨OB,jI⟩:∃OB,OB=w2.heap.size:=⟨_,rfl⟩
 have qX:Below OB w2 (w2.alloc (.cells #[.slice A2 ls.length c2,.slice none 0 0] 25)):=by rw[jI];exact Bw
 have o3:(w2.alloc (.cells #[.slice A2 ls.length c2,.slice none 0 0] 25)).heap[OB]?=some (.cells #[.slice A2 ls.length c2,.slice none 0 0] 25):=zar _ _ _ jI;go_upto_region 3 with fail
 rw[<-jI];have yV:=zHi jI;go_loopw [4] (fun i wr=>∃(k:Nat) (xs:List DV) (v:Value),k<=ds.length/\i=.int .i64 k/\Hid (xs.map (·.d)=ds.take k)/\Hid (∀x∈xs,x.d.to.length<=x.c/\Ro wr 71 RPart.cells x.B x.d.to)/\OwnS wr (OB+1) 76 7 DV.cells v xs/\wr.heap[OB]?=some (.cells #[.slice A2 ls.length c2,v] 25)/\Below OB w2 wr) (fun i _=>ds.length-(intOf i).toNat)
 case atStart=>exact⟨0,[],.slice none 0 0,Nat.zero_le _,rfl,zHi McB,zHi McB,OwnS.nil,o3,qX⟩
 case round=>
  obtain⟨k,xs,v,hk,rfl,HM,HP,aa,ho,hB⟩:=hrel;have kp:=zab ho;have fj:Below w.heap.size w wr:=aJ.o.trans (hB.mono Mcy);have aG:=fj.size;have b1:wr.heap[w.heap.size]?=some (.cells #[.slice LA ls.length nc,.slice DA ds.length mc] 25):=(hB.block _ Mcy).trans e1;have r1:wr.heap[w.heap.size+1]?=some (.cells #[.slice none 0 0,.slice none 0 0] 25):=(hB.block _ Mcy).trans e2;obtain⟨-,p2⟩:=cF2 b1;obtain⟨VA,vc,rfl,_,kB⟩:=aa.sl zcf;have bM:xs.length=k:=by
   have:=congrArg List.length HM.o;simp at this;omega
  by_cases ae:k<ds.length
  ·obtain⟨b,off,cs,hA,hb,hr,ah⟩:=(fU.o.keep zcc fj).at ae;have iQ:ds.take (k+1)=ds.take k++[ds[k]]:=by rw[List.take_add_one,List.getElem?_eq_getElem ae];rfl
   have cn:=HT.o _ (List.getElem_mem ae);have ak:=zHi ae;generalize ds[k]=x at*;obtain⟨B,c,hc,rfl,hS⟩:=hr;have gF:=zHi (fun W' (h:Below wr.heap.size wr W')=>deed_any x B c W' cn (hS.keep h));unfold Deed.v at gF;subst hA;obtain⟨-,p1⟩:=cF2 ho;rw[bM]at p1;have i0:=ah 0 _ rfl;have i1:=ah 1 _ rfl;have i2:=ah 2 _ rfl;have i3:=ah 3 _ rfl;have i4:=ah 4 _ rfl;have i5:=ah 5 _ rfl;have i6:=ah 6 _ rfl;simp only[Nat.add_zero]at i0;have ar:(k:Int)<(ds.length:Int):=Mcy;have aQ:(0:Int)<=(k:Int):=Mcy;obtain⟨kR,fN,dH,Ip,HB⟩:=yH5 iQ bM aa ho hB;have qb:w.heap.size<wr.heap.size:=Mcy
   have aE:=zHi (fun(w':World) (h:Below wr.heap.size wr w')=>(show w'.cell? ⟨OB,1,none⟩=some (.slice VA k vc)/\w'.cell? ⟨w.heap.size,1,none⟩=some (.slice (some ⟨b,off,none⟩) ds.length mc)/\w'.cell? ⟨b,off+k*7,none⟩=some (.int .i64 x.kind)/\w'.cell? ⟨b,off+k*7+1,none⟩=some (.int .i64 x.day)/\w'.cell? ⟨b,off+k*7+2,none⟩=some (.string x.place)/\w'.cell? ⟨b,off+k*7+3,none⟩=some (.string x.frm)/\w'.cell? ⟨b,off+k*7+4,none⟩=some (.slice B x.to.length c)/\w'.cell? ⟨b,off+k*7+5,none⟩=some (.int .i64 x.cls)/\w'.cell? ⟨b,off+k*7+6,none⟩=some (.int .i64 x.years) from
    ⟨(zah h kp).trans p1,(zah h qb).trans p2,(zah h hb).trans i0,(zah h hb).trans i1,(zah h hb).trans i2,(zah h hb).trans i3,(zah h hb).trans i4,(zah h hb).trans i5,(zah h hb).trans i6⟩))
   clear ah ae hS aa ho hB iQ bM cn jI;go_upto_region 5 with fail
   refine zaB 9 (fun bb w'=>bb=true\/(w'.cell? ⟨OB,1,none⟩=some (.slice VA k vc)/\w'.cell? ⟨w.heap.size,1,none⟩=some (.slice (some ⟨b,off,none⟩) ds.length mc)/\w'.cell? ⟨b,off+k*7,none⟩=some (.int .i64 x.kind)/\w'.cell? ⟨b,off+k*7+1,none⟩=some (.int .i64 x.day)/\w'.cell? ⟨b,off+k*7+2,none⟩=some (.string x.place)/\w'.cell? ⟨b,off+k*7+3,none⟩=some (.string x.frm)/\w'.cell? ⟨b,off+k*7+4,none⟩=some (.slice B x.to.length c)/\w'.cell? ⟨b,off+k*7+5,none⟩=some (.int .i64 x.cls)/\w'.cell? ⟨b,off+k*7+6,none⟩=some (.int .i64 x.years))) Mcz (.inr (aE.o _ (zaK (Below.refl _ _)))) ?hrest
   case hrest=>
    intro hHeld;refine TkM 0 ?_;refine TkM 1 ?_;refine TkM 2 ?_;refine TkM 3 ?_;refine TkM 4 ?_;refine TkM 5 ?_;refine TkM 6 ?_;refine OnM 7 false fun K hK=>?_
    go_simp
    refine(gF.o _ (zaK (Below.refl _ _))).mono ?_;rintro e w5 ⟨B5,c5,rfl,nD,ro5,ao⟩;unfold Deed.v;have ee:Below wr.heap.size wr w5:=(zaK (Below.refl _ _):Below wr.heap.size wr wr.drew).trans ao;refine NxM hK (fun hHeld=>?_) (.inr (aE.o _ ee));clear hK K;refine OnM 8 false fun K hK=>?_
    go_simp
    have aP:Below wr.heap.size wr (w5.alloc (.cells #[.int .i64 x.kind,.int .i64 x.day,.string x.place,.string x.frm,.slice B5 x.to.length c5,.int .i64 x.cls,.int .i64 x.years] 76)):=zad ee _;have n6:(w5.alloc (.cells #[.int .i64 x.kind,.int .i64 x.day,.string x.place,.string x.frm,.slice B5 x.to.length c5,.int .i64 x.cls,.int .i64 x.years] 76)).heap[w5.heap.size]?=some (.cells #[.int .i64 x.kind,.int .i64 x.day,.string x.place,.string x.frm,.slice B5 x.to.length c5,.int .i64 x.cls,.int .i64 x.years] 76):=zar _ _ _ rfl;have ro6:Ro (w5.alloc (.cells #[.int .i64 x.kind,.int .i64 x.day,.string x.place,.string x.frm,.slice B5 x.to.length c5,.int .i64 x.cls,.int .i64 x.years] 76)) 71 RPart.cells B5 x.to:=ro5.keep (n:=w5.heap.size) (zad (Below.refl _ _) _);refine NxM hK (fun hHeld=>?_) (.inr (aE.o _ aP));clear hK K;refine OnM 9 true fun K hK=>?_
    generalize w5.alloc (.cells #[.int .i64 x.kind,.int .i64 x.day,.string x.place,.string x.frm,.slice B5 x.to.length c5,.int .i64 x.cls,.int .i64 x.years] 76)=W6 at*;have ow6:=dH.o.keep aP;refine zak (v:=.slice VA k vc) (n:=k) (m:=1) rfl _ _ rfl zgw zcf zgv rfl (xs:=xs) (ys:=[⟨x,B5,c5⟩]) (by have:=ow6;rw[fN.o]at this;exact this) fN.o rfl rfl (zi7 zcf n6 (by simp[DV.cells])) Mc6 Mcy MdM ?_;intro v7 w7 h1 h2 h3;obtain⟨A7,c7,kA,_,_⟩:=h1.sl zcf;rw[List.length_append]at kA;subst kA;have ow7:OwnS W6 (OB+1) 76 7 DV.cells (.slice VA k vc) xs:=by have:=ow6;rw[fN.o]at this;exact this
    have o7:w7.heap[OB]?=some (.cells #[.slice A2 ls.length c2,.slice VA xs.length vc] 25):=(h2.block OB MdM (fun e=>by have:=ow7.ge _ e.symm;omega)).trans ((aP.block OB kp).trans Ip.o);have ro7:Ro w7 71 RPart.cells B5 x.to:=znP ro6 ow7 h2 McA;have rs7:∀y∈xs,y.d.to.length<=y.c/\Ro w7 71 RPart.cells y.B y.d.to:=fun y hy=>⟨(HP.o y hy).1,znP ((HP.o y hy).2.keep aP) ow7 h2 McA⟩
    have bQ:Below OB w2 w7:=Below.grown (HB.o.trans (aP.mono Mcy)) h2 (by have:=HB.o.size;have:=aP.size;omega) (fun j hj=>by have:=ow7.ge _ hj;omega);have f7:w7.frozen? ⟨OB,1,none⟩=false:=by simp[World.frozen?,o7]
    obtain⟨-,t7⟩:=cF2 o7;refine NxM hK fun hHeld=>?_
    clear hK K;refine OnM 10 true fun K hK=>?_
    go_simp
    refine NxM hK fun hHeld=>?_
    clear hK K;refine OnM 11 true fun K hK=>?_
    go_simp
    refine NxM hK fun hHeld=>?_
    clear hK K;refine zaM Mcz ?_ _;clear hHeld;go_wp2_with fail
    go_round
    case rel=>
     refine⟨k+1,xs++[⟨x,B5,c5⟩],_,ak.o,by go_num,zHi (by rw[List.map_append,HM.o,kR.o];rfl),zHi (fun y hy=>?_),h1.grown (zav _ _ _ _) (.inr fun e=>by have:=h1.ge _ e;omega),?_,zaP bQ (Nat.le_refl _) _⟩
     ·rcases List.mem_append.1 hy with hy|hy
      ·exact⟨(rs7 y hy).1,(rs7 y hy).2.kept (zav _ _ _ _) o7 McA⟩
      ·obtain rfl:=List.mem_singleton.1 hy;exact⟨nD,ro7.kept (zav _ _ _ _) o7 McA⟩
     ·have:=Joins.block_setCell (i:=1) o7 (.slice A7 (xs.length+[(⟨x,B5,c5⟩:DV)].length) c7);simpa using this
    case measure=>have:=ak.o;simp only[intOf];omega
  ·have ar:¬(k:Int)<(ds.length:Int):=Mcy;have D9:xs.map (·.d)=ds:=by rw[HM.o,List.take_of_length_le Mcy]
   have bS:xs.length=ds.length:=by rw[<-D9,List.length_map]
   obtain⟨-,p1⟩:=cF2 ho;obtain p0:=cF1 ho;obtain⟨t0,t1⟩:=cF2 r1;have f0:∀j,wr.frozen? ⟨w.heap.size+1,j,none⟩=false:=fun j=>by simp[World.frozen?,r1]
   rw[bS]at p1;obtain⟨Ig,jT,dH,HB,b8⟩:=yH5 D9 bS aa hB fj;clear D9 bS aa hB fj ae bM ho jI;go_wp2_with fail
   refine bodyPost_ret (v:=.agg #[.slice A2 ls.length c2,.slice VA ds.length vc]) ?_ rfl ?_
   ·exact zi8 rfl _ _ (w.heap.size+1) _ _ rfl (zek r1)
   ·have rr:=Joins.block_setCell (i:=0) r1 (.slice A2 ls.length c2);have sn:∀ {α:Type} {e:TypeId} {f:α->List Value} {A:Option Addr} {ys:List α},e≠25->Ro wr e f A ys->Ro ((wr.setCell ⟨w.heap.size+1,0,none⟩ (.slice A2 ls.length c2)).setCell ⟨w.heap.size+1,1,none⟩ (.slice VA ds.length vc)) e f A ys:=fun ai h=>
     (h.kept (zav _ _ _ _) r1 (fun e=>ai e.symm)).kept (zav _ _ _ _) rr (fun e=>ai e.symm)
    have Ae:=zek (a:=.slice A2 ls.length c2) (b:=.slice VA ds.length vc) r1;refine⟨A2,c2,VA,vc,OB+1,xs,rfl,cx,sn McA (S2.o.keep (n:=OB) HB.o (by have:=yV.o;omega)),Ig.o,fun y hy=>⟨(HP.o y hy).1,sn McA (HP.o y hy).2⟩,?_,by have:=yV.o;omega,by simp;omega,zaP (zaP b8.o McB _) McB _⟩;have ho:=dH.o;rw[jT.o]at ho;have h1:=ho.grown (zav wr (w.heap.size+1) 0 (.slice A2 ls.length c2)) (.inr fun e=>by have:=ho.ge _ e;have:=yV.o;omega);exact h1.grown (zav _ (w.heap.size+1) 1 (.slice VA ds.length vc)) (.inr fun e=>by have:=ho.ge _ e;have:=yV.o;omega)
theorem zpb(ls:List Law)(ds:List Deed)(LA:Option Addr)(n nc:Nat)(DA:Option Addr)(m mc:Nat)(w:World)(hR:RightsIn w ls ds LA n nc DA m mc)(hl:ls.length<=1000)(hd:ds.length<=1000)(ht:∀d∈ds,d.to.length<=100000):
 Calls Tryz.prog 8 #[.agg #[.slice LA n nc,.slice DA m mc]] w (CopyPost w ls ds):=by
 refine(zne ls ds LA n nc DA m mc w hR hl hd ht).mono ?_;rintro e w' ⟨A,a,D,c,b,xs,rfl,ha,hL,hm,hp,ho,hb,_,hB⟩;obtain⟨D',c',he,hx,hc⟩:=ho.sl zcf;simp only[Value.slice.injEq]at he;obtain⟨rfl,_,rfl⟩:=he;have hk:xs.length=ds.length:=by rw[<-hm,List.length_map]
 exact⟨A,a,D,c,rfl,⟨rfl,rfl,ha,by omega,hL.sl fun _=>rfl,slw_of hx hm fun y hy=>⟨(hp y hy).1,(hp y hy).2.sl rp_len⟩⟩,hB⟩
theorem zlZ(a b:ByteArray):zae a b=zae b a:=by rw[Bool.eq_iff_iff,zau,zau];exact⟨Eq.symm,Eq.symm⟩
theorem zpc(l:List RPart)(frm:ByteArray)(A:Option Addr)(c:Nat)(w:World)(hl:l.length<=1000000)(hS:Sl w 3 RPart.cells A l):Calls Tryz.prog 136 #[.slice A l.length c,.string frm] w (Ret w (.bool (zd1 l frm 0))):=by
 have HS:=zHi hS;obtain⟨R,hR⟩:∃R,R=zd1 l frm 0:=⟨_,rfl⟩
 rw[<-hR];have HR:=zHi hR;clear hS hR;go_enter Tryz.func136,Tryz.ntmps136
 go_upto_region 2 with fail
 go_loopw [5,6] (fun i _ wr=>∃k:Nat,k<=l.length/\i=.int .i64 k/\Hid (R=zd1 l frm k)/\Below w.heap.size w wr) (fun i _ _=>l.length-(intOf i).toNat)
 case atStart=>exact⟨0,Nat.zero_le _,rfl,HR.o,Below.refl _ _⟩
 case round=>
  obtain⟨k,hk,rfl,HX,hB⟩:=hrel;obtain⟨WR,oy⟩:∃WR,WR=wr:=⟨_,rfl⟩
  subst oy;have HB:=zHi hB;by_cases ae:k<l.length
  ·have hx:=HX.o;rw[zoZ ae]at hx;obtain⟨au,ak⟩:=yH2 hx ae;have ar:(k:Int)<(l.length:Int):=Mcy;have aQ:(0:Int)<=(k:Int):=Mcy;clear hx hB;go_upto_region 5 with fail
   go_loopw [6] (fun v6 wr=>∃j:Nat,j<=k/\v6=.int .i64 j/\Hid (R=(!clash l (l[k]'ae).name j k&&(!zae (l[k]'ae).name frm&&zd1 l frm (k+1))))/\Below w.heap.size w wr) (fun v6 _=>k-(intOf v6).toNat)
   case atStart=>exact⟨0,Nat.zero_le _,rfl,au.o,HB.o⟩
   case round=>
    obtain⟨j,hj,rfl,HY,gn⟩:=hrel;have fx:=zHi gn;have mX:=gn.size;have xj:=(HS.o.keep gn).at ae;by_cases hjk:j<k
    ·have cQ:j<l.length:=Mcy;have hy:=HY.o;rw[zpa hjk ae]at hy;obtain⟨b,off,hA,hb,ah⟩:=xj;obtain⟨b2,off2,lW,_,wC⟩:=(HS.o.keep gn).at cQ;obtain⟨rfl,rfl⟩:b=b2/\off=off2:=by rw[hA]at lW;simpa using lW
     have i1:wr.cell? ⟨b,off+k*3,none⟩=some (.string (l[k]'ae).name):=ah 0 _ rfl;have i0:wr.cell? ⟨b,off+j*3,none⟩=some (.string (l[j]'cQ).name):=wC 0 _ rfl;obtain⟨vw,E4⟩:=yH2 hy hjk;have CV:(j:Int)<(k:Int):=Mcy;have sk:(0:Int)<=(j:Int):=Mcy;have Kr:(j:Int)<(l.length:Int):=Mcy;clear ah wC lW hy gn;subst hA;go_upto_region 7 with fail
     generalize cC:(l[k]'ae).name=n1 at*;generalize(l[j]'cQ).name=n0 at*;cases hs:zae n0 n1
     ·have bn:(n0.toList==n1.toList)=false:=hs;have iy:zae n1 n0=false:=by rw[zlZ];exact hs
      have HE:Hid (R=(!clash l n1 (j+1) k&&(!zae n1 frm&&zd1 l frm (k+1)))):=by show _=_;rw[vw.o,iy];rfl
      (refine zaj Mcz Mcz ?_
       repeat(first|go_big_quiet_skip|(go_big_quiet_want;go_big_quiet_op;first|go_big_quiet_on|(apply Exists.intro;refine⟨fun _=>?_,?_⟩;(fail);go_big_quiet_on)))
       refine wpQuiet_nil ?_
       rintro _ ⟨zq,rfl⟩)
      go_wp2_with fail
      go_round
      case rel=>exact⟨j+1,E4.o,by go_num,by(first|exact HE|(rw[cC];exact HE)),zbv fx.o zq⟩
      case measure=>have:=E4.o;simp only[intOf];omega
     ·have bn:(n0.toList==n1.toList)=true:=hs;have iy:zae n1 n0=true:=by rw[zlZ];exact hs
      have HE:Hid (R=false):=by show _=_;rw[vw.o,iy];rfl
      (refine zaj Mcz Mcz ?_
       repeat(first|go_big_quiet_skip|(go_big_quiet_want;go_big_quiet_op;first|go_big_quiet_on|(apply Exists.intro;refine⟨fun _=>?_,?_⟩;(fail);go_big_quiet_on)))
       refine wpQuiet_nil ?_
       rintro _ ⟨zq,rfl⟩)
      go_wp2_with fail
      go_ret
      exact Ret.of (zaO HE.o.symm) (zbv fx.o zq)
    ·have CV:¬(j:Int)<(k:Int):=Mcy;have hy:=HY.o;rw[clash_end hjk]at hy;obtain⟨b,off,rfl,hb,ah⟩:=xj;have vw:=zHi hy;have i1:wr.cell? ⟨b,off+k*3,none⟩=some (.string (l[k]'ae).name):=ah 0 _ rfl;clear ah hy gn hjk hj au;generalize(l[k]'ae).name=n1 at*;cases hs:zae n1 frm
     ·have bn:(n1.toList==frm.toList)=false:=hs;have HE:Hid (R=zd1 l frm (k+1)):=by show _=_;rw[vw.o,hs];simp
      go_wp2_with fail
      go_round
      case rel=>exact⟨k+1,ak.o,by go_num,HE.o,fx.o⟩
      case measure=>have:=ak.o;simp only[intOf];omega
     ·have bn:(n1.toList==frm.toList)=true:=hs;have HE:Hid (R=false):=by show _=_;rw[vw.o,hs];simp
      go_wp2_with fail
      go_ret
      exact Ret.of (zaO HE.o.symm) fx.o
  ·have ar:¬(k:Int)<(l.length:Int):=Mcy;have HE:Hid (R=true):=by show _=_;rw[HX.o];unfold zd1;rw[List.drop_of_length_le Mcy];rfl
   clear hB;exact MR
section
variable {W w:World} {b:Nat} {t:TypeId} {fr:Nat×Nat} {a0 a1 a2 a3 a4 a5 a6:Value}
theorem zbt(h:W.heap[b]?=some (.cells #[a0,a1] t fr)):W.cell? ⟨b,0,none⟩=some a0/\W.cell? ⟨b,1,none⟩=some a1:=by
 simp only[World.cell?,h];exact⟨rfl,rfl⟩
theorem zea(h:W.heap[b]?=some (.cells #[a0,a1,a2,a3,a4] t fr)):W.cell? ⟨b,0,none⟩=some a0/\W.cell? ⟨b,1,none⟩=some a1/\W.cell? ⟨b,2,none⟩=some a2/\W.cell? ⟨b,3,none⟩=some a3/\W.cell? ⟨b,4,none⟩=some a4:=by
 simp only[World.cell?,h];exact⟨rfl,rfl,rfl,rfl,rfl⟩
theorem cells6(h:W.heap[b]?=some (.cells #[a0,a1,a2,a3,a4,a5] t fr)):W.cell? ⟨b,0,none⟩=some a0/\W.cell? ⟨b,1,none⟩=some a1/\W.cell? ⟨b,2,none⟩=some a2/\W.cell? ⟨b,3,none⟩=some a3/\W.cell? ⟨b,4,none⟩=some a4/\W.cell? ⟨b,5,none⟩=some a5:=by
 simp only[World.cell?,h];exact⟨rfl,rfl,rfl,rfl,rfl,rfl⟩
theorem zaF(h:W.heap[b]?=some (.cells #[a0,a1,a2,a3,a4,a5,a6] t fr)):W.cell? ⟨b,0,none⟩=some a0/\W.cell? ⟨b,1,none⟩=some a1/\W.cell? ⟨b,2,none⟩=some a2/\W.cell? ⟨b,3,none⟩=some a3/\W.cell? ⟨b,4,none⟩=some a4/\W.cell? ⟨b,5,none⟩=some a5/\W.cell? ⟨b,6,none⟩=some a6:=by
 simp only[World.cell?,h];exact⟨rfl,rfl,rfl,rfl,rfl,rfl,rfl⟩
theorem frz{cs:Array Value}(h:W.heap[b]?=some (.cells cs t (0,0))):∀j,W.frozen? ⟨b,j,none⟩=false:=fun j=>by simp[World.frozen?,h]
theorem boxed{o:Obj}(h:w.alloc o=W):W.heap[w.heap.size]?=some o/\Below w.heap.size w W:=by
 subst h;exact⟨zar _ _ _ rfl,zad (Below.refl _ _) _⟩
end
theorem ziO{α:Type}{W:World}{base size n c:Nat}{e:TypeId}{f:α->List Value}{A:Option Addr}{xs:List α}(ag:∀x,(f x).length=size)(h:OwnS W base e size f (.slice A n c) xs):Sl W size f A xs/\xs.length<=c:=by
 obtain⟨A',c',he,h1,h2⟩:=h.sl ag;simp only[Value.slice.injEq]at he;obtain⟨rfl,_,rfl⟩:=he;exact⟨h1,h2⟩
structure Fld where
 p:Int
 f:Int
 n:Int
 s:Int
 c:Int
 y:Int
def fldP(k:Int):Fld:=if k=0 then⟨1,0,2,1,1,1⟩else if k=1 then⟨1,1,2,1,0,0⟩else if k=2 then⟨1,1,0,0,0,0⟩else if k=3 then⟨1,0,0,0,0,1⟩else if k=4 then⟨0,1,2,1,0,0⟩else if k=8 then⟨0,1,0,0,0,0⟩else⟨0,1,1,0,0,0⟩
theorem zpd(k:Int):zkH k=sixV (fldP k).p (fldP k).f (fldP k).n (fldP k).s (fldP k).c (fldP k).y:=by
 unfold zkH fldP;repeat' split
 all_goals rfl
structure FldOk (x:Fld):Prop where
 p:x.p=0\/x.p=1
 f:x.f=0\/x.f=1
 n:x.n=0\/x.n=1\/x.n=2
 s:x.s=0\/x.s=1
 c:x.c=0\/x.c=1
 y:x.y=0\/x.y=1
theorem fld_ok(k:Int):FldOk (fldP k):=by
 unfold fldP;repeat' split
 all_goals exact⟨by decide,by decide,by decide,by decide,by decide,by decide⟩
def fm1(pl fr:ByteArray)(p f:Int)(ap:Bool):Bool:=(!noB pl) != (p==1)||(!noB fr) != (f==1)||!ap
def fm2(n:Int)(m:Nat):Bool:=n==0&&decide (0<m)||n==1&&m != 1||n==2&&m==0
def fm3(c y cl yr kd:Int):Bool:=c==0&&cl != 0||y==0&&yr != 0||kd==3&&yr==0
def fm5(kd cl yr:Int)(q:Rat):Bool:=kd != 0||q==1&&(cl != 2||decide (0<yr))
def zfl(d:Deed):Bool:=
 if fm1 d.place d.frm (fldP d.kind).p (fldP d.kind).f (zd1 d.to d.frm 0)then false else
 if fm2 (fldP d.kind).n d.to.length then false else
 if fm3 (fldP d.kind).c (fldP d.kind).y d.cls d.years d.kind then false else
 if(fldP d.kind).s==0 then d.to.all zh3 else
 if !(sumR d.to 0).2||decide ((sumR d.to 0).1.den<(sumR d.to 0).1.num)then false else fm5 d.kind d.cls d.years (sumR d.to 0).1
theorem znf:∀(l:List RPart) (o:Rat),(sumR l o).2=l.all zdR/\(l.all zdR=true->(sumR l o).1=o+sumQ (zao l))
 | [],o=>⟨rfl,fun _=>by show o=o+0;grind⟩
 |p::l,o=>by
  unfold sumR;cases h:zdR p
  ·rw[if_neg McB];exact⟨by rw[List.all_cons,h];rfl,fun h2=>by rw[List.all_cons,h]at h2;cases h2⟩
  ·rw[if_pos rfl,List.all_cons,h,Bool.true_and];have ih:=znf l (o+p.rat);refine⟨ih.1,fun h2=>?_⟩;rw[ih.2 h2];show _=o+(p.rat+sumQ (zao l));grind
theorem zpe(l:List RPart)(frm:ByteArray):zd1 l frm 0=(zcY l []&&l.all fun p=>!zae p.name frm):=rfl
theorem one_le{q:Rat}:decide ((q.den:Int)<q.num)=!decide (q<=1):=by
 have h:=Rat.le_iff q 1;have e:(q<=1)↔ ¬(q.den:Int)<q.num:=by rw[h];simp
 by_cases h1:q<=1
 ·rw[decide_eq_true h1,decide_eq_false (e.1 h1)];rfl
 ·rw[decide_eq_false h1,decide_eq_true (Classical.not_not.1 (fun h2=>h1 (e.2 h2)))];rfl
theorem parts_sum(all:Bool)(frm:ByteArray)(l:List RPart):zcC true all frm l=(zd1 l frm 0&&((sumR l 0).2&&decide ((sumR l 0).1<=1)&&(!all||(sumR l 0).1==1))):=by
 have h:=znf l 0;rw[zpe,h.1];unfold zcC;rw[if_pos rfl];show(_&&(l.all zdR&&_&&_))=_;cases ha:l.all zdR
 ·simp
 ·rw[h.2 ha,Rat.zero_add]
theorem zpf(all:Bool)(frm:ByteArray)(l:List RPart):zcC false all frm l=(zd1 l frm 0&&l.all zh3):=rfl
theorem len_empty(l:List RPart):(l.length==0)=l.isEmpty:=by cases l<;>rfl
theorem zpg{d:Deed}(hk:0<=d.kind/\d.kind<=8)(hy:0<=d.years):zfl d=zfF d:=by
 obtain⟨kd,dy,pl,fr,ts,cl,yr⟩:=d;have fR:kd=0\/kd=1\/kd=2\/kd=3\/kd=4\/kd=5\/kd=6\/kd=7\/kd=8:=by simp only at hk;omega
 unfold zfl zfF fm1 fm2 fm3 fm5;simp only[parts_sum,zpf,one_le]at hy⊢;have KB:ts.isEmpty=true->zd1 ts fr 0=true/\ts.all zh3=true:=by cases ts with
  |nil=>exact fun _=>⟨rfl,rfl⟩
  |cons=>exact fun h=>by cases h
 generalize zd1 ts fr 0=ap at*;generalize(sumR ts 0).2=s2;generalize(sumR ts 0).1=q;generalize ts.all zh3=bt at*;have bI:=len_empty ts;have pO:decide (0<ts.length)=!ts.isEmpty:=by cases ts<;>simp
 have nJ:(ts.length==1)=true->ts.isEmpty=false:=by cases ts<;>simp
 have FZ:(ts.length != 1)=!(ts.length==1):=rfl;rw[pO,FZ,bI];generalize ts.isEmpty=em at*;generalize(ts.length==1)=on at*;generalize noB pl=np;generalize noB fr=nf;have hy:decide (0<yr)=!(yr==0):=by rw[Bool.eq_iff_iff];simp;omega
 have ul:(yr != 0)=!(yr==0):=rfl;have ah:(cl != 0)=!(cl==0):=rfl;have tO:(cl != 2)=!(cl==2):=rfl;rw[hy,ul,ah,tO];generalize(yr==0)=y0;generalize(cl==0)=c0;generalize(cl==2)=c2;generalize decide (q<=1)=q1;generalize(q==1)=q2;clear bI pO FZ hy ul ah tO hk;rcases fR with rfl|rfl|rfl|rfl|rfl|rfl|rfl|rfl|rfl<;>(clear q;simp[fldP])<;>(cases em<;>cases ap<;>simp at KB⊢ <;>cases on<;>simp at nJ⊢ <;>cases y0<;>cases c0<;>cases s2<;>cases q1<;>cases q2<;>simp_all)
theorem zng(d:Deed)(B:Option Addr)(c:Nat)(w:World)(hl:d.to.length<=1000)(hS:Sl w 3 RPart.cells B d.to):Calls Tryz.prog 107 #[d.v B c] w (Ret w (.bool (zfl d))):=by
 obtain⟨R,hR⟩:∃R,R=zfl d:=⟨_,rfl⟩
 rw[<-hR];obtain⟨kd,dy,pl,fr,ts,cl,yr⟩:=d;have HS:=zHi hS;unfold zfl at hR;have eS:=zpd kd;have km:=fld_ok kd;simp only at hR hl hS;obtain⟨FP,EX⟩:∃FP,FP=fldP kd:=⟨_,rfl⟩
 rw[<-EX]at hR eS km;clear EX;obtain⟨fp,ff,fn,fs,fc,fy⟩:=FP;obtain⟨tg,th⟩:=yH2 km (fun W=>znc kd W);rw[eS]at th;simp only at th hR;unfold sixV at th;have nC:=fun W (h:Below w.heap.size w W)=>zpc ts fr B c W Mcy (HS.o.keep h)
 have cR:=fun W (h:Below w.heap.size w W)=>zof ts B c W hl (HS.o.keep h)
 have Fw:=fun W (h:Below w.heap.size w W)=>rBare_any ts B c W Mcy (HS.o.keep h)
 generalize zd1 ts fr 0=ap at*;generalize sumR ts 0=sq at*;generalize ts.all zh3=bt at*;obtain⟨q,s2⟩:=sq;unfold zaA at cR;obtain⟨HR,nk,qe⟩:=yH3 hR cR Fw;unfold Deed.v;clear hR hS eS km cR Fw;go_enter Tryz.func107,Tryz.ntmps107
 go_upto_region 2 with(go_at_call 135;go_must(refine(th.o _).mono ?_);rintro e wq ⟨rfl,z0,rfl⟩)
 obtain⟨F,hF⟩:∃F,F=w.heap.size+1+z0.os.size:=⟨_,rfl⟩
 obtain⟨W0,am⟩:∃W0,W0=((w.alloc (.cells #[.int .i64 kd,.int .i64 dy,.string pl,.string fr,.slice B ts.length c,.int .i64 cl,.int .i64 yr] 76)).ext z0).alloc (.cells #[.int .i64 fp,.int .i64 ff,.int .i64 fn,.int .i64 fs,.int .i64 fc,.int .i64 fy] 187):=⟨_,rfl⟩
 have g0:W0.heap[w.heap.size]?=some (.cells #[.int .i64 kd,.int .i64 dy,.string pl,.string fr,.slice B ts.length c,.int .i64 cl,.int .i64 yr] 76):=by rw[am];exact zal (zbD (zar _ _ _ rfl))
 have g1:W0.heap[F]?=some (.cells #[.int .i64 fp,.int .i64 ff,.int .i64 fn,.int .i64 fs,.int .i64 fc,.int .i64 fy] 187):=by rw[am];exact zar _ _ _ (by rw[hF];simp[zaf])
 have hB:Below w.heap.size w W0:=Mdb;rw[<-am,<-hF];clear am hF;have DL:=zHi (fun W (h:Below W0.heap.size W0 W)=>nC W (hB.trans (h.mono hB.size)));clear nC;have HB:=zHi hB;obtain⟨d0,d1,d2,d3,d4,d5,d6⟩:=zaF g0;obtain⟨e0,e1,e2,e3,e4,e5⟩:=cells6 g1;have l0:=zab g0;have l1:=zab g1;clear hB;go_cut [32]from 6 to 32 (fun v wc=>v=.bool (fm1 pl fr fp ff ap)/\Below w.heap.size w wc/\wc.heap[w.heap.size]?=some (.cells #[.int .i64 kd,.int .i64 dy,.string pl,.string fr,.slice B ts.length c,.int .i64 cl,.int .i64 yr] 76)/\wc.heap[F]?=some (.cells #[.int .i64 fp,.int .i64 ff,.int .i64 fn,.int .i64 fs,.int .i64 fc,.int .i64 fy] 187))
 case first=>
  cases ep:(fp==1)<;>cases ef:(ff==1)<;>cases z1:noB pl<;>cases z2:noB fr
  all_goals(
   first
    |(have w1:¬pl.toList=[]:=by simpa using(show pl.toList.isEmpty=false from z1))
    |(have w1:pl.toList=[]:=by simpa using(show pl.toList.isEmpty=true from z1))
   first
    |(have w2:¬fr.toList=[]:=by simpa using(show fr.toList.isEmpty=false from z2))
    |(have w2:fr.toList=[]:=by simpa using(show fr.toList.isEmpty=true from z2))
   go_wp2_with (go_at_call 136;go_must(refine(DL.o _ Bw).mono ?_);rintro e wq ⟨rfl,z,rfl⟩)
   go_meet
   exact⟨zaO (by simp[fm1, *]),by first|exact HB.o|exact zbv HB.o z,by first|exact g0|exact zbD g0,by first|exact g1|exact zbD g1⟩)
 case rest=>
  obtain⟨rfl,hB,g0,g1⟩:=hcut;clear DL d0 d1 d2 d3 d4 d5 d6 e0 e1 e2 e3 e4 e5 l0 l1 HB;have HB:=zHi hB;obtain⟨d0,d1,d2,d3,d4,d5,d6⟩:=zaF g0;obtain⟨e0,e1,e2,e3,e4,e5⟩:=cells6 g1;have l0:=zab g0;have l1:=zab g1;clear hB;cases jO:fm1 pl fr fp ff ap
  ·have bF:=HR.o;rw[jO,if_neg McB]at bF;have HR:=zHi bF;clear bF jO;go_upto_region 4 with fail
   go_cut [63]from 33 to 63 (fun v w4=>v=.bool (fm2 fn ts.length)/\wc=w4)
   case first=>
    rcases tg.o.n with h|h|h
    ·simp only at h;subst h;by_cases h1:0<ts.length
     ·have h2:(0:Int)<(ts.length:Int):=Mcy;exact MQ
     ·have h2:¬(0:Int)<(ts.length:Int):=Mcy;exact MQ
    ·simp only at h;subst h;by_cases h1:ts.length=1
     ·have h2:((ts.length:Int) != 1)=false:=by rw[h1];rfl
      have h3:(ts.length != 1)=false:=Mc4;exact MQ
     ·have h2:((ts.length:Int) != 1)=true:=by
       have:(ts.length:Int)≠1:=by omega
       simpa using this
      have h3:(ts.length != 1)=true:=Mc4;exact MQ
    ·simp only at h;subst h;by_cases h1:ts.length=0
     ·have h2:((ts.length:Int)==0)=true:=Mc4;have h3:(ts.length==0)=true:=Mc4;exact MQ
     ·have h2:((ts.length:Int)==0)=false:=Mc4;have h3:(ts.length==0)=false:=Mc4;exact MQ
   case rest=>
    obtain⟨rfl,rfl⟩:=hcut;cases eE:fm2 fn ts.length
    ·have bF:=HR.o;rw[eE,if_neg McB]at bF;have HR:=zHi bF;clear bF eE;go_upto_region 6 with fail
     go_cut [91]from 64 to 91 (fun v w4=>v=.bool (fm3 fc fy cl yr kd)/\wc=w4)
     case first=>
      cases ec:(fc==0)<;>cases ey:(fy==0)<;>cases ecl:(cl==0)<;>cases eyr:(yr==0)<;>cases ek:(kd==3)
      all_goals(
       have ecl2:(cl != 0)=!(cl==0):=rfl;have eyr2:(yr != 0)=!(yr==0):=rfl;simp only[ecl,eyr,Bool.not_true,Bool.not_false]at ecl2 eyr2;go_wp2_with fail
       go_meet
       exact⟨zaO (by simp[fm3, *]),by first|exact True.intro|rfl⟩)
     case rest=>
      obtain⟨rfl,rfl⟩:=hcut;cases uh:fm3 fc fy cl yr kd
      ·have bF:=HR.o;rw[uh,if_neg McB]at bF;have HR:=zHi bF;clear bF uh;go_upto_region 8 with fail
       rcases tg.o.s with h|h
       ·simp only at h;subst h;have HE:Hid (R=bt):=by show _=_;rw[HR.o];rfl
        go_wp2_with (go_at_call 137;go_must(refine(qe.o _ HB.o).mono ?_);rintro e wq ⟨rfl,rfl⟩)
        go_ret
        exact Ret.of (zaO HE.o.symm) HB.o
       ·simp only at h;subst h;have bF:Hid (R=if !s2||decide ((q.den:Int)<q.num)then false else fm5 kd cl yr q):=by show _=_;rw[HR.o];rfl
        go_upto_region 11 with(go_at_call 138;go_must(refine(nk.o _ HB.o).mono ?_);rintro e wq ⟨rfl,z1,rfl⟩)
        obtain⟨Q,hQ⟩:∃Q,Q=wc.heap.size+z1.os.size:=⟨_,rfl⟩
        obtain⟨W3,aY⟩:∃W3,W3=(wc.ext z1).alloc (.cells #[.int .i64 q.num,.int .i64 q.den] 31):=⟨_,rfl⟩
        have g3:W3.heap[Q]?=some (.cells #[.int .i64 q.num,.int .i64 q.den] 31):=by rw[aY];exact zar _ _ _ (by rw[hQ];simp[zaf])
        have g2:W3.heap[w.heap.size]?=some (.cells #[.int .i64 kd,.int .i64 dy,.string pl,.string fr,.slice B ts.length c,.int .i64 cl,.int .i64 yr] 76):=by rw[aY];exact zal (zbD g0)
        have aD:Hid (Below w.heap.size w W3):=by show Below _ _ _;rw[aY];exact zad (zbv HB.o z1) _
        rw[<-aY,<-hQ];clear aY hQ d0 d1 d2 d3 d4 d5 d6 e0 e1 e2 e3 e4 e5 l0 l1 g0 g1;obtain⟨d0,d1,d2,d3,d4,d5,d6⟩:=zaF g2;obtain⟨q0,q1⟩:=zbt g3;have l2:=zab g2;have l3:=zab g3;cases s2
        ·have HE:Hid (R=false):=by show _=_;rw[bF.o];rfl
         have HB:=aD;exact MR
        ·by_cases hq:(q.den:Int)<q.num
         ·have HE:Hid (R=false):=by show _=_;rw[bF.o,if_pos MdN]
          have HB:=aD;exact MR
         ·have HE:Hid (R=fm5 kd cl yr q):=by show _=_;rw[bF.o,if_neg MdN]
          go_upto_region 13 with fail
          by_cases k0:kd=0
          ·subst k0;by_cases u1:q.num=1
           ·by_cases u2:(q.den:Int)=1
            ·have cf:q.den=1:=Mcy;have cL:q=1:=Rat.ext (by rw[u1];rfl) (by rw[cf];rfl);subst cL;cases k2:(cl != 2)
             ·cases k3:decide (0<yr)
              ·exact Mu
              ·exact Mu
             ·exact Mu
            ·have cL:(q==1)=false:=by simp;rintro rfl;exact u2 rfl
             have u3:((q.den:Int)==1)=false:=by simpa using u2
             exact Mu
           ·have cL:(q==1)=false:=by simp;rintro rfl;exact u1 rfl
            have u3:(q.num==1)=false:=by simpa using u1
            exact Mu
          ·have k1:(kd != 0)=true:=by simpa using k0
           exact Mu
      ·have HE:Hid (R=false):=by show _=_;rw[HR.o,uh];rfl
       exact MR
    ·have HE:Hid (R=false):=by show _=_;rw[HR.o,eE];rfl
     exact MR
  ·have HE:Hid (R=false):=by show _=_;rw[HR.o,jO];rfl
   exact MR
theorem zph(y:Int)(w:World)(h0:0<=y)(h1:y<=100000):Calls Tryz.prog 219 #[.int .i64 y] w (Ret0 w (.bool (zgJ y))):=by
 have w1:wrap64 (y.tmod 4)=y.tmod 4:=McY;have w2:wrap64 (y.tmod 100)=y.tmod 100:=McY;have w3:wrap64 (y.tmod 400)=y.tmod 400:=McY;have v1:IntKind.i64.wrap (y.tmod 4)=y.tmod 4:=McT;have v2:IntKind.i64.wrap (y.tmod 100)=y.tmod 100:=McT;have v3:IntKind.i64.wrap (y.tmod 400)=y.tmod 400:=McT;go_enter Tryz.func219,Tryz.ntmps219
 go_wp2_with fail
 all_goals go_ret
 all_goals exact⟨by simp[zgJ,Int.tmod_eq_emod_of_nonneg h0, *],rfl⟩
theorem znh(y:Int)(w:World)(h0:0<=y)(h1:y<=100000):Calls Tryz.prog 218 #[.int .i64 y] w (Ret0 w (.int .i64 (zeQ y))):=by
 have e1:y.tdiv 4=y/4:=Int.tdiv_eq_ediv_of_nonneg h0;have e2:y.tdiv 100=y/100:=Int.tdiv_eq_ediv_of_nonneg h0;have e3:y.tdiv 400=y/400:=Int.tdiv_eq_ediv_of_nonneg h0;have hv:=zdu h0;have HV:=zHi hv;clear hv;go_enter Tryz.func218,Tryz.ntmps218
 exact MbP
theorem zni{y:Int}(h0:0<=y)(h1:y<=100000):0<=zeQ y/\zeQ y<=100000:=by
 rw[zdu h0];omega
theorem zfm(y:Int)(m:Nat)(w:World)(h0:0<=y)(h1:y<=100000)(cd:1<=m)(cF:m<=12):Calls Tryz.prog 203 #[.int .i64 y,.int .i64 m] w (Ret0 w (.int .i64 (za6 y m))):=by
 have hm:m=2\/m=1\/m=3\/m=4\/m=5\/m=6\/m=7\/m=8\/m=9\/m=10\/m=11\/m=12:=Mcy;rcases hm with h|h|h|h|h|h|h|h|h|h|h|h
 ·subst h;unfold za6;cases hl:zgJ y
  ·have aU:∀W:World,Sem.run Tryz.prog (Instr.index 246 (.agg #[.int .i64 0,.int .i64 31,.int .i64 28,.int .i64 31,.int .i64 30,.int .i64 31,.int .i64 30,.int .i64 31,.int .i64 31,.int .i64 30,.int .i64 31,.int .i64 30,.int .i64 31]) (.int .i64 2)) W=.ok (.int .i64 28) W:=fun W=>by kernel_rfl
   exact MaF
  ·exact MaF
 ·(subst h
   have aU:∀W:World,Sem.run Tryz.prog (Instr.index 246 (.agg #[.int .i64 0,.int .i64 31,.int .i64 28,.int .i64 31,.int .i64 30,.int .i64 31,.int .i64 30,.int .i64 31,.int .i64 31,.int .i64 30,.int .i64 31,.int .i64 30,.int .i64 31]) (.int .i64 1)) W=.ok (.int .i64 31) W:=fun W=>by kernel_rfl
   go_enter Tryz.func203,Tryz.ntmps203
   go_wp2_with fail
   go_ret
   exact⟨rfl,rfl⟩)
 ·(subst h
   have aU:∀W:World,Sem.run Tryz.prog (Instr.index 246 (.agg #[.int .i64 0,.int .i64 31,.int .i64 28,.int .i64 31,.int .i64 30,.int .i64 31,.int .i64 30,.int .i64 31,.int .i64 31,.int .i64 30,.int .i64 31,.int .i64 30,.int .i64 31]) (.int .i64 3)) W=.ok (.int .i64 31) W:=fun W=>by kernel_rfl
   go_enter Tryz.func203,Tryz.ntmps203
   go_wp2_with fail
   go_ret
   exact⟨rfl,rfl⟩)
 ·(subst h
   have aU:∀W:World,Sem.run Tryz.prog (Instr.index 246 (.agg #[.int .i64 0,.int .i64 31,.int .i64 28,.int .i64 31,.int .i64 30,.int .i64 31,.int .i64 30,.int .i64 31,.int .i64 31,.int .i64 30,.int .i64 31,.int .i64 30,.int .i64 31]) (.int .i64 4)) W=.ok (.int .i64 30) W:=fun W=>by kernel_rfl
   go_enter Tryz.func203,Tryz.ntmps203
   go_wp2_with fail
   go_ret
   exact⟨rfl,rfl⟩)
 ·(subst h
   have aU:∀W:World,Sem.run Tryz.prog (Instr.index 246 (.agg #[.int .i64 0,.int .i64 31,.int .i64 28,.int .i64 31,.int .i64 30,.int .i64 31,.int .i64 30,.int .i64 31,.int .i64 31,.int .i64 30,.int .i64 31,.int .i64 30,.int .i64 31]) (.int .i64 5)) W=.ok (.int .i64 31) W:=fun W=>by kernel_rfl
   go_enter Tryz.func203,Tryz.ntmps203
   go_wp2_with fail
   go_ret
   exact⟨rfl,rfl⟩)
 ·(subst h
   have aU:∀W:World,Sem.run Tryz.prog (Instr.index 246 (.agg #[.int .i64 0,.int .i64 31,.int .i64 28,.int .i64 31,.int .i64 30,.int .i64 31,.int .i64 30,.int .i64 31,.int .i64 31,.int .i64 30,.int .i64 31,.int .i64 30,.int .i64 31]) (.int .i64 6)) W=.ok (.int .i64 30) W:=fun W=>by kernel_rfl
   go_enter Tryz.func203,Tryz.ntmps203
   go_wp2_with fail
   go_ret
   exact⟨rfl,rfl⟩)
 ·(subst h
   have aU:∀W:World,Sem.run Tryz.prog (Instr.index 246 (.agg #[.int .i64 0,.int .i64 31,.int .i64 28,.int .i64 31,.int .i64 30,.int .i64 31,.int .i64 30,.int .i64 31,.int .i64 31,.int .i64 30,.int .i64 31,.int .i64 30,.int .i64 31]) (.int .i64 7)) W=.ok (.int .i64 31) W:=fun W=>by kernel_rfl
   go_enter Tryz.func203,Tryz.ntmps203
   go_wp2_with fail
   go_ret
   exact⟨rfl,rfl⟩)
 ·(subst h
   have aU:∀W:World,Sem.run Tryz.prog (Instr.index 246 (.agg #[.int .i64 0,.int .i64 31,.int .i64 28,.int .i64 31,.int .i64 30,.int .i64 31,.int .i64 30,.int .i64 31,.int .i64 31,.int .i64 30,.int .i64 31,.int .i64 30,.int .i64 31]) (.int .i64 8)) W=.ok (.int .i64 31) W:=fun W=>by kernel_rfl
   go_enter Tryz.func203,Tryz.ntmps203
   go_wp2_with fail
   go_ret
   exact⟨rfl,rfl⟩)
 ·(subst h
   have aU:∀W:World,Sem.run Tryz.prog (Instr.index 246 (.agg #[.int .i64 0,.int .i64 31,.int .i64 28,.int .i64 31,.int .i64 30,.int .i64 31,.int .i64 30,.int .i64 31,.int .i64 31,.int .i64 30,.int .i64 31,.int .i64 30,.int .i64 31]) (.int .i64 9)) W=.ok (.int .i64 30) W:=fun W=>by kernel_rfl
   go_enter Tryz.func203,Tryz.ntmps203
   go_wp2_with fail
   go_ret
   exact⟨rfl,rfl⟩)
 ·(subst h
   have aU:∀W:World,Sem.run Tryz.prog (Instr.index 246 (.agg #[.int .i64 0,.int .i64 31,.int .i64 28,.int .i64 31,.int .i64 30,.int .i64 31,.int .i64 30,.int .i64 31,.int .i64 31,.int .i64 30,.int .i64 31,.int .i64 30,.int .i64 31]) (.int .i64 10)) W=.ok (.int .i64 31) W:=fun W=>by kernel_rfl
   go_enter Tryz.func203,Tryz.ntmps203
   go_wp2_with fail
   go_ret
   exact⟨rfl,rfl⟩)
 ·(subst h
   have aU:∀W:World,Sem.run Tryz.prog (Instr.index 246 (.agg #[.int .i64 0,.int .i64 31,.int .i64 28,.int .i64 31,.int .i64 30,.int .i64 31,.int .i64 30,.int .i64 31,.int .i64 31,.int .i64 30,.int .i64 31,.int .i64 30,.int .i64 31]) (.int .i64 11)) W=.ok (.int .i64 30) W:=fun W=>by kernel_rfl
   go_enter Tryz.func203,Tryz.ntmps203
   go_wp2_with fail
   go_ret
   exact⟨rfl,rfl⟩)
 ·(subst h
   have aU:∀W:World,Sem.run Tryz.prog (Instr.index 246 (.agg #[.int .i64 0,.int .i64 31,.int .i64 28,.int .i64 31,.int .i64 30,.int .i64 31,.int .i64 30,.int .i64 31,.int .i64 31,.int .i64 30,.int .i64 31,.int .i64 30,.int .i64 31]) (.int .i64 12)) W=.ok (.int .i64 31) W:=fun W=>by kernel_rfl
   go_enter Tryz.func203,Tryz.ntmps203
   go_wp2_with fail
   go_ret
   exact⟨rfl,rfl⟩)
theorem zdn(y:Int)(m:Nat)(w:World)(h0:1800<=y)(h1:y<=2500)(cd:1<=m)(cF:m<=12):Calls Tryz.prog 202 #[.int .i64 y,.int .i64 m] w (Ret0 w (.int .i64 (zaC y m))):=by
 have KC:=zni (y:=y-1) Mcy Mcy;have k0:IntKind.i64.wrap (y-1)=y-1:=IntWalk.i64_in _ Mcy;have k1:IntKind.i64.wrap (y-1800)=y-1800:=IntWalk.i64_in _ Mcy;have k2:IntKind.i64.wrap (365*(y-1800))=365*(y-1800):=IntWalk.i64_in _ Mcy;have k3:IntKind.i64.wrap (365*(y-1800)+zeQ (y-1))=365*(y-1800)+zeQ (y-1):=IntWalk.i64_in _ Mcy;have k4:IntKind.i64.wrap (365*(y-1800)+zeQ (y-1)-436)=begP y:=by unfold begP;exact IntWalk.i64_in _ Mcy
 have tX:zeQ 1799=436:=Mcz;go_enter Tryz.func202,Tryz.ntmps202
 go_upto_region 3 with(go_at_call 218;refine(znh _ _ Mcy Mcy).mono ?_;rintro e wq ⟨rfl,rfl⟩;(try rw[tX]))
 clear k0 k1 k2 k3 k4 KC;go_loop [5,6] (fun n i=>∃k:Nat,1<=k/\k<=m/\i=.int .i64 k/\n=.int .i64 (zaC y k)) (fun _ i=>m-(intOf i).toNat)
 case atStart=>exact⟨1,by omega,cd,rfl,by rw[zbE]⟩
 case round=>
  obtain⟨k,fQ,pN,rfl,rfl⟩:=hrel;by_cases ae:k<m
  ·have hb:=zbW (m:=k) h0 h1 fQ Mcy;have eR:=zdA y fQ (show k<=12 by omega);have hu:=zfx y fQ;have HU:=zHi hu;have k2:IntKind.i64.wrap (zaC y k+za6 y k)=zaC y k+za6 y k:=IntWalk.i64_in _ Mcy;have br:(k:Int)<(m:Int):=Mcy;clear hu;go_wp2_with (go_at_call 203;refine(zfm y k _ Mcy Mcy fQ Mcy).mono ?_;rintro e wq ⟨rfl,rfl⟩)
   go_round
   case rel=>exact⟨k+1,by omega,by omega,by go_num,by rw[HU.o]⟩
   case measure=>simp[intOf];omega
  ·exact Mcs
theorem zma(day:Int)(w:World)(h0:0<=day)(h1:day<=200000):
 Calls Tryz.prog 198 #[.int .i64 day] w (fun e w'=>DateIs day (zbQ day) (zbe day)/\Ret w (zmz (zbQ day) (zbe day) (day-zaC (zbQ day) (zbe day)+1)) e w'):=by
 have dM:=beg_low h0 h1;have eU:=znC h0 h1;have wS:day.tdiv 366=day/366:=Int.tdiv_eq_ediv_of_nonneg h0;have gC:0<=day/366:=Mcy;have cL:day/366<=546:=Mcy;rw[wS]at dM eU;have yC:zbQ day=zeh day 10 (1800+day/366):=by unfold zbQ;rw[wS]
 obtain⟨HY,HH⟩:=yH2 yC eU;clear yC eU;go_enter Tryz.func198,Tryz.ntmps198
 go_wp2_with fail
 go_loopg [] 10 (fun gg wr=>∃(f:Nat) (y:Int),f<=gg/\y+f=1800+day/366+10/\1800<=y/\y<=2400/\Hid (zbQ day=zeh day f y)/\Hid (begP y<=day)/\Below w.heap.size w wr/\wr.heap[w.heap.size]?=some (.cells #[.int .i64 0,.int .i64 0,.int .i64 0] 237)/\wr.heap[w.heap.size+1]?=some (.cells #[.int .i64 y,.int .i64 1,.int .i64 0] 237))
 case atStart=>exact⟨10,1800+day/366,Nat.le_refl _,by omega,by omega,by omega,HY.o,dM,Bw,zal (zar _ _ _ rfl),zar _ _ _ McB⟩
 case round=>
  obtain⟨f,y,hf,Lp,ll,Lo,vz,fx,hB,g0,g1⟩:=hrel;have a0:wr.cell? ⟨w.heap.size+1,0,none⟩=some (.int .i64 y):=McE;have a1:wr.cell? ⟨w.heap.size+1,1,none⟩=some (.int .i64 1):=McE;have a2:wr.cell? ⟨w.heap.size+1,2,none⟩=some (.int .i64 0):=McE;have z0:wr.frozen? ⟨w.heap.size+1,0,none⟩=false:=McM;have z1:wr.frozen? ⟨w.heap.size+1,1,none⟩=false:=McM;have z2:wr.frozen? ⟨w.heap.size+1,2,none⟩=false:=McM;have b0:wr.cell? ⟨w.heap.size,0,none⟩=some (.int .i64 0):=McC;have b1:wr.cell? ⟨w.heap.size,1,none⟩=some (.int .i64 0):=McC;have b2:wr.cell? ⟨w.heap.size,2,none⟩=some (.int .i64 0):=McC;have x0:wr.frozen? ⟨w.heap.size,0,none⟩=false:=McL;have x1:wr.frozen? ⟨w.heap.size,1,none⟩=false:=McL;have x2:wr.frozen? ⟨w.heap.size,2,none⟩=false:=McL;have e1:w.heap.size+1<wr.heap.size:=zab g1;have e0:w.heap.size<wr.heap.size:=zab g0;have k0:IntKind.i64.wrap (y+1)=y+1:=IntWalk.i64_in _ Mcy;by_cases hc:begP (y+1)<=day
  ·have K2:f≠0:=by
    exact MbN
   obtain⟨f',rfl⟩:∃f',f=f'+1:=⟨f-1,by omega⟩
   have HN:Hid (zbQ day=zeh day f' (y+1)):=by
    show _=_;rw[vz.o,zlb Mei]
   have HC:=zHi hc;go_wp2_with (go_at_call 202;refine(zdn (y+1) 1 _ Mcy Mcy Mcy Mcy).mono ?_;rintro e wq ⟨rfl,rfl⟩;rw[zbE])
   exact MT
  ·have HN:Hid (zbQ day=y):=by
    show _=_;rw[vz.o,zlc Mei]
   have rZ:=zbW (m:=1) ll Mcy Mcy Mcy;rw[zbE]at rZ;have k1:IntKind.i64.wrap (day-begP y)=day-begP y:=IntWalk.i64_in _ Mcy;have xC:zbe day=zdj day y 12 1:=by unfold zbe;rw[HN.o]
   have kL:=zHi xC;have yD:day<zaC y 12+za6 y 12:=by
    rw[<-zj4 ll,zbE];omega
   have BB:=zHi yD;have lD:=fx.o;have aj:Hid (zaC y 1<=day):=by show _<=_;rw[zbE];exact lD
   clear xC yD lD;obtain⟨G0,G1⟩:=yH2 g0 g1;go_upto_region 4 with(go_at_call 202;refine(zdn (y+1) 1 _ Mcy Mcy Mcy Mcy).mono ?_;rintro e wq ⟨rfl,rfl⟩;rw[zbE])
   clear a0 a1 a2 z0 z1 z2 b0 b1 b2 x0 x1 x2 g0 g1;go_loopg [] 12 (fun gg wm=>∃(m:Nat),1<=m/\m<=12/\12-m<=gg/\Hid (zbe day=zdj day y (13-m) m)/\Hid (zaC y m<=day)/\Below w.heap.size w wm/\wm.heap[w.heap.size]?=some (.cells #[.int .i64 0,.int .i64 0,.int .i64 0] 237)/\wm.heap[w.heap.size+1]?=some (.cells #[.int .i64 y,.int .i64 m,.int .i64 0] 237))
   case atStart=>exact⟨1,by omega,by omega,by omega,kL.o,aj.o,hB,G0.o,G1.o⟩
   case round=>
    obtain⟨m,cd,cF,sb,HM,qy,EM,g0,g1⟩:=hrel;have a0:wr.cell? ⟨w.heap.size+1,0,none⟩=some (.int .i64 y):=McE;have a1:wr.cell? ⟨w.heap.size+1,1,none⟩=some (.int .i64 m):=McE;have a2:wr.cell? ⟨w.heap.size+1,2,none⟩=some (.int .i64 0):=McE;have z0:wr.frozen? ⟨w.heap.size+1,0,none⟩=false:=McM;have z1:wr.frozen? ⟨w.heap.size+1,1,none⟩=false:=McM;have z2:wr.frozen? ⟨w.heap.size+1,2,none⟩=false:=McM;have b0:wr.cell? ⟨w.heap.size,0,none⟩=some (.int .i64 0):=McC;have b1:wr.cell? ⟨w.heap.size,1,none⟩=some (.int .i64 0):=McC;have b2:wr.cell? ⟨w.heap.size,2,none⟩=some (.int .i64 0):=McC;have x0:wr.frozen? ⟨w.heap.size,0,none⟩=false:=McL;have x1:wr.frozen? ⟨w.heap.size,1,none⟩=false:=McL;have x2:wr.frozen? ⟨w.heap.size,2,none⟩=false:=McL;have e1:w.heap.size+1<wr.heap.size:=zab g1;have e0:w.heap.size<wr.heap.size:=zab g0;have eR:=zdA y cd cF;have oE:=zbW (m:=m) ll Mcy cd Mcy;have hu:=zfx y cd;have cV:=qy.o;have k3:IntKind.i64.wrap ((m:Int)+1)=(m:Int)+1:=IntWalk.i64_in _ Mcy;have k5:IntKind.i64.wrap (day-zaC y m)=day-zaC y m:=IntWalk.i64_in _ Mcy;have k4:IntKind.i64.wrap (day-zaC y m+1)=day-zaC y m+1:=IntWalk.i64_in _ Mcy;by_cases cx:m<12/\zaC y (m+1)<=day
    ·obtain⟨sx,mn⟩:=cx;have fG:(m:Int)<12:=Mcy;have kM:Hid (zbe day=zdj day y (13-(m+1)) (m+1)):=by
      show _=_;rw[HM.o,show 13-m=(13-(m+1))+1 by omega,zj5 sx mn]
     obtain⟨fX,nV⟩:=yH2 mn (fun W=>zdn y (m+1) W ll Mcy Mcy Mcy);rw[show((m+1:Nat):Int)=(m:Int)+1 from rfl]at nV;clear hu cV;go_wp2_with (go_at_call 202;refine(nV.o _).mono ?_;rintro e wq ⟨rfl,rfl⟩)
     go_roundg (12-(m+1))
     case measure=>omega
     case rel=>
      refine⟨m+1,by omega,by omega,Nat.le_refl _,kM,fX.o,by repeat(first|exact B_refl|exact Below.refl _ _|assumption|with_reducible refine zad ?_ _|with_reducible refine zbv ?_ _|with_reducible refine zaK ?_|with_reducible refine zd3 ?_ _|with_reducible refine zaP ?_ Mdu _),J_ne Mcy g0,?_⟩;exact MbT
    ·have kM:Hid (zbe day=m):=by
      show _=_;rw[HM.o,zj6 cx]
     have FO:day<zaC y m+za6 y m:=by
      by_cases nw:m<12
      ·have:¬zaC y (m+1)<=day:=fun h=>cx ⟨nw,h⟩
       rw[hu]at this;omega
      ·obtain rfl:m=12:=by omega
       exact BB.o
     have HD:Hid (DateIs day (zbQ day) (zbe day)):=by
      show DateIs _ _ _;rw[HN.o,kM.o];exact⟨ll,by omega,cd,cF,cV,FO⟩
     obtain⟨nV,qp⟩:=yH2 (fun W (h:m<12)=>zdn y (m+1) W ll Mcy Mcy Mcy) (fun W=>zdn y m W ll Mcy cd cF);rw[show((m+1:Nat):Int)=(m:Int)+1 from rfl]at nV;have bJ:∀W:World,W=W->True:=fun _ _=>trivial
     clear hu cV FO bJ;by_cases nw:m<12
     ·have fG:(m:Int)<12:=Mcy;have ki:¬zaC y (m+1)<=day:=fun h=>cx ⟨nw,h⟩
      have qo:=zHi (fun W=>nV.o W nw);clear cx;go_upto_region 6 with(go_at_call 202;refine(qo.o _).mono ?_;rintro e wq ⟨rfl,rfl⟩)
      exact Mcq
     ·have fG:¬(m:Int)<12:=Mcy;clear cx nV;go_upto_region 6 with fail
      exact Mcq
theorem zhy(n:Int)(w:World):Calls Tryz.prog 201 #[.int .i64 n] w (Ret0 w (.bool (inR n 1800 2347))):=by
 go_enter Tryz.func201,Tryz.ntmps201
 exact Mam
theorem ziP(n:Int)(w:World):Calls Tryz.prog 204 #[.int .i64 n] w (Ret0 w (.bool (zbn n))):=by
 go_enter Tryz.func204,Tryz.ntmps204
 exact Mam
theorem zjP(n:Int)(w:World)(h0:0<=n)(h1:n<=1000000):Calls Tryz.prog 200 #[.int .i64 n,.int .i64 12] w (Ret0 w (.int .i64 (n%12))):=by
 have e1:n.tmod 12=n%12:=Int.tmod_eq_emod_of_nonneg h0;have k1:IntKind.i64.wrap (n%12)=n%12:=IntWalk.i64_in _ Mcy;have k2:IntKind.i64.wrap (n%12+12)=n%12+12:=IntWalk.i64_in _ Mcy;have e2:(n%12+12).tmod 12=n%12:=by rw[Int.tmod_eq_emod_of_nonneg Mcy];omega
 go_enter Tryz.func200,Tryz.ntmps200
 go_wp2_with fail
 go_ret
 exact⟨by first|rfl|simp,rfl⟩
theorem zmb(n:Int)(w:World)(h0:0<=n)(h1:n<=1000000):Calls Tryz.prog 199 #[.int .i64 n,.int .i64 12] w (Ret0 w (.int .i64 (n/12))):=by
 have k1:IntKind.i64.wrap (n-n%12)=n-n%12:=IntWalk.i64_in _ Mcy;have e1:(n-n%12).tdiv 12=n/12:=by rw[Int.tdiv_eq_ediv_of_nonneg Mcy];omega
 have k2:IntKind.i64.wrap (n/12)=n/12:=IntWalk.i64_in _ Mcy;go_enter Tryz.func199,Tryz.ntmps199
 go_wp2_with (go_at_call 200;refine(zjP _ _ h0 h1).mono ?_;rintro e wq ⟨rfl,rfl⟩)
 go_ret
 exact⟨by first|rfl|simp,rfl⟩
theorem zmc{d:Deed}(h1:inR d.kind 0 8=true)(h2:inR d.years 0 99=true):zfl d=zfF d:=
 zpg (zfu.1 h1) (zfu.1 h2).1
theorem zjq(d:Deed)(B:Option Addr)(c:Nat)(w:World)(hl:zdt d)(hS:Sl w 3 RPart.cells B d.to):Calls Tryz.prog 68 #[d.v B c] w (Ret w (.int .i64 (zaH d))):=by
 obtain⟨R,hR⟩:∃R,R=zaH d:=⟨_,rfl⟩
 rw[<-hR];have zQ:=zmc (d:=d);have oE:=fun W (hl:d.to.length<=1000) (h:Below w.heap.size w W)=>zng d B c W hl (hS.keep h)
 obtain⟨kd,dy,pl,fr,ts,cl,yr⟩:=d;obtain⟨l1,l2,dL,ae⟩:=hl;have HS:=zHi hS;unfold zaH at hR;unfold Deed.v at oE⊢;simp only at hR l1 l2 dL ae hS zQ oE;obtain⟨HR,ng,nV,dP⟩:=yH4 hR zQ oE dL;clear hR hS zQ oE dL;go_enter Tryz.func68,Tryz.ntmps68
 go_upto_region 1 with fail
 generalize am:w.alloc _=W0;obtain⟨g0,aK⟩:=boxed am;obtain⟨d0,d1,d2,d3,d4,d5,d6⟩:=zaF g0;have l0:=zab g0;have aj:=zHi aK;clear am aK;cases ir:inR kd 0 8
 ·have HE:Hid (R=15):=by show _=_;rw[HR.o];simp[ir]
  exact Ms
 go_upto_region 3 with(first
                        |(go_at_call 72;go_must(refine(zct _ _ _ _).mono ?_);rintro e wq ⟨rfl,rfl⟩;(first|rw[ir]|rw[hc9]|rw[hy9]))
                        |(go_at_call 38;go_must(refine(zcN _ _).mono ?_);rintro e wq ⟨rfl,rfl⟩;rw[gW])
                        |(go_at_call 37;go_must(refine(zcM _ _ Mc8).mono ?_);rintro e wq ⟨rfl,rfl⟩;(first|rw[cL]|rw[fu]|rw[mR])))
 cases gW:zbn dy
 ·have HE:Hid (R=2):=by show _=_;rw[HR.o];simp[ir,gW]
  exact Ms
 cases hc9:inR cl 0 4
 ·have HE:Hid (R=2):=by show _=_;rw[HR.o];simp[ir,gW,hc9]
  exact Ms
 cases hy9:inR yr 0 99
 ·have HE:Hid (R=2):=by show _=_;rw[HR.o];simp[ir,gW,hc9,hy9]
  exact Ms
 go_upto_region 5 with(first
                        |(go_at_call 72;go_must(refine(zct _ _ _ _).mono ?_);rintro e wq ⟨rfl,rfl⟩;(first|rw[ir]|rw[hc9]|rw[hy9]))
                        |(go_at_call 38;go_must(refine(zcN _ _).mono ?_);rintro e wq ⟨rfl,rfl⟩;rw[gW])
                        |(go_at_call 37;go_must(refine(zcM _ _ Mc8).mono ?_);rintro e wq ⟨rfl,rfl⟩;(first|rw[cL]|rw[fu]|rw[mR])))
 by_cases h8:8<ts.length
 ·have h9:(8:Int)<(ts.length:Int):=Mcy;have HE:Hid (R=8):=by show _=_;rw[HR.o];simp[ir,gW,hc9,hy9,h8]
  exact Ms
 have h9:¬(8:Int)<(ts.length:Int):=Mcy;have u9:R=if !zbz pl||!zbz fr||!ts.all (fun p=>zaS p.name)then 4 else if !zfF ⟨kd,dy,pl,fr,ts,cl,yr⟩then 3 else 0:=by rw[HR.o];simp[ir,gW,hc9,hy9,h8]
 rw[<-ng.o ir hy9]at u9;have bF:=zHi u9;clear u9 ng HR;go_upto_region 7 with fail
 go_cut [47]from 28 to 47 (fun v wc=>v=.bool (!zbz pl||!zbz fr)/\W0=wc)
 case first=>
  cases z1:noB pl
  ·have w1:¬pl.toList=[]:=by simpa using(show pl.toList.isEmpty=false from z1)
   cases iM:zaS pl
   ·have cL:zcB pl=false:=by rw[<-zd0,iM]
    exact Mr
   ·have cL:zcB pl=true:=by rw[<-zd0,iM]
    cases z2:noB fr
    ·exact Mce
    ·exact Mcr
  ·have w1:pl.toList=[]:=by simpa using(show pl.toList.isEmpty=true from z1)
   cases z2:noB fr
   ·exact Mce
   ·exact Mcr
 case rest=>
  obtain⟨rfl,rfl⟩:=hcut;cases hn9:(!zbz pl||!zbz fr)
  ·have xU:R=if !ts.all (fun p=>zaS p.name)then 4 else if !zfl ⟨kd,dy,pl,fr,ts,cl,yr⟩then 3 else 0:=by rw[bF.o,hn9,Bool.false_or]
   have qo:=zHi (fun W h=>nV.o W Mcy h);generalize zfl ⟨kd,dy,pl,fr,ts,cl,yr⟩=fo at*;have iY:=zHi xU;clear xU bF nV;go_upto_region 10 with fail
   go_loopw [3] (fun i wr=>∃k:Nat,k<=ts.length/\i=.int .i64 k/\W0=wr/\Hid (R=if !(ts.drop k).all (fun p=>zaS p.name)then 4 else if !fo then 3 else 0)) (fun i _=>ts.length-(intOf i).toNat)
   case atStart=>exact⟨0,Nat.zero_le _,rfl,rfl,by rw[List.drop_zero];exact iY.o⟩
   case round=>
    obtain⟨k,hk,rfl,rfl,HX⟩:=hrel;by_cases ae:k<ts.length
    ·obtain⟨b,off,rfl,hb,ah⟩:=(HS.o.keep aj.o).at ae;have hx:=HX.o;rw[List.drop_eq_getElem_cons ae,List.all_cons]at hx;have hsz:=dP.o _ (List.getElem_mem ae);obtain⟨au,ak⟩:=yH2 hx ae;generalize ts[k]=x at*;obtain⟨nm,nu,de⟩:=x;have i0:W0.cell? ⟨b,off+k*3,none⟩=some (.string nm):=ah 0 _ rfl;have ar:(k:Int)<(ts.length:Int):=Mcy;have aQ:(0:Int)<=(k:Int):=Mcy;simp only at hsz;clear ah hx ae;cases hp3:zaS nm
     ·have mR:zcB nm=false:=Meo;have HE:Hid (R=4):=by show _=_;rw[au.o];simp[hp3]
      exact Ms
     ·have mR:zcB nm=true:=Meo;have HE:Hid (R=if !(ts.drop (k+1)).all (fun p=>zaS p.name)then 4 else if !fo then 3 else 0):=by show _=_;rw[au.o,hp3,Bool.true_and]
      go_wp2_with (first
                    |(go_at_call 72;go_must(refine(zct _ _ _ _).mono ?_);rintro e wq ⟨rfl,rfl⟩;(first|rw[ir]|rw[hc9]|rw[hy9]))
                    |(go_at_call 38;go_must(refine(zcN _ _).mono ?_);rintro e wq ⟨rfl,rfl⟩;rw[gW])
                    |(go_at_call 37;go_must(refine(zcM _ _ Mc8).mono ?_);rintro e wq ⟨rfl,rfl⟩;(first|rw[cL]|rw[fu]|rw[mR])))
      exact MH
    ·have ar:¬(k:Int)<(ts.length:Int):=Mcy;have HE:Hid (R=if !fo then 3 else 0):=by show _=_;rw[HX.o,List.drop_of_length_le Mcy];rfl
     cases fo
     ·exact MaB
     ·exact MaB
  ·have HE:Hid (R=4):=by show _=_;rw[bF.o,hn9];rfl
   exact Ms
theorem alive_any(laws:List Law)(ds:List Deed)(name:ByteArray)(day:Int)(LA:Option Addr)(n nc:Nat)(DA:Option Addr)(m mc:Nat)(w:World)(hR:RightsIn w laws ds LA n nc DA m mc)(hF:FormsIn w)(hL:LensIn w)(hO:∀d∈ds,zdt d)(hp:name.size<=100000):
 Calls Tryz.prog 16 #[.agg #[.slice LA n nc,.slice DA m mc],.string name,.int .i64 day] w (Ret w (.tuple #[.bool (if zc1 laws ds [name] day=0 then !zaJ (zaL laws ds day).1 name else false),.int .i64 (zc1 laws ds [name] day)])):=by
 have dQ:=zHi (fun W (hB:Below w.heap.size w W) NA (hS:Sl W 1 sC NA [name])=>zlS laws ds day [name] LA n nc DA m mc NA 1 1 W (hR.keep hB) (hF.keep hB) (hL.keep hB) hO rfl McB MeB hS);clear hR hF hL hO hp;unfold ziM at dQ;generalize zc1 laws ds [name] day=E at*;generalize(zaL laws ds day).1=s at*;go_enter Tryz.func16,Tryz.ntmps16
 by_cases h0:E=0;rotate_left 1
 ·exact MK
 subst h0;rw[if_pos rfl]
 go_upto_region 4 with(go_at_call 30
                       go_must(refine(dQ.o _ Bw _ (zcl (zar _ _ _ McB))).mono ?_)
                       rintro e wq ⟨h1,⟨ai,_⟩|⟨_,base,b,la,co,rfl,h2,h3,⟨last,h4⟩,h5⟩⟩
                       ·exact absurd rfl ai
                       obtain⟨H1,H3,H5⟩:=yH3 h1 h3 h5
                       clear h1 h2 h3 h4 h5)
 clear dQ;obtain⟨k,eW,bR⟩:=H5.o;have aA:Hid (Below w.heap.size w wq):=zHi (Below.trans (zad (zad (Below.refl _ _) _) _ McB) (H1.o.mono McD));obtain⟨Bk,dd,cc,pp,wl,rr,mv,tv,ps,ba,hC,hP,hT⟩:=H3.o;have dg:=zab hC;have dV:=zdc hP name;unfold WldC at hC;obtain k0:=cF1 hC;clear hC hP hT bR;go_wp2_with fail
 go_ret2
 exact Ret.of rfl aA.o
theorem znj(laws:List Law)(ds:List Deed)(name:ByteArray)(day:Int)(LA:Option Addr)(n nc:Nat)(DA:Option Addr)(m mc:Nat)(w:World)(hR:RightsIn w laws ds LA n nc DA m mc)(hF:FormsIn w)(hL:LensIn w)(hO:∀d∈ds,zdt d)(hp:name.size<=100000):
 Calls Tryz.prog 17 #[.agg #[.slice LA n nc,.slice DA m mc],.string name,.int .i64 day] w (Ret w (.tuple #[.string (if zc1 laws ds [name] day=0 then zaG (zaL laws ds day).1 name else⟨#[]⟩),.int .i64 (zc1 laws ds [name] day)])):=by
 have dQ:=zHi (fun W (hB:Below w.heap.size w W) NA (hS:Sl W 1 sC NA [name])=>zlS laws ds day [name] LA n nc DA m mc NA 1 1 W (hR.keep hB) (hF.keep hB) (hL.keep hB) hO rfl McB MeB hS);clear hR hF hL hO hp;unfold ziM at dQ;generalize zc1 laws ds [name] day=E at*;generalize(zaL laws ds day).1=s at*;go_enter Tryz.func17,Tryz.ntmps17
 by_cases h0:E=0;rotate_left 1
 ·exact MK
 subst h0;rw[if_pos rfl]
 go_upto_region 4 with(go_at_call 30
                       go_must(refine(dQ.o _ Bw _ (zcl (zar _ _ _ McB))).mono ?_)
                       rintro e wq ⟨h1,⟨ai,_⟩|⟨_,base,b,la,co,rfl,h2,h3,⟨last,h4⟩,h5⟩⟩
                       ·exact absurd rfl ai
                       obtain⟨H1,H3,H5⟩:=yH3 h1 h3 h5
                       clear h1 h2 h3 h4 h5)
 clear dQ;obtain⟨k,eW,bR⟩:=H5.o;have aA:Hid (Below w.heap.size w wq):=zHi (Below.trans (zad (zad (Below.refl _ _) _) _ McB) (H1.o.mono McD));have ib:=zHi (fun W (hW:Below wq.heap.size wq W)=>zgZ base b s name W (H3.o.peo.keep hW) (by have:=bR.marr;omega));clear bR;go_wp2_with (go_at_call 43;go_must(refine(ib.o _ Bw).mono ?_);rintro e w2 ⟨rfl,z,rfl⟩)
 go_ret2
 exact Ret.of rfl (zbv aA.o z)
