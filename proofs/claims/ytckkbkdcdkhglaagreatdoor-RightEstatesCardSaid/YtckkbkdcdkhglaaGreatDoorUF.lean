/- Walks of the reference's CopyInts, Of, less, CheckSet. -/
import Derived.Test.YtckkbkdcdkhglaaGreatDoorEE
import Derived.Test.YtckkbkdcdkhglaaGreatDoorUI
set_option linter.unusedSimpArgs false
set_option linter.unusedVariables false
set_option maxRecDepth 100000
set_option maxHeartbeats 4000000
namespace Go.Proofs.YtckkbkdcdkhglaaGreatDoor
open Go.RowKit Go.Shelf
attribute [local go_sem] World.cell?_alloc_mark zag za5 zaq za8 zaw zax zay zaz za0 za1 za2
attribute [local go_sem] zap zad
open Classical in
noncomputable def zfW (s:St) (cls:Int) (name x:ByteArray):Bool:=
 if zae x name then true else if cls==0 then false else if zhH s x name||decide (Desc s x name)then true else cls != 1&&(zai s name).any (zae x)
structure MbAt (base:Nat) (W:World) (b T N TT WW:Nat) (s:St) (cls:Int) (name:ByteArray):Prop where
 peo:PeoAt base W b s
 tl:T<W.heap.size
 tc:W.cell? ⟨T,1,none⟩=some (.int .i64 cls)
 nl:N<W.heap.size
 nc:W.cell? ⟨N,0,none⟩=some (.string name)
 ttl:TT<W.heap.size
 ttc:W.cell? ⟨TT,0,none⟩=some (.pointer (some ⟨T,0,none⟩))
 wl:WW<W.heap.size
 wc:W.cell? ⟨WW,0,none⟩=some (.pointer (some ⟨b,0,none⟩))
theorem MbAt.keep {base:Nat} {W W':World} {b T N TT WW:Nat} {s:St} {cls:Int} {name:ByteArray} (h:MbAt base W b T N TT WW s cls name) (hB:Below W.heap.size W W'):MbAt base W' b T N TT WW s cls name:=
 ⟨h.peo.keep hB,Nat.lt_of_lt_of_le h.tl hB.size,(zah hB h.tl).trans h.tc,Nat.lt_of_lt_of_le h.nl hB.size,(zah hB h.nl).trans h.nc,Nat.lt_of_lt_of_le h.ttl hB.size,(zah hB h.ttl).trans h.ttc,Nat.lt_of_lt_of_le h.wl hB.size,(zah hB h.wl).trans h.wc⟩
open Classical in
theorem znZ (base b T N TT WW:Nat) (s:St) (cls:Int) (name x:ByteArray) (w:World) (hM:MbAt base w b T N TT WW s cls name) (ft:s.marriages.length<=1000) (bV:s.children.length<=1000):
 Calls Tryz.prog 46 #[.string x, .pointer (some ⟨N,0,none⟩), .pointer (some ⟨TT,0,none⟩), .pointer (some ⟨WW,0,none⟩)] w (Ret w (.bool (zfW s cls name x))):=by
 have hP:=hM.peo;obtain⟨B,d,c,p,wl,r,mv,tv,la,co,hC,tB⟩:=id hP;have dH:=zab hC;unfold WldC at hC;obtain⟨-,c1⟩:=cF2 hC;obtain⟨KA,kc,eB,fN,iq⟩:=zi1 tB name;have yZ:=zHi (fun W (hB:Below w.heap.size w W)=>ziu base b s x name W (hP.keep hB) Mcl);have lD:=zHi (fun W (hB:Below w.heap.size w W)=>zht base b s name x W (hP.keep hB) Mcl);have bo:(zai s name).length<=100000:=by
  have:(zai s name).length<=s.children.length:=by unfold zai;rw[List.length_map];exact List.length_filter_le _ _
  omega
 have dS:=zHi (fun W (hB:Below w.heap.size w W)=>zlp (zai s name) x KA _ kc W rfl bo (iq.keep hB));have dw: ∀z,(Instr.lookup 83 (.map (some c)) (.string name) false).run Tryz.prog (w.ext z)= .ok (.slice KA (zai s name).length kc) (w.ext z):=fun z=>eB _ (zam w z)
 have ij:=zHi eB;obtain⟨_,cN,ub,pL,xE,KI,KH,cx,hwc⟩:=hM;obtain⟨R,hR⟩: ∃R,R=zfW s cls name x:=⟨_,rfl⟩
 rw[<-hR];unfold zfW at hR;have HR:=zHi hR;clear hP hC tB eB iq hR;generalize zhH s x name=ma at*;generalize decide (Desc s x name)=de at*;generalize(zai s name).any (zae x)=kd at*;generalize(zai s name).length=kl at*;cases hs:zae x name
 ·have ym:(x.toList==name.toList)=false:=hs;rw[hs]at HR;by_cases h0:cls=0
  ·subst h0;have HX:Hid (R=false):=by show _=_;rw[HR.o];rfl
   exact Mbi
  ·have HX:Hid (R=if ma||de then true else cls != 1&&kd):=by
    show _=_;rw[HR.o];have:(cls==0)=false:=by simpa using h0
    rw[this];rfl
   clear HR;cases ma
   ·cases de
    ·by_cases h1:cls=1
     ·subst h1;have au:Hid (R=false):=by show _=_;rw[HX.o];rfl
      clear HX ij dw;go_enter Tryz.func46,Tryz.ntmps46
      go_upto_region 5 with fail
      (refine zaj Mcm Mcm ?_
       repeat(first|go_big_quiet_skip|(go_big_quiet_want;go_big_quiet_op;first|go_big_quiet_on|(apply Exists.intro;refine⟨fun _=> ?_,?_⟩;(first|(go_at_call 47;exact quietx (yZ.o _ Bw))|(go_at_call 48;exact quietx (lD.o _ Bw)));go_big_quiet_on)))
       refine wpQuiet_nil ?_
       rintro _ ⟨zq,rfl⟩)
      go_upto_region 7 with fail
      go_quiet (fail)
      exact MaF
     ·have au:Hid (R=kd):=by
       show _=_;rw[HX.o];have:(cls != 1)=true:=by simpa using h1
       rw[this];simp
      clear HX;go_enter Tryz.func46,Tryz.ntmps46
      go_upto_region 5 with fail
      (refine zaj Mcm Mcm ?_
       repeat(first|go_big_quiet_skip|(go_big_quiet_want;go_big_quiet_op;first|go_big_quiet_on|(apply Exists.intro;refine⟨fun _=> ?_,?_⟩;(first|(go_at_call 47;exact quietx (yZ.o _ Bw))|(go_at_call 48;exact quietx (lD.o _ Bw)));go_big_quiet_on)))
       refine wpQuiet_nil ?_
       rintro _ ⟨zq,rfl⟩)
      go_upto_region 7 with fail
      have Kh: ∀z,(Instr.lookup 83 (.map (some c)) (.string name) false).run Tryz.prog ((w.ext zq).ext z)= .ok (.slice KA kl kc) ((w.ext zq).ext z):=fun z=>ij.o _ Bw
      have cD:(cls==1)=false:=McR;have ed:(cls != 1)=true:=McR;have Ab:decide (cls=1)=false:=McR
      (refine zaj Mcm Mcm ?_
       repeat(first|go_big_quiet_skip|(go_big_quiet_want;go_big_quiet_op;first|go_big_quiet_on|(apply Exists.intro;refine⟨fun _=> ?_,?_⟩;(first|(go_at_call 49;exact zhV (dS.o _ Bw)));go_big_quiet_on)))
       refine wpQuiet_nil ?_
       rintro _ ⟨zq,rfl⟩)
      exact MaF
    ·have au:Hid (R=true):=by show _=_;rw[HX.o];rfl
     clear HX ij dw;go_enter Tryz.func46,Tryz.ntmps46
     go_upto_region 5 with fail
     (refine zaj Mcm Mcm ?_
      repeat(first|go_big_quiet_skip|(go_big_quiet_want;go_big_quiet_op;first|go_big_quiet_on|(apply Exists.intro;refine⟨fun _=> ?_,?_⟩;(first|(go_at_call 47;exact quietx (yZ.o _ Bw))|(go_at_call 48;exact quietx (lD.o _ Bw)));go_big_quiet_on)))
      refine wpQuiet_nil ?_
      rintro _ ⟨zq,rfl⟩)
     exact MaF
   ·have au:Hid (R=true):=by show _=_;rw[HX.o];rfl
    clear HX ij dw;go_enter Tryz.func46,Tryz.ntmps46
    go_upto_region 5 with fail
    (refine zaj Mcm Mcm ?_
     repeat(first|go_big_quiet_skip|(go_big_quiet_want;go_big_quiet_op;first|go_big_quiet_on|(apply Exists.intro;refine⟨fun _=> ?_,?_⟩;(go_at_call 47;exact quietx (yZ.o _ Bw));go_big_quiet_on)))
     refine wpQuiet_nil ?_
     rintro _ ⟨zq,rfl⟩)
    exact MaF
 ·have ym:(x.toList==name.toList)=true:=hs;have HX:Hid (R=true):=by show _=_;rw[HR.o,hs];rfl
  exact Mbi
def zkO (N TT WW:Nat):Value:= .func (.func 46) #[] #[.pointer (some ⟨N,0,none⟩), .pointer (some ⟨TT,0,none⟩), .pointer (some ⟨WW,0,none⟩)]
theorem znb (base b T N TT WW FB:Nat) (s:St) (cls:Int) (name:ByteArray) (q:RPart) (w:World) (hM:MbAt base w b T N TT WW s cls name) (hFl:FB<w.heap.size) (IM:w.cell? ⟨FB,0,none⟩=some (zkO N TT WW)) (ft:s.marriages.length<=1000) (bV:s.children.length<=1000):
 Calls Tryz.prog 84 #[.agg #[.string q.name, .int .i64 q.num, .int .i64 q.den], .pointer (some ⟨FB,0,none⟩)] w (Ret w (.bool (!noB q.name&&zfW s cls name q.name))):=by
 have eg: ∀args w,(callFunc 46 args).run Tryz.prog w= .ok (.enter 46 args) w:=enters_of Tryz.func46 Mcm rfl;have AK:=zHi (fun W (hB:Below w.heap.size w W)=>znZ base b T N TT WW s cls name q.name W (hM.keep hB) ft bV);unfold zkO at IM;have hFn:FB≠w.heap.size:=Mcl;clear hM;obtain⟨nm,nu,de⟩:=q;simp only at*;generalize zfW s cls name nm=le at*;cases hn:noB nm
 ·have cD:nm.toList.isEmpty=false:=hn;have ed: ¬nm.toList=[]:=by simpa using cD
  go_enter Tryz.func84,Tryz.ntmps84
  go_wp2_with (go_at_fn 46;refine(AK.o _ Bw).mono ?_;rintro e wq ⟨rfl,z,rfl⟩)
  go_ret
  exact Ret.of (zaP Mco) Bw
 ·have cD:nm.toList.isEmpty=true:=hn;have ed:nm.toList=[]:=by simpa using cD
  go_enter Tryz.func84,Tryz.ntmps84
  exact Mbl
theorem sl_map {α β:Type} {w:World} {size:Nat} {f:α->List Value} {g:β->List Value} {A:Option Addr} {xs:List α} (h:Sl w size f A xs) (m:α->β) (hm: ∀x,g (m x)=f x):Sl w size g A (xs.map m):=fun hl=>by
 obtain⟨b,off,hA,hb,hc⟩:=h (by simpa using hl);refine⟨b,off,hA,hb,fun k x hk j u hu=> ?_⟩;rw[List.getElem?_map,Option.map_eq_some_iff]at hk;obtain⟨y,hy,rfl⟩:=hk;rw[hm]at hu;exact hc k y hy j u hu
def toR (p:ByteArray×Rat):RPart:=⟨p.1,p.2.num,p.2.den⟩
noncomputable def entP (s:St) (g:Grave) (name:ByteArray):Bool:=g.holders.any (fun p=>!noB p.1&&zfW s g.cls name p.1)||g.died.any (zfW s g.cls name)
theorem zlZ (base b T N TT WW:Nat) (B:List Nat) (s:St) (g:Grave) (name:ByteArray) (w:World) (hM:MbAt base w b T N TT WW s g.cls name) (hT:TombAt w base B T g) (ft:s.marriages.length<=1000) (bV:s.children.length<=1000) (jO:g.holders.length<=100000) (bz:g.died.length<=100000):
 Calls Tryz.prog 45 #[.pointer (some ⟨T,0,none⟩),zkO N TT WW] w (Ret w (.bool (entP s g name))):=by
 have eg: ∀args w,(callFunc 46 args).run Tryz.prog w= .ok (.enter 46 args) w:=enters_of Tryz.func46 Mcm rfl;have eg2: ∀args w,(callFunc 84 args).run Tryz.prog w= .ok (.enter 84 args) w:=enters_of Tryz.func84 Mcm rfl;obtain⟨H,aU,D,dc,frm,t1,t2,t3,t4,t5,t6,t7⟩:=hT;have d8:=zab t1;unfold zbv at t1;obtain⟨-,-,-,-,k4,k5⟩:=cF6 t1;have vY:Sl w 3 RPart.cells H (g.holders.map toR):=sl_map (Ro.sl zan t5) toR (fun _=>rfl);have Fa:=Ro.sl zaB t6;have wF: ∀W,Below w.heap.size w W->w.heap.size<W.heap.size->W.cell? ⟨w.heap.size,0,none⟩=some (zkO N TT WW)->Calls Tryz.prog 83 #[.slice H g.holders.length aU, .func (.func 84) #[] #[.pointer (some ⟨w.heap.size,0,none⟩)]] W (Ret W (.bool ((g.holders.map toR).any fun q=>!noB q.name&&zfW s g.cls name q.name))):=fun W hB hl hc=>by
  refine zcO 84 _ eg2 _ H _ aU (g.holders.map toR) W Mco (by simpa using jO) (vY.keep hB) fun x _ W' fD=> ?_
  refine(znb base b T N TT WW w.heap.size s g.cls name x W' (hM.keep (hB.trans (fD.mono hB.size))) (Nat.lt_of_lt_of_le hl fD.size) ((zah fD hl).trans hc) ft bV).mono ?_;exact MbF
 have wG: ∀W,Below w.heap.size w W->Calls Tryz.prog 56 #[.slice D g.died.length dc,zkO N TT WW] W (Ret W (.bool (g.died.any (zfW s g.cls name)))):=fun W hB=>by
  refine zlW 46 _ eg _ D _ dc g.died W rfl bz (Fa.keep hB) fun x _ W' fD=> ?_
  refine(znZ base b T N TT WW s g.cls name x W' (hM.keep (hB.trans (fD.mono hB.size))) ft bV).mono ?_;exact MbF
 have he:entP s g name=((g.holders.map toR).any (fun q=>!noB q.name&&zfW s g.cls name q.name)||g.died.any (zfW s g.cls name)):=by
  unfold entP;rw[List.any_map];rfl
 rw[he];generalize(g.holders.map toR).any (fun q=>!noB q.name&&zfW s g.cls name q.name)=b1 at*;generalize g.died.any (zfW s g.cls name)=b2 at*;have Ar:=zHi wF;have ur:=zHi wG;unfold zkO at Ar ur;unfold zkO;clear wF wG vY Fa t1 t5 t6 t7 hM he eg eg2;have Cd:T≠w.heap.size:=Mcl;cases b1
 ·go_enter Tryz.func45,Tryz.ntmps45
  go_upto_region 1 with fail
  (refine zaj Mcm Mcm ?_
   repeat(first|go_big_quiet_skip|(go_big_quiet_want;go_big_quiet_op;first|go_big_quiet_on|(apply Exists.intro;refine⟨fun _=> ?_,?_⟩;(first|(go_at_call 83;exact quietx (Ar.o _ Bw Mcu McN))|(go_at_call 56;exact quietx (ur.o _ Bw)));go_big_quiet_on)))
   refine wpQuiet_nil ?_
   rintro _ ⟨zq,rfl⟩)
  exact Mbl
 ·go_enter Tryz.func45,Tryz.ntmps45
  go_upto_region 1 with fail
  (refine zaj Mcm Mcm ?_
   repeat(first|go_big_quiet_skip|(go_big_quiet_want;go_big_quiet_op;first|go_big_quiet_on|(apply Exists.intro;refine⟨fun _=> ?_,?_⟩;((go_at_call 83;exact quietx (Ar.o _ Bw Mcu McN)));go_big_quiet_on)))
   refine wpQuiet_nil ?_
   rintro _ ⟨zq,rfl⟩)
  exact Mbl
end Go.Proofs.YtckkbkdcdkhglaaGreatDoor
namespace Go.Proofs.YtckkbkdcdkhglaaGreatDoor
open Go.RowKit Go.Shelf
attribute [local go_sem] World.cell?_alloc_mark zag za5 zaq za8 zaw zax zay zaz za0 za1 za2
attribute [local go_sem] zap zad
noncomputable def zf8 (laws:List Law) (ds:List Deed) (place name:ByteArray) (day:Int):Bool×Int:=
 if zbL laws ds [place,name] day != 0 then(false,zbL laws ds [place,name] day)else match zaJ (zaF laws ds day).1 place day with
  |none=>(false,12)
  |some i=>(((zaF laws ds day).1.graves.getD i ze0).cls==4||entP (zaF laws ds day).1 ((zaF laws ds day).1.graves.getD i ze0) name,0)
theorem zf9 {W:World} {a o:Nat} {v:Value} (h:W.cell? ⟨a,o,none⟩=some v):a<W.heap.size:=by
 unfold World.cell? at h;cases hh:W.heap[a]? with
 |none=>simp[hh]at h
 |some x=>exact zab hh
theorem znc (laws:List Law) (ds:List Deed) (place name:ByteArray) (day:Int) (LA:Option Addr) (n nc:Nat) (DA:Option Addr) (m mc:Nat) (w:World) (hR:RightsIn w laws ds LA n nc DA m mc) (hF:FormsIn w) (hL:LensIn w) (hO: ∀d∈ds,zdv d) (hp:place.size<=100000) (hn:name.size<=100000):
 Calls Tryz.prog 20 #[.agg #[.slice LA n nc, .slice DA m mc], .string place, .string name, .int .i64 day] w (Ret w (.tuple #[.bool (zf8 laws ds place name day).1, .int .i64 (zf8 laws ds place name day).2])):=by
 have aN:=fun W (hB:Below w.heap.size w W) NA (hS:Sl W 1 sC NA [name])=>zfo laws ds place [name] day LA n nc DA m mc NA 1 1 W (hR.keep hB) (hF.keep hB) (hL.keep hB) hO hp rfl Mco (by simpa using hn) hS
 have bE:=zHi aN;clear aN hR hF hL hO hp hn;unfold zdR at bE;obtain⟨R,hR⟩: ∃R,R=zf8 laws ds place name day:=⟨_,rfl⟩
 rw[<-hR];unfold zf8 at hR;generalize zbL laws ds [place,name] day=E at*;generalize(zaF laws ds day).1=s at*;have HR:=zHi hR;clear hR;by_cases h0:E=0
 ·have HE:=zHi h0;cases aO:zaJ s place day with
  |none=>
   have HX:Hid (R=(false,12)):=by show _=_;rw[HR.o,aO,if_neg (by simp[h0])]
   have gU:=zHi aO;clear HR aO h0;go_enter Tryz.func20,Tryz.ntmps20
   go_wp2_with (go_at_call 28
                go_must(refine(bE.o _ Bw _ (zcx (zar _ _ _ Mco))).mono ?_)
                rintro e wq ⟨h1,⟨ai,_⟩|⟨_,_,rfl⟩|⟨_,base,b,la,co,B,T,i,g,hi,_⟩⟩
                ·exact absurd HE.o ai
                rotate_left 1
                ·rw[gU.o]at hi;cases hi
                go_must(have hm:=(show Below w.heap.size _ wq from h1.mono MdZ))
                go_must(have bf:Below w.heap.size w wq:=Below.trans Bw hm)
                have cO:=zHi bf
                clear h1 hm bf)
   exact MbA
  |some i=>
   have gU:=zHi aO;have hX:R=((s.graves.getD i ze0).cls==4||entP s (s.graves.getD i ze0) name,0):=by rw[HR.o,aO,if_neg (by simp[h0])]
   obtain⟨g,aA,-,-⟩:=zbI aO;rw[zdY aA]at hX;have HX:=zHi hX;have sV:=zHi aA;clear HR aO h0 hX aA;go_enter Tryz.func20,Tryz.ntmps20
   go_upto_region 2 with
    (go_at_call 28
     go_must(refine(bE.o _ Bw _ (zcx (zar _ _ _ Mco))).mono ?_)
     rintro e wq ⟨h1,⟨ai,_⟩|⟨_,hi,_⟩|⟨_,base,b,la,co,B,T,i',g',hi,eA,rfl,h2,h3,h4,h5,h6⟩⟩;go_must(·exact absurd HE.o ai)
     go_must(·rw[gU.o]at hi;cases hi)
     go_must(have hm:=(show Below w.heap.size _ wq from h1.mono MdZ))
     go_must(have bf:Below w.heap.size w wq:=Below.trans Bw hm)
     go_must(have F3:=(h1.cell (p:=⟨w.heap.size+1,0,none⟩) (by simp<;>omega)).trans (show _=some (Value.string name) from by simp[go_sem]))
     go_must(have b9:g'=g:=Mc2)
     go_must(subst b9)
     have qw:=zHi F3;have cO:=zHi bf;have y8:=bf.size;have H3:=zHi h3;have H4:=zHi h4;have H6:=zHi h6
     clear h1 hm bf F3 h2 h3 h4 h5 h6 hi eA)
   have gW:=H4.o;obtain⟨H,aU,D,dc,frm,t1,t2,t3,t4,t5,t6,t7⟩:=H4.o;have d8:=zab t1;unfold zbv at t1;obtain⟨-,k1⟩:=cF2 t1;obtain⟨k,fM,cn⟩:=H6.o;have jO:=cn.held g' (List.mem_of_getElem? sV.o);have ft:=cn.marr;have bV:=cn.kids;have bs:=H3.o.lt;have pL:w.heap.size+1<wq.heap.size:=zf9 qw.o;have CE: ∀W,Below wq.heap.size wq W->W.cell? ⟨wq.heap.size,0,none⟩=some (.pointer (some ⟨b,0,none⟩))->W.cell? ⟨wq.heap.size+1,0,none⟩=some (.pointer (some ⟨T,0,none⟩))->Calls Tryz.prog 45 #[.pointer (some ⟨T,0,none⟩),zkO (w.heap.size+1) (wq.heap.size+1) wq.heap.size] W (Ret W (.bool (entP s g' name))):=fun W hB e1 e2=>
    zlZ base b T (w.heap.size+1) (wq.heap.size+1) wq.heap.size B s g' name W ⟨H3.o.peo.keep hB,Nat.lt_of_lt_of_le d8 hB.size,(zah hB d8).trans k1,Nat.lt_of_lt_of_le pL hB.size,(zah hB pL).trans qw.o,zf9 e2,e2,zf9 e1,e1⟩ (gW.keep hB) Mcl Mcl Mcl Mcl
   have lE:=zHi CE;unfold zkO at lE;have Ed:=zHi d8;have Cd:T≠wq.heap.size:=Mcl;have Jh:T≠wq.heap.size+1:=Mcl;generalize entP s g' name=ep at*;clear CE gW t1 t2 t3 t4 t5 t6 t7 jO ft bV cn bs;by_cases h4:g'.cls=4
   ·have au:Hid (R=(true,0)):=by show _=_;rw[HX.o,h4];rfl
    rw[h4]at k1;go_wp2_with fail
    go_ret2
    rw[au.o];have bf:=cO.o;exact Ret.of rfl Bw
   ·have au:Hid (R=(ep,0)):=by
     show _=_;rw[HX.o,show(g'.cls==4)=false by simpa using h4];rfl
    go_wp2_with (go_at_call 45;go_must(refine(lE.o _ Bw McN McN).mono ?_);rintro e wz ⟨rfl,z,rfl⟩)
    go_ret2
    rw[au.o];have bf:=cO.o;exact Ret.of rfl Bw
 ·have HX:Hid (R=(false,E)):=by show _=_;rw[HR.o,if_pos Mdm]
  have HE:=zHi h0;clear HR h0;go_enter Tryz.func20,Tryz.ntmps20
  go_wp2_with (go_at_call 28
               go_must(refine(bE.o _ Bw _ (zcx (zar _ _ _ Mco))).mono ?_)
               rintro e wq ⟨h1,⟨_,rfl⟩|⟨he,_⟩|⟨he,_⟩⟩;rotate_left 1
               ·exact absurd he HE.o
               ·exact absurd he HE.o
               go_must(have hm:=(show Below w.heap.size _ wq from h1.mono MdZ))
               go_must(have bf:Below w.heap.size w wq:=Below.trans Bw hm)
               have cO:=zHi bf
               clear h1 hm bf)
  exact MbA
theorem zma {fn:Func} {p:Tmp} (h:fn.results= #[.cell p 63]) (tmps:Array Value) (w:World) (B:Nat) (x0 x1 x2:Value) (hp:tmps.getD p undef= .pointer (some ⟨B,0,none⟩))
 (hx:w.heap[B]?=some (.cells #[x0,x1,x2] 63)):(results fn tmps).run Tryz.prog w= .ok (.agg #[x0,x1,x2]) w:=by
 obtain⟨h0,h1,h2⟩:=cF3 hx;exact Ma6
theorem zjs {fn:Func} {p:Tmp} (h:fn.results= #[.cell p 25]) (tmps:Array Value) (w:World) (B:Nat) (x0 x1:Value) (hp:tmps.getD p undef= .pointer (some ⟨B,0,none⟩))
 (hx:w.heap[B]?=some (.cells #[x0,x1] 25)):(results fn tmps).run Tryz.prog w= .ok (.agg #[x0,x1]) w:=by
 obtain⟨h0,h1⟩:=cF2 hx;exact Ma6
theorem zmb (n:ByteArray) (a b:Int) (w:World):Calls Tryz.prog 22 #[.string n, .int .i64 a, .int .i64 b] w (Ret w (.agg #[.string n, .int .i64 a, .int .i64 b])):=by
 go_enter Tryz.func22,Tryz.ntmps22
 go_wp2_with fail
 refine bodyPost_ret (v:= .agg #[.string n, .int .i64 a, .int .i64 b]) ?_ rfl ?_
 ·exact zma rfl _ _ w.heap.size _ _ _ rfl (zar _ _ _ rfl)
 ·exact Ret.of rfl Bw
def FamPost (w:World) (e:Ending) (w':World):Prop:=
 ∃LA DA,e= .returned (.agg #[.slice LA 2 2, .slice DA 5 5])/\RightsIn w' zcl zbE LA 2 2 DA 5 5/\Below w.heap.size w w'
theorem zeb {α:Type} {w:World} {b size:Nat} {f:α->List Value} {t:TypeId} {fr:Nat×Nat} {cs:Array Value} {xs:List α} (ag: ∀x,(f x).length=size) (h:w.heap[b]?=some (.cells cs t fr)) (hc:xs.flatMap f=cs.toList):Sl w size f (some ⟨b,0,none⟩) xs:=fun _=>
 ⟨b,0,rfl,zab h,fun k x hk j u hu=>by
   have:=zeR f size ag xs k x hk j u hu;rw[hc]at this;simp only[World.cell?,h,Nat.zero_add]
   simpa using this⟩
def deedC (k d:Int) (p f:ByteArray) (s:Value) (c y:Int):List Value:=[.int .i64 k, .int .i64 d, .string p, .string f,s, .int .i64 c, .int .i64 y]
def zoa (p0 p1 p2 p3:Nat):List Value:=
 deedC 6 0 n0 nAnn (.slice (some ⟨p0,0,none⟩) 1 1) 0 0++(deedC 6 0 n0 nAnn (.slice (some ⟨p1,0,none⟩) 1 1) 0 0++(deedC 7 0 n0 nAnn (.slice (some ⟨p2,0,none⟩) 1 1) 0 0++(deedC 0 100 nA1 n0 (.slice (some ⟨p3,0,none⟩) 1 1) 1 0++deedC 8 200 n0 nAnn (.slice none 0 0) 0 0)))
theorem fam_slw {W:World} {D p0 p1 p2 p3:Nat} {f0 f1 f2 f3 fd:Nat×Nat}
 (h0:W.heap[p0]?=some (.cells #[.string nBob, .int .i64 0, .int .i64 0] 63 f0)) (h1:W.heap[p1]?=some (.cells #[.string nCat, .int .i64 0, .int .i64 0] 63 f1))
 (h2:W.heap[p2]?=some (.cells #[.string nDan, .int .i64 0, .int .i64 0] 63 f2)) (h3:W.heap[p3]?=some (.cells #[.string nAnn, .int .i64 1, .int .i64 1] 63 f3))
 (hd:W.heap[D]?=some (.cells (zoa p0 p1 p2 p3).toArray 68 fd)):SlW W 7 zfC (some ⟨D,0,none⟩) zbE:=fun _=>by
 refine⟨D,0,rfl,zab hd,fun k x hk=> ?_⟩;have bk: ∀j,W.cell? ⟨D,j,none⟩=(zoa p0 p1 p2 p3)[j]?:=fun j=>by simp only[World.cell?,hd];simp
 match k,hk with
 |0,hk=>
  obtain rfl:famD 0=x:=by simpa[zbE]using hk
  exact⟨_,⟨_,1,Nat.le_refl _,rfl,zeb (fun _=>rfl) h0 rfl⟩,fun j u hu=>by
   rw[bk];match j,hu with
   |0,hu|1,hu|2,hu|3,hu|4,hu|5,hu|6,hu=>exact hu⟩
 |1,hk=>
  obtain rfl:famD 1=x:=by simpa[zbE]using hk
  exact⟨_,⟨_,1,Nat.le_refl _,rfl,zeb (fun _=>rfl) h1 rfl⟩,fun j u hu=>by
   rw[bk];match j,hu with
   |0,hu|1,hu|2,hu|3,hu|4,hu|5,hu|6,hu=>exact hu⟩
 |2,hk=>
  obtain rfl:famD 2=x:=by simpa[zbE]using hk
  exact⟨_,⟨_,1,Nat.le_refl _,rfl,zeb (fun _=>rfl) h2 rfl⟩,fun j u hu=>by
   rw[bk];match j,hu with
   |0,hu|1,hu|2,hu|3,hu|4,hu|5,hu|6,hu=>exact hu⟩
 |3,hk=>
  obtain rfl:famD 3=x:=by simpa[zbE]using hk
  exact⟨_,⟨_,1,Nat.le_refl _,rfl,zeb (fun _=>rfl) h3 rfl⟩,fun j u hu=>by
   rw[bk];match j,hu with
   |0,hu|1,hu|2,hu|3,hu|4,hu|5,hu|6,hu=>exact hu⟩
 |4,hk=>
  obtain rfl:famD 4=x:=by simpa[zbE]using hk
  exact⟨_,⟨none,0,Nat.le_refl _,rfl,Sl.nil⟩,fun j u hu=>by
   rw[bk];match j,hu with
   |0,hu|1,hu|2,hu|3,hu|4,hu|5,hu|6,hu=>exact hu⟩
 |k+5,hk=>simp[zbE]at hk
theorem zjV (w:World):Calls Tryz.prog 19 #[] w (FamPost w):=by
 go_enter Tryz.func19,Tryz.ntmps19
 go_wp2_with (go_at_call 22;go_must(refine(zmb _ _ _ _).mono ?_);rintro e wq ⟨rfl,z,rfl⟩)
 refine bodyPost_ret (v:= .agg #[.slice (some ⟨w.heap.size+1,0,none⟩) 2 2, .slice (some ⟨w.heap.size+1+1+1+1+1+z.os.size+1,0,none⟩) 5 5]) ?_ rfl ?_
 ·refine zjs rfl _ _ w.heap.size _ _ rfl ?_;exact MaR
 ·refine⟨_,_,rfl,⟨rfl,rfl,by decide,by decide,?h1,?h2⟩,Bw⟩
  case h1=>
   refine zeb (t:=95) (fr:=(0,0)) (cs:= #[.int .i64 0, .bool false, .int .i64 1, .int .i64 4, .int .i64 50000, .bool true, .int .i64 1, .int .i64 2]) (fun _=>rfl) ?_ rfl;exact MaR
  case h2=>
   refine fam_slw (p0:=w.heap.size+1+1) (p1:=w.heap.size+1+1+1) (p2:=w.heap.size+1+1+1+1) (p3:=w.heap.size+1+1+1+1+1+z.os.size) (f0:=(0,0)) (f1:=(0,0)) (f2:=(0,0)) (f3:=(0,0)) (fd:=(0,0)) ?_ ?_ ?_ ?_ ?_
   ·exact M3
   ·exact M3
   ·exact M3
   ·exact M3
   ·exact M3
theorem sl_same {α β:Type} {w:World} {size:Nat} {f:α->List Value} {g:β->List Value} {A:Option Addr} {xs:List α} {ys:List β} (h:Sl w size f A xs) (he:xs.map f=ys.map g):Sl w size g A ys:=fun hl=>by
 have ag:xs.length=ys.length:=by simpa using congrArg List.length he
 obtain⟨b,off,hA,hb,hc⟩:=h Mcl;refine⟨b,off,hA,hb,fun k y hy j u hu=> ?_⟩;have hk:=(List.getElem?_eq_some_iff.1 hy).1;have h1:=congrArg (fun l=>l[k]?) he;simp only[List.getElem?_map,hy,List.getElem?_eq_getElem (show k<xs.length by omega),Option.map_some,Option.some.injEq]at h1;exact hc k _ (List.getElem?_eq_getElem Mcl) j u (by rw[h1];exact hu)
theorem zkP (xs:List RPart) (P Q:Option Addr) (pc qc:Nat) (w:World) (hp:Sl w 3 RPart.cells P xs) (hq:Sl w 3 RPart.cells Q xs) (hl:xs.length<=100000) (oL:xs.length<=pc) (Df:xs.length<=qc):
 Calls Tryz.prog 14 #[.slice P xs.length pc, .slice Q xs.length qc] w (Ret w (.bool true)):=by
 exact Mw
theorem zmc (xs:List Nat) (P Q:Option Addr) (pc qc:Nat) (w:World) (hp:Sl w 1 intC P xs) (hq:Sl w 1 intC Q xs) (hl:xs.length<=100000) (oL:xs.length<=pc) (Df:xs.length<=qc):
 Calls Tryz.prog 23 #[.slice P xs.length pc, .slice Q xs.length qc] w (Ret w (.bool true)):=by
 go_enter Tryz.func23,Tryz.ntmps23
 go_wp2_with fail
 go_loopw [5] (fun i wr=> ∃j:Nat,j<=xs.length/\i= .int .i64 j/\ ∃z,wr=w.ext z) (fun i _=>xs.length-(intOf i).toNat)
 case atStart=>exact⟨0,Nat.zero_le _,rfl,zbb (Below.refl _ _)⟩
 case round=>
  obtain⟨j,hj,rfl,z,rfl⟩:=hrel;by_cases aa:j<xs.length
  ·obtain⟨b,off,rfl,hb,hc⟩:=hp.at aa;obtain⟨b',off',rfl,cK,aU⟩:=hq.at aa;have bD:(j:Int)<(xs.length:Int):=Mcl;have tQ:(0:Int)<=(j:Int):=Mcl;generalize xs[j]=x at*;have x0:w.cell? ⟨b,off+j,none⟩=some (.int .i64 (x:Int)):=Mdu;have y0:w.cell? ⟨b',off'+j,none⟩=some (.int .i64 (x:Int)):=by have:=aU 0 _ rfl;simpa using this
   exact MbW
  ·have pL: ¬((j:Int)<(xs.length:Int)):=Mcl;exact Mau
end Go.Proofs.YtckkbkdcdkhglaaGreatDoor
