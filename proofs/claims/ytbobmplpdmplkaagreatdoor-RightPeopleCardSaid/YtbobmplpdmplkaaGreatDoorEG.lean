import Derived.Test.YtbobmplpdmplkaaGreatDoorEE
set_option linter.all false
set_option maxRecDepth 100000
set_option maxHeartbeats 4000000
namespace Go.Proofs.YtbobmplpdmplkaaGreatDoor
open Go.RowKit Go.Shelf
attribute [local go_sem] World.cell?_alloc_mark zaf za4 zam za7 zaw zax zay zaz za0 za1 za2
attribute [local go_sem] zan zac
open Classical in
noncomputable def zfU (s:St) (cls:Int) (name x:ByteArray):Bool:=
 if zae x name then true else if cls==0 then false else if zhD s x name||decide (Desc s x name)then true else cls != 1&&(zai s name).any (zae x)
structure MbAt (base:Nat) (W:World) (b T N TT WW:Nat) (s:St) (cls:Int) (name:ByteArray):Prop where
 peo:PeoAt base W b s
 tl:T<W.heap.size
 tc:W.cell? ⟨T,1,none⟩=some (.int .i64 cls)
 nl:N<W.heap.size
 nc:W.cell? ⟨N,0,none⟩=some (.string name)
 ttl:TT<W.heap.size
 ttc:W.cell? ⟨TT,0,none⟩=some (.pointer (some ⟨T,0,none⟩))
 wl:WW<W.heap.size
 wc:W.cell? ⟨WW,0,none⟩=some (.pointer (some ⟨b,0,none⟩))
theorem MbAt.keep{base:Nat}{W W':World}{b T N TT WW:Nat}{s:St}{cls:Int}{name:ByteArray}(h:MbAt base W b T N TT WW s cls name)(hB:Below W.heap.size W W'):MbAt base W' b T N TT WW s cls name:=
 ⟨h.peo.keep hB,Nat.lt_of_lt_of_le h.tl hB.size,(zah hB h.tl).trans h.tc,Nat.lt_of_lt_of_le h.nl hB.size,(zah hB h.nl).trans h.nc,Nat.lt_of_lt_of_le h.ttl hB.size,(zah hB h.ttl).trans h.ttc,Nat.lt_of_lt_of_le h.wl hB.size,(zah hB h.wl).trans h.wc⟩
open Classical in
theorem zoe(base b T N TT WW:Nat)(s:St)(cls:Int)(name x:ByteArray)(w:World)(hM:MbAt base w b T N TT WW s cls name)(ft:s.marriages.length<=1000)(bV:s.children.length<=1000):
 Calls Tryz.prog 49 #[.string x,.pointer (some ⟨N,0,none⟩),.pointer (some ⟨TT,0,none⟩),.pointer (some ⟨WW,0,none⟩)] w (Ret w (.bool (zfU s cls name x))):=by
 have hP:=hM.peo;obtain⟨B,d,c,p,wl,r,mv,tv,la,co,hC,tH⟩:=id hP;have dg:=zab hC;unfold WldC at hC;obtain⟨-,c1⟩:=cF2 hC;obtain⟨KA,kc,dV,fq,fO⟩:=ziw tH name;obtain⟨yZ,gF⟩:=yH2 (fun W (hB:Below w.heap.size w W)=>zit base b s x name W (hP.keep hB) Mcy) (fun W (hB:Below w.heap.size w W)=>zho base b s name x W (hP.keep hB) Mcy);have aW:(zai s name).length<=100000:=by
  have:(zai s name).length<=s.children.length:=by unfold zai;rw[List.length_map];exact List.length_filter_le _ _
  omega
 have gD:=zHi (fun W (hB:Below w.heap.size w W)=>zll (zai s name) x KA _ kc W rfl aW (fO.keep hB));have cK:∀z,(Instr.lookup 85 (.map (some c)) (.string name) false).run Tryz.prog (w.ext z)=.ok (.slice KA (zai s name).length kc) (w.ext z):=fun z=>dV _ (zaq w z)
 have fM:=zHi dV;obtain⟨_,cn,ud,sE,xF,L7,L6,cG,hwc⟩:=hM;obtain⟨R,hR⟩:∃R,R=zfU s cls name x:=⟨_,rfl⟩
 rw[<-hR];unfold zfU at hR;have HR:=zHi hR;clear hP hC tH dV fO hR;generalize zhD s x name=ma at*;generalize decide (Desc s x name)=de at*;generalize(zai s name).any (zae x)=kd at*;generalize(zai s name).length=kl at*;cases hs:zae x name
 ·have yq:(x.toList==name.toList)=false:=hs;rw[hs]at HR;by_cases h0:cls=0
  ·subst h0;have HX:Hid (R=false):=by show _=_;rw[HR.o];rfl
   exact Mbl
  ·have HX:Hid (R=if ma||de then true else cls != 1&&kd):=by
    show _=_;rw[HR.o];have:(cls==0)=false:=by simpa using h0
    rw[this];rfl
   clear HR;cases ma
   ·cases de
    ·by_cases h1:cls=1
     ·subst h1;have au:Hid (R=false):=by show _=_;rw[HX.o];rfl
      clear HX fM cK;go_enter Tryz.func49,Tryz.ntmps49
      go_upto_region 5 with fail
      (refine zaj Mcz Mcz ?_
       repeat(first|go_big_quiet_skip|(go_big_quiet_want;go_big_quiet_op;first|go_big_quiet_on|(apply Exists.intro;refine⟨fun _=>?_,?_⟩;(first|(go_at_call 50;exact quietx (yZ.o _ Bw))|(go_at_call 51;exact quietx (gF.o _ Bw)));go_big_quiet_on)))
       refine wpQuiet_nil ?_
       rintro _ ⟨zq,rfl⟩)
      go_upto_region 7 with fail
      go_quiet (fail)
      exact May
     ·have au:Hid (R=kd):=by
       show _=_;rw[HX.o];have:(cls != 1)=true:=by simpa using h1
       rw[this];simp
      clear HX;go_enter Tryz.func49,Tryz.ntmps49
      go_upto_region 5 with fail
      (refine zaj Mcz Mcz ?_
       repeat(first|go_big_quiet_skip|(go_big_quiet_want;go_big_quiet_op;first|go_big_quiet_on|(apply Exists.intro;refine⟨fun _=>?_,?_⟩;(first|(go_at_call 50;exact quietx (yZ.o _ Bw))|(go_at_call 51;exact quietx (gF.o _ Bw)));go_big_quiet_on)))
       refine wpQuiet_nil ?_
       rintro _ ⟨zq,rfl⟩)
      go_upto_region 7 with fail
      have KE:∀z,(Instr.lookup 85 (.map (some c)) (.string name) false).run Tryz.prog ((w.ext zq).ext z)=.ok (.slice KA kl kc) ((w.ext zq).ext z):=fun z=>fM.o _ Bw
      have cC:(cls==1)=false:=Mc4;have dW:(cls != 1)=true:=Mc4;have Ac:decide (cls=1)=false:=Mc4
      (refine zaj Mcz Mcz ?_
       repeat(first|go_big_quiet_skip|(go_big_quiet_want;go_big_quiet_op;first|go_big_quiet_on|(apply Exists.intro;refine⟨fun _=>?_,?_⟩;(first|(go_at_call 52;exact zhQ (gD.o _ Bw)));go_big_quiet_on)))
       refine wpQuiet_nil ?_
       rintro _ ⟨zq,rfl⟩)
      exact May
    ·have au:Hid (R=true):=by show _=_;rw[HX.o];rfl
     clear HX fM cK;go_enter Tryz.func49,Tryz.ntmps49
     go_upto_region 5 with fail
     (refine zaj Mcz Mcz ?_
      repeat(first|go_big_quiet_skip|(go_big_quiet_want;go_big_quiet_op;first|go_big_quiet_on|(apply Exists.intro;refine⟨fun _=>?_,?_⟩;(first|(go_at_call 50;exact quietx (yZ.o _ Bw))|(go_at_call 51;exact quietx (gF.o _ Bw)));go_big_quiet_on)))
      refine wpQuiet_nil ?_
      rintro _ ⟨zq,rfl⟩)
     exact May
   ·have au:Hid (R=true):=by show _=_;rw[HX.o];rfl
    clear HX fM cK;go_enter Tryz.func49,Tryz.ntmps49
    go_upto_region 5 with fail
    (refine zaj Mcz Mcz ?_
     repeat(first|go_big_quiet_skip|(go_big_quiet_want;go_big_quiet_op;first|go_big_quiet_on|(apply Exists.intro;refine⟨fun _=>?_,?_⟩;(go_at_call 50;exact quietx (yZ.o _ Bw));go_big_quiet_on)))
     refine wpQuiet_nil ?_
     rintro _ ⟨zq,rfl⟩)
    exact May
 ·have yq:(x.toList==name.toList)=true:=hs;have HX:Hid (R=true):=by show _=_;rw[HR.o,hs];rfl
  exact Mbl
def zkG(N TT WW:Nat):Value:=.func (.func 49) #[] #[.pointer (some ⟨N,0,none⟩),.pointer (some ⟨TT,0,none⟩),.pointer (some ⟨WW,0,none⟩)]
theorem zmZ(base b T N TT WW FB:Nat)(s:St)(cls:Int)(name:ByteArray)(q:RPart)(w:World)(hM:MbAt base w b T N TT WW s cls name)(hFl:FB<w.heap.size)(J5:w.cell? ⟨FB,0,none⟩=some (zkG N TT WW))(ft:s.marriages.length<=1000)(bV:s.children.length<=1000):
 Calls Tryz.prog 75 #[.agg #[.string q.name,.int .i64 q.num,.int .i64 q.den],.pointer (some ⟨FB,0,none⟩)] w (Ret w (.bool (!noB q.name&&zfU s cls name q.name))):=by
 have eg:∀args w,(callFunc 49 args).run Tryz.prog w=.ok (.enter 49 args) w:=enters_of Tryz.func49 Mcz rfl;have AM:=zHi (fun W (hB:Below w.heap.size w W)=>zoe base b T N TT WW s cls name q.name W (hM.keep hB) ft bV);unfold zkG at J5;have hFn:FB≠w.heap.size:=Mcy;clear hM;obtain⟨nm,nu,de⟩:=q;simp only at*;generalize zfU s cls name nm=le at*;cases hn:noB nm
 ·have cC:nm.toList.isEmpty=false:=hn;have dW:¬nm.toList=[]:=by simpa using cC
  go_enter Tryz.func75,Tryz.ntmps75
  go_wp2_with (go_at_fn 49;refine(AM.o _ Bw).mono ?_;rintro e wq ⟨rfl,z,rfl⟩)
  go_ret
  exact Ret.of (zaO McB) Bw
 ·have cC:nm.toList.isEmpty=true:=hn;have dW:nm.toList=[]:=by simpa using cC
  go_enter Tryz.func75,Tryz.ntmps75
  exact Mbq
theorem sl_map{α β:Type}{w:World}{size:Nat}{f:α->List Value}{g:β->List Value}{A:Option Addr}{xs:List α}(h:Sl w size f A xs)(m:α->β)(hm:∀x,g (m x)=f x):Sl w size g A (xs.map m):=fun hl=>by
 obtain⟨b,off,hA,hb,hc⟩:=h (by simpa using hl);refine⟨b,off,hA,hb,fun k x hk j u hu=>?_⟩;rw[List.getElem?_map,Option.map_eq_some_iff]at hk;obtain⟨y,hy,rfl⟩:=hk;rw[hm]at hu;exact hc k y hy j u hu
def toR(p:ByteArray×Rat):RPart:=⟨p.1,p.2.num,p.2.den⟩
noncomputable def entP (s:St) (g:Grave) (name:ByteArray):Bool:=g.holders.any (fun p=>!noB p.1&&zfU s g.cls name p.1)||g.died.any (zfU s g.cls name)
theorem zlU(base b T N TT WW:Nat)(B:List Nat)(s:St)(g:Grave)(name:ByteArray)(w:World)(hM:MbAt base w b T N TT WW s g.cls name)(hT:TombAt w base B T g)(ft:s.marriages.length<=1000)(bV:s.children.length<=1000)(kZ:g.holders.length<=100000)(bu:g.died.length<=100000):
 Calls Tryz.prog 48 #[.pointer (some ⟨T,0,none⟩),zkG N TT WW] w (Ret w (.bool (entP s g name))):=by
 have eg:∀args w,(callFunc 49 args).run Tryz.prog w=.ok (.enter 49 args) w:=enters_of Tryz.func49 Mcz rfl;have eg2:∀args w,(callFunc 75 args).run Tryz.prog w=.ok (.enter 75 args) w:=enters_of Tryz.func75 Mcz rfl;obtain⟨H,aN,D,dc,frm,t1,t2,t3,t4,t5,t6,t7⟩:=hT;have df:=zab t1;unfold zby at t1;obtain⟨-,-,-,-,k4,k5⟩:=cF6 t1;have vZ:Sl w 3 RPart.cells H (g.holders.map toR):=sl_map (Ro.sl zap t5) toR (fun _=>rfl);have Fk:=Ro.sl za9 t6;have wG:∀W,Below w.heap.size w W->w.heap.size<W.heap.size->W.cell? ⟨w.heap.size,0,none⟩=some (zkG N TT WW)->Calls Tryz.prog 74 #[.slice H g.holders.length aN,.func (.func 75) #[] #[.pointer (some ⟨w.heap.size,0,none⟩)]] W (Ret W (.bool ((g.holders.map toR).any fun q=>!noB q.name&&zfU s g.cls name q.name))):=fun W hB hl hc=>by
  refine zcQ 75 _ eg2 _ H _ aN (g.holders.map toR) W McB (by simpa using kZ) (vZ.keep hB) fun x _ W' dD=>?_
  refine(zmZ base b T N TT WW w.heap.size s g.cls name x W' (hM.keep (hB.trans (dD.mono hB.size))) (Nat.lt_of_lt_of_le hl dD.size) ((zah dD hl).trans hc) ft bV).mono ?_;exact MbS
 have wH:∀W,Below w.heap.size w W->Calls Tryz.prog 59 #[.slice D g.died.length dc,zkG N TT WW] W (Ret W (.bool (g.died.any (zfU s g.cls name)))):=fun W hB=>by
  refine zlR 49 _ eg _ D _ dc g.died W rfl bu (Fk.keep hB) fun x _ W' dD=>?_
  refine(zoe base b T N TT WW s g.cls name x W' (hM.keep (hB.trans (dD.mono hB.size))) ft bV).mono ?_;exact MbS
 have he:entP s g name=((g.holders.map toR).any (fun q=>!noB q.name&&zfU s g.cls name q.name)||g.died.any (zfU s g.cls name)):=by
  unfold entP;rw[List.any_map];rfl
 rw[he];generalize(g.holders.map toR).any (fun q=>!noB q.name&&zfU s g.cls name q.name)=b1 at*;generalize g.died.any (zfU s g.cls name)=b2 at*;obtain⟨As,uv⟩:=yH2 wG wH;unfold zkG at As uv;unfold zkG;clear wG wH vZ Fk t1 t5 t6 t7 hM he eg eg2;have Ce:T≠w.heap.size:=Mcy;cases b1
 ·go_enter Tryz.func48,Tryz.ntmps48
  go_upto_region 1 with fail
  (refine zaj Mcz Mcz ?_
   repeat(first|go_big_quiet_skip|(go_big_quiet_want;go_big_quiet_op;first|go_big_quiet_on|(apply Exists.intro;refine⟨fun _=>?_,?_⟩;(first|(go_at_call 74;exact quietx (As.o _ Bw McH Mc3))|(go_at_call 59;exact quietx (uv.o _ Bw)));go_big_quiet_on)))
   refine wpQuiet_nil ?_
   rintro _ ⟨zq,rfl⟩)
  exact Mbq
 ·go_enter Tryz.func48,Tryz.ntmps48
  go_upto_region 1 with fail
  (refine zaj Mcz Mcz ?_
   repeat(first|go_big_quiet_skip|(go_big_quiet_want;go_big_quiet_op;first|go_big_quiet_on|(apply Exists.intro;refine⟨fun _=>?_,?_⟩;((go_at_call 74;exact quietx (As.o _ Bw McH Mc3)));go_big_quiet_on)))
   refine wpQuiet_nil ?_
   rintro _ ⟨zq,rfl⟩)
  exact Mbq
noncomputable def zf6 (laws:List Law) (ds:List Deed) (place name:ByteArray) (day:Int):Bool×Int:=
 if zc1 laws ds [place,name] day != 0 then(false,zc1 laws ds [place,name] day)else match zaR (zaL laws ds day).1 place day with
  |none=>(false,12)
  |some i=>(((zaL laws ds day).1.graves.getD i zga).cls==4||entP (zaL laws ds day).1 ((zaL laws ds day).1.graves.getD i zga) name,0)
theorem zf7{W:World}{a o:Nat}{v:Value}(h:W.cell? ⟨a,o,none⟩=some v):a<W.heap.size:=by
 unfold World.cell? at h;cases hh:W.heap[a]? with
 |none=>simp[hh]at h
 |some x=>exact zab hh
theorem zna(laws:List Law)(ds:List Deed)(place name:ByteArray)(day:Int)(LA:Option Addr)(n nc:Nat)(DA:Option Addr)(m mc:Nat)(w:World)(hR:RightsIn w laws ds LA n nc DA m mc)(hF:FormsIn w)(hL:LensIn w)(hO:∀d∈ds,zdt d)(hp:place.size<=100000)(hn:name.size<=100000):
 Calls Tryz.prog 24 #[.agg #[.slice LA n nc,.slice DA m mc],.string place,.string name,.int .i64 day] w (Ret w (.tuple #[.bool (zf6 laws ds place name day).1,.int .i64 (zf6 laws ds place name day).2])):=by
 have aH:=fun W (hB:Below w.heap.size w W) NA (hS:Sl W 1 sC NA [name])=>zlT laws ds place [name] day LA n nc DA m mc NA 1 1 W (hR.keep hB) (hF.keep hB) (hL.keep hB) hO hp rfl McB (by simpa using hn) hS
 have bW:=zHi aH;clear aH hR hF hL hO hp hn;unfold zfT at bW;obtain⟨R,hR⟩:∃R,R=zf6 laws ds place name day:=⟨_,rfl⟩
 rw[<-hR];unfold zf6 at hR;generalize zc1 laws ds [place,name] day=E at*;generalize(zaL laws ds day).1=s at*;have HR:=zHi hR;clear hR;by_cases h0:E=0
 ·have HE:=zHi h0;cases aU:zaR s place day with
  |none=>
   have HX:Hid (R=(false,12)):=by show _=_;rw[HR.o,aU,if_neg (by simp[h0])]
   have kK:=zHi aU;clear HR aU h0;go_enter Tryz.func24,Tryz.ntmps24
   go_wp2_with (go_at_call 47
                go_must(refine(bW.o _ Bw _ (zcl (zar _ _ _ McB))).mono ?_)
                rintro e wq ⟨h1,⟨ai,_⟩|⟨_,_,rfl⟩|⟨_,base,b,la,co,B,T,i,g,hi,_⟩⟩
                ·exact absurd HE.o ai
                rotate_left 1
                ·rw[kK.o]at hi;cases hi
                go_must(have hm:=(show Below w.heap.size _ wq from h1.mono Md9))
                go_must(have cE:Below w.heap.size w wq:=Below.trans Bw hm)
                have fK:=zHi cE
                clear h1 hm cE)
   exact MbM
  |some i=>
   have kK:=zHi aU;have hX:R=((s.graves.getD i zga).cls==4||entP s (s.graves.getD i zga) name,0):=by rw[HR.o,aU,if_neg (by simp[h0])]
   obtain⟨g,aO,-,-⟩:=zce aU;rw[zfv aO]at hX;obtain⟨HX,yN⟩:=yH2 hX aO;clear HR aU h0 hX aO;go_enter Tryz.func24,Tryz.ntmps24
   go_upto_region 2 with
    (go_at_call 47
     go_must(refine(bW.o _ Bw _ (zcl (zar _ _ _ McB))).mono ?_)
     rintro e wq ⟨h1,⟨ai,_⟩|⟨_,hi,_⟩|⟨_,base,b,la,co,B,T,i',g',hi,fB,rfl,h2,h3,h4,h5,h6⟩⟩;go_must(·exact absurd HE.o ai)
     go_must(·rw[kK.o]at hi;cases hi)
     go_must(have hm:=(show Below w.heap.size _ wq from h1.mono Md9))
     go_must(have cE:Below w.heap.size w wq:=Below.trans Bw hm)
     go_must(have Fd:=(h1.cell (p:=⟨w.heap.size+1,0,none⟩) (by simp<;>omega)).trans (show _=some (Value.string name) from by simp[go_sem]))
     go_must(have bf:g'=g:=(by rw[kK.o]at hi;cases hi;rw[yN.o]at fB;exact(Option.some.inj fB).symm))
     go_must(subst bf)
     obtain⟨qB,fK⟩:=yH2 Fd cE;have ya:=cE.size;obtain⟨H3,H4,H6⟩:=yH3 h3 h4 h6
     clear h1 hm cE Fd h2 h3 h4 h5 h6 hi fB)
   have gR:=H4.o;obtain⟨H,aN,D,dc,frm,t1,t2,t3,t4,t5,t6,t7⟩:=H4.o;have df:=zab t1;unfold zby at t1;obtain⟨-,k1⟩:=cF2 t1;obtain⟨k,eW,bR⟩:=H6.o;have kZ:=bR.held g' (List.mem_of_getElem? yN.o);have ft:=bR.marr;have bV:=bR.kids;have bm:=H3.o.lt;have sE:w.heap.size+1<wq.heap.size:=zf7 qB.o;have CE:∀W,Below wq.heap.size wq W->W.cell? ⟨wq.heap.size,0,none⟩=some (.pointer (some ⟨b,0,none⟩))->W.cell? ⟨wq.heap.size+1,0,none⟩=some (.pointer (some ⟨T,0,none⟩))->Calls Tryz.prog 48 #[.pointer (some ⟨T,0,none⟩),zkG (w.heap.size+1) (wq.heap.size+1) wq.heap.size] W (Ret W (.bool (entP s g' name))):=fun W hB e1 e2=>
    zlU base b T (w.heap.size+1) (wq.heap.size+1) wq.heap.size B s g' name W ⟨H3.o.peo.keep hB,Nat.lt_of_lt_of_le df hB.size,(zah hB df).trans k1,Nat.lt_of_lt_of_le sE hB.size,(zah hB sE).trans qB.o,zf7 e2,e2,zf7 e1,e1⟩ (gR.keep hB) Mcy Mcy Mcy Mcy
   have DT:=zHi CE;unfold zkG at DT;have En:=zHi df;have Ce:T≠wq.heap.size:=Mcy;have JG:T≠wq.heap.size+1:=Mcy;generalize entP s g' name=ep at*;clear CE gR t1 t2 t3 t4 t5 t6 t7 kZ ft bV bR bm;by_cases h4:g'.cls=4
   ·have au:Hid (R=(true,0)):=by show _=_;rw[HX.o,h4];rfl
    rw[h4]at k1;go_wp2_with fail
    go_ret2
    rw[au.o];have cE:=fK.o;exact Ret.of rfl Bw
   ·have au:Hid (R=(ep,0)):=by
     show _=_;rw[HX.o,show(g'.cls==4)=false by simpa using h4];rfl
    go_wp2_with (go_at_call 48;go_must(refine(DT.o _ Bw Mc3 Mc3).mono ?_);rintro e wz ⟨rfl,z,rfl⟩)
    go_ret2
    rw[au.o];have cE:=fK.o;exact Ret.of rfl Bw
 ·have HX:Hid (R=(false,E)):=by show _=_;rw[HR.o,if_pos MdC]
  have HE:=zHi h0;clear HR h0;go_enter Tryz.func24,Tryz.ntmps24
  go_wp2_with (go_at_call 47
               go_must(refine(bW.o _ Bw _ (zcl (zar _ _ _ McB))).mono ?_)
               rintro e wq ⟨h1,⟨_,rfl⟩|⟨he,_⟩|⟨he,_⟩⟩;rotate_left 1
               ·exact absurd he HE.o
               ·exact absurd he HE.o
               go_must(have hm:=(show Below w.heap.size _ wq from h1.mono Md9))
               go_must(have cE:Below w.heap.size w wq:=Below.trans Bw hm)
               have fK:=zHi cE
               clear h1 hm cE)
  exact MbM
