import Derived.Test.YtegdimedhfafjaaGreatDoorEE
set_option linter.all false
set_option maxRecDepth 100000
set_option maxHeartbeats 4000000
namespace Go.Proofs.YtegdimedhfafjaaGreatDoor
open Go.RowKit Go.Shelf
attribute [local go_sem] World.cell?_alloc_mark zaf za5 zao za8 zav zaw zax zay zaz za0 za1
attribute [local go_sem] zaq zad
open Classical in
noncomputable def zgc (s:St) (cls:Int) (name x:ByteArray):Bool:=
 if zae x name then true else if cls==0 then false else if zhH s x name||decide (Desc s x name)then true else cls != 1&&(zai s name).any (zae x)
structure MbAt (base:Nat) (W:World) (b T N TT WW:Nat) (s:St) (cls:Int) (name:ByteArray):Prop where
 peo:PeoAt base W b s
 tl:T<W.heap.size
 tc:W.cell? ⟨T,1,none⟩=some (.int .i64 cls)
 nl:N<W.heap.size
 nc:W.cell? ⟨N,0,none⟩=some (.string name)
 ttl:TT<W.heap.size
 ttc:W.cell? ⟨TT,0,none⟩=some (.pointer (some ⟨T,0,none⟩))
 wl:WW<W.heap.size
 wc:W.cell? ⟨WW,0,none⟩=some (.pointer (some ⟨b,0,none⟩))
theorem MbAt.keep{base:Nat}{W W':World}{b T N TT WW:Nat}{s:St}{cls:Int}{name:ByteArray}(h:MbAt base W b T N TT WW s cls name)(hB:Below W.heap.size W W'):MbAt base W' b T N TT WW s cls name:=
 ⟨h.peo.keep hB,Nat.lt_of_lt_of_le h.tl hB.size,(zah hB h.tl).trans h.tc,Nat.lt_of_lt_of_le h.nl hB.size,(zah hB h.nl).trans h.nc,Nat.lt_of_lt_of_le h.ttl hB.size,(zah hB h.ttl).trans h.ttc,Nat.lt_of_lt_of_le h.wl hB.size,(zah hB h.wl).trans h.wc⟩
open Classical in
theorem zoi(base b T N TT WW:Nat)(s:St)(cls:Int)(name x:ByteArray)(w:World)(hM:MbAt base w b T N TT WW s cls name)(fI:s.marriages.length<=1000)(bV:s.children.length<=1000):
 Calls Tryz.prog 34 #[.string x,.pointer (some ⟨N,0,none⟩),.pointer (some ⟨TT,0,none⟩),.pointer (some ⟨WW,0,none⟩)] w (Ret w (.bool (zgc s cls name x))):=by
 have hP:=hM.peo;obtain⟨B,d,c,p,wl,r,mv,tv,la,co,hC,tR⟩:=id hP;have cu:=zab hC;unfold WldC at hC;obtain⟨-,c1⟩:=cF2 hC;obtain⟨KA,kc,fq,fD,iq⟩:=ziz tR name;obtain⟨zv,fB⟩:=yH2 (fun W (hB:Below w.heap.size w W)=>ziv base b s x name W (hP.keep hB) Mcm) (fun W (hB:Below w.heap.size w W)=>zhu base b s name x W (hP.keep hB) Mcm);have bk:(zai s name).length<=100000:=by
  have:(zai s name).length<=s.children.length:=by unfold zai;rw[List.length_map];exact List.length_filter_le _ _
  omega
 have ka:=zHi (fun W (hB:Below w.heap.size w W)=>zll (zai s name) x KA _ kc W rfl bk (iq.keep hB));have dl:∀z,(Instr.lookup 90 (.map (some c)) (.string name) false).run Tryz.prog (w.ext z)=.ok (.slice KA (zai s name).length kc) (w.ext z):=fun z=>fq _ (zap w z)
 have ij:=zHi fq;obtain⟨_,cL,ur,q8,xS,Lz,Ly,bW,hwc⟩:=hM;obtain⟨R,hR⟩:∃R,R=zgc s cls name x:=⟨_,rfl⟩
 rw[<-hR];unfold zgc at hR;have HR:=zHi hR;clear hP hC tR fq iq hR;generalize zhH s x name=ma at*;generalize decide (Desc s x name)=de at*;generalize(zai s name).any (zae x)=kd at*;generalize(zai s name).length=kl at*;cases hs:zae x name
 ·have yF:(x.toList==name.toList)=false:=hs;rw[hs]at HR;by_cases h0:cls=0
  ·subst h0;have HX:Hid (R=false):=by show _=_;rw[HR.o];rfl
   exact Mbf
  ·have HX:Hid (R=if ma||de then true else cls != 1&&kd):=by
    show _=_;rw[HR.o];have:(cls==0)=false:=by simpa using h0
    rw[this];rfl
   clear HR;cases ma
   ·cases de
    ·by_cases h1:cls=1
     ·subst h1;have av:Hid (R=false):=by show _=_;rw[HX.o];rfl
      clear HX ij dl;go_enter Tryz.func34,Tryz.ntmps34
      go_upto_region 5 with fail
      (refine zaj Mcn Mcn ?_
       repeat(first|go_big_quiet_skip|(go_big_quiet_want;go_big_quiet_op;first|go_big_quiet_on|(apply Exists.intro;refine⟨fun _=>?_,?_⟩;(first|(go_at_call 35;exact quietx (zv.o _ Bw))|(go_at_call 36;exact quietx (fB.o _ Bw)));go_big_quiet_on)))
       refine wpQuiet_nil ?_
       rintro _ ⟨zq,rfl⟩)
      go_upto_region 7 with fail
      go_quiet (fail)
      exact MaD
     ·have av:Hid (R=kd):=by
       show _=_;rw[HX.o];have:(cls != 1)=true:=by simpa using h1
       rw[this];simp
      clear HX;go_enter Tryz.func34,Tryz.ntmps34
      go_upto_region 5 with fail
      (refine zaj Mcn Mcn ?_
       repeat(first|go_big_quiet_skip|(go_big_quiet_want;go_big_quiet_op;first|go_big_quiet_on|(apply Exists.intro;refine⟨fun _=>?_,?_⟩;(first|(go_at_call 35;exact quietx (zv.o _ Bw))|(go_at_call 36;exact quietx (fB.o _ Bw)));go_big_quiet_on)))
       refine wpQuiet_nil ?_
       rintro _ ⟨zq,rfl⟩)
      go_upto_region 7 with fail
      have L7:∀z,(Instr.lookup 90 (.map (some c)) (.string name) false).run Tryz.prog ((w.ext zq).ext z)=.ok (.slice KA kl kc) ((w.ext zq).ext z):=fun z=>ij.o _ Bw
      have cA:(cls==1)=false:=McP;have dW:(cls != 1)=true:=McP;have Az:decide (cls=1)=false:=McP
      (refine zaj Mcn Mcn ?_
       repeat(first|go_big_quiet_skip|(go_big_quiet_want;go_big_quiet_op;first|go_big_quiet_on|(apply Exists.intro;refine⟨fun _=>?_,?_⟩;(first|(go_at_call 37;exact zhU (ka.o _ Bw)));go_big_quiet_on)))
       refine wpQuiet_nil ?_
       rintro _ ⟨zq,rfl⟩)
      exact MaD
    ·have av:Hid (R=true):=by show _=_;rw[HX.o];rfl
     clear HX ij dl;go_enter Tryz.func34,Tryz.ntmps34
     go_upto_region 5 with fail
     (refine zaj Mcn Mcn ?_
      repeat(first|go_big_quiet_skip|(go_big_quiet_want;go_big_quiet_op;first|go_big_quiet_on|(apply Exists.intro;refine⟨fun _=>?_,?_⟩;(first|(go_at_call 35;exact quietx (zv.o _ Bw))|(go_at_call 36;exact quietx (fB.o _ Bw)));go_big_quiet_on)))
      refine wpQuiet_nil ?_
      rintro _ ⟨zq,rfl⟩)
     exact MaD
   ·have av:Hid (R=true):=by show _=_;rw[HX.o];rfl
    clear HX ij dl;go_enter Tryz.func34,Tryz.ntmps34
    go_upto_region 5 with fail
    (refine zaj Mcn Mcn ?_
     repeat(first|go_big_quiet_skip|(go_big_quiet_want;go_big_quiet_op;first|go_big_quiet_on|(apply Exists.intro;refine⟨fun _=>?_,?_⟩;(go_at_call 35;exact quietx (zv.o _ Bw));go_big_quiet_on)))
     refine wpQuiet_nil ?_
     rintro _ ⟨zq,rfl⟩)
    exact MaD
 ·have yF:(x.toList==name.toList)=true:=hs;have HX:Hid (R=true):=by show _=_;rw[HR.o,hs];rfl
  exact Mbf
def zkK(N TT WW:Nat):Value:=.func (.func 34) #[] #[.pointer (some ⟨N,0,none⟩),.pointer (some ⟨TT,0,none⟩),.pointer (some ⟨WW,0,none⟩)]
theorem zne(base b T N TT WW FB:Nat)(s:St)(cls:Int)(name:ByteArray)(q:RPart)(w:World)(hM:MbAt base w b T N TT WW s cls name)(hFl:FB<w.heap.size)(Jv:w.cell? ⟨FB,0,none⟩=some (zkK N TT WW))(fI:s.marriages.length<=1000)(bV:s.children.length<=1000):
 Calls Tryz.prog 68 #[.agg #[.string q.name,.int .i64 q.num,.int .i64 q.den],.pointer (some ⟨FB,0,none⟩)] w (Ret w (.bool (!noB q.name&&zgc s cls name q.name))):=by
 have eg:∀args w,(callFunc 34 args).run Tryz.prog w=.ok (.enter 34 args) w:=enters_of Tryz.func34 Mcn rfl;have vf:=zHi (fun W (hB:Below w.heap.size w W)=>zoi base b T N TT WW s cls name q.name W (hM.keep hB) fI bV);unfold zkK at Jv;have hFn:FB≠w.heap.size:=Mcm;clear hM;obtain⟨nm,nu,de⟩:=q;simp only at*;generalize zgc s cls name nm=le at*;cases hn:noB nm
 ·have cA:nm.toList.isEmpty=false:=hn;have dW:¬nm.toList=[]:=by simpa using cA
  go_enter Tryz.func68,Tryz.ntmps68
  go_wp2_with (go_at_fn 34;refine(vf.o _ Bw).mono ?_;rintro e wq ⟨rfl,z,rfl⟩)
  go_ret
  exact Ret.of (zaO Mcp) Bw
 ·have cA:nm.toList.isEmpty=true:=hn;have dW:nm.toList=[]:=by simpa using cA
  go_enter Tryz.func68,Tryz.ntmps68
  exact Mbj
theorem sl_map{α β:Type}{w:World}{size:Nat}{f:α->List Value}{g:β->List Value}{A:Option Addr}{xs:List α}(h:Sl w size f A xs)(m:α->β)(hm:∀x,g (m x)=f x):Sl w size g A (xs.map m):=fun hl=>by
 obtain⟨b,off,hA,hb,hc⟩:=h (by simpa using hl);refine⟨b,off,hA,hb,fun k x hk j u hu=>?_⟩;rw[List.getElem?_map,Option.map_eq_some_iff]at hk;obtain⟨y,hy,rfl⟩:=hk;rw[hm]at hu;exact hc k y hy j u hu
def toR(p:ByteArray×Rat):RPart:=⟨p.1,p.2.num,p.2.den⟩
noncomputable def entP (s:St) (g:Grave) (name:ByteArray):Bool:=g.holders.any (fun p=>!noB p.1&&zgc s g.cls name p.1)||g.died.any (zgc s g.cls name)
theorem zlV(base b T N TT WW:Nat)(B:List Nat)(s:St)(g:Grave)(name:ByteArray)(w:World)(hM:MbAt base w b T N TT WW s g.cls name)(hT:TombAt w base B T g)(fI:s.marriages.length<=1000)(bV:s.children.length<=1000)(kV:g.holders.length<=100000)(bA:g.died.length<=100000):
 Calls Tryz.prog 33 #[.pointer (some ⟨T,0,none⟩),zkK N TT WW] w (Ret w (.bool (entP s g name))):=by
 have eg:∀args w,(callFunc 34 args).run Tryz.prog w=.ok (.enter 34 args) w:=enters_of Tryz.func34 Mcn rfl;have eg2:∀args w,(callFunc 68 args).run Tryz.prog w=.ok (.enter 68 args) w:=enters_of Tryz.func68 Mcn rfl;obtain⟨H,aJ,D,dc,frm,t1,t2,t3,t4,t5,t6,t7⟩:=hT;have cV:=zab t1;unfold zbz at t1;obtain⟨-,-,-,-,k4,k5⟩:=cF6 t1;have nB:Sl w 3 RPart.cells H (g.holders.map toR):=sl_map (Ro.sl zan t5) toR (fun _=>rfl);have wy:=Ro.sl zaD t6;have wV:∀W,Below w.heap.size w W->w.heap.size<W.heap.size->W.cell? ⟨w.heap.size,0,none⟩=some (zkK N TT WW)->Calls Tryz.prog 48 #[.slice H g.holders.length aJ,.func (.func 68) #[] #[.pointer (some ⟨w.heap.size,0,none⟩)]] W (Ret W (.bool ((g.holders.map toR).any fun q=>!noB q.name&&zgc s g.cls name q.name))):=fun W hB hl hc=>by
  refine zcJ 68 _ eg2 _ H _ aJ (g.holders.map toR) W Mcp (by simpa using kV) (nB.keep hB) fun x _ W' f9=>?_
  refine(zne base b T N TT WW w.heap.size s g.cls name x W' (hM.keep (hB.trans (f9.mono hB.size))) (Nat.lt_of_lt_of_le hl f9.size) ((zah f9 hl).trans hc) fI bV).mono ?_;exact MbH
 have wW:∀W,Below w.heap.size w W->Calls Tryz.prog 65 #[.slice D g.died.length dc,zkK N TT WW] W (Ret W (.bool (g.died.any (zgc s g.cls name)))):=fun W hB=>by
  refine zlT 34 _ eg _ D _ dc g.died W rfl bA (wy.keep hB) fun x _ W' f9=>?_
  refine(zoi base b T N TT WW s g.cls name x W' (hM.keep (hB.trans (f9.mono hB.size))) fI bV).mono ?_;exact MbH
 have he:entP s g name=((g.holders.map toR).any (fun q=>!noB q.name&&zgc s g.cls name q.name)||g.died.any (zgc s g.cls name)):=by
  unfold entP;rw[List.any_map];rfl
 rw[he];generalize(g.holders.map toR).any (fun q=>!noB q.name&&zgc s g.cls name q.name)=b1 at*;generalize g.died.any (zgc s g.cls name)=b2 at*;obtain⟨AT,uF⟩:=yH2 wV wW;unfold zkK at AT uF;unfold zkK;clear wV wW nB wy t1 t5 t6 t7 hM he eg eg2;have CJ:T≠w.heap.size:=Mcm;cases b1
 ·go_enter Tryz.func33,Tryz.ntmps33
  go_upto_region 1 with fail
  (refine zaj Mcn Mcn ?_
   repeat(first|go_big_quiet_skip|(go_big_quiet_want;go_big_quiet_op;first|go_big_quiet_on|(apply Exists.intro;refine⟨fun _=>?_,?_⟩;(first|(go_at_call 48;exact quietx (AT.o _ Bw Mcv McR))|(go_at_call 65;exact quietx (uF.o _ Bw)));go_big_quiet_on)))
   refine wpQuiet_nil ?_
   rintro _ ⟨zq,rfl⟩)
  exact Mbj
 ·go_enter Tryz.func33,Tryz.ntmps33
  go_upto_region 1 with fail
  (refine zaj Mcn Mcn ?_
   repeat(first|go_big_quiet_skip|(go_big_quiet_want;go_big_quiet_op;first|go_big_quiet_on|(apply Exists.intro;refine⟨fun _=>?_,?_⟩;((go_at_call 48;exact quietx (AT.o _ Bw Mcv McR)));go_big_quiet_on)))
   refine wpQuiet_nil ?_
   rintro _ ⟨zq,rfl⟩)
  exact Mbj
noncomputable def zfE (laws:List Law) (ds:List Deed) (place name:ByteArray) (day:Int):Bool×Int:=
 if zeK laws ds [place,name] day != 0 then(false,zeK laws ds [place,name] day)else match zaP (zaQ laws ds day).1 place day with
  |none=>(false,12)
  |some i=>(((zaQ laws ds day).1.graves.getD i zgl).cls==4||entP (zaQ laws ds day).1 ((zaQ laws ds day).1.graves.getD i zgl) name,0)
theorem zfF{W:World}{a o:Nat}{v:Value}(h:W.cell? ⟨a,o,none⟩=some v):a<W.heap.size:=by
 unfold World.cell? at h;cases hh:W.heap[a]? with
 |none=>simp[hh]at h
 |some x=>exact zab hh
theorem znf(laws:List Law)(ds:List Deed)(place name:ByteArray)(day:Int)(LA:Option Addr)(n nc:Nat)(DA:Option Addr)(m mc:Nat)(w:World)(hR:RightsIn w laws ds LA n nc DA m mc)(hF:FormsIn w)(hL:LensIn w)(hO:∀d∈ds,zdt d)(hp:place.size<=100000)(hn:name.size<=100000):
 Calls Tryz.prog 15 #[.agg #[.slice LA n nc,.slice DA m mc],.string place,.string name,.int .i64 day] w (Ret w (.tuple #[.bool (zfE laws ds place name day).1,.int .i64 (zfE laws ds place name day).2])):=by
 have aQ:=fun W (hB:Below w.heap.size w W) NA (hS:Sl W 1 sC NA [name])=>zlU laws ds place [name] day LA n nc DA m mc NA 1 1 W (hR.keep hB) (hF.keep hB) (hL.keep hB) hO hp rfl Mcp (by simpa using hn) hS
 have bX:=zHi aQ;clear aQ hR hF hL hO hp hn;unfold zgb at bX;obtain⟨R,hR⟩:∃R,R=zfE laws ds place name day:=⟨_,rfl⟩
 rw[<-hR];unfold zfE at hR;generalize zeK laws ds [place,name] day=E at*;generalize(zaQ laws ds day).1=s at*;have HR:=zHi hR;clear hR;by_cases h0:E=0
 ·have HE:=zHi h0;cases aX:zaP s place day with
  |none=>
   have HX:Hid (R=(false,12)):=by show _=_;rw[HR.o,aX,if_neg (by simp[h0])]
   have kI:=zHi aX;clear HR aX h0;go_enter Tryz.func15,Tryz.ntmps15
   go_wp2_with (go_at_call 32
                go_must(refine(bX.o _ Bw _ (zd4 (zas _ _ _ Mcp))).mono ?_)
                rintro e wq ⟨h1,⟨ai,_⟩|⟨_,_,rfl⟩|⟨_,base,b,la,co,B,T,i,g,hi,_⟩⟩
                ·exact absurd HE.o ai
                rotate_left 1
                ·rw[kI.o]at hi;cases hi
                go_must(have hm:=(show Below w.heap.size _ wq from h1.mono Md6))
                go_must(have cP:Below w.heap.size w wq:=Below.trans Bw hm)
                have ie:=zHi cP
                clear h1 hm cP)
   exact MbB
  |some i=>
   have kI:=zHi aX;have hX:R=((s.graves.getD i zgl).cls==4||entP s (s.graves.getD i zgl) name,0):=by rw[HR.o,aX,if_neg (by simp[h0])]
   obtain⟨g,aT,-,-⟩:=zcf aX;rw[zf2 aT]at hX;obtain⟨HX,zj⟩:=yH2 hX aT;clear HR aX h0 hX aT;go_enter Tryz.func15,Tryz.ntmps15
   go_upto_region 2 with
    (go_at_call 32
     go_must(refine(bX.o _ Bw _ (zd4 (zas _ _ _ Mcp))).mono ?_)
     rintro e wq ⟨h1,⟨ai,_⟩|⟨_,hi,_⟩|⟨_,base,b,la,co,B,T,i',g',hi,fC,rfl,h2,h3,h4,h5,h6⟩⟩;go_must(·exact absurd HE.o ai)
     go_must(·rw[kI.o]at hi;cases hi)
     go_must(have hm:=(show Below w.heap.size _ wq from h1.mono Md6))
     go_must(have cP:Below w.heap.size w wq:=Below.trans Bw hm)
     go_must(have FC:=(h1.cell (p:=⟨w.heap.size+1,0,none⟩) (by simp<;>omega)).trans (show _=some (Value.string name) from by simp[go_sem]))
     go_must(have bf:g'=g:=(by rw[kI.o]at hi;cases hi;rw[zj.o]at fC;exact(Option.some.inj fC).symm))
     go_must(subst bf)
     obtain⟨qP,ie⟩:=yH2 FC cP;have sR:=cP.size;obtain⟨H3,H4,H6⟩:=yH3 h3 h4 h6
     clear h1 hm cP FC h2 h3 h4 h5 h6 hi fC)
   have gX:=H4.o;obtain⟨H,aJ,D,dc,frm,t1,t2,t3,t4,t5,t6,t7⟩:=H4.o;have cV:=zab t1;unfold zbz at t1;obtain⟨-,k1⟩:=cF2 t1;obtain⟨k,fm,eh⟩:=H6.o;have kV:=eh.held g' (List.mem_of_getElem? zj.o);have fI:=eh.marr;have bV:=eh.kids;have be:=H3.o.lt;have q8:w.heap.size+1<wq.heap.size:=zfF qP.o;have Di:∀W,Below wq.heap.size wq W->W.cell? ⟨wq.heap.size,0,none⟩=some (.pointer (some ⟨b,0,none⟩))->W.cell? ⟨wq.heap.size+1,0,none⟩=some (.pointer (some ⟨T,0,none⟩))->Calls Tryz.prog 33 #[.pointer (some ⟨T,0,none⟩),zkK (w.heap.size+1) (wq.heap.size+1) wq.heap.size] W (Ret W (.bool (entP s g' name))):=fun W hB e1 e2=>
    zlV base b T (w.heap.size+1) (wq.heap.size+1) wq.heap.size B s g' name W ⟨H3.o.peo.keep hB,Nat.lt_of_lt_of_le cV hB.size,(zah hB cV).trans k1,Nat.lt_of_lt_of_le q8 hB.size,(zah hB q8).trans qP.o,zfF e2,e2,zfF e1,e1⟩ (gX.keep hB) Mcm Mcm Mcm Mcm
   have Er:=zHi Di;unfold zkK at Er;have EV:=zHi cV;have CJ:T≠wq.heap.size:=Mcm;have K6:T≠wq.heap.size+1:=Mcm;generalize entP s g' name=ep at*;clear Di gX t1 t2 t3 t4 t5 t6 t7 kV fI bV eh be;by_cases h4:g'.cls=4
   ·have av:Hid (R=(true,0)):=by show _=_;rw[HX.o,h4];rfl
    rw[h4]at k1;go_wp2_with fail
    go_ret2
    rw[av.o];have cP:=ie.o;exact Ret.of rfl Bw
   ·have av:Hid (R=(ep,0)):=by
     show _=_;rw[HX.o,show(g'.cls==4)=false by simpa using h4];rfl
    go_wp2_with (go_at_call 33;go_must(refine(Er.o _ Bw McR McR).mono ?_);rintro e wz ⟨rfl,z,rfl⟩)
    go_ret2
    rw[av.o];have cP:=ie.o;exact Ret.of rfl Bw
 ·have HX:Hid (R=(false,E)):=by show _=_;rw[HR.o,if_pos Mdg]
  have HE:=zHi h0;clear HR h0;go_enter Tryz.func15,Tryz.ntmps15
  go_wp2_with (go_at_call 32
               go_must(refine(bX.o _ Bw _ (zd4 (zas _ _ _ Mcp))).mono ?_)
               rintro e wq ⟨h1,⟨_,rfl⟩|⟨he,_⟩|⟨he,_⟩⟩;rotate_left 1
               ·exact absurd he HE.o
               ·exact absurd he HE.o
               go_must(have hm:=(show Below w.heap.size _ wq from h1.mono Md6))
               go_must(have cP:Below w.heap.size w wq:=Below.trans Bw hm)
               have ie:=zHi cP
               clear h1 hm cP)
  exact MbB
