import Derived.Test.YthhgkjfgpkbliaaGreatDoorEE
set_option linter.all false
set_option maxRecDepth 100000
set_option maxHeartbeats 4000000
namespace Go.Proofs.YthhgkjfgpkbliaaGreatDoor
open Go.RowKit Go.Shelf
attribute [local go_sem] World.cell?_alloc_mark zae zav zai zaw zam zan zao zap zaq zar zas
attribute [local go_sem] zah zac
open Classical in
noncomputable def zeU (s:St) (cls:Int) (name x:ByteArray):Bool:=
 if zag x name then true else if cls==0 then false else if zgy s x name||decide (Desc s x name)then true else cls != 1&&(zaf s name).any (zag x)
structure MbAt (base:Nat) (W:World) (b T N TT WW:Nat) (s:St) (cls:Int) (name:ByteArray):Prop where
 peo:PeoAt base W b s
 tl:T<W.heap.size
 tc:W.cell? ⟨T,1,none⟩=some (.int .i64 cls)
 nl:N<W.heap.size
 nc:W.cell? ⟨N,0,none⟩=some (.string name)
 ttl:TT<W.heap.size
 ttc:W.cell? ⟨TT,0,none⟩=some (.pointer (some ⟨T,0,none⟩))
 wl:WW<W.heap.size
 wc:W.cell? ⟨WW,0,none⟩=some (.pointer (some ⟨b,0,none⟩))
theorem MbAt.keep{base:Nat}{W W':World}{b T N TT WW:Nat}{s:St}{cls:Int}{name:ByteArray}(h:MbAt base W b T N TT WW s cls name)(hB:Below W.heap.size W W'):MbAt base W' b T N TT WW s cls name:=
 ⟨h.peo.keep hB,Nat.lt_of_lt_of_le h.tl hB.size,(za4 hB h.tl).trans h.tc,Nat.lt_of_lt_of_le h.nl hB.size,(za4 hB h.nl).trans h.nc,Nat.lt_of_lt_of_le h.ttl hB.size,(za4 hB h.ttl).trans h.ttc,Nat.lt_of_lt_of_le h.wl hB.size,(za4 hB h.wl).trans h.wc⟩
open Classical in
theorem zlS(base b T N TT WW:Nat)(s:St)(cls:Int)(name x:ByteArray)(w:World)(hM:MbAt base w b T N TT WW s cls name)(fE:s.marriages.length<=1000)(bR:s.children.length<=1000):
 Calls Tryz.prog 63 #[.string x,.pointer (some ⟨N,0,none⟩),.pointer (some ⟨TT,0,none⟩),.pointer (some ⟨WW,0,none⟩)] w (Ret w (.bool (zeU s cls name x))):=by
 have hP:=hM.peo;obtain⟨B,d,c,p,wl,r,mv,tv,la,co,hC,nG⟩:=id hP;have bu:=zad hC;unfold WldC at hC;obtain⟨-,c1⟩:=cF2 hC;obtain⟨KA,kc,cn,eV,ia⟩:=zhk nG name;obtain⟨sd,gE⟩:=yH2 (fun W (hB:Below w.heap.size w W)=>zhc base b s x name W (hP.keep hB) MbC) (fun W (hB:Below w.heap.size w W)=>zge base b s name x W (hP.keep hB) MbC);have aA:(zaf s name).length<=100000:=by
  have:(zaf s name).length<=s.children.length:=by unfold zaf;rw[List.length_map];exact List.length_filter_le _ _
  omega
 have fh:=zHi (fun W (hB:Below w.heap.size w W)=>zju (zaf s name) x KA _ kc W rfl aA (ia.keep hB));have bK:∀z,(Instr.lookup 104 (.map (some c)) (.string name) false).run Tryz.prog (w.ext z)=.ok (.slice KA (zaf s name).length kc) (w.ext z):=fun z=>cn _ (za5 w z)
 have dZ:=zHi cn;obtain⟨_,bG,D6,nU,qP,Da,D9,cP,hwc⟩:=hM;obtain⟨R,hR⟩:∃R,R=zeU s cls name x:=⟨_,rfl⟩
 rw[<-hR];unfold zeU at hR;have HR:=zHi hR;clear hP hC nG cn ia hR;generalize zgy s x name=ma at*;generalize decide (Desc s x name)=de at*;generalize(zaf s name).any (zag x)=kd at*;generalize(zaf s name).length=kl at*;cases hs:zag x name
 ·have wn:(x.toList==name.toList)=false:=hs;rw[hs]at HR;by_cases h0:cls=0
  ·subst h0;have HX:Hid (R=false):=by show _=_;rw[HR.o];rfl
   exact MaJ
  ·have HX:Hid (R=if ma||de then true else cls != 1&&kd):=by
    show _=_;rw[HR.o];have:(cls==0)=false:=by simpa using h0
    rw[this];rfl
   clear HR;cases ma
   ·cases de
    ·by_cases h1:cls=1
     ·subst h1;have aK:Hid (R=false):=by show _=_;rw[HX.o];rfl
      clear HX dZ bK;go_enter Tryz.func63,Tryz.ntmps63
      go_upto_region 5 with fail
      (refine zaA MbE MbE ?_
       repeat(first|go_big_quiet_skip|(go_big_quiet_want;go_big_quiet_op;first|go_big_quiet_on|(apply Exists.intro;refine⟨fun _=>?_,?_⟩;(first|(go_at_call 64;exact quietx (sd.o _ Bw))|(go_at_call 65;exact quietx (gE.o _ Bw)));go_big_quiet_on)))
       refine wpQuiet_nil ?_
       rintro _ ⟨zq,rfl⟩)
      go_upto_region 7 with fail
      go_quiet (fail)
      exact Mab
     ·have aK:Hid (R=kd):=by
       show _=_;rw[HX.o];have:(cls != 1)=true:=by simpa using h1
       rw[this];simp
      clear HX;go_enter Tryz.func63,Tryz.ntmps63
      go_upto_region 5 with fail
      (refine zaA MbE MbE ?_
       repeat(first|go_big_quiet_skip|(go_big_quiet_want;go_big_quiet_op;first|go_big_quiet_on|(apply Exists.intro;refine⟨fun _=>?_,?_⟩;(first|(go_at_call 64;exact quietx (sd.o _ Bw))|(go_at_call 65;exact quietx (gE.o _ Bw)));go_big_quiet_on)))
       refine wpQuiet_nil ?_
       rintro _ ⟨zq,rfl⟩)
      go_upto_region 7 with fail
      have Cz:∀z,(Instr.lookup 104 (.map (some c)) (.string name) false).run Tryz.prog ((w.ext zq).ext z)=.ok (.slice KA kl kc) ((w.ext zq).ext z):=fun z=>dZ.o _ Bw
      have cY:(cls==1)=false:=Mb7;have eA:(cls != 1)=true:=Mb7;have CL:decide (cls=1)=false:=Mb7
      (refine zaA MbE MbE ?_
       repeat(first|go_big_quiet_skip|(go_big_quiet_want;go_big_quiet_op;first|go_big_quiet_on|(apply Exists.intro;refine⟨fun _=>?_,?_⟩;(first|(go_at_call 66;exact zkr (fh.o _ Bw)));go_big_quiet_on)))
       refine wpQuiet_nil ?_
       rintro _ ⟨zq,rfl⟩)
      exact Mab
    ·have aK:Hid (R=true):=by show _=_;rw[HX.o];rfl
     clear HX dZ bK;go_enter Tryz.func63,Tryz.ntmps63
     go_upto_region 5 with fail
     (refine zaA MbE MbE ?_
      repeat(first|go_big_quiet_skip|(go_big_quiet_want;go_big_quiet_op;first|go_big_quiet_on|(apply Exists.intro;refine⟨fun _=>?_,?_⟩;(first|(go_at_call 64;exact quietx (sd.o _ Bw))|(go_at_call 65;exact quietx (gE.o _ Bw)));go_big_quiet_on)))
      refine wpQuiet_nil ?_
      rintro _ ⟨zq,rfl⟩)
     exact Mab
   ·have aK:Hid (R=true):=by show _=_;rw[HX.o];rfl
    clear HX dZ bK;go_enter Tryz.func63,Tryz.ntmps63
    go_upto_region 5 with fail
    (refine zaA MbE MbE ?_
     repeat(first|go_big_quiet_skip|(go_big_quiet_want;go_big_quiet_op;first|go_big_quiet_on|(apply Exists.intro;refine⟨fun _=>?_,?_⟩;(go_at_call 64;exact quietx (sd.o _ Bw));go_big_quiet_on)))
     refine wpQuiet_nil ?_
     rintro _ ⟨zq,rfl⟩)
    exact Mab
 ·have wn:(x.toList==name.toList)=true:=hs;have HX:Hid (R=true):=by show _=_;rw[HR.o,hs];rfl
  exact MaJ
def zja(N TT WW:Nat):Value:=.func (.func 63) #[] #[.pointer (some ⟨N,0,none⟩),.pointer (some ⟨TT,0,none⟩),.pointer (some ⟨WW,0,none⟩)]
theorem zld(base b T N TT WW FB:Nat)(s:St)(cls:Int)(name:ByteArray)(q:RPart)(w:World)(hM:MbAt base w b T N TT WW s cls name)(hFl:FB<w.heap.size)(B8:w.cell? ⟨FB,0,none⟩=some (zja N TT WW))(fE:s.marriages.length<=1000)(bR:s.children.length<=1000):
 Calls Tryz.prog 114 #[.agg #[.string q.name,.int .i64 q.num,.int .i64 q.den],.pointer (some ⟨FB,0,none⟩)] w (Ret w (.bool (!noB q.name&&zeU s cls name q.name))):=by
 have eg:∀args w,(callFunc 63 args).run Tryz.prog w=.ok (.enter 63 args) w:=enters_of Tryz.func63 MbE rfl;have zZ:=zHi (fun W (hB:Below w.heap.size w W)=>zlS base b T N TT WW s cls name q.name W (hM.keep hB) fE bR);unfold zja at B8;have hFn:FB≠w.heap.size:=MbC;clear hM;obtain⟨nm,nu,de⟩:=q;simp only at*;generalize zeU s cls name nm=le at*;cases hn:noB nm
 ·have cY:nm.toList.isEmpty=false:=hn;have eA:¬nm.toList=[]:=by simpa using cY
  go_enter Tryz.func114,Tryz.ntmps114
  go_wp2_with (go_at_fn 63;refine(zZ.o _ Bw).mono ?_;rintro e wq ⟨rfl,z,rfl⟩)
  go_ret
  exact Ret.of (zaW MbF) Bw
 ·have cY:nm.toList.isEmpty=true:=hn;have eA:nm.toList=[]:=by simpa using cY
  go_enter Tryz.func114,Tryz.ntmps114
  exact MaN
theorem sl_map{α β:Type}{w:World}{size:Nat}{f:α->List Value}{g:β->List Value}{A:Option Addr}{xs:List α}(h:Sl w size f A xs)(m:α->β)(hm:∀x,g (m x)=f x):Sl w size g A (xs.map m):=fun hl=>by
 obtain⟨b,off,hA,hb,hc⟩:=h (by simpa using hl);refine⟨b,off,hA,hb,fun k x hk j u hu=>?_⟩;rw[List.getElem?_map,Option.map_eq_some_iff]at hk;obtain⟨y,hy,rfl⟩:=hk;rw[hm]at hu;exact hc k y hy j u hu
def toR(p:ByteArray×Rat):RPart:=⟨p.1,p.2.num,p.2.den⟩
noncomputable def entP (s:St) (g:Grave) (name:ByteArray):Bool:=g.holders.any (fun p=>!noB p.1&&zeU s g.cls name p.1)||g.died.any (zeU s g.cls name)
theorem zkf(base b T N TT WW:Nat)(B:List Nat)(s:St)(g:Grave)(name:ByteArray)(w:World)(hM:MbAt base w b T N TT WW s g.cls name)(hT:TombAt w base B T g)(fE:s.marriages.length<=1000)(bR:s.children.length<=1000)(kB:g.holders.length<=100000)(aZ:g.died.length<=100000):
 Calls Tryz.prog 62 #[.pointer (some ⟨T,0,none⟩),zja N TT WW] w (Ret w (.bool (entP s g name))):=by
 have eg:∀args w,(callFunc 63 args).run Tryz.prog w=.ok (.enter 63 args) w:=enters_of Tryz.func63 MbE rfl;have eg2:∀args w,(callFunc 114 args).run Tryz.prog w=.ok (.enter 114 args) w:=enters_of Tryz.func114 MbE rfl;obtain⟨H,ar,D,dc,frm,t1,t2,t3,t4,t5,t6,t7⟩:=hT;have bD:=zad t1;unfold zbe at t1;obtain⟨-,-,-,-,k4,k5⟩:=cF6 t1;have pO:Sl w 3 RPart.cells H (g.holders.map toR):=sl_map (Ro.sl za0 t5) toR (fun _=>rfl);have xX:=Ro.sl zbG t6;have q9:∀W,Below w.heap.size w W->w.heap.size<W.heap.size->W.cell? ⟨w.heap.size,0,none⟩=some (zja N TT WW)->Calls Tryz.prog 93 #[.slice H g.holders.length ar,.func (.func 114) #[] #[.pointer (some ⟨w.heap.size,0,none⟩)]] W (Ret W (.bool ((g.holders.map toR).any fun q=>!noB q.name&&zeU s g.cls name q.name))):=fun W hB hl hc=>by
  refine zcv 114 _ eg2 _ H _ ar (g.holders.map toR) W MbF (by simpa using kB) (pO.keep hB) fun x _ W' eP=>?_
  refine(zld base b T N TT WW w.heap.size s g.cls name x W' (hM.keep (hB.trans (eP.mono hB.size))) (Nat.lt_of_lt_of_le hl eP.size) ((za4 eP hl).trans hc) fE bR).mono ?_;exact Ma6
 have qa:∀W,Below w.heap.size w W->Calls Tryz.prog 103 #[.slice D g.died.length dc,zja N TT WW] W (Ret W (.bool (g.died.any (zeU s g.cls name)))):=fun W hB=>by
  refine zkd 63 _ eg _ D _ dc g.died W rfl aZ (xX.keep hB) fun x _ W' eP=>?_
  refine(zlS base b T N TT WW s g.cls name x W' (hM.keep (hB.trans (eP.mono hB.size))) fE bR).mono ?_;exact Ma6
 have he:entP s g name=((g.holders.map toR).any (fun q=>!noB q.name&&zeU s g.cls name q.name)||g.died.any (zeU s g.cls name)):=by
  unfold entP;rw[List.any_map];rfl
 rw[he];generalize(g.holders.map toR).any (fun q=>!noB q.name&&zeU s g.cls name q.name)=b1 at*;generalize g.died.any (zeU s g.cls name)=b2 at*;obtain⟨fY,fg⟩:=yH2 q9 qa;unfold zja at fY fg;unfold zja;clear q9 qa pO xX t1 t5 t6 t7 hM he eg eg2;have uU:T≠w.heap.size:=MbC;cases b1
 ·go_enter Tryz.func62,Tryz.ntmps62
  go_upto_region 1 with fail
  (refine zaA MbE MbE ?_
   repeat(first|go_big_quiet_skip|(go_big_quiet_want;go_big_quiet_op;first|go_big_quiet_on|(apply Exists.intro;refine⟨fun _=>?_,?_⟩;(first|(go_at_call 93;exact quietx (fY.o _ Bw MbM MbQ))|(go_at_call 103;exact quietx (fg.o _ Bw)));go_big_quiet_on)))
   refine wpQuiet_nil ?_
   rintro _ ⟨zq,rfl⟩)
  exact MaN
 ·go_enter Tryz.func62,Tryz.ntmps62
  go_upto_region 1 with fail
  (refine zaA MbE MbE ?_
   repeat(first|go_big_quiet_skip|(go_big_quiet_want;go_big_quiet_op;first|go_big_quiet_on|(apply Exists.intro;refine⟨fun _=>?_,?_⟩;((go_at_call 93;exact quietx (fY.o _ Bw MbM MbQ)));go_big_quiet_on)))
   refine wpQuiet_nil ?_
   rintro _ ⟨zq,rfl⟩)
  exact MaN
noncomputable def ze4 (laws:List Law) (ds:List Deed) (place name:ByteArray) (day:Int):Bool×Int:=
 if zck laws ds [place,name] day != 0 then(false,zck laws ds [place,name] day)else match zaH (zaz laws ds day).1 place day with
  |none=>(false,12)
  |some i=>(((zaz laws ds day).1.graves.getD i ze6).cls==4||entP (zaz laws ds day).1 ((zaz laws ds day).1.graves.getD i ze6) name,0)
theorem zb2{W:World}{a o:Nat}{v:Value}(h:W.cell? ⟨a,o,none⟩=some v):a<W.heap.size:=by
 unfold World.cell? at h;cases hh:W.heap[a]? with
 |none=>simp[hh]at h
 |some x=>exact zad hh
theorem zle(laws:List Law)(ds:List Deed)(place name:ByteArray)(day:Int)(LA:Option Addr)(n nc:Nat)(DA:Option Addr)(m mc:Nat)(w:World)(hR:RightsIn w laws ds LA n nc DA m mc)(hF:FormsIn w)(hL:LensIn w)(hO:∀d∈ds,zdi d)(hp:place.size<=100000)(hn:name.size<=100000):
 Calls Tryz.prog 23 #[.agg #[.slice LA n nc,.slice DA m mc],.string place,.string name,.int .i64 day] w (Ret w (.tuple #[.bool (ze4 laws ds place name day).1,.int .i64 (ze4 laws ds place name day).2])):=by
 have aB:=fun W (hB:Below w.heap.size w W) NA (hS:Sl W 1 sC NA [name])=>zke laws ds place [name] day LA n nc DA m mc NA 1 1 W (hR.keep hB) (hF.keep hB) (hL.keep hB) hO hp rfl MbF (by simpa using hn) hS
 have ba:=zHi aB;clear aB hR hF hL hO hp hn;unfold zeT at ba;obtain⟨R,hR⟩:∃R,R=ze4 laws ds place name day:=⟨_,rfl⟩
 rw[<-hR];unfold ze4 at hR;generalize zck laws ds [place,name] day=E at*;generalize(zaz laws ds day).1=s at*;have HR:=zHi hR;clear hR;by_cases h0:E=0
 ·have HE:=zHi h0;cases ap:zaH s place day with
  |none=>
   have HX:Hid (R=(false,12)):=by show _=_;rw[HR.o,ap,if_neg (by simp[h0])]
   have gH:=zHi ap;clear HR ap h0;go_enter Tryz.func23,Tryz.ntmps23
   go_wp2_with (go_at_call 61
                go_must(refine(ba.o _ Bw _ (zdB (za3 _ _ _ MbF))).mono ?_)
                rintro e wq ⟨h1,⟨ag,_⟩|⟨_,_,rfl⟩|⟨_,base,b,la,co,B,T,i,g,hi,_⟩⟩
                ·exact absurd HE.o ag
                rotate_left 1
                ·rw[gH.o]at hi;cases hi
                go_must(have hm:=(show Below w.heap.size _ wq from h1.mono McD))
                go_must(have cj:Below w.heap.size w wq:=Below.trans Bw hm)
                have gU:=zHi cj
                clear h1 hm cj)
   exact Ma4
  |some i=>
   have gH:=zHi ap;have hX:R=((s.graves.getD i ze6).cls==4||entP s (s.graves.getD i ze6) name,0):=by rw[HR.o,ap,if_neg (by simp[h0])]
   obtain⟨g,bJ,-,-⟩:=zbv ap;rw[zey bJ]at hX;obtain⟨HX,rW⟩:=yH2 hX bJ;clear HR ap h0 hX bJ;go_enter Tryz.func23,Tryz.ntmps23
   go_upto_region 2 with
    (go_at_call 61
     go_must(refine(ba.o _ Bw _ (zdB (za3 _ _ _ MbF))).mono ?_)
     rintro e wq ⟨h1,⟨ag,_⟩|⟨_,hi,_⟩|⟨_,base,b,la,co,B,T,i',g',hi,cx,rfl,h2,h3,h4,h5,h6⟩⟩;go_must(·exact absurd HE.o ag)
     go_must(·rw[gH.o]at hi;cases hi)
     go_must(have hm:=(show Below w.heap.size _ wq from h1.mono McD))
     go_must(have cj:Below w.heap.size w wq:=Below.trans Bw hm)
     go_must(have xR:=(h1.cell (p:=⟨w.heap.size+1,0,none⟩) (by simp<;>omega)).trans (show _=some (Value.string name) from by simp[go_sem]))
     go_must(have be:g'=g:=(by rw[gH.o]at hi;cases hi;rw[rW.o]at cx;exact(Option.some.inj cx).symm))
     go_must(subst be)
     obtain⟨xd,gU⟩:=yH2 xR cj;have we:=cj.size;obtain⟨H3,H4,H6⟩:=yH3 h3 h4 h6
     clear h1 hm cj xR h2 h3 h4 h5 h6 hi cx)
   have dP:=H4.o;obtain⟨H,ar,D,dc,frm,t1,t2,t3,t4,t5,t6,t7⟩:=H4.o;have bD:=zad t1;unfold zbe at t1;obtain⟨-,k1⟩:=cF2 t1;obtain⟨k,cN,ck⟩:=H6.o;have kB:=ck.held g' (List.mem_of_getElem? rW.o);have fE:=ck.marr;have bR:=ck.kids;have gL:=H3.o.lt;have nU:w.heap.size+1<wq.heap.size:=zb2 xd.o;have vv:∀W,Below wq.heap.size wq W->W.cell? ⟨wq.heap.size,0,none⟩=some (.pointer (some ⟨b,0,none⟩))->W.cell? ⟨wq.heap.size+1,0,none⟩=some (.pointer (some ⟨T,0,none⟩))->Calls Tryz.prog 62 #[.pointer (some ⟨T,0,none⟩),zja (w.heap.size+1) (wq.heap.size+1) wq.heap.size] W (Ret W (.bool (entP s g' name))):=fun W hB e1 e2=>
    zkf base b T (w.heap.size+1) (wq.heap.size+1) wq.heap.size B s g' name W ⟨H3.o.peo.keep hB,Nat.lt_of_lt_of_le bD hB.size,(za4 hB bD).trans k1,Nat.lt_of_lt_of_le nU hB.size,(za4 hB nU).trans xd.o,zb2 e2,e2,zb2 e1,e1⟩ (dP.keep hB) MbC MbC MbC MbC
   have wM:=zHi vv;unfold zja at wM;have xl:=zHi bD;have uU:T≠wq.heap.size:=MbC;have BJ:T≠wq.heap.size+1:=MbC;generalize entP s g' name=ep at*;clear vv dP t1 t2 t3 t4 t5 t6 t7 kB fE bR ck gL;by_cases h4:g'.cls=4
   ·have aK:Hid (R=(true,0)):=by show _=_;rw[HX.o,h4];rfl
    rw[h4]at k1;go_wp2_with fail
    go_ret2
    rw[aK.o];have cj:=gU.o;exact Ret.of rfl Bw
   ·have aK:Hid (R=(ep,0)):=by
     show _=_;rw[HX.o,show(g'.cls==4)=false by simpa using h4];rfl
    go_wp2_with (go_at_call 62;go_must(refine(wM.o _ Bw MbQ MbQ).mono ?_);rintro e wz ⟨rfl,z,rfl⟩)
    go_ret2
    rw[aK.o];have cj:=gU.o;exact Ret.of rfl Bw
 ·have HX:Hid (R=(false,E)):=by show _=_;rw[HR.o,if_pos Mcf]
  have HE:=zHi h0;clear HR h0;go_enter Tryz.func23,Tryz.ntmps23
  go_wp2_with (go_at_call 61
               go_must(refine(ba.o _ Bw _ (zdB (za3 _ _ _ MbF))).mono ?_)
               rintro e wq ⟨h1,⟨_,rfl⟩|⟨he,_⟩|⟨he,_⟩⟩;rotate_left 1
               ·exact absurd he HE.o
               ·exact absurd he HE.o
               go_must(have hm:=(show Below w.heap.size _ wq from h1.mono McD))
               go_must(have cj:Below w.heap.size w wq:=Below.trans Bw hm)
               have gU:=zHi cj
               clear h1 hm cj)
  exact Ma4
