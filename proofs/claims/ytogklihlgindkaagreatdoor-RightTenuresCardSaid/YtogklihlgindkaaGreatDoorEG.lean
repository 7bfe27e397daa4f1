import Derived.Test.YtogklihlgindkaaGreatDoorEE
set_option linter.all false
set_option maxRecDepth 100000
set_option maxHeartbeats 4000000
namespace Go.Proofs.YtogklihlgindkaaGreatDoor
open Go.RowKit Go.Shelf
attribute [local go_sem] World.cell?_alloc_mark zaf za3 zam za6 zat zau zav zaw zax zay zaz
attribute [local go_sem] zao zac
open Classical in
noncomputable def zgc (s:St) (cls:Int) (name x:ByteArray):Bool:=
 if zae x name then true else if cls==0 then false else if zhQ s x name||decide (Desc s x name)then true else cls != 1&&(zaj s name).any (zae x)
structure MbAt (base:Nat) (W:World) (b T N TT WW:Nat) (s:St) (cls:Int) (name:ByteArray):Prop where
 peo:PeoAt base W b s
 tl:T<W.heap.size
 tc:W.cell? ⟨T,1,none⟩=some (.int .i64 cls)
 nl:N<W.heap.size
 nc:W.cell? ⟨N,0,none⟩=some (.string name)
 ttl:TT<W.heap.size
 ttc:W.cell? ⟨TT,0,none⟩=some (.pointer (some ⟨T,0,none⟩))
 wl:WW<W.heap.size
 wc:W.cell? ⟨WW,0,none⟩=some (.pointer (some ⟨b,0,none⟩))
variable{W:World}
def MbAt.keep{base:Nat}{W':World}{b T N TT WW:Nat}{s:St}{cls:Int}{name:ByteArray}(h:MbAt base W b T N TT WW s cls name)(hB:Qa W W'):MbAt base W' b T N TT WW s cls name:=
 ⟨h.peo.keep hB,Nat.lt_of_lt_of_le h.tl hB.size,(zai hB h.tl).trans h.tc,Nat.lt_of_lt_of_le h.nl hB.size,(zai hB h.nl).trans h.nc,Nat.lt_of_lt_of_le h.ttl hB.size,(zai hB h.ttl).trans h.ttc,Nat.lt_of_lt_of_le h.wl hB.size,(zai hB h.wl).trans h.wc⟩
open Classical in
def zo7(base b T N TT WW:Nat)(s:St)(cls:Int)(name x:ByteArray)(w:World)(hM:MbAt base w b T N TT WW s cls name)(gn:s.marriages.length<=1000)(cf:s.children.length<=1000):
 Calls Tryz.prog 32 #[.string x,.pointer (some ⟨N,0,none⟩),.pointer (some ⟨TT,0,none⟩),.pointer (some ⟨WW,0,none⟩)] w (Ret w (.bool (zgc s cls name x))):=by
 have hP:=hM.peo;obtain⟨B,d,c,p,wl,r,mv,tv,la,co,hC,uo⟩:=id hP;have cI:=zab hC;unfold WldC at hC;obtain⟨-,c1⟩:=cF2 hC;obtain⟨KA,kc,fN,fZ,iH⟩:=ziA uo name;obtain⟨Ae,mn⟩:=yH2 (λW (hB:Qa w W)=>zi6 base b s x name W (hP.keep hB) McS) (λW (hB:Qa w W)=>zh2 base b s name x W (hP.keep hB) McS);have bp:(zaj s name).length<=100000:=by
  have:(zaj s name).length<=s.children.length:=by unfold zaj;rw[List.length_map];exact List.length_filter_le _ _
  omega
 have jW:=zHi (λW (hB:Qa w W)=>zl3 (zaj s name) x KA _ kc W rfl bp (iH.keep hB));have dE:∀z,(Instr.lookup 67 (.map (some c)) (.string name) false).run Tryz.prog (w.ext z)=.ok (.slice KA (zaj s name).length kc) (w.ext z):=λz=>fN _ (zan w z)
 have iB:=zHi fN;obtain⟨_,cF,tB,kP,yx,N8,N7,cK,hwc⟩:=hM;obtain⟨R,hR⟩:=Qd (zgc s cls name x)
 rw[<-hR];unfold zgc at hR;have HR:=zHi hR;clear hP hC uo fN iH hR;generalize zhQ s x name=ma at*;generalize decide (Desc s x name)=de at*;generalize(zaj s name).any (zae x)=kd at*;generalize(zaj s name).length=kl at*;cases hs:zae x name
 ·have zp:(x.toList==name.toList)=false:=hs;rw[hs]at HR;by_cases h0:cls=0
  ·subst h0;have HX:Hid (R=false):=by show _=_;rw[HR.o];rfl
   exact MbD
  ·have HX:Hid (R=if ma||de then true else cls != 1&&kd):=by
    show _=_;rw[HR.o];have:(cls==0)=false:=by simpa using h0
    rw[this];rfl
   clear HR;cases ma
   ·cases de
    ·by_cases h1:cls=1
     ·subst h1;have aw:Hid (R=false):=by show _=_;rw[HX.o];rfl
      clear HX iB dE;go_enter Tryz.func32,Tryz.ntmps32
      go_upto_region 5 with fail
      (refine zag McT McT ?_
       repeat(first|go_big_quiet_skip|(go_big_quiet_want;go_big_quiet_op;first|go_big_quiet_on|(apply Exists.intro;refine⟨λ_=>?_,?_⟩;(first|(go_at_call 33;exact quietx (Ae.o _ Bw))|(go_at_call 34;exact quietx (mn.o _ Bw)));go_big_quiet_on)))
       refine wpQuiet_nil ?_
       rintro _ ⟨zq,rfl⟩)
      go_upto_region 7 with fail
      go_quiet (fail)
      exact MaO
     ·have aw:Hid (R=kd):=by
       show _=_;rw[HX.o];have:(cls != 1)=true:=by simpa using h1
       rw[this];simp
      clear HX;go_enter Tryz.func32,Tryz.ntmps32
      go_upto_region 5 with fail
      (refine zag McT McT ?_
       repeat(first|go_big_quiet_skip|(go_big_quiet_want;go_big_quiet_op;first|go_big_quiet_on|(apply Exists.intro;refine⟨λ_=>?_,?_⟩;(first|(go_at_call 33;exact quietx (Ae.o _ Bw))|(go_at_call 34;exact quietx (mn.o _ Bw)));go_big_quiet_on)))
       refine wpQuiet_nil ?_
       rintro _ ⟨zq,rfl⟩)
      go_upto_region 7 with fail
      have Ly:∀z,(Instr.lookup 67 (.map (some c)) (.string name) false).run Tryz.prog ((w.ext zq).ext z)=.ok (.slice KA kl kc) ((w.ext zq).ext z):=λz=>iB.o _ Bw
      have cu:(cls==1)=false:=Mdp;have eh:(cls != 1)=true:=Mdp;have B8:decide (cls=1)=false:=Mdp
      (refine zag McT McT ?_
       repeat(first|go_big_quiet_skip|(go_big_quiet_want;go_big_quiet_op;first|go_big_quiet_on|(apply Exists.intro;refine⟨λ_=>?_,?_⟩;(first|(go_at_call 35;exact zif (jW.o _ Bw)));go_big_quiet_on)))
       refine wpQuiet_nil ?_
       rintro _ ⟨zq,rfl⟩)
      exact MaO
    ·have aw:Hid (R=true):=by show _=_;rw[HX.o];rfl
     clear HX iB dE;go_enter Tryz.func32,Tryz.ntmps32
     go_upto_region 5 with fail
     (refine zag McT McT ?_
      repeat(first|go_big_quiet_skip|(go_big_quiet_want;go_big_quiet_op;first|go_big_quiet_on|(apply Exists.intro;refine⟨λ_=>?_,?_⟩;(first|(go_at_call 33;exact quietx (Ae.o _ Bw))|(go_at_call 34;exact quietx (mn.o _ Bw)));go_big_quiet_on)))
      refine wpQuiet_nil ?_
      rintro _ ⟨zq,rfl⟩)
     exact MaO
   ·have aw:Hid (R=true):=by show _=_;rw[HX.o];rfl
    clear HX iB dE;go_enter Tryz.func32,Tryz.ntmps32
    go_upto_region 5 with fail
    (refine zag McT McT ?_
     repeat(first|go_big_quiet_skip|(go_big_quiet_want;go_big_quiet_op;first|go_big_quiet_on|(apply Exists.intro;refine⟨λ_=>?_,?_⟩;(go_at_call 33;exact quietx (Ae.o _ Bw));go_big_quiet_on)))
     refine wpQuiet_nil ?_
     rintro _ ⟨zq,rfl⟩)
    exact MaO
 ·have zp:(x.toList==name.toList)=true:=hs;have HX:Hid (R=true):=by show _=_;rw[HR.o,hs];rfl
  exact MbD
def zkW(N TT WW:Nat):Value:=.func (.func 32) #[] #[.pointer (some ⟨N,0,none⟩),.pointer (some ⟨TT,0,none⟩),.pointer (some ⟨WW,0,none⟩)]
def zn0(base b T N TT WW FB:Nat)(s:St)(cls:Int)(name:ByteArray)(q:RPart)(w:World)(hM:MbAt base w b T N TT WW s cls name)(hFl:FB<w.heap.size)(K5:w.cell? ⟨FB,0,none⟩=some (zkW N TT WW))(gn:s.marriages.length<=1000)(cf:s.children.length<=1000):
 Calls Tryz.prog 61 #[.agg #[.string q.name,.int .i64 q.num,.int .i64 q.den],.pointer (some ⟨FB,0,none⟩)] w (Ret w (.bool (!noB q.name&&zgc s cls name q.name))):=by
 have eg:∀args w,(callFunc 32 args).run Tryz.prog w=.ok (.enter 32 args) w:=enters_of Tryz.func32 McT rfl;have vE:=zHi (λW (hB:Qa w W)=>zo7 base b T N TT WW s cls name q.name W (hM.keep hB) gn cf);unfold zkW at K5;have hFn:FB≠w.heap.size:=McS;clear hM;obtain⟨nm,nu,de⟩:=q;simp only at*;generalize zgc s cls name nm=le at*;cases hn:noB nm
 ·have cu:nm.toList.isEmpty=false:=hn;have eh:¬nm.toList=[]:=by simpa using cu
  go_enter Tryz.func61,Tryz.ntmps61
  go_wp2_with (go_at_fn 32;refine(vE.o _ Bw).mono ?_;rintro e wq ⟨rfl,z,rfl⟩)
  go_ret
  exact Ret.of (zaT McV) Bw
 ·have cu:nm.toList.isEmpty=true:=hn;have eh:nm.toList=[]:=by simpa using cu
  go_enter Tryz.func61,Tryz.ntmps61
  exact MbG
def sl_map{α β:Type}{w:World}{size:Nat}{f:α->List Value}{g:β->List Value}{A:Option Addr}{xs:List α}(h:Sl w size f A xs)(m:α->β)(hm:∀x,g (m x)=f x):Sl w size g A (xs.map m):=λhl=>by
 obtain⟨b,off,hA,hb,hc⟩:=h (by simpa using hl);refine⟨b,off,hA,hb,λk x hk j u hu=>?_⟩;rw[List.getElem?_map,Option.map_eq_some_iff]at hk;obtain⟨y,hy,rfl⟩:=hk;rw[hm]at hu;exact hc k y hy j u hu
def toR(p:ByteArray×Rat):RPart:=⟨p.1,p.2.num,p.2.den⟩
noncomputable def entP (s:St) (g:Grave) (name:ByteArray):Bool:=g.holders.any (λp=>!noB p.1&&zgc s g.cls name p.1)||g.died.any (zgc s g.cls name)
def zmm(base b T N TT WW:Nat)(B:List Nat)(s:St)(g:Grave)(name:ByteArray)(w:World)(hM:MbAt base w b T N TT WW s g.cls name)(hT:TombAt w base B T g)(gn:s.marriages.length<=1000)(cf:s.children.length<=1000)(lL:g.holders.length<=100000)(bA:g.died.length<=100000):
 Calls Tryz.prog 31 #[.pointer (some ⟨T,0,none⟩),zkW N TT WW] w (Ret w (.bool (entP s g name))):=by
 have eg:∀args w,(callFunc 32 args).run Tryz.prog w=.ok (.enter 32 args) w:=enters_of Tryz.func32 McT rfl;have eg2:∀args w,(callFunc 61 args).run Tryz.prog w=.ok (.enter 61 args) w:=enters_of Tryz.func61 McT rfl;obtain⟨H,aE,D,dc,frm,t1,t2,t3,t4,t5,t6,t7⟩:=hT;have cz:=zab t1;unfold zbt at t1;obtain⟨-,-,-,-,k4,k5⟩:=cF6 t1;have wS:Sl w 3 RPart.cells H (g.holders.map toR):=sl_map (Ro.sl zak t5) toR (λ_=>rfl);have GC:=Ro.sl zaB t6;have xp:∀W,Qa w W->w.heap.size<W.heap.size->W.cell? ⟨w.heap.size,0,none⟩=some (zkW N TT WW)->Calls Tryz.prog 60 #[.slice H g.holders.length aE,.func (.func 61) #[] #[.pointer (some ⟨w.heap.size,0,none⟩)]] W (Ret W (.bool ((g.holders.map toR).any λq=>!noB q.name&&zgc s g.cls name q.name))):=λW hB hl hc=>by
  refine zcS 61 _ eg2 _ H _ aE (g.holders.map toR) W McV (by simpa using lL) (wS.keep hB) λx _ W' fJ=>?_
  refine(zn0 base b T N TT WW w.heap.size s g.cls name x W' (hM.keep (hB.trans (fJ.mono hB.size))) (Nat.lt_of_lt_of_le hl fJ.size) ((zai fJ hl).trans hc) gn cf).mono ?_;exact Mb6
 have xq:∀W,Qa w W->Calls Tryz.prog 42 #[.slice D g.died.length dc,zkW N TT WW] W (Ret W (.bool (g.died.any (zgc s g.cls name)))):=λW hB=>by
  refine zmj 32 _ eg _ D _ dc g.died W rfl bA (GC.keep hB) λx _ W' fJ=>?_
  refine(zo7 base b T N TT WW s g.cls name x W' (hM.keep (hB.trans (fJ.mono hB.size))) gn cf).mono ?_;exact Mb6
 have he:entP s g name=((g.holders.map toR).any (λq=>!noB q.name&&zgc s g.cls name q.name)||g.died.any (zgc s g.cls name)):=by
  unfold entP;rw[List.any_map];rfl
 rw[he];generalize(g.holders.map toR).any (λq=>!noB q.name&&zgc s g.cls name q.name)=b1 at*;generalize g.died.any (zgc s g.cls name)=b2 at*;obtain⟨By,uZ⟩:=yH2 xp xq;unfold zkW at By uZ;unfold zkW;clear xp xq wS GC t1 t5 t6 t7 hM he eg eg2;have Di:T≠w.heap.size:=McS;cases b1
 ·go_enter Tryz.func31,Tryz.ntmps31
  go_upto_region 1 with fail
  (refine zag McT McT ?_
   repeat(first|go_big_quiet_skip|(go_big_quiet_want;go_big_quiet_op;first|go_big_quiet_on|(apply Exists.intro;refine⟨λ_=>?_,?_⟩;(first|(go_at_call 60;exact quietx (By.o _ Bw Mc1 Mdo))|(go_at_call 42;exact quietx (uZ.o _ Bw)));go_big_quiet_on)))
   refine wpQuiet_nil ?_
   rintro _ ⟨zq,rfl⟩)
  exact MbG
 ·go_enter Tryz.func31,Tryz.ntmps31
  go_upto_region 1 with fail
  (refine zag McT McT ?_
   repeat(first|go_big_quiet_skip|(go_big_quiet_want;go_big_quiet_op;first|go_big_quiet_on|(apply Exists.intro;refine⟨λ_=>?_,?_⟩;((go_at_call 60;exact quietx (By.o _ Bw Mc1 Mdo)));go_big_quiet_on)))
   refine wpQuiet_nil ?_
   rintro _ ⟨zq,rfl⟩)
  exact MbG
noncomputable def zfD (laws:List Law) (ds:List Deed) (place name:ByteArray) (day:Int):Bool×Int:=
 if zce laws ds [place,name] day != 0 then(false,zce laws ds [place,name] day)else match zaL (zaI laws ds day).1 place day with
  |none=>(false,12)
  |some i=>(((zaI laws ds day).1.graves.getD i zfO).cls==4||entP (zaI laws ds day).1 ((zaI laws ds day).1.graves.getD i zfO) name,0)
def zcs{a o:Nat}{v:Value}(h:W.cell? ⟨a,o,none⟩=some v):a<W.heap.size:=by
 unfold World.cell? at h;cases hh:W.heap[a]? with
 |none=>simp[hh]at h
 |some x=>exact zab hh
def zn1(laws:List Law)(ds:List Deed)(place name:ByteArray)(day:Int)(LA:Option Addr)(n nc:Nat)(DA:Option Addr)(m mc:Nat)(w:World)(hR:RightsIn w laws ds LA n nc DA m mc)(hF:FormsIn w)(hL:LensIn w)(hO:∀d∈ds,zdQ d)(hp:place.size<=100000)(hn:name.size<=100000):
 Calls Tryz.prog 13 #[.agg #[.slice LA n nc,.slice DA m mc],.string place,.string name,.int .i64 day] w (Ret w (.tuple #[.bool (zfD laws ds place name day).1,.int .i64 (zfD laws ds place name day).2])):=by
 have aQ:=λW (hB:Qa w W) NA (hS:Sl W 1 sC NA [name])=>zml laws ds place [name] day LA n nc DA m mc NA 1 1 W (hR.keep hB) (hF.keep hB) (hL.keep hB) hO hp rfl McV (by simpa using hn) hS
 have bI:=zHi aQ;clear aQ hR hF hL hO hp hn;unfold zgb at bI;obtain⟨R,hR⟩:=Qd (zfD laws ds place name day)
 rw[<-hR];unfold zfD at hR;generalize zce laws ds [place,name] day=E at*;generalize(zaI laws ds day).1=s at*;have HR:=zHi hR;clear hR;by_cases h0:E=0
 ·have HE:=zHi h0;cases aP:zaL s place day with
  |none=>
   have HX:Hid (R=(false,12)):=by show _=_;rw[HR.o,aP,if_neg (by simp[h0])]
   have l8:=zHi aP;clear HR aP h0;go_enter Tryz.func13,Tryz.ntmps13
   go_wp2_with (go_at_call 30
                go_must(refine(bI.o _ Bw _ (zcU (zas _ _ _ McV))).mono ?_)
                rintro e wq ⟨h1,⟨ai,_⟩|⟨_,_,rfl⟩|⟨_,base,b,la,co,B,T,i,g,hi,_⟩⟩
                ·exact absurd HE.o ai
                rotate_left 1
                ·rw[l8.o]at hi;cases hi
                go_must(have hm:=(show Below w.heap.size _ wq from h1.mono Mew))
                go_must(have bW:Qa w wq:=Below.trans Bw hm)
                have gw:=zHi bW
                clear h1 hm bW)
   exact Mb1
  |some i=>
   have l8:=zHi aP;have hX:R=((s.graves.getD i zfO).cls==4||entP s (s.graves.getD i zfO) name,0):=by rw[HR.o,aP,if_neg (by simp[h0])]
   obtain⟨g,aH,-,-⟩:=zcg aP;rw[zf5 aH]at hX;obtain⟨HX,pS⟩:=yH2 hX aH;clear HR aP h0 hX aH;go_enter Tryz.func13,Tryz.ntmps13
   go_upto_region 2 with
    (go_at_call 30
     go_must(refine(bI.o _ Bw _ (zcU (zas _ _ _ McV))).mono ?_)
     rintro e wq ⟨h1,⟨ai,_⟩|⟨_,hi,_⟩|⟨_,base,b,la,co,B,T,i',g',hi,cr,rfl,h2,h3,h4,h5,h6⟩⟩;go_must(·exact absurd HE.o ai)
     go_must(·rw[l8.o]at hi;cases hi)
     go_must(have hm:=(show Below w.heap.size _ wq from h1.mono Mew))
     go_must(have bW:Qa w wq:=Below.trans Bw hm)
     go_must(have Gu:=(h1.cell (p:=⟨w.heap.size+1,0,none⟩) (by simp<;>omega)).trans (show _=some (Value.string name) from by simp[go_sem]))
     go_must(have bh:g'=g:=(by rw[l8.o]at hi;cases hi;rw[pS.o]at cr;exact(Option.some.inj cr).symm))
     go_must(subst bh)
     obtain⟨rq,gw⟩:=yH2 Gu bW;have zd:=bW.size;obtain⟨H3,H4,H6⟩:=yH3 h3 h4 h6
     clear h1 hm bW Gu h2 h3 h4 h5 h6 hi cr)
   have gA:=H4.o;obtain⟨H,aE,D,dc,frm,t1,t2,t3,t4,t5,t6,t7⟩:=H4.o;have cz:=zab t1;unfold zbt at t1;obtain⟨-,k1⟩:=cF2 t1;obtain⟨k,fM,eD⟩:=H6.o;have lL:=eD.held g' (List.mem_of_getElem? pS.o);have gn:=eD.marr;have cf:=eD.kids;have bl:=H3.o.lt;have kP:w.heap.size+1<wq.heap.size:=zcs rq.o;have DP:∀W,Qa wq W->W.cell? ⟨wq.heap.size,0,none⟩=some (.pointer (some ⟨b,0,none⟩))->W.cell? ⟨wq.heap.size+1,0,none⟩=some (.pointer (some ⟨T,0,none⟩))->Calls Tryz.prog 31 #[.pointer (some ⟨T,0,none⟩),zkW (w.heap.size+1) (wq.heap.size+1) wq.heap.size] W (Ret W (.bool (entP s g' name))):=λW hB e1 e2=>
    zmm base b T (w.heap.size+1) (wq.heap.size+1) wq.heap.size B s g' name W ⟨H3.o.peo.keep hB,Nat.lt_of_lt_of_le cz hB.size,(zai hB cz).trans k1,Nat.lt_of_lt_of_le kP hB.size,(zai hB kP).trans rq.o,zcs e2,e2,zcs e1,e1⟩ (gA.keep hB) McS McS McS McS
   have Fc:=zHi DP;unfold zkW at Fc;have Fx:=zHi cz;have Di:T≠wq.heap.size:=McS;have KC:T≠wq.heap.size+1:=McS;generalize entP s g' name=ep at*;clear DP gA t1 t2 t3 t4 t5 t6 t7 lL gn cf eD bl;by_cases h4:g'.cls=4
   ·have aw:Hid (R=(true,0)):=by show _=_;rw[HX.o,h4];rfl
    rw[h4]at k1;go_wp2_with fail
    go_ret2
    rw[aw.o];have bW:=gw.o;exact Ret.of rfl Bw
   ·have aw:Hid (R=(ep,0)):=by
     show _=_;rw[HX.o,show(g'.cls==4)=false by simpa using h4];rfl
    go_wp2_with (go_at_call 31;go_must(refine(Fc.o _ Bw Mdo Mdo).mono ?_);rintro e wz ⟨rfl,z,rfl⟩)
    go_ret2
    rw[aw.o];have bW:=gw.o;exact Ret.of rfl Bw
 ·have HX:Hid (R=(false,E)):=by show _=_;rw[HR.o,if_pos MdX]
  have HE:=zHi h0;clear HR h0;go_enter Tryz.func13,Tryz.ntmps13
  go_wp2_with (go_at_call 30
               go_must(refine(bI.o _ Bw _ (zcU (zas _ _ _ McV))).mono ?_)
               rintro e wq ⟨h1,⟨_,rfl⟩|⟨he,_⟩|⟨he,_⟩⟩;rotate_left 1
               ·exact absurd he HE.o
               ·exact absurd he HE.o
               go_must(have hm:=(show Below w.heap.size _ wq from h1.mono Mew))
               go_must(have bW:Qa w wq:=Below.trans Bw hm)
               have gw:=zHi bW
               clear h1 hm bW)
  exact Mb1
