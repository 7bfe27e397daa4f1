/- Walks: the family of the document's examples; what every law of chapter 5 begins with. -/
import Derived.Test.YtmaidggpbihlgaaGreatDoorEE
import Derived.Test.YtmaidggpbihlgaaGreatDoorRP
set_option linter.unusedSimpArgs false
set_option linter.unusedVariables false
namespace Go.Proofs.YtmaidggpbihlgaaGreatDoor
open Go.RowKit Go.Shelf
attribute [local go_sem] World.cell?_alloc_mark ext_size ext_cell ext_frozen lt_add_r lt_add_r2 lt_add_r3 lt_add_r4 lt_add_r5 lt_add_r6 lt_add_r7 lt_add_r8
attribute [local go_sem] ext_setCell alloc_setCell_lt
open Classical in
noncomputable def letsP (s:St) (cls:Int) (name x:ByteArray):Bool:=
 if sameB x name then true else if cls==0 then false else if marriedP s x name||decide (Desc s x name)then true else cls != 1&&(childrenP s name).any (sameB x)
structure MbAt (base:Nat) (W:World) (b T N TT WW:Nat) (s:St) (cls:Int) (name:ByteArray):Prop where
 peo:PeoAt base W b s
 tl:T<W.heap.size
 tc:W.cell? ⟨T,1,none⟩=some (.int .i64 cls)
 nl:N<W.heap.size
 nc:W.cell? ⟨N,0,none⟩=some (.string name)
 ttl:TT<W.heap.size
 ttc:W.cell? ⟨TT,0,none⟩=some (.pointer (some ⟨T,0,none⟩))
 wl:WW<W.heap.size
 wc:W.cell? ⟨WW,0,none⟩=some (.pointer (some ⟨b,0,none⟩))
theorem MbAt.keep {base:Nat} {W W':World} {b T N TT WW:Nat} {s:St} {cls:Int} {name:ByteArray} (h:MbAt base W b T N TT WW s cls name) (hB:Below W.heap.size W W'):MbAt base W' b T N TT WW s cls name:=
 ⟨h.peo.keep hB,Nat.lt_of_lt_of_le h.tl hB.size,(B_cell hB h.tl).trans h.tc,Nat.lt_of_lt_of_le h.nl hB.size,(B_cell hB h.nl).trans h.nc,Nat.lt_of_lt_of_le h.ttl hB.size,(B_cell hB h.ttl).trans h.ttc,Nat.lt_of_lt_of_le h.wl hB.size,(B_cell hB h.wl).trans h.wc⟩
open Classical in
set_option maxRecDepth 100000 in
set_option maxHeartbeats 2000000 in
theorem lets_any (base b T N TT WW:Nat) (s:St) (cls:Int) (name x:ByteArray) (w:World) (hM:MbAt base w b T N TT WW s cls name) (hml:s.marriages.length<=1000) (hkl:s.children.length<=1000):
 Calls Tryz.prog 46 #[.string x, .pointer (some ⟨N,0,none⟩), .pointer (some ⟨TT,0,none⟩), .pointer (some ⟨WW,0,none⟩)] w (Ret w (.bool (letsP s cls name x))):=by
 have hP:=hM.peo
 obtain⟨B,d,c,p,wl,r,mv,tv,la,co,hC,hPP⟩:=id hP
 have hbl:=blk_lt hC
 unfold WldC at hC
 have c1:w.cell? ⟨b,1,none⟩=some (.map (some c)):=by simp only[World.cell?,hC];rfl
 obtain⟨KA,kc,hlk,hkc,hKS⟩:=look_kids hPP name
 have HWM:=Lib.hid (fun W (hB:Below w.heap.size w W)=>wereMarried_any base b s x name W (hP.keep hB) (by omega))
 have HDE:=Lib.hid (fun W (hB:Below w.heap.size w W)=>descends_any base b s name x W (hP.keep hB) (by omega))
 have hcl:(childrenP s name).length<=100000:=by
  have:(childrenP s name).length<=s.children.length:=by unfold childrenP;rw[List.length_map];exact List.length_filter_le _ _
  omega
 have HCO:=Lib.hid (fun W (hB:Below w.heap.size w W)=>coStr_any (childrenP s name) x KA _ kc W rfl hcl (hKS.keep hB))
 have hlk2: ∀z,(Instr.lookup 88 (.map (some c)) (.string name) false).run Tryz.prog (w.ext z)= .ok (.slice KA (childrenP s name).length kc) (w.ext z):=fun z=>hlk _ (below_ext w z)
 have HLK:=Lib.hid hlk
 obtain⟨_,htl,htc,hnl,hnc,httl,httc,hwl,hwc⟩:=hM
 obtain⟨R,hR⟩: ∃R,R=letsP s cls name x:=⟨_,rfl⟩
 rw[<-hR]
 unfold letsP at hR
 have HR:=Lib.hid hR
 clear hP hC hPP hlk hKS hR
 generalize marriedP s x name=ma at*
 generalize decide (Desc s x name)=de at*
 generalize(childrenP s name).any (sameB x)=kd at*
 generalize(childrenP s name).length=kl at*
 cases hs:sameB x name
 ·have hsx:(x.toList==name.toList)=false:=hs
  rw[hs]at HR
  by_cases h0:cls=0
  ·subst h0
   have HX:Hid (R=false):=by show _=_;rw[HR.out];rfl
   clear HR hlk2 HLK
   go_enter Tryz.func46,Tryz.ntmps46
   go_wp2_with fail
   go_ret
   rw[HX.out]
   exact Ret.of rfl Bw
  ·have HX:Hid (R=if ma||de then true else cls != 1&&kd):=by
    show _=_
    rw[HR.out]
    have:(cls==0)=false:=by simpa using h0
    rw[this]
    rfl
   clear HR
   cases ma
   ·cases de
    ·by_cases h1:cls=1
     ·subst h1
      have HX2:Hid (R=false):=by show _=_;rw[HX.out];rfl
      clear HX HLK hlk2
      go_enter Tryz.func46,Tryz.ntmps46
      go_upto_region 5 with fail
      (refine wp_region_ext_lit (by kernel_rfl) (by kernel_rfl) ?_
       repeat(first|go_big_quiet_skip|(go_big_quiet_want;go_big_quiet_op;first|go_big_quiet_on|(apply Exists.intro;refine⟨fun _=> ?_,?_⟩;(first|(go_at_call 47;exact quietx (HWM.out _ Bw))|(go_at_call 48;exact quietx (HDE.out _ Bw)));go_big_quiet_on)))
       refine wpQuiet_nil ?_
       rintro _ ⟨zq,rfl⟩)
      go_upto_region 7 with fail
      go_quiet (fail)
      go_wp2_with fail
      go_ret
      rw[HX2.out]
      exact Ret.of rfl Bw
     ·have HX2:Hid (R=kd):=by
       show _=_
       rw[HX.out]
       have:(cls != 1)=true:=by simpa using h1
       rw[this]
       simp
      clear HX
      go_enter Tryz.func46,Tryz.ntmps46
      go_upto_region 5 with fail
      (refine wp_region_ext_lit (by kernel_rfl) (by kernel_rfl) ?_
       repeat(first|go_big_quiet_skip|(go_big_quiet_want;go_big_quiet_op;first|go_big_quiet_on|(apply Exists.intro;refine⟨fun _=> ?_,?_⟩;(first|(go_at_call 47;exact quietx (HWM.out _ Bw))|(go_at_call 48;exact quietx (HDE.out _ Bw)));go_big_quiet_on)))
       refine wpQuiet_nil ?_
       rintro _ ⟨zq,rfl⟩)
      go_upto_region 7 with fail
      have hlk4: ∀z,(Instr.lookup 88 (.map (some c)) (.string name) false).run Tryz.prog ((w.ext zq).ext z)= .ok (.slice KA kl kc) ((w.ext zq).ext z):=fun z=>HLK.out _ Bw
      have hn1:(cls==1)=false:=by simpa using h1
      have hn2:(cls != 1)=true:=by simpa using h1
      have hn3:decide (cls=1)=false:=by simpa using h1
      (refine wp_region_ext_lit (by kernel_rfl) (by kernel_rfl) ?_
       repeat(first|go_big_quiet_skip|(go_big_quiet_want;go_big_quiet_op;first|go_big_quiet_on|(apply Exists.intro;refine⟨fun _=> ?_,?_⟩;(first|(go_at_call 49;exact quietx0 (HCO.out _ Bw)));go_big_quiet_on)))
       refine wpQuiet_nil ?_
       rintro _ ⟨zq,rfl⟩)
      go_wp2_with fail
      go_ret
      rw[HX2.out]
      exact Ret.of rfl Bw
    ·have HX2:Hid (R=true):=by show _=_;rw[HX.out];rfl
     clear HX HLK hlk2
     go_enter Tryz.func46,Tryz.ntmps46
     go_upto_region 5 with fail
     (refine wp_region_ext_lit (by kernel_rfl) (by kernel_rfl) ?_
      repeat(first|go_big_quiet_skip|(go_big_quiet_want;go_big_quiet_op;first|go_big_quiet_on|(apply Exists.intro;refine⟨fun _=> ?_,?_⟩;(first|(go_at_call 47;exact quietx (HWM.out _ Bw))|(go_at_call 48;exact quietx (HDE.out _ Bw)));go_big_quiet_on)))
      refine wpQuiet_nil ?_
      rintro _ ⟨zq,rfl⟩)
     go_wp2_with fail
     go_ret
     rw[HX2.out]
     exact Ret.of rfl Bw
   ·have HX2:Hid (R=true):=by show _=_;rw[HX.out];rfl
    clear HX HLK hlk2
    go_enter Tryz.func46,Tryz.ntmps46
    go_upto_region 5 with fail
    (refine wp_region_ext_lit (by kernel_rfl) (by kernel_rfl) ?_
     repeat(first|go_big_quiet_skip|(go_big_quiet_want;go_big_quiet_op;first|go_big_quiet_on|(apply Exists.intro;refine⟨fun _=> ?_,?_⟩;(go_at_call 47;exact quietx (HWM.out _ Bw));go_big_quiet_on)))
     refine wpQuiet_nil ?_
     rintro _ ⟨zq,rfl⟩)
    go_wp2_with fail
    go_ret
    rw[HX2.out]
    exact Ret.of rfl Bw
 ·have hsx:(x.toList==name.toList)=true:=hs
  have HX:Hid (R=true):=by show _=_;rw[HR.out,hs];rfl
  clear HR hlk2 HLK
  go_enter Tryz.func46,Tryz.ntmps46
  go_wp2_with fail
  go_ret
  rw[HX.out]
  exact Ret.of rfl Bw
def closV (N TT WW:Nat):Value:= .func (.func 46) #[] #[.pointer (some ⟨N,0,none⟩), .pointer (some ⟨TT,0,none⟩), .pointer (some ⟨WW,0,none⟩)]
set_option maxRecDepth 100000 in
set_option maxHeartbeats 2000000 in
theorem entPart_any (base b T N TT WW FB:Nat) (s:St) (cls:Int) (name:ByteArray) (q:RPart) (w:World) (hM:MbAt base w b T N TT WW s cls name) (hFl:FB<w.heap.size) (hFB:w.cell? ⟨FB,0,none⟩=some (closV N TT WW)) (hml:s.marriages.length<=1000) (hkl:s.children.length<=1000):
 Calls Tryz.prog 89 #[.agg #[.string q.name, .int .i64 q.num, .int .i64 q.den], .pointer (some ⟨FB,0,none⟩)] w (Ret w (.bool (!noB q.name&&letsP s cls name q.name))):=by
 have eg: ∀args w,(callFunc 46 args).run Tryz.prog w= .ok (.enter 46 args) w:=enters_of Tryz.func46 (by kernel_rfl) rfl
 have HLE:=Lib.hid (fun W (hB:Below w.heap.size w W)=>lets_any base b T N TT WW s cls name q.name W (hM.keep hB) hml hkl)
 unfold closV at hFB
 have hFn:FB≠w.heap.size:=by omega
 clear hM
 obtain⟨nm,nu,de⟩:=q
 simp only at*
 generalize letsP s cls name nm=le at*
 cases hn:noB nm
 ·have hn1:nm.toList.isEmpty=false:=hn
  have hn2: ¬nm.toList=[]:=by simpa using hn1
  go_enter Tryz.func89,Tryz.ntmps89
  go_wp2_with (go_at_fn 46;refine(HLE.out _ Bw).mono ?_;rintro e wq ⟨rfl,z,rfl⟩)
  go_ret
  exact Ret.of (bool_eq (by simp)) Bw
 ·have hn1:nm.toList.isEmpty=true:=hn
  have hn2:nm.toList=[]:=by simpa using hn1
  go_enter Tryz.func89,Tryz.ntmps89
  go_wp2_with fail
  go_ret
  exact Ret.of (bool_eq (by simp)) Bw
theorem sl_map {α β:Type} {w:World} {size:Nat} {f:α->List Value} {g:β->List Value} {A:Option Addr} {xs:List α} (h:Sl w size f A xs) (m:α->β) (hm: ∀x,g (m x)=f x):Sl w size g A (xs.map m):=fun hl=>by
 obtain⟨b,off,hA,hb,hc⟩:=h (by simpa using hl)
 refine⟨b,off,hA,hb,fun k x hk j u hu=> ?_⟩
 rw[List.getElem?_map,Option.map_eq_some_iff]at hk
 obtain⟨y,hy,rfl⟩:=hk
 rw[hm]at hu
 exact hc k y hy j u hu
def toR (p:ByteArray×Rat):RPart:=⟨p.1,p.2.num,p.2.den⟩
noncomputable def entP (s:St) (g:Grave) (name:ByteArray):Bool:=g.holders.any (fun p=>!noB p.1&&letsP s g.cls name p.1)||g.died.any (letsP s g.cls name)
set_option maxRecDepth 100000 in
set_option maxHeartbeats 2000000 in
theorem entitled_any (base b T N TT WW:Nat) (B:List Nat) (s:St) (g:Grave) (name:ByteArray) (w:World) (hM:MbAt base w b T N TT WW s g.cls name) (hT:TombAt w base B T g) (hml:s.marriages.length<=1000) (hkl:s.children.length<=1000) (hhl:g.holders.length<=100000) (hdl:g.died.length<=100000):
 Calls Tryz.prog 45 #[.pointer (some ⟨T,0,none⟩),closV N TT WW] w (Ret w (.bool (entP s g name))):=by
 have eg: ∀args w,(callFunc 46 args).run Tryz.prog w= .ok (.enter 46 args) w:=enters_of Tryz.func46 (by kernel_rfl) rfl
 have eg2: ∀args w,(callFunc 89 args).run Tryz.prog w= .ok (.enter 89 args) w:=enters_of Tryz.func89 (by kernel_rfl) rfl
 obtain⟨H,hc',D,dc,frm,t1,t2,t3,t4,t5,t6,t7⟩:=hT
 have hTl:=blk_lt t1
 unfold TombC at t1
 have k4:w.cell? ⟨T,4,none⟩=some (.slice H g.holders.length hc'):=by simp only[World.cell?,t1];rfl
 have k5:w.cell? ⟨T,5,none⟩=some (.slice D g.died.length dc):=by simp only[World.cell?,t1];rfl
 have hS1:Sl w 3 RPart.cells H (g.holders.map toR):=sl_map (Ro.sl part_len t5) toR (fun _=>rfl)
 have hS2:=Ro.sl sC_len t6
 have hcf1: ∀W,Below w.heap.size w W->w.heap.size<W.heap.size->W.cell? ⟨w.heap.size,0,none⟩=some (closV N TT WW)->Calls Tryz.prog 78 #[.slice H g.holders.length hc', .func (.func 89) #[] #[.pointer (some ⟨w.heap.size,0,none⟩)]] W (Ret W (.bool ((g.holders.map toR).any fun q=>!noB q.name&&letsP s g.cls name q.name))):=fun W hB hl hc=>by
  refine cfPart_any 89 _ eg2 _ H _ hc' (g.holders.map toR) W (by simp) (by simpa using hhl) (hS1.keep hB) fun x _ W' hB'=> ?_
  refine(entPart_any base b T N TT WW w.heap.size s g.cls name x W' (hM.keep (hB.trans (hB'.mono hB.size))) (Nat.lt_of_lt_of_le hl hB'.size) ((B_cell hB' hl).trans hc) hml hkl).mono ?_
  rintro e wq ⟨rfl,z,rfl⟩
  exact⟨rfl,hB'.trans ((below_ext W' z).mono hB'.size)⟩
 have hcf2: ∀W,Below w.heap.size w W->Calls Tryz.prog 62 #[.slice D g.died.length dc,closV N TT WW] W (Ret W (.bool (g.died.any (letsP s g.cls name)))):=fun W hB=>by
  refine cfStr_any 46 _ eg _ D _ dc g.died W rfl hdl (hS2.keep hB) fun x _ W' hB'=> ?_
  refine(lets_any base b T N TT WW s g.cls name x W' (hM.keep (hB.trans (hB'.mono hB.size))) hml hkl).mono ?_
  rintro e wq ⟨rfl,z,rfl⟩
  exact⟨rfl,hB'.trans ((below_ext W' z).mono hB'.size)⟩
 have he:entP s g name=((g.holders.map toR).any (fun q=>!noB q.name&&letsP s g.cls name q.name)||g.died.any (letsP s g.cls name)):=by
  unfold entP
  rw[List.any_map]
  rfl
 rw[he]
 generalize(g.holders.map toR).any (fun q=>!noB q.name&&letsP s g.cls name q.name)=b1 at*
 generalize g.died.any (letsP s g.cls name)=b2 at*
 have HC1:=Lib.hid hcf1
 have HC2:=Lib.hid hcf2
 unfold closV at HC1 HC2
 unfold closV
 clear hcf1 hcf2 hS1 hS2 t1 t5 t6 t7 hM he eg eg2
 have hTn:T≠w.heap.size:=by omega
 cases b1
 ·go_enter Tryz.func45,Tryz.ntmps45
  go_upto_region 1 with fail
  (refine wp_region_ext_lit (by kernel_rfl) (by kernel_rfl) ?_
   repeat(first|go_big_quiet_skip|(go_big_quiet_want;go_big_quiet_op;first|go_big_quiet_on|(apply Exists.intro;refine⟨fun _=> ?_,?_⟩;(first|(go_at_call 78;exact quietx (HC1.out _ Bw (by simp[ext_size];omega) (by simp[go_sem])))|(go_at_call 62;exact quietx (HC2.out _ Bw)));go_big_quiet_on)))
   refine wpQuiet_nil ?_
   rintro _ ⟨zq,rfl⟩)
  go_wp2_with fail
  go_ret
  exact Ret.of (bool_eq (by simp)) Bw
 ·go_enter Tryz.func45,Tryz.ntmps45
  go_upto_region 1 with fail
  (refine wp_region_ext_lit (by kernel_rfl) (by kernel_rfl) ?_
   repeat(first|go_big_quiet_skip|(go_big_quiet_want;go_big_quiet_op;first|go_big_quiet_on|(apply Exists.intro;refine⟨fun _=> ?_,?_⟩;((go_at_call 78;exact quietx (HC1.out _ Bw (by simp[ext_size];omega) (by simp[go_sem]))));go_big_quiet_on)))
   refine wpQuiet_nil ?_
   rintro _ ⟨zq,rfl⟩)
  go_wp2_with fail
  go_ret
  exact Ret.of (bool_eq (by simp)) Bw
end Go.Proofs.YtmaidggpbihlgaaGreatDoor
namespace Go.Proofs.YtmaidggpbihlgaaGreatDoor
open Go.RowKit Go.Shelf
attribute [local go_sem] World.cell?_alloc_mark ext_size ext_cell ext_frozen lt_add_r lt_add_r2 lt_add_r3 lt_add_r4 lt_add_r5 lt_add_r6 lt_add_r7 lt_add_r8
attribute [local go_sem] ext_setCell alloc_setCell_lt
noncomputable def mayBuryP (laws:List Law) (ds:List Deed) (place name:ByteArray) (day:Int):Bool×Int:=
 if onErr laws ds [place,name] day != 0 then(false,onErr laws ds [place,name] day)else match graveIx (replayD laws ds day).1 place day with
  |none=>(false,12)
  |some i=>(((replayD laws ds day).1.graves.getD i zeroG).cls==4||entP (replayD laws ds day).1 ((replayD laws ds day).1.graves.getD i zeroG) name,0)
theorem blk_cell {W:World} {a o:Nat} {v:Value} (h:W.cell? ⟨a,o,none⟩=some v):a<W.heap.size:=by
 unfold World.cell? at h
 cases hh:W.heap[a]? with
 |none=>simp[hh]at h
 |some x=>exact blk_lt hh
set_option maxRecDepth 100000 in
set_option maxHeartbeats 2000000 in
theorem mayBury_any (laws:List Law) (ds:List Deed) (place name:ByteArray) (day:Int) (LA:Option Addr) (n nc:Nat) (DA:Option Addr) (m mc:Nat) (w:World) (hR:RightsIn w laws ds LA n nc DA m mc) (hF:FormsIn w) (hL:LensIn w) (hO: ∀d∈ds,okLens d) (hp:place.size<=100000) (hn:name.size<=100000):
 Calls Tryz.prog 19 #[.agg #[.slice LA n nc, .slice DA m mc], .string place, .string name, .int .i64 day] w (Ret w (.tuple #[.bool (mayBuryP laws ds place name day).1, .int .i64 (mayBuryP laws ds place name day).2])):=by
 have hin:=fun W (hB:Below w.heap.size w W) NA (hS:Sl W 1 sC NA [name])=>inForceR_any laws ds place [name] day LA n nc DA m mc NA 1 1 W (hR.keep hB) (hF.keep hB) (hL.keep hB) hO hp rfl (by simp) (by simpa using hn) hS
 have HIN:=Lib.hid hin
 clear hin hR hF hL hO hp hn
 unfold InForcePost at HIN
 obtain⟨R,hR⟩: ∃R,R=mayBuryP laws ds place name day:=⟨_,rfl⟩
 rw[<-hR]
 unfold mayBuryP at hR
 generalize onErr laws ds [place,name] day=E at*
 generalize(replayD laws ds day).1=s at*
 have HR:=Lib.hid hR
 clear hR
 by_cases h0:E=0
 ·have HE:=Lib.hid h0
  cases hix:graveIx s place day with
  |none=>
   have HX:Hid (R=(false,12)):=by show _=_;rw[HR.out,hix,if_neg (by simp[h0])]
   have HIX:=Lib.hid hix
   clear HR hix h0
   go_enter Tryz.func19,Tryz.ntmps19
   go_wp2_with (go_at_call 44
                go_must(refine(HIN.out _ Bw _ (sl_one (J_new _ _ _ (by simp)))).mono ?_)
                rintro e wq ⟨h1,⟨hne,_⟩|⟨_,_,rfl⟩|⟨_,base,b,la,co,B,T,i,g,hi,_⟩⟩
                ·exact absurd HE.out hne
                rotate_left 1
                ·rw[HIX.out]at hi;cases hi
                go_must(have hm:=(show Below w.heap.size _ wq from h1.mono (by simp only[World.size_alloc];omega)))
                go_must(have hb9:Below w.heap.size w wq:=Below.trans Bw hm)
                have HB9:=Lib.hid hb9
                clear h1 hm hb9)
   go_ret2
   rw[HX.out]
   have hb9:=HB9.out
   have hbs:=hb9.size
   exact Ret.of rfl Bw
  |some i=>
   have HIX:=Lib.hid hix
   have hX:R=((s.graves.getD i zeroG).cls==4||entP s (s.graves.getD i zeroG) name,0):=by rw[HR.out,hix,if_neg (by simp[h0])]
   obtain⟨g,hgi,-,-⟩:=graveIx_some hix
   rw[grave_at hgi]at hX
   have HX:=Lib.hid hX
   have HGI:=Lib.hid hgi
   clear HR hix h0 hX hgi
   go_enter Tryz.func19,Tryz.ntmps19
   go_upto_region 2 with
    (go_at_call 44
     go_must(refine(HIN.out _ Bw _ (sl_one (J_new _ _ _ (by simp)))).mono ?_)
     rintro e wq ⟨h1,⟨hne,_⟩|⟨_,hi,_⟩|⟨_,base,b,la,co,B,T,i',g',hi,hg',rfl,h2,h3,h4,h5,h6⟩⟩
     go_must(·exact absurd HE.out hne)
     go_must(·rw[HIX.out]at hi;cases hi)
     go_must(have hm:=(show Below w.heap.size _ wq from h1.mono (by simp only[World.size_alloc];omega)))
     go_must(have hb9:Below w.heap.size w wq:=Below.trans Bw hm)
     go_must(have hN9:=(h1.cell (p:=⟨w.heap.size+1,0,none⟩) (by simp<;>omega)).trans (show _=some (Value.string name) from by simp[go_sem]))
     go_must(have hgg:g'=g:=(by rw[HIX.out]at hi;cases hi;rw[HGI.out]at hg';exact(Option.some.inj hg').symm))
     go_must(subst hgg)
     have HN9:=Lib.hid hN9
     have HB9:=Lib.hid hb9
     have hs9:=hb9.size
     have H3:=Lib.hid h3
     have H4:=Lib.hid h4
     have H6:=Lib.hid h6
     clear h1 hm hb9 hN9 h2 h3 h4 h5 h6 hi hg')
   have hTA:=H4.out
   obtain⟨H,hc',D,dc,frm,t1,t2,t3,t4,t5,t6,t7⟩:=H4.out
   have hTl:=blk_lt t1
   unfold TombC at t1
   have k1:wq.cell? ⟨T,1,none⟩=some (.int .i64 g'.cls):=by simp only[World.cell?,t1];rfl
   obtain⟨k,hk6,hfew⟩:=H6.out
   have hhl:=hfew.held g' (List.mem_of_getElem? HGI.out)
   have hml:=hfew.marr
   have hkl:=hfew.kids
   have hbq:=H3.out.lt
   have hnl:w.heap.size+1<wq.heap.size:=blk_cell HN9.out
   have hen: ∀W,Below wq.heap.size wq W->W.cell? ⟨wq.heap.size,0,none⟩=some (.pointer (some ⟨b,0,none⟩))->W.cell? ⟨wq.heap.size+1,0,none⟩=some (.pointer (some ⟨T,0,none⟩))->Calls Tryz.prog 45 #[.pointer (some ⟨T,0,none⟩),closV (w.heap.size+1) (wq.heap.size+1) wq.heap.size] W (Ret W (.bool (entP s g' name))):=fun W hB e1 e2=>
    entitled_any base b T (w.heap.size+1) (wq.heap.size+1) wq.heap.size B s g' name W ⟨H3.out.peo.keep hB,Nat.lt_of_lt_of_le hTl hB.size,(B_cell hB hTl).trans k1,Nat.lt_of_lt_of_le hnl hB.size,(B_cell hB hnl).trans HN9.out,blk_cell e2,e2,blk_cell e1,e1⟩ (hTA.keep hB) (by omega) (by omega) (by omega) (by omega)
   have HEN:=Lib.hid hen
   unfold closV at HEN
   have HT9:=Lib.hid hTl
   have hTn:T≠wq.heap.size:=by omega
   have hTn1:T≠wq.heap.size+1:=by omega
   generalize entP s g' name=ep at*
   clear hen hTA t1 t2 t3 t4 t5 t6 t7 hhl hml hkl hfew hbq
   by_cases h4:g'.cls=4
   ·have HX2:Hid (R=(true,0)):=by show _=_;rw[HX.out,h4];rfl
    rw[h4]at k1
    go_wp2_with fail
    go_ret2
    rw[HX2.out]
    have hb9:=HB9.out
    exact Ret.of rfl Bw
   ·have HX2:Hid (R=(ep,0)):=by
     show _=_
     rw[HX.out,show(g'.cls==4)=false by simpa using h4]
     rfl
    go_wp2_with (go_at_call 45;go_must(refine(HEN.out _ Bw (by simp[go_sem]) (by simp[go_sem])).mono ?_);rintro e wz ⟨rfl,z,rfl⟩)
    go_ret2
    rw[HX2.out]
    have hb9:=HB9.out
    exact Ret.of rfl Bw
 ·have HX:Hid (R=(false,E)):=by show _=_;rw[HR.out,if_pos (by simpa using h0)]
  have HE:=Lib.hid h0
  clear HR h0
  go_enter Tryz.func19,Tryz.ntmps19
  go_wp2_with (go_at_call 44
               go_must(refine(HIN.out _ Bw _ (sl_one (J_new _ _ _ (by simp)))).mono ?_)
               rintro e wq ⟨h1,⟨_,rfl⟩|⟨he,_⟩|⟨he,_⟩⟩
               rotate_left 1
               ·exact absurd he HE.out
               ·exact absurd he HE.out
               go_must(have hm:=(show Below w.heap.size _ wq from h1.mono (by simp only[World.size_alloc];omega)))
               go_must(have hb9:Below w.heap.size w wq:=Below.trans Bw hm)
               have HB9:=Lib.hid hb9
               clear h1 hm hb9)
  go_ret2
  rw[HX.out]
  have hb9:=HB9.out
  have hbs:=hb9.size
  exact Ret.of rfl Bw
end Go.Proofs.YtmaidggpbihlgaaGreatDoor
namespace Go.Proofs.YtmaidggpbihlgaaGreatDoor
open Go.RowKit Go.Shelf
attribute [local go_sem] World.cell?_alloc_mark ext_size ext_cell ext_frozen lt_add_r lt_add_r2 lt_add_r3 lt_add_r4 lt_add_r5 lt_add_r6 lt_add_r7 lt_add_r8
attribute [local go_sem] ext_setCell alloc_setCell_lt
theorem results_part {fn:Func} {p:Tmp} (h:fn.results= #[.cell p 49]) (tmps:Array Value) (w:World) (B:Nat) (x0 x1 x2:Value) (hp:tmps.getD p undef= .pointer (some ⟨B,0,none⟩))
 (hx:w.heap[B]?=some (.cells #[x0,x1,x2] 49)):(results fn tmps).run Tryz.prog w= .ok (.agg #[x0,x1,x2]) w:=by
 have h0:w.cell? ⟨B,0,none⟩=some x0:=by simp only[World.cell?,hx];rfl
 have h1:w.cell? ⟨B,1,none⟩=some x1:=by simp only[World.cell?,hx];rfl
 have h2:w.cell? ⟨B,2,none⟩=some x2:=by simp only[World.cell?,hx];rfl
 clear hx
 rw[results_c1 h,hp]
 go_simp
theorem results_rights {fn:Func} {p:Tmp} (h:fn.results= #[.cell p 25]) (tmps:Array Value) (w:World) (B:Nat) (x0 x1:Value) (hp:tmps.getD p undef= .pointer (some ⟨B,0,none⟩))
 (hx:w.heap[B]?=some (.cells #[x0,x1] 25)):(results fn tmps).run Tryz.prog w= .ok (.agg #[x0,x1]) w:=by
 have h0:w.cell? ⟨B,0,none⟩=some x0:=by simp only[World.cell?,hx];rfl
 have h1:w.cell? ⟨B,1,none⟩=some x1:=by simp only[World.cell?,hx];rfl
 clear hx
 rw[results_c1 h,hp]
 go_simp
set_option maxRecDepth 100000 in
set_option maxHeartbeats 2000000 in
theorem part5_any (n:ByteArray) (a b:Int) (w:World):Calls Tryz.prog 22 #[.string n, .int .i64 a, .int .i64 b] w (Ret w (.agg #[.string n, .int .i64 a, .int .i64 b])):=by
 go_enter Tryz.func22,Tryz.ntmps22
 go_wp2_with fail
 refine bodyPost_ret (v:= .agg #[.string n, .int .i64 a, .int .i64 b]) ?_ rfl ?_
 ·exact results_part rfl _ _ w.heap.size _ _ _ rfl (J_new _ _ _ rfl)
 ·exact Ret.of rfl Bw
def FamPost (w:World) (e:Ending) (w':World):Prop:=
 ∃LA DA,e= .returned (.agg #[.slice LA 2 2, .slice DA 5 5])/\RightsIn w' famLaws famDeeds LA 2 2 DA 5 5/\Below w.heap.size w w'
theorem sl_cells {α:Type} {w:World} {b size:Nat} {f:α->List Value} {t:TypeId} {fr:Nat×Nat} {cs:Array Value} {xs:List α} (hlen: ∀x,(f x).length=size) (h:w.heap[b]?=some (.cells cs t fr)) (hc:xs.flatMap f=cs.toList):Sl w size f (some ⟨b,0,none⟩) xs:=fun _=>
 ⟨b,0,rfl,blk_lt h,fun k x hk j u hu=>by
   have:=flat_at f size hlen xs k x hk j u hu
   rw[hc]at this
   simp only[World.cell?,h,Nat.zero_add]
   simpa using this⟩
def deedC (k d:Int) (p f:ByteArray) (s:Value) (c y:Int):List Value:=[.int .i64 k, .int .i64 d, .string p, .string f,s, .int .i64 c, .int .i64 y]
def famCells (p0 p1 p2 p3:Nat):List Value:=
 deedC 6 0 n0 nAnn (.slice (some ⟨p0,0,none⟩) 1 1) 0 0++(deedC 6 0 n0 nAnn (.slice (some ⟨p1,0,none⟩) 1 1) 0 0++(deedC 7 0 n0 nAnn (.slice (some ⟨p2,0,none⟩) 1 1) 0 0++(deedC 0 100 nA1 n0 (.slice (some ⟨p3,0,none⟩) 1 1) 1 0++deedC 8 200 n0 nAnn (.slice none 0 0) 0 0)))
theorem fam_slw {W:World} {D p0 p1 p2 p3:Nat} {f0 f1 f2 f3 fd:Nat×Nat}
 (h0:W.heap[p0]?=some (.cells #[.string nBob, .int .i64 0, .int .i64 0] 49 f0)) (h1:W.heap[p1]?=some (.cells #[.string nCat, .int .i64 0, .int .i64 0] 49 f1))
 (h2:W.heap[p2]?=some (.cells #[.string nDan, .int .i64 0, .int .i64 0] 49 f2)) (h3:W.heap[p3]?=some (.cells #[.string nAnn, .int .i64 1, .int .i64 1] 49 f3))
 (hd:W.heap[D]?=some (.cells (famCells p0 p1 p2 p3).toArray 56 fd)):SlW W 7 deedR (some ⟨D,0,none⟩) famDeeds:=fun _=>by
 refine⟨D,0,rfl,blk_lt hd,fun k x hk=> ?_⟩
 have hcell: ∀j,W.cell? ⟨D,j,none⟩=(famCells p0 p1 p2 p3)[j]?:=fun j=>by simp only[World.cell?,hd];simp
 match k,hk with
 |0,hk=>
  obtain rfl:famD 0=x:=by simpa[famDeeds]using hk
  exact⟨_,⟨_,1,Nat.le_refl _,rfl,sl_cells (fun _=>rfl) h0 rfl⟩,fun j u hu=>by
   rw[hcell]
   match j,hu with
   |0,hu|1,hu|2,hu|3,hu|4,hu|5,hu|6,hu=>exact hu⟩
 |1,hk=>
  obtain rfl:famD 1=x:=by simpa[famDeeds]using hk
  exact⟨_,⟨_,1,Nat.le_refl _,rfl,sl_cells (fun _=>rfl) h1 rfl⟩,fun j u hu=>by
   rw[hcell]
   match j,hu with
   |0,hu|1,hu|2,hu|3,hu|4,hu|5,hu|6,hu=>exact hu⟩
 |2,hk=>
  obtain rfl:famD 2=x:=by simpa[famDeeds]using hk
  exact⟨_,⟨_,1,Nat.le_refl _,rfl,sl_cells (fun _=>rfl) h2 rfl⟩,fun j u hu=>by
   rw[hcell]
   match j,hu with
   |0,hu|1,hu|2,hu|3,hu|4,hu|5,hu|6,hu=>exact hu⟩
 |3,hk=>
  obtain rfl:famD 3=x:=by simpa[famDeeds]using hk
  exact⟨_,⟨_,1,Nat.le_refl _,rfl,sl_cells (fun _=>rfl) h3 rfl⟩,fun j u hu=>by
   rw[hcell]
   match j,hu with
   |0,hu|1,hu|2,hu|3,hu|4,hu|5,hu|6,hu=>exact hu⟩
 |4,hk=>
  obtain rfl:famD 4=x:=by simpa[famDeeds]using hk
  exact⟨_,⟨none,0,Nat.le_refl _,rfl,Sl.nil⟩,fun j u hu=>by
   rw[hcell]
   match j,hu with
   |0,hu|1,hu|2,hu|3,hu|4,hu|5,hu|6,hu=>exact hu⟩
 |k+5,hk=>simp[famDeeds]at hk
set_option maxRecDepth 100000 in
set_option maxHeartbeats 2000000 in
theorem family_any (w:World):Calls Tryz.prog 18 #[] w (FamPost w):=by
 go_enter Tryz.func18,Tryz.ntmps18
 go_wp2_with (go_at_call 22;go_must(refine(part5_any _ _ _ _).mono ?_);rintro e wq ⟨rfl,z,rfl⟩)
 refine bodyPost_ret (v:= .agg #[.slice (some ⟨w.heap.size+1,0,none⟩) 2 2, .slice (some ⟨w.heap.size+1+1+1+1+1+z.os.size+1,0,none⟩) 5 5]) ?_ rfl ?_
 ·refine results_rights rfl _ _ w.heap.size _ _ rfl ?_
  (repeat(first|with_reducible exact J_new _ _ _ (by simp)|with_reducible exact J_new _ _ _ (by simp[ext_size])|with_reducible refine J_ext ?_|with_reducible refine J_alloc ?_))
 ·refine⟨_,_,rfl,⟨rfl,rfl,by decide,by decide,?h1,?h2⟩,Bw⟩
  case h1=>
   refine sl_cells (t:=100) (fr:=(0,0)) (cs:= #[.int .i64 0, .bool false, .int .i64 1, .int .i64 4, .int .i64 50000, .bool true, .int .i64 1, .int .i64 2]) (fun _=>rfl) ?_ rfl
   (repeat(first|with_reducible exact J_new _ _ _ (by simp)|with_reducible exact J_new _ _ _ (by simp[ext_size])|with_reducible refine J_ext ?_|with_reducible refine J_alloc ?_))
  case h2=>
   refine fam_slw (p0:=w.heap.size+1+1) (p1:=w.heap.size+1+1+1) (p2:=w.heap.size+1+1+1+1) (p3:=w.heap.size+1+1+1+1+1+z.os.size) (f0:=(0,0)) (f1:=(0,0)) (f2:=(0,0)) (f3:=(0,0)) (fd:=(0,0)) ?_ ?_ ?_ ?_ ?_
   ·(repeat(first|exact J_new _ _ _ (by simp[ext_size];done)|with_reducible refine J_ext ?_|with_reducible refine J_alloc ?_))
   ·(repeat(first|exact J_new _ _ _ (by simp[ext_size];done)|with_reducible refine J_ext ?_|with_reducible refine J_alloc ?_))
   ·(repeat(first|exact J_new _ _ _ (by simp[ext_size];done)|with_reducible refine J_ext ?_|with_reducible refine J_alloc ?_))
   ·(repeat(first|exact J_new _ _ _ (by simp[ext_size];done)|with_reducible refine J_ext ?_|with_reducible refine J_alloc ?_))
   ·(repeat(first|exact J_new _ _ _ (by simp[ext_size];done)|with_reducible refine J_ext ?_|with_reducible refine J_alloc ?_))
theorem sl_same {α β:Type} {w:World} {size:Nat} {f:α->List Value} {g:β->List Value} {A:Option Addr} {xs:List α} {ys:List β} (h:Sl w size f A xs) (he:xs.map f=ys.map g):Sl w size g A ys:=fun hl=>by
 have hlen:xs.length=ys.length:=by simpa using congrArg List.length he
 obtain⟨b,off,hA,hb,hc⟩:=h (by omega)
 refine⟨b,off,hA,hb,fun k y hy j u hu=> ?_⟩
 have hk:=(List.getElem?_eq_some_iff.1 hy).1
 have h1:=congrArg (fun l=>l[k]?) he
 simp only[List.getElem?_map,hy,List.getElem?_eq_getElem (show k<xs.length by omega),Option.map_some,Option.some.injEq]at h1
 exact hc k _ (List.getElem?_eq_getElem (by omega)) j u (by rw[h1];exact hu)
set_option maxRecDepth 100000 in
set_option maxHeartbeats 2000000 in
theorem sameParts_any (xs:List RPart) (P Q:Option Addr) (pc qc:Nat) (w:World) (hp:Sl w 3 RPart.cells P xs) (hq:Sl w 3 RPart.cells Q xs) (hl:xs.length<=100000) (hpc:xs.length<=pc) (hqc:xs.length<=qc):
 Calls Tryz.prog 21 #[.slice P xs.length pc, .slice Q xs.length qc] w (Ret w (.bool true)):=by
 go_enter Tryz.func21,Tryz.ntmps21
 go_wp2_with fail
 go_loopw [5] (fun i wr=> ∃j:Nat,j<=xs.length/\i= .int .i64 j/\ ∃z,wr=w.ext z) (fun i _=>xs.length-(intOf i).toNat)
 case atStart=>exact⟨0,Nat.zero_le _,rfl,ext_below (Below.refl _ _)⟩
 case round=>
  obtain⟨j,hj,rfl,z,rfl⟩:=hrel
  by_cases hlt:j<xs.length
  ·obtain⟨b,off,rfl,hb,hc⟩:=hp.at hlt
   obtain⟨b',off',rfl,hb',hc'⟩:=hq.at hlt
   have hlt2:(j:Int)<(xs.length:Int):=by omega
   have hj0:(0:Int)<=(j:Int):=by omega
   generalize xs[j]=x at*
   have x0:w.cell? ⟨b,off+j*3,none⟩=some (.string x.name):=hc 0 _ rfl
   have y0:w.cell? ⟨b',off'+j*3,none⟩=some (.string x.name):=hc' 0 _ rfl
   have x1:w.cell? ⟨b,off+j*3+1,none⟩=some (.int .i64 x.num):=hc 1 _ rfl
   have y1:w.cell? ⟨b',off'+j*3+1,none⟩=some (.int .i64 x.num):=hc' 1 _ rfl
   have x2:w.cell? ⟨b,off+j*3+2,none⟩=some (.int .i64 x.den):=hc 2 _ rfl
   have y2:w.cell? ⟨b',off'+j*3+2,none⟩=some (.int .i64 x.den):=hc' 2 _ rfl
   clear hc hc'
   go_wp2_with fail
   (refine wp_region_ext_lit (by kernel_rfl) (by kernel_rfl) ?_
    repeat(first|go_big_quiet_skip|(go_big_quiet_want;go_big_quiet_op;first|go_big_quiet_on|(apply Exists.intro;refine⟨fun _=> ?_,?_⟩;(fail);go_big_quiet_on)))
    refine wpQuiet_nil ?_
    rintro _ ⟨zq,rfl⟩)
   go_wp2_with fail
   go_roundw
   case rel=>exact⟨j+1,by omega,by go_num,ext_below Bw⟩
   case measure=>simp[intOf];omega
  ·have hnl: ¬((j:Int)<(xs.length:Int)):=by omega
   go_wp2_with fail
   go_ret
   exact Ret.of rfl Bw
set_option maxRecDepth 100000 in
set_option maxHeartbeats 2000000 in
theorem sameInts_any (xs:List Nat) (P Q:Option Addr) (pc qc:Nat) (w:World) (hp:Sl w 1 intC P xs) (hq:Sl w 1 intC Q xs) (hl:xs.length<=100000) (hpc:xs.length<=pc) (hqc:xs.length<=qc):
 Calls Tryz.prog 23 #[.slice P xs.length pc, .slice Q xs.length qc] w (Ret w (.bool true)):=by
 go_enter Tryz.func23,Tryz.ntmps23
 go_wp2_with fail
 go_loopw [5] (fun i wr=> ∃j:Nat,j<=xs.length/\i= .int .i64 j/\ ∃z,wr=w.ext z) (fun i _=>xs.length-(intOf i).toNat)
 case atStart=>exact⟨0,Nat.zero_le _,rfl,ext_below (Below.refl _ _)⟩
 case round=>
  obtain⟨j,hj,rfl,z,rfl⟩:=hrel
  by_cases hlt:j<xs.length
  ·obtain⟨b,off,rfl,hb,hc⟩:=hp.at hlt
   obtain⟨b',off',rfl,hb',hc'⟩:=hq.at hlt
   have hlt2:(j:Int)<(xs.length:Int):=by omega
   have hj0:(0:Int)<=(j:Int):=by omega
   generalize xs[j]=x at*
   have x0:w.cell? ⟨b,off+j,none⟩=some (.int .i64 (x:Int)):=by have:=hc 0 _ rfl;simpa using this
   have y0:w.cell? ⟨b',off'+j,none⟩=some (.int .i64 (x:Int)):=by have:=hc' 0 _ rfl;simpa using this
   clear hc hc'
   go_wp2_with fail
   (refine wp_region_ext_lit (by kernel_rfl) (by kernel_rfl) ?_
    repeat(first|go_big_quiet_skip|(go_big_quiet_want;go_big_quiet_op;first|go_big_quiet_on|(apply Exists.intro;refine⟨fun _=> ?_,?_⟩;(fail);go_big_quiet_on)))
    refine wpQuiet_nil ?_
    rintro _ ⟨zq,rfl⟩)
   go_wp2_with fail
   go_roundw
   case rel=>exact⟨j+1,by omega,by go_num,ext_below Bw⟩
   case measure=>simp[intOf];omega
  ·have hnl: ¬((j:Int)<(xs.length:Int)):=by omega
   go_wp2_with fail
   go_ret
   exact Ret.of rfl Bw
end Go.Proofs.YtmaidggpbihlgaaGreatDoor
