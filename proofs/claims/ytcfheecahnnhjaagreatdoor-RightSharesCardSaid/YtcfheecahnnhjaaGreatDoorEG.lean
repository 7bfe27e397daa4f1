import Derived.Test.YtcfheecahnnhjaaGreatDoorE5
import Derived.Test.YtcfheecahnnhjaaGreatDoorE7
import Derived.Test.YtcfheecahnnhjaaGreatDoorOC
set_option linter.all false
set_option maxRecDepth 100000
set_option maxHeartbeats 4000000
namespace Go.Proofs.YtcfheecahnnhjaaGreatDoor
open Go.RowKit Go.Shelf
attribute [local go_sem] World.cell?_alloc_mark zag za4 zar zaB zaw zax zay zaz za0 za1 za2
attribute [local go_sem] zas zad
section
noncomputable def ze1 (laws:List Law) (s:St) (co:Nat) (last:Int) (d:Deed):St×Int:=
 if decide (60<=co)then(s,8)else if decide (d.day<last)then(s,9)else zbr laws s d
def ziR(base b:Nat)(x:St×Int)(day la co:Int)(w:World)(e:Ending)(w':World):Prop:=
 e=.returned (.int .i64 x.2)/\WldAt base w' b x.1 (if x.2=0 then day else la) (if x.2=0 then co+1 else co)/\Below base w w'
theorem wldC_tick{W:World}{b d c p wl r:Nat}{mv tv:Value}{la co:Int}(h:WldC W b d c p wl r mv tv la co)(la' co':Int):WldC ((W.setCell ⟨b,7,none⟩ (.int .i64 la')).setCell ⟨b,8,none⟩ (.int .i64 co')) b d c p wl r mv tv la' co':=by
 unfold WldC at*;have:=Joins.block_setCell (i:=8) (Joins.block_setCell (i:=7) h (.int .i64 la')) (.int .i64 co');simpa using this
theorem wld_tick{base b:Nat}{W:World}{s:St}{la co:Int}(h:WldAt base W b s la co)(la' co':Int):WldAt base ((W.setCell ⟨b,7,none⟩ (.int .i64 la')).setCell ⟨b,8,none⟩ (.int .i64 co')) b s la' co':=by
 obtain⟨B,d,c,p,wl,r,mv,tv,ps,h1,h2,h3,h4⟩:=h;have hg:W.grownBy ((W.setCell ⟨b,7,none⟩ (.int .i64 la')).setCell ⟨b,8,none⟩ (.int .i64 co')) (some b):=zbq (zav W b 7 _) (zav _ b 8 _);exact⟨B,d,c,p,wl,r,mv,tv,ps,h1,wldC_tick h2 la' co',h3.kept hg h2 Mcw Mcw Mcw,h4.kept hg h2 Mcw Mcw Mcw Mcw⟩
theorem wrap_k{k:Nat}(h:k<1000):wrap64 ((k:Int)+1)=(k:Int)+1:=by
 unfold wrap64;omega
theorem wrap_k2{k:Nat}(h:k<1000):IntKind.i64.wrap ((k:Int)+1)=(k:Int)+1:=by
 rw[IntKind.wrap_i64];omega
theorem wld_drew{base b:Nat}{W:World}{s:St}{la co:Int}(h:WldAt base W b s la co):WldAt base W.drew b s la co:=h.keep (n:=W.heap.size) ⟨rfl,rfl,rfl,Nat.le_refl _,fun _ _=>rfl⟩
theorem taken_ok{base b:Nat}{s':St}{day la co:Int}{w w':World}(h:WldAt base w' b s' day (co+1))(hB:Below base w w'):ziR base b (s',0) day la co w (.returned (.int .i64 0)) w':=⟨rfl,by simpa using h,hB⟩
theorem taken_no{base b:Nat}{s':St}{day la co er:Int}{w w':World}(h0:er≠0)(h:WldAt base w' b s' la co)(hB:Below base w w'):ziR base b (s',er) day la co w (.returned (.int .i64 er)) w':=⟨rfl,by simpa[h0]using h,hB⟩
theorem take_any(base b:Nat)(s:St)(k:Nat)(last:Int)(laws:List Law)(LA:Option Addr)(lc:Nat)(d:Deed)(B:Option Addr)(c:Nat)(w:World)(hW:WldAt base w b s last k)(ja:GoodSt s last)(hF:FewS k s)(hd:OkD d)(bp:zaC laws=0)(hL:LensIn w)(il:Sl w 4 Law.cells LA laws)(ax:d.to.length<=c)(hS:Sl w 3 RPart.cells B d.to):
 Calls Tryz.prog 80 #[.pointer (some ⟨b,0,none⟩),.slice LA laws.length lc,d.v B c] w (ziR base b (ze1 laws s k last d) d.day last k w):=by
 have ak:=hW;obtain⟨Bk,dd,cc,pp,wl,rr,mv,tv,ps,ba,hC,hP,hT⟩:=hW;have dK:=zab hC;have bV:=hd.kind;have HW:=zHi ak;unfold WldC at hC;obtain⟨-,-,-,-,-,-,-,c7,c8⟩:=cF9 hC;clear hC hP hT ak;by_cases h60:60<=k
 ·have hx:ze1 laws s k last d=(s,8):=by simp[ze1,h60]
  rw[hx];obtain⟨kd,dy,pl,fr,ts,cl,yr⟩:=d;have ft:(60:Int)<=(k:Int):=Mcu;clear hd hx ja hF il hS bV hL bp ax;unfold Deed.v;simp only;go_enter Tryz.func80,Tryz.ntmps80
  exact Mbp
 have ft:¬(60:Int)<=(k:Int):=Mcu;have xK:k<1000:=Mcu;by_cases ae:d.day<last
 ·have hx:ze1 laws s k last d=(s,9):=by simp[ze1,h60,ae]
  rw[hx];obtain⟨kd,dy,pl,fr,ts,cl,yr⟩:=d;simp only at ae;clear hd hx ja hF il hS bV hL bp ax;unfold Deed.v;simp only;go_enter Tryz.func80,Tryz.ntmps80
  go_upto_region 3 with fail
  go_quiet (fail)
  exact Mbp
 have hx:ze1 laws s k last d=zbr laws s d:=by simp[ze1,h60,ae]
 rw[hx];clear hx;have bP:last<=d.day:=Mcu;have cq:=hF.graves;have bi:=hF.kids;have fJ:=hF.marr;have cG:=hF.wills d.frm;have Gg:∀g∈s.graves,g.holders.length<=10000:=fun g hg=>by have:=(hF.held g hg).1;omega
 have pP:∀g∈s.graves,g.holders.length<=70000/\g.died.length<=1000:=fun g hg=>by have:=hF.held g hg;omega
 have fH:laws.length<=10:=by
  unfold zaC at bp;split at bp
  ·cases bp
  ·rename_i h;simpa using h
 have bN:∀g∈s.graves,g.fin<=200000:=fun g hg=>(hF.held g hg).2.2
 have bQ:=zfe bp d.day;obtain⟨dI,HF,iI,df,eA,eN,eB⟩:=yH7 ja (And.intro Gg (And.intro pP bN)) hd hL il hS bQ;have e0:∀W:World,zbr laws s d=zbr laws s d:=fun _=>rfl
 clear ja hF hd hL il hS bp bQ Gg pP bN e0;have fY:d.kind=0\/d.kind=1\/d.kind=2\/d.kind=3\/d.kind=4\/d.kind=5\/d.kind=6\/d.kind=7\/d.kind=8:=Mcu;clear bV;obtain⟨kd,dy,pl,fr,ts,cl,yr⟩:=d;simp only at ae bP fY ax cG;rcases fY with rfl|rfl|rfl|rfl|rfl|rfl|rfl|rfl|rfl
 ·have bi:∀W,Below w.heap.size w W->Calls Tryz.prog 109 #[.pointer (some ⟨b,0,none⟩),.agg #[.int .i64 0,.int .i64 dy,.string pl,.string fr,.slice B ts.length c,.int .i64 cl,.int .i64 yr]] W (zbK base b (zbr laws s ⟨0,dy,pl,fr,ts,cl,yr⟩) last k W):=fun W hB=>by
   rw[show zbr laws s ⟨0,dy,pl,fr,ts,cl,yr⟩=zcT s ⟨0,dy,pl,fr,ts,cl,yr⟩from by simp[zbr]];exact grant_any base b s last k ⟨0,dy,pl,fr,ts,cl,yr⟩ B c W (HW.o.keep hB) (df.o.keep hB) iI.o rfl Mcu ax (eN.o.keep hB)
  generalize zbr laws s ⟨0,dy,pl,fr,ts,cl,yr⟩=X at*;have cN:=zHi bi;clear bi dI HF iI df eA eN eB;obtain⟨s',er⟩:=X;unfold Deed.v;simp only;go_enter Tryz.func80,Tryz.ntmps80
  go_upto_region 3 with fail
  go_quiet (fail)
  go_upto_region 18 with
   (go_at_call 109
    go_must(refine(cN.o _ Bw).mono ?_)
    rintro e wq ⟨rfl,hW,hB,hK⟩;have h0:=((hK w.heap.size _ _ (zaq _ _ _ rfl)).trans (zaq _ _ _ rfl))
    obtain⟨Bk',d',c',p',wl',r',mv',tv',ps',ei,cF,gD,fS⟩:=id hW;obtain⟨nA,nS,nR,nt⟩:=yH4 hW cF hB h0
    clear hW hB hK h0 gD fS cF)
  exact Md
 ·have bi:∀W,Below w.heap.size w W->Calls Tryz.prog 110 #[.pointer (some ⟨b,0,none⟩),.agg #[.int .i64 1,.int .i64 dy,.string pl,.string fr,.slice B ts.length c,.int .i64 cl,.int .i64 yr]] W (zbK base b (zbr laws s ⟨1,dy,pl,fr,ts,cl,yr⟩) last k W):=fun W hB=>by
   rw[show zbr laws s ⟨1,dy,pl,fr,ts,cl,yr⟩=zbs s ⟨1,dy,pl,fr,ts,cl,yr⟩from by simp[zbr]];exact zl1 base b s last k last ⟨1,dy,pl,fr,ts,cl,yr⟩ B c W (HW.o.keep hB) dI.o iI.o rfl Mcu HF.o.1 ax (eN.o.keep hB)
  generalize zbr laws s ⟨1,dy,pl,fr,ts,cl,yr⟩=X at*;have cN:=zHi bi;clear bi dI HF iI df eA eN eB;obtain⟨s',er⟩:=X;unfold Deed.v;simp only;go_enter Tryz.func80,Tryz.ntmps80
  go_upto_region 3 with fail
  go_quiet (fail)
  go_upto_region 18 with
   (go_at_call 110
    go_must(refine(cN.o _ Bw).mono ?_)
    rintro e wq ⟨rfl,hW,hB,hK⟩;have h0:=((hK w.heap.size _ _ (zaq _ _ _ rfl)).trans (zaq _ _ _ rfl))
    obtain⟨Bk',d',c',p',wl',r',mv',tv',ps',ei,cF,gD,fS⟩:=id hW;obtain⟨nA,nS,nR,nt⟩:=yH4 hW cF hB h0
    clear hW hB hK h0 gD fS cF)
  exact Md
 ·have bi:∀W,Below w.heap.size w W->Calls Tryz.prog 111 #[.pointer (some ⟨b,0,none⟩),.agg #[.int .i64 2,.int .i64 dy,.string pl,.string fr,.slice B ts.length c,.int .i64 cl,.int .i64 yr]] W (zbK base b (zbr laws s ⟨2,dy,pl,fr,ts,cl,yr⟩) last k W):=fun W hB=>by
   rw[show zbr laws s ⟨2,dy,pl,fr,ts,cl,yr⟩=zba s ⟨2,dy,pl,fr,ts,cl,yr⟩from by simp[zbr]];exact zk1 base b s last k last ⟨2,dy,pl,fr,ts,cl,yr⟩ B c W (HW.o.keep hB) dI.o Mcu HF.o.1
  generalize zbr laws s ⟨2,dy,pl,fr,ts,cl,yr⟩=X at*;have cN:=zHi bi;clear bi dI HF iI df eA eN eB;obtain⟨s',er⟩:=X;unfold Deed.v;simp only;go_enter Tryz.func80,Tryz.ntmps80
  go_upto_region 3 with fail
  go_quiet (fail)
  go_upto_region 18 with
   (go_at_call 111
    go_must(refine(cN.o _ Bw).mono ?_)
    rintro e wq ⟨rfl,hW,hB,hK⟩;have h0:=((hK w.heap.size _ _ (zaq _ _ _ rfl)).trans (zaq _ _ _ rfl))
    obtain⟨Bk',d',c',p',wl',r',mv',tv',ps',ei,cF,gD,fS⟩:=id hW;obtain⟨nA,nS,nR,nt⟩:=yH4 hW cF hB h0
    clear hW hB hK h0 gD fS cF)
  exact Md
 ·have bi:∀W,Below w.heap.size w W->Calls Tryz.prog 112 #[.pointer (some ⟨b,0,none⟩),.agg #[.int .i64 3,.int .i64 dy,.string pl,.string fr,.slice B ts.length c,.int .i64 cl,.int .i64 yr]] W (zbK base b (zbr laws s ⟨3,dy,pl,fr,ts,cl,yr⟩) last k W):=fun W hB=>by
   rw[show zbr laws s ⟨3,dy,pl,fr,ts,cl,yr⟩=zdf s ⟨3,dy,pl,fr,ts,cl,yr⟩from by simp[zbr]];exact zmK base b s last k last ⟨3,dy,pl,fr,ts,cl,yr⟩ B c W (HW.o.keep hB) (df.o.keep hB) iI.o Mcu HF.o.2.2
  generalize zbr laws s ⟨3,dy,pl,fr,ts,cl,yr⟩=X at*;have cN:=zHi bi;clear bi dI HF iI df eA eN eB;obtain⟨s',er⟩:=X;unfold Deed.v;simp only;go_enter Tryz.func80,Tryz.ntmps80
  go_upto_region 3 with fail
  go_quiet (fail)
  go_upto_region 18 with
   (go_at_call 112
    go_must(refine(cN.o _ Bw).mono ?_)
    rintro e wq ⟨rfl,hW,hB,hK⟩;have h0:=((hK w.heap.size _ _ (zaq _ _ _ rfl)).trans (zaq _ _ _ rfl))
    obtain⟨Bk',d',c',p',wl',r',mv',tv',ps',ei,cF,gD,fS⟩:=id hW;obtain⟨nA,nS,nR,nt⟩:=yH4 hW cF hB h0
    clear hW hB hK h0 gD fS cF)
  exact Md
 ·have bi:∀W,Below w.heap.size w W->Calls Tryz.prog 114 #[.pointer (some ⟨b,0,none⟩),.agg #[.int .i64 4,.int .i64 dy,.string pl,.string fr,.slice B ts.length c,.int .i64 cl,.int .i64 yr]] W (zbK base b (zbr laws s ⟨4,dy,pl,fr,ts,cl,yr⟩) last k W):=fun W hB=>by
   rw[show zbr laws s ⟨4,dy,pl,fr,ts,cl,yr⟩=zgP s ⟨4,dy,pl,fr,ts,cl,yr⟩from by simp[zbr]];exact will_any base b s last k ⟨4,dy,pl,fr,ts,cl,yr⟩ B c W (HW.o.keep hB) iI.o rfl (eN.o.keep hB)
  generalize zbr laws s ⟨4,dy,pl,fr,ts,cl,yr⟩=X at*;have cN:=zHi bi;clear bi dI HF iI df eA eN eB;obtain⟨s',er⟩:=X;unfold Deed.v;simp only;go_enter Tryz.func80,Tryz.ntmps80
  go_upto_region 3 with fail
  go_quiet (fail)
  go_upto_region 7 with fail
  refine wp_region_held_drew (S:=(fun w'=>w'.cell? ⟨w.heap.size,0,none⟩=some (.int .i64 4)/\w'.cell? ⟨w.heap.size,1,none⟩=some (.int .i64 dy)/\w'.cell? ⟨w.heap.size,2,none⟩=some (.string pl)/\w'.cell? ⟨w.heap.size,3,none⟩=some (.string fr)/\w'.cell? ⟨w.heap.size,4,none⟩=some (.slice B ts.length c)/\w'.cell? ⟨w.heap.size,5,none⟩=some (.int .i64 cl)/\w'.cell? ⟨w.heap.size,6,none⟩=some (.int .i64 yr))) Mcv ?hS4 ?hrest4
  case hS4=>refine⟨?_,?_,?_,?_,?_,?_,?_⟩<;>(simp[go_sem];done)
  intro hHeld;refine TkH 0 ?_;refine TkH 1 ?_;refine TkH 2 ?_;refine TkH 3 ?_;refine OnH 4 fun K hK=>?_
  go_simp
  refine(cN.o _ Bw).mono ?_;rintro e wq ⟨rfl,hW,hB,hK⟩;have h0:=((hK w.heap.size _ _ (zaq _ _ _ rfl)).trans (zaq _ _ _ rfl))
  obtain⟨Bk',d',c',p',wl',r',mv',tv',ps',ei,cF,gD,fS⟩:=id hW;obtain⟨nA,nS,nR,nt⟩:=yH4 hW cF hB h0;have d0:wq.cell? ⟨w.heap.size,0,none⟩=some (.int .i64 4):=McZ;exact MbZ
 ·have bi:∀W,Below w.heap.size w W->Calls Tryz.prog 114 #[.pointer (some ⟨b,0,none⟩),.agg #[.int .i64 5,.int .i64 dy,.string pl,.string fr,.slice B ts.length c,.int .i64 cl,.int .i64 yr]] W (zbK base b (zbr laws s ⟨5,dy,pl,fr,ts,cl,yr⟩) last k W):=fun W hB=>by
   rw[show zbr laws s ⟨5,dy,pl,fr,ts,cl,yr⟩=zbD s ⟨5,dy,pl,fr,ts,cl,yr⟩from by simp[zbr]];exact zlP base b s last k ⟨5,dy,pl,fr,ts,cl,yr⟩ B c W (HW.o.keep hB) iI.o rfl ax (eN.o.keep hB)
  generalize zbr laws s ⟨5,dy,pl,fr,ts,cl,yr⟩=X at*;have cN:=zHi bi;clear bi dI HF iI df eA eN eB;obtain⟨s',er⟩:=X;unfold Deed.v;simp only;go_enter Tryz.func80,Tryz.ntmps80
  go_upto_region 3 with fail
  go_quiet (fail)
  go_upto_region 7 with fail
  refine wp_region_held_drew (S:=(fun w'=>w'.cell? ⟨w.heap.size,0,none⟩=some (.int .i64 5)/\w'.cell? ⟨w.heap.size,1,none⟩=some (.int .i64 dy)/\w'.cell? ⟨w.heap.size,2,none⟩=some (.string pl)/\w'.cell? ⟨w.heap.size,3,none⟩=some (.string fr)/\w'.cell? ⟨w.heap.size,4,none⟩=some (.slice B ts.length c)/\w'.cell? ⟨w.heap.size,5,none⟩=some (.int .i64 cl)/\w'.cell? ⟨w.heap.size,6,none⟩=some (.int .i64 yr))) Mcv ?hS5 ?hrest5
  case hS5=>refine⟨?_,?_,?_,?_,?_,?_,?_⟩<;>(simp[go_sem];done)
  intro hHeld;refine TkH 0 ?_;refine TkH 1 ?_;refine TkH 2 ?_;refine TkH 3 ?_;refine OnH 4 fun K hK=>?_
  go_simp
  refine(cN.o _ Bw).mono ?_;rintro e wq ⟨rfl,hW,hB,hK⟩;have h0:=((hK w.heap.size _ _ (zaq _ _ _ rfl)).trans (zaq _ _ _ rfl))
  obtain⟨Bk',d',c',p',wl',r',mv',tv',ps',ei,cF,gD,fS⟩:=id hW;obtain⟨nA,nS,nR,nt⟩:=yH4 hW cF hB h0;have d0:wq.cell? ⟨w.heap.size,0,none⟩=some (.int .i64 5):=McZ;exact MbZ
 ·have bi:∀W,Below w.heap.size w W->Calls Tryz.prog 114 #[.pointer (some ⟨b,0,none⟩),.agg #[.int .i64 6,.int .i64 dy,.string pl,.string fr,.slice B ts.length c,.int .i64 cl,.int .i64 yr]] W (zbK base b (zbr laws s ⟨6,dy,pl,fr,ts,cl,yr⟩) last k W):=fun W hB=>by
   rw[show zbr laws s ⟨6,dy,pl,fr,ts,cl,yr⟩=zcI s ⟨6,dy,pl,fr,ts,cl,yr⟩from by simp[zbr]];exact child_any base b s last k ⟨6,dy,pl,fr,ts,cl,yr⟩ B c W (HW.o.keep hB) iI.o rfl ax (eN.o.keep hB) Mcu
  generalize zbr laws s ⟨6,dy,pl,fr,ts,cl,yr⟩=X at*;have cN:=zHi bi;clear bi dI HF iI df eA eN eB;obtain⟨s',er⟩:=X;unfold Deed.v;simp only;go_enter Tryz.func80,Tryz.ntmps80
  go_upto_region 3 with fail
  go_quiet (fail)
  go_upto_region 7 with fail
  refine wp_region_held_drew (S:=(fun w'=>w'.cell? ⟨w.heap.size,0,none⟩=some (.int .i64 6)/\w'.cell? ⟨w.heap.size,1,none⟩=some (.int .i64 dy)/\w'.cell? ⟨w.heap.size,2,none⟩=some (.string pl)/\w'.cell? ⟨w.heap.size,3,none⟩=some (.string fr)/\w'.cell? ⟨w.heap.size,4,none⟩=some (.slice B ts.length c)/\w'.cell? ⟨w.heap.size,5,none⟩=some (.int .i64 cl)/\w'.cell? ⟨w.heap.size,6,none⟩=some (.int .i64 yr))) Mcv ?hS6 ?hrest6
  case hS6=>refine⟨?_,?_,?_,?_,?_,?_,?_⟩<;>(simp[go_sem];done)
  intro hHeld;refine TkH 0 ?_;refine TkH 1 ?_;refine TkH 2 ?_;refine TkH 3 ?_;refine OnH 4 fun K hK=>?_
  go_simp
  refine(cN.o _ Bw).mono ?_;rintro e wq ⟨rfl,hW,hB,hK⟩;have h0:=((hK w.heap.size _ _ (zaq _ _ _ rfl)).trans (zaq _ _ _ rfl))
  obtain⟨Bk',d',c',p',wl',r',mv',tv',ps',ei,cF,gD,fS⟩:=id hW;obtain⟨nA,nS,nR,nt⟩:=yH4 hW cF hB h0;have d0:wq.cell? ⟨w.heap.size,0,none⟩=some (.int .i64 6):=McZ;exact MbZ
 ·have bi:∀W,Below w.heap.size w W->Calls Tryz.prog 114 #[.pointer (some ⟨b,0,none⟩),.agg #[.int .i64 7,.int .i64 dy,.string pl,.string fr,.slice B ts.length c,.int .i64 cl,.int .i64 yr]] W (zbK base b (zbr laws s ⟨7,dy,pl,fr,ts,cl,yr⟩) last k W):=fun W hB=>by
   rw[show zbr laws s ⟨7,dy,pl,fr,ts,cl,yr⟩=zdv s ⟨7,dy,pl,fr,ts,cl,yr⟩from by simp[zbr]];exact marry_any base b s last k ⟨7,dy,pl,fr,ts,cl,yr⟩ B c W (HW.o.keep hB) iI.o rfl ax (eN.o.keep hB) Mcu
  generalize zbr laws s ⟨7,dy,pl,fr,ts,cl,yr⟩=X at*;have cN:=zHi bi;clear bi dI HF iI df eA eN eB;obtain⟨s',er⟩:=X;unfold Deed.v;simp only;go_enter Tryz.func80,Tryz.ntmps80
  go_upto_region 3 with fail
  go_quiet (fail)
  go_upto_region 7 with fail
  refine wp_region_held_drew (S:=(fun w'=>w'.cell? ⟨w.heap.size,0,none⟩=some (.int .i64 7)/\w'.cell? ⟨w.heap.size,1,none⟩=some (.int .i64 dy)/\w'.cell? ⟨w.heap.size,2,none⟩=some (.string pl)/\w'.cell? ⟨w.heap.size,3,none⟩=some (.string fr)/\w'.cell? ⟨w.heap.size,4,none⟩=some (.slice B ts.length c)/\w'.cell? ⟨w.heap.size,5,none⟩=some (.int .i64 cl)/\w'.cell? ⟨w.heap.size,6,none⟩=some (.int .i64 yr))) Mcv ?hS7 ?hrest7
  case hS7=>refine⟨?_,?_,?_,?_,?_,?_,?_⟩<;>(simp[go_sem];done)
  intro hHeld;refine TkH 0 ?_;refine TkH 1 ?_;refine TkH 2 ?_;refine TkH 3 ?_;refine OnH 4 fun K hK=>?_
  go_simp
  refine(cN.o _ Bw).mono ?_;rintro e wq ⟨rfl,hW,hB,hK⟩;have h0:=((hK w.heap.size _ _ (zaq _ _ _ rfl)).trans (zaq _ _ _ rfl))
  obtain⟨Bk',d',c',p',wl',r',mv',tv',ps',ei,cF,gD,fS⟩:=id hW;obtain⟨nA,nS,nR,nt⟩:=yH4 hW cF hB h0;have d0:wq.cell? ⟨w.heap.size,0,none⟩=some (.int .i64 7):=McZ;exact MbZ
 ·have bi:∀W,Below w.heap.size w W->Calls Tryz.prog 113 #[.pointer (some ⟨b,0,none⟩),.slice LA laws.length lc,.agg #[.int .i64 8,.int .i64 dy,.string pl,.string fr,.slice B ts.length c,.int .i64 cl,.int .i64 yr]] W (zbK base b (zbr laws s ⟨8,dy,pl,fr,ts,cl,yr⟩) last k W):=fun W hB=>by
   rw[show zbr laws s ⟨8,dy,pl,fr,ts,cl,yr⟩=zdQ laws s ⟨8,dy,pl,fr,ts,cl,yr⟩from by simp[zbr]];exact death_any base b s last k last laws LA lc ⟨8,dy,pl,fr,ts,cl,yr⟩ B c W (HW.o.keep hB) dI.o bP rfl eB.o fH (eA.o.keep hB) Mcu Mcu Mcu (by simpa using Nat.le_trans cG Mcu) HF.o.2.1
  generalize zbr laws s ⟨8,dy,pl,fr,ts,cl,yr⟩=X at*;have cN:=zHi bi;clear bi dI HF iI df eA eN eB;obtain⟨s',er⟩:=X;unfold Deed.v;simp only;go_enter Tryz.func80,Tryz.ntmps80
  go_upto_region 3 with fail
  go_quiet (fail)
  go_upto_region 18 with
   (go_at_call 113
    go_must(refine(cN.o _ Bw).mono ?_)
    rintro e wq ⟨rfl,hW,hB,hK⟩;have h0:=((hK w.heap.size _ _ (zaq _ _ _ rfl)).trans (zaq _ _ _ rfl))
    obtain⟨Bk',d',c',p',wl',r',mv',tv',ps',ei,cF,gD,fS⟩:=id hW;obtain⟨nA,nS,nR,nt⟩:=yH4 hW cF hB h0
    clear hW hB hK h0 gD fS cF)
  exact Md
theorem ze2{W:World}{b:Nat}{K V:Type}{ek:K->Value}{ev:V->Value}(h:W.heap[b]?=some (.map #[] 0)):MapS W b ek ev ([]:List (K×V)):=⟨#[],0,h,rfl,by simp,by simp⟩
def NewPost(w:World)(e:Ending)(w':World):Prop:=
 e=.returned (.agg #[.map (some (w.heap.size+1)),.map (some (w.heap.size+1+1)),.map (some (w.heap.size+1+1+1)),.slice none 0 0,.map (some (w.heap.size+1+1+1+1)),.map (some (w.heap.size+1+1+1+1+1))])/\
 w'.heap.size=w.heap.size+6/\(∀k,1<=k->k<=5->w'.heap[w.heap.size+k]?=some (.map #[] 0))/\Below w.heap.size w w'
theorem zjw{fn:Func}{p:Tmp}(h:fn.results= #[.cell p 82])(tmps:Array Value)(w:World)(B:Nat)(x0 x1 x2 x3 x4 x5:Value)(hp:tmps.getD p undef=.pointer (some ⟨B,0,none⟩))
 (hx:w.heap[B]?=some (.cells #[x0,x1,x2,x3,x4,x5] 82)):(results fn tmps).run Tryz.prog w=.ok (.agg #[x0,x1,x2,x3,x4,x5]) w:=by
 obtain⟨h0,h1,h2,h3,h4,h5⟩:=cF6 hx;exact Ma5
theorem zkN(w:World):Calls Tryz.prog 77 #[] w (NewPost w):=by
 have ct:= @run_makeMap Tryz.prog;go_enter Tryz.func77,Tryz.ntmps77
 go_wp2_with fail
 refine bodyPost_ret (v:=.agg #[.map (some (w.heap.size+1)),.map (some (w.heap.size+1+1)),.map (some (w.heap.size+1+1+1)),.slice none 0 0,.map (some (w.heap.size+1+1+1+1)),.map (some (w.heap.size+1+1+1+1+1))]) ?_ rfl ?_
 ·refine zjw rfl _ _ w.heap.size _ _ _ _ _ _ rfl ?_;exact zal (zal (zal (zal (zal (zaq _ _ _ rfl)))))
 ·refine⟨rfl,by simp,fun k h1 h2=>?_,Bw⟩;obtain rfl|rfl|rfl|rfl|rfl:k=1\/k=2\/k=3\/k=4\/k=5:=by omega
  ·exact zal (zal (zal (zal (zaq _ _ _ Mcx))))
  ·exact zal (zal (zal (zaq _ _ _ Mcx)))
  ·exact zal (zal (zaq _ _ _ Mcx))
  ·exact zal (zaq _ _ _ Mcx)
  ·exact zaq _ _ _ Mcx
theorem wld_new{base:Nat}{w W:World}(hb:base<=w.heap.size)(hs:w.heap.size+6=W.heap.size)(hm:∀k,1<=k->k<=5->W.heap[w.heap.size+k]?=some (.map #[] 0)):
 WldAt base (W.alloc (.cells #[.map (some (w.heap.size+1)),.map (some (w.heap.size+1+1)),.map (some (w.heap.size+1+1+1)),.slice none 0 0,.map (some (w.heap.size+1+1+1+1)),.map (some (w.heap.size+1+1+1+1+1)),.slice none 0 0,.int .i64 0,.int .i64 0] 85)) W.heap.size zb4 0 0:=by
 have hk:∀k,1<=k->k<=5->(W.alloc (.cells #[.map (some (w.heap.size+1)),.map (some (w.heap.size+1+1)),.map (some (w.heap.size+1+1+1)),.slice none 0 0,.map (some (w.heap.size+1+1+1+1)),.map (some (w.heap.size+1+1+1+1+1)),.slice none 0 0,.int .i64 0,.int .i64 0] 85)).heap[w.heap.size+k]?=some (.map #[] 0):=fun k h1 h2=>(Below.heap_alloc _ _ _ Mcu).trans (hm k h1 h2)
 refine⟨[],w.heap.size+1,w.heap.size+2,w.heap.size+3,w.heap.size+4,w.heap.size+5,.slice none 0 0,.slice none 0 0,[],by omega,zaq _ _ _ rfl,⟨by simp,⟨by omega,by omega,by omega,by omega,by omega⟩,ze2 (hk 1 Mcu Mcu),⟨[],[],ze2 (hk 2 Mcu Mcu),ze2 (hk 3 Mcu Mcu),fun n=> .inl ⟨rfl,rfl⟩,fun n=> .inl ⟨rfl,rfl⟩,rfl,by simp,by simp,by simp⟩,OwnS.nil,⟨[],ze2 (hk 4 Mcu Mcu),fun n=> .inl ⟨rfl,rfl⟩⟩,ze2 (hk 5 Mcu Mcu)⟩,⟨OwnS.nil,rfl,by simp,fun i T g h=>by simp at h⟩⟩
section
variable {s:St} {d:Deed}
theorem grant_err:(zcT s d).2≠0->(zcT s d).1=s:=by
 unfold zcT;exact MN
theorem zlZ:(zbs s d).2≠0->(zbs s d).1=s:=by
 unfold zbs;exact MN
theorem zkO:(zba s d).2≠0->(zba s d).1=s:=by
 unfold zba;exact MN
theorem renew_err:(zdf s d).2≠0->(zdf s d).1=s:=by
 unfold zdf;exact MN
theorem will_err:(zgP s d).2≠0->(zgP s d).1=s:=by
 unfold zgP;exact MN
theorem zma:(zbD s d).2≠0->(zbD s d).1=s:=by
 unfold zbD;exact MN
theorem child_err:(zcI s d).2≠0->(zcI s d).1=s:=by
 unfold zcI;exact MN
theorem marry_err:(zdv s d).2≠0->(zdv s d).1=s:=by
 unfold zdv;exact MN
theorem death_err{laws:List Law}:(zdQ laws s d).2≠0->(zdQ laws s d).1=s:=by
 unfold zdQ;exact MN
theorem take_err{laws:List Law}(h:(zbr laws s d).2≠0):(zbr laws s d).1=s:=by
 revert h
 unfold zbr;split
 ·exact grant_err
 split
 ·exact zlZ
 split
 ·exact zkO
 split
 ·exact renew_err
 split
 ·exact will_err
 split
 ·exact zma
 split
 ·exact child_err
 split
 ·exact marry_err
 exact death_err
theorem takeQ_err{laws:List Law}{co:Nat}{last:Int}(h:(ze1 laws s co last d).2≠0):(ze1 laws s co last d).1=s:=by
 revert h
 unfold ze1;split
 ·exact fun _=>rfl
 split
 ·exact fun _=>rfl
 exact take_err
theorem next_take{laws:List Law}{co:Nat}{last:Int}(h:zaI d=0):zci laws s co last d=ze1 laws s co last d:=by
 unfold zci ze1;rw[h];rfl
end
noncomputable def zdZ (laws:List Law) (ds:List Deed) (upto:Int):St×Nat×Int:=
 if zaC laws != 0 then(zb4,0,zaC laws)else zez laws upto ds zb4 0 0
def zpd(w:World)(R:St×Nat×Int)(e:Ending)(w':World):Prop:=
 ∃base b la co,e=.returned (.tuple #[.pointer (some ⟨b,0,none⟩),.int .i64 R.2.1,.int .i64 R.2.2])/\w.heap.size<=base/\WldAt base w' b R.1 la co/\Below w.heap.size w w'/\(∃last,GoodSt R.1 last)/\∃k,k<=60/\FewS k R.1
theorem takeQ_ok{laws:List Law}{s:St}{k:Nat}{last:Int}{d:Deed}(h:(ze1 laws s k last d).2=0)(hd:OkD d)(hG:GoodSt s last)(hF:FewS k s)(bp:zaC laws=0):k<60/\GoodSt (ze1 laws s k last d).1 d.day/\FewS (k+1) (ze1 laws s k last d).1:=by
 unfold ze1 at h⊢;split at h
 ·simp at h
 rename_i h1
 split at h
 ·simp at h
 rename_i h2
 rw[if_neg h1,if_neg h2];have hk:k<60:=Mc1;have hl:last<=d.day:=Meg;have ht:zbr laws s d=((zbr laws s d).1,0):=Prod.ext rfl h;exact⟨hk,zf2 hG hd hl bp ht,zkI hF hk hG hd hl bp ht⟩
theorem zjT(laws:List Law)(ds:List Deed)(upto:Int)(LA:Option Addr)(n nc:Nat)(DA:Option Addr)(m mc:Nat)(w:World)(hR:RightsIn w laws ds LA n nc DA m mc)(hF:FormsIn w)(hL:LensIn w)(hO:∀d∈ds,zdB d):
 Calls Tryz.prog 52 #[.agg #[.slice LA n nc,.slice DA m mc],.int .i64 upto] w (zpd w (zdZ laws ds upto)):=by
 obtain⟨R,hR⟩:∃R,R=zdZ laws ds upto:=⟨_,rfl⟩
 rw[<-hR];unfold zdZ at hR;have HR:=zHi hR;clear hR;obtain⟨rfl,rfl,DD,nH,il,ke⟩:=hR;obtain⟨HF,HL,HO,eA,gn⟩:=yH5 hF hL hO il ke;clear hF hL hO il ke;go_enter Tryz.func52,Tryz.ntmps52
 go_upto_region 2 with(go_at_call 77;go_must(refine(zkN _).mono ?_);rintro e wq ⟨rfl,n1,n2,n3⟩;obtain⟨N1,N2,N3⟩:=yH3 n1 n2 n3;clear n1 n2 n3)
 have cG:=wld_new (base:=w.heap.size+1) (w:=w.alloc (.cells #[.slice LA laws.length nc,.slice DA ds.length mc] 25)) (W:=wq) Mcx N1.o.symm N2.o;have hsz:=N1.o;simp only[World.size_alloc]at cG hsz;have ba:Below w.heap.size w wq:=Below.trans (zac (Below.refl _ _) _) (N3.o.mono Mcx);have hJ:wq.heap[w.heap.size]?=some (.cells #[.slice LA laws.length nc,.slice DA ds.length mc] 25):=(N3.o.block _ Mcx).trans (zaq _ _ _ rfl);have dK:=zab hJ;have bE:∀o,Below w.heap.size w (wq.alloc o):=fun o=>zac ba _ Mcu
 have As:∀o,(wq.alloc o).heap[w.heap.size]?=some (.cells #[.slice LA laws.length nc,.slice DA ds.length mc] 25):=fun o=>zal hJ
 obtain⟨b,hb⟩:∃b,b=wq.heap.size:=⟨_,rfl⟩
 rw[<-hb]at cG⊢;have h2:=bE (.cells #[.map (some (w.heap.size+1+1)),.map (some (w.heap.size+1+1+1)),.map (some (w.heap.size+1+1+1+1)),.slice none 0 0,.map (some (w.heap.size+1+1+1+1+1)),.map (some (w.heap.size+1+1+1+1+1+1)),.slice none 0 0,.int .i64 0,.int .i64 0] 85);have eJ:=As (.cells #[.map (some (w.heap.size+1+1)),.map (some (w.heap.size+1+1+1)),.map (some (w.heap.size+1+1+1+1)),.slice none 0 0,.map (some (w.heap.size+1+1+1+1+1)),.map (some (w.heap.size+1+1+1+1+1+1)),.slice none 0 0,.int .i64 0,.int .i64 0] 85);clear bE As ba hJ dK hsz N1 N2 N3 hb;generalize wq.alloc _=W2 at*;obtain⟨vW,aD,av⟩:=yH3 cG h2 eJ;have aQ:=zab eJ;obtain⟨x0,x1⟩:=cF2 eJ;have lH:=zHi (fun W (hB:Below W2.heap.size W2 W)=>zjo laws LA laws.length nc W rfl (eA.o.keep (h2.trans (hB.mono (Nat.le_of_lt aQ)))));clear cG h2 eJ;by_cases bp:zaC laws=0
 ·rw[bp]at lH HR;have eB:=zHi bp;clear bp;go_upto_block 0 with(go_at_call 78;go_must(refine(lH.o _ Bw).mono ?_);rintro e wq ⟨rfl,z,rfl⟩)
  clear lH x0 x1;go_cut [9,10,11,25]from 26 (fun _ _ _ _ W=>∃s,Hid (R=(s,ds.length,0))/\∃la co,WldAt (w.heap.size+1) W b s la co/\Below w.heap.size w W/\W.heap[w.heap.size]?=some (.cells #[.slice LA laws.length nc,.slice DA ds.length mc] 25)/\(∃last,GoodSt s last)/\∃k,k<=60/\FewS k s)
  case first=>
   go_wp2_with fail
   go_loopw [25] (fun i wr=>∃(k:Nat) (s:St) (last:Int),k<=ds.length/\i=.int .i64 k/\Hid (R=zez laws upto (ds.drop k) s k last)/\Hid (WldAt (w.heap.size+1) wr b s last k)/\Hid (GoodSt s last)/\Hid (FewS k s)/\k<=60/\Below w.heap.size w wr/\wr.heap[w.heap.size]?=some (.cells #[.slice LA laws.length nc,.slice DA ds.length mc] 25)) (fun i _=>ds.length-(intOf i).toNat)
   case atStart=>
    refine⟨0,zb4,0,Nat.zero_le _,rfl,?_,vW.o.keep (n:=W2.heap.size) Bw,zeu 0,zg8,by omega,?_,?_⟩
    ·show _=_;rw[HR.o];simp
    ·exact aD.o.trans (Below.mono (B:=W2.heap.size) Bw (Nat.le_of_lt aQ))
    ·exact zb5 av.o
   case round=>
    obtain⟨k,s,last,hk,rfl,HX,HW,HG,tG,ft,hB,hX⟩:=hrel;clear vW aD av HR;obtain x0:=cF1 hX;have kA:=zab hX;obtain⟨HB,F1⟩:=yH2 hB hX;by_cases ae:k<ds.length
    ·obtain⟨db,off,cs,hA,hdb,⟨B,c,ax,bh,hS⟩,hc⟩:=(gn.o.keep zch hB).at ae;subst hA bh;have ao:=HX.o;rw[List.drop_eq_getElem_cons ae,zez,<-List.drop_eq_getElem_cons ae]at ao;have bv:=HO.o ds[k] (List.getElem_mem ae);have ug:∀W,Below wr.heap.size wr W->_:=fun W hW=>zjp ds[k] B c W (HF.o.keep (hB.trans (hW.mono (Nat.le_of_lt kA)))) bv ax (hS.keep hW)
     have iS:∀W,Below wr.heap.size wr W->OkD ds[k]->_:=fun W hW hd=>take_any (w.heap.size+1) b s k last laws LA nc ds[k] B c W (HW.o.keep hW) HG.o tG.o hd eB.o (HL.o.keep (hB.trans (hW.mono (Nat.le_of_lt kA)))) (eA.o.keep (hB.trans (hW.mono (Nat.le_of_lt kA)))) ax (hS.keep hW)
     rw[zkL]at ug;obtain⟨am,ph,aK,lG,kT⟩:=yH5 ae (show k+(ds.drop k).length=ds.length by rw[List.length_drop];omega) ao ug iS;generalize ds[k]=d at*;clear ao bv ug iS hX hB hS;have ck:OkD d->(ze1 laws s k last d).2=0->k<60/\GoodSt (ze1 laws s k last d).1 d.day/\FewS (k+1) (ze1 laws s k last d).1:=fun hd h=>takeQ_ok h hd HG.o tG.o eB.o
     have sj:zaI d=0->OkD d:=zeA;have AJ:=fun h=>next_take (laws:=laws) (s:=s) (co:=k) (last:=last) (d:=d) h
     obtain⟨kd,dy,pl,fr,ts,cl,yr⟩:=d;have i0:wr.cell? ⟨db,off+k*7,none⟩=some (.int .i64 kd):=hc 0 _ rfl;have i1:wr.cell? ⟨db,off+k*7+1,none⟩=some (.int .i64 dy):=hc 1 _ rfl;have i2:wr.cell? ⟨db,off+k*7+2,none⟩=some (.string pl):=hc 2 _ rfl;have i3:wr.cell? ⟨db,off+k*7+3,none⟩=some (.string fr):=hc 3 _ rfl;have i4:wr.cell? ⟨db,off+k*7+4,none⟩=some (.slice B ts.length c):=hc 4 _ rfl;have i5:wr.cell? ⟨db,off+k*7+5,none⟩=some (.int .i64 cl):=hc 5 _ rfl;have i6:wr.cell? ⟨db,off+k*7+6,none⟩=some (.int .i64 yr):=hc 6 _ rfl;have ar:(k:Int)<(ds.length:Int):=Mcu;have aT:(0:Int)<=(k:Int):=Mcu;have KT:(k:Int)<=(mc:Int):=Mcu;have lm:w.heap.size≠wr.heap.size:=Mcu;unfold Deed.v at kT;simp only at AJ ck kT aK;clear hc;by_cases hce:zaI ⟨kd,dy,pl,fr,ts,cl,yr⟩=0
     ·have DK:=sj hce;have ao:=aK.o;rw[hce,AJ hce]at ao;rw[hce]at lG;have sF:=ck DK;have l7:=fun h=>takeQ_err (laws:=laws) (s:=s) (d:=⟨kd,dy,pl,fr,ts,cl,yr⟩) (co:=k) (last:=last) h
      have qZ:=zHi (fun W hW=>kT.o W hW DK);clear aK kT AJ ck sj DK;generalize ze1 laws s k last ⟨kd,dy,pl,fr,ts,cl,yr⟩=x at*;generalize zaI ⟨kd,dy,pl,fr,ts,cl,yr⟩=ce at*;obtain⟨s',er⟩:=x;by_cases kj:upto<dy
      ·have cn:Hid (R=(s,ds.length,0)):=by
        show _=_;rw[ao,if_pos (by simp[kj]),ph.o]
       clear ao sF l7 qZ ph;go_wp2_with (go_at_call 79;go_must(refine(lG.o _ Bw).mono ?_);rintro e wq ⟨rfl,z,rfl⟩)
       go_meet
       exact⟨s,cn.o,last,k,HW.o.keep (n:=wr.heap.size) Bw,HB.o.trans (Below.mono (B:=wr.heap.size) Bw Mcu),by repeat(first|assumption|with_reducible refine zal ?_|with_reducible refine zb5 ?_|with_reducible refine J_ne Mcu ?_),⟨last,HG.o⟩,k,ft,tG.o⟩
      ·have da:R=if(er != 0)=true then(s,k,er)else zez laws upto (ds.drop (k+1)) s' (k+1) dy:=by rw[ao,if_neg (by simp[kj])]
       have eO:=zHi da;have xi:=lG.o;clear ao da ph;by_cases h0:er=0
       ·subst h0;obtain⟨sE,tX,Fi⟩:=sF rfl;obtain⟨gT,vf⟩:=yH2 tX Fi;have p9:=wrap_k (k:=k) (Nat.lt_trans sE Mcw);have E6:=wrap_k2 (k:=k) (Nat.lt_trans sE Mcw);clear sF l7 tX Fi xi
        go_wp2_with (first
         |(go_at_call 79;go_must(refine(lG.o _ Bw).mono ?_);rintro e wq ⟨rfl,z,rfl⟩)
         |(go_at_call 80
           go_must(refine(qZ.o _ Bw).mono ?_)
           rintro e wq ⟨rfl,t1,t2⟩;simp only[if_true]at t1;have T1:=zHi t1;have bl:Below w.heap.size w wq:=(HB.o.trans (Below.mono (B:=wr.heap.size) Bw (Nat.le_of_lt kA))).trans (t2.mono (Nat.le_succ _));have Hi:=(t2.block w.heap.size (Nat.lt_succ_self _)).trans (show _=some (.cells #[.slice LA laws.length nc,.slice (some ⟨db,off,none⟩) ds.length mc] 25) from by have hX:=F1.o;repeat(first|assumption|with_reducible refine zal ?_|with_reducible refine zb5 ?_|with_reducible refine J_ne Mcu ?_));obtain⟨b8,tQ⟩:=yH2 bl Hi
           clear t1 t2 bl Hi))
        go_round
        case rel=>
         clear p9 E6;refine⟨k+1,s',dy,am.o,by go_num,?_,T1.o,gT.o,vf.o,sE,b8.o,tQ.o⟩;show _=_;rw[eO.o];simp
        case measure=>clear p9 E6;have:=am.o;simp only[intOf];omega
       ·have hs:=l7 h0;simp only at hs;subst hs;have cn:Hid (R=(s',k,er)):=by
         show _=_;rw[eO.o,if_pos MdA]
        clear sF l7 eO xi
        go_wp2_with (first
         |(go_at_call 79;go_must(refine(lG.o _ Bw).mono ?_);rintro e wq ⟨rfl,z,rfl⟩)
         |(go_at_call 80
           go_must(refine(qZ.o _ Bw).mono ?_)
           rintro e wq ⟨rfl,t1,t2⟩;have T1:=zHi t1;have bl:Below w.heap.size w wq:=(HB.o.trans (Below.mono (B:=wr.heap.size) Bw (Nat.le_of_lt kA))).trans (t2.mono (Nat.le_succ _));have b8:=zHi bl
           clear t1 t2 bl))
        go_ret3
        rw[cn.o];exact⟨w.heap.size+1,b,_,_,rfl,by omega,T1.o,b8.o,⟨last,HG.o⟩,k,ft,tG.o⟩
     ·have ai:(zci laws s k last ⟨kd,dy,pl,fr,ts,cl,yr⟩)=(s,zaI ⟨kd,dy,pl,fr,ts,cl,yr⟩):=by
       unfold zci;rw[if_pos (by simpa using hce)]
      have ao:=aK.o;rw[ai]at ao;generalize zaI ⟨kd,dy,pl,fr,ts,cl,yr⟩=ce at*;have cn:Hid (R=(s,k,ce)):=by
       show _=_;rw[ao,if_neg (by simp[hce]),if_pos (by simpa using hce)]
      clear ao ai aK kT AJ ck sj ph;go_wp2_with (go_at_call 79;go_must(refine(lG.o _ Bw).mono ?_);rintro e wq ⟨rfl,z,rfl⟩)
      go_ret3
      rw[cn.o];exact⟨w.heap.size+1,b,last,k,rfl,by omega,HW.o.keep (n:=wr.heap.size) Bw,HB.o.trans (Below.mono (B:=wr.heap.size) Bw Mcu),⟨last,HG.o⟩,k,ft,tG.o⟩
    ·have ar:¬(k:Int)<(ds.length:Int):=Mcu;have hx:=HX.o;rw[List.drop_eq_nil_of_le Mcu,zez]at hx;have oM:k=ds.length:=Mcu;have cn:Hid (R=(s,ds.length,0)):=by show _=_;rw[hx,oM]
     clear hx oM hX hB;go_wp2_with fail
     go_meet
     exact⟨s,cn.o,last,k,HW.o,HB.o,F1.o,⟨last,HG.o⟩,k,ft,tG.o⟩
  case rest=>
   obtain⟨s,cn,la,co,hW,hB,hX,hg,hf⟩:=hcut;obtain⟨-,x1⟩:=cF2 hX;have kA:=zab hX;obtain⟨HW,HB⟩:=yH2 hW hB;clear hW hB hX;go_upto_region 15 with fail
   go_quiet (fail)
   go_wp2_with fail
   go_ret3
   rw[cn.o];exact⟨w.heap.size+1,b,la,co,rfl,by omega,HW.o.keep (n:=wc.heap.size) Bw,HB.o.trans (Below.mono (B:=wc.heap.size) Bw Mcu),hg,hf⟩
 ·generalize zaC laws=er at*;have ai:(er != 0)=true:=by simpa using bp
  have cn:Hid (R=(zb4,0,er)):=by show _=_;rw[HR.o,if_pos ai]
  clear HR;go_wp2_with (go_at_call 78;go_must(refine(lH.o _ Bw).mono ?_);rintro e wq ⟨rfl,z,rfl⟩)
  go_ret3
  rw[cn.o];exact⟨w.heap.size+1,b,0,0,rfl,by omega,vW.o.keep (n:=W2.heap.size) Bw,aD.o.trans (Below.mono (B:=W2.heap.size) Bw Mcu),⟨0,zeu 0⟩,0,by omega,zg8⟩
theorem ifStr_any(g:Nat)(lb:Array Value)(eg:∀args w,(callFunc g args).run Tryz.prog w=.ok (.enter g args) w)(p:ByteArray->Bool)(A:Option Addr)(c:Nat)(xs:List ByteArray)(w:World)(hl:xs.length<=100000)
 (hS:Sl w 1 sC A xs)(hp:zfb g lb (fun s=> .string s) p xs w):Calls Tryz.prog 75 #[.slice A xs.length c,.func (.func g) #[] lb] w (fun e w'=>∃i:Int,e=.returned (.int .i64 i)/\decide (0<=i)=xs.any p/\Below w.heap.size w w'):=by
 obtain⟨HS,HP⟩:=yH2 hS hp;clear hS hp;go_enter Tryz.func75,Tryz.ntmps75
 go_wp2_with fail
 go_loopw [8] (fun i wr=>∃k:Nat,k<=xs.length/\i=.int .i64 k/\Hid (xs.any p=(xs.drop k).any p)/\Below w.heap.size w wr) (fun i _=>xs.length-(intOf i).toNat)
 case atStart=>exact⟨0,Nat.zero_le _,rfl,by show _=_;rw[List.drop_zero],Below.refl _ _⟩
 case round=>
  obtain⟨k,hk,rfl,HX,hB⟩:=hrel;have HB:=zHi hB;by_cases ae:k<xs.length
  ·obtain⟨b,off,rfl,hb,hc⟩:=(HS.o.keep hB).at ae;have i0:wr.cell? ⟨b,off+k,none⟩=some (.string xs[k]):=Mdo;have hx:=HX.o;rw[List.drop_eq_getElem_cons ae,List.any_cons]at hx;have bJ:∀W,Below w.heap.size w W->Calls Tryz.prog g (#[.string xs[k]]++lb) W fun e w'=>e=.returned (.bool (p xs[k]))/\Below w.heap.size w w':=fun W hW=>HP.o xs[k] (List.getElem_mem ae) W hW
   generalize xs[k]=x at*;generalize hpx:p x=px at*;have av:=zHi hx;have ar:(k:Int)<(xs.length:Int):=Mcu;have aT:(0:Int)<=(k:Int):=Mcu;obtain⟨am,cN⟩:=yH2 ae bJ;clear hc hx bJ HX hpx;cases px
   ·go_wp2_with (go_at_fn g;refine(cN.o _ HB.o).mono ?_;rintro e w' ⟨rfl,h1⟩)
    go_round
    case rel=>exact⟨k+1,am.o,by go_num,by show _=_;rw[av.o];simp,h1⟩
    case measure=>have:=am.o;simp only[intOf];omega
   ·go_wp2_with (go_at_fn g;refine(cN.o _ HB.o).mono ?_;rintro e w' ⟨rfl,h1⟩)
    go_ret
    exact⟨k,rfl,by rw[av.o];simp,h1⟩
  ·have ar:¬(k:Int)<(xs.length:Int):=Mcu;have hx:=HX.o;rw[List.drop_eq_nil_of_le Mcu]at hx;have av:=zHi hx;clear hx hB;go_wp2_with fail
   go_ret
   exact⟨-1,rfl,by rw[av.o];simp,HB.o⟩
theorem zmb(g:Nat)(lb:Array Value)(eg:∀args w,(callFunc g args).run Tryz.prog w=.ok (.enter g args) w)(p:ByteArray->Bool)(A:Option Addr)(n c:Nat)(xs:List ByteArray)(w:World)(hn:n=xs.length)(hl:xs.length<=100000)
 (hS:Sl w 1 sC A xs)(hp:zfb g lb (fun s=> .string s) p xs w):Calls Tryz.prog 48 #[.slice A n c,.func (.func g) #[] lb] w (Ret w (.bool (xs.any p))):=by
 subst hn;have HI:=zHi (ifStr_any g lb eg p A c xs w hl hS hp);clear hS hp;go_enter Tryz.func48,Tryz.ntmps48
 go_wp2_with (go_at_call 75;refine HI.o.mono ?_;rintro e wq ⟨i,rfl,hi,hB⟩)
 go_ret
 rw[<-hi];exact Ret.of rfl hB
theorem onn_any(s:ByteArray)(W:World)(hs:s.size<=100000):Calls Tryz.prog 49 #[.string s] W (Ret W (.bool (!zaT s))):=by
 go_enter Tryz.func49,Tryz.ntmps49
 exact Maw
theorem onn_gives(xs:List ByteArray)(w:World)(hs:∀s∈xs,s.size<=100000):zfb 49 #[] (fun s=> .string s) (fun s=>!zaT s) xs w:=fun x hx W hW=>by
 refine(onn_any x W (hs x hx)).mono ?_;exact Ma2
theorem zhj(laws:List Law)(u u':Int):∀(ds:List Deed) (s t t':St) (k:Nat) (l:Int),(zaY laws u ds s t k l).2=(zaY laws u' ds s t' k l).2
 | [],_,_,_,_,_=>rfl
 |d::ds,s,t,t',k,l=>by
  rw[zaY,zaY];split
  ·rfl
  ·exact zhj laws u u' ds _ _ _ _ _
noncomputable def zcs (laws:List Law) (ds:List Deed) (names:List ByteArray) (day:Int):Int:=
 if(zdZ laws ds 200000).2.2 != 0 then(zdZ laws ds 200000).2.2 else if names.any (fun s=>!zaT s)then 4 else if !zbl day then 2 else 0
theorem zeh(laws:List Law)(ds:List Deed):(zdZ laws ds 200000).2=(zaQ laws ds 200000).2:=by
 unfold zdZ zaQ;split
 ·rfl
 ·exact znR (Int.le_refl _)
theorem zjU{laws:List Law}{ds:List Deed}(h:(zdZ laws ds 200000).2.2=0)(day:Int):(zdZ laws ds day).1=(zaQ laws ds day).1/\(zdZ laws ds day).2.2=0:=by
 rw[zeh]at h;unfold zaQ at h;unfold zdZ zaQ;split at h
 ·rename_i hc
  rw[if_pos hc,if_pos hc];exact⟨rfl,h⟩
 ·rename_i hc
  rw[if_neg hc,if_neg hc];exact zlt (by rw[zhj laws day 200000 ds zb4 zb4 zb4];exact h)
theorem znc(laws:List Law)(ds:List Deed)(LA:Option Addr)(n nc:Nat)(DA:Option Addr)(m mc:Nat)(w:World)(hR:RightsIn w laws ds LA n nc DA m mc)(hF:FormsIn w)(hL:LensIn w)(hO:∀d∈ds,zdB d):
 Calls Tryz.prog 47 #[.agg #[.slice LA n nc,.slice DA m mc]] w (Ret w (.tuple #[.int .i64 (zdZ laws ds 200000).2.1,.int .i64 (zdZ laws ds 200000).2.2])):=by
 have ux:=fun W (hB:Below w.heap.size w W)=>zjT laws ds 200000 LA n nc DA m mc W (hR.keep hB) (hF.keep hB) (hL.keep hB) hO
 clear hR hF hL hO;generalize zdZ laws ds 200000=R at*;have lV:=zHi ux;clear ux;go_enter Tryz.func47,Tryz.ntmps47
 go_wp2_with (go_at_call 52;go_must(refine(lV.o _ Bw).mono ?_);rintro e wq ⟨base,b,la,co,rfl,h1,h2,h3,h4,h5⟩;have H3:=zHi h3;clear h1 h2 h3 h4 h5)
 go_ret2
 exact Ret.of rfl (Below.trans (zac (Below.refl _ _) _) (H3.o.mono Mcx))
def zjV(w:World)(laws:List Law)(ds:List Deed)(names:List ByteArray)(day:Int)(e:Ending)(w':World):Prop:=
 Below w.heap.size w w'/\((zcs laws ds names day≠0/\e=.returned (.tuple #[.pointer none,.int .i64 (zcs laws ds names day)]))\/
  (zcs laws ds names day=0/\∃base b la co,e=.returned (.tuple #[.pointer (some ⟨b,0,none⟩),.int .i64 0])/\w.heap.size<=base/\WldAt base w' b (zaQ laws ds day).1 la co/\(∃last,GoodSt (zaQ laws ds day).1 last)/\∃k,k<=60/\FewS k (zaQ laws ds day).1))
theorem zoi(laws:List Law)(ds:List Deed)(day:Int)(names:List ByteArray)(LA:Option Addr)(n nc:Nat)(DA:Option Addr)(m mc:Nat)(NA:Option Addr)(l c:Nat)(w:World)(hR:RightsIn w laws ds LA n nc DA m mc)(hF:FormsIn w)(hL:LensIn w)(hO:∀d∈ds,zdB d)
 (hl:l=names.length)(eG:names.length<=100000)(hN:∀s∈names,s.size<=100000)(hS:Sl w 1 sC NA names):
 Calls Tryz.prog 23 #[.agg #[.slice LA n nc,.slice DA m mc],.int .i64 day,.slice NA l c] w (zjV w laws ds names day):=by
 subst hl;have eg:∀args w,(callFunc 49 args).run Tryz.prog w=.ok (.enter 49 args) w:=enters_of Tryz.func49 Mcv rfl;have lj:=fun W (hB:Below w.heap.size w W)=>znc laws ds LA n nc DA m mc W (hR.keep hB) (hF.keep hB) (hL.keep hB) hO
 have ux:=fun W (hB:Below w.heap.size w W)=>zjT laws ds day LA n nc DA m mc W (hR.keep hB) (hF.keep hB) (hL.keep hB) hO
 have xj:=fun W (hB:Below w.heap.size w W)=>zmb 49 #[] eg (fun s=>!zaT s) NA names.length c names W rfl eG (hS.keep hB) (onn_gives names W hN)
 have iG:=zjU (laws:=laws) (ds:=ds) (day:=day);have he:zcs laws ds names day=if(zdZ laws ds 200000).2.2 != 0 then(zdZ laws ds 200000).2.2 else if names.any (fun s=>!zaT s)then 4 else if !zbl day then 2 else 0:=rfl;unfold zjV;generalize zcs laws ds names day=E at*;obtain⟨R,rG⟩:∃R,R=zdZ laws ds 200000:=⟨_,rfl⟩
 rw[<-rG]at lj iG he;obtain⟨⟨S0,n0,er⟩,FH⟩:∃x,x=R:=⟨_,rfl⟩
 subst FH;simp only at lj iG he;generalize hna:names.any (fun s=>!zaT s)=na at*;obtain⟨pA,lV,tA⟩:=yH3 lj ux xj;clear lj ux xj hR hF hL hO hS hN rG hna eg;by_cases h0:er=0
 ·subst h0;have pM:E=if na then 4 else if !zbl day then 2 else 0:=by rw[he];rfl
  obtain⟨uy,uz⟩:=iG rfl;clear he iG;cases na
  ·generalize nI:zbl day=dd at*;cases dd
   ·have hE:E=2:=by rw[pM];rfl
    subst hE;clear pM uy uz;go_enter Tryz.func23,Tryz.ntmps23
    go_wp2_with (first
     |(go_at_call 47;refine(pA.o _ Bw).mono ?_;rintro e wq ⟨rfl,zq,rfl⟩)
     |(go_at_call 48;refine(tA.o _ Bw).mono ?_;rintro e wq ⟨rfl,zq,rfl⟩)
     |(go_at_call 51;refine(zcU _ _).mono ?_;rintro e wq ⟨rfl,rfl⟩;rw[nI]))
    go_ret2
    exact⟨Bw,.inl ⟨by decide,rfl⟩⟩
   ·have hE:E=0:=by rw[pM];rfl
    subst hE;rw[<-uy];clear pM uy;generalize zdZ laws ds day=R at*;obtain⟨S1,n1,e1⟩:=R;simp only at uz;subst uz;try simp only at lV
    go_enter Tryz.func23,Tryz.ntmps23
    go_wp2_with (first
     |(go_at_call 47;refine(pA.o _ Bw).mono ?_;rintro e wq ⟨rfl,zq,rfl⟩)
     |(go_at_call 48;refine(tA.o _ Bw).mono ?_;rintro e wq ⟨rfl,zq,rfl⟩)
     |(go_at_call 51;refine(zcU _ _).mono ?_;rintro e wq ⟨rfl,rfl⟩;rw[nI])
     |(go_at_call 52;go_must(refine(lV.o _ Bw).mono ?_);rintro e wq ⟨base,b,la,co,rfl,h1,h2,h3,h4,h5⟩;obtain⟨H1,H2,H3,H4,H5⟩:=yH5 h1 h2 h3 h4 h5;clear h1 h2 h3 h4 h5))
    go_ret2
    have h1:=H1.o;refine⟨Below.trans Bw (H3.o.mono ?_),.inr ⟨by first|rfl|trivial,base,b,la,co,rfl,Nat.le_trans ?_ h1,H2.o,H4.o,H5.o⟩⟩
    ·simp[zag];omega
    ·simp[zag];omega
  ·have hE:E=4:=by rw[pM];rfl
   subst hE;clear pM uy uz;go_enter Tryz.func23,Tryz.ntmps23
   go_wp2_with (first
    |(go_at_call 47;refine(pA.o _ Bw).mono ?_;rintro e wq ⟨rfl,zq,rfl⟩)
    |(go_at_call 48;refine(tA.o _ Bw).mono ?_;rintro e wq ⟨rfl,zq,rfl⟩))
   go_ret2
   exact⟨Bw,.inl ⟨by decide,rfl⟩⟩
 ·have hE:E=er:=by rw[he,if_pos MdA]
  subst hE;clear he iG;go_enter Tryz.func23,Tryz.ntmps23
  go_wp2_with (go_at_call 47;refine(pA.o _ Bw).mono ?_;rintro e wq ⟨rfl,zq,rfl⟩)
  go_ret2
  exact⟨Bw,.inl ⟨h0,rfl⟩⟩
def zb3(s:St)(place:ByteArray)(day:Int):Parts:=match zaL s place day with
 |none=>[]
 |some i=>(s.graves.getD i zfa).holders
def ziS(w:World)(laws:List Law)(ds:List Deed)(place:ByteArray)(day:Int)(e:Ending)(w':World):Prop:=
 Below w.heap.size w w'/\((zcs laws ds [place] day≠0/\e=.returned (.tuple #[.slice none 0 0,.int .i64 (zcs laws ds [place] day)]))\/
  (zcs laws ds [place] day=0/\∃A c,e=.returned (.tuple #[.slice A (zb3 (zaQ laws ds day).1 place day).length c,.int .i64 0])/\(zb3 (zaQ laws ds day).1 place day).length<=c/\Sl w' 3 zaa A (zb3 (zaQ laws ds day).1 place day)))
theorem znd(laws:List Law)(ds:List Deed)(place:ByteArray)(day:Int)(LA:Option Addr)(n nc:Nat)(DA:Option Addr)(m mc:Nat)(w:World)(hR:RightsIn w laws ds LA n nc DA m mc)(hF:FormsIn w)(hL:LensIn w)(hO:∀d∈ds,zdB d)(hp:place.size<=100000):
 Calls Tryz.prog 15 #[.agg #[.slice LA n nc,.slice DA m mc],.string place,.int .i64 day] w (ziS w laws ds place day):=by
 have yv:=fun W (hB:Below w.heap.size w W) NA (hS:Sl W 1 sC NA [place])=>zoi laws ds day [place] LA n nc DA m mc NA 1 1 W (hR.keep hB) (hF.keep hB) (hL.keep hB) hO rfl Mcx (by simpa using hp) hS
 have fB:=zHi yv;unfold ziS;clear yv hR hF hL hO;unfold zjV at fB;generalize zcs laws ds [place] day=E at*;generalize(zaQ laws ds day).1=s at*;generalize bn:zb3 s place day=xs at*;have bL:=zHi bn;clear bn;go_enter Tryz.func15,Tryz.ntmps15
 by_cases h0:E=0
 ·subst h0
  go_upto_region 4 with(go_at_call 23
                        go_must(refine(fB.o _ Bw _ (zcC (zaq _ _ _ Mcx))).mono ?_)
                        rintro e wq ⟨h1,⟨ai,_⟩|⟨_,base,b,la,co,rfl,h2,h3,h4,h5⟩⟩
                        ·exact absurd rfl ai
                        obtain⟨H1,H3,H5⟩:=yH3 h1 h3 h5
                        clear h1 h2 h3 h4 h5)
  obtain⟨Bk,dd,cc,pp,wl,rr,mv,tv,ps,ba,hC,hP,hT⟩:=H3.o;obtain⟨k,ft,bM⟩:=H5.o;have cq:=bM.graves;have aJ:=fun W (hB:Below wq.heap.size wq W)=>zi3 base b s la co place day W (hC.keep hB) (hT.keep hB) Mcu
  have aR:Below w.heap.size w wq:=Below.trans (zac (zac (Below.refl _ _) _) _ Mcx) (H1.o.mono Mcz);have aC:=zHi aR;have bn:=bL.o;unfold zb3 at bn;clear bL;cases aO:zaL s place day with
  |none=>
   rw[aO]at aJ bn;subst bn;have bK:=zHi aJ;clear aJ hC hP hT bM aR;go_wp2_with (go_at_call 24;go_must(refine(bK.o _ Bw).mono ?_);rintro e wz ⟨rfl,z,rfl⟩;simp only[zlw,Option.map_none])
   go_ret2
   exact⟨aC.o.trans (Below.mono (B:=wq.heap.size) Bw aC.o.size),none,⟨0,rfl⟩,fun h=>absurd h Mcx⟩
  |some i=>
   obtain⟨T,g,g7,ia,aG,bG,fT,_⟩:=zdM hT aO;rw[aO]at aJ bn;simp only[bG]at bn;subst bn;obtain⟨H,aM,D,dc,frm,t1,t2,t3,t4,t5,t6,t7⟩:=fT;have ca:=zab t1;have mG:∀W,Below wq.heap.size wq W->Calls Tryz.prog 24 #[.pointer (some ⟨b,0,none⟩),.string place,.int .i64 day] W (Ret W (.pointer (some ⟨T,0,none⟩))):=fun W hB=>by
    have:=aJ W hB;exact MaF
   have bK:=zHi mG;unfold zbw at t1;obtain⟨-,-,-,-,k4⟩:=cF5 t1;have T5:=zHi t5;clear aJ mG hC hP hT bM aR t1 t5 t6 t7 bG aG ia g7 aO;go_wp2_with (go_at_call 24;go_must(refine(bK.o _ Bw).mono ?_);rintro e wz ⟨rfl,z,rfl⟩)
   go_ret2
   exact⟨aC.o.trans (Below.mono (B:=wq.heap.size) Bw aC.o.size),H,aM,rfl,t3,(Ro.sl zam T5.o).keep (n:=wq.heap.size) Bw⟩
 ·go_wp2_with (go_at_call 23
               go_must(refine(fB.o _ Bw _ (zcC (zaq _ _ _ Mcx))).mono ?_)
               rintro e wq ⟨h1,⟨_,rfl⟩|⟨he,_⟩⟩;rotate_left 1
               ·exact absurd he h0
               have H1:=zHi h1
               clear h1)
  go_ret2
  exact⟨Below.trans (zac (zac (Below.refl _ _) _) _ Mcx) (H1.o.mono Mcz),.inl ⟨h0,rfl⟩⟩
def zfZ(w:World)(laws:List Law)(ds:List Deed)(place:ByteArray)(ns:List ByteArray)(day:Int)(e:Ending)(w':World):Prop:=
 Below w.heap.size w w'/\((zcs laws ds (place::ns) day≠0/\e=.returned (.tuple #[.pointer none,.pointer none,.int .i64 (zcs laws ds (place::ns) day)]))\/
  (zcs laws ds (place::ns) day=0/\zaL (zaQ laws ds day).1 place day=none/\e=.returned (.tuple #[.pointer none,.pointer none,.int .i64 12]))\/
  (zcs laws ds (place::ns) day=0/\∃base b la co B T i g,zaL (zaQ laws ds day).1 place day=some i/\(zaQ laws ds day).1.graves[i]?=some g/\e=.returned (.tuple #[.pointer (some ⟨b,0,none⟩),.pointer (some ⟨T,0,none⟩),.int .i64 0])/\w.heap.size<=base/\WldAt base w' b (zaQ laws ds day).1 la co/\TombAt w' base B T g/\(∃last,GoodSt (zaQ laws ds day).1 last)/\∃k,k<=60/\FewS k (zaQ laws ds day).1))
theorem zmc(laws:List Law)(ds:List Deed)(place:ByteArray)(ns:List ByteArray)(day:Int)(LA:Option Addr)(n nc:Nat)(DA:Option Addr)(m mc:Nat)(NA:Option Addr)(l c:Nat)(w:World)(hR:RightsIn w laws ds LA n nc DA m mc)(hF:FormsIn w)(hL:LensIn w)(hO:∀d∈ds,zdB d)(hp:place.size<=100000)
 (hl:l=ns.length)(eG:ns.length<=1000)(hN:∀s∈ns,s.size<=100000)(hS:Sl w 1 sC NA ns):
 Calls Tryz.prog 36 #[.agg #[.slice LA n nc,.slice DA m mc],.int .i64 day,.string place,.slice NA l c] w (zfZ w laws ds place ns day):=by
 subst hl;have yv:=fun W (hB:Below w.heap.size w W) XA xc (hS:Sl W 1 sC XA (place::ns))=>zoi laws ds day (place::ns) LA n nc DA m mc XA (1+ns.length) xc W (hR.keep hB) (hF.keep hB) (hL.keep hB) hO Mcz Mcz (by simpa using⟨hp,hN⟩) hS
 obtain⟨fB,HS⟩:=yH2 yv hS;unfold zfZ;clear yv hR hF hL hO hS;unfold zjV at fB;generalize zcs laws ds (place::ns) day=E at*;generalize(zaQ laws ds day).1=s at*;go_enter Tryz.func36,Tryz.ntmps36
 go_upto_region 1 with fail
 go_cut [11,12]from 14 to 24 (fun v11 v12 W=>Below w.heap.size w W/\((E≠0/\v11=.pointer none/\v12=.int .i64 E)\/(E=0/\v12=.int .i64 0/\∃base b la co,v11=.pointer (some ⟨b,0,none⟩)/\w.heap.size<=base/\WldAt base W b s la co/\(∃last,GoodSt s last)/\∃k,k<=60/\FewS k s)))
 case first=>
  refine wp_region_held_drew (S:=(fun w'=>w'.cell? ⟨w.heap.size,0,none⟩=some (.slice LA n nc)/\w'.cell? ⟨w.heap.size,1,none⟩=some (.slice DA m mc))) Mcv ?hS ?hrest
  case hS=>refine⟨?_,?_⟩<;>(simp[go_sem];done)
  case hrest=>
   intro hHeld;refine TkH 0 ?_;refine TkH 1 ?_;refine TkH 2 ?_;refine TkH 4 ?_;refine OnH 3 fun K hK=>?_
   go_simp
   have FO:Below w.heap.size w (w.alloc (.cells #[.slice LA n nc,.slice DA m mc] 25)).drew:=Bw;have bh:∀W,Below (w.heap.size+1) (w.alloc (.cells #[.slice LA n nc,.slice DA m mc] 25)).drew W->W.cell? ⟨w.heap.size,0,none⟩=some (.slice LA n nc)/\W.cell? ⟨w.heap.size,1,none⟩=some (.slice DA m mc):=fun W hW=>by
    refine⟨(zah hW (Nat.lt_succ_self _)).trans ?_,(zah hW (Nat.lt_succ_self _)).trans ?_⟩<;>(simp[go_sem];done)
   have ee:=zHi bh;clear bh;have aR:Below (w.heap.size+1) (w.alloc (.cells #[.slice LA n nc,.slice DA m mc] 25)).drew ((w.alloc (.cells #[.slice LA n nc,.slice DA m mc] 25)).drew.alloc (.cells #[.string place] 9)):=zac (Below.refl _ _) _ Mcx;refine NxM hK (fun hHeld=>?_) (ee.o _ aR);clear hK K;refine OnH 5 fun K hK=>?_
   refine zak (v:=.slice (some ⟨w.heap.size+1,0,none⟩) 1 1) (n:=1) (m:=ns.length) rfl _ _ rfl zb9 za9 zb8 rfl (base:=w.heap.size+1) (xs:=[place]) (ys:=ns) (.inr ⟨w.heap.size+1,0,1,#[.string place],rfl,by omega,zaq _ _ _ Mcx,Nat.le_refl _,by simp[maxLen],by simp,fun j u hj=>?hel⟩) rfl rfl rfl (HS.o.keep (n:=w.heap.size) Bw) McP Mcu Mcx ?happ
   case hel=>
    match j,hj with
    |0,hj=>simpa[sC]using hj
    |j+1,hj=>simp[sC]at hj
   case happ=>
    intro v6 w6 h1 h2 h3;obtain⟨A6,c6,dG,hS6,_⟩:=h1.sl za9;rw[show([place]++ns).length=1+ns.length by simp;omega]at dG;subst dG;have aS:Below (w.heap.size+1) (w.alloc (.cells #[.slice LA n nc,.slice DA m mc] 25)).drew w6:=zaU aR h2 (Nat.le_refl _) Mcx;have tg:Below w.heap.size w w6:=FO.trans (aS.mono (Nat.le_succ _));have EW:=zHi tg;refine NxM hK (fun hHeld=>?_) (ee.o _ aS);clear hK K;refine OnH 6 fun K hK=>?_
    go_simp
    refine(fB.o w6 EW.o A6 c6 hS6).mono ?_;rintro e wq ⟨k1,eU⟩;have bU:Below (w.heap.size+1) (w.alloc (.cells #[.slice LA n nc,.slice DA m mc] 25)).drew wq:=aS.trans (k1.mono (by have:=aS.size;simp at this;omega));have bS:=zHi (tg.trans (k1.mono tg.size));clear h1 h2 h3 k1 tg aS aR FO fB;rcases eU with⟨ai,rfl⟩|⟨he,base,b,la,co,rfl,q2,q3,q4,q5⟩
    ·have gU:=zHi ai;clear ai;refine NxM hK (fun hHeld=>?_) (ee.o _ bU);clear hK K;refine TkH 7 ?_;refine TkH 8 ?_;refine TkH 9 ?_;refine OnH 10 fun K hK=>?_
     go_simp
     refine NxM hK (fun hHeld=>?_) (ee.o _ bU);clear hK K;refine OnH 11 fun K hK=>?_
     go_simp
     refine NxM hK (fun hHeld=>?_) (ee.o _ bU);clear hK K;refine wpAnyH_done Mcv ?_ _;go_wp2_with fail
     go_meet
     exact⟨bS.o,.inl ⟨gU.o,rfl,rfl⟩⟩
    ·obtain⟨HE,Q2,Q3,Q4,Q5⟩:=yH5 he q2 q3 q4 q5;clear he q2 q3 q4 q5;refine NxM hK (fun hHeld=>?_) (ee.o _ bU);clear hK K;refine TkH 7 ?_;refine TkH 8 ?_;refine TkH 9 ?_;refine OnH 10 fun K hK=>?_
     go_simp
     refine NxM hK (fun hHeld=>?_) (ee.o _ bU);clear hK K;refine OnH 11 fun K hK=>?_
     go_simp
     refine NxM hK (fun hHeld=>?_) (ee.o _ bU);clear hK K;refine wpAnyH_done Mcv ?_ _;go_wp2_with fail
     go_meet
     exact⟨bS.o,.inr ⟨HE.o,rfl,base,b,la,co,rfl,Nat.le_trans EW.o.size Q2.o,Q3.o,Q4.o,Q5.o⟩⟩
 case rest=>
  obtain⟨hB,eU⟩:=hcut;rcases eU with⟨ai,rfl,rfl⟩|⟨he,rfl,base,b,la,co,rfl,q2,q3,q4,q5⟩
  ·have gU:=zHi ai;go_wp2_with fail
   go_ret3
   exact⟨hB,.inl ⟨gU.o,rfl⟩⟩
  ·have HE:=zHi he;clear he;obtain⟨HB,Q3,Q4,Q5⟩:=yH4 hB q3 q4 q5;obtain⟨Bk,dd,cc,pp,wl,rr,mv,tv,ps,ba,hC,hP,hT⟩:=q3;obtain⟨k,ft,bM⟩:=q5;have cq:=bM.graves;have aJ:=fun W (hB:Below wc.heap.size wc W)=>zi3 base b s la co place day W (hC.keep hB) (hT.keep hB) Mcu
   have hsz:=hB.size;have BS:=zHi hsz;cases aO:zaL s place day with
   |none=>
    rw[aO]at aJ;obtain⟨bK,kK⟩:=yH2 aJ aO;clear aJ hC hP hT bM hB q4 aO;go_wp2_with (go_at_call 24;go_must(refine(bK.o _ Bw).mono ?_);rintro e wz ⟨rfl,z,rfl⟩;simp only[zlw,Option.map_none])
    go_ret3
    exact⟨HB.o.trans (Below.mono (B:=wc.heap.size) Bw BS.o),.inr (.inl ⟨HE.o,kK.o,rfl⟩)⟩
   |some i=>
    obtain⟨T,g,g7,ia,aG,bG,fT,_⟩:=zdM hT aO;have mG:∀W,Below wc.heap.size wc W->Calls Tryz.prog 24 #[.pointer (some ⟨b,0,none⟩),.string place,.int .i64 day] W (Ret W (.pointer (some ⟨T,0,none⟩))):=fun W hB=>by
     have:=aJ W hB;rw[aO]at this;exact MaF
    obtain⟨bK,kK,zI,eP⟩:=yH4 mG aO aG fT;clear aJ mG hC hP hT bM hB q4 fT bG ia g7 aO aG;go_wp2_with (go_at_call 24;go_must(refine(bK.o _ Bw).mono ?_);rintro e wz ⟨rfl,z,rfl⟩)
    go_ret3
    have gI:Below wc.heap.size wc (wc.ext z):=Bw;exact⟨HB.o.trans (gI.mono BS.o),.inr (.inr ⟨HE.o,base,b,la,co,Bk,T,i,g,kK.o,zI.o,rfl,q2,Q3.o.keep gI,eP.o.keep gI,Q4.o,Q5.o⟩)⟩
end
open Classical in
noncomputable def zga (s:St) (cls:Int) (name x:ByteArray):Bool:=
 if zae x name then true else if cls==0 then false else if zhJ s x name||decide (Desc s x name)then true else cls != 1&&(zai s name).any (zae x)
structure MbAt (base:Nat) (W:World) (b T N TT WW:Nat) (s:St) (cls:Int) (name:ByteArray):Prop where
 peo:PeoAt base W b s
 tl:T<W.heap.size
 tc:W.cell? ⟨T,1,none⟩=some (.int .i64 cls)
 nl:N<W.heap.size
 nc:W.cell? ⟨N,0,none⟩=some (.string name)
 ttl:TT<W.heap.size
 ttc:W.cell? ⟨TT,0,none⟩=some (.pointer (some ⟨T,0,none⟩))
 wl:WW<W.heap.size
 wc:W.cell? ⟨WW,0,none⟩=some (.pointer (some ⟨b,0,none⟩))
theorem MbAt.keep{base:Nat}{W W':World}{b T N TT WW:Nat}{s:St}{cls:Int}{name:ByteArray}(h:MbAt base W b T N TT WW s cls name)(hB:Below W.heap.size W W'):MbAt base W' b T N TT WW s cls name:=
 ⟨h.peo.keep hB,Nat.lt_of_lt_of_le h.tl hB.size,(zah hB h.tl).trans h.tc,Nat.lt_of_lt_of_le h.nl hB.size,(zah hB h.nl).trans h.nc,Nat.lt_of_lt_of_le h.ttl hB.size,(zah hB h.ttl).trans h.ttc,Nat.lt_of_lt_of_le h.wl hB.size,(zah hB h.wl).trans h.wc⟩
open Classical in
theorem zoj(base b T N TT WW:Nat)(s:St)(cls:Int)(name x:ByteArray)(w:World)(hM:MbAt base w b T N TT WW s cls name)(fJ:s.marriages.length<=1000)(bX:s.children.length<=1000):
 Calls Tryz.prog 38 #[.string x,.pointer (some ⟨N,0,none⟩),.pointer (some ⟨TT,0,none⟩),.pointer (some ⟨WW,0,none⟩)] w (Ret w (.bool (zga s cls name x))):=by
 have hP:=hM.peo;obtain⟨B,d,c,p,wl,r,mv,tv,la,co,hC,u9⟩:=id hP;have dK:=zab hC;unfold WldC at hC;obtain⟨-,c1⟩:=cF2 hC;obtain⟨KA,kc,cX,fu,fR⟩:=zi2 u9 name;obtain⟨zQ,lJ⟩:=yH2 (fun W (hB:Below w.heap.size w W)=>ziw base b s x name W (hP.keep hB) Mcu) (fun W (hB:Below w.heap.size w W)=>zhu base b s name x W (hP.keep hB) Mcu);have bi:(zai s name).length<=100000:=by
  have:(zai s name).length<=s.children.length:=by unfold zai;rw[List.length_map];exact List.length_filter_le _ _
  omega
 have jA:=zHi (fun W (hB:Below w.heap.size w W)=>zlo (zai s name) x KA _ kc W rfl bi (fR.keep hB));have cL:∀z,(Instr.lookup 78 (.map (some c)) (.string name) false).run Tryz.prog (w.ext z)=.ok (.slice KA (zai s name).length kc) (w.ext z):=fun z=>cX _ (zao w z)
 have fO:=zHi cX;obtain⟨_,cw,t8,oR,yj,Ls,Lr,cG,hwc⟩:=hM;obtain⟨R,hR⟩:∃R,R=zga s cls name x:=⟨_,rfl⟩
 rw[<-hR];unfold zga at hR;have HR:=zHi hR;clear hP hC u9 cX fR hR;generalize zhJ s x name=ma at*;generalize decide (Desc s x name)=de at*;generalize(zai s name).any (zae x)=kd at*;generalize(zai s name).length=kl at*;cases hs:zae x name
 ·have zd:(x.toList==name.toList)=false:=hs;rw[hs]at HR;by_cases h0:cls=0
  ·subst h0;have HX:Hid (R=false):=by show _=_;rw[HR.o];rfl
   exact Mbj
  ·have HX:Hid (R=if ma||de then true else cls != 1&&kd):=by
    show _=_;rw[HR.o];have:(cls==0)=false:=by simpa using h0
    rw[this];rfl
   clear HR;cases ma
   ·cases de
    ·by_cases h1:cls=1
     ·subst h1;have av:Hid (R=false):=by show _=_;rw[HX.o];rfl
      clear HX fO cL;go_enter Tryz.func38,Tryz.ntmps38
      go_upto_region 5 with fail
      (refine zaj Mcv Mcv ?_
       repeat(first|go_big_quiet_skip|(go_big_quiet_want;go_big_quiet_op;first|go_big_quiet_on|(apply Exists.intro;refine⟨fun _=>?_,?_⟩;(first|(go_at_call 39;exact quietx (zQ.o _ Bw))|(go_at_call 40;exact quietx (lJ.o _ Bw)));go_big_quiet_on)))
       refine wpQuiet_nil ?_
       rintro _ ⟨zq,rfl⟩)
      go_upto_region 7 with fail
      go_quiet (fail)
      exact MaA
     ·have av:Hid (R=kd):=by
       show _=_;rw[HX.o];have:(cls != 1)=true:=by simpa using h1
       rw[this];simp
      clear HX;go_enter Tryz.func38,Tryz.ntmps38
      go_upto_region 5 with fail
      (refine zaj Mcv Mcv ?_
       repeat(first|go_big_quiet_skip|(go_big_quiet_want;go_big_quiet_op;first|go_big_quiet_on|(apply Exists.intro;refine⟨fun _=>?_,?_⟩;(first|(go_at_call 39;exact quietx (zQ.o _ Bw))|(go_at_call 40;exact quietx (lJ.o _ Bw)));go_big_quiet_on)))
       refine wpQuiet_nil ?_
       rintro _ ⟨zq,rfl⟩)
      go_upto_region 7 with fail
      have KZ:∀z,(Instr.lookup 78 (.map (some c)) (.string name) false).run Tryz.prog ((w.ext zq).ext z)=.ok (.slice KA kl kc) ((w.ext zq).ext z):=fun z=>fO.o _ Bw
      have cx:(cls==1)=false:=Mc1;have dY:(cls != 1)=true:=Mc1;have AH:decide (cls=1)=false:=Mc1
      (refine zaj Mcv Mcv ?_
       repeat(first|go_big_quiet_skip|(go_big_quiet_want;go_big_quiet_op;first|go_big_quiet_on|(apply Exists.intro;refine⟨fun _=>?_,?_⟩;(first|(go_at_call 41;exact zhW (jA.o _ Bw)));go_big_quiet_on)))
       refine wpQuiet_nil ?_
       rintro _ ⟨zq,rfl⟩)
      exact MaA
    ·have av:Hid (R=true):=by show _=_;rw[HX.o];rfl
     clear HX fO cL;go_enter Tryz.func38,Tryz.ntmps38
     go_upto_region 5 with fail
     (refine zaj Mcv Mcv ?_
      repeat(first|go_big_quiet_skip|(go_big_quiet_want;go_big_quiet_op;first|go_big_quiet_on|(apply Exists.intro;refine⟨fun _=>?_,?_⟩;(first|(go_at_call 39;exact quietx (zQ.o _ Bw))|(go_at_call 40;exact quietx (lJ.o _ Bw)));go_big_quiet_on)))
      refine wpQuiet_nil ?_
      rintro _ ⟨zq,rfl⟩)
     exact MaA
   ·have av:Hid (R=true):=by show _=_;rw[HX.o];rfl
    clear HX fO cL;go_enter Tryz.func38,Tryz.ntmps38
    go_upto_region 5 with fail
    (refine zaj Mcv Mcv ?_
     repeat(first|go_big_quiet_skip|(go_big_quiet_want;go_big_quiet_op;first|go_big_quiet_on|(apply Exists.intro;refine⟨fun _=>?_,?_⟩;(go_at_call 39;exact quietx (zQ.o _ Bw));go_big_quiet_on)))
     refine wpQuiet_nil ?_
     rintro _ ⟨zq,rfl⟩)
    exact MaA
 ·have zd:(x.toList==name.toList)=true:=hs;have HX:Hid (R=true):=by show _=_;rw[HR.o,hs];rfl
  exact Mbj
def zkP(N TT WW:Nat):Value:=.func (.func 38) #[] #[.pointer (some ⟨N,0,none⟩),.pointer (some ⟨TT,0,none⟩),.pointer (some ⟨WW,0,none⟩)]
theorem zne(base b T N TT WW FB:Nat)(s:St)(cls:Int)(name:ByteArray)(q:RPart)(w:World)(hM:MbAt base w b T N TT WW s cls name)(hFl:FB<w.heap.size)(Jr:w.cell? ⟨FB,0,none⟩=some (zkP N TT WW))(fJ:s.marriages.length<=1000)(bX:s.children.length<=1000):
 Calls Tryz.prog 63 #[.agg #[.string q.name,.int .i64 q.num,.int .i64 q.den],.pointer (some ⟨FB,0,none⟩)] w (Ret w (.bool (!noB q.name&&zga s cls name q.name))):=by
 have eg:∀args w,(callFunc 38 args).run Tryz.prog w=.ok (.enter 38 args) w:=enters_of Tryz.func38 Mcv rfl;have vw:=zHi (fun W (hB:Below w.heap.size w W)=>zoj base b T N TT WW s cls name q.name W (hM.keep hB) fJ bX);unfold zkP at Jr;have hFn:FB≠w.heap.size:=Mcu;clear hM;obtain⟨nm,nu,de⟩:=q;simp only at*;generalize zga s cls name nm=le at*;cases hn:noB nm
 ·have cx:nm.toList.isEmpty=false:=hn;have dY:¬nm.toList=[]:=by simpa using cx
  go_enter Tryz.func63,Tryz.ntmps63
  go_wp2_with (go_at_fn 38;refine(vw.o _ Bw).mono ?_;rintro e wq ⟨rfl,z,rfl⟩)
  go_ret
  exact Ret.of (zaP Mcx) Bw
 ·have cx:nm.toList.isEmpty=true:=hn;have dY:nm.toList=[]:=by simpa using cx
  go_enter Tryz.func63,Tryz.ntmps63
  exact Mbo
theorem sl_map{α β:Type}{w:World}{size:Nat}{f:α->List Value}{g:β->List Value}{A:Option Addr}{xs:List α}(h:Sl w size f A xs)(m:α->β)(hm:∀x,g (m x)=f x):Sl w size g A (xs.map m):=fun hl=>by
 obtain⟨b,off,hA,hb,hc⟩:=h (by simpa using hl);refine⟨b,off,hA,hb,fun k x hk j u hu=>?_⟩;rw[List.getElem?_map,Option.map_eq_some_iff]at hk;obtain⟨y,hy,rfl⟩:=hk;rw[hm]at hu;exact hc k y hy j u hu
def toR(p:ByteArray×Rat):RPart:=⟨p.1,p.2.num,p.2.den⟩
noncomputable def entP (s:St) (g:Grave) (name:ByteArray):Bool:=g.holders.any (fun p=>!noB p.1&&zga s g.cls name p.1)||g.died.any (zga s g.cls name)
theorem zmd(base b T N TT WW:Nat)(B:List Nat)(s:St)(g:Grave)(name:ByteArray)(w:World)(hM:MbAt base w b T N TT WW s g.cls name)(hT:TombAt w base B T g)(fJ:s.marriages.length<=1000)(bX:s.children.length<=1000)(ko:g.holders.length<=100000)(bx:g.died.length<=100000):
 Calls Tryz.prog 37 #[.pointer (some ⟨T,0,none⟩),zkP N TT WW] w (Ret w (.bool (entP s g name))):=by
 have eg:∀args w,(callFunc 38 args).run Tryz.prog w=.ok (.enter 38 args) w:=enters_of Tryz.func38 Mcv rfl;have eg2:∀args w,(callFunc 63 args).run Tryz.prog w=.ok (.enter 63 args) w:=enters_of Tryz.func63 Mcv rfl;obtain⟨H,aM,D,dc,frm,t1,t2,t3,t4,t5,t6,t7⟩:=hT;have ca:=zab t1;unfold zbw at t1;obtain⟨-,-,-,-,k4,k5⟩:=cF6 t1;have wL:Sl w 3 RPart.cells H (g.holders.map toR):=sl_map (Ro.sl zam t5) toR (fun _=>rfl);have FI:=Ro.sl za9 t6;have xk:∀W,Below w.heap.size w W->w.heap.size<W.heap.size->W.cell? ⟨w.heap.size,0,none⟩=some (zkP N TT WW)->Calls Tryz.prog 62 #[.slice H g.holders.length aM,.func (.func 63) #[] #[.pointer (some ⟨w.heap.size,0,none⟩)]] W (Ret W (.bool ((g.holders.map toR).any fun q=>!noB q.name&&zga s g.cls name q.name))):=fun W hB hl hc=>by
  refine zcV 63 _ eg2 _ H _ aM (g.holders.map toR) W Mcx (by simpa using ko) (wL.keep hB) fun x _ W' eC=>?_
  refine(zne base b T N TT WW w.heap.size s g.cls name x W' (hM.keep (hB.trans (eC.mono hB.size))) (Nat.lt_of_lt_of_le hl eC.size) ((zah eC hl).trans hc) fJ bX).mono ?_;exact MbR
 have xl:∀W,Below w.heap.size w W->Calls Tryz.prog 48 #[.slice D g.died.length dc,zkP N TT WW] W (Ret W (.bool (g.died.any (zga s g.cls name)))):=fun W hB=>by
  refine zmb 38 _ eg _ D _ dc g.died W rfl bx (FI.keep hB) fun x _ W' eC=>?_
  refine(zoj base b T N TT WW s g.cls name x W' (hM.keep (hB.trans (eC.mono hB.size))) fJ bX).mono ?_;exact MbR
 have he:entP s g name=((g.holders.map toR).any (fun q=>!noB q.name&&zga s g.cls name q.name)||g.died.any (zga s g.cls name)):=by
  unfold entP;rw[List.any_map];rfl
 rw[he];generalize(g.holders.map toR).any (fun q=>!noB q.name&&zga s g.cls name q.name)=b1 at*;generalize g.died.any (zga s g.cls name)=b2 at*;obtain⟨nj,pf⟩:=yH2 xk xl;unfold zkP at nj pf;unfold zkP;clear xk xl wL FI t1 t5 t6 t7 hM he eg eg2;have CG:T≠w.heap.size:=Mcu;cases b1
 ·go_enter Tryz.func37,Tryz.ntmps37
  go_upto_region 1 with fail
  (refine zaj Mcv Mcv ?_
   repeat(first|go_big_quiet_skip|(go_big_quiet_want;go_big_quiet_op;first|go_big_quiet_on|(apply Exists.intro;refine⟨fun _=>?_,?_⟩;(first|(go_at_call 62;exact quietx (nj.o _ Bw McD Mc0))|(go_at_call 48;exact quietx (pf.o _ Bw)));go_big_quiet_on)))
   refine wpQuiet_nil ?_
   rintro _ ⟨zq,rfl⟩)
  exact Mbo
 ·go_enter Tryz.func37,Tryz.ntmps37
  go_upto_region 1 with fail
  (refine zaj Mcv Mcv ?_
   repeat(first|go_big_quiet_skip|(go_big_quiet_want;go_big_quiet_op;first|go_big_quiet_on|(apply Exists.intro;refine⟨fun _=>?_,?_⟩;((go_at_call 62;exact quietx (nj.o _ Bw McD Mc0)));go_big_quiet_on)))
   refine wpQuiet_nil ?_
   rintro _ ⟨zq,rfl⟩)
  exact Mbo
noncomputable def zfC (laws:List Law) (ds:List Deed) (place name:ByteArray) (day:Int):Bool×Int:=
 if zcs laws ds [place,name] day != 0 then(false,zcs laws ds [place,name] day)else match zaL (zaQ laws ds day).1 place day with
  |none=>(false,12)
  |some i=>(((zaQ laws ds day).1.graves.getD i zfa).cls==4||entP (zaQ laws ds day).1 ((zaQ laws ds day).1.graves.getD i zfa) name,0)
theorem zdk{W:World}{a o:Nat}{v:Value}(h:W.cell? ⟨a,o,none⟩=some v):a<W.heap.size:=by
 unfold World.cell? at h;cases hh:W.heap[a]? with
 |none=>simp[hh]at h
 |some x=>exact zab hh
theorem znf(laws:List Law)(ds:List Deed)(place name:ByteArray)(day:Int)(LA:Option Addr)(n nc:Nat)(DA:Option Addr)(m mc:Nat)(w:World)(hR:RightsIn w laws ds LA n nc DA m mc)(hF:FormsIn w)(hL:LensIn w)(hO:∀d∈ds,zdB d)(hp:place.size<=100000)(hn:name.size<=100000):
 Calls Tryz.prog 17 #[.agg #[.slice LA n nc,.slice DA m mc],.string place,.string name,.int .i64 day] w (Ret w (.tuple #[.bool (zfC laws ds place name day).1,.int .i64 (zfC laws ds place name day).2])):=by
 have aJ:=fun W (hB:Below w.heap.size w W) NA (hS:Sl W 1 sC NA [name])=>zmc laws ds place [name] day LA n nc DA m mc NA 1 1 W (hR.keep hB) (hF.keep hB) (hL.keep hB) hO hp rfl Mcx (by simpa using hn) hS
 have bK:=zHi aJ;clear aJ hR hF hL hO hp hn;unfold zfZ at bK;obtain⟨R,hR⟩:∃R,R=zfC laws ds place name day:=⟨_,rfl⟩
 rw[<-hR];unfold zfC at hR;generalize zcs laws ds [place,name] day=E at*;generalize(zaQ laws ds day).1=s at*;have HR:=zHi hR;clear hR;by_cases h0:E=0
 ·have HE:=zHi h0;cases aO:zaL s place day with
  |none=>
   have HX:Hid (R=(false,12)):=by show _=_;rw[HR.o,aO,if_neg (by simp[h0])]
   have kK:=zHi aO;clear HR aO h0;go_enter Tryz.func17,Tryz.ntmps17
   go_wp2_with (go_at_call 36
                go_must(refine(bK.o _ Bw _ (zcC (zaq _ _ _ Mcx))).mono ?_)
                rintro e wq ⟨h1,⟨ai,_⟩|⟨_,_,rfl⟩|⟨_,base,b,la,co,B,T,i,g,hi,_⟩⟩
                ·exact absurd HE.o ai
                rotate_left 1
                ·rw[kK.o]at hi;cases hi
                go_must(have hm:=(show Below w.heap.size _ wq from h1.mono Md5))
                go_must(have bD:Below w.heap.size w wq:=Below.trans Bw hm)
                have eo:=zHi bD
                clear h1 hm bD)
   exact MbM
  |some i=>
   have kK:=zHi aO;have hX:R=((s.graves.getD i zfa).cls==4||entP s (s.graves.getD i zfa) name,0):=by rw[HR.o,aO,if_neg (by simp[h0])]
   obtain⟨g,aG,-,-⟩:=zbO aO;rw[zf1 aG]at hX;obtain⟨HX,zI⟩:=yH2 hX aG;clear HR aO h0 hX aG;go_enter Tryz.func17,Tryz.ntmps17
   go_upto_region 2 with
    (go_at_call 36
     go_must(refine(bK.o _ Bw _ (zcC (zaq _ _ _ Mcx))).mono ?_)
     rintro e wq ⟨h1,⟨ai,_⟩|⟨_,hi,_⟩|⟨_,base,b,la,co,B,T,i',g',hi,fD,rfl,h2,h3,h4,h5,h6⟩⟩;go_must(·exact absurd HE.o ai)
     go_must(·rw[kK.o]at hi;cases hi)
     go_must(have hm:=(show Below w.heap.size _ wq from h1.mono Md5))
     go_must(have bD:Below w.heap.size w wq:=Below.trans Bw hm)
     go_must(have FA:=(h1.cell (p:=⟨w.heap.size+1,0,none⟩) (by simp<;>omega)).trans (show _=some (Value.string name) from by simp[go_sem]))
     go_must(have aW:g'=g:=(by rw[kK.o]at hi;cases hi;rw[zI.o]at fD;exact(Option.some.inj fD).symm))
     go_must(subst aW)
     obtain⟨qM,eo⟩:=yH2 FA bD;have sW:=bD.size;obtain⟨H3,H4,H6⟩:=yH3 h3 h4 h6
     clear h1 hm bD FA h2 h3 h4 h5 h6 hi fD)
   have fT:=H4.o;obtain⟨H,aM,D,dc,frm,t1,t2,t3,t4,t5,t6,t7⟩:=H4.o;have ca:=zab t1;unfold zbw at t1;obtain⟨-,k1⟩:=cF2 t1;obtain⟨k,ft,bM⟩:=H6.o;have ko:=bM.held g' (List.mem_of_getElem? zI.o);have fJ:=bM.marr;have bX:=bM.kids;have bk:=H3.o.lt;have oR:w.heap.size+1<wq.heap.size:=zdk qM.o;have De:∀W,Below wq.heap.size wq W->W.cell? ⟨wq.heap.size,0,none⟩=some (.pointer (some ⟨b,0,none⟩))->W.cell? ⟨wq.heap.size+1,0,none⟩=some (.pointer (some ⟨T,0,none⟩))->Calls Tryz.prog 37 #[.pointer (some ⟨T,0,none⟩),zkP (w.heap.size+1) (wq.heap.size+1) wq.heap.size] W (Ret W (.bool (entP s g' name))):=fun W hB e1 e2=>
    zmd base b T (w.heap.size+1) (wq.heap.size+1) wq.heap.size B s g' name W ⟨H3.o.peo.keep hB,Nat.lt_of_lt_of_le ca hB.size,(zah hB ca).trans k1,Nat.lt_of_lt_of_le oR hB.size,(zah hB oR).trans qM.o,zdk e2,e2,zdk e1,e1⟩ (fT.keep hB) Mcu Mcu Mcu Mcu
   have Ep:=zHi De;unfold zkP at Ep;have ET:=zHi ca;have CG:T≠wq.heap.size:=Mcu;have K0:T≠wq.heap.size+1:=Mcu;generalize entP s g' name=ep at*;clear De fT t1 t2 t3 t4 t5 t6 t7 ko fJ bX bM bk;by_cases h4:g'.cls=4
   ·have av:Hid (R=(true,0)):=by show _=_;rw[HX.o,h4];rfl
    rw[h4]at k1;go_wp2_with fail
    go_ret2
    rw[av.o];have bD:=eo.o;exact Ret.of rfl Bw
   ·have av:Hid (R=(ep,0)):=by
     show _=_;rw[HX.o,show(g'.cls==4)=false by simpa using h4];rfl
    go_wp2_with (go_at_call 37;go_must(refine(Ep.o _ Bw Mc0 Mc0).mono ?_);rintro e wz ⟨rfl,z,rfl⟩)
    go_ret2
    rw[av.o];have bD:=eo.o;exact Ret.of rfl Bw
 ·have HX:Hid (R=(false,E)):=by show _=_;rw[HR.o,if_pos MdA]
  have HE:=zHi h0;clear HR h0;go_enter Tryz.func17,Tryz.ntmps17
  go_wp2_with (go_at_call 36
               go_must(refine(bK.o _ Bw _ (zcC (zaq _ _ _ Mcx))).mono ?_)
               rintro e wq ⟨h1,⟨_,rfl⟩|⟨he,_⟩|⟨he,_⟩⟩;rotate_left 1
               ·exact absurd he HE.o
               ·exact absurd he HE.o
               go_must(have hm:=(show Below w.heap.size _ wq from h1.mono Md5))
               go_must(have bD:Below w.heap.size w wq:=Below.trans Bw hm)
               have eo:=zHi bD
               clear h1 hm bD)
  exact MbM
