/- Walks of chapter 5's Holders, inForce, Class, Ends. -/
import Derived.Test.YtckkbkdcdkhglaaGreatDoorE7
import Derived.Test.YtckkbkdcdkhglaaGreatDoorOB
set_option linter.unusedSimpArgs false
set_option linter.unusedVariables false
set_option maxRecDepth 100000
set_option maxHeartbeats 4000000
namespace Go.Proofs.YtckkbkdcdkhglaaGreatDoor
open Go.RowKit Go.Shelf
attribute [local go_sem] World.cell?_alloc_mark zag za5 zaq za8 zaw zax zay zaz za0 za1 za2
attribute [local go_sem] zap zad
noncomputable def zew (laws:List Law) (s:St) (co:Nat) (last:Int) (d:Deed):St×Int:=
 if decide (60<=co)then(s,8)else if decide (d.day<last)then(s,9)else zbq laws s d
def ziN (base b:Nat) (x:St×Int) (day la co:Int) (w:World) (e:Ending) (w':World):Prop:=
 e= .returned (.int .i64 x.2)/\WldAt base w' b x.1 (if x.2=0 then day else la) (if x.2=0 then co+1 else co)/\Below base w w'
theorem wldC_tick {W:World} {b d c p wl r:Nat} {mv tv:Value} {la co:Int} (h:WldC W b d c p wl r mv tv la co) (la' co':Int):WldC ((W.setCell ⟨b,7,none⟩ (.int .i64 la')).setCell ⟨b,8,none⟩ (.int .i64 co')) b d c p wl r mv tv la' co':=by
 unfold WldC at*;have:=Joins.block_setCell (i:=8) (Joins.block_setCell (i:=7) h (.int .i64 la')) (.int .i64 co');simpa using this
theorem wld_tick {base b:Nat} {W:World} {s:St} {la co:Int} (h:WldAt base W b s la co) (la' co':Int):WldAt base ((W.setCell ⟨b,7,none⟩ (.int .i64 la')).setCell ⟨b,8,none⟩ (.int .i64 co')) b s la' co':=by
 obtain⟨B,d,c,p,wl,r,mv,tv,ps,h1,h2,h3,h4⟩:=h;have hg:W.grownBy ((W.setCell ⟨b,7,none⟩ (.int .i64 la')).setCell ⟨b,8,none⟩ (.int .i64 co')) (some b):=zbn (zau W b 7 _) (zau _ b 8 _);exact⟨B,d,c,p,wl,r,mv,tv,ps,h1,wldC_tick h2 la' co',h3.kept hg h2 Mcn Mcn Mcn,h4.kept hg h2 Mcn Mcn Mcn Mcn⟩
theorem wrap_k {k:Nat} (h:k<1000):wrap64 ((k:Int)+1)=(k:Int)+1:=by
 unfold wrap64;omega
theorem wrap_k2 {k:Nat} (h:k<1000):IntKind.i64.wrap ((k:Int)+1)=(k:Int)+1:=by
 rw[IntKind.wrap_i64];omega
theorem wld_drew {base b:Nat} {W:World} {s:St} {la co:Int} (h:WldAt base W b s la co):WldAt base W.drew b s la co:=h.keep (n:=W.heap.size) ⟨rfl,rfl,rfl,Nat.le_refl _,fun _ _=>rfl⟩
theorem taken_ok {base b:Nat} {s':St} {day la co:Int} {w w':World} (h:WldAt base w' b s' day (co+1)) (hB:Below base w w'):ziN base b (s',0) day la co w (.returned (.int .i64 0)) w':=⟨rfl,by simpa using h,hB⟩
theorem taken_no {base b:Nat} {s':St} {day la co er:Int} {w w':World} (h0:er≠0) (h:WldAt base w' b s' la co) (hB:Below base w w'):ziN base b (s',er) day la co w (.returned (.int .i64 er)) w':=⟨rfl,by simpa[h0]using h,hB⟩
theorem take_any (base b:Nat) (s:St) (k:Nat) (last:Int) (laws:List Law) (LA:Option Addr) (lc:Nat) (d:Deed) (B:Option Addr) (c:Nat) (w:World) (hW:WldAt base w b s last k) (ji:GoodSt s last) (hF:FewS k s) (hd:OkD d) (bh:zaA laws=0) (hL:LensIn w) (ir:Sl w 4 Law.cells LA laws) (ay:d.to.length<=c) (hS:Sl w 3 RPart.cells B d.to):
 Calls Tryz.prog 101 #[.pointer (some ⟨b,0,none⟩), .slice LA laws.length lc,d.v B c] w (ziN base b (zew laws s k last d) d.day last k w):=by
 have ao:=hW;obtain⟨Bk,dd,cc,pp,wl,rr,mv,tv,ps,ba,hC,hP,hT⟩:=hW;have dH:=zab hC;have cf:=hd.kind;have HW:=zHi ao;unfold WldC at hC;obtain⟨-,-,-,-,-,-,-,c7,c8⟩:=cF9 hC;clear hC hP hT ao;by_cases h60:60<=k
 ·have hx:zew laws s k last d=(s,8):=by simp[zew,h60]
  rw[hx];obtain⟨kd,dy,pl,fr,ts,cl,yr⟩:=d;have fM:(60:Int)<=(k:Int):=Mcl;clear hd hx ji hF ir hS cf hL bh ay;unfold Deed.v;simp only;go_enter Tryz.func101,Tryz.ntmps101
  exact Mbm
 have fM: ¬(60:Int)<=(k:Int):=Mcl;have xf:k<1000:=Mcl;by_cases aa:d.day<last
 ·have hx:zew laws s k last d=(s,9):=by simp[zew,h60,aa]
  rw[hx];obtain⟨kd,dy,pl,fr,ts,cl,yr⟩:=d;simp only at aa;clear hd hx ji hF ir hS cf hL bh ay;unfold Deed.v;simp only;go_enter Tryz.func101,Tryz.ntmps101
  go_upto_region 3 with fail
  go_quiet (fail)
  exact Mbm
 have hx:zew laws s k last d=zbq laws s d:=by simp[zew,h60,aa]
 rw[hx];clear hx;have bQ:last<=d.day:=Mcl;have cB:=hF.graves;have bo:=hF.kids;have ft:=hF.marr;have cx:=hF.wills d.frm;have FC: ∀g∈s.graves,g.holders.length<=10000:=fun g hg=>by have:=(hF.held g hg).1;omega
 have x9: ∀g∈s.graves,g.holders.length<=70000/\g.died.length<=1000:=fun g hg=>by have:=hF.held g hg;omega
 have fq:laws.length<=10:=by
  unfold zaA at bh;split at bh
  ·cases bh
  ·rename_i h;simpa using h
 have bN: ∀g∈s.graves,g.fin<=200000:=fun g hg=>(hF.held g hg).2.2
 have bn:=zeo bh d.day;have dG:=zHi ji;have HF:=zHi (And.intro FC (And.intro x9 bN));have iO:=zHi hd;have cY:=zHi hL;have dU:=zHi ir;have eV:=zHi hS;have cZ:=zHi bn;have e0: ∀W:World,zbq laws s d=zbq laws s d:=fun _=>rfl
 clear ji hF hd hL ir hS bh bn FC x9 bN e0;have fY:d.kind=0\/d.kind=1\/d.kind=2\/d.kind=3\/d.kind=4\/d.kind=5\/d.kind=6\/d.kind=7\/d.kind=8:=Mcl;clear cf;obtain⟨kd,dy,pl,fr,ts,cl,yr⟩:=d;simp only at aa bQ fY ay cx;rcases fY with rfl|rfl|rfl|rfl|rfl|rfl|rfl|rfl|rfl
 ·have bo: ∀W,Below w.heap.size w W->Calls Tryz.prog 123 #[.pointer (some ⟨b,0,none⟩), .agg #[.int .i64 0, .int .i64 dy, .string pl, .string fr, .slice B ts.length c, .int .i64 cl, .int .i64 yr]] W (zbF base b (zbq laws s ⟨0,dy,pl,fr,ts,cl,yr⟩) last k W):=fun W hB=>by
   rw[show zbq laws s ⟨0,dy,pl,fr,ts,cl,yr⟩=zcM s ⟨0,dy,pl,fr,ts,cl,yr⟩from by simp[zbq]];exact grant_any base b s last k ⟨0,dy,pl,fr,ts,cl,yr⟩ B c W (HW.o.keep hB) (cY.o.keep hB) iO.o rfl Mcl ay (eV.o.keep hB)
  generalize zbq laws s ⟨0,dy,pl,fr,ts,cl,yr⟩=X at*;have bU:=zHi bo;clear bo dG HF iO cY dU eV cZ;obtain⟨s',er⟩:=X;unfold Deed.v;simp only;go_enter Tryz.func101,Tryz.ntmps101
  go_upto_region 3 with fail
  go_quiet (fail)
  go_upto_region 18 with
   (go_at_call 123
    go_must(refine(bU.o _ Bw).mono ?_)
    rintro e wq ⟨rfl,hW,hB,hK⟩;have h0:=((hK w.heap.size _ _ (zar _ _ _ rfl)).trans (zar _ _ _ rfl))
    obtain⟨Bk',d',c',p',wl',r',mv',tv',ps',ew,cF,gC,fV⟩:=id hW;have nr:=zHi hW;have nQ:=zHi cF;have nO:=zHi hB;have mZ:=zHi h0
    clear hW hB hK h0 gC fV cF)
  exact Md
 ·have bo: ∀W,Below w.heap.size w W->Calls Tryz.prog 124 #[.pointer (some ⟨b,0,none⟩), .agg #[.int .i64 1, .int .i64 dy, .string pl, .string fr, .slice B ts.length c, .int .i64 cl, .int .i64 yr]] W (zbF base b (zbq laws s ⟨1,dy,pl,fr,ts,cl,yr⟩) last k W):=fun W hB=>by
   rw[show zbq laws s ⟨1,dy,pl,fr,ts,cl,yr⟩=zbp s ⟨1,dy,pl,fr,ts,cl,yr⟩from by simp[zbq]];exact zl0 base b s last k last ⟨1,dy,pl,fr,ts,cl,yr⟩ B c W (HW.o.keep hB) dG.o iO.o rfl Mcl HF.o.1 ay (eV.o.keep hB)
  generalize zbq laws s ⟨1,dy,pl,fr,ts,cl,yr⟩=X at*;have bU:=zHi bo;clear bo dG HF iO cY dU eV cZ;obtain⟨s',er⟩:=X;unfold Deed.v;simp only;go_enter Tryz.func101,Tryz.ntmps101
  go_upto_region 3 with fail
  go_quiet (fail)
  go_upto_region 18 with
   (go_at_call 124
    go_must(refine(bU.o _ Bw).mono ?_)
    rintro e wq ⟨rfl,hW,hB,hK⟩;have h0:=((hK w.heap.size _ _ (zar _ _ _ rfl)).trans (zar _ _ _ rfl))
    obtain⟨Bk',d',c',p',wl',r',mv',tv',ps',ew,cF,gC,fV⟩:=id hW;have nr:=zHi hW;have nQ:=zHi cF;have nO:=zHi hB;have mZ:=zHi h0
    clear hW hB hK h0 gC fV cF)
  exact Md
 ·have bo: ∀W,Below w.heap.size w W->Calls Tryz.prog 125 #[.pointer (some ⟨b,0,none⟩), .agg #[.int .i64 2, .int .i64 dy, .string pl, .string fr, .slice B ts.length c, .int .i64 cl, .int .i64 yr]] W (zbF base b (zbq laws s ⟨2,dy,pl,fr,ts,cl,yr⟩) last k W):=fun W hB=>by
   rw[show zbq laws s ⟨2,dy,pl,fr,ts,cl,yr⟩=zaZ s ⟨2,dy,pl,fr,ts,cl,yr⟩from by simp[zbq]];exact zk2 base b s last k last ⟨2,dy,pl,fr,ts,cl,yr⟩ B c W (HW.o.keep hB) dG.o Mcl HF.o.1
  generalize zbq laws s ⟨2,dy,pl,fr,ts,cl,yr⟩=X at*;have bU:=zHi bo;clear bo dG HF iO cY dU eV cZ;obtain⟨s',er⟩:=X;unfold Deed.v;simp only;go_enter Tryz.func101,Tryz.ntmps101
  go_upto_region 3 with fail
  go_quiet (fail)
  go_upto_region 18 with
   (go_at_call 125
    go_must(refine(bU.o _ Bw).mono ?_)
    rintro e wq ⟨rfl,hW,hB,hK⟩;have h0:=((hK w.heap.size _ _ (zar _ _ _ rfl)).trans (zar _ _ _ rfl))
    obtain⟨Bk',d',c',p',wl',r',mv',tv',ps',ew,cF,gC,fV⟩:=id hW;have nr:=zHi hW;have nQ:=zHi cF;have nO:=zHi hB;have mZ:=zHi h0
    clear hW hB hK h0 gC fV cF)
  exact Md
 ·have bo: ∀W,Below w.heap.size w W->Calls Tryz.prog 126 #[.pointer (some ⟨b,0,none⟩), .agg #[.int .i64 3, .int .i64 dy, .string pl, .string fr, .slice B ts.length c, .int .i64 cl, .int .i64 yr]] W (zbF base b (zbq laws s ⟨3,dy,pl,fr,ts,cl,yr⟩) last k W):=fun W hB=>by
   rw[show zbq laws s ⟨3,dy,pl,fr,ts,cl,yr⟩=zcX s ⟨3,dy,pl,fr,ts,cl,yr⟩from by simp[zbq]];exact zmH base b s last k last ⟨3,dy,pl,fr,ts,cl,yr⟩ B c W (HW.o.keep hB) (cY.o.keep hB) iO.o Mcl HF.o.2.2
  generalize zbq laws s ⟨3,dy,pl,fr,ts,cl,yr⟩=X at*;have bU:=zHi bo;clear bo dG HF iO cY dU eV cZ;obtain⟨s',er⟩:=X;unfold Deed.v;simp only;go_enter Tryz.func101,Tryz.ntmps101
  go_upto_region 3 with fail
  go_quiet (fail)
  go_upto_region 18 with
   (go_at_call 126
    go_must(refine(bU.o _ Bw).mono ?_)
    rintro e wq ⟨rfl,hW,hB,hK⟩;have h0:=((hK w.heap.size _ _ (zar _ _ _ rfl)).trans (zar _ _ _ rfl))
    obtain⟨Bk',d',c',p',wl',r',mv',tv',ps',ew,cF,gC,fV⟩:=id hW;have nr:=zHi hW;have nQ:=zHi cF;have nO:=zHi hB;have mZ:=zHi h0
    clear hW hB hK h0 gC fV cF)
  exact Md
 ·have bo: ∀W,Below w.heap.size w W->Calls Tryz.prog 128 #[.pointer (some ⟨b,0,none⟩), .agg #[.int .i64 4, .int .i64 dy, .string pl, .string fr, .slice B ts.length c, .int .i64 cl, .int .i64 yr]] W (zbF base b (zbq laws s ⟨4,dy,pl,fr,ts,cl,yr⟩) last k W):=fun W hB=>by
   rw[show zbq laws s ⟨4,dy,pl,fr,ts,cl,yr⟩=zgO s ⟨4,dy,pl,fr,ts,cl,yr⟩from by simp[zbq]];exact will_any base b s last k ⟨4,dy,pl,fr,ts,cl,yr⟩ B c W (HW.o.keep hB) iO.o rfl (eV.o.keep hB)
  generalize zbq laws s ⟨4,dy,pl,fr,ts,cl,yr⟩=X at*;have bU:=zHi bo;clear bo dG HF iO cY dU eV cZ;obtain⟨s',er⟩:=X;unfold Deed.v;simp only;go_enter Tryz.func101,Tryz.ntmps101
  go_upto_region 3 with fail
  go_quiet (fail)
  go_upto_region 7 with fail
  refine wp_region_held_drew (S:=(fun w'=>w'.cell? ⟨w.heap.size,0,none⟩=some (.int .i64 4)/\w'.cell? ⟨w.heap.size,1,none⟩=some (.int .i64 dy)/\w'.cell? ⟨w.heap.size,2,none⟩=some (.string pl)/\w'.cell? ⟨w.heap.size,3,none⟩=some (.string fr)/\w'.cell? ⟨w.heap.size,4,none⟩=some (.slice B ts.length c)/\w'.cell? ⟨w.heap.size,5,none⟩=some (.int .i64 cl)/\w'.cell? ⟨w.heap.size,6,none⟩=some (.int .i64 yr))) Mcm ?hS4 ?hrest4
  case hS4=>refine⟨?_,?_,?_,?_,?_,?_,?_⟩<;>(simp[go_sem];done)
  intro hHeld;refine TkH 0 ?_;refine TkH 1 ?_;refine TkH 2 ?_;refine TkH 3 ?_;refine OnH 4 fun K hK=> ?_
  go_simp
  refine(bU.o _ Bw).mono ?_;rintro e wq ⟨rfl,hW,hB,hK⟩;have h0:=((hK w.heap.size _ _ (zar _ _ _ rfl)).trans (zar _ _ _ rfl))
  obtain⟨Bk',d',c',p',wl',r',mv',tv',ps',ew,cF,gC,fV⟩:=id hW;have nr:=zHi hW;have nQ:=zHi cF;have nO:=zHi hB;have mZ:=zHi h0;have d0:wq.cell? ⟨w.heap.size,0,none⟩=some (.int .i64 4):=McQ;exact MbP
 ·have bo: ∀W,Below w.heap.size w W->Calls Tryz.prog 128 #[.pointer (some ⟨b,0,none⟩), .agg #[.int .i64 5, .int .i64 dy, .string pl, .string fr, .slice B ts.length c, .int .i64 cl, .int .i64 yr]] W (zbF base b (zbq laws s ⟨5,dy,pl,fr,ts,cl,yr⟩) last k W):=fun W hB=>by
   rw[show zbq laws s ⟨5,dy,pl,fr,ts,cl,yr⟩=zb7 s ⟨5,dy,pl,fr,ts,cl,yr⟩from by simp[zbq]];exact zlA base b s last k ⟨5,dy,pl,fr,ts,cl,yr⟩ B c W (HW.o.keep hB) iO.o rfl ay (eV.o.keep hB)
  generalize zbq laws s ⟨5,dy,pl,fr,ts,cl,yr⟩=X at*;have bU:=zHi bo;clear bo dG HF iO cY dU eV cZ;obtain⟨s',er⟩:=X;unfold Deed.v;simp only;go_enter Tryz.func101,Tryz.ntmps101
  go_upto_region 3 with fail
  go_quiet (fail)
  go_upto_region 7 with fail
  refine wp_region_held_drew (S:=(fun w'=>w'.cell? ⟨w.heap.size,0,none⟩=some (.int .i64 5)/\w'.cell? ⟨w.heap.size,1,none⟩=some (.int .i64 dy)/\w'.cell? ⟨w.heap.size,2,none⟩=some (.string pl)/\w'.cell? ⟨w.heap.size,3,none⟩=some (.string fr)/\w'.cell? ⟨w.heap.size,4,none⟩=some (.slice B ts.length c)/\w'.cell? ⟨w.heap.size,5,none⟩=some (.int .i64 cl)/\w'.cell? ⟨w.heap.size,6,none⟩=some (.int .i64 yr))) Mcm ?hS5 ?hrest5
  case hS5=>refine⟨?_,?_,?_,?_,?_,?_,?_⟩<;>(simp[go_sem];done)
  intro hHeld;refine TkH 0 ?_;refine TkH 1 ?_;refine TkH 2 ?_;refine TkH 3 ?_;refine OnH 4 fun K hK=> ?_
  go_simp
  refine(bU.o _ Bw).mono ?_;rintro e wq ⟨rfl,hW,hB,hK⟩;have h0:=((hK w.heap.size _ _ (zar _ _ _ rfl)).trans (zar _ _ _ rfl))
  obtain⟨Bk',d',c',p',wl',r',mv',tv',ps',ew,cF,gC,fV⟩:=id hW;have nr:=zHi hW;have nQ:=zHi cF;have nO:=zHi hB;have mZ:=zHi h0;have d0:wq.cell? ⟨w.heap.size,0,none⟩=some (.int .i64 5):=McQ;exact MbP
 ·have bo: ∀W,Below w.heap.size w W->Calls Tryz.prog 128 #[.pointer (some ⟨b,0,none⟩), .agg #[.int .i64 6, .int .i64 dy, .string pl, .string fr, .slice B ts.length c, .int .i64 cl, .int .i64 yr]] W (zbF base b (zbq laws s ⟨6,dy,pl,fr,ts,cl,yr⟩) last k W):=fun W hB=>by
   rw[show zbq laws s ⟨6,dy,pl,fr,ts,cl,yr⟩=zcD s ⟨6,dy,pl,fr,ts,cl,yr⟩from by simp[zbq]];exact child_any base b s last k ⟨6,dy,pl,fr,ts,cl,yr⟩ B c W (HW.o.keep hB) iO.o rfl ay (eV.o.keep hB) Mcl
  generalize zbq laws s ⟨6,dy,pl,fr,ts,cl,yr⟩=X at*;have bU:=zHi bo;clear bo dG HF iO cY dU eV cZ;obtain⟨s',er⟩:=X;unfold Deed.v;simp only;go_enter Tryz.func101,Tryz.ntmps101
  go_upto_region 3 with fail
  go_quiet (fail)
  go_upto_region 7 with fail
  refine wp_region_held_drew (S:=(fun w'=>w'.cell? ⟨w.heap.size,0,none⟩=some (.int .i64 6)/\w'.cell? ⟨w.heap.size,1,none⟩=some (.int .i64 dy)/\w'.cell? ⟨w.heap.size,2,none⟩=some (.string pl)/\w'.cell? ⟨w.heap.size,3,none⟩=some (.string fr)/\w'.cell? ⟨w.heap.size,4,none⟩=some (.slice B ts.length c)/\w'.cell? ⟨w.heap.size,5,none⟩=some (.int .i64 cl)/\w'.cell? ⟨w.heap.size,6,none⟩=some (.int .i64 yr))) Mcm ?hS6 ?hrest6
  case hS6=>refine⟨?_,?_,?_,?_,?_,?_,?_⟩<;>(simp[go_sem];done)
  intro hHeld;refine TkH 0 ?_;refine TkH 1 ?_;refine TkH 2 ?_;refine TkH 3 ?_;refine OnH 4 fun K hK=> ?_
  go_simp
  refine(bU.o _ Bw).mono ?_;rintro e wq ⟨rfl,hW,hB,hK⟩;have h0:=((hK w.heap.size _ _ (zar _ _ _ rfl)).trans (zar _ _ _ rfl))
  obtain⟨Bk',d',c',p',wl',r',mv',tv',ps',ew,cF,gC,fV⟩:=id hW;have nr:=zHi hW;have nQ:=zHi cF;have nO:=zHi hB;have mZ:=zHi h0;have d0:wq.cell? ⟨w.heap.size,0,none⟩=some (.int .i64 6):=McQ;exact MbP
 ·have bo: ∀W,Below w.heap.size w W->Calls Tryz.prog 128 #[.pointer (some ⟨b,0,none⟩), .agg #[.int .i64 7, .int .i64 dy, .string pl, .string fr, .slice B ts.length c, .int .i64 cl, .int .i64 yr]] W (zbF base b (zbq laws s ⟨7,dy,pl,fr,ts,cl,yr⟩) last k W):=fun W hB=>by
   rw[show zbq laws s ⟨7,dy,pl,fr,ts,cl,yr⟩=zdp s ⟨7,dy,pl,fr,ts,cl,yr⟩from by simp[zbq]];exact marry_any base b s last k ⟨7,dy,pl,fr,ts,cl,yr⟩ B c W (HW.o.keep hB) iO.o rfl ay (eV.o.keep hB) Mcl
  generalize zbq laws s ⟨7,dy,pl,fr,ts,cl,yr⟩=X at*;have bU:=zHi bo;clear bo dG HF iO cY dU eV cZ;obtain⟨s',er⟩:=X;unfold Deed.v;simp only;go_enter Tryz.func101,Tryz.ntmps101
  go_upto_region 3 with fail
  go_quiet (fail)
  go_upto_region 7 with fail
  refine wp_region_held_drew (S:=(fun w'=>w'.cell? ⟨w.heap.size,0,none⟩=some (.int .i64 7)/\w'.cell? ⟨w.heap.size,1,none⟩=some (.int .i64 dy)/\w'.cell? ⟨w.heap.size,2,none⟩=some (.string pl)/\w'.cell? ⟨w.heap.size,3,none⟩=some (.string fr)/\w'.cell? ⟨w.heap.size,4,none⟩=some (.slice B ts.length c)/\w'.cell? ⟨w.heap.size,5,none⟩=some (.int .i64 cl)/\w'.cell? ⟨w.heap.size,6,none⟩=some (.int .i64 yr))) Mcm ?hS7 ?hrest7
  case hS7=>refine⟨?_,?_,?_,?_,?_,?_,?_⟩<;>(simp[go_sem];done)
  intro hHeld;refine TkH 0 ?_;refine TkH 1 ?_;refine TkH 2 ?_;refine TkH 3 ?_;refine OnH 4 fun K hK=> ?_
  go_simp
  refine(bU.o _ Bw).mono ?_;rintro e wq ⟨rfl,hW,hB,hK⟩;have h0:=((hK w.heap.size _ _ (zar _ _ _ rfl)).trans (zar _ _ _ rfl))
  obtain⟨Bk',d',c',p',wl',r',mv',tv',ps',ew,cF,gC,fV⟩:=id hW;have nr:=zHi hW;have nQ:=zHi cF;have nO:=zHi hB;have mZ:=zHi h0;have d0:wq.cell? ⟨w.heap.size,0,none⟩=some (.int .i64 7):=McQ;exact MbP
 ·have bo: ∀W,Below w.heap.size w W->Calls Tryz.prog 127 #[.pointer (some ⟨b,0,none⟩), .slice LA laws.length lc, .agg #[.int .i64 8, .int .i64 dy, .string pl, .string fr, .slice B ts.length c, .int .i64 cl, .int .i64 yr]] W (zbF base b (zbq laws s ⟨8,dy,pl,fr,ts,cl,yr⟩) last k W):=fun W hB=>by
   rw[show zbq laws s ⟨8,dy,pl,fr,ts,cl,yr⟩=zdJ laws s ⟨8,dy,pl,fr,ts,cl,yr⟩from by simp[zbq]];exact death_any base b s last k last laws LA lc ⟨8,dy,pl,fr,ts,cl,yr⟩ B c W (HW.o.keep hB) dG.o bQ rfl cZ.o fq (dU.o.keep hB) Mcl Mcl Mcl (by simpa using Nat.le_trans cx Mcl) HF.o.2.1
  generalize zbq laws s ⟨8,dy,pl,fr,ts,cl,yr⟩=X at*;have bU:=zHi bo;clear bo dG HF iO cY dU eV cZ;obtain⟨s',er⟩:=X;unfold Deed.v;simp only;go_enter Tryz.func101,Tryz.ntmps101
  go_upto_region 3 with fail
  go_quiet (fail)
  go_upto_region 18 with
   (go_at_call 127
    go_must(refine(bU.o _ Bw).mono ?_)
    rintro e wq ⟨rfl,hW,hB,hK⟩;have h0:=((hK w.heap.size _ _ (zar _ _ _ rfl)).trans (zar _ _ _ rfl))
    obtain⟨Bk',d',c',p',wl',r',mv',tv',ps',ew,cF,gC,fV⟩:=id hW;have nr:=zHi hW;have nQ:=zHi cF;have nO:=zHi hB;have mZ:=zHi h0
    clear hW hB hK h0 gC fV cF)
  exact Md
theorem zex {W:World} {b:Nat} {K V:Type} {ek:K->Value} {ev:V->Value} (h:W.heap[b]?=some (.map #[] 0)):MapS W b ek ev ([]:List (K×V)):=⟨#[],0,h,rfl,by simp,by simp⟩
def NewPost (w:World) (e:Ending) (w':World):Prop:=
 e= .returned (.agg #[.map (some (w.heap.size+1)), .map (some (w.heap.size+1+1)), .map (some (w.heap.size+1+1+1)), .slice none 0 0, .map (some (w.heap.size+1+1+1+1)), .map (some (w.heap.size+1+1+1+1+1))])/\
 w'.heap.size=w.heap.size+6/\(∀k,1<=k->k<=5->w'.heap[w.heap.size+k]?=some (.map #[] 0))/\Below w.heap.size w w'
theorem zjq {fn:Func} {p:Tmp} (h:fn.results= #[.cell p 87]) (tmps:Array Value) (w:World) (B:Nat) (x0 x1 x2 x3 x4 x5:Value) (hp:tmps.getD p undef= .pointer (some ⟨B,0,none⟩))
 (hx:w.heap[B]?=some (.cells #[x0,x1,x2,x3,x4,x5] 87)):(results fn tmps).run Tryz.prog w= .ok (.agg #[x0,x1,x2,x3,x4,x5]) w:=by
 obtain⟨h0,h1,h2,h3,h4,h5⟩:=cF6 hx;exact Ma6
theorem zkM (w:World):Calls Tryz.prog 98 #[] w (NewPost w):=by
 have da:= @run_makeMap Tryz.prog;go_enter Tryz.func98,Tryz.ntmps98
 go_wp2_with fail
 refine bodyPost_ret (v:= .agg #[.map (some (w.heap.size+1)), .map (some (w.heap.size+1+1)), .map (some (w.heap.size+1+1+1)), .slice none 0 0, .map (some (w.heap.size+1+1+1+1)), .map (some (w.heap.size+1+1+1+1+1))]) ?_ rfl ?_
 ·refine zjq rfl _ _ w.heap.size _ _ _ _ _ _ rfl ?_;exact zak (zak (zak (zak (zak (zar _ _ _ rfl)))))
 ·refine⟨rfl,by simp,fun k h1 h2=> ?_,Bw⟩;obtain rfl|rfl|rfl|rfl|rfl:k=1\/k=2\/k=3\/k=4\/k=5:=by omega
  ·exact zak (zak (zak (zak (zar _ _ _ Mco))))
  ·exact zak (zak (zak (zar _ _ _ Mco)))
  ·exact zak (zak (zar _ _ _ Mco))
  ·exact zak (zar _ _ _ Mco)
  ·exact zar _ _ _ Mco
theorem wld_new {base:Nat} {w W:World} (hb:base<=w.heap.size) (hs:w.heap.size+6=W.heap.size) (hm: ∀k,1<=k->k<=5->W.heap[w.heap.size+k]?=some (.map #[] 0)):
 WldAt base (W.alloc (.cells #[.map (some (w.heap.size+1)), .map (some (w.heap.size+1+1)), .map (some (w.heap.size+1+1+1)), .slice none 0 0, .map (some (w.heap.size+1+1+1+1)), .map (some (w.heap.size+1+1+1+1+1)), .slice none 0 0, .int .i64 0, .int .i64 0] 90)) W.heap.size zb3 0 0:=by
 have hk: ∀k,1<=k->k<=5->(W.alloc (.cells #[.map (some (w.heap.size+1)), .map (some (w.heap.size+1+1)), .map (some (w.heap.size+1+1+1)), .slice none 0 0, .map (some (w.heap.size+1+1+1+1)), .map (some (w.heap.size+1+1+1+1+1)), .slice none 0 0, .int .i64 0, .int .i64 0] 90)).heap[w.heap.size+k]?=some (.map #[] 0):=fun k h1 h2=>(Below.heap_alloc _ _ _ Mcl).trans (hm k h1 h2)
 refine⟨[],w.heap.size+1,w.heap.size+2,w.heap.size+3,w.heap.size+4,w.heap.size+5, .slice none 0 0, .slice none 0 0,[],by omega,zar _ _ _ rfl,⟨by simp,⟨by omega,by omega,by omega,by omega,by omega⟩,zex (hk 1 Mcl Mcl),⟨[],[],zex (hk 2 Mcl Mcl),zex (hk 3 Mcl Mcl),fun n=> .inl ⟨rfl,rfl⟩,fun n=> .inl ⟨rfl,rfl⟩,rfl,by simp,by simp,by simp⟩,OwnS.nil,⟨[],zex (hk 4 Mcl Mcl),fun n=> .inl ⟨rfl,rfl⟩⟩,zex (hk 5 Mcl Mcl)⟩,⟨OwnS.nil,rfl,by simp,fun i T g h=>by simp at h⟩⟩
section
variable {s:St} {d:Deed}
theorem grant_err:(zcM s d).2≠0->(zcM s d).1=s:=by
 unfold zcM;exact MO
theorem zlU:(zbp s d).2≠0->(zbp s d).1=s:=by
 unfold zbp;exact MO
theorem zkN:(zaZ s d).2≠0->(zaZ s d).1=s:=by
 unfold zaZ;exact MO
theorem renew_err:(zcX s d).2≠0->(zcX s d).1=s:=by
 unfold zcX;exact MO
theorem will_err:(zgO s d).2≠0->(zgO s d).1=s:=by
 unfold zgO;exact MO
theorem zlV:(zb7 s d).2≠0->(zb7 s d).1=s:=by
 unfold zb7;exact MO
theorem child_err:(zcD s d).2≠0->(zcD s d).1=s:=by
 unfold zcD;exact MO
theorem marry_err:(zdp s d).2≠0->(zdp s d).1=s:=by
 unfold zdp;exact MO
theorem death_err {laws:List Law}:(zdJ laws s d).2≠0->(zdJ laws s d).1=s:=by
 unfold zdJ;exact MO
theorem take_err {laws:List Law} (h:(zbq laws s d).2≠0):(zbq laws s d).1=s:=by
 revert h
 unfold zbq;split
 ·exact grant_err
 split
 ·exact zlU
 split
 ·exact zkN
 split
 ·exact renew_err
 split
 ·exact will_err
 split
 ·exact zlV
 split
 ·exact child_err
 split
 ·exact marry_err
 exact death_err
theorem takeQ_err {laws:List Law} {co:Nat} {last:Int} (h:(zew laws s co last d).2≠0):(zew laws s co last d).1=s:=by
 revert h
 unfold zew;split
 ·exact fun _=>rfl
 split
 ·exact fun _=>rfl
 exact take_err
theorem next_take {laws:List Law} {co:Nat} {last:Int} (h:zaI d=0):zch laws s co last d=zew laws s co last d:=by
 unfold zch zew;rw[h];rfl
end
noncomputable def zdV (laws:List Law) (ds:List Deed) (upto:Int):St×Nat×Int:=
 if zaA laws != 0 then(zb3,0,zaA laws)else zeZ laws upto ds zb3 0 0
def zoQ (w:World) (R:St×Nat×Int) (e:Ending) (w':World):Prop:=
 ∃base b la co,e= .returned (.tuple #[.pointer (some ⟨b,0,none⟩), .int .i64 R.2.1, .int .i64 R.2.2])/\w.heap.size<=base/\WldAt base w' b R.1 la co/\Below w.heap.size w w'/\(∃last,GoodSt R.1 last)/\ ∃k,k<=60/\FewS k R.1
theorem takeQ_ok {laws:List Law} {s:St} {k:Nat} {last:Int} {d:Deed} (h:(zew laws s k last d).2=0) (hd:OkD d) (hG:GoodSt s last) (hF:FewS k s) (bh:zaA laws=0):k<60/\GoodSt (zew laws s k last d).1 d.day/\FewS (k+1) (zew laws s k last d).1:=by
 unfold zew at h⊢;split at h
 ·simp at h
 rename_i h1
 split at h
 ·simp at h
 rename_i h2
 rw[if_neg h1,if_neg h2];have hk:k<60:=McR;have hl:last<=d.day:=Md8;have ht:zbq laws s d=((zbq laws s d).1,0):=Prod.ext rfl h;exact⟨hk,zgW hG hd hl bh ht,zkL hF hk hG hd hl bh ht⟩
theorem zjT (laws:List Law) (ds:List Deed) (upto:Int) (LA:Option Addr) (n nc:Nat) (DA:Option Addr) (m mc:Nat) (w:World) (hR:RightsIn w laws ds LA n nc DA m mc) (hF:FormsIn w) (hL:LensIn w) (hO: ∀d∈ds,zdv d):
 Calls Tryz.prog 60 #[.agg #[.slice LA n nc, .slice DA m mc], .int .i64 upto] w (zoQ w (zdV laws ds upto)):=by
 obtain⟨R,hR⟩: ∃R,R=zdV laws ds upto:=⟨_,rfl⟩
 rw[<-hR];unfold zdV at hR;have HR:=zHi hR;clear hR;obtain⟨rfl,rfl,CX,nD,ir,ke⟩:=hR;have HF:=zHi hF;have HL:=zHi hL;have HO:=zHi hO;have dU:=zHi ir;have g9:=zHi ke;clear hF hL hO ir ke;go_enter Tryz.func60,Tryz.ntmps60
 go_upto_region 2 with(go_at_call 98;go_must(refine(zkM _).mono ?_);rintro e wq ⟨rfl,n1,n2,n3⟩;have N1:=zHi n1;have N2:=zHi n2;have N3:=zHi n3;clear n1 n2 n3)
 have cx:=wld_new (base:=w.heap.size+1) (w:=w.alloc (.cells #[.slice LA laws.length nc, .slice DA ds.length mc] 25)) (W:=wq) Mco N1.o.symm N2.o;have hsz:=N1.o;simp only[World.size_alloc]at cx hsz;have ba:Below w.heap.size w wq:=Below.trans (zac (Below.refl _ _) _) (N3.o.mono Mco);have hJ:wq.heap[w.heap.size]?=some (.cells #[.slice LA laws.length nc, .slice DA ds.length mc] 25):=(N3.o.block _ Mco).trans (zar _ _ _ rfl);have dH:=zab hJ;have bL: ∀o,Below w.heap.size w (wq.alloc o):=fun o=>zac ba _ Mcl
 have zH: ∀o,(wq.alloc o).heap[w.heap.size]?=some (.cells #[.slice LA laws.length nc, .slice DA ds.length mc] 25):=fun o=>zak hJ
 obtain⟨b,hb⟩: ∃b,b=wq.heap.size:=⟨_,rfl⟩
 rw[<-hb]at cx⊢;have h2:=bL (.cells #[.map (some (w.heap.size+1+1)), .map (some (w.heap.size+1+1+1)), .map (some (w.heap.size+1+1+1+1)), .slice none 0 0, .map (some (w.heap.size+1+1+1+1+1)), .map (some (w.heap.size+1+1+1+1+1+1)), .slice none 0 0, .int .i64 0, .int .i64 0] 90);have eR:=zH (.cells #[.map (some (w.heap.size+1+1)), .map (some (w.heap.size+1+1+1)), .map (some (w.heap.size+1+1+1+1)), .slice none 0 0, .map (some (w.heap.size+1+1+1+1+1)), .map (some (w.heap.size+1+1+1+1+1+1)), .slice none 0 0, .int .i64 0, .int .i64 0] 90);clear bL zH ba hJ dH hsz N1 N2 N3 hb;generalize wq.alloc _=W2 at*;have vo:=zHi cx;have aS:=zHi h2;have au:=zHi eR;have aP:=zab eR;obtain⟨x0,x1⟩:=cF2 eR;have fA:=zHi (fun W (hB:Below W2.heap.size W2 W)=>zji laws LA laws.length nc W rfl (dU.o.keep (h2.trans (hB.mono (Nat.le_of_lt aP)))));clear cx h2 eR;by_cases bh:zaA laws=0
 ·rw[bh]at fA HR;have cZ:=zHi bh;clear bh;go_upto_block 0 with(go_at_call 99;go_must(refine(fA.o _ Bw).mono ?_);rintro e wq ⟨rfl,z,rfl⟩)
  clear fA x0 x1;go_cut [9,10,11,25]from 26 (fun _ _ _ _ W=> ∃s,Hid (R=(s,ds.length,0))/\ ∃la co,WldAt (w.heap.size+1) W b s la co/\Below w.heap.size w W/\W.heap[w.heap.size]?=some (.cells #[.slice LA laws.length nc, .slice DA ds.length mc] 25)/\(∃last,GoodSt s last)/\ ∃k,k<=60/\FewS k s)
  case first=>
   go_wp2_with fail
   go_loopw [25] (fun i wr=> ∃(k:Nat) (s:St) (last:Int),k<=ds.length/\i= .int .i64 k/\Hid (R=zeZ laws upto (ds.drop k) s k last)/\Hid (WldAt (w.heap.size+1) wr b s last k)/\Hid (GoodSt s last)/\Hid (FewS k s)/\k<=60/\Below w.heap.size w wr/\wr.heap[w.heap.size]?=some (.cells #[.slice LA laws.length nc, .slice DA ds.length mc] 25)) (fun i _=>ds.length-(intOf i).toNat)
   case atStart=>
    refine⟨0,zb3,0,Nat.zero_le _,rfl,?_,vo.o.keep (n:=W2.heap.size) Bw,zeX 0,zgA,by omega,?_,?_⟩
    ·show _=_;rw[HR.o];simp
    ·exact aS.o.trans (Below.mono (B:=W2.heap.size) Bw (Nat.le_of_lt aP))
    ·exact zb9 au.o
   case round=>
    obtain⟨k,s,last,hk,rfl,HX,HW,HG,sS,fM,hB,hX⟩:=hrel;clear vo aS au HR;obtain x0:=cF1 hX;have ky:=zab hX;have HB:=zHi hB;have El:=zHi hX;by_cases aa:k<ds.length
    ·obtain⟨db,off,cs,hA,hdb,⟨B,c,ay,bm,hS⟩,hc⟩:=(g9.o.keep zcf hB).at aa;subst hA bm;have am:=HX.o;rw[List.drop_eq_getElem_cons aa,zeZ,<-List.drop_eq_getElem_cons aa]at am;have bp:=HO.o ds[k] (List.getElem_mem aa);have tH: ∀W,Below wr.heap.size wr W->_:=fun W hW=>zjm ds[k] B c W (HF.o.keep (hB.trans (hW.mono (Nat.le_of_lt ky)))) bp ay (hS.keep hW)
     have iZ: ∀W,Below wr.heap.size wr W->OkD ds[k]->_:=fun W hW hd=>take_any (w.heap.size+1) b s k last laws LA nc ds[k] B c W (HW.o.keep hW) HG.o sS.o hd cZ.o (HL.o.keep (hB.trans (hW.mono (Nat.le_of_lt ky)))) (dU.o.keep (hB.trans (hW.mono (Nat.le_of_lt ky)))) ay (hS.keep hW)
     rw[zkG]at tH;have aq:=zHi aa;have oX:=zHi (show k+(ds.drop k).length=ds.length by rw[List.length_drop];omega);have aB:=zHi am;have lB:=zHi tH;have kQ:=zHi iZ;generalize ds[k]=d at*;clear am bp tH iZ hX hB hS;have cj:OkD d->(zew laws s k last d).2=0->k<60/\GoodSt (zew laws s k last d).1 d.day/\FewS (k+1) (zew laws s k last d).1:=fun hd h=>takeQ_ok h hd HG.o sS.o cZ.o
     have rQ:zaI d=0->OkD d:=zeW;have Ad:=fun h=>next_take (laws:=laws) (s:=s) (co:=k) (last:=last) (d:=d) h
     obtain⟨kd,dy,pl,fr,ts,cl,yr⟩:=d;have i0:wr.cell? ⟨db,off+k*7,none⟩=some (.int .i64 kd):=hc 0 _ rfl;have i1:wr.cell? ⟨db,off+k*7+1,none⟩=some (.int .i64 dy):=hc 1 _ rfl;have i2:wr.cell? ⟨db,off+k*7+2,none⟩=some (.string pl):=hc 2 _ rfl;have i3:wr.cell? ⟨db,off+k*7+3,none⟩=some (.string fr):=hc 3 _ rfl;have i4:wr.cell? ⟨db,off+k*7+4,none⟩=some (.slice B ts.length c):=hc 4 _ rfl;have i5:wr.cell? ⟨db,off+k*7+5,none⟩=some (.int .i64 cl):=hc 5 _ rfl;have i6:wr.cell? ⟨db,off+k*7+6,none⟩=some (.int .i64 yr):=hc 6 _ rfl;have ar:(k:Int)<(ds.length:Int):=Mcl;have aT:(0:Int)<=(k:Int):=Mcl;have Kc:(k:Int)<=(mc:Int):=Mcl;have l9:w.heap.size≠wr.heap.size:=Mcl;unfold Deed.v at kQ;simp only at Ad cj kQ aB;clear hc;by_cases hce:zaI ⟨kd,dy,pl,fr,ts,cl,yr⟩=0
     ·have Dc:=rQ hce;have am:=aB.o;rw[hce,Ad hce]at am;rw[hce]at lB;have sd:=cj Dc;have kV:=fun h=>takeQ_err (laws:=laws) (s:=s) (d:=⟨kd,dy,pl,fr,ts,cl,yr⟩) (co:=k) (last:=last) h
      have qH:=zHi (fun W hW=>kQ.o W hW Dc);clear aB kQ Ad cj rQ Dc;generalize zew laws s k last ⟨kd,dy,pl,fr,ts,cl,yr⟩=x at*;generalize zaI ⟨kd,dy,pl,fr,ts,cl,yr⟩=ce at*;obtain⟨s',er⟩:=x;by_cases kn:upto<dy
      ·have cm:Hid (R=(s,ds.length,0)):=by
        show _=_;rw[am,if_pos (by simp[kn]),oX.o]
       clear am sd kV qH oX;go_wp2_with (go_at_call 100;go_must(refine(lB.o _ Bw).mono ?_);rintro e wq ⟨rfl,z,rfl⟩)
       go_meet
       exact⟨s,cm.o,last,k,HW.o.keep (n:=wr.heap.size) Bw,HB.o.trans (Below.mono (B:=wr.heap.size) Bw Mcl),by repeat(first|assumption|with_reducible refine zak ?_|with_reducible refine zb9 ?_|with_reducible refine J_ne Mcl ?_),⟨last,HG.o⟩,k,fM,sS.o⟩
      ·have cW:R=if(er != 0)=true then(s,k,er)else zeZ laws upto (ds.drop (k+1)) s' (k+1) dy:=by rw[am,if_neg (by simp[kn])]
       have eW:=zHi cW;have wD:=lB.o;clear am cW oX;by_cases h0:er=0
       ·subst h0;obtain⟨sb,tt,EK⟩:=sd rfl;have gT:=zHi tt;have Ay:=zHi EK;have oS:=wrap_k (k:=k) (Nat.lt_trans sb Mcn);have Dv:=wrap_k2 (k:=k) (Nat.lt_trans sb Mcn);clear sd kV tt EK wD
        go_wp2_with (first
         |(go_at_call 100;go_must(refine(lB.o _ Bw).mono ?_);rintro e wq ⟨rfl,z,rfl⟩)
         |(go_at_call 101
           go_must(refine(qH.o _ Bw).mono ?_)
           rintro e wq ⟨rfl,t1,t2⟩;simp only[if_true]at t1;have T1:=zHi t1;have bj:Below w.heap.size w wq:=(HB.o.trans (Below.mono (B:=wr.heap.size) Bw (Nat.le_of_lt ky))).trans (t2.mono (Nat.le_succ _));have Gt:=(t2.block w.heap.size (Nat.lt_succ_self _)).trans (show _=some (.cells #[.slice LA laws.length nc, .slice (some ⟨db,off,none⟩) ds.length mc] 25) from by have hX:=El.o;repeat(first|assumption|with_reducible refine zak ?_|with_reducible refine zb9 ?_|with_reducible refine J_ne Mcl ?_));have aW:=zHi bj;have th:=zHi Gt
           clear t1 t2 bj Gt))
        go_round
        case rel=>
         clear oS Dv;refine⟨k+1,s',dy,aq.o,by go_num,?_,T1.o,gT.o,Ay.o,sb,aW.o,th.o⟩;show _=_;rw[eW.o];simp
        case measure=>clear oS Dv;have:=aq.o;simp only[intOf];omega
       ·have hs:=kV h0;simp only at hs;subst hs;have cm:Hid (R=(s',k,er)):=by
         show _=_;rw[eW.o,if_pos Mdm]
        clear sd kV eW wD
        go_wp2_with (first
         |(go_at_call 100;go_must(refine(lB.o _ Bw).mono ?_);rintro e wq ⟨rfl,z,rfl⟩)
         |(go_at_call 101
           go_must(refine(qH.o _ Bw).mono ?_)
           rintro e wq ⟨rfl,t1,t2⟩;have T1:=zHi t1;have bj:Below w.heap.size w wq:=(HB.o.trans (Below.mono (B:=wr.heap.size) Bw (Nat.le_of_lt ky))).trans (t2.mono (Nat.le_succ _));have aW:=zHi bj
           clear t1 t2 bj))
        go_ret3
        rw[cm.o];exact⟨w.heap.size+1,b,_,_,rfl,by omega,T1.o,aW.o,⟨last,HG.o⟩,k,fM,sS.o⟩
     ·have ai:(zch laws s k last ⟨kd,dy,pl,fr,ts,cl,yr⟩)=(s,zaI ⟨kd,dy,pl,fr,ts,cl,yr⟩):=by
       unfold zch;rw[if_pos (by simpa using hce)]
      have am:=aB.o;rw[ai]at am;generalize zaI ⟨kd,dy,pl,fr,ts,cl,yr⟩=ce at*;have cm:Hid (R=(s,k,ce)):=by
       show _=_;rw[am,if_neg (by simp[hce]),if_pos (by simpa using hce)]
      clear am ai aB kQ Ad cj rQ oX;go_wp2_with (go_at_call 100;go_must(refine(lB.o _ Bw).mono ?_);rintro e wq ⟨rfl,z,rfl⟩)
      go_ret3
      rw[cm.o];exact⟨w.heap.size+1,b,last,k,rfl,by omega,HW.o.keep (n:=wr.heap.size) Bw,HB.o.trans (Below.mono (B:=wr.heap.size) Bw Mcl),⟨last,HG.o⟩,k,fM,sS.o⟩
    ·have ar: ¬(k:Int)<(ds.length:Int):=Mcl;have hx:=HX.o;rw[List.drop_eq_nil_of_le Mcl,zeZ]at hx;have oE:k=ds.length:=Mcl;have cm:Hid (R=(s,ds.length,0)):=by show _=_;rw[hx,oE]
     clear hx oE hX hB;go_wp2_with fail
     go_meet
     exact⟨s,cm.o,last,k,HW.o,HB.o,El.o,⟨last,HG.o⟩,k,fM,sS.o⟩
  case rest=>
   obtain⟨s,cm,la,co,hW,hB,hX,hg,hf⟩:=hcut;obtain⟨-,x1⟩:=cF2 hX;have ky:=zab hX;have HW:=zHi hW;have HB:=zHi hB;clear hW hB hX;go_upto_region 15 with fail
   go_quiet (fail)
   go_wp2_with fail
   go_ret3
   rw[cm.o];exact⟨w.heap.size+1,b,la,co,rfl,by omega,HW.o.keep (n:=wc.heap.size) Bw,HB.o.trans (Below.mono (B:=wc.heap.size) Bw Mcl),hg,hf⟩
 ·generalize zaA laws=er at*;have ai:(er != 0)=true:=by simpa using bh
  have cm:Hid (R=(zb3,0,er)):=by show _=_;rw[HR.o,if_pos ai]
  clear HR;go_wp2_with (go_at_call 99;go_must(refine(fA.o _ Bw).mono ?_);rintro e wq ⟨rfl,z,rfl⟩)
  go_ret3
  rw[cm.o];exact⟨w.heap.size+1,b,0,0,rfl,by omega,vo.o.keep (n:=W2.heap.size) Bw,aS.o.trans (Below.mono (B:=W2.heap.size) Bw Mcl),⟨0,zeX 0⟩,0,by omega,zgA⟩
theorem ifStr_any (g:Nat) (lb:Array Value) (eg: ∀args w,(callFunc g args).run Tryz.prog w= .ok (.enter g args) w) (p:ByteArray->Bool) (A:Option Addr) (c:Nat) (xs:List ByteArray) (w:World) (hl:xs.length<=100000)
 (hS:Sl w 1 sC A xs) (hp:zeY g lb (fun s=> .string s) p xs w):Calls Tryz.prog 96 #[.slice A xs.length c, .func (.func g) #[] lb] w (fun e w'=> ∃i:Int,e= .returned (.int .i64 i)/\decide (0<=i)=xs.any p/\Below w.heap.size w w'):=by
 have HS:=zHi hS;have HP:=zHi hp;clear hS hp;go_enter Tryz.func96,Tryz.ntmps96
 go_wp2_with fail
 go_loopw [8] (fun i wr=> ∃k:Nat,k<=xs.length/\i= .int .i64 k/\Hid (xs.any p=(xs.drop k).any p)/\Below w.heap.size w wr) (fun i _=>xs.length-(intOf i).toNat)
 case atStart=>exact⟨0,Nat.zero_le _,rfl,by show _=_;rw[List.drop_zero],Below.refl _ _⟩
 case round=>
  obtain⟨k,hk,rfl,HX,hB⟩:=hrel;have HB:=zHi hB;by_cases aa:k<xs.length
  ·obtain⟨b,off,rfl,hb,hc⟩:=(HS.o.keep hB).at aa;have i0:wr.cell? ⟨b,off+k,none⟩=some (.string xs[k]):=Mdu;have hx:=HX.o;rw[List.drop_eq_getElem_cons aa,List.any_cons]at hx;have bJ: ∀W,Below w.heap.size w W->Calls Tryz.prog g (#[.string xs[k]]++lb) W fun e w'=>e= .returned (.bool (p xs[k]))/\Below w.heap.size w w':=fun W hW=>HP.o xs[k] (List.getElem_mem aa) W hW
   generalize xs[k]=x at*;generalize hpx:p x=px at*;have au:=zHi hx;have ar:(k:Int)<(xs.length:Int):=Mcl;have aT:(0:Int)<=(k:Int):=Mcl;have aq:=zHi aa;have bU:=zHi bJ;clear hc hx bJ HX hpx;cases px
   ·go_wp2_with (go_at_fn g;refine(bU.o _ HB.o).mono ?_;rintro e w' ⟨rfl,h1⟩)
    go_round
    case rel=>exact⟨k+1,aq.o,by go_num,by show _=_;rw[au.o];simp,h1⟩
    case measure=>have:=aq.o;simp only[intOf];omega
   ·go_wp2_with (go_at_fn g;refine(bU.o _ HB.o).mono ?_;rintro e w' ⟨rfl,h1⟩)
    go_ret
    exact⟨k,rfl,by rw[au.o];simp,h1⟩
  ·have ar: ¬(k:Int)<(xs.length:Int):=Mcl;have hx:=HX.o;rw[List.drop_eq_nil_of_le Mcl]at hx;have au:=zHi hx;clear hx hB;go_wp2_with fail
   go_ret
   exact⟨-1,rfl,by rw[au.o];simp,HB.o⟩
theorem zlW (g:Nat) (lb:Array Value) (eg: ∀args w,(callFunc g args).run Tryz.prog w= .ok (.enter g args) w) (p:ByteArray->Bool) (A:Option Addr) (n c:Nat) (xs:List ByteArray) (w:World) (hn:n=xs.length) (hl:xs.length<=100000)
 (hS:Sl w 1 sC A xs) (hp:zeY g lb (fun s=> .string s) p xs w):Calls Tryz.prog 56 #[.slice A n c, .func (.func g) #[] lb] w (Ret w (.bool (xs.any p))):=by
 subst hn;have HI:=zHi (ifStr_any g lb eg p A c xs w hl hS hp);clear hS hp;go_enter Tryz.func56,Tryz.ntmps56
 go_wp2_with (go_at_call 96;refine HI.o.mono ?_;rintro e wq ⟨i,rfl,hi,hB⟩)
 go_ret
 rw[<-hi];exact Ret.of rfl hB
theorem onn_any (s:ByteArray) (W:World) (hs:s.size<=100000):Calls Tryz.prog 57 #[.string s] W (Ret W (.bool (!zaR s))):=by
 go_enter Tryz.func57,Tryz.ntmps57
 exact MaB
theorem onn_gives (xs:List ByteArray) (w:World) (hs: ∀s∈xs,s.size<=100000):zeY 57 #[] (fun s=> .string s) (fun s=>!zaR s) xs w:=fun x hx W hW=>by
 refine(onn_any x W (hs x hx)).mono ?_;exact Ma3
theorem zhi (laws:List Law) (u u':Int): ∀(ds:List Deed) (s t t':St) (k:Nat) (l:Int),(zaY laws u ds s t k l).2=(zaY laws u' ds s t' k l).2
 | [],_,_,_,_,_=>rfl
 |d::ds,s,t,t',k,l=>by
  rw[zaY,zaY];split
  ·rfl
  ·exact zhi laws u u' ds _ _ _ _ _
noncomputable def zbL (laws:List Law) (ds:List Deed) (names:List ByteArray) (day:Int):Int:=
 if(zdV laws ds 200000).2.2 != 0 then(zdV laws ds 200000).2.2 else if names.any (fun s=>!zaR s)then 4 else if !zbm day then 2 else 0
theorem zea (laws:List Law) (ds:List Deed):(zdV laws ds 200000).2=(zaF laws ds 200000).2:=by
 unfold zdV zaF;split
 ·rfl
 ·exact znD (Int.le_refl _)
theorem zoR {laws:List Law} {ds:List Deed} (h:(zdV laws ds 200000).2.2=0) (day:Int):(zdV laws ds day).1=(zaF laws ds day).1/\(zdV laws ds day).2.2=0:=by
 rw[zea]at h;unfold zaF at h;unfold zdV zaF;split at h
 ·rename_i hc
  rw[if_pos hc,if_pos hc];exact⟨rfl,h⟩
 ·rename_i hc
  rw[if_neg hc,if_neg hc];exact zll (by rw[zhi laws day 200000 ds zb3 zb3 zb3];exact h)
theorem zna (laws:List Law) (ds:List Deed) (LA:Option Addr) (n nc:Nat) (DA:Option Addr) (m mc:Nat) (w:World) (hR:RightsIn w laws ds LA n nc DA m mc) (hF:FormsIn w) (hL:LensIn w) (hO: ∀d∈ds,zdv d):
 Calls Tryz.prog 55 #[.agg #[.slice LA n nc, .slice DA m mc]] w (Ret w (.tuple #[.int .i64 (zdV laws ds 200000).2.1, .int .i64 (zdV laws ds 200000).2.2])):=by
 have u4:=fun W (hB:Below w.heap.size w W)=>zjT laws ds 200000 LA n nc DA m mc W (hR.keep hB) (hF.keep hB) (hL.keep hB) hO
 clear hR hF hL hO;generalize zdV laws ds 200000=R at*;have lS:=zHi u4;clear u4;go_enter Tryz.func55,Tryz.ntmps55
 go_wp2_with (go_at_call 60;go_must(refine(lS.o _ Bw).mono ?_);rintro e wq ⟨base,b,la,co,rfl,h1,h2,h3,h4,h5⟩;have H3:=zHi h3;clear h1 h2 h3 h4 h5)
 go_ret2
 exact Ret.of rfl (Below.trans (zac (Below.refl _ _) _) (H3.o.mono Mco))
def zlX (w:World) (laws:List Law) (ds:List Deed) (names:List ByteArray) (day:Int) (e:Ending) (w':World):Prop:=
 Below w.heap.size w w'/\((zbL laws ds names day≠0/\e= .returned (.tuple #[.pointer none, .int .i64 (zbL laws ds names day)]))\/
  (zbL laws ds names day=0/\ ∃base b la co,e= .returned (.tuple #[.pointer (some ⟨b,0,none⟩), .int .i64 0])/\w.heap.size<=base/\WldAt base w' b (zaF laws ds day).1 la co/\(∃last,GoodSt (zaF laws ds day).1 last)/\ ∃k,k<=60/\FewS k (zaF laws ds day).1))
theorem on_any (laws:List Law) (ds:List Deed) (day:Int) (names:List ByteArray) (LA:Option Addr) (n nc:Nat) (DA:Option Addr) (m mc:Nat) (NA:Option Addr) (l c:Nat) (w:World) (hR:RightsIn w laws ds LA n nc DA m mc) (hF:FormsIn w) (hL:LensIn w) (hO: ∀d∈ds,zdv d)
 (hl:l=names.length) (eO:names.length<=100000) (hN: ∀s∈names,s.size<=100000) (hS:Sl w 1 sC NA names):
 Calls Tryz.prog 25 #[.agg #[.slice LA n nc, .slice DA m mc], .int .i64 day, .slice NA l c] w (zlX w laws ds names day):=by
 subst hl;have eg: ∀args w,(callFunc 57 args).run Tryz.prog w= .ok (.enter 57 args) w:=enters_of Tryz.func57 Mcm rfl;have l7:=fun W (hB:Below w.heap.size w W)=>zna laws ds LA n nc DA m mc W (hR.keep hB) (hF.keep hB) (hL.keep hB) hO
 have u4:=fun W (hB:Below w.heap.size w W)=>zjT laws ds day LA n nc DA m mc W (hR.keep hB) (hF.keep hB) (hL.keep hB) hO
 have wE:=fun W (hB:Below w.heap.size w W)=>zlW 57 #[] eg (fun s=>!zaR s) NA names.length c names W rfl eO (hS.keep hB) (onn_gives names W hN)
 have iL:=zoR (laws:=laws) (ds:=ds) (day:=day);have he:zbL laws ds names day=if(zdV laws ds 200000).2.2 != 0 then(zdV laws ds 200000).2.2 else if names.any (fun s=>!zaR s)then 4 else if !zbm day then 2 else 0:=rfl;unfold zlX;generalize zbL laws ds names day=E at*;obtain⟨R,ol⟩: ∃R,R=zdV laws ds 200000:=⟨_,rfl⟩
 rw[<-ol]at l7 iL he;obtain⟨⟨S0,n0,er⟩,F9⟩: ∃x,x=R:=⟨_,rfl⟩
 subst F9;simp only at l7 iL he;generalize hna:names.any (fun s=>!zaR s)=na at*;have pe:=zHi l7;have lS:=zHi u4;have sN:=zHi wE;clear l7 u4 wE hR hF hL hO hS hN ol hna eg;by_cases h0:er=0
 ·subst h0;have py:E=if na then 4 else if !zbm day then 2 else 0:=by rw[he];rfl
  obtain⟨u9,ua⟩:=iL rfl;clear he iL;cases na
  ·generalize iQ:zbm day=dd at*;cases dd
   ·have hE:E=2:=by rw[py];rfl
    subst hE;clear py u9 ua;go_enter Tryz.func25,Tryz.ntmps25
    go_wp2_with (first
     |(go_at_call 55;refine(pe.o _ Bw).mono ?_;rintro e wq ⟨rfl,zq,rfl⟩)
     |(go_at_call 56;refine(sN.o _ Bw).mono ?_;rintro e wq ⟨rfl,zq,rfl⟩)
     |(go_at_call 59;refine(zcN _ _).mono ?_;rintro e wq ⟨rfl,rfl⟩;rw[iQ]))
    go_ret2
    exact⟨Bw, .inl ⟨by decide,rfl⟩⟩
   ·have hE:E=0:=by rw[py];rfl
    subst hE;rw[<-u9];clear py u9;generalize zdV laws ds day=R at*;obtain⟨S1,n1,e1⟩:=R;simp only at ua;subst ua;try simp only at lS
    go_enter Tryz.func25,Tryz.ntmps25
    go_wp2_with (first
     |(go_at_call 55;refine(pe.o _ Bw).mono ?_;rintro e wq ⟨rfl,zq,rfl⟩)
     |(go_at_call 56;refine(sN.o _ Bw).mono ?_;rintro e wq ⟨rfl,zq,rfl⟩)
     |(go_at_call 59;refine(zcN _ _).mono ?_;rintro e wq ⟨rfl,rfl⟩;rw[iQ])
     |(go_at_call 60;go_must(refine(lS.o _ Bw).mono ?_);rintro e wq ⟨base,b,la,co,rfl,h1,h2,h3,h4,h5⟩;have H1:=zHi h1;have H2:=zHi h2;have H3:=zHi h3;have H4:=zHi h4;have H5:=zHi h5;clear h1 h2 h3 h4 h5))
    go_ret2
    have h1:=H1.o;refine⟨Below.trans Bw (H3.o.mono ?_), .inr ⟨by first|rfl|trivial,base,b,la,co,rfl,Nat.le_trans ?_ h1,H2.o,H4.o,H5.o⟩⟩
    ·simp[zag];omega
    ·simp[zag];omega
  ·have hE:E=4:=by rw[py];rfl
   subst hE;clear py u9 ua;go_enter Tryz.func25,Tryz.ntmps25
   go_wp2_with (first
    |(go_at_call 55;refine(pe.o _ Bw).mono ?_;rintro e wq ⟨rfl,zq,rfl⟩)
    |(go_at_call 56;refine(sN.o _ Bw).mono ?_;rintro e wq ⟨rfl,zq,rfl⟩))
   go_ret2
   exact⟨Bw, .inl ⟨by decide,rfl⟩⟩
 ·have hE:E=er:=by rw[he,if_pos Mdm]
  subst hE;clear he iL;go_enter Tryz.func25,Tryz.ntmps25
  go_wp2_with (go_at_call 55;refine(pe.o _ Bw).mono ?_;rintro e wq ⟨rfl,zq,rfl⟩)
  go_ret2
  exact⟨Bw, .inl ⟨h0,rfl⟩⟩
def zcH (s:St) (place:ByteArray) (day:Int):Parts:=match zaJ s place day with
 |none=>[]
 |some i=>(s.graves.getD i ze0).holders
def zfV (w:World) (laws:List Law) (ds:List Deed) (place:ByteArray) (day:Int) (e:Ending) (w':World):Prop:=
 Below w.heap.size w w'/\((zbL laws ds [place] day≠0/\e= .returned (.tuple #[.slice none 0 0, .int .i64 (zbL laws ds [place] day)]))\/
  (zbL laws ds [place] day=0/\ ∃A c,e= .returned (.tuple #[.slice A (zcH (zaF laws ds day).1 place day).length c, .int .i64 0])/\(zcH (zaF laws ds day).1 place day).length<=c/\Sl w' 3 zaa A (zcH (zaF laws ds day).1 place day)))
theorem ziO (laws:List Law) (ds:List Deed) (place:ByteArray) (day:Int) (LA:Option Addr) (n nc:Nat) (DA:Option Addr) (m mc:Nat) (w:World) (hR:RightsIn w laws ds LA n nc DA m mc) (hF:FormsIn w) (hL:LensIn w) (hO: ∀d∈ds,zdv d) (hp:place.size<=100000):
 Calls Tryz.prog 7 #[.agg #[.slice LA n nc, .slice DA m mc], .string place, .int .i64 day] w (zfV w laws ds place day):=by
 have pO:=fun W (hB:Below w.heap.size w W) NA (hS:Sl W 1 sC NA [place])=>on_any laws ds day [place] LA n nc DA m mc NA 1 1 W (hR.keep hB) (hF.keep hB) (hL.keep hB) hO rfl Mco (by simpa using hp) hS
 have eo:=zHi pO;unfold zfV;clear pO hR hF hL hO;unfold zlX at eo;generalize zbL laws ds [place] day=E at*;generalize(zaF laws ds day).1=s at*;generalize bw:zcH s place day=xs at*;have bZ:=zHi bw;clear bw;go_enter Tryz.func7,Tryz.ntmps7
 by_cases h0:E=0
 ·subst h0
  go_upto_region 4 with(go_at_call 25
                        go_must(refine(eo.o _ Bw _ (zcx (zar _ _ _ Mco))).mono ?_)
                        rintro e wq ⟨h1,⟨ai,_⟩|⟨_,base,b,la,co,rfl,h2,h3,h4,h5⟩⟩
                        ·exact absurd rfl ai
                        have H1:=zHi h1;have H3:=zHi h3;have H5:=zHi h5
                        clear h1 h2 h3 h4 h5)
  obtain⟨Bk,dd,cc,pp,wl,rr,mv,tv,ps,ba,hC,hP,hT⟩:=H3.o;obtain⟨k,fM,cn⟩:=H5.o;have cB:=cn.graves;have aN:=fun W (hB:Below wq.heap.size wq W)=>zjI base b s la co place day W (hC.keep hB) (hT.keep hB) Mcl
  have aZ:Below w.heap.size w wq:=Below.trans (zac (zac (Below.refl _ _) _) _ Mco) (H1.o.mono Mcq);have aG:=zHi aZ;have bw:=bZ.o;unfold zcH at bw;clear bZ;cases aO:zaJ s place day with
  |none=>
   rw[aO]at aN bw;subst bw;have bE:=zHi aN;clear aN hC hP hT cn aZ;go_wp2_with (go_at_call 26;go_must(refine(bE.o _ Bw).mono ?_);rintro e wz ⟨rfl,z,rfl⟩;simp only[zlu,Option.map_none])
   go_ret2
   exact⟨aG.o.trans (Below.mono (B:=wq.heap.size) Bw aG.o.size),none,⟨0,rfl⟩,fun h=>absurd h Mco⟩
  |some i=>
   obtain⟨T,g,ic,iG,aA,bT,gW,_⟩:=zeu hT aO;rw[aO]at aN bw;simp only[bT]at bw;subst bw;obtain⟨H,aU,D,dc,frm,t1,t2,t3,t4,t5,t6,t7⟩:=gW;have d8:=zab t1;have mG: ∀W,Below wq.heap.size wq W->Calls Tryz.prog 26 #[.pointer (some ⟨b,0,none⟩), .string place, .int .i64 day] W (Ret W (.pointer (some ⟨T,0,none⟩))):=fun W hB=>by
    have:=aN W hB;simpa only[zlu,Option.map_some,iG]using this
   have bE:=zHi mG;unfold zbv at t1;obtain⟨-,-,-,-,k4⟩:=cF5 t1;have T5:=zHi t5;clear aN mG hC hP hT cn aZ t1 t5 t6 t7 bT aA iG ic aO;go_wp2_with (go_at_call 26;go_must(refine(bE.o _ Bw).mono ?_);rintro e wz ⟨rfl,z,rfl⟩)
   go_ret2
   exact⟨aG.o.trans (Below.mono (B:=wq.heap.size) Bw aG.o.size),H,aU,rfl,t3,(Ro.sl zan T5.o).keep (n:=wq.heap.size) Bw⟩
 ·go_wp2_with (go_at_call 25
               go_must(refine(eo.o _ Bw _ (zcx (zar _ _ _ Mco))).mono ?_)
               rintro e wq ⟨h1,⟨_,rfl⟩|⟨he,_⟩⟩;rotate_left 1
               ·exact absurd he h0
               have H1:=zHi h1
               clear h1)
  go_ret2
  exact⟨Below.trans (zac (zac (Below.refl _ _) _) _ Mco) (H1.o.mono Mcq), .inl ⟨h0,rfl⟩⟩
def zdR (w:World) (laws:List Law) (ds:List Deed) (place:ByteArray) (ns:List ByteArray) (day:Int) (e:Ending) (w':World):Prop:=
 Below w.heap.size w w'/\((zbL laws ds (place::ns) day≠0/\e= .returned (.tuple #[.pointer none, .pointer none, .int .i64 (zbL laws ds (place::ns) day)]))\/
  (zbL laws ds (place::ns) day=0/\zaJ (zaF laws ds day).1 place day=none/\e= .returned (.tuple #[.pointer none, .pointer none, .int .i64 12]))\/
  (zbL laws ds (place::ns) day=0/\ ∃base b la co B T i g,zaJ (zaF laws ds day).1 place day=some i/\(zaF laws ds day).1.graves[i]?=some g/\e= .returned (.tuple #[.pointer (some ⟨b,0,none⟩), .pointer (some ⟨T,0,none⟩), .int .i64 0])/\w.heap.size<=base/\WldAt base w' b (zaF laws ds day).1 la co/\TombAt w' base B T g/\(∃last,GoodSt (zaF laws ds day).1 last)/\ ∃k,k<=60/\FewS k (zaF laws ds day).1))
theorem zfo (laws:List Law) (ds:List Deed) (place:ByteArray) (ns:List ByteArray) (day:Int) (LA:Option Addr) (n nc:Nat) (DA:Option Addr) (m mc:Nat) (NA:Option Addr) (l c:Nat) (w:World) (hR:RightsIn w laws ds LA n nc DA m mc) (hF:FormsIn w) (hL:LensIn w) (hO: ∀d∈ds,zdv d) (hp:place.size<=100000)
 (hl:l=ns.length) (eO:ns.length<=1000) (hN: ∀s∈ns,s.size<=100000) (hS:Sl w 1 sC NA ns):
 Calls Tryz.prog 28 #[.agg #[.slice LA n nc, .slice DA m mc], .int .i64 day, .string place, .slice NA l c] w (zdR w laws ds place ns day):=by
 subst hl;have pO:=fun W (hB:Below w.heap.size w W) XA xc (hS:Sl W 1 sC XA (place::ns))=>on_any laws ds day (place::ns) LA n nc DA m mc XA (1+ns.length) xc W (hR.keep hB) (hF.keep hB) (hL.keep hB) hO Mcq Mcq (by simpa using⟨hp,hN⟩) hS
 have eo:=zHi pO;have HS:=zHi hS;unfold zdR;clear pO hR hF hL hO hS;unfold zlX at eo;generalize zbL laws ds (place::ns) day=E at*;generalize(zaF laws ds day).1=s at*;go_enter Tryz.func28,Tryz.ntmps28
 go_upto_region 1 with fail
 go_cut [11,12]from 14 to 24 (fun v11 v12 W=>Below w.heap.size w W/\((E≠0/\v11= .pointer none/\v12= .int .i64 E)\/(E=0/\v12= .int .i64 0/\ ∃base b la co,v11= .pointer (some ⟨b,0,none⟩)/\w.heap.size<=base/\WldAt base W b s la co/\(∃last,GoodSt s last)/\ ∃k,k<=60/\FewS k s)))
 case first=>
  refine wp_region_held_drew (S:=(fun w'=>w'.cell? ⟨w.heap.size,0,none⟩=some (.slice LA n nc)/\w'.cell? ⟨w.heap.size,1,none⟩=some (.slice DA m mc))) Mcm ?hS ?hrest
  case hS=>refine⟨?_,?_⟩<;>(simp[go_sem];done)
  case hrest=>
   intro hHeld;refine TkH 0 ?_;refine TkH 1 ?_;refine TkH 2 ?_;refine TkH 4 ?_;refine OnH 3 fun K hK=> ?_
   go_simp
   have Fi:Below w.heap.size w (w.alloc (.cells #[.slice LA n nc, .slice DA m mc] 25)).drew:=Bw;have bm: ∀W,Below (w.heap.size+1) (w.alloc (.cells #[.slice LA n nc, .slice DA m mc] 25)).drew W->W.cell? ⟨w.heap.size,0,none⟩=some (.slice LA n nc)/\W.cell? ⟨w.heap.size,1,none⟩=some (.slice DA m mc):=fun W hW=>by
    refine⟨(zah hW (Nat.lt_succ_self _)).trans ?_,(zah hW (Nat.lt_succ_self _)).trans ?_⟩<;>(simp[go_sem];done)
   have dK:=zHi bm;clear bm;have aZ:Below (w.heap.size+1) (w.alloc (.cells #[.slice LA n nc, .slice DA m mc] 25)).drew ((w.alloc (.cells #[.slice LA n nc, .slice DA m mc] 25)).drew.alloc (.cells #[.string place] 9)):=zac (Below.refl _ _) _ Mco;refine NxM hK (fun hHeld=> ?_) (dK.o _ aZ);clear hK K;refine OnH 5 fun K hK=> ?_
   refine zal (v:= .slice (some ⟨w.heap.size+1,0,none⟩) 1 1) (n:=1) (m:=ns.length) rfl _ _ rfl zbK zaB zbJ rfl (base:=w.heap.size+1) (xs:=[place]) (ys:=ns) (.inr ⟨w.heap.size+1,0,1,#[.string place],rfl,by omega,zar _ _ _ Mco,Nat.le_refl _,by simp[maxLen],by simp,fun j u hj=> ?hel⟩) rfl rfl rfl (HS.o.keep (n:=w.heap.size) Bw) McJ Mcl Mco ?happ
   case hel=>
    match j,hj with
    |0,hj=>simpa[sC]using hj
    |j+1,hj=>simp[sC]at hj
   case happ=>
    intro v6 w6 h1 h2 h3;obtain⟨A6,c6,dE,hS6,_⟩:=h1.sl zaB;rw[show([place]++ns).length=1+ns.length by simp;omega]at dE;subst dE;have aE:Below (w.heap.size+1) (w.alloc (.cells #[.slice LA n nc, .slice DA m mc] 25)).drew w6:=zaS aZ h2 (Nat.le_refl _) Mco;have Af:Below w.heap.size w w6:=Fi.trans (aE.mono (Nat.le_succ _));have Eg:=zHi Af;refine NxM hK (fun hHeld=> ?_) (dK.o _ aE);clear hK K;refine OnH 6 fun K hK=> ?_
    go_simp
    refine(eo.o w6 Eg.o A6 c6 hS6).mono ?_;rintro e wq ⟨k1,fh⟩;have bG:Below (w.heap.size+1) (w.alloc (.cells #[.slice LA n nc, .slice DA m mc] 25)).drew wq:=aE.trans (k1.mono (by have:=aE.size;simp at this;omega));have bR:=zHi (Af.trans (k1.mono Af.size));clear h1 h2 h3 k1 Af aE aZ Fi eo;rcases fh with⟨ai,rfl⟩|⟨he,base,b,la,co,rfl,q2,q3,q4,q5⟩
    ·have iN:=zHi ai;clear ai;refine NxM hK (fun hHeld=> ?_) (dK.o _ bG);clear hK K;refine TkH 7 ?_;refine TkH 8 ?_;refine TkH 9 ?_;refine OnH 10 fun K hK=> ?_
     go_simp
     refine NxM hK (fun hHeld=> ?_) (dK.o _ bG);clear hK K;refine OnH 11 fun K hK=> ?_
     go_simp
     refine NxM hK (fun hHeld=> ?_) (dK.o _ bG);clear hK K;refine wpAnyH_done Mcm ?_ _;go_wp2_with fail
     go_meet
     exact⟨bR.o, .inl ⟨iN.o,rfl,rfl⟩⟩
    ·have HE:=zHi he;have Q2:=zHi q2;have Q3:=zHi q3;have Q4:=zHi q4;have Q5:=zHi q5;clear he q2 q3 q4 q5;refine NxM hK (fun hHeld=> ?_) (dK.o _ bG);clear hK K;refine TkH 7 ?_;refine TkH 8 ?_;refine TkH 9 ?_;refine OnH 10 fun K hK=> ?_
     go_simp
     refine NxM hK (fun hHeld=> ?_) (dK.o _ bG);clear hK K;refine OnH 11 fun K hK=> ?_
     go_simp
     refine NxM hK (fun hHeld=> ?_) (dK.o _ bG);clear hK K;refine wpAnyH_done Mcm ?_ _;go_wp2_with fail
     go_meet
     exact⟨bR.o, .inr ⟨HE.o,rfl,base,b,la,co,rfl,Nat.le_trans Eg.o.size Q2.o,Q3.o,Q4.o,Q5.o⟩⟩
 case rest=>
  obtain⟨hB,fh⟩:=hcut;rcases fh with⟨ai,rfl,rfl⟩|⟨he,rfl,base,b,la,co,rfl,q2,q3,q4,q5⟩
  ·have iN:=zHi ai;go_wp2_with fail
   go_ret3
   exact⟨hB, .inl ⟨iN.o,rfl⟩⟩
  ·have HE:=zHi he;clear he;have HB:=zHi hB;have Q3:=zHi q3;have Q4:=zHi q4;have Q5:=zHi q5;obtain⟨Bk,dd,cc,pp,wl,rr,mv,tv,ps,ba,hC,hP,hT⟩:=q3;obtain⟨k,fM,cn⟩:=q5;have cB:=cn.graves;have aN:=fun W (hB:Below wc.heap.size wc W)=>zjI base b s la co place day W (hC.keep hB) (hT.keep hB) Mcl
   have hsz:=hB.size;have Bn:=zHi hsz;cases aO:zaJ s place day with
   |none=>
    rw[aO]at aN;have bE:=zHi aN;have gU:=zHi aO;clear aN hC hP hT cn hB q4 aO;go_wp2_with (go_at_call 26;go_must(refine(bE.o _ Bw).mono ?_);rintro e wz ⟨rfl,z,rfl⟩;simp only[zlu,Option.map_none])
    go_ret3
    exact⟨HB.o.trans (Below.mono (B:=wc.heap.size) Bw Bn.o), .inr (.inl ⟨HE.o,gU.o,rfl⟩)⟩
   |some i=>
    obtain⟨T,g,ic,iG,aA,bT,gW,_⟩:=zeu hT aO;have mG: ∀W,Below wc.heap.size wc W->Calls Tryz.prog 26 #[.pointer (some ⟨b,0,none⟩), .string place, .int .i64 day] W (Ret W (.pointer (some ⟨T,0,none⟩))):=fun W hB=>by
     have:=aN W hB;exact MaP
    have bE:=zHi mG;have gU:=zHi aO;have sV:=zHi aA;have eX:=zHi gW;clear aN mG hC hP hT cn hB q4 gW bT iG ic aO aA;go_wp2_with (go_at_call 26;go_must(refine(bE.o _ Bw).mono ?_);rintro e wz ⟨rfl,z,rfl⟩)
    go_ret3
    have eL:Below wc.heap.size wc (wc.ext z):=Bw;exact⟨HB.o.trans (eL.mono Bn.o), .inr (.inr ⟨HE.o,base,b,la,co,Bk,T,i,g,gU.o,sV.o,rfl,q2,Q3.o.keep eL,eX.o.keep eL,Q4.o,Q5.o⟩)⟩
end Go.Proofs.YtckkbkdcdkhglaaGreatDoor
