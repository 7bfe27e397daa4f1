/- Walk of chapter 5's world.take. -/
import Derived.Test.YtjhbofabmpfniaaGreatDoorE7
set_option linter.unusedSimpArgs false
set_option linter.unusedVariables false
set_option maxRecDepth 100000
set_option maxHeartbeats 4000000
namespace Go.Proofs.YtjhbofabmpfniaaGreatDoor
open Go.RowKit Go.Shelf
attribute [local go_sem] World.cell?_alloc_mark zae za3 zam za6 zas zat zau zav zaw zax zay
attribute [local go_sem] zaj zac
noncomputable def zd2 (laws:List Law) (s:St) (co:Nat) (last:Int) (d:Deed):St×Int:=
 if decide (60<=co)then(s,8)else if decide (d.day<last)then(s,9)else zbm laws s d
def ziQ (base b:Nat) (x:St×Int) (day la co:Int) (w:World) (e:Ending) (w':World):Prop:=
 e= .returned (.int .i64 x.2)/\WldAt base w' b x.1 (if x.2=0 then day else la) (if x.2=0 then co+1 else co)/\Below base w w'
theorem wldC_tick {W:World} {b d c p wl r:Nat} {mv tv:Value} {la co:Int} (h:WldC W b d c p wl r mv tv la co) (la' co':Int):WldC ((W.setCell ⟨b,7,none⟩ (.int .i64 la')).setCell ⟨b,8,none⟩ (.int .i64 co')) b d c p wl r mv tv la' co':=by
 unfold WldC at*;have:=Joins.block_setCell (i:=8) (Joins.block_setCell (i:=7) h (.int .i64 la')) (.int .i64 co');simpa using this
theorem wld_tick {base b:Nat} {W:World} {s:St} {la co:Int} (h:WldAt base W b s la co) (la' co':Int):WldAt base ((W.setCell ⟨b,7,none⟩ (.int .i64 la')).setCell ⟨b,8,none⟩ (.int .i64 co')) b s la' co':=by
 obtain⟨B,d,c,p,wl,r,mv,tv,ps,h1,h2,h3,h4⟩:=h;have hg:W.grownBy ((W.setCell ⟨b,7,none⟩ (.int .i64 la')).setCell ⟨b,8,none⟩ (.int .i64 co')) (some b):=zbl (zaz W b 7 _) (zaz _ b 8 _);exact⟨B,d,c,p,wl,r,mv,tv,ps,h1,wldC_tick h2 la' co',h3.kept hg h2 Mcp Mcp Mcp,h4.kept hg h2 Mcp Mcp Mcp Mcp⟩
theorem wrap_k {k:Nat} (h:k<1000):wrap64 ((k:Int)+1)=(k:Int)+1:=by
 unfold wrap64;omega
theorem znd {k:Nat} (h:k<1000):IntKind.i64.wrap ((k:Int)+1)=(k:Int)+1:=by
 rw[IntKind.wrap_i64];omega
theorem wld_drew {base b:Nat} {W:World} {s:St} {la co:Int} (h:WldAt base W b s la co):WldAt base W.drew b s la co:=h.keep (n:=W.heap.size) ⟨rfl,rfl,rfl,Nat.le_refl _,fun _ _=>rfl⟩
theorem taken_ok {base b:Nat} {s':St} {day la co:Int} {w w':World} (h:WldAt base w' b s' day (co+1)) (hB:Below base w w'):ziQ base b (s',0) day la co w (.returned (.int .i64 0)) w':=⟨rfl,by simpa using h,hB⟩
theorem taken_no {base b:Nat} {s':St} {day la co er:Int} {w w':World} (h0:er≠0) (h:WldAt base w' b s' la co) (hB:Below base w w'):ziQ base b (s',er) day la co w (.returned (.int .i64 er)) w':=⟨rfl,by simpa[h0]using h,hB⟩
theorem zkL (base b:Nat) (s:St) (k:Nat) (last:Int) (laws:List Law) (LA:Option Addr) (lc:Nat) (d:Deed) (B:Option Addr) (c:Nat) (w:World) (hW:WldAt base w b s last k) (jm:GoodSt s last) (hF:FewS k s) (hd:OkD d) (aU:za8 laws=0) (hL:LensIn w) (eH:Sl w 4 Law.cells LA laws) (au:d.to.length<=c) (hS:Sl w 3 RPart.cells B d.to):
 Calls Tryz.prog 69 #[.pointer (some ⟨b,0,none⟩), .slice LA laws.length lc,d.v B c] w (ziQ base b (zd2 laws s k last d) d.day last k w):=by
 have ao:=hW;obtain⟨Bk,dd,cc,pp,wl,rr,mv,tv,ps,aY,hC,hP,hT⟩:=hW;have cW:=zab hC;have bQ:=hd.kind;have HW:=zHi ao;unfold WldC at hC;obtain⟨-,-,-,-,-,-,-,c7,c8⟩:=cF9 hC;clear hC hP hT ao;by_cases oa:60<=k
 ·have hx:zd2 laws s k last d=(s,8):=by simp[zd2,oa]
  rw[hx];obtain⟨kd,dy,pl,fr,ts,cl,yr⟩:=d;have fe:(60:Int)<=(k:Int):=Mcn;clear hd hx jm hF eH hS bQ hL aU au;unfold Deed.v;simp only;go_enter Tryz.func69,Tryz.ntmps69
  exact Mbm
 have fe: ¬(60:Int)<=(k:Int):=Mcn;have xb:k<1000:=Mcn;by_cases aa:d.day<last
 ·have hx:zd2 laws s k last d=(s,9):=by simp[zd2,oa,aa]
  rw[hx];obtain⟨kd,dy,pl,fr,ts,cl,yr⟩:=d;simp only at aa;clear hd hx jm hF eH hS bQ hL aU au;unfold Deed.v;simp only;go_enter Tryz.func69,Tryz.ntmps69
  go_upto_region 3 with fail
  go_quiet (fail)
  exact Mbm
 have hx:zd2 laws s k last d=zbm laws s d:=by simp[zd2,oa,aa]
 rw[hx];clear hx;have bN:last<=d.day:=Mcn;have cz:=hF.graves;have bm:=hF.kids;have fh:=hF.marr;have bS:=hF.wills d.frm;have FQ: ∀g∈s.graves,g.holders.length<=10000:=fun g hg=>by have:=(hF.held g hg).1;omega
 have wX: ∀g∈s.graves,g.holders.length<=70000/\g.died.length<=1000:=fun g hg=>by have:=hF.held g hg;omega
 have fg:laws.length<=10:=by
  unfold za8 at aU;split at aU
  ·cases aU
  ·rename_i h;simpa using h
 have bL: ∀g∈s.graves,g.fin<=200000:=fun g hg=>(hF.held g hg).2.2
 have bO:=zes aU d.day;have dE:=zHi jm;have HF:=zHi (And.intro FQ (And.intro wX bL));have iL:=zHi hd;have cU:=zHi hL;have cE:=zHi eH;have eQ:=zHi hS;have cM:=zHi bO;have e0: ∀W:World,zbm laws s d=zbm laws s d:=fun _=>rfl
 clear jm hF hd hL eH hS aU bO FQ wX bL e0;have fT:d.kind=0\/d.kind=1\/d.kind=2\/d.kind=3\/d.kind=4\/d.kind=5\/d.kind=6\/d.kind=7\/d.kind=8:=Mcn;clear bQ;obtain⟨kd,dy,pl,fr,ts,cl,yr⟩:=d;simp only at aa bN fT au bS;rcases fT with rfl|rfl|rfl|rfl|rfl|rfl|rfl|rfl|rfl
 ·have bm: ∀W,Below w.heap.size w W->Calls Tryz.prog 138 #[.pointer (some ⟨b,0,none⟩), .agg #[.int .i64 0, .int .i64 dy, .string pl, .string fr, .slice B ts.length c, .int .i64 cl, .int .i64 yr]] W (zbF base b (zbm laws s ⟨0,dy,pl,fr,ts,cl,yr⟩) last k W):=fun W hB=>by
   rw[show zbm laws s ⟨0,dy,pl,fr,ts,cl,yr⟩=zcN s ⟨0,dy,pl,fr,ts,cl,yr⟩from by simp[zbm]];exact grant_any base b s last k ⟨0,dy,pl,fr,ts,cl,yr⟩ B c W (HW.o.keep hB) (cU.o.keep hB) iL.o rfl Mcn au (eQ.o.keep hB)
  generalize zbm laws s ⟨0,dy,pl,fr,ts,cl,yr⟩=X at*;have cd:=zHi bm;clear bm dE HF iL cU cE eQ cM;obtain⟨s',er⟩:=X;unfold Deed.v;simp only;go_enter Tryz.func69,Tryz.ntmps69
  go_upto_region 3 with fail
  go_quiet (fail)
  go_upto_region 18 with
   (go_at_call 138
    go_must(refine(cd.o _ Bw).mono ?_)
    rintro e wq ⟨rfl,hW,hB,hK⟩;have h0:=((hK w.heap.size _ _ (zar _ _ _ rfl)).trans (zar _ _ _ rfl))
    obtain⟨Bk',d',c',p',wl',r',mv',tv',ps',eo,cC,gA,fQ⟩:=id hW;have nk:=zHi hW;have nM:=zHi cC;have nL:=zHi hB;have mZ:=zHi h0
    clear hW hB hK h0 gA fQ cC)
  exact Md
 ·have bm: ∀W,Below w.heap.size w W->Calls Tryz.prog 139 #[.pointer (some ⟨b,0,none⟩), .agg #[.int .i64 1, .int .i64 dy, .string pl, .string fr, .slice B ts.length c, .int .i64 cl, .int .i64 yr]] W (zbF base b (zbm laws s ⟨1,dy,pl,fr,ts,cl,yr⟩) last k W):=fun W hB=>by
   rw[show zbm laws s ⟨1,dy,pl,fr,ts,cl,yr⟩=zbo s ⟨1,dy,pl,fr,ts,cl,yr⟩from by simp[zbm]];exact zl2 base b s last k last ⟨1,dy,pl,fr,ts,cl,yr⟩ B c W (HW.o.keep hB) dE.o iL.o rfl Mcn HF.o.1 au (eQ.o.keep hB)
  generalize zbm laws s ⟨1,dy,pl,fr,ts,cl,yr⟩=X at*;have cd:=zHi bm;clear bm dE HF iL cU cE eQ cM;obtain⟨s',er⟩:=X;unfold Deed.v;simp only;go_enter Tryz.func69,Tryz.ntmps69
  go_upto_region 3 with fail
  go_quiet (fail)
  go_upto_region 18 with
   (go_at_call 139
    go_must(refine(cd.o _ Bw).mono ?_)
    rintro e wq ⟨rfl,hW,hB,hK⟩;have h0:=((hK w.heap.size _ _ (zar _ _ _ rfl)).trans (zar _ _ _ rfl))
    obtain⟨Bk',d',c',p',wl',r',mv',tv',ps',eo,cC,gA,fQ⟩:=id hW;have nk:=zHi hW;have nM:=zHi cC;have nL:=zHi hB;have mZ:=zHi h0
    clear hW hB hK h0 gA fQ cC)
  exact Md
 ·have bm: ∀W,Below w.heap.size w W->Calls Tryz.prog 140 #[.pointer (some ⟨b,0,none⟩), .agg #[.int .i64 2, .int .i64 dy, .string pl, .string fr, .slice B ts.length c, .int .i64 cl, .int .i64 yr]] W (zbF base b (zbm laws s ⟨2,dy,pl,fr,ts,cl,yr⟩) last k W):=fun W hB=>by
   rw[show zbm laws s ⟨2,dy,pl,fr,ts,cl,yr⟩=zaZ s ⟨2,dy,pl,fr,ts,cl,yr⟩from by simp[zbm]];exact zk2 base b s last k last ⟨2,dy,pl,fr,ts,cl,yr⟩ B c W (HW.o.keep hB) dE.o Mcn HF.o.1
  generalize zbm laws s ⟨2,dy,pl,fr,ts,cl,yr⟩=X at*;have cd:=zHi bm;clear bm dE HF iL cU cE eQ cM;obtain⟨s',er⟩:=X;unfold Deed.v;simp only;go_enter Tryz.func69,Tryz.ntmps69
  go_upto_region 3 with fail
  go_quiet (fail)
  go_upto_region 18 with
   (go_at_call 140
    go_must(refine(cd.o _ Bw).mono ?_)
    rintro e wq ⟨rfl,hW,hB,hK⟩;have h0:=((hK w.heap.size _ _ (zar _ _ _ rfl)).trans (zar _ _ _ rfl))
    obtain⟨Bk',d',c',p',wl',r',mv',tv',ps',eo,cC,gA,fQ⟩:=id hW;have nk:=zHi hW;have nM:=zHi cC;have nL:=zHi hB;have mZ:=zHi h0
    clear hW hB hK h0 gA fQ cC)
  exact Md
 ·have bm: ∀W,Below w.heap.size w W->Calls Tryz.prog 141 #[.pointer (some ⟨b,0,none⟩), .agg #[.int .i64 3, .int .i64 dy, .string pl, .string fr, .slice B ts.length c, .int .i64 cl, .int .i64 yr]] W (zbF base b (zbm laws s ⟨3,dy,pl,fr,ts,cl,yr⟩) last k W):=fun W hB=>by
   rw[show zbm laws s ⟨3,dy,pl,fr,ts,cl,yr⟩=zcY s ⟨3,dy,pl,fr,ts,cl,yr⟩from by simp[zbm]];exact zmL base b s last k last ⟨3,dy,pl,fr,ts,cl,yr⟩ B c W (HW.o.keep hB) (cU.o.keep hB) iL.o Mcn HF.o.2.2
  generalize zbm laws s ⟨3,dy,pl,fr,ts,cl,yr⟩=X at*;have cd:=zHi bm;clear bm dE HF iL cU cE eQ cM;obtain⟨s',er⟩:=X;unfold Deed.v;simp only;go_enter Tryz.func69,Tryz.ntmps69
  go_upto_region 3 with fail
  go_quiet (fail)
  go_upto_region 18 with
   (go_at_call 141
    go_must(refine(cd.o _ Bw).mono ?_)
    rintro e wq ⟨rfl,hW,hB,hK⟩;have h0:=((hK w.heap.size _ _ (zar _ _ _ rfl)).trans (zar _ _ _ rfl))
    obtain⟨Bk',d',c',p',wl',r',mv',tv',ps',eo,cC,gA,fQ⟩:=id hW;have nk:=zHi hW;have nM:=zHi cC;have nL:=zHi hB;have mZ:=zHi h0
    clear hW hB hK h0 gA fQ cC)
  exact Md
 ·have bm: ∀W,Below w.heap.size w W->Calls Tryz.prog 143 #[.pointer (some ⟨b,0,none⟩), .agg #[.int .i64 4, .int .i64 dy, .string pl, .string fr, .slice B ts.length c, .int .i64 cl, .int .i64 yr]] W (zbF base b (zbm laws s ⟨4,dy,pl,fr,ts,cl,yr⟩) last k W):=fun W hB=>by
   rw[show zbm laws s ⟨4,dy,pl,fr,ts,cl,yr⟩=zgT s ⟨4,dy,pl,fr,ts,cl,yr⟩from by simp[zbm]];exact will_any base b s last k ⟨4,dy,pl,fr,ts,cl,yr⟩ B c W (HW.o.keep hB) iL.o rfl (eQ.o.keep hB)
  generalize zbm laws s ⟨4,dy,pl,fr,ts,cl,yr⟩=X at*;have cd:=zHi bm;clear bm dE HF iL cU cE eQ cM;obtain⟨s',er⟩:=X;unfold Deed.v;simp only;go_enter Tryz.func69,Tryz.ntmps69
  go_upto_region 3 with fail
  go_quiet (fail)
  go_upto_region 7 with fail
  refine wp_region_held_drew (S:=(fun w'=>w'.cell? ⟨w.heap.size,0,none⟩=some (.int .i64 4)/\w'.cell? ⟨w.heap.size,1,none⟩=some (.int .i64 dy)/\w'.cell? ⟨w.heap.size,2,none⟩=some (.string pl)/\w'.cell? ⟨w.heap.size,3,none⟩=some (.string fr)/\w'.cell? ⟨w.heap.size,4,none⟩=some (.slice B ts.length c)/\w'.cell? ⟨w.heap.size,5,none⟩=some (.int .i64 cl)/\w'.cell? ⟨w.heap.size,6,none⟩=some (.int .i64 yr))) Mco ?hS4 ?hrest4
  case hS4=>refine⟨?_,?_,?_,?_,?_,?_,?_⟩<;>(simp[go_sem];done)
  intro hHeld;refine TkH 0 ?_;refine TkH 1 ?_;refine TkH 2 ?_;refine TkH 3 ?_;refine OnH 4 fun K hK=> ?_
  go_simp
  refine(cd.o _ Bw).mono ?_;rintro e wq ⟨rfl,hW,hB,hK⟩;have h0:=((hK w.heap.size _ _ (zar _ _ _ rfl)).trans (zar _ _ _ rfl))
  obtain⟨Bk',d',c',p',wl',r',mv',tv',ps',eo,cC,gA,fQ⟩:=id hW;have nk:=zHi hW;have nM:=zHi cC;have nL:=zHi hB;have mZ:=zHi h0;have d0:wq.cell? ⟨w.heap.size,0,none⟩=some (.int .i64 4):=McS;exact MbS
 ·have bm: ∀W,Below w.heap.size w W->Calls Tryz.prog 143 #[.pointer (some ⟨b,0,none⟩), .agg #[.int .i64 5, .int .i64 dy, .string pl, .string fr, .slice B ts.length c, .int .i64 cl, .int .i64 yr]] W (zbF base b (zbm laws s ⟨5,dy,pl,fr,ts,cl,yr⟩) last k W):=fun W hB=>by
   rw[show zbm laws s ⟨5,dy,pl,fr,ts,cl,yr⟩=zb9 s ⟨5,dy,pl,fr,ts,cl,yr⟩from by simp[zbm]];exact zlK base b s last k ⟨5,dy,pl,fr,ts,cl,yr⟩ B c W (HW.o.keep hB) iL.o rfl au (eQ.o.keep hB)
  generalize zbm laws s ⟨5,dy,pl,fr,ts,cl,yr⟩=X at*;have cd:=zHi bm;clear bm dE HF iL cU cE eQ cM;obtain⟨s',er⟩:=X;unfold Deed.v;simp only;go_enter Tryz.func69,Tryz.ntmps69
  go_upto_region 3 with fail
  go_quiet (fail)
  go_upto_region 7 with fail
  refine wp_region_held_drew (S:=(fun w'=>w'.cell? ⟨w.heap.size,0,none⟩=some (.int .i64 5)/\w'.cell? ⟨w.heap.size,1,none⟩=some (.int .i64 dy)/\w'.cell? ⟨w.heap.size,2,none⟩=some (.string pl)/\w'.cell? ⟨w.heap.size,3,none⟩=some (.string fr)/\w'.cell? ⟨w.heap.size,4,none⟩=some (.slice B ts.length c)/\w'.cell? ⟨w.heap.size,5,none⟩=some (.int .i64 cl)/\w'.cell? ⟨w.heap.size,6,none⟩=some (.int .i64 yr))) Mco ?hS5 ?hrest5
  case hS5=>refine⟨?_,?_,?_,?_,?_,?_,?_⟩<;>(simp[go_sem];done)
  intro hHeld;refine TkH 0 ?_;refine TkH 1 ?_;refine TkH 2 ?_;refine TkH 3 ?_;refine OnH 4 fun K hK=> ?_
  go_simp
  refine(cd.o _ Bw).mono ?_;rintro e wq ⟨rfl,hW,hB,hK⟩;have h0:=((hK w.heap.size _ _ (zar _ _ _ rfl)).trans (zar _ _ _ rfl))
  obtain⟨Bk',d',c',p',wl',r',mv',tv',ps',eo,cC,gA,fQ⟩:=id hW;have nk:=zHi hW;have nM:=zHi cC;have nL:=zHi hB;have mZ:=zHi h0;have d0:wq.cell? ⟨w.heap.size,0,none⟩=some (.int .i64 5):=McS;exact MbS
 ·have bm: ∀W,Below w.heap.size w W->Calls Tryz.prog 143 #[.pointer (some ⟨b,0,none⟩), .agg #[.int .i64 6, .int .i64 dy, .string pl, .string fr, .slice B ts.length c, .int .i64 cl, .int .i64 yr]] W (zbF base b (zbm laws s ⟨6,dy,pl,fr,ts,cl,yr⟩) last k W):=fun W hB=>by
   rw[show zbm laws s ⟨6,dy,pl,fr,ts,cl,yr⟩=zcD s ⟨6,dy,pl,fr,ts,cl,yr⟩from by simp[zbm]];exact child_any base b s last k ⟨6,dy,pl,fr,ts,cl,yr⟩ B c W (HW.o.keep hB) iL.o rfl au (eQ.o.keep hB) Mcn
  generalize zbm laws s ⟨6,dy,pl,fr,ts,cl,yr⟩=X at*;have cd:=zHi bm;clear bm dE HF iL cU cE eQ cM;obtain⟨s',er⟩:=X;unfold Deed.v;simp only;go_enter Tryz.func69,Tryz.ntmps69
  go_upto_region 3 with fail
  go_quiet (fail)
  go_upto_region 7 with fail
  refine wp_region_held_drew (S:=(fun w'=>w'.cell? ⟨w.heap.size,0,none⟩=some (.int .i64 6)/\w'.cell? ⟨w.heap.size,1,none⟩=some (.int .i64 dy)/\w'.cell? ⟨w.heap.size,2,none⟩=some (.string pl)/\w'.cell? ⟨w.heap.size,3,none⟩=some (.string fr)/\w'.cell? ⟨w.heap.size,4,none⟩=some (.slice B ts.length c)/\w'.cell? ⟨w.heap.size,5,none⟩=some (.int .i64 cl)/\w'.cell? ⟨w.heap.size,6,none⟩=some (.int .i64 yr))) Mco ?hS6 ?hrest6
  case hS6=>refine⟨?_,?_,?_,?_,?_,?_,?_⟩<;>(simp[go_sem];done)
  intro hHeld;refine TkH 0 ?_;refine TkH 1 ?_;refine TkH 2 ?_;refine TkH 3 ?_;refine OnH 4 fun K hK=> ?_
  go_simp
  refine(cd.o _ Bw).mono ?_;rintro e wq ⟨rfl,hW,hB,hK⟩;have h0:=((hK w.heap.size _ _ (zar _ _ _ rfl)).trans (zar _ _ _ rfl))
  obtain⟨Bk',d',c',p',wl',r',mv',tv',ps',eo,cC,gA,fQ⟩:=id hW;have nk:=zHi hW;have nM:=zHi cC;have nL:=zHi hB;have mZ:=zHi h0;have d0:wq.cell? ⟨w.heap.size,0,none⟩=some (.int .i64 6):=McS;exact MbS
 ·have bm: ∀W,Below w.heap.size w W->Calls Tryz.prog 143 #[.pointer (some ⟨b,0,none⟩), .agg #[.int .i64 7, .int .i64 dy, .string pl, .string fr, .slice B ts.length c, .int .i64 cl, .int .i64 yr]] W (zbF base b (zbm laws s ⟨7,dy,pl,fr,ts,cl,yr⟩) last k W):=fun W hB=>by
   rw[show zbm laws s ⟨7,dy,pl,fr,ts,cl,yr⟩=zdr s ⟨7,dy,pl,fr,ts,cl,yr⟩from by simp[zbm]];exact marry_any base b s last k ⟨7,dy,pl,fr,ts,cl,yr⟩ B c W (HW.o.keep hB) iL.o rfl au (eQ.o.keep hB) Mcn
  generalize zbm laws s ⟨7,dy,pl,fr,ts,cl,yr⟩=X at*;have cd:=zHi bm;clear bm dE HF iL cU cE eQ cM;obtain⟨s',er⟩:=X;unfold Deed.v;simp only;go_enter Tryz.func69,Tryz.ntmps69
  go_upto_region 3 with fail
  go_quiet (fail)
  go_upto_region 7 with fail
  refine wp_region_held_drew (S:=(fun w'=>w'.cell? ⟨w.heap.size,0,none⟩=some (.int .i64 7)/\w'.cell? ⟨w.heap.size,1,none⟩=some (.int .i64 dy)/\w'.cell? ⟨w.heap.size,2,none⟩=some (.string pl)/\w'.cell? ⟨w.heap.size,3,none⟩=some (.string fr)/\w'.cell? ⟨w.heap.size,4,none⟩=some (.slice B ts.length c)/\w'.cell? ⟨w.heap.size,5,none⟩=some (.int .i64 cl)/\w'.cell? ⟨w.heap.size,6,none⟩=some (.int .i64 yr))) Mco ?hS7 ?hrest7
  case hS7=>refine⟨?_,?_,?_,?_,?_,?_,?_⟩<;>(simp[go_sem];done)
  intro hHeld;refine TkH 0 ?_;refine TkH 1 ?_;refine TkH 2 ?_;refine TkH 3 ?_;refine OnH 4 fun K hK=> ?_
  go_simp
  refine(cd.o _ Bw).mono ?_;rintro e wq ⟨rfl,hW,hB,hK⟩;have h0:=((hK w.heap.size _ _ (zar _ _ _ rfl)).trans (zar _ _ _ rfl))
  obtain⟨Bk',d',c',p',wl',r',mv',tv',ps',eo,cC,gA,fQ⟩:=id hW;have nk:=zHi hW;have nM:=zHi cC;have nL:=zHi hB;have mZ:=zHi h0;have d0:wq.cell? ⟨w.heap.size,0,none⟩=some (.int .i64 7):=McS;exact MbS
 ·have bm: ∀W,Below w.heap.size w W->Calls Tryz.prog 142 #[.pointer (some ⟨b,0,none⟩), .slice LA laws.length lc, .agg #[.int .i64 8, .int .i64 dy, .string pl, .string fr, .slice B ts.length c, .int .i64 cl, .int .i64 yr]] W (zbF base b (zbm laws s ⟨8,dy,pl,fr,ts,cl,yr⟩) last k W):=fun W hB=>by
   rw[show zbm laws s ⟨8,dy,pl,fr,ts,cl,yr⟩=zdL laws s ⟨8,dy,pl,fr,ts,cl,yr⟩from by simp[zbm]];exact death_any base b s last k last laws LA lc ⟨8,dy,pl,fr,ts,cl,yr⟩ B c W (HW.o.keep hB) dE.o bN rfl cM.o fg (cE.o.keep hB) Mcn Mcn Mcn (by simpa using Nat.le_trans bS Mcn) HF.o.2.1
  generalize zbm laws s ⟨8,dy,pl,fr,ts,cl,yr⟩=X at*;have cd:=zHi bm;clear bm dE HF iL cU cE eQ cM;obtain⟨s',er⟩:=X;unfold Deed.v;simp only;go_enter Tryz.func69,Tryz.ntmps69
  go_upto_region 3 with fail
  go_quiet (fail)
  go_upto_region 18 with
   (go_at_call 142
    go_must(refine(cd.o _ Bw).mono ?_)
    rintro e wq ⟨rfl,hW,hB,hK⟩;have h0:=((hK w.heap.size _ _ (zar _ _ _ rfl)).trans (zar _ _ _ rfl))
    obtain⟨Bk',d',c',p',wl',r',mv',tv',ps',eo,cC,gA,fQ⟩:=id hW;have nk:=zHi hW;have nM:=zHi cC;have nL:=zHi hB;have mZ:=zHi h0
    clear hW hB hK h0 gA fQ cC)
  exact Md
end Go.Proofs.YtjhbofabmpfniaaGreatDoor
