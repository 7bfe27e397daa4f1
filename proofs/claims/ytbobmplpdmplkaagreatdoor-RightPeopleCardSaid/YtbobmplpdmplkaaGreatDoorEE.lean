import Derived.Test.YtbobmplpdmplkaaGreatDoorE7
import Derived.Test.YtbobmplpdmplkaaGreatDoorOB
set_option linter.all false
set_option maxRecDepth 100000
set_option maxHeartbeats 4000000
namespace Go.Proofs.YtbobmplpdmplkaaGreatDoor
open Go.RowKit Go.Shelf
attribute [local go_sem] World.cell?_alloc_mark zaf za4 zam za7 zaw zax zay zaz za0 za1 za2
attribute [local go_sem] zan zac
noncomputable def zeu (laws:List Law) (s:St) (co:Nat) (last:Int) (d:Deed):St×Int:=
 if decide (60<=co)then(s,8)else if decide (d.day<last)then(s,9)else zbq laws s d
def ziL(base b:Nat)(x:St×Int)(day la co:Int)(w:World)(e:Ending)(w':World):Prop:=
 e=.returned (.int .i64 x.2)/\WldAt base w' b x.1 (if x.2=0 then day else la) (if x.2=0 then co+1 else co)/\Below base w w'
theorem wldC_tick{W:World}{b d c p wl r:Nat}{mv tv:Value}{la co:Int}(h:WldC W b d c p wl r mv tv la co)(la' co':Int):WldC ((W.setCell ⟨b,7,none⟩ (.int .i64 la')).setCell ⟨b,8,none⟩ (.int .i64 co')) b d c p wl r mv tv la' co':=by
 unfold WldC at*;have:=Joins.block_setCell (i:=8) (Joins.block_setCell (i:=7) h (.int .i64 la')) (.int .i64 co');simpa using this
theorem wld_tick{base b:Nat}{W:World}{s:St}{la co:Int}(h:WldAt base W b s la co)(la' co':Int):WldAt base ((W.setCell ⟨b,7,none⟩ (.int .i64 la')).setCell ⟨b,8,none⟩ (.int .i64 co')) b s la' co':=by
 obtain⟨B,d,c,p,wl,r,mv,tv,ps,h1,h2,h3,h4⟩:=h;have hg:W.grownBy ((W.setCell ⟨b,7,none⟩ (.int .i64 la')).setCell ⟨b,8,none⟩ (.int .i64 co')) (some b):=zbo (zav W b 7 _) (zav _ b 8 _);exact⟨B,d,c,p,wl,r,mv,tv,ps,h1,wldC_tick h2 la' co',h3.kept hg h2 McA McA McA,h4.kept hg h2 McA McA McA McA⟩
theorem wrap_k{k:Nat}(h:k<1000):wrap64 ((k:Int)+1)=(k:Int)+1:=by
 unfold wrap64;omega
theorem wrap_k2{k:Nat}(h:k<1000):IntKind.i64.wrap ((k:Int)+1)=(k:Int)+1:=by
 rw[IntKind.wrap_i64];omega
theorem wld_drew{base b:Nat}{W:World}{s:St}{la co:Int}(h:WldAt base W b s la co):WldAt base W.drew b s la co:=h.keep (n:=W.heap.size) ⟨rfl,rfl,rfl,Nat.le_refl _,fun _ _=>rfl⟩
theorem taken_ok{base b:Nat}{s':St}{day la co:Int}{w w':World}(h:WldAt base w' b s' day (co+1))(hB:Below base w w'):ziL base b (s',0) day la co w (.returned (.int .i64 0)) w':=⟨rfl,by simpa using h,hB⟩
theorem taken_no{base b:Nat}{s':St}{day la co er:Int}{w w':World}(h0:er≠0)(h:WldAt base w' b s' la co)(hB:Below base w w'):ziL base b (s',er) day la co w (.returned (.int .i64 er)) w':=⟨rfl,by simpa[h0]using h,hB⟩
theorem take_any(base b:Nat)(s:St)(k:Nat)(last:Int)(laws:List Law)(LA:Option Addr)(lc:Nat)(d:Deed)(B:Option Addr)(c:Nat)(w:World)(hW:WldAt base w b s last k)(j9:GoodSt s last)(hF:FewS k s)(hd:OkD d)(bz:zaD laws=0)(hL:LensIn w)(ii:Sl w 4 Law.cells LA laws)(ay:d.to.length<=c)(hS:Sl w 3 RPart.cells B d.to):
 Calls Tryz.prog 91 #[.pointer (some ⟨b,0,none⟩),.slice LA laws.length lc,d.v B c] w (ziL base b (zeu laws s k last d) d.day last k w):=by
 have am:=hW;obtain⟨Bk,dd,cc,pp,wl,rr,mv,tv,ps,ba,hC,hP,hT⟩:=hW;have dg:=zab hC;have bS:=hd.kind;have HW:=zHi am;unfold WldC at hC;obtain⟨-,-,-,-,-,-,-,c7,c8⟩:=cF9 hC;clear hC hP hT am;by_cases h60:60<=k
 ·have hx:zeu laws s k last d=(s,8):=by simp[zeu,h60]
  rw[hx];obtain⟨kd,dy,pl,fr,ts,cl,yr⟩:=d;have eW:(60:Int)<=(k:Int):=Mcy;clear hd hx j9 hF ii hS bS hL bz ay;unfold Deed.v;simp only;go_enter Tryz.func91,Tryz.ntmps91
  exact Mbr
 have eW:¬(60:Int)<=(k:Int):=Mcy;have xf:k<1000:=Mcy;by_cases ae:d.day<last
 ·have hx:zeu laws s k last d=(s,9):=by simp[zeu,h60,ae]
  rw[hx];obtain⟨kd,dy,pl,fr,ts,cl,yr⟩:=d;simp only at ae;clear hd hx j9 hF ii hS bS hL bz ay;unfold Deed.v;simp only;go_enter Tryz.func91,Tryz.ntmps91
  go_upto_region 3 with fail
  go_quiet (fail)
  exact Mbr
 have hx:zeu laws s k last d=zbq laws s d:=by simp[zeu,h60,ae]
 rw[hx];clear hx;have bI:last<=d.day:=Mcy;have cz:=hF.graves;have aW:=hF.kids;have ft:=hF.marr;have cG:=hF.wills d.frm;have FN:∀g∈s.graves,g.holders.length<=10000:=fun g hg=>by have:=(hF.held g hg).1;omega
 have pK:∀g∈s.graves,g.holders.length<=70000/\g.died.length<=1000:=fun g hg=>by have:=hF.held g hg;omega
 have fF:laws.length<=10:=by
  unfold zaD at bz;split at bz
  ·cases bz
  ·rename_i h;simpa using h
 have bJ:∀g∈s.graves,g.fin<=200000:=fun g hg=>(hF.held g hg).2.2
 have bA:=zeW bz d.day;obtain⟨dC,HF,iD,d9,eu,eI,ew⟩:=yH7 j9 (And.intro FN (And.intro pK bJ)) hd hL ii hS bA;have e0:∀W:World,zbq laws s d=zbq laws s d:=fun _=>rfl
 clear j9 hF hd hL ii hS bz bA FN pK bJ e0;have fR:d.kind=0\/d.kind=1\/d.kind=2\/d.kind=3\/d.kind=4\/d.kind=5\/d.kind=6\/d.kind=7\/d.kind=8:=Mcy;clear bS;obtain⟨kd,dy,pl,fr,ts,cl,yr⟩:=d;simp only at ae bI fR ay cG;rcases fR with rfl|rfl|rfl|rfl|rfl|rfl|rfl|rfl|rfl
 ·have aW:∀W,Below w.heap.size w W->Calls Tryz.prog 121 #[.pointer (some ⟨b,0,none⟩),.agg #[.int .i64 0,.int .i64 dy,.string pl,.string fr,.slice B ts.length c,.int .i64 cl,.int .i64 yr]] W (zbH base b (zbq laws s ⟨0,dy,pl,fr,ts,cl,yr⟩) last k W):=fun W hB=>by
   rw[show zbq laws s ⟨0,dy,pl,fr,ts,cl,yr⟩=zcO s ⟨0,dy,pl,fr,ts,cl,yr⟩from by simp[zbq]];exact grant_any base b s last k ⟨0,dy,pl,fr,ts,cl,yr⟩ B c W (HW.o.keep hB) (d9.o.keep hB) iD.o rfl Mcy ay (eI.o.keep hB)
  generalize zbq laws s ⟨0,dy,pl,fr,ts,cl,yr⟩=X at*;have ct:=zHi aW;clear aW dC HF iD d9 eu eI ew;obtain⟨s',er⟩:=X;unfold Deed.v;simp only;go_enter Tryz.func91,Tryz.ntmps91
  go_upto_region 3 with fail
  go_quiet (fail)
  go_upto_region 18 with
   (go_at_call 121
    go_must(refine(ct.o _ Bw).mono ?_)
    rintro e wq ⟨rfl,hW,hB,hK⟩;have h0:=((hK w.heap.size _ _ (zar _ _ _ rfl)).trans (zar _ _ _ rfl))
    obtain⟨Bk',d',c',p',wl',r',mv',tv',ps',ed,cD,gu,fP⟩:=id hW;obtain⟨nv,nR,nQ,nh⟩:=yH4 hW cD hB h0
    clear hW hB hK h0 gu fP cD)
  exact Md
 ·have aW:∀W,Below w.heap.size w W->Calls Tryz.prog 122 #[.pointer (some ⟨b,0,none⟩),.agg #[.int .i64 1,.int .i64 dy,.string pl,.string fr,.slice B ts.length c,.int .i64 cl,.int .i64 yr]] W (zbH base b (zbq laws s ⟨1,dy,pl,fr,ts,cl,yr⟩) last k W):=fun W hB=>by
   rw[show zbq laws s ⟨1,dy,pl,fr,ts,cl,yr⟩=zbp s ⟨1,dy,pl,fr,ts,cl,yr⟩from by simp[zbq]];exact zls base b s last k last ⟨1,dy,pl,fr,ts,cl,yr⟩ B c W (HW.o.keep hB) dC.o iD.o rfl Mcy HF.o.1 ay (eI.o.keep hB)
  generalize zbq laws s ⟨1,dy,pl,fr,ts,cl,yr⟩=X at*;have ct:=zHi aW;clear aW dC HF iD d9 eu eI ew;obtain⟨s',er⟩:=X;unfold Deed.v;simp only;go_enter Tryz.func91,Tryz.ntmps91
  go_upto_region 3 with fail
  go_quiet (fail)
  go_upto_region 18 with
   (go_at_call 122
    go_must(refine(ct.o _ Bw).mono ?_)
    rintro e wq ⟨rfl,hW,hB,hK⟩;have h0:=((hK w.heap.size _ _ (zar _ _ _ rfl)).trans (zar _ _ _ rfl))
    obtain⟨Bk',d',c',p',wl',r',mv',tv',ps',ed,cD,gu,fP⟩:=id hW;obtain⟨nv,nR,nQ,nh⟩:=yH4 hW cD hB h0
    clear hW hB hK h0 gu fP cD)
  exact Md
 ·have aW:∀W,Below w.heap.size w W->Calls Tryz.prog 123 #[.pointer (some ⟨b,0,none⟩),.agg #[.int .i64 2,.int .i64 dy,.string pl,.string fr,.slice B ts.length c,.int .i64 cl,.int .i64 yr]] W (zbH base b (zbq laws s ⟨2,dy,pl,fr,ts,cl,yr⟩) last k W):=fun W hB=>by
   rw[show zbq laws s ⟨2,dy,pl,fr,ts,cl,yr⟩=zaZ s ⟨2,dy,pl,fr,ts,cl,yr⟩from by simp[zbq]];exact zks base b s last k last ⟨2,dy,pl,fr,ts,cl,yr⟩ B c W (HW.o.keep hB) dC.o Mcy HF.o.1
  generalize zbq laws s ⟨2,dy,pl,fr,ts,cl,yr⟩=X at*;have ct:=zHi aW;clear aW dC HF iD d9 eu eI ew;obtain⟨s',er⟩:=X;unfold Deed.v;simp only;go_enter Tryz.func91,Tryz.ntmps91
  go_upto_region 3 with fail
  go_quiet (fail)
  go_upto_region 18 with
   (go_at_call 123
    go_must(refine(ct.o _ Bw).mono ?_)
    rintro e wq ⟨rfl,hW,hB,hK⟩;have h0:=((hK w.heap.size _ _ (zar _ _ _ rfl)).trans (zar _ _ _ rfl))
    obtain⟨Bk',d',c',p',wl',r',mv',tv',ps',ed,cD,gu,fP⟩:=id hW;obtain⟨nv,nR,nQ,nh⟩:=yH4 hW cD hB h0
    clear hW hB hK h0 gu fP cD)
  exact Md
 ·have aW:∀W,Below w.heap.size w W->Calls Tryz.prog 124 #[.pointer (some ⟨b,0,none⟩),.agg #[.int .i64 3,.int .i64 dy,.string pl,.string fr,.slice B ts.length c,.int .i64 cl,.int .i64 yr]] W (zbH base b (zbq laws s ⟨3,dy,pl,fr,ts,cl,yr⟩) last k W):=fun W hB=>by
   rw[show zbq laws s ⟨3,dy,pl,fr,ts,cl,yr⟩=zcZ s ⟨3,dy,pl,fr,ts,cl,yr⟩from by simp[zbq]];exact zmB base b s last k last ⟨3,dy,pl,fr,ts,cl,yr⟩ B c W (HW.o.keep hB) (d9.o.keep hB) iD.o Mcy HF.o.2.2
  generalize zbq laws s ⟨3,dy,pl,fr,ts,cl,yr⟩=X at*;have ct:=zHi aW;clear aW dC HF iD d9 eu eI ew;obtain⟨s',er⟩:=X;unfold Deed.v;simp only;go_enter Tryz.func91,Tryz.ntmps91
  go_upto_region 3 with fail
  go_quiet (fail)
  go_upto_region 18 with
   (go_at_call 124
    go_must(refine(ct.o _ Bw).mono ?_)
    rintro e wq ⟨rfl,hW,hB,hK⟩;have h0:=((hK w.heap.size _ _ (zar _ _ _ rfl)).trans (zar _ _ _ rfl))
    obtain⟨Bk',d',c',p',wl',r',mv',tv',ps',ed,cD,gu,fP⟩:=id hW;obtain⟨nv,nR,nQ,nh⟩:=yH4 hW cD hB h0
    clear hW hB hK h0 gu fP cD)
  exact Md
 ·have aW:∀W,Below w.heap.size w W->Calls Tryz.prog 126 #[.pointer (some ⟨b,0,none⟩),.agg #[.int .i64 4,.int .i64 dy,.string pl,.string fr,.slice B ts.length c,.int .i64 cl,.int .i64 yr]] W (zbH base b (zbq laws s ⟨4,dy,pl,fr,ts,cl,yr⟩) last k W):=fun W hB=>by
   rw[show zbq laws s ⟨4,dy,pl,fr,ts,cl,yr⟩=zgK s ⟨4,dy,pl,fr,ts,cl,yr⟩from by simp[zbq]];exact will_any base b s last k ⟨4,dy,pl,fr,ts,cl,yr⟩ B c W (HW.o.keep hB) iD.o rfl (eI.o.keep hB)
  generalize zbq laws s ⟨4,dy,pl,fr,ts,cl,yr⟩=X at*;have ct:=zHi aW;clear aW dC HF iD d9 eu eI ew;obtain⟨s',er⟩:=X;unfold Deed.v;simp only;go_enter Tryz.func91,Tryz.ntmps91
  go_upto_region 3 with fail
  go_quiet (fail)
  go_upto_region 7 with fail
  refine wp_region_held_drew (S:=(fun w'=>w'.cell? ⟨w.heap.size,0,none⟩=some (.int .i64 4)/\w'.cell? ⟨w.heap.size,1,none⟩=some (.int .i64 dy)/\w'.cell? ⟨w.heap.size,2,none⟩=some (.string pl)/\w'.cell? ⟨w.heap.size,3,none⟩=some (.string fr)/\w'.cell? ⟨w.heap.size,4,none⟩=some (.slice B ts.length c)/\w'.cell? ⟨w.heap.size,5,none⟩=some (.int .i64 cl)/\w'.cell? ⟨w.heap.size,6,none⟩=some (.int .i64 yr))) Mcz ?hS4 ?hrest4
  case hS4=>refine⟨?_,?_,?_,?_,?_,?_,?_⟩<;>(simp[go_sem];done)
  intro hHeld;refine TkH 0 ?_;refine TkH 1 ?_;refine TkH 2 ?_;refine TkH 3 ?_;refine OnH 4 fun K hK=>?_
  go_simp
  refine(ct.o _ Bw).mono ?_;rintro e wq ⟨rfl,hW,hB,hK⟩;have h0:=((hK w.heap.size _ _ (zar _ _ _ rfl)).trans (zar _ _ _ rfl))
  obtain⟨Bk',d',c',p',wl',r',mv',tv',ps',ed,cD,gu,fP⟩:=id hW;obtain⟨nv,nR,nQ,nh⟩:=yH4 hW cD hB h0;have d0:wq.cell? ⟨w.heap.size,0,none⟩=some (.int .i64 4):=Mc2;exact Mb2
 ·have aW:∀W,Below w.heap.size w W->Calls Tryz.prog 126 #[.pointer (some ⟨b,0,none⟩),.agg #[.int .i64 5,.int .i64 dy,.string pl,.string fr,.slice B ts.length c,.int .i64 cl,.int .i64 yr]] W (zbH base b (zbq laws s ⟨5,dy,pl,fr,ts,cl,yr⟩) last k W):=fun W hB=>by
   rw[show zbq laws s ⟨5,dy,pl,fr,ts,cl,yr⟩=zb7 s ⟨5,dy,pl,fr,ts,cl,yr⟩from by simp[zbq]];exact zlA base b s last k ⟨5,dy,pl,fr,ts,cl,yr⟩ B c W (HW.o.keep hB) iD.o rfl ay (eI.o.keep hB)
  generalize zbq laws s ⟨5,dy,pl,fr,ts,cl,yr⟩=X at*;have ct:=zHi aW;clear aW dC HF iD d9 eu eI ew;obtain⟨s',er⟩:=X;unfold Deed.v;simp only;go_enter Tryz.func91,Tryz.ntmps91
  go_upto_region 3 with fail
  go_quiet (fail)
  go_upto_region 7 with fail
  refine wp_region_held_drew (S:=(fun w'=>w'.cell? ⟨w.heap.size,0,none⟩=some (.int .i64 5)/\w'.cell? ⟨w.heap.size,1,none⟩=some (.int .i64 dy)/\w'.cell? ⟨w.heap.size,2,none⟩=some (.string pl)/\w'.cell? ⟨w.heap.size,3,none⟩=some (.string fr)/\w'.cell? ⟨w.heap.size,4,none⟩=some (.slice B ts.length c)/\w'.cell? ⟨w.heap.size,5,none⟩=some (.int .i64 cl)/\w'.cell? ⟨w.heap.size,6,none⟩=some (.int .i64 yr))) Mcz ?hS5 ?hrest5
  case hS5=>refine⟨?_,?_,?_,?_,?_,?_,?_⟩<;>(simp[go_sem];done)
  intro hHeld;refine TkH 0 ?_;refine TkH 1 ?_;refine TkH 2 ?_;refine TkH 3 ?_;refine OnH 4 fun K hK=>?_
  go_simp
  refine(ct.o _ Bw).mono ?_;rintro e wq ⟨rfl,hW,hB,hK⟩;have h0:=((hK w.heap.size _ _ (zar _ _ _ rfl)).trans (zar _ _ _ rfl))
  obtain⟨Bk',d',c',p',wl',r',mv',tv',ps',ed,cD,gu,fP⟩:=id hW;obtain⟨nv,nR,nQ,nh⟩:=yH4 hW cD hB h0;have d0:wq.cell? ⟨w.heap.size,0,none⟩=some (.int .i64 5):=Mc2;exact Mb2
 ·have aW:∀W,Below w.heap.size w W->Calls Tryz.prog 126 #[.pointer (some ⟨b,0,none⟩),.agg #[.int .i64 6,.int .i64 dy,.string pl,.string fr,.slice B ts.length c,.int .i64 cl,.int .i64 yr]] W (zbH base b (zbq laws s ⟨6,dy,pl,fr,ts,cl,yr⟩) last k W):=fun W hB=>by
   rw[show zbq laws s ⟨6,dy,pl,fr,ts,cl,yr⟩=zcE s ⟨6,dy,pl,fr,ts,cl,yr⟩from by simp[zbq]];exact child_any base b s last k ⟨6,dy,pl,fr,ts,cl,yr⟩ B c W (HW.o.keep hB) iD.o rfl ay (eI.o.keep hB) Mcy
  generalize zbq laws s ⟨6,dy,pl,fr,ts,cl,yr⟩=X at*;have ct:=zHi aW;clear aW dC HF iD d9 eu eI ew;obtain⟨s',er⟩:=X;unfold Deed.v;simp only;go_enter Tryz.func91,Tryz.ntmps91
  go_upto_region 3 with fail
  go_quiet (fail)
  go_upto_region 7 with fail
  refine wp_region_held_drew (S:=(fun w'=>w'.cell? ⟨w.heap.size,0,none⟩=some (.int .i64 6)/\w'.cell? ⟨w.heap.size,1,none⟩=some (.int .i64 dy)/\w'.cell? ⟨w.heap.size,2,none⟩=some (.string pl)/\w'.cell? ⟨w.heap.size,3,none⟩=some (.string fr)/\w'.cell? ⟨w.heap.size,4,none⟩=some (.slice B ts.length c)/\w'.cell? ⟨w.heap.size,5,none⟩=some (.int .i64 cl)/\w'.cell? ⟨w.heap.size,6,none⟩=some (.int .i64 yr))) Mcz ?hS6 ?hrest6
  case hS6=>refine⟨?_,?_,?_,?_,?_,?_,?_⟩<;>(simp[go_sem];done)
  intro hHeld;refine TkH 0 ?_;refine TkH 1 ?_;refine TkH 2 ?_;refine TkH 3 ?_;refine OnH 4 fun K hK=>?_
  go_simp
  refine(ct.o _ Bw).mono ?_;rintro e wq ⟨rfl,hW,hB,hK⟩;have h0:=((hK w.heap.size _ _ (zar _ _ _ rfl)).trans (zar _ _ _ rfl))
  obtain⟨Bk',d',c',p',wl',r',mv',tv',ps',ed,cD,gu,fP⟩:=id hW;obtain⟨nv,nR,nQ,nh⟩:=yH4 hW cD hB h0;have d0:wq.cell? ⟨w.heap.size,0,none⟩=some (.int .i64 6):=Mc2;exact Mb2
 ·have aW:∀W,Below w.heap.size w W->Calls Tryz.prog 126 #[.pointer (some ⟨b,0,none⟩),.agg #[.int .i64 7,.int .i64 dy,.string pl,.string fr,.slice B ts.length c,.int .i64 cl,.int .i64 yr]] W (zbH base b (zbq laws s ⟨7,dy,pl,fr,ts,cl,yr⟩) last k W):=fun W hB=>by
   rw[show zbq laws s ⟨7,dy,pl,fr,ts,cl,yr⟩=zdq s ⟨7,dy,pl,fr,ts,cl,yr⟩from by simp[zbq]];exact marry_any base b s last k ⟨7,dy,pl,fr,ts,cl,yr⟩ B c W (HW.o.keep hB) iD.o rfl ay (eI.o.keep hB) Mcy
  generalize zbq laws s ⟨7,dy,pl,fr,ts,cl,yr⟩=X at*;have ct:=zHi aW;clear aW dC HF iD d9 eu eI ew;obtain⟨s',er⟩:=X;unfold Deed.v;simp only;go_enter Tryz.func91,Tryz.ntmps91
  go_upto_region 3 with fail
  go_quiet (fail)
  go_upto_region 7 with fail
  refine wp_region_held_drew (S:=(fun w'=>w'.cell? ⟨w.heap.size,0,none⟩=some (.int .i64 7)/\w'.cell? ⟨w.heap.size,1,none⟩=some (.int .i64 dy)/\w'.cell? ⟨w.heap.size,2,none⟩=some (.string pl)/\w'.cell? ⟨w.heap.size,3,none⟩=some (.string fr)/\w'.cell? ⟨w.heap.size,4,none⟩=some (.slice B ts.length c)/\w'.cell? ⟨w.heap.size,5,none⟩=some (.int .i64 cl)/\w'.cell? ⟨w.heap.size,6,none⟩=some (.int .i64 yr))) Mcz ?hS7 ?hrest7
  case hS7=>refine⟨?_,?_,?_,?_,?_,?_,?_⟩<;>(simp[go_sem];done)
  intro hHeld;refine TkH 0 ?_;refine TkH 1 ?_;refine TkH 2 ?_;refine TkH 3 ?_;refine OnH 4 fun K hK=>?_
  go_simp
  refine(ct.o _ Bw).mono ?_;rintro e wq ⟨rfl,hW,hB,hK⟩;have h0:=((hK w.heap.size _ _ (zar _ _ _ rfl)).trans (zar _ _ _ rfl))
  obtain⟨Bk',d',c',p',wl',r',mv',tv',ps',ed,cD,gu,fP⟩:=id hW;obtain⟨nv,nR,nQ,nh⟩:=yH4 hW cD hB h0;have d0:wq.cell? ⟨w.heap.size,0,none⟩=some (.int .i64 7):=Mc2;exact Mb2
 ·have aW:∀W,Below w.heap.size w W->Calls Tryz.prog 125 #[.pointer (some ⟨b,0,none⟩),.slice LA laws.length lc,.agg #[.int .i64 8,.int .i64 dy,.string pl,.string fr,.slice B ts.length c,.int .i64 cl,.int .i64 yr]] W (zbH base b (zbq laws s ⟨8,dy,pl,fr,ts,cl,yr⟩) last k W):=fun W hB=>by
   rw[show zbq laws s ⟨8,dy,pl,fr,ts,cl,yr⟩=zdH laws s ⟨8,dy,pl,fr,ts,cl,yr⟩from by simp[zbq]];exact death_any base b s last k last laws LA lc ⟨8,dy,pl,fr,ts,cl,yr⟩ B c W (HW.o.keep hB) dC.o bI rfl ew.o fF (eu.o.keep hB) Mcy Mcy Mcy (by simpa using Nat.le_trans cG Mcy) HF.o.2.1
  generalize zbq laws s ⟨8,dy,pl,fr,ts,cl,yr⟩=X at*;have ct:=zHi aW;clear aW dC HF iD d9 eu eI ew;obtain⟨s',er⟩:=X;unfold Deed.v;simp only;go_enter Tryz.func91,Tryz.ntmps91
  go_upto_region 3 with fail
  go_quiet (fail)
  go_upto_region 18 with
   (go_at_call 125
    go_must(refine(ct.o _ Bw).mono ?_)
    rintro e wq ⟨rfl,hW,hB,hK⟩;have h0:=((hK w.heap.size _ _ (zar _ _ _ rfl)).trans (zar _ _ _ rfl))
    obtain⟨Bk',d',c',p',wl',r',mv',tv',ps',ed,cD,gu,fP⟩:=id hW;obtain⟨nv,nR,nQ,nh⟩:=yH4 hW cD hB h0
    clear hW hB hK h0 gu fP cD)
  exact Md
theorem zev{W:World}{b:Nat}{K V:Type}{ek:K->Value}{ev:V->Value}(h:W.heap[b]?=some (.map #[] 0)):MapS W b ek ev ([]:List (K×V)):=⟨#[],0,h,rfl,by simp,by simp⟩
def NewPost(w:World)(e:Ending)(w':World):Prop:=
 e=.returned (.agg #[.map (some (w.heap.size+1)),.map (some (w.heap.size+1+1)),.map (some (w.heap.size+1+1+1)),.slice none 0 0,.map (some (w.heap.size+1+1+1+1)),.map (some (w.heap.size+1+1+1+1+1))])/\
 w'.heap.size=w.heap.size+6/\(∀k,1<=k->k<=5->w'.heap[w.heap.size+k]?=some (.map #[] 0))/\Below w.heap.size w w'
theorem zjo{fn:Func}{p:Tmp}(h:fn.results= #[.cell p 89])(tmps:Array Value)(w:World)(B:Nat)(x0 x1 x2 x3 x4 x5:Value)(hp:tmps.getD p undef=.pointer (some ⟨B,0,none⟩))
 (hx:w.heap[B]?=some (.cells #[x0,x1,x2,x3,x4,x5] 89)):(results fn tmps).run Tryz.prog w=.ok (.agg #[x0,x1,x2,x3,x4,x5]) w:=by
 obtain⟨h0,h1,h2,h3,h4,h5⟩:=cF6 hx;exact Ma5
theorem zkE(w:World):Calls Tryz.prog 88 #[] w (NewPost w):=by
 have bO:= @run_makeMap Tryz.prog;go_enter Tryz.func88,Tryz.ntmps88
 go_wp2_with fail
 refine bodyPost_ret (v:=.agg #[.map (some (w.heap.size+1)),.map (some (w.heap.size+1+1)),.map (some (w.heap.size+1+1+1)),.slice none 0 0,.map (some (w.heap.size+1+1+1+1)),.map (some (w.heap.size+1+1+1+1+1))]) ?_ rfl ?_
 ·refine zjo rfl _ _ w.heap.size _ _ _ _ _ _ rfl ?_;exact zal (zal (zal (zal (zal (zar _ _ _ rfl)))))
 ·refine⟨rfl,by simp,fun k h1 h2=>?_,Bw⟩;obtain rfl|rfl|rfl|rfl|rfl:k=1\/k=2\/k=3\/k=4\/k=5:=by omega
  ·exact zal (zal (zal (zal (zar _ _ _ McB))))
  ·exact zal (zal (zal (zar _ _ _ McB)))
  ·exact zal (zal (zar _ _ _ McB))
  ·exact zal (zar _ _ _ McB)
  ·exact zar _ _ _ McB
theorem wld_new{base:Nat}{w W:World}(hb:base<=w.heap.size)(hs:w.heap.size+6=W.heap.size)(hm:∀k,1<=k->k<=5->W.heap[w.heap.size+k]?=some (.map #[] 0)):
 WldAt base (W.alloc (.cells #[.map (some (w.heap.size+1)),.map (some (w.heap.size+1+1)),.map (some (w.heap.size+1+1+1)),.slice none 0 0,.map (some (w.heap.size+1+1+1+1)),.map (some (w.heap.size+1+1+1+1+1)),.slice none 0 0,.int .i64 0,.int .i64 0] 92)) W.heap.size zb3 0 0:=by
 have hk:∀k,1<=k->k<=5->(W.alloc (.cells #[.map (some (w.heap.size+1)),.map (some (w.heap.size+1+1)),.map (some (w.heap.size+1+1+1)),.slice none 0 0,.map (some (w.heap.size+1+1+1+1)),.map (some (w.heap.size+1+1+1+1+1)),.slice none 0 0,.int .i64 0,.int .i64 0] 92)).heap[w.heap.size+k]?=some (.map #[] 0):=fun k h1 h2=>(Below.heap_alloc _ _ _ Mcy).trans (hm k h1 h2)
 refine⟨[],w.heap.size+1,w.heap.size+2,w.heap.size+3,w.heap.size+4,w.heap.size+5,.slice none 0 0,.slice none 0 0,[],by omega,zar _ _ _ rfl,⟨by simp,⟨by omega,by omega,by omega,by omega,by omega⟩,zev (hk 1 Mcy Mcy),⟨[],[],zev (hk 2 Mcy Mcy),zev (hk 3 Mcy Mcy),fun n=> .inl ⟨rfl,rfl⟩,fun n=> .inl ⟨rfl,rfl⟩,rfl,by simp,by simp,by simp⟩,OwnS.nil,⟨[],zev (hk 4 Mcy Mcy),fun n=> .inl ⟨rfl,rfl⟩⟩,zev (hk 5 Mcy Mcy)⟩,⟨OwnS.nil,rfl,by simp,fun i T g h=>by simp at h⟩⟩
section
variable {s:St} {d:Deed}
theorem grant_err:(zcO s d).2≠0->(zcO s d).1=s:=by
 unfold zcO;exact MN
theorem zlP:(zbp s d).2≠0->(zbp s d).1=s:=by
 unfold zbp;exact MN
theorem zkF:(zaZ s d).2≠0->(zaZ s d).1=s:=by
 unfold zaZ;exact MN
theorem renew_err:(zcZ s d).2≠0->(zcZ s d).1=s:=by
 unfold zcZ;exact MN
theorem will_err:(zgK s d).2≠0->(zgK s d).1=s:=by
 unfold zgK;exact MN
theorem zlQ:(zb7 s d).2≠0->(zb7 s d).1=s:=by
 unfold zb7;exact MN
theorem child_err:(zcE s d).2≠0->(zcE s d).1=s:=by
 unfold zcE;exact MN
theorem marry_err:(zdq s d).2≠0->(zdq s d).1=s:=by
 unfold zdq;exact MN
theorem death_err{laws:List Law}:(zdH laws s d).2≠0->(zdH laws s d).1=s:=by
 unfold zdH;exact MN
theorem take_err{laws:List Law}(h:(zbq laws s d).2≠0):(zbq laws s d).1=s:=by
 revert h
 unfold zbq;split
 ·exact grant_err
 split
 ·exact zlP
 split
 ·exact zkF
 split
 ·exact renew_err
 split
 ·exact will_err
 split
 ·exact zlQ
 split
 ·exact child_err
 split
 ·exact marry_err
 exact death_err
theorem takeQ_err{laws:List Law}{co:Nat}{last:Int}(h:(zeu laws s co last d).2≠0):(zeu laws s co last d).1=s:=by
 revert h
 unfold zeu;split
 ·exact fun _=>rfl
 split
 ·exact fun _=>rfl
 exact take_err
theorem next_take{laws:List Law}{co:Nat}{last:Int}(h:zaH d=0):zck laws s co last d=zeu laws s co last d:=by
 unfold zck zeu;rw[h];rfl
end
noncomputable def zew (laws:List Law) (ds:List Deed) (upto:Int):St×Nat×Int:=
 if zaD laws != 0 then(zb3,0,zaD laws)else zfd laws upto ds zb3 0 0
def zoX(w:World)(R:St×Nat×Int)(e:Ending)(w':World):Prop:=
 ∃base b la co,e=.returned (.tuple #[.pointer (some ⟨b,0,none⟩),.int .i64 R.2.1,.int .i64 R.2.2])/\w.heap.size<=base/\WldAt base w' b R.1 la co/\Below w.heap.size w w'/\(∃last,GoodSt R.1 last)/\∃k,k<=60/\FewS k R.1
theorem takeQ_ok{laws:List Law}{s:St}{k:Nat}{last:Int}{d:Deed}(h:(zeu laws s k last d).2=0)(hd:OkD d)(hG:GoodSt s last)(hF:FewS k s)(bz:zaD laws=0):k<60/\GoodSt (zeu laws s k last d).1 d.day/\FewS (k+1) (zeu laws s k last d).1:=by
 unfold zeu at h⊢;split at h
 ·simp at h
 rename_i h1
 split at h
 ·simp at h
 rename_i h2
 rw[if_neg h1,if_neg h2];have hk:k<60:=Mc4;have hl:last<=d.day:=Mek;have ht:zbq laws s d=((zbq laws s d).1,0):=Prod.ext rfl h;exact⟨hk,zgT hG hd hl bz ht,zkC hF hk hG hd hl bz ht⟩
theorem zjM(laws:List Law)(ds:List Deed)(upto:Int)(LA:Option Addr)(n nc:Nat)(DA:Option Addr)(m mc:Nat)(w:World)(hR:RightsIn w laws ds LA n nc DA m mc)(hF:FormsIn w)(hL:LensIn w)(hO:∀d∈ds,zdt d):
 Calls Tryz.prog 63 #[.agg #[.slice LA n nc,.slice DA m mc],.int .i64 upto] w (zoX w (zew laws ds upto)):=by
 obtain⟨R,hR⟩:∃R,R=zew laws ds upto:=⟨_,rfl⟩
 rw[<-hR];unfold zew at hR;have HR:=zHi hR;clear hR;obtain⟨rfl,rfl,CZ,nE,ii,ke⟩:=hR;obtain⟨HF,HL,HO,eu,fU⟩:=yH5 hF hL hO ii ke;clear hF hL hO ii ke;go_enter Tryz.func63,Tryz.ntmps63
 go_upto_region 2 with(go_at_call 88;go_must(refine(zkE _).mono ?_);rintro e wq ⟨rfl,n1,n2,n3⟩;obtain⟨N1,N2,N3⟩:=yH3 n1 n2 n3;clear n1 n2 n3)
 have cG:=wld_new (base:=w.heap.size+1) (w:=w.alloc (.cells #[.slice LA laws.length nc,.slice DA ds.length mc] 25)) (W:=wq) McB N1.o.symm N2.o;have hsz:=N1.o;simp only[World.size_alloc]at cG hsz;have ba:Below w.heap.size w wq:=Below.trans (zad (Below.refl _ _) _) (N3.o.mono McB);have gV:wq.heap[w.heap.size]?=some (.cells #[.slice LA laws.length nc,.slice DA ds.length mc] 25):=(N3.o.block _ McB).trans (zar _ _ _ rfl);have dg:=zab gV;have bG:∀o,Below w.heap.size w (wq.alloc o):=fun o=>zad ba _ Mcy
 have zI:∀o,(wq.alloc o).heap[w.heap.size]?=some (.cells #[.slice LA laws.length nc,.slice DA ds.length mc] 25):=fun o=>zal gV
 obtain⟨b,hb⟩:∃b,b=wq.heap.size:=⟨_,rfl⟩
 rw[<-hb]at cG⊢;have h2:=bG (.cells #[.map (some (w.heap.size+1+1)),.map (some (w.heap.size+1+1+1)),.map (some (w.heap.size+1+1+1+1)),.slice none 0 0,.map (some (w.heap.size+1+1+1+1+1)),.map (some (w.heap.size+1+1+1+1+1+1)),.slice none 0 0,.int .i64 0,.int .i64 0] 92);have eE:=zI (.cells #[.map (some (w.heap.size+1+1)),.map (some (w.heap.size+1+1+1)),.map (some (w.heap.size+1+1+1+1)),.slice none 0 0,.map (some (w.heap.size+1+1+1+1+1)),.map (some (w.heap.size+1+1+1+1+1+1)),.slice none 0 0,.int .i64 0,.int .i64 0] 92);clear bG zI ba gV dg hsz N1 N2 N3 hb;generalize wq.alloc _=W2 at*;obtain⟨vt,aJ,au⟩:=yH3 cG h2 eE;have aV:=zab eE;obtain⟨x0,x1⟩:=cF2 eE;have iC:=zHi (fun W (hB:Below W2.heap.size W2 W)=>zjg laws LA laws.length nc W rfl (eu.o.keep (h2.trans (hB.mono (Nat.le_of_lt aV)))));clear cG h2 eE;by_cases bz:zaD laws=0
 ·rw[bz]at iC HR;have ew:=zHi bz;clear bz;go_upto_block 0 with(go_at_call 89;go_must(refine(iC.o _ Bw).mono ?_);rintro e wq ⟨rfl,z,rfl⟩)
  clear iC x0 x1;go_cut [9,10,11,25]from 26 (fun _ _ _ _ W=>∃s,Hid (R=(s,ds.length,0))/\∃la co,WldAt (w.heap.size+1) W b s la co/\Below w.heap.size w W/\W.heap[w.heap.size]?=some (.cells #[.slice LA laws.length nc,.slice DA ds.length mc] 25)/\(∃last,GoodSt s last)/\∃k,k<=60/\FewS k s)
  case first=>
   go_wp2_with fail
   go_loopw [25] (fun i wr=>∃(k:Nat) (s:St) (last:Int),k<=ds.length/\i=.int .i64 k/\Hid (R=zfd laws upto (ds.drop k) s k last)/\Hid (WldAt (w.heap.size+1) wr b s last k)/\Hid (GoodSt s last)/\Hid (FewS k s)/\k<=60/\Below w.heap.size w wr/\wr.heap[w.heap.size]?=some (.cells #[.slice LA laws.length nc,.slice DA ds.length mc] 25)) (fun i _=>ds.length-(intOf i).toNat)
   case atStart=>
    refine⟨0,zb3,0,Nat.zero_le _,rfl,?_,vt.o.keep (n:=W2.heap.size) Bw,zeV 0,zg7,by omega,?_,?_⟩
    ·show _=_;rw[HR.o];simp
    ·exact aJ.o.trans (Below.mono (B:=W2.heap.size) Bw (Nat.le_of_lt aV))
    ·exact zbD au.o
   case round=>
    obtain⟨k,s,last,hk,rfl,HX,HW,HG,ti,eW,hB,hX⟩:=hrel;clear vt aJ au HR;obtain x0:=cF1 hX;have kx:=zab hX;obtain⟨HB,Ew⟩:=yH2 hB hX;by_cases ae:k<ds.length
    ·obtain⟨db,off,cs,hA,hdb,⟨B,c,ay,bh,hS⟩,hc⟩:=(fU.o.keep zcc hB).at ae;subst hA bh;have aq:=HX.o;rw[List.drop_eq_getElem_cons ae,zfd,<-List.drop_eq_getElem_cons ae]at aq;have bE:=HO.o ds[k] (List.getElem_mem ae);have tO:∀W,Below wr.heap.size wr W->_:=fun W hW=>zjh ds[k] B c W (HF.o.keep (hB.trans (hW.mono (Nat.le_of_lt kx)))) bE ay (hS.keep hW)
     have iQ:∀W,Below wr.heap.size wr W->OkD ds[k]->_:=fun W hW hd=>take_any (w.heap.size+1) b s k last laws LA nc ds[k] B c W (HW.o.keep hW) HG.o ti.o hd ew.o (HL.o.keep (hB.trans (hW.mono (Nat.le_of_lt kx)))) (eu.o.keep (hB.trans (hW.mono (Nat.le_of_lt kx)))) ay (hS.keep hW)
     rw[zkD]at tO;obtain⟨ak,pa,aB,lF,kR⟩:=yH5 ae (show k+(ds.drop k).length=ds.length by rw[List.length_drop];omega) aq tO iQ;generalize ds[k]=d at*;clear aq bE tO iQ hX hB hS;have cg:OkD d->(zeu laws s k last d).2=0->k<60/\GoodSt (zeu laws s k last d).1 d.day/\FewS (k+1) (zeu laws s k last d).1:=fun hd h=>takeQ_ok h hd HG.o ti.o ew.o
     have rV:zaH d=0->OkD d:=zeU;have Ad:=fun h=>next_take (laws:=laws) (s:=s) (co:=k) (last:=last) (d:=d) h
     obtain⟨kd,dy,pl,fr,ts,cl,yr⟩:=d;have i0:wr.cell? ⟨db,off+k*7,none⟩=some (.int .i64 kd):=hc 0 _ rfl;have i1:wr.cell? ⟨db,off+k*7+1,none⟩=some (.int .i64 dy):=hc 1 _ rfl;have i2:wr.cell? ⟨db,off+k*7+2,none⟩=some (.string pl):=hc 2 _ rfl;have i3:wr.cell? ⟨db,off+k*7+3,none⟩=some (.string fr):=hc 3 _ rfl;have i4:wr.cell? ⟨db,off+k*7+4,none⟩=some (.slice B ts.length c):=hc 4 _ rfl;have i5:wr.cell? ⟨db,off+k*7+5,none⟩=some (.int .i64 cl):=hc 5 _ rfl;have i6:wr.cell? ⟨db,off+k*7+6,none⟩=some (.int .i64 yr):=hc 6 _ rfl;have ar:(k:Int)<(ds.length:Int):=Mcy;have aQ:(0:Int)<=(k:Int):=Mcy;have Kx:(k:Int)<=(mc:Int):=Mcy;have lj:w.heap.size≠wr.heap.size:=Mcy;unfold Deed.v at kR;simp only at Ad cg kR aB;clear hc;by_cases hce:zaH ⟨kd,dy,pl,fr,ts,cl,yr⟩=0
     ·have Dd:=rV hce;have aq:=aB.o;rw[hce,Ad hce]at aq;rw[hce]at lF;have sn:=cg Dd;have kX:=fun h=>takeQ_err (laws:=laws) (s:=s) (d:=⟨kd,dy,pl,fr,ts,cl,yr⟩) (co:=k) (last:=last) h
      have qM:=zHi (fun W hW=>kR.o W hW Dd);clear aB kR Ad cg rV Dd;generalize zeu laws s k last ⟨kd,dy,pl,fr,ts,cl,yr⟩=x at*;generalize zaH ⟨kd,dy,pl,fr,ts,cl,yr⟩=ce at*;obtain⟨s',er⟩:=x;by_cases kj:upto<dy
      ·have ck:Hid (R=(s,ds.length,0)):=by
        show _=_;rw[aq,if_pos (by simp[kj]),pa.o]
       clear aq sn kX qM pa;go_wp2_with (go_at_call 90;go_must(refine(lF.o _ Bw).mono ?_);rintro e wq ⟨rfl,z,rfl⟩)
       go_meet
       exact⟨s,ck.o,last,k,HW.o.keep (n:=wr.heap.size) Bw,HB.o.trans (Below.mono (B:=wr.heap.size) Bw Mcy),by repeat(first|assumption|with_reducible refine zal ?_|with_reducible refine zbD ?_|with_reducible refine J_ne Mcy ?_),⟨last,HG.o⟩,k,eW,ti.o⟩
      ·have d8:R=if(er != 0)=true then(s,k,er)else zfd laws upto (ds.drop (k+1)) s' (k+1) dy:=by rw[aq,if_neg (by simp[kj])]
       have eJ:=zHi d8;have wE:=lF.o;clear aq d8 pa;by_cases h0:er=0
       ·subst h0;obtain⟨sm,tC,EV⟩:=sn rfl;obtain⟨gH,kH⟩:=yH2 tC EV;have oY:=wrap_k (k:=k) (Nat.lt_trans sm McA);have Dy:=wrap_k2 (k:=k) (Nat.lt_trans sm McA);clear sn kX tC EV wE
        go_wp2_with (first
         |(go_at_call 90;go_must(refine(lF.o _ Bw).mono ?_);rintro e wq ⟨rfl,z,rfl⟩)
         |(go_at_call 91
           go_must(refine(qM.o _ Bw).mono ?_)
           rintro e wq ⟨rfl,t1,t2⟩;simp only[if_true]at t1;have T1:=zHi t1;have bk:Below w.heap.size w wq:=(HB.o.trans (Below.mono (B:=wr.heap.size) Bw (Nat.le_of_lt kx))).trans (t2.mono (Nat.le_succ _));have GR:=(t2.block w.heap.size (Nat.lt_succ_self _)).trans (show _=some (.cells #[.slice LA laws.length nc,.slice (some ⟨db,off,none⟩) ds.length mc] 25) from by have hX:=Ew.o;repeat(first|assumption|with_reducible refine zal ?_|with_reducible refine zbD ?_|with_reducible refine J_ne Mcy ?_));obtain⟨b8,tu⟩:=yH2 bk GR
           clear t1 t2 bk GR))
        go_round
        case rel=>
         clear oY Dy;refine⟨k+1,s',dy,ak.o,by go_num,?_,T1.o,gH.o,kH.o,sm,b8.o,tu.o⟩;show _=_;rw[eJ.o];simp
        case measure=>clear oY Dy;have:=ak.o;simp only[intOf];omega
       ·have hs:=kX h0;simp only at hs;subst hs;have ck:Hid (R=(s',k,er)):=by
         show _=_;rw[eJ.o,if_pos MdC]
        clear sn kX eJ wE
        go_wp2_with (first
         |(go_at_call 90;go_must(refine(lF.o _ Bw).mono ?_);rintro e wq ⟨rfl,z,rfl⟩)
         |(go_at_call 91
           go_must(refine(qM.o _ Bw).mono ?_)
           rintro e wq ⟨rfl,t1,t2⟩;have T1:=zHi t1;have bk:Below w.heap.size w wq:=(HB.o.trans (Below.mono (B:=wr.heap.size) Bw (Nat.le_of_lt kx))).trans (t2.mono (Nat.le_succ _));have b8:=zHi bk
           clear t1 t2 bk))
        go_ret3
        rw[ck.o];exact⟨w.heap.size+1,b,_,_,rfl,by omega,T1.o,b8.o,⟨last,HG.o⟩,k,eW,ti.o⟩
     ·have ai:(zck laws s k last ⟨kd,dy,pl,fr,ts,cl,yr⟩)=(s,zaH ⟨kd,dy,pl,fr,ts,cl,yr⟩):=by
       unfold zck;rw[if_pos (by simpa using hce)]
      have aq:=aB.o;rw[ai]at aq;generalize zaH ⟨kd,dy,pl,fr,ts,cl,yr⟩=ce at*;have ck:Hid (R=(s,k,ce)):=by
       show _=_;rw[aq,if_neg (by simp[hce]),if_pos (by simpa using hce)]
      clear aq ai aB kR Ad cg rV pa;go_wp2_with (go_at_call 90;go_must(refine(lF.o _ Bw).mono ?_);rintro e wq ⟨rfl,z,rfl⟩)
      go_ret3
      rw[ck.o];exact⟨w.heap.size+1,b,last,k,rfl,by omega,HW.o.keep (n:=wr.heap.size) Bw,HB.o.trans (Below.mono (B:=wr.heap.size) Bw Mcy),⟨last,HG.o⟩,k,eW,ti.o⟩
    ·have ar:¬(k:Int)<(ds.length:Int):=Mcy;have hx:=HX.o;rw[List.drop_eq_nil_of_le Mcy,zfd]at hx;have oJ:k=ds.length:=Mcy;have ck:Hid (R=(s,ds.length,0)):=by show _=_;rw[hx,oJ]
     clear hx oJ hX hB;go_wp2_with fail
     go_meet
     exact⟨s,ck.o,last,k,HW.o,HB.o,Ew.o,⟨last,HG.o⟩,k,eW,ti.o⟩
  case rest=>
   obtain⟨s,ck,la,co,hW,hB,hX,hg,hf⟩:=hcut;obtain⟨-,x1⟩:=cF2 hX;have kx:=zab hX;obtain⟨HW,HB⟩:=yH2 hW hB;clear hW hB hX;go_upto_region 15 with fail
   go_quiet (fail)
   go_wp2_with fail
   go_ret3
   rw[ck.o];exact⟨w.heap.size+1,b,la,co,rfl,by omega,HW.o.keep (n:=wc.heap.size) Bw,HB.o.trans (Below.mono (B:=wc.heap.size) Bw Mcy),hg,hf⟩
 ·generalize zaD laws=er at*;have ai:(er != 0)=true:=by simpa using bz
  have ck:Hid (R=(zb3,0,er)):=by show _=_;rw[HR.o,if_pos ai]
  clear HR;go_wp2_with (go_at_call 89;go_must(refine(iC.o _ Bw).mono ?_);rintro e wq ⟨rfl,z,rfl⟩)
  go_ret3
  rw[ck.o];exact⟨w.heap.size+1,b,0,0,rfl,by omega,vt.o.keep (n:=W2.heap.size) Bw,aJ.o.trans (Below.mono (B:=W2.heap.size) Bw Mcy),⟨0,zeV 0⟩,0,by omega,zg7⟩
theorem ifStr_any(g:Nat)(lb:Array Value)(eg:∀args w,(callFunc g args).run Tryz.prog w=.ok (.enter g args) w)(p:ByteArray->Bool)(A:Option Addr)(c:Nat)(xs:List ByteArray)(w:World)(hl:xs.length<=100000)
 (hS:Sl w 1 sC A xs)(hp:zeT g lb (fun s=> .string s) p xs w):Calls Tryz.prog 86 #[.slice A xs.length c,.func (.func g) #[] lb] w (fun e w'=>∃i:Int,e=.returned (.int .i64 i)/\decide (0<=i)=xs.any p/\Below w.heap.size w w'):=by
 obtain⟨HS,HP⟩:=yH2 hS hp;clear hS hp;go_enter Tryz.func86,Tryz.ntmps86
 go_wp2_with fail
 go_loopw [8] (fun i wr=>∃k:Nat,k<=xs.length/\i=.int .i64 k/\Hid (xs.any p=(xs.drop k).any p)/\Below w.heap.size w wr) (fun i _=>xs.length-(intOf i).toNat)
 case atStart=>exact⟨0,Nat.zero_le _,rfl,by show _=_;rw[List.drop_zero],Below.refl _ _⟩
 case round=>
  obtain⟨k,hk,rfl,HX,hB⟩:=hrel;have HB:=zHi hB;by_cases ae:k<xs.length
  ·obtain⟨b,off,rfl,hb,hc⟩:=(HS.o.keep hB).at ae;have i0:wr.cell? ⟨b,off+k,none⟩=some (.string xs[k]):=Mdr;have hx:=HX.o;rw[List.drop_eq_getElem_cons ae,List.any_cons]at hx;have bH:∀W,Below w.heap.size w W->Calls Tryz.prog g (#[.string xs[k]]++lb) W fun e w'=>e=.returned (.bool (p xs[k]))/\Below w.heap.size w w':=fun W hW=>HP.o xs[k] (List.getElem_mem ae) W hW
   generalize xs[k]=x at*;generalize hpx:p x=px at*;have au:=zHi hx;have ar:(k:Int)<(xs.length:Int):=Mcy;have aQ:(0:Int)<=(k:Int):=Mcy;obtain⟨ak,ct⟩:=yH2 ae bH;clear hc hx bH HX hpx;cases px
   ·go_wp2_with (go_at_fn g;refine(ct.o _ HB.o).mono ?_;rintro e w' ⟨rfl,h1⟩)
    go_round
    case rel=>exact⟨k+1,ak.o,by go_num,by show _=_;rw[au.o];simp,h1⟩
    case measure=>have:=ak.o;simp only[intOf];omega
   ·go_wp2_with (go_at_fn g;refine(ct.o _ HB.o).mono ?_;rintro e w' ⟨rfl,h1⟩)
    go_ret
    exact⟨k,rfl,by rw[au.o];simp,h1⟩
  ·have ar:¬(k:Int)<(xs.length:Int):=Mcy;have hx:=HX.o;rw[List.drop_eq_nil_of_le Mcy]at hx;have au:=zHi hx;clear hx hB;go_wp2_with fail
   go_ret
   exact⟨-1,rfl,by rw[au.o];simp,HB.o⟩
theorem zlR(g:Nat)(lb:Array Value)(eg:∀args w,(callFunc g args).run Tryz.prog w=.ok (.enter g args) w)(p:ByteArray->Bool)(A:Option Addr)(n c:Nat)(xs:List ByteArray)(w:World)(hn:n=xs.length)(hl:xs.length<=100000)
 (hS:Sl w 1 sC A xs)(hp:zeT g lb (fun s=> .string s) p xs w):Calls Tryz.prog 59 #[.slice A n c,.func (.func g) #[] lb] w (Ret w (.bool (xs.any p))):=by
 subst hn;have HI:=zHi (ifStr_any g lb eg p A c xs w hl hS hp);clear hS hp;go_enter Tryz.func59,Tryz.ntmps59
 go_wp2_with (go_at_call 86;refine HI.o.mono ?_;rintro e wq ⟨i,rfl,hi,hB⟩)
 go_ret
 rw[<-hi];exact Ret.of rfl hB
theorem onn_any(s:ByteArray)(W:World)(hs:s.size<=100000):Calls Tryz.prog 60 #[.string s] W (Ret W (.bool (!zaS s))):=by
 go_enter Tryz.func60,Tryz.ntmps60
 exact Mau
theorem onn_gives(xs:List ByteArray)(w:World)(hs:∀s∈xs,s.size<=100000):zeT 60 #[] (fun s=> .string s) (fun s=>!zaS s) xs w:=fun x hx W hW=>by
 refine(onn_any x W (hs x hx)).mono ?_;exact Ma2
theorem zhf(laws:List Law)(u u':Int):∀(ds:List Deed) (s t t':St) (k:Nat) (l:Int),(zaX laws u ds s t k l).2=(zaX laws u' ds s t' k l).2
 | [],_,_,_,_,_=>rfl
 |d::ds,s,t,t',k,l=>by
  rw[zaX,zaX];split
  ·rfl
  ·exact zhf laws u u' ds _ _ _ _ _
noncomputable def zc1 (laws:List Law) (ds:List Deed) (names:List ByteArray) (day:Int):Int:=
 if(zew laws ds 200000).2.2 != 0 then(zew laws ds 200000).2.2 else if names.any (fun s=>!zaS s)then 4 else if !zbn day then 2 else 0
theorem zdY(laws:List Law)(ds:List Deed):(zew laws ds 200000).2=(zaL laws ds 200000).2:=by
 unfold zew zaL;split
 ·rfl
 ·exact znF (Int.le_refl _)
theorem zoY{laws:List Law}{ds:List Deed}(h:(zew laws ds 200000).2.2=0)(day:Int):(zew laws ds day).1=(zaL laws ds day).1/\(zew laws ds day).2.2=0:=by
 rw[zdY]at h;unfold zaL at h;unfold zew zaL;split at h
 ·rename_i hc
  rw[if_pos hc,if_pos hc];exact⟨rfl,h⟩
 ·rename_i hc
  rw[if_neg hc,if_neg hc];exact zlg (by rw[zhf laws day 200000 ds zb3 zb3 zb3];exact h)
theorem zmX(laws:List Law)(ds:List Deed)(LA:Option Addr)(n nc:Nat)(DA:Option Addr)(m mc:Nat)(w:World)(hR:RightsIn w laws ds LA n nc DA m mc)(hF:FormsIn w)(hL:LensIn w)(hO:∀d∈ds,zdt d):
 Calls Tryz.prog 58 #[.agg #[.slice LA n nc,.slice DA m mc]] w (Ret w (.tuple #[.int .i64 (zew laws ds 200000).2.1,.int .i64 (zew laws ds 200000).2.2])):=by
 have ua:=fun W (hB:Below w.heap.size w W)=>zjM laws ds 200000 LA n nc DA m mc W (hR.keep hB) (hF.keep hB) (hL.keep hB) hO
 clear hR hF hL hO;generalize zew laws ds 200000=R at*;have lR:=zHi ua;clear ua;go_enter Tryz.func58,Tryz.ntmps58
 go_wp2_with (go_at_call 63;go_must(refine(lR.o _ Bw).mono ?_);rintro e wq ⟨base,b,la,co,rfl,h1,h2,h3,h4,h5⟩;have H3:=zHi h3;clear h1 h2 h3 h4 h5)
 go_ret2
 exact Ret.of rfl (Below.trans (zad (Below.refl _ _) _) (H3.o.mono McB))
def ziM(w:World)(laws:List Law)(ds:List Deed)(names:List ByteArray)(day:Int)(e:Ending)(w':World):Prop:=
 Below w.heap.size w w'/\((zc1 laws ds names day≠0/\e=.returned (.tuple #[.pointer none,.int .i64 (zc1 laws ds names day)]))\/
  (zc1 laws ds names day=0/\∃base b la co,e=.returned (.tuple #[.pointer (some ⟨b,0,none⟩),.int .i64 0])/\w.heap.size<=base/\WldAt base w' b (zaL laws ds day).1 la co/\(∃last,GoodSt (zaL laws ds day).1 last)/\∃k,k<=60/\FewS k (zaL laws ds day).1))
theorem zlS(laws:List Law)(ds:List Deed)(day:Int)(names:List ByteArray)(LA:Option Addr)(n nc:Nat)(DA:Option Addr)(m mc:Nat)(NA:Option Addr)(l c:Nat)(w:World)(hR:RightsIn w laws ds LA n nc DA m mc)(hF:FormsIn w)(hL:LensIn w)(hO:∀d∈ds,zdt d)
 (hl:l=names.length)(dL:names.length<=100000)(hN:∀s∈names,s.size<=100000)(hS:Sl w 1 sC NA names):
 Calls Tryz.prog 30 #[.agg #[.slice LA n nc,.slice DA m mc],.int .i64 day,.slice NA l c] w (ziM w laws ds names day):=by
 subst hl;have eg:∀args w,(callFunc 60 args).run Tryz.prog w=.ok (.enter 60 args) w:=enters_of Tryz.func60 Mcz rfl;have lh:=fun W (hB:Below w.heap.size w W)=>zmX laws ds LA n nc DA m mc W (hR.keep hB) (hF.keep hB) (hL.keep hB) hO
 have ua:=fun W (hB:Below w.heap.size w W)=>zjM laws ds day LA n nc DA m mc W (hR.keep hB) (hF.keep hB) (hL.keep hB) hO
 have wF:=fun W (hB:Below w.heap.size w W)=>zlR 60 #[] eg (fun s=>!zaS s) NA names.length c names W rfl dL (hS.keep hB) (onn_gives names W hN)
 have iB:=zoY (laws:=laws) (ds:=ds) (day:=day);have he:zc1 laws ds names day=if(zew laws ds 200000).2.2 != 0 then(zew laws ds 200000).2.2 else if names.any (fun s=>!zaS s)then 4 else if !zbn day then 2 else 0:=rfl;unfold ziM;generalize zc1 laws ds names day=E at*;obtain⟨R,rq⟩:∃R,R=zew laws ds 200000:=⟨_,rfl⟩
 rw[<-rq]at lh iB he;obtain⟨⟨S0,n0,er⟩,Fj⟩:∃x,x=R:=⟨_,rfl⟩
 subst Fj;simp only at lh iB he;generalize hna:names.any (fun s=>!zaS s)=na at*;obtain⟨pm,lR,t8⟩:=yH3 lh ua wF;clear lh ua wF hR hF hL hO hS hN rq hna eg;by_cases h0:er=0
 ·subst h0;have pG:E=if na then 4 else if !zbn day then 2 else 0:=by rw[he];rfl
  obtain⟨ub,uc⟩:=iB rfl;clear he iB;cases na
  ·generalize jL:zbn day=dd at*;cases dd
   ·have hE:E=2:=by rw[pG];rfl
    subst hE;clear pG ub uc;go_enter Tryz.func30,Tryz.ntmps30
    go_wp2_with (first
     |(go_at_call 58;refine(pm.o _ Bw).mono ?_;rintro e wq ⟨rfl,zq,rfl⟩)
     |(go_at_call 59;refine(t8.o _ Bw).mono ?_;rintro e wq ⟨rfl,zq,rfl⟩)
     |(go_at_call 62;refine(zcP _ _).mono ?_;rintro e wq ⟨rfl,rfl⟩;rw[jL]))
    go_ret2
    exact⟨Bw,.inl ⟨by decide,rfl⟩⟩
   ·have hE:E=0:=by rw[pG];rfl
    subst hE;rw[<-ub];clear pG ub;generalize zew laws ds day=R at*;obtain⟨S1,n1,e1⟩:=R;simp only at uc;subst uc;try simp only at lR
    go_enter Tryz.func30,Tryz.ntmps30
    go_wp2_with (first
     |(go_at_call 58;refine(pm.o _ Bw).mono ?_;rintro e wq ⟨rfl,zq,rfl⟩)
     |(go_at_call 59;refine(t8.o _ Bw).mono ?_;rintro e wq ⟨rfl,zq,rfl⟩)
     |(go_at_call 62;refine(zcP _ _).mono ?_;rintro e wq ⟨rfl,rfl⟩;rw[jL])
     |(go_at_call 63;go_must(refine(lR.o _ Bw).mono ?_);rintro e wq ⟨base,b,la,co,rfl,h1,h2,h3,h4,h5⟩;obtain⟨H1,H2,H3,H4,H5⟩:=yH5 h1 h2 h3 h4 h5;clear h1 h2 h3 h4 h5))
    go_ret2
    have h1:=H1.o;refine⟨Below.trans Bw (H3.o.mono ?_),.inr ⟨by first|rfl|trivial,base,b,la,co,rfl,Nat.le_trans ?_ h1,H2.o,H4.o,H5.o⟩⟩
    ·simp[zaf];omega
    ·simp[zaf];omega
  ·have hE:E=4:=by rw[pG];rfl
   subst hE;clear pG ub uc;go_enter Tryz.func30,Tryz.ntmps30
   go_wp2_with (first
    |(go_at_call 58;refine(pm.o _ Bw).mono ?_;rintro e wq ⟨rfl,zq,rfl⟩)
    |(go_at_call 59;refine(t8.o _ Bw).mono ?_;rintro e wq ⟨rfl,zq,rfl⟩))
   go_ret2
   exact⟨Bw,.inl ⟨by decide,rfl⟩⟩
 ·have hE:E=er:=by rw[he,if_pos MdC]
  subst hE;clear he iB;go_enter Tryz.func30,Tryz.ntmps30
  go_wp2_with (go_at_call 58;refine(pm.o _ Bw).mono ?_;rintro e wq ⟨rfl,zq,rfl⟩)
  go_ret2
  exact⟨Bw,.inl ⟨h0,rfl⟩⟩
def zf5(s:St)(place:ByteArray)(day:Int):Parts:=match zaR s place day with
 |none=>[]
 |some i=>(s.graves.getD i zga).holders
def ziN(w:World)(laws:List Law)(ds:List Deed)(place:ByteArray)(day:Int)(e:Ending)(w':World):Prop:=
 Below w.heap.size w w'/\((zc1 laws ds [place] day≠0/\e=.returned (.tuple #[.slice none 0 0,.int .i64 (zc1 laws ds [place] day)]))\/
  (zc1 laws ds [place] day=0/\∃A c,e=.returned (.tuple #[.slice A (zf5 (zaL laws ds day).1 place day).length c,.int .i64 0])/\(zf5 (zaL laws ds day).1 place day).length<=c/\Sl w' 3 zaa A (zf5 (zaL laws ds day).1 place day)))
theorem zmY(laws:List Law)(ds:List Deed)(place:ByteArray)(day:Int)(LA:Option Addr)(n nc:Nat)(DA:Option Addr)(m mc:Nat)(w:World)(hR:RightsIn w laws ds LA n nc DA m mc)(hF:FormsIn w)(hL:LensIn w)(hO:∀d∈ds,zdt d)(hp:place.size<=100000):
 Calls Tryz.prog 22 #[.agg #[.slice LA n nc,.slice DA m mc],.string place,.int .i64 day] w (ziN w laws ds place day):=by
 have xM:=fun W (hB:Below w.heap.size w W) NA (hS:Sl W 1 sC NA [place])=>zlS laws ds day [place] LA n nc DA m mc NA 1 1 W (hR.keep hB) (hF.keep hB) (hL.keep hB) hO rfl McB MeB hS
 have dQ:=zHi xM;unfold ziN;clear xM hR hF hL hO;unfold ziM at dQ;generalize zc1 laws ds [place] day=E at*;generalize(zaL laws ds day).1=s at*;generalize bv:zf5 s place day=xs at*;have bZ:=zHi bv;clear bv;go_enter Tryz.func22,Tryz.ntmps22
 by_cases h0:E=0
 ·subst h0
  go_upto_region 4 with(go_at_call 30
                        go_must(refine(dQ.o _ Bw _ (zcl (zar _ _ _ McB))).mono ?_)
                        rintro e wq ⟨h1,⟨ai,_⟩|⟨_,base,b,la,co,rfl,h2,h3,h4,h5⟩⟩
                        ·exact absurd rfl ai
                        obtain⟨H1,H3,H5⟩:=yH3 h1 h3 h5
                        clear h1 h2 h3 h4 h5)
  obtain⟨Bk,dd,cc,pp,wl,rr,mv,tv,ps,ba,hC,hP,hT⟩:=H3.o;obtain⟨k,eW,bR⟩:=H5.o;have cz:=bR.graves;have aH:=fun W (hB:Below wq.heap.size wq W)=>zjA base b s la co place day W (hC.keep hB) (hT.keep hB) Mcy
  have aS:Below w.heap.size w wq:=Below.trans (zad (zad (Below.refl _ _) _) _ McB) (H1.o.mono McD);have aA:=zHi aS;have bv:=bZ.o;unfold zf5 at bv;clear bZ;cases aU:zaR s place day with
  |none=>
   rw[aU]at aH bv;subst bv;have bW:=zHi aH;clear aH hC hP hT bR aS;go_wp2_with (go_at_call 31;go_must(refine(bW.o _ Bw).mono ?_);rintro e wz ⟨rfl,z,rfl⟩;simp only[zln,Option.map_none])
   go_ret2
   exact⟨aA.o.trans (Below.mono (B:=wq.heap.size) Bw aA.o.size),none,⟨0,rfl⟩,fun h=>absurd h McB⟩
  |some i=>
   obtain⟨T,g,gZ,iw,aO,bN,gR,_⟩:=zet hT aU;rw[aU]at aH bv;simp only[bN]at bv;subst bv;obtain⟨H,aN,D,dc,frm,t1,t2,t3,t4,t5,t6,t7⟩:=gR;have df:=zab t1;have mF:∀W,Below wq.heap.size wq W->Calls Tryz.prog 31 #[.pointer (some ⟨b,0,none⟩),.string place,.int .i64 day] W (Ret W (.pointer (some ⟨T,0,none⟩))):=fun W hB=>by
    have:=aH W hB;simpa only[zln,Option.map_some,iw]using this
   have bW:=zHi mF;unfold zby at t1;obtain⟨-,-,-,-,k4⟩:=cF5 t1;have T5:=zHi t5;clear aH mF hC hP hT bR aS t1 t5 t6 t7 bN aO iw gZ aU;go_wp2_with (go_at_call 31;go_must(refine(bW.o _ Bw).mono ?_);rintro e wz ⟨rfl,z,rfl⟩)
   go_ret2
   exact⟨aA.o.trans (Below.mono (B:=wq.heap.size) Bw aA.o.size),H,aN,rfl,t3,(Ro.sl zap T5.o).keep (n:=wq.heap.size) Bw⟩
 ·go_wp2_with (go_at_call 30
               go_must(refine(dQ.o _ Bw _ (zcl (zar _ _ _ McB))).mono ?_)
               rintro e wq ⟨h1,⟨_,rfl⟩|⟨he,_⟩⟩;rotate_left 1
               ·exact absurd he h0
               have H1:=zHi h1
               clear h1)
  go_ret2
  exact⟨Below.trans (zad (zad (Below.refl _ _) _) _ McB) (H1.o.mono McD),.inl ⟨h0,rfl⟩⟩
def zfT(w:World)(laws:List Law)(ds:List Deed)(place:ByteArray)(ns:List ByteArray)(day:Int)(e:Ending)(w':World):Prop:=
 Below w.heap.size w w'/\((zc1 laws ds (place::ns) day≠0/\e=.returned (.tuple #[.pointer none,.pointer none,.int .i64 (zc1 laws ds (place::ns) day)]))\/
  (zc1 laws ds (place::ns) day=0/\zaR (zaL laws ds day).1 place day=none/\e=.returned (.tuple #[.pointer none,.pointer none,.int .i64 12]))\/
  (zc1 laws ds (place::ns) day=0/\∃base b la co B T i g,zaR (zaL laws ds day).1 place day=some i/\(zaL laws ds day).1.graves[i]?=some g/\e=.returned (.tuple #[.pointer (some ⟨b,0,none⟩),.pointer (some ⟨T,0,none⟩),.int .i64 0])/\w.heap.size<=base/\WldAt base w' b (zaL laws ds day).1 la co/\TombAt w' base B T g/\(∃last,GoodSt (zaL laws ds day).1 last)/\∃k,k<=60/\FewS k (zaL laws ds day).1))
theorem zlT(laws:List Law)(ds:List Deed)(place:ByteArray)(ns:List ByteArray)(day:Int)(LA:Option Addr)(n nc:Nat)(DA:Option Addr)(m mc:Nat)(NA:Option Addr)(l c:Nat)(w:World)(hR:RightsIn w laws ds LA n nc DA m mc)(hF:FormsIn w)(hL:LensIn w)(hO:∀d∈ds,zdt d)(hp:place.size<=100000)
 (hl:l=ns.length)(dL:ns.length<=1000)(hN:∀s∈ns,s.size<=100000)(hS:Sl w 1 sC NA ns):
 Calls Tryz.prog 47 #[.agg #[.slice LA n nc,.slice DA m mc],.int .i64 day,.string place,.slice NA l c] w (zfT w laws ds place ns day):=by
 subst hl;have xM:=fun W (hB:Below w.heap.size w W) XA xc (hS:Sl W 1 sC XA (place::ns))=>zlS laws ds day (place::ns) LA n nc DA m mc XA (1+ns.length) xc W (hR.keep hB) (hF.keep hB) (hL.keep hB) hO McD McD (by simpa using⟨hp,hN⟩) hS
 obtain⟨dQ,HS⟩:=yH2 xM hS;unfold zfT;clear xM hR hF hL hO hS;unfold ziM at dQ;generalize zc1 laws ds (place::ns) day=E at*;generalize(zaL laws ds day).1=s at*;go_enter Tryz.func47,Tryz.ntmps47
 go_upto_region 1 with fail
 go_cut [11,12]from 14 to 24 (fun v11 v12 W=>Below w.heap.size w W/\((E≠0/\v11=.pointer none/\v12=.int .i64 E)\/(E=0/\v12=.int .i64 0/\∃base b la co,v11=.pointer (some ⟨b,0,none⟩)/\w.heap.size<=base/\WldAt base W b s la co/\(∃last,GoodSt s last)/\∃k,k<=60/\FewS k s)))
 case first=>
  refine wp_region_held_drew (S:=(fun w'=>w'.cell? ⟨w.heap.size,0,none⟩=some (.slice LA n nc)/\w'.cell? ⟨w.heap.size,1,none⟩=some (.slice DA m mc))) Mcz ?hS ?hrest
  case hS=>refine⟨?_,?_⟩<;>(simp[go_sem];done)
  case hrest=>
   intro hHeld;refine TkH 0 ?_;refine TkH 1 ?_;refine TkH 2 ?_;refine TkH 4 ?_;refine OnH 3 fun K hK=>?_
   go_simp
   have Fs:Below w.heap.size w (w.alloc (.cells #[.slice LA n nc,.slice DA m mc] 25)).drew:=Bw;have bh:∀W,Below (w.heap.size+1) (w.alloc (.cells #[.slice LA n nc,.slice DA m mc] 25)).drew W->W.cell? ⟨w.heap.size,0,none⟩=some (.slice LA n nc)/\W.cell? ⟨w.heap.size,1,none⟩=some (.slice DA m mc):=fun W hW=>by
    refine⟨(zah hW (Nat.lt_succ_self _)).trans ?_,(zah hW (Nat.lt_succ_self _)).trans ?_⟩<;>(simp[go_sem];done)
   have dZ:=zHi bh;clear bh;have aS:Below (w.heap.size+1) (w.alloc (.cells #[.slice LA n nc,.slice DA m mc] 25)).drew ((w.alloc (.cells #[.slice LA n nc,.slice DA m mc] 25)).drew.alloc (.cells #[.string place] 9)):=zad (Below.refl _ _) _ McB;refine NxM hK (fun hHeld=>?_) (dZ.o _ aS);clear hK K;refine OnH 5 fun K hK=>?_
   refine zak (v:=.slice (some ⟨w.heap.size+1,0,none⟩) 1 1) (n:=1) (m:=ns.length) rfl _ _ rfl zbB za9 zbA rfl (base:=w.heap.size+1) (xs:=[place]) (ys:=ns) (.inr ⟨w.heap.size+1,0,1,#[.string place],rfl,by omega,zar _ _ _ McB,Nat.le_refl _,by simp[maxLen],by simp,fun j u hj=>?hel⟩) rfl rfl rfl (HS.o.keep (n:=w.heap.size) Bw) McS Mcy McB ?happ
   case hel=>
    match j,hj with
    |0,hj=>simpa[sC]using hj
    |j+1,hj=>simp[sC]at hj
   case happ=>
    intro v6 w6 h1 h2 h3;obtain⟨A6,c6,dA,hS6,_⟩:=h1.sl za9;rw[show([place]++ns).length=1+ns.length by simp;omega]at dA;subst dA;have aP:Below (w.heap.size+1) (w.alloc (.cells #[.slice LA n nc,.slice DA m mc] 25)).drew w6:=zaQ aS h2 (Nat.le_refl _) McB;have Af:Below w.heap.size w w6:=Fs.trans (aP.mono (Nat.le_succ _));have Er:=zHi Af;refine NxM hK (fun hHeld=>?_) (dZ.o _ aP);clear hK K;refine OnH 6 fun K hK=>?_
    go_simp
    refine(dQ.o w6 Er.o A6 c6 hS6).mono ?_;rintro e wq ⟨k1,eQ⟩;have bQ:Below (w.heap.size+1) (w.alloc (.cells #[.slice LA n nc,.slice DA m mc] 25)).drew wq:=aP.trans (k1.mono (by have:=aP.size;simp at this;omega));have cj:=zHi (Af.trans (k1.mono Af.size));clear h1 h2 h3 k1 Af aP aS Fs dQ;rcases eQ with⟨ai,rfl⟩|⟨he,base,b,la,co,rfl,q2,q3,q4,q5⟩
    ·have gI:=zHi ai;clear ai;refine NxM hK (fun hHeld=>?_) (dZ.o _ bQ);clear hK K;refine TkH 7 ?_;refine TkH 8 ?_;refine TkH 9 ?_;refine OnH 10 fun K hK=>?_
     go_simp
     refine NxM hK (fun hHeld=>?_) (dZ.o _ bQ);clear hK K;refine OnH 11 fun K hK=>?_
     go_simp
     refine NxM hK (fun hHeld=>?_) (dZ.o _ bQ);clear hK K;refine wpAnyH_done Mcz ?_ _;go_wp2_with fail
     go_meet
     exact⟨cj.o,.inl ⟨gI.o,rfl,rfl⟩⟩
    ·obtain⟨HE,Q2,Q3,Q4,Q5⟩:=yH5 he q2 q3 q4 q5;clear he q2 q3 q4 q5;refine NxM hK (fun hHeld=>?_) (dZ.o _ bQ);clear hK K;refine TkH 7 ?_;refine TkH 8 ?_;refine TkH 9 ?_;refine OnH 10 fun K hK=>?_
     go_simp
     refine NxM hK (fun hHeld=>?_) (dZ.o _ bQ);clear hK K;refine OnH 11 fun K hK=>?_
     go_simp
     refine NxM hK (fun hHeld=>?_) (dZ.o _ bQ);clear hK K;refine wpAnyH_done Mcz ?_ _;go_wp2_with fail
     go_meet
     exact⟨cj.o,.inr ⟨HE.o,rfl,base,b,la,co,rfl,Nat.le_trans Er.o.size Q2.o,Q3.o,Q4.o,Q5.o⟩⟩
 case rest=>
  obtain⟨hB,eQ⟩:=hcut;rcases eQ with⟨ai,rfl,rfl⟩|⟨he,rfl,base,b,la,co,rfl,q2,q3,q4,q5⟩
  ·have gI:=zHi ai;go_wp2_with fail
   go_ret3
   exact⟨hB,.inl ⟨gI.o,rfl⟩⟩
  ·have HE:=zHi he;clear he;obtain⟨HB,Q3,Q4,Q5⟩:=yH4 hB q3 q4 q5;obtain⟨Bk,dd,cc,pp,wl,rr,mv,tv,ps,ba,hC,hP,hT⟩:=q3;obtain⟨k,eW,bR⟩:=q5;have cz:=bR.graves;have aH:=fun W (hB:Below wc.heap.size wc W)=>zjA base b s la co place day W (hC.keep hB) (hT.keep hB) Mcy
   have hsz:=hB.size;have Bp:=zHi hsz;cases aU:zaR s place day with
   |none=>
    rw[aU]at aH;obtain⟨bW,kK⟩:=yH2 aH aU;clear aH hC hP hT bR hB q4 aU;go_wp2_with (go_at_call 31;go_must(refine(bW.o _ Bw).mono ?_);rintro e wz ⟨rfl,z,rfl⟩;simp only[zln,Option.map_none])
    go_ret3
    exact⟨HB.o.trans (Below.mono (B:=wc.heap.size) Bw Bp.o),.inr (.inl ⟨HE.o,kK.o,rfl⟩)⟩
   |some i=>
    obtain⟨T,g,gZ,iw,aO,bN,gR,_⟩:=zet hT aU;have mF:∀W,Below wc.heap.size wc W->Calls Tryz.prog 31 #[.pointer (some ⟨b,0,none⟩),.string place,.int .i64 day] W (Ret W (.pointer (some ⟨T,0,none⟩))):=fun W hB=>by
     have:=aH W hB;exact MaM
    obtain⟨bW,kK,yN,eK⟩:=yH4 mF aU aO gR;clear aH mF hC hP hT bR hB q4 gR bN iw gZ aU aO;go_wp2_with (go_at_call 31;go_must(refine(bW.o _ Bw).mono ?_);rintro e wz ⟨rfl,z,rfl⟩)
    go_ret3
    have gx:Below wc.heap.size wc (wc.ext z):=Bw;exact⟨HB.o.trans (gx.mono Bp.o),.inr (.inr ⟨HE.o,base,b,la,co,Bk,T,i,g,kK.o,yN.o,rfl,q2,Q3.o.keep gx,eK.o.keep gx,Q4.o,Q5.o⟩)⟩
