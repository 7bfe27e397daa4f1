import Derived.Test.YtegdimedhfafjaaGreatDoorE7
import Derived.Test.YtegdimedhfafjaaGreatDoorOB
set_option linter.all false
set_option maxRecDepth 100000
set_option maxHeartbeats 4000000
namespace Go.Proofs.YtegdimedhfafjaaGreatDoor
open Go.RowKit Go.Shelf
attribute [local go_sem] World.cell?_alloc_mark zaf za5 zao za8 zav zaw zax zay zaz za0 za1
attribute [local go_sem] zaq zad
noncomputable def zdz (laws:List Law) (s:St) (co:Nat) (last:Int) (d:Deed):St×Int:=
 if decide (60<=co)then(s,8)else if decide (d.day<last)then(s,9)else zbp laws s d
def ziL(base b:Nat)(x:St×Int)(day la co:Int)(w:World)(e:Ending)(w':World):Prop:=
 e=.returned (.int .i64 x.2)/\WldAt base w' b x.1 (if x.2=0 then day else la) (if x.2=0 then co+1 else co)/\Below base w w'
theorem wldC_tick{W:World}{b d c p wl r:Nat}{mv tv:Value}{la co:Int}(h:WldC W b d c p wl r mv tv la co)(la' co':Int):WldC ((W.setCell ⟨b,7,none⟩ (.int .i64 la')).setCell ⟨b,8,none⟩ (.int .i64 co')) b d c p wl r mv tv la' co':=by
 unfold WldC at*;have:=Joins.block_setCell (i:=8) (Joins.block_setCell (i:=7) h (.int .i64 la')) (.int .i64 co');simpa using this
theorem wld_tick{base b:Nat}{W:World}{s:St}{la co:Int}(h:WldAt base W b s la co)(la' co':Int):WldAt base ((W.setCell ⟨b,7,none⟩ (.int .i64 la')).setCell ⟨b,8,none⟩ (.int .i64 co')) b s la' co':=by
 obtain⟨B,d,c,p,wl,r,mv,tv,ps,h1,h2,h3,h4⟩:=h;have hg:W.grownBy ((W.setCell ⟨b,7,none⟩ (.int .i64 la')).setCell ⟨b,8,none⟩ (.int .i64 co')) (some b):=zbo (zar W b 7 _) (zar _ b 8 _);exact⟨B,d,c,p,wl,r,mv,tv,ps,h1,wldC_tick h2 la' co',h3.kept hg h2 Mco Mco Mco,h4.kept hg h2 Mco Mco Mco Mco⟩
theorem wrap_k{k:Nat}(h:k<1000):wrap64 ((k:Int)+1)=(k:Int)+1:=by
 unfold wrap64;omega
theorem znb{k:Nat}(h:k<1000):IntKind.i64.wrap ((k:Int)+1)=(k:Int)+1:=by
 rw[IntKind.wrap_i64];omega
theorem wld_drew{base b:Nat}{W:World}{s:St}{la co:Int}(h:WldAt base W b s la co):WldAt base W.drew b s la co:=h.keep (n:=W.heap.size) ⟨rfl,rfl,rfl,Nat.le_refl _,fun _ _=>rfl⟩
theorem taken_ok{base b:Nat}{s':St}{day la co:Int}{w w':World}(h:WldAt base w' b s' day (co+1))(hB:Below base w w'):ziL base b (s',0) day la co w (.returned (.int .i64 0)) w':=⟨rfl,by simpa using h,hB⟩
theorem taken_no{base b:Nat}{s':St}{day la co er:Int}{w w':World}(h0:er≠0)(h:WldAt base w' b s' la co)(hB:Below base w w'):ziL base b (s',er) day la co w (.returned (.int .i64 er)) w':=⟨rfl,by simpa[h0]using h,hB⟩
theorem zkH(base b:Nat)(s:St)(k:Nat)(last:Int)(laws:List Law)(LA:Option Addr)(lc:Nat)(d:Deed)(B:Option Addr)(c:Nat)(w:World)(hW:WldAt base w b s last k)(jm:GoodSt s last)(hF:FewS k s)(hd:OkD d)(aY:zaA laws=0)(hL:LensIn w)(eC:Sl w 4 Law.cells LA laws)(ar:d.to.length<=c)(hS:Sl w 3 RPart.cells B d.to):
 Calls Tryz.prog 22 #[.pointer (some ⟨b,0,none⟩),.slice LA laws.length lc,d.v B c] w (ziL base b (zdz laws s k last d) d.day last k w):=by
 have ao:=hW;obtain⟨Bk,dd,cc,pp,wl,rr,mv,tv,ps,b8,hC,hP,hT⟩:=hW;have cu:=zab hC;have bQ:=hd.kind;have HW:=zHi ao;unfold WldC at hC;obtain⟨-,-,-,-,-,-,-,c7,c8⟩:=cF9 hC;clear hC hP hT ao;by_cases oh:60<=k
 ·have hx:zdz laws s k last d=(s,8):=by simp[zdz,oh]
  rw[hx];obtain⟨kd,dy,pl,fr,ts,cl,yr⟩:=d;have fm:(60:Int)<=(k:Int):=Mcm;clear hd hx jm hF eC hS bQ hL aY ar;unfold Deed.v;simp only;go_enter Tryz.func22,Tryz.ntmps22
  exact Mbk
 have fm:¬(60:Int)<=(k:Int):=Mcm;have xw:k<1000:=Mcm;by_cases aa:d.day<last
 ·have hx:zdz laws s k last d=(s,9):=by simp[zdz,oh,aa]
  rw[hx];obtain⟨kd,dy,pl,fr,ts,cl,yr⟩:=d;simp only at aa;clear hd hx jm hF eC hS bQ hL aY ar;unfold Deed.v;simp only;go_enter Tryz.func22,Tryz.ntmps22
  go_upto_region 3 with fail
  go_quiet (fail)
  exact Mbk
 have hx:zdz laws s k last d=zbp laws s d:=by simp[zdz,oh,aa]
 rw[hx];clear hx;have bG:last<=d.day:=Mcm;have cx:=hF.graves;have bk:=hF.kids;have fI:=hF.marr;have bW:=hF.wills d.frm;have Gj:∀g∈s.graves,g.holders.length<=10000:=fun g hg=>by have:=(hF.held g hg).1;omega
 have xp:∀g∈s.graves,g.holders.length<=70000/\g.died.length<=1000:=fun g hg=>by have:=hF.held g hg;omega
 have fG:laws.length<=10:=by
  unfold zaA at aY;split at aY
  ·cases aY
  ·rename_i h;simpa using h
 have bM:∀g∈s.graves,g.fin<=200000:=fun g hg=>(hF.held g hg).2.2
 have bO:=zfb aY d.day;obtain⟨dB,HF,iO,cU,cM,eK,dE⟩:=yH7 jm (And.intro Gj (And.intro xp bM)) hd hL eC hS bO;have e0:∀W:World,zbp laws s d=zbp laws s d:=fun _=>rfl
 clear jm hF hd hL eC hS aY bO Gj xp bM e0;have fR:d.kind=0\/d.kind=1\/d.kind=2\/d.kind=3\/d.kind=4\/d.kind=5\/d.kind=6\/d.kind=7\/d.kind=8:=Mcm;clear bQ;obtain⟨kd,dy,pl,fr,ts,cl,yr⟩:=d;simp only at aa bG fR ar bW;rcases fR with rfl|rfl|rfl|rfl|rfl|rfl|rfl|rfl|rfl
 ·have bk:∀W,Below w.heap.size w W->Calls Tryz.prog 51 #[.pointer (some ⟨b,0,none⟩),.agg #[.int .i64 0,.int .i64 dy,.string pl,.string fr,.slice B ts.length c,.int .i64 cl,.int .i64 yr]] W (zbH base b (zbp laws s ⟨0,dy,pl,fr,ts,cl,yr⟩) last k W):=fun W hB=>by
   rw[show zbp laws s ⟨0,dy,pl,fr,ts,cl,yr⟩=zcH s ⟨0,dy,pl,fr,ts,cl,yr⟩from by simp[zbp]];exact grant_any base b s last k ⟨0,dy,pl,fr,ts,cl,yr⟩ B c W (HW.o.keep hB) (cU.o.keep hB) iO.o rfl Mcm ar (eK.o.keep hB)
  generalize zbp laws s ⟨0,dy,pl,fr,ts,cl,yr⟩=X at*;have bZ:=zHi bk;clear bk dB HF iO cU cM eK dE;obtain⟨s',er⟩:=X;unfold Deed.v;simp only;go_enter Tryz.func22,Tryz.ntmps22
  go_upto_region 3 with fail
  go_quiet (fail)
  go_upto_region 18 with
   (go_at_call 51
    go_must(refine(bZ.o _ Bw).mono ?_)
    rintro e wq ⟨rfl,hW,hB,hK⟩;have h0:=((hK w.heap.size _ _ (zas _ _ _ rfl)).trans (zas _ _ _ rfl))
    obtain⟨Bk',d',c',p',wl',r',mv',tv',ps',ee,cB,gA,fN⟩:=id hW;obtain⟨nw,nR,nQ,ni⟩:=yH4 hW cB hB h0
    clear hW hB hK h0 gA fN cB)
  exact Md
 ·have bk:∀W,Below w.heap.size w W->Calls Tryz.prog 52 #[.pointer (some ⟨b,0,none⟩),.agg #[.int .i64 1,.int .i64 dy,.string pl,.string fr,.slice B ts.length c,.int .i64 cl,.int .i64 yr]] W (zbH base b (zbp laws s ⟨1,dy,pl,fr,ts,cl,yr⟩) last k W):=fun W hB=>by
   rw[show zbp laws s ⟨1,dy,pl,fr,ts,cl,yr⟩=zbr s ⟨1,dy,pl,fr,ts,cl,yr⟩from by simp[zbp]];exact zlu base b s last k last ⟨1,dy,pl,fr,ts,cl,yr⟩ B c W (HW.o.keep hB) dB.o iO.o rfl Mcm HF.o.1 ar (eK.o.keep hB)
  generalize zbp laws s ⟨1,dy,pl,fr,ts,cl,yr⟩=X at*;have bZ:=zHi bk;clear bk dB HF iO cU cM eK dE;obtain⟨s',er⟩:=X;unfold Deed.v;simp only;go_enter Tryz.func22,Tryz.ntmps22
  go_upto_region 3 with fail
  go_quiet (fail)
  go_upto_region 18 with
   (go_at_call 52
    go_must(refine(bZ.o _ Bw).mono ?_)
    rintro e wq ⟨rfl,hW,hB,hK⟩;have h0:=((hK w.heap.size _ _ (zas _ _ _ rfl)).trans (zas _ _ _ rfl))
    obtain⟨Bk',d',c',p',wl',r',mv',tv',ps',ee,cB,gA,fN⟩:=id hW;obtain⟨nw,nR,nQ,ni⟩:=yH4 hW cB hB h0
    clear hW hB hK h0 gA fN cB)
  exact Md
 ·have bk:∀W,Below w.heap.size w W->Calls Tryz.prog 53 #[.pointer (some ⟨b,0,none⟩),.agg #[.int .i64 2,.int .i64 dy,.string pl,.string fr,.slice B ts.length c,.int .i64 cl,.int .i64 yr]] W (zbH base b (zbp laws s ⟨2,dy,pl,fr,ts,cl,yr⟩) last k W):=fun W hB=>by
   rw[show zbp laws s ⟨2,dy,pl,fr,ts,cl,yr⟩=zba s ⟨2,dy,pl,fr,ts,cl,yr⟩from by simp[zbp]];exact zkw base b s last k last ⟨2,dy,pl,fr,ts,cl,yr⟩ B c W (HW.o.keep hB) dB.o Mcm HF.o.1
  generalize zbp laws s ⟨2,dy,pl,fr,ts,cl,yr⟩=X at*;have bZ:=zHi bk;clear bk dB HF iO cU cM eK dE;obtain⟨s',er⟩:=X;unfold Deed.v;simp only;go_enter Tryz.func22,Tryz.ntmps22
  go_upto_region 3 with fail
  go_quiet (fail)
  go_upto_region 18 with
   (go_at_call 53
    go_must(refine(bZ.o _ Bw).mono ?_)
    rintro e wq ⟨rfl,hW,hB,hK⟩;have h0:=((hK w.heap.size _ _ (zas _ _ _ rfl)).trans (zas _ _ _ rfl))
    obtain⟨Bk',d',c',p',wl',r',mv',tv',ps',ee,cB,gA,fN⟩:=id hW;obtain⟨nw,nR,nQ,ni⟩:=yH4 hW cB hB h0
    clear hW hB hK h0 gA fN cB)
  exact Md
 ·have bk:∀W,Below w.heap.size w W->Calls Tryz.prog 54 #[.pointer (some ⟨b,0,none⟩),.agg #[.int .i64 3,.int .i64 dy,.string pl,.string fr,.slice B ts.length c,.int .i64 cl,.int .i64 yr]] W (zbH base b (zbp laws s ⟨3,dy,pl,fr,ts,cl,yr⟩) last k W):=fun W hB=>by
   rw[show zbp laws s ⟨3,dy,pl,fr,ts,cl,yr⟩=zcV s ⟨3,dy,pl,fr,ts,cl,yr⟩from by simp[zbp]];exact zmK base b s last k last ⟨3,dy,pl,fr,ts,cl,yr⟩ B c W (HW.o.keep hB) (cU.o.keep hB) iO.o Mcm HF.o.2.2
  generalize zbp laws s ⟨3,dy,pl,fr,ts,cl,yr⟩=X at*;have bZ:=zHi bk;clear bk dB HF iO cU cM eK dE;obtain⟨s',er⟩:=X;unfold Deed.v;simp only;go_enter Tryz.func22,Tryz.ntmps22
  go_upto_region 3 with fail
  go_quiet (fail)
  go_upto_region 18 with
   (go_at_call 54
    go_must(refine(bZ.o _ Bw).mono ?_)
    rintro e wq ⟨rfl,hW,hB,hK⟩;have h0:=((hK w.heap.size _ _ (zas _ _ _ rfl)).trans (zas _ _ _ rfl))
    obtain⟨Bk',d',c',p',wl',r',mv',tv',ps',ee,cB,gA,fN⟩:=id hW;obtain⟨nw,nR,nQ,ni⟩:=yH4 hW cB hB h0
    clear hW hB hK h0 gA fN cB)
  exact Md
 ·have bk:∀W,Below w.heap.size w W->Calls Tryz.prog 56 #[.pointer (some ⟨b,0,none⟩),.agg #[.int .i64 4,.int .i64 dy,.string pl,.string fr,.slice B ts.length c,.int .i64 cl,.int .i64 yr]] W (zbH base b (zbp laws s ⟨4,dy,pl,fr,ts,cl,yr⟩) last k W):=fun W hB=>by
   rw[show zbp laws s ⟨4,dy,pl,fr,ts,cl,yr⟩=zgS s ⟨4,dy,pl,fr,ts,cl,yr⟩from by simp[zbp]];exact will_any base b s last k ⟨4,dy,pl,fr,ts,cl,yr⟩ B c W (HW.o.keep hB) iO.o rfl (eK.o.keep hB)
  generalize zbp laws s ⟨4,dy,pl,fr,ts,cl,yr⟩=X at*;have bZ:=zHi bk;clear bk dB HF iO cU cM eK dE;obtain⟨s',er⟩:=X;unfold Deed.v;simp only;go_enter Tryz.func22,Tryz.ntmps22
  go_upto_region 3 with fail
  go_quiet (fail)
  go_upto_region 7 with fail
  refine wp_region_held_drew (S:=(fun w'=>w'.cell? ⟨w.heap.size,0,none⟩=some (.int .i64 4)/\w'.cell? ⟨w.heap.size,1,none⟩=some (.int .i64 dy)/\w'.cell? ⟨w.heap.size,2,none⟩=some (.string pl)/\w'.cell? ⟨w.heap.size,3,none⟩=some (.string fr)/\w'.cell? ⟨w.heap.size,4,none⟩=some (.slice B ts.length c)/\w'.cell? ⟨w.heap.size,5,none⟩=some (.int .i64 cl)/\w'.cell? ⟨w.heap.size,6,none⟩=some (.int .i64 yr))) Mcn ?hS4 ?hrest4
  case hS4=>refine⟨?_,?_,?_,?_,?_,?_,?_⟩<;>(simp[go_sem];done)
  intro hHeld;refine TkH 0 ?_;refine TkH 1 ?_;refine TkH 2 ?_;refine TkH 3 ?_;refine OnH 4 fun K hK=>?_
  go_simp
  refine(bZ.o _ Bw).mono ?_;rintro e wq ⟨rfl,hW,hB,hK⟩;have h0:=((hK w.heap.size _ _ (zas _ _ _ rfl)).trans (zas _ _ _ rfl))
  obtain⟨Bk',d',c',p',wl',r',mv',tv',ps',ee,cB,gA,fN⟩:=id hW;obtain⟨nw,nR,nQ,ni⟩:=yH4 hW cB hB h0;have d0:wq.cell? ⟨w.heap.size,0,none⟩=some (.int .i64 4):=McQ;exact MbS
 ·have bk:∀W,Below w.heap.size w W->Calls Tryz.prog 56 #[.pointer (some ⟨b,0,none⟩),.agg #[.int .i64 5,.int .i64 dy,.string pl,.string fr,.slice B ts.length c,.int .i64 cl,.int .i64 yr]] W (zbH base b (zbp laws s ⟨5,dy,pl,fr,ts,cl,yr⟩) last k W):=fun W hB=>by
   rw[show zbp laws s ⟨5,dy,pl,fr,ts,cl,yr⟩=zbA s ⟨5,dy,pl,fr,ts,cl,yr⟩from by simp[zbp]];exact zlC base b s last k ⟨5,dy,pl,fr,ts,cl,yr⟩ B c W (HW.o.keep hB) iO.o rfl ar (eK.o.keep hB)
  generalize zbp laws s ⟨5,dy,pl,fr,ts,cl,yr⟩=X at*;have bZ:=zHi bk;clear bk dB HF iO cU cM eK dE;obtain⟨s',er⟩:=X;unfold Deed.v;simp only;go_enter Tryz.func22,Tryz.ntmps22
  go_upto_region 3 with fail
  go_quiet (fail)
  go_upto_region 7 with fail
  refine wp_region_held_drew (S:=(fun w'=>w'.cell? ⟨w.heap.size,0,none⟩=some (.int .i64 5)/\w'.cell? ⟨w.heap.size,1,none⟩=some (.int .i64 dy)/\w'.cell? ⟨w.heap.size,2,none⟩=some (.string pl)/\w'.cell? ⟨w.heap.size,3,none⟩=some (.string fr)/\w'.cell? ⟨w.heap.size,4,none⟩=some (.slice B ts.length c)/\w'.cell? ⟨w.heap.size,5,none⟩=some (.int .i64 cl)/\w'.cell? ⟨w.heap.size,6,none⟩=some (.int .i64 yr))) Mcn ?hS5 ?hrest5
  case hS5=>refine⟨?_,?_,?_,?_,?_,?_,?_⟩<;>(simp[go_sem];done)
  intro hHeld;refine TkH 0 ?_;refine TkH 1 ?_;refine TkH 2 ?_;refine TkH 3 ?_;refine OnH 4 fun K hK=>?_
  go_simp
  refine(bZ.o _ Bw).mono ?_;rintro e wq ⟨rfl,hW,hB,hK⟩;have h0:=((hK w.heap.size _ _ (zas _ _ _ rfl)).trans (zas _ _ _ rfl))
  obtain⟨Bk',d',c',p',wl',r',mv',tv',ps',ee,cB,gA,fN⟩:=id hW;obtain⟨nw,nR,nQ,ni⟩:=yH4 hW cB hB h0;have d0:wq.cell? ⟨w.heap.size,0,none⟩=some (.int .i64 5):=McQ;exact MbS
 ·have bk:∀W,Below w.heap.size w W->Calls Tryz.prog 56 #[.pointer (some ⟨b,0,none⟩),.agg #[.int .i64 6,.int .i64 dy,.string pl,.string fr,.slice B ts.length c,.int .i64 cl,.int .i64 yr]] W (zbH base b (zbp laws s ⟨6,dy,pl,fr,ts,cl,yr⟩) last k W):=fun W hB=>by
   rw[show zbp laws s ⟨6,dy,pl,fr,ts,cl,yr⟩=zc7 s ⟨6,dy,pl,fr,ts,cl,yr⟩from by simp[zbp]];exact child_any base b s last k ⟨6,dy,pl,fr,ts,cl,yr⟩ B c W (HW.o.keep hB) iO.o rfl ar (eK.o.keep hB) Mcm
  generalize zbp laws s ⟨6,dy,pl,fr,ts,cl,yr⟩=X at*;have bZ:=zHi bk;clear bk dB HF iO cU cM eK dE;obtain⟨s',er⟩:=X;unfold Deed.v;simp only;go_enter Tryz.func22,Tryz.ntmps22
  go_upto_region 3 with fail
  go_quiet (fail)
  go_upto_region 7 with fail
  refine wp_region_held_drew (S:=(fun w'=>w'.cell? ⟨w.heap.size,0,none⟩=some (.int .i64 6)/\w'.cell? ⟨w.heap.size,1,none⟩=some (.int .i64 dy)/\w'.cell? ⟨w.heap.size,2,none⟩=some (.string pl)/\w'.cell? ⟨w.heap.size,3,none⟩=some (.string fr)/\w'.cell? ⟨w.heap.size,4,none⟩=some (.slice B ts.length c)/\w'.cell? ⟨w.heap.size,5,none⟩=some (.int .i64 cl)/\w'.cell? ⟨w.heap.size,6,none⟩=some (.int .i64 yr))) Mcn ?hS6 ?hrest6
  case hS6=>refine⟨?_,?_,?_,?_,?_,?_,?_⟩<;>(simp[go_sem];done)
  intro hHeld;refine TkH 0 ?_;refine TkH 1 ?_;refine TkH 2 ?_;refine TkH 3 ?_;refine OnH 4 fun K hK=>?_
  go_simp
  refine(bZ.o _ Bw).mono ?_;rintro e wq ⟨rfl,hW,hB,hK⟩;have h0:=((hK w.heap.size _ _ (zas _ _ _ rfl)).trans (zas _ _ _ rfl))
  obtain⟨Bk',d',c',p',wl',r',mv',tv',ps',ee,cB,gA,fN⟩:=id hW;obtain⟨nw,nR,nQ,ni⟩:=yH4 hW cB hB h0;have d0:wq.cell? ⟨w.heap.size,0,none⟩=some (.int .i64 6):=McQ;exact MbS
 ·have bk:∀W,Below w.heap.size w W->Calls Tryz.prog 56 #[.pointer (some ⟨b,0,none⟩),.agg #[.int .i64 7,.int .i64 dy,.string pl,.string fr,.slice B ts.length c,.int .i64 cl,.int .i64 yr]] W (zbH base b (zbp laws s ⟨7,dy,pl,fr,ts,cl,yr⟩) last k W):=fun W hB=>by
   rw[show zbp laws s ⟨7,dy,pl,fr,ts,cl,yr⟩=zdn s ⟨7,dy,pl,fr,ts,cl,yr⟩from by simp[zbp]];exact marry_any base b s last k ⟨7,dy,pl,fr,ts,cl,yr⟩ B c W (HW.o.keep hB) iO.o rfl ar (eK.o.keep hB) Mcm
  generalize zbp laws s ⟨7,dy,pl,fr,ts,cl,yr⟩=X at*;have bZ:=zHi bk;clear bk dB HF iO cU cM eK dE;obtain⟨s',er⟩:=X;unfold Deed.v;simp only;go_enter Tryz.func22,Tryz.ntmps22
  go_upto_region 3 with fail
  go_quiet (fail)
  go_upto_region 7 with fail
  refine wp_region_held_drew (S:=(fun w'=>w'.cell? ⟨w.heap.size,0,none⟩=some (.int .i64 7)/\w'.cell? ⟨w.heap.size,1,none⟩=some (.int .i64 dy)/\w'.cell? ⟨w.heap.size,2,none⟩=some (.string pl)/\w'.cell? ⟨w.heap.size,3,none⟩=some (.string fr)/\w'.cell? ⟨w.heap.size,4,none⟩=some (.slice B ts.length c)/\w'.cell? ⟨w.heap.size,5,none⟩=some (.int .i64 cl)/\w'.cell? ⟨w.heap.size,6,none⟩=some (.int .i64 yr))) Mcn ?hS7 ?hrest7
  case hS7=>refine⟨?_,?_,?_,?_,?_,?_,?_⟩<;>(simp[go_sem];done)
  intro hHeld;refine TkH 0 ?_;refine TkH 1 ?_;refine TkH 2 ?_;refine TkH 3 ?_;refine OnH 4 fun K hK=>?_
  go_simp
  refine(bZ.o _ Bw).mono ?_;rintro e wq ⟨rfl,hW,hB,hK⟩;have h0:=((hK w.heap.size _ _ (zas _ _ _ rfl)).trans (zas _ _ _ rfl))
  obtain⟨Bk',d',c',p',wl',r',mv',tv',ps',ee,cB,gA,fN⟩:=id hW;obtain⟨nw,nR,nQ,ni⟩:=yH4 hW cB hB h0;have d0:wq.cell? ⟨w.heap.size,0,none⟩=some (.int .i64 7):=McQ;exact MbS
 ·have bk:∀W,Below w.heap.size w W->Calls Tryz.prog 55 #[.pointer (some ⟨b,0,none⟩),.slice LA laws.length lc,.agg #[.int .i64 8,.int .i64 dy,.string pl,.string fr,.slice B ts.length c,.int .i64 cl,.int .i64 yr]] W (zbH base b (zbp laws s ⟨8,dy,pl,fr,ts,cl,yr⟩) last k W):=fun W hB=>by
   rw[show zbp laws s ⟨8,dy,pl,fr,ts,cl,yr⟩=zdJ laws s ⟨8,dy,pl,fr,ts,cl,yr⟩from by simp[zbp]];exact death_any base b s last k last laws LA lc ⟨8,dy,pl,fr,ts,cl,yr⟩ B c W (HW.o.keep hB) dB.o bG rfl dE.o fG (cM.o.keep hB) Mcm Mcm Mcm (by simpa using Nat.le_trans bW Mcm) HF.o.2.1
  generalize zbp laws s ⟨8,dy,pl,fr,ts,cl,yr⟩=X at*;have bZ:=zHi bk;clear bk dB HF iO cU cM eK dE;obtain⟨s',er⟩:=X;unfold Deed.v;simp only;go_enter Tryz.func22,Tryz.ntmps22
  go_upto_region 3 with fail
  go_quiet (fail)
  go_upto_region 18 with
   (go_at_call 55
    go_must(refine(bZ.o _ Bw).mono ?_)
    rintro e wq ⟨rfl,hW,hB,hK⟩;have h0:=((hK w.heap.size _ _ (zas _ _ _ rfl)).trans (zas _ _ _ rfl))
    obtain⟨Bk',d',c',p',wl',r',mv',tv',ps',ee,cB,gA,fN⟩:=id hW;obtain⟨nw,nR,nQ,ni⟩:=yH4 hW cB hB h0
    clear hW hB hK h0 gA fN cB)
  exact Md
theorem zez{W:World}{b:Nat}{K V:Type}{ek:K->Value}{ev:V->Value}(h:W.heap[b]?=some (.map #[] 0)):MapS W b ek ev ([]:List (K×V)):=⟨#[],0,h,rfl,by simp,by simp⟩
def NewPost(w:World)(e:Ending)(w':World):Prop:=
 e=.returned (.agg #[.map (some (w.heap.size+1)),.map (some (w.heap.size+1+1)),.map (some (w.heap.size+1+1+1)),.slice none 0 0,.map (some (w.heap.size+1+1+1+1)),.map (some (w.heap.size+1+1+1+1+1))])/\
 w'.heap.size=w.heap.size+6/\(∀k,1<=k->k<=5->w'.heap[w.heap.size+k]?=some (.map #[] 0))/\Below w.heap.size w w'
theorem zjl{fn:Func}{p:Tmp}(h:fn.results= #[.cell p 94])(tmps:Array Value)(w:World)(B:Nat)(x0 x1 x2 x3 x4 x5:Value)(hp:tmps.getD p undef=.pointer (some ⟨B,0,none⟩))
 (hx:w.heap[B]?=some (.cells #[x0,x1,x2,x3,x4,x5] 94)):(results fn tmps).run Tryz.prog w=.ok (.agg #[x0,x1,x2,x3,x4,x5]) w:=by
 obtain⟨h0,h1,h2,h3,h4,h5⟩:=cF6 hx;exact Ma2
theorem zgG(w:World):Calls Tryz.prog 43 #[] w (NewPost w):=by
 have cX:= @run_makeMap Tryz.prog;go_enter Tryz.func43,Tryz.ntmps43
 go_wp2_with fail
 refine bodyPost_ret (v:=.agg #[.map (some (w.heap.size+1)),.map (some (w.heap.size+1+1)),.map (some (w.heap.size+1+1+1)),.slice none 0 0,.map (some (w.heap.size+1+1+1+1)),.map (some (w.heap.size+1+1+1+1+1))]) ?_ rfl ?_
 ·refine zjl rfl _ _ w.heap.size _ _ _ _ _ _ rfl ?_;exact zak (zak (zak (zak (zak (zas _ _ _ rfl)))))
 ·refine⟨rfl,by simp,fun k h1 h2=>?_,Bw⟩;obtain rfl|rfl|rfl|rfl|rfl:k=1\/k=2\/k=3\/k=4\/k=5:=by omega
  ·exact zak (zak (zak (zak (zas _ _ _ Mcp))))
  ·exact zak (zak (zak (zas _ _ _ Mcp)))
  ·exact zak (zak (zas _ _ _ Mcp))
  ·exact zak (zas _ _ _ Mcp)
  ·exact zas _ _ _ Mcp
theorem wld_new{base:Nat}{w W:World}(hb:base<=w.heap.size)(hs:w.heap.size+6=W.heap.size)(hm:∀k,1<=k->k<=5->W.heap[w.heap.size+k]?=some (.map #[] 0)):
 WldAt base (W.alloc (.cells #[.map (some (w.heap.size+1)),.map (some (w.heap.size+1+1)),.map (some (w.heap.size+1+1+1)),.slice none 0 0,.map (some (w.heap.size+1+1+1+1)),.map (some (w.heap.size+1+1+1+1+1)),.slice none 0 0,.int .i64 0,.int .i64 0] 97)) W.heap.size zb3 0 0:=by
 have hk:∀k,1<=k->k<=5->(W.alloc (.cells #[.map (some (w.heap.size+1)),.map (some (w.heap.size+1+1)),.map (some (w.heap.size+1+1+1)),.slice none 0 0,.map (some (w.heap.size+1+1+1+1)),.map (some (w.heap.size+1+1+1+1+1)),.slice none 0 0,.int .i64 0,.int .i64 0] 97)).heap[w.heap.size+k]?=some (.map #[] 0):=fun k h1 h2=>(Below.heap_alloc _ _ _ Mcm).trans (hm k h1 h2)
 refine⟨[],w.heap.size+1,w.heap.size+2,w.heap.size+3,w.heap.size+4,w.heap.size+5,.slice none 0 0,.slice none 0 0,[],by omega,zas _ _ _ rfl,⟨by simp,⟨by omega,by omega,by omega,by omega,by omega⟩,zez (hk 1 Mcm Mcm),⟨[],[],zez (hk 2 Mcm Mcm),zez (hk 3 Mcm Mcm),fun n=> .inl ⟨rfl,rfl⟩,fun n=> .inl ⟨rfl,rfl⟩,rfl,by simp,by simp,by simp⟩,OwnS.nil,⟨[],zez (hk 4 Mcm Mcm),fun n=> .inl ⟨rfl,rfl⟩⟩,zez (hk 5 Mcm Mcm)⟩,⟨OwnS.nil,rfl,by simp,fun i T g h=>by simp at h⟩⟩
section
variable {s:St} {d:Deed}
theorem grant_err:(zcH s d).2≠0->(zcH s d).1=s:=by
 unfold zcH;exact MR
theorem zlP:(zbr s d).2≠0->(zbr s d).1=s:=by
 unfold zbr;exact MR
theorem zkI:(zba s d).2≠0->(zba s d).1=s:=by
 unfold zba;exact MR
theorem renew_err:(zcV s d).2≠0->(zcV s d).1=s:=by
 unfold zcV;exact MR
theorem will_err:(zgS s d).2≠0->(zgS s d).1=s:=by
 unfold zgS;exact MR
theorem zlQ:(zbA s d).2≠0->(zbA s d).1=s:=by
 unfold zbA;exact MR
theorem child_err:(zc7 s d).2≠0->(zc7 s d).1=s:=by
 unfold zc7;exact MR
theorem marry_err:(zdn s d).2≠0->(zdn s d).1=s:=by
 unfold zdn;exact MR
theorem death_err{laws:List Law}:(zdJ laws s d).2≠0->(zdJ laws s d).1=s:=by
 unfold zdJ;exact MR
theorem take_err{laws:List Law}(h:(zbp laws s d).2≠0):(zbp laws s d).1=s:=by
 revert h
 unfold zbp;split
 ·exact grant_err
 split
 ·exact zlP
 split
 ·exact zkI
 split
 ·exact renew_err
 split
 ·exact will_err
 split
 ·exact zlQ
 split
 ·exact child_err
 split
 ·exact marry_err
 exact death_err
theorem zlR{laws:List Law}{co:Nat}{last:Int}(h:(zdz laws s co last d).2≠0):(zdz laws s co last d).1=s:=by
 revert h
 unfold zdz;split
 ·exact fun _=>rfl
 split
 ·exact fun _=>rfl
 exact take_err
theorem zlS{laws:List Law}{co:Nat}{last:Int}(h:za3 d=0):zbT laws s co last d=zdz laws s co last d:=by
 unfold zbT zdz;rw[h];rfl
end
noncomputable def zcR (laws:List Law) (ds:List Deed) (upto:Int):St×Nat×Int:=
 if zaA laws != 0 then(zb3,0,zaA laws)else zdS laws upto ds zb3 0 0
def zoW(w:World)(R:St×Nat×Int)(e:Ending)(w':World):Prop:=
 ∃base b la co,e=.returned (.tuple #[.pointer (some ⟨b,0,none⟩),.int .i64 R.2.1,.int .i64 R.2.2])/\w.heap.size<=base/\WldAt base w' b R.1 la co/\Below w.heap.size w w'/\(∃last,GoodSt R.1 last)/\∃k,k<=60/\FewS k R.1
theorem zkJ{laws:List Law}{s:St}{k:Nat}{last:Int}{d:Deed}(h:(zdz laws s k last d).2=0)(hd:OkD d)(hG:GoodSt s last)(hF:FewS k s)(aY:zaA laws=0):k<60/\GoodSt (zdz laws s k last d).1 d.day/\FewS (k+1) (zdz laws s k last d).1:=by
 unfold zdz at h⊢;split at h
 ·simp at h
 rename_i h1
 split at h
 ·simp at h
 rename_i h2
 rw[if_neg h1,if_neg h2];have hk:k<60:=McP;have hl:last<=d.day:=Mee;have ht:zbp laws s d=((zbp laws s d).1,0):=Prod.ext rfl h;exact⟨hk,zf3 hG hd hl aY ht,zkF hF hk hG hd hl aY ht⟩
theorem zjQ(laws:List Law)(ds:List Deed)(upto:Int)(LA:Option Addr)(n nc:Nat)(DA:Option Addr)(m mc:Nat)(w:World)(hR:RightsIn w laws ds LA n nc DA m mc)(hF:FormsIn w)(hL:LensIn w)(hO:∀d∈ds,zdt d):
 Calls Tryz.prog 20 #[.agg #[.slice LA n nc,.slice DA m mc],.int .i64 upto] w (zoW w (zcR laws ds upto)):=by
 obtain⟨R,hR⟩:∃R,R=zcR laws ds upto:=⟨_,rfl⟩
 rw[<-hR];unfold zcR at hR;have HR:=zHi hR;clear hR;obtain⟨rfl,rfl,uf,kS,eC,gy⟩:=hR;obtain⟨HF,HL,HO,cM,cJ⟩:=yH5 hF hL hO eC gy;clear hF hL hO eC gy;go_enter Tryz.func20,Tryz.ntmps20
 go_upto_region 2 with(go_at_call 43;go_must(refine(zgG _).mono ?_);rintro e wq ⟨rfl,n1,n2,n3⟩;obtain⟨N1,N2,N3⟩:=yH3 n1 n2 n3;clear n1 n2 n3)
 have bW:=wld_new (base:=w.heap.size+1) (w:=w.alloc (.cells #[.slice LA laws.length nc,.slice DA ds.length mc] 25)) (W:=wq) Mcp N1.o.symm N2.o;have hsz:=N1.o;simp only[World.size_alloc]at bW hsz;have b8:Below w.heap.size w wq:=Below.trans (zac (Below.refl _ _) _) (N3.o.mono Mcp);have fh:wq.heap[w.heap.size]?=some (.cells #[.slice LA laws.length nc,.slice DA ds.length mc] 25):=(N3.o.block _ Mcp).trans (zas _ _ _ rfl);have cu:=zab fh;have bx:∀o,Below w.heap.size w (wq.alloc o):=fun o=>zac b8 _ Mcm
 have rQ:∀o,(wq.alloc o).heap[w.heap.size]?=some (.cells #[.slice LA laws.length nc,.slice DA ds.length mc] 25):=fun o=>zak fh
 obtain⟨b,hb⟩:∃b,b=wq.heap.size:=⟨_,rfl⟩
 rw[<-hb]at bW⊢;have h2:=bx (.cells #[.map (some (w.heap.size+1+1)),.map (some (w.heap.size+1+1+1)),.map (some (w.heap.size+1+1+1+1)),.slice none 0 0,.map (some (w.heap.size+1+1+1+1+1)),.map (some (w.heap.size+1+1+1+1+1+1)),.slice none 0 0,.int .i64 0,.int .i64 0] 97);have dA:=rQ (.cells #[.map (some (w.heap.size+1+1)),.map (some (w.heap.size+1+1+1)),.map (some (w.heap.size+1+1+1+1)),.slice none 0 0,.map (some (w.heap.size+1+1+1+1+1)),.map (some (w.heap.size+1+1+1+1+1+1)),.slice none 0 0,.int .i64 0,.int .i64 0] 97);clear bx rQ b8 fh cu hsz N1 N2 N3 hb;generalize wq.alloc _=W2 at*;obtain⟨od,aA,av⟩:=yH3 bW h2 dA;have aV:=zab dA;obtain⟨x0,x1⟩:=cF2 dA;have iL:=zHi (fun W (hB:Below W2.heap.size W2 W)=>zfL laws LA laws.length nc W rfl (cM.o.keep (h2.trans (hB.mono (Nat.le_of_lt aV)))));clear bW h2 dA;by_cases aY:zaA laws=0
 ·rw[aY]at iL HR;have dE:=zHi aY;clear aY;go_upto_block 0 with(go_at_call 44;go_must(refine(iL.o _ Bw).mono ?_);rintro e wq ⟨rfl,z,rfl⟩)
  clear iL x0 x1;go_cut [9,10,11,25]from 26 (fun _ _ _ _ W=>∃s,Hid (R=(s,ds.length,0))/\∃la co,WldAt (w.heap.size+1) W b s la co/\Below w.heap.size w W/\W.heap[w.heap.size]?=some (.cells #[.slice LA laws.length nc,.slice DA ds.length mc] 25)/\(∃last,GoodSt s last)/\∃k,k<=60/\FewS k s)
  case first=>
   go_wp2_with fail
   go_loopw [25] (fun i wr=>∃(k:Nat) (s:St) (last:Int),k<=ds.length/\i=.int .i64 k/\Hid (R=zdS laws upto (ds.drop k) s k last)/\Hid (WldAt (w.heap.size+1) wr b s last k)/\Hid (GoodSt s last)/\Hid (FewS k s)/\k<=60/\Below w.heap.size w wr/\wr.heap[w.heap.size]?=some (.cells #[.slice LA laws.length nc,.slice DA ds.length mc] 25)) (fun i _=>ds.length-(intOf i).toNat)
   case atStart=>
    refine⟨0,zb3,0,Nat.zero_le _,rfl,?_,od.o.keep (n:=W2.heap.size) Bw,zdO 0,zfC,by omega,?_,?_⟩
    ·show _=_;rw[HR.o];simp
    ·exact aA.o.trans (Below.mono (B:=W2.heap.size) Bw (Nat.le_of_lt aV))
    ·exact zbv av.o
   case round=>
    obtain⟨k,s,last,hk,rfl,HX,HW,HG,nh,fm,hB,hX⟩:=hrel;clear od aA av HR;obtain x0:=cF1 hX;have dO:=zab hX;obtain⟨HB,pE⟩:=yH2 hB hX;by_cases aa:k<ds.length
    ·obtain⟨db,off,cs,hA,Kw,⟨B,c,ar,bj,hS⟩,hc⟩:=(cJ.o.keep zb5 hB).at aa;subst hA bj;have aj:=HX.o;rw[List.drop_eq_getElem_cons aa,zdS,<-List.drop_eq_getElem_cons aa]at aj;have bH:=HO.o ds[k] (List.getElem_mem aa);have jR:∀W,Below wr.heap.size wr W->_:=fun W hW=>zeg ds[k] B c W (HF.o.keep (hB.trans (hW.mono (Nat.le_of_lt dO)))) bH ar (hS.keep hW)
     have dR:∀W,Below wr.heap.size wr W->OkD ds[k]->_:=fun W hW hd=>zkH (w.heap.size+1) b s k last laws LA nc ds[k] B c W (HW.o.keep hW) HG.o nh.o hd dE.o (HL.o.keep (hB.trans (hW.mono (Nat.le_of_lt dO)))) (cM.o.keep (hB.trans (hW.mono (Nat.le_of_lt dO)))) ar (hS.keep hW)
     rw[zeH]at jR;obtain⟨am,lB,aH,dD,dU⟩:=yH5 aa (show k+(ds.drop k).length=ds.length by rw[List.length_drop];omega) aj jR dR;generalize ds[k]=d at*;clear aj bH jR dR hX hB hS;have bn:OkD d->(zdz laws s k last d).2=0->k<60/\GoodSt (zdz laws s k last d).1 d.day/\FewS (k+1) (zdz laws s k last d).1:=fun hd h=>zkJ h hd HG.o nh.o dE.o
     have jw:za3 d=0->OkD d:=zdN;have oT:=fun h=>zlS (laws:=laws) (s:=s) (co:=k) (last:=last) (d:=d) h
     obtain⟨kd,dy,pl,fr,ts,cl,yr⟩:=d;have i0:wr.cell? ⟨db,off+k*7,none⟩=some (.int .i64 kd):=hc 0 _ rfl;have i1:wr.cell? ⟨db,off+k*7+1,none⟩=some (.int .i64 dy):=hc 1 _ rfl;have i2:wr.cell? ⟨db,off+k*7+2,none⟩=some (.string pl):=hc 2 _ rfl;have i3:wr.cell? ⟨db,off+k*7+3,none⟩=some (.string fr):=hc 3 _ rfl;have i4:wr.cell? ⟨db,off+k*7+4,none⟩=some (.slice B ts.length c):=hc 4 _ rfl;have i5:wr.cell? ⟨db,off+k*7+5,none⟩=some (.int .i64 cl):=hc 5 _ rfl;have i6:wr.cell? ⟨db,off+k*7+6,none⟩=some (.int .i64 yr):=hc 6 _ rfl;have au:(k:Int)<(ds.length:Int):=Mcm;have aP:(0:Int)<=(k:Int):=Mcm;have Gs:(k:Int)<=(mc:Int):=Mcm;have kB:w.heap.size≠wr.heap.size:=Mcm;unfold Deed.v at dU;simp only at oT bn dU aH;clear hc;by_cases hce:za3 ⟨kd,dy,pl,fr,ts,cl,yr⟩=0
     ·have mL:=jw hce;have aj:=aH.o;rw[hce,oT hce]at aj;rw[hce]at dD;have jC:=bn mL;have iT:=fun h=>zlR (laws:=laws) (s:=s) (d:=⟨kd,dy,pl,fr,ts,cl,yr⟩) (co:=k) (last:=last) h
      have gu:=zHi (fun W hW=>dU.o W hW mL);clear aH dU oT bn jw mL;generalize zdz laws s k last ⟨kd,dy,pl,fr,ts,cl,yr⟩=x at*;generalize za3 ⟨kd,dy,pl,fr,ts,cl,yr⟩=ce at*;obtain⟨s',er⟩:=x;by_cases gD:upto<dy
      ·have bw:Hid (R=(s,ds.length,0)):=by
        show _=_;rw[aj,if_pos (by simp[gD]),lB.o]
       clear aj jC iT gu lB;go_wp2_with (go_at_call 21;go_must(refine(dD.o _ Bw).mono ?_);rintro e wq ⟨rfl,z,rfl⟩)
       go_meet
       exact⟨s,bw.o,last,k,HW.o.keep (n:=wr.heap.size) Bw,HB.o.trans (Below.mono (B:=wr.heap.size) Bw Mcm),by repeat(first|assumption|with_reducible refine zak ?_|with_reducible refine zbv ?_|with_reducible refine J_ne Mcm ?_),⟨last,HG.o⟩,k,fm,nh.o⟩
      ·have ck:R=if(er != 0)=true then(s,k,er)else zdS laws upto (ds.drop (k+1)) s' (k+1) dy:=by rw[aj,if_neg (by simp[gD])]
       have cN:=zHi ck;have mn:=dD.o;clear aj ck lB;by_cases h0:er=0
       ·subst h0;obtain⟨jA,ow,vR⟩:=jC rfl;obtain⟨fL,uP⟩:=yH2 ow vR;have l8:=wrap_k (k:=k) (Nat.lt_trans jA Mco);have ut:=znb (k:=k) (Nat.lt_trans jA Mco);clear jC iT ow vR mn
        go_wp2_with (first
         |(go_at_call 21;go_must(refine(dD.o _ Bw).mono ?_);rintro e wq ⟨rfl,z,rfl⟩)
         |(go_at_call 22
           go_must(refine(gu.o _ Bw).mono ?_)
           rintro e wq ⟨rfl,t1,t2⟩;simp only[if_true]at t1;have T1:=zHi t1;have aS:Below w.heap.size w wq:=(HB.o.trans (Below.mono (B:=wr.heap.size) Bw (Nat.le_of_lt dO))).trans (t2.mono (Nat.le_succ _));have yW:=(t2.block w.heap.size (Nat.lt_succ_self _)).trans (show _=some (.cells #[.slice LA laws.length nc,.slice (some ⟨db,off,none⟩) ds.length mc] 25) from by have hX:=pE.o;repeat(first|assumption|with_reducible refine zak ?_|with_reducible refine zbv ?_|with_reducible refine J_ne Mcm ?_));obtain⟨aW,pD⟩:=yH2 aS yW
           clear t1 t2 aS yW))
        go_round
        case rel=>
         clear l8 ut;refine⟨k+1,s',dy,am.o,by go_num,?_,T1.o,fL.o,uP.o,jA,aW.o,pD.o⟩;show _=_;rw[cN.o];simp
        case measure=>clear l8 ut;have:=am.o;simp only[intOf];omega
       ·have hs:=iT h0;simp only at hs;subst hs;have bw:Hid (R=(s',k,er)):=by
         show _=_;rw[cN.o,if_pos Mdg]
        clear jC iT cN mn
        go_wp2_with (first
         |(go_at_call 21;go_must(refine(dD.o _ Bw).mono ?_);rintro e wq ⟨rfl,z,rfl⟩)
         |(go_at_call 22
           go_must(refine(gu.o _ Bw).mono ?_)
           rintro e wq ⟨rfl,t1,t2⟩;have T1:=zHi t1;have aS:Below w.heap.size w wq:=(HB.o.trans (Below.mono (B:=wr.heap.size) Bw (Nat.le_of_lt dO))).trans (t2.mono (Nat.le_succ _));have aW:=zHi aS
           clear t1 t2 aS))
        go_ret3
        rw[bw.o];exact⟨w.heap.size+1,b,_,_,rfl,by omega,T1.o,aW.o,⟨last,HG.o⟩,k,fm,nh.o⟩
     ·have ai:(zbT laws s k last ⟨kd,dy,pl,fr,ts,cl,yr⟩)=(s,za3 ⟨kd,dy,pl,fr,ts,cl,yr⟩):=by
       unfold zbT;rw[if_pos MdS]
      have aj:=aH.o;rw[ai]at aj;generalize za3 ⟨kd,dy,pl,fr,ts,cl,yr⟩=ce at*;have bw:Hid (R=(s,k,ce)):=by
       show _=_;rw[aj,if_neg (by simp[hce]),if_pos MdS]
      clear aj ai aH dU oT bn jw lB;go_wp2_with (go_at_call 21;go_must(refine(dD.o _ Bw).mono ?_);rintro e wq ⟨rfl,z,rfl⟩)
      go_ret3
      rw[bw.o];exact⟨w.heap.size+1,b,last,k,rfl,by omega,HW.o.keep (n:=wr.heap.size) Bw,HB.o.trans (Below.mono (B:=wr.heap.size) Bw Mcm),⟨last,HG.o⟩,k,fm,nh.o⟩
    ·have au:¬(k:Int)<(ds.length:Int):=Mcm;have hx:=HX.o;rw[List.drop_eq_nil_of_le Mcm,zdS]at hx;have kv:k=ds.length:=Mcm;have bw:Hid (R=(s,ds.length,0)):=by show _=_;rw[hx,kv]
     clear hx kv hX hB;go_wp2_with fail
     go_meet
     exact⟨s,bw.o,last,k,HW.o,HB.o,pE.o,⟨last,HG.o⟩,k,fm,nh.o⟩
  case rest=>
   obtain⟨s,bw,la,co,hW,hB,hX,hg,hf⟩:=hcut;obtain⟨-,x1⟩:=cF2 hX;have dO:=zab hX;obtain⟨HW,HB⟩:=yH2 hW hB;clear hW hB hX;go_upto_region 15 with fail
   go_quiet (fail)
   go_wp2_with fail
   go_ret3
   rw[bw.o];exact⟨w.heap.size+1,b,la,co,rfl,by omega,HW.o.keep (n:=wc.heap.size) Bw,HB.o.trans (Below.mono (B:=wc.heap.size) Bw Mcm),hg,hf⟩
 ·generalize zaA laws=er at*;have ai:(er != 0)=true:=by simpa using aY
  have bw:Hid (R=(zb3,0,er)):=by show _=_;rw[HR.o,if_pos ai]
  clear HR;go_wp2_with (go_at_call 44;go_must(refine(iL.o _ Bw).mono ?_);rintro e wq ⟨rfl,z,rfl⟩)
  go_ret3
  rw[bw.o];exact⟨w.heap.size+1,b,0,0,rfl,by omega,od.o.keep (n:=W2.heap.size) Bw,aA.o.trans (Below.mono (B:=W2.heap.size) Bw Mcm),⟨0,zdO 0⟩,0,by omega,zfC⟩
theorem ifStr_any(g:Nat)(lb:Array Value)(eg:∀args w,(callFunc g args).run Tryz.prog w=.ok (.enter g args) w)(p:ByteArray->Bool)(A:Option Addr)(c:Nat)(xs:List ByteArray)(w:World)(hl:xs.length<=100000)
 (hS:Sl w 1 sC A xs)(hp:zeY g lb (fun s=> .string s) p xs w):Calls Tryz.prog 113 #[.slice A xs.length c,.func (.func g) #[] lb] w (fun e w'=>∃i:Int,e=.returned (.int .i64 i)/\decide (0<=i)=xs.any p/\Below w.heap.size w w'):=by
 obtain⟨HS,HP⟩:=yH2 hS hp;clear hS hp;go_enter Tryz.func113,Tryz.ntmps113
 go_wp2_with fail
 go_loopw [8] (fun i wr=>∃k:Nat,k<=xs.length/\i=.int .i64 k/\Hid (xs.any p=(xs.drop k).any p)/\Below w.heap.size w wr) (fun i _=>xs.length-(intOf i).toNat)
 case atStart=>exact⟨0,Nat.zero_le _,rfl,by show _=_;rw[List.drop_zero],Below.refl _ _⟩
 case round=>
  obtain⟨k,hk,rfl,HX,hB⟩:=hrel;have HB:=zHi hB;by_cases aa:k<xs.length
  ·obtain⟨b,off,rfl,hb,hc⟩:=(HS.o.keep hB).at aa;have i0:wr.cell? ⟨b,off+k,none⟩=some (.string xs[k]):=MdC;have hx:=HX.o;rw[List.drop_eq_getElem_cons aa,List.any_cons]at hx;have bK:∀W,Below w.heap.size w W->Calls Tryz.prog g (#[.string xs[k]]++lb) W fun e w'=>e=.returned (.bool (p xs[k]))/\Below w.heap.size w w':=fun W hW=>HP.o xs[k] (List.getElem_mem aa) W hW
   generalize xs[k]=x at*;generalize hpx:p x=px at*;have av:=zHi hx;have au:(k:Int)<(xs.length:Int):=Mcm;have aP:(0:Int)<=(k:Int):=Mcm;obtain⟨am,bZ⟩:=yH2 aa bK;clear hc hx bK HX hpx;cases px
   ·go_wp2_with (go_at_fn g;refine(bZ.o _ HB.o).mono ?_;rintro e w' ⟨rfl,h1⟩)
    go_round
    case rel=>exact⟨k+1,am.o,by go_num,by show _=_;rw[av.o];simp,h1⟩
    case measure=>have:=am.o;simp only[intOf];omega
   ·go_wp2_with (go_at_fn g;refine(bZ.o _ HB.o).mono ?_;rintro e w' ⟨rfl,h1⟩)
    go_ret
    exact⟨k,rfl,by rw[av.o];simp,h1⟩
  ·have au:¬(k:Int)<(xs.length:Int):=Mcm;have hx:=HX.o;rw[List.drop_eq_nil_of_le Mcm]at hx;have av:=zHi hx;clear hx hB;go_wp2_with fail
   go_ret
   exact⟨-1,rfl,by rw[av.o];simp,HB.o⟩
theorem zlT(g:Nat)(lb:Array Value)(eg:∀args w,(callFunc g args).run Tryz.prog w=.ok (.enter g args) w)(p:ByteArray->Bool)(A:Option Addr)(n c:Nat)(xs:List ByteArray)(w:World)(hn:n=xs.length)(hl:xs.length<=100000)
 (hS:Sl w 1 sC A xs)(hp:zeY g lb (fun s=> .string s) p xs w):Calls Tryz.prog 65 #[.slice A n c,.func (.func g) #[] lb] w (Ret w (.bool (xs.any p))):=by
 subst hn;have HI:=zHi (ifStr_any g lb eg p A c xs w hl hS hp);clear hS hp;go_enter Tryz.func65,Tryz.ntmps65
 go_wp2_with (go_at_call 113;refine HI.o.mono ?_;rintro e wq ⟨i,rfl,hi,hB⟩)
 go_ret
 rw[<-hi];exact Ret.of rfl hB
theorem onn_any(s:ByteArray)(W:World)(hs:s.size<=100000):Calls Tryz.prog 66 #[.string s] W (Ret W (.bool (!zaS s))):=by
 go_enter Tryz.func66,Tryz.ntmps66
 exact May
theorem onn_gives(xs:List ByteArray)(w:World)(hs:∀s∈xs,s.size<=100000):zeY 66 #[] (fun s=> .string s) (fun s=>!zaS s) xs w:=fun x hx W hW=>by
 refine(onn_any x W (hs x hx)).mono ?_;exact MaZ
theorem zjR(laws:List Law)(u u':Int):∀(ds:List Deed) (s t t':St) (k:Nat) (l:Int),(zaU laws u ds s t k l).2=(zaU laws u' ds s t' k l).2
 | [],_,_,_,_,_=>rfl
 |d::ds,s,t,t',k,l=>by
  rw[zaU,zaU];split
  ·rfl
  ·exact zjR laws u u' ds _ _ _ _ _
noncomputable def zeK (laws:List Law) (ds:List Deed) (names:List ByteArray) (day:Int):Int:=
 if(zcR laws ds 200000).2.2 != 0 then(zcR laws ds 200000).2.2 else if names.any (fun s=>!zaS s)then 4 else if !zb0 day then 2 else 0
theorem zfr(laws:List Law)(ds:List Deed):(zcR laws ds 200000).2=(zaQ laws ds 200000).2:=by
 unfold zcR zaQ;split
 ·rfl
 ·exact znV (Int.le_refl _)
theorem zjS{laws:List Law}{ds:List Deed}(h:(zcR laws ds 200000).2.2=0)(day:Int):(zcR laws ds day).1=(zaQ laws ds day).1/\(zcR laws ds day).2.2=0:=by
 rw[zfr]at h;unfold zaQ at h;unfold zcR zaQ;split at h
 ·rename_i hc
  rw[if_pos hc,if_pos hc];exact⟨rfl,h⟩
 ·rename_i hc
  rw[if_neg hc,if_neg hc];exact zlx (by rw[zjR laws day 200000 ds zb3 zb3 zb3];exact h)
theorem znc(laws:List Law)(ds:List Deed)(LA:Option Addr)(n nc:Nat)(DA:Option Addr)(m mc:Nat)(w:World)(hR:RightsIn w laws ds LA n nc DA m mc)(hF:FormsIn w)(hL:LensIn w)(hO:∀d∈ds,zdt d):
 Calls Tryz.prog 64 #[.agg #[.slice LA n nc,.slice DA m mc]] w (Ret w (.tuple #[.int .i64 (zcR laws ds 200000).2.1,.int .i64 (zcR laws ds 200000).2.2])):=by
 have oX:=fun W (hB:Below w.heap.size w W)=>zjQ laws ds 200000 LA n nc DA m mc W (hR.keep hB) (hF.keep hB) (hL.keep hB) hO
 clear hR hF hL hO;generalize zcR laws ds 200000=R at*;have iP:=zHi oX;clear oX;go_enter Tryz.func64,Tryz.ntmps64
 go_wp2_with (go_at_call 20;go_must(refine(iP.o _ Bw).mono ?_);rintro e wq ⟨base,b,la,co,rfl,h1,h2,h3,h4,h5⟩;have H3:=zHi h3;clear h1 h2 h3 h4 h5)
 go_ret2
 exact Ret.of rfl (Below.trans (zac (Below.refl _ _) _) (H3.o.mono Mcp))
def zoh(w:World)(laws:List Law)(ds:List Deed)(names:List ByteArray)(day:Int)(e:Ending)(w':World):Prop:=
 Below w.heap.size w w'/\((zeK laws ds names day≠0/\e=.returned (.tuple #[.pointer none,.int .i64 (zeK laws ds names day)]))\/
  (zeK laws ds names day=0/\∃base b la co,e=.returned (.tuple #[.pointer (some ⟨b,0,none⟩),.int .i64 0])/\w.heap.size<=base/\WldAt base w' b (zaQ laws ds day).1 la co/\(∃last,GoodSt (zaQ laws ds day).1 last)/\∃k,k<=60/\FewS k (zaQ laws ds day).1))
theorem on_any(laws:List Law)(ds:List Deed)(day:Int)(names:List ByteArray)(LA:Option Addr)(n nc:Nat)(DA:Option Addr)(m mc:Nat)(NA:Option Addr)(l c:Nat)(w:World)(hR:RightsIn w laws ds LA n nc DA m mc)(hF:FormsIn w)(hL:LensIn w)(hO:∀d∈ds,zdt d)
 (hl:l=names.length)(eE:names.length<=100000)(hN:∀s∈names,s.size<=100000)(hS:Sl w 1 sC NA names):
 Calls Tryz.prog 30 #[.agg #[.slice LA n nc,.slice DA m mc],.int .i64 day,.slice NA l c] w (zoh w laws ds names day):=by
 subst hl;have eg:∀args w,(callFunc 66 args).run Tryz.prog w=.ok (.enter 66 args) w:=enters_of Tryz.func66 Mcn rfl;have kZ:=fun W (hB:Below w.heap.size w W)=>znc laws ds LA n nc DA m mc W (hR.keep hB) (hF.keep hB) (hL.keep hB) hO
 have oX:=fun W (hB:Below w.heap.size w W)=>zjQ laws ds day LA n nc DA m mc W (hR.keep hB) (hF.keep hB) (hL.keep hB) hO
 have wU:=fun W (hB:Below w.heap.size w W)=>zlT 66 #[] eg (fun s=>!zaS s) NA names.length c names W rfl eE (hS.keep hB) (onn_gives names W hN)
 have iK:=zjS (laws:=laws) (ds:=ds) (day:=day);have he:zeK laws ds names day=if(zcR laws ds 200000).2.2 != 0 then(zcR laws ds 200000).2.2 else if names.any (fun s=>!zaS s)then 4 else if !zb0 day then 2 else 0:=rfl;unfold zoh;generalize zeK laws ds names day=E at*;obtain⟨R,rI⟩:∃R,R=zcR laws ds 200000:=⟨_,rfl⟩
 rw[<-rI]at kZ iK he;obtain⟨⟨S0,n0,er⟩,FI⟩:∃x,x=R:=⟨_,rfl⟩
 subst FI;simp only at kZ iK he;generalize hna:names.any (fun s=>!zaS s)=na at*;obtain⟨pA,iP,pi⟩:=yH3 kZ oX wU;clear kZ oX wU hR hF hL hO hS hN rI hna eg;by_cases h0:er=0
 ·subst h0;have pP:E=if na then 4 else if !zb0 day then 2 else 0:=by rw[he];rfl
  obtain⟨uo,uq⟩:=iK rfl;clear he iK;cases na
  ·generalize kT:zb0 day=dd at*;cases dd
   ·have hE:E=2:=by rw[pP];rfl
    subst hE;clear pP uo uq;go_enter Tryz.func30,Tryz.ntmps30
    go_wp2_with (first
     |(go_at_call 64;refine(pA.o _ Bw).mono ?_;rintro e wq ⟨rfl,zq,rfl⟩)
     |(go_at_call 65;refine(pi.o _ Bw).mono ?_;rintro e wq ⟨rfl,zq,rfl⟩)
     |(go_at_call 46;refine(zcI _ _).mono ?_;rintro e wq ⟨rfl,rfl⟩;rw[kT]))
    go_ret2
    exact⟨Bw,.inl ⟨by decide,rfl⟩⟩
   ·have hE:E=0:=by rw[pP];rfl
    subst hE;rw[<-uo];clear pP uo;generalize zcR laws ds day=R at*;obtain⟨S1,n1,e1⟩:=R;simp only at uq;subst uq;try simp only at iP
    go_enter Tryz.func30,Tryz.ntmps30
    go_wp2_with (first
     |(go_at_call 64;refine(pA.o _ Bw).mono ?_;rintro e wq ⟨rfl,zq,rfl⟩)
     |(go_at_call 65;refine(pi.o _ Bw).mono ?_;rintro e wq ⟨rfl,zq,rfl⟩)
     |(go_at_call 46;refine(zcI _ _).mono ?_;rintro e wq ⟨rfl,rfl⟩;rw[kT])
     |(go_at_call 20;go_must(refine(iP.o _ Bw).mono ?_);rintro e wq ⟨base,b,la,co,rfl,h1,h2,h3,h4,h5⟩;obtain⟨H1,H2,H3,H4,H5⟩:=yH5 h1 h2 h3 h4 h5;clear h1 h2 h3 h4 h5))
    go_ret2
    have h1:=H1.o;refine⟨Below.trans Bw (H3.o.mono ?_),.inr ⟨by first|rfl|trivial,base,b,la,co,rfl,Nat.le_trans ?_ h1,H2.o,H4.o,H5.o⟩⟩
    ·simp[zaf];omega
    ·simp[zaf];omega
  ·have hE:E=4:=by rw[pP];rfl
   subst hE;clear pP uo uq;go_enter Tryz.func30,Tryz.ntmps30
   go_wp2_with (first
    |(go_at_call 64;refine(pA.o _ Bw).mono ?_;rintro e wq ⟨rfl,zq,rfl⟩)
    |(go_at_call 65;refine(pi.o _ Bw).mono ?_;rintro e wq ⟨rfl,zq,rfl⟩))
   go_ret2
   exact⟨Bw,.inl ⟨by decide,rfl⟩⟩
 ·have hE:E=er:=by rw[he,if_pos Mdg]
  subst hE;clear he iK;go_enter Tryz.func30,Tryz.ntmps30
  go_wp2_with (go_at_call 64;refine(pA.o _ Bw).mono ?_;rintro e wq ⟨rfl,zq,rfl⟩)
  go_ret2
  exact⟨Bw,.inl ⟨h0,rfl⟩⟩
def zfD(s:St)(place:ByteArray)(day:Int):Parts:=match zaP s place day with
 |none=>[]
 |some i=>(s.graves.getD i zgl).holders
def ziM(w:World)(laws:List Law)(ds:List Deed)(place:ByteArray)(day:Int)(e:Ending)(w':World):Prop:=
 Below w.heap.size w w'/\((zeK laws ds [place] day≠0/\e=.returned (.tuple #[.slice none 0 0,.int .i64 (zeK laws ds [place] day)]))\/
  (zeK laws ds [place] day=0/\∃A c,e=.returned (.tuple #[.slice A (zfD (zaQ laws ds day).1 place day).length c,.int .i64 0])/\(zfD (zaQ laws ds day).1 place day).length<=c/\Sl w' 3 zaa A (zfD (zaQ laws ds day).1 place day)))
theorem znd(laws:List Law)(ds:List Deed)(place:ByteArray)(day:Int)(LA:Option Addr)(n nc:Nat)(DA:Option Addr)(m mc:Nat)(w:World)(hR:RightsIn w laws ds LA n nc DA m mc)(hF:FormsIn w)(hL:LensIn w)(hO:∀d∈ds,zdt d)(hp:place.size<=100000):
 Calls Tryz.prog 13 #[.agg #[.slice LA n nc,.slice DA m mc],.string place,.int .i64 day] w (ziM w laws ds place day):=by
 have y9:=fun W (hB:Below w.heap.size w W) NA (hS:Sl W 1 sC NA [place])=>on_any laws ds day [place] LA n nc DA m mc NA 1 1 W (hR.keep hB) (hF.keep hB) (hL.keep hB) hO rfl Mcp (by simpa using hp) hS
 have qQ:=zHi y9;unfold ziM;clear y9 hR hF hL hO;unfold zoh at qQ;generalize zeK laws ds [place] day=E at*;generalize(zaQ laws ds day).1=s at*;generalize bu:zfD s place day=xs at*;have ca:=zHi bu;clear bu;go_enter Tryz.func13,Tryz.ntmps13
 by_cases h0:E=0
 ·subst h0
  go_upto_region 4 with(go_at_call 30
                        go_must(refine(qQ.o _ Bw _ (zd4 (zas _ _ _ Mcp))).mono ?_)
                        rintro e wq ⟨h1,⟨ai,_⟩|⟨_,base,b,la,co,rfl,h2,h3,h4,h5⟩⟩
                        ·exact absurd rfl ai
                        obtain⟨H1,H3,H5⟩:=yH3 h1 h3 h5
                        clear h1 h2 h3 h4 h5)
  obtain⟨Bk,dd,cc,pp,wl,rr,mv,tv,ps,b8,hC,hP,hT⟩:=H3.o;obtain⟨k,fm,eh⟩:=H5.o;have cx:=eh.graves;have aQ:=fun W (hB:Below wq.heap.size wq W)=>zjB base b s la co place day W (hC.keep hB) (hT.keep hB) Mcm
  have aU:Below w.heap.size w wq:=Below.trans (zac (zac (Below.refl _ _) _) _ Mcp) (H1.o.mono Mcr);have aB:=zHi aU;have bu:=ca.o;unfold zfD at bu;clear ca;cases aX:zaP s place day with
  |none=>
   rw[aX]at aQ bu;subst bu;have bX:=zHi aQ;clear aQ hC hP hT eh aU;go_wp2_with (go_at_call 31;go_must(refine(bX.o _ Bw).mono ?_);rintro e wz ⟨rfl,z,rfl⟩;simp only[zlp,Option.map_none])
   go_ret2
   exact⟨aB.o.trans (Below.mono (B:=wq.heap.size) Bw aB.o.size),none,⟨0,rfl⟩,fun h=>absurd h Mcp⟩
  |some i=>
   obtain⟨T,g,ib,iF,aT,bP,gX,_⟩:=zev hT aX;rw[aX]at aQ bu;simp only[bP]at bu;subst bu;obtain⟨H,aJ,D,dc,frm,t1,t2,t3,t4,t5,t6,t7⟩:=gX;have cV:=zab t1;have mC:∀W,Below wq.heap.size wq W->Calls Tryz.prog 31 #[.pointer (some ⟨b,0,none⟩),.string place,.int .i64 day] W (Ret W (.pointer (some ⟨T,0,none⟩))):=fun W hB=>by
    have:=aQ W hB;simpa only[zlp,Option.map_some,iF]using this
   have bX:=zHi mC;unfold zbz at t1;obtain⟨-,-,-,-,k4⟩:=cF5 t1;have T5:=zHi t5;clear aQ mC hC hP hT eh aU t1 t5 t6 t7 bP aT iF ib aX;go_wp2_with (go_at_call 31;go_must(refine(bX.o _ Bw).mono ?_);rintro e wz ⟨rfl,z,rfl⟩)
   go_ret2
   exact⟨aB.o.trans (Below.mono (B:=wq.heap.size) Bw aB.o.size),H,aJ,rfl,t3,(Ro.sl zan T5.o).keep (n:=wq.heap.size) Bw⟩
 ·go_wp2_with (go_at_call 30
               go_must(refine(qQ.o _ Bw _ (zd4 (zas _ _ _ Mcp))).mono ?_)
               rintro e wq ⟨h1,⟨_,rfl⟩|⟨he,_⟩⟩;rotate_left 1
               ·exact absurd he h0
               have H1:=zHi h1
               clear h1)
  go_ret2
  exact⟨Below.trans (zac (zac (Below.refl _ _) _) _ Mcp) (H1.o.mono Mcr),.inl ⟨h0,rfl⟩⟩
def zgb(w:World)(laws:List Law)(ds:List Deed)(place:ByteArray)(ns:List ByteArray)(day:Int)(e:Ending)(w':World):Prop:=
 Below w.heap.size w w'/\((zeK laws ds (place::ns) day≠0/\e=.returned (.tuple #[.pointer none,.pointer none,.int .i64 (zeK laws ds (place::ns) day)]))\/
  (zeK laws ds (place::ns) day=0/\zaP (zaQ laws ds day).1 place day=none/\e=.returned (.tuple #[.pointer none,.pointer none,.int .i64 12]))\/
  (zeK laws ds (place::ns) day=0/\∃base b la co B T i g,zaP (zaQ laws ds day).1 place day=some i/\(zaQ laws ds day).1.graves[i]?=some g/\e=.returned (.tuple #[.pointer (some ⟨b,0,none⟩),.pointer (some ⟨T,0,none⟩),.int .i64 0])/\w.heap.size<=base/\WldAt base w' b (zaQ laws ds day).1 la co/\TombAt w' base B T g/\(∃last,GoodSt (zaQ laws ds day).1 last)/\∃k,k<=60/\FewS k (zaQ laws ds day).1))
theorem zlU(laws:List Law)(ds:List Deed)(place:ByteArray)(ns:List ByteArray)(day:Int)(LA:Option Addr)(n nc:Nat)(DA:Option Addr)(m mc:Nat)(NA:Option Addr)(l c:Nat)(w:World)(hR:RightsIn w laws ds LA n nc DA m mc)(hF:FormsIn w)(hL:LensIn w)(hO:∀d∈ds,zdt d)(hp:place.size<=100000)
 (hl:l=ns.length)(eE:ns.length<=1000)(hN:∀s∈ns,s.size<=100000)(hS:Sl w 1 sC NA ns):
 Calls Tryz.prog 32 #[.agg #[.slice LA n nc,.slice DA m mc],.int .i64 day,.string place,.slice NA l c] w (zgb w laws ds place ns day):=by
 subst hl;have y9:=fun W (hB:Below w.heap.size w W) XA xc (hS:Sl W 1 sC XA (place::ns))=>on_any laws ds day (place::ns) LA n nc DA m mc XA (1+ns.length) xc W (hR.keep hB) (hF.keep hB) (hL.keep hB) hO Mcr Mcr (by simpa using⟨hp,hN⟩) hS
 obtain⟨qQ,HS⟩:=yH2 y9 hS;unfold zgb;clear y9 hR hF hL hO hS;unfold zoh at qQ;generalize zeK laws ds (place::ns) day=E at*;generalize(zaQ laws ds day).1=s at*;go_enter Tryz.func32,Tryz.ntmps32
 go_upto_region 1 with fail
 go_cut [11,12]from 14 to 24 (fun v11 v12 W=>Below w.heap.size w W/\((E≠0/\v11=.pointer none/\v12=.int .i64 E)\/(E=0/\v12=.int .i64 0/\∃base b la co,v11=.pointer (some ⟨b,0,none⟩)/\w.heap.size<=base/\WldAt base W b s la co/\(∃last,GoodSt s last)/\∃k,k<=60/\FewS k s)))
 case first=>
  refine wp_region_held_drew (S:=(fun w'=>w'.cell? ⟨w.heap.size,0,none⟩=some (.slice LA n nc)/\w'.cell? ⟨w.heap.size,1,none⟩=some (.slice DA m mc))) Mcn ?hS ?hrest
  case hS=>refine⟨?_,?_⟩<;>(simp[go_sem];done)
  case hrest=>
   intro hHeld;refine TkH 0 ?_;refine TkH 1 ?_;refine TkH 2 ?_;refine TkH 4 ?_;refine OnH 3 fun K hK=>?_
   go_simp
   have FR:Below w.heap.size w (w.alloc (.cells #[.slice LA n nc,.slice DA m mc] 25)).drew:=Bw;have bj:∀W,Below (w.heap.size+1) (w.alloc (.cells #[.slice LA n nc,.slice DA m mc] 25)).drew W->W.cell? ⟨w.heap.size,0,none⟩=some (.slice LA n nc)/\W.cell? ⟨w.heap.size,1,none⟩=some (.slice DA m mc):=fun W hW=>by
    refine⟨(zah hW (Nat.lt_succ_self _)).trans ?_,(zah hW (Nat.lt_succ_self _)).trans ?_⟩<;>(simp[go_sem];done)
   have dZ:=zHi bj;clear bj;have aU:Below (w.heap.size+1) (w.alloc (.cells #[.slice LA n nc,.slice DA m mc] 25)).drew ((w.alloc (.cells #[.slice LA n nc,.slice DA m mc] 25)).drew.alloc (.cells #[.string place] 9)):=zac (Below.refl _ _) _ Mcp;refine NxM hK (fun hHeld=>?_) (dZ.o _ aU);clear hK K;refine OnH 5 fun K hK=>?_
   refine zal (v:=.slice (some ⟨w.heap.size+1,0,none⟩) 1 1) (n:=1) (m:=ns.length) rfl _ _ rfl zbM zaD zbL rfl (base:=w.heap.size+1) (xs:=[place]) (ys:=ns) (.inr ⟨w.heap.size+1,0,1,#[.string place],rfl,by omega,zas _ _ _ Mcp,Nat.le_refl _,by simp[maxLen],by simp,fun j u hj=>?hel⟩) rfl rfl rfl (HS.o.keep (n:=w.heap.size) Bw) McL Mcm Mcp ?happ
   case hel=>
    match j,hj with
    |0,hj=>simpa[sC]using hj
    |j+1,hj=>simp[sC]at hj
   case happ=>
    intro v6 w6 h1 h2 h3;obtain⟨A6,c6,du,hS6,_⟩:=h1.sl zaD;rw[show([place]++ns).length=1+ns.length by simp;omega]at du;subst du;have aG:Below (w.heap.size+1) (w.alloc (.cells #[.slice LA n nc,.slice DA m mc] 25)).drew w6:=zaW aU h2 (Nat.le_refl _) Mcp;have AF:Below w.heap.size w w6:=FR.trans (aG.mono (Nat.le_succ _));have EY:=zHi AF;refine NxM hK (fun hHeld=>?_) (dZ.o _ aG);clear hK K;refine OnH 6 fun K hK=>?_
    go_simp
    refine(qQ.o w6 EY.o A6 c6 hS6).mono ?_;rintro e wq ⟨k1,eS⟩;have aR:Below (w.heap.size+1) (w.alloc (.cells #[.slice LA n nc,.slice DA m mc] 25)).drew wq:=aG.trans (k1.mono (by have:=aG.size;simp at this;omega));have bC:=zHi (AF.trans (k1.mono AF.size));clear h1 h2 h3 k1 AF aG aU FR qQ;rcases eS with⟨ai,rfl⟩|⟨he,base,b,la,co,rfl,q2,q3,q4,q5⟩
    ·have iN:=zHi ai;clear ai;refine NxM hK (fun hHeld=>?_) (dZ.o _ aR);clear hK K;refine TkH 7 ?_;refine TkH 8 ?_;refine TkH 9 ?_;refine OnH 10 fun K hK=>?_
     go_simp
     refine NxM hK (fun hHeld=>?_) (dZ.o _ aR);clear hK K;refine OnH 11 fun K hK=>?_
     go_simp
     refine NxM hK (fun hHeld=>?_) (dZ.o _ aR);clear hK K;refine wpAnyH_done Mcn ?_ _;go_wp2_with fail
     go_meet
     exact⟨bC.o,.inl ⟨iN.o,rfl,rfl⟩⟩
    ·obtain⟨HE,Q2,Q3,Q4,Q5⟩:=yH5 he q2 q3 q4 q5;clear he q2 q3 q4 q5;refine NxM hK (fun hHeld=>?_) (dZ.o _ aR);clear hK K;refine TkH 7 ?_;refine TkH 8 ?_;refine TkH 9 ?_;refine OnH 10 fun K hK=>?_
     go_simp
     refine NxM hK (fun hHeld=>?_) (dZ.o _ aR);clear hK K;refine OnH 11 fun K hK=>?_
     go_simp
     refine NxM hK (fun hHeld=>?_) (dZ.o _ aR);clear hK K;refine wpAnyH_done Mcn ?_ _;go_wp2_with fail
     go_meet
     exact⟨bC.o,.inr ⟨HE.o,rfl,base,b,la,co,rfl,Nat.le_trans EY.o.size Q2.o,Q3.o,Q4.o,Q5.o⟩⟩
 case rest=>
  obtain⟨hB,eS⟩:=hcut;rcases eS with⟨ai,rfl,rfl⟩|⟨he,rfl,base,b,la,co,rfl,q2,q3,q4,q5⟩
  ·have iN:=zHi ai;go_wp2_with fail
   go_ret3
   exact⟨hB,.inl ⟨iN.o,rfl⟩⟩
  ·have HE:=zHi he;clear he;obtain⟨HB,Q3,Q4,Q5⟩:=yH4 hB q3 q4 q5;obtain⟨Bk,dd,cc,pp,wl,rr,mv,tv,ps,b8,hC,hP,hT⟩:=q3;obtain⟨k,fm,eh⟩:=q5;have cx:=eh.graves;have aQ:=fun W (hB:Below wc.heap.size wc W)=>zjB base b s la co place day W (hC.keep hB) (hT.keep hB) Mcm
   have hsz:=hB.size;have qX:=zHi hsz;cases aX:zaP s place day with
   |none=>
    rw[aX]at aQ;obtain⟨bX,kI⟩:=yH2 aQ aX;clear aQ hC hP hT eh hB q4 aX;go_wp2_with (go_at_call 31;go_must(refine(bX.o _ Bw).mono ?_);rintro e wz ⟨rfl,z,rfl⟩;simp only[zlp,Option.map_none])
    go_ret3
    exact⟨HB.o.trans (Below.mono (B:=wc.heap.size) Bw qX.o),.inr (.inl ⟨HE.o,kI.o,rfl⟩)⟩
   |some i=>
    obtain⟨T,g,ib,iF,aT,bP,gX,_⟩:=zev hT aX;have mC:∀W,Below wc.heap.size wc W->Calls Tryz.prog 31 #[.pointer (some ⟨b,0,none⟩),.string place,.int .i64 day] W (Ret W (.pointer (some ⟨T,0,none⟩))):=fun W hB=>by
     have:=aQ W hB;exact MaM
    obtain⟨bX,kI,zj,eL⟩:=yH4 mC aX aT gX;clear aQ mC hC hP hT eh hB q4 gX bP iF ib aX aT;go_wp2_with (go_at_call 31;go_must(refine(bX.o _ Bw).mono ?_);rintro e wz ⟨rfl,z,rfl⟩)
    go_ret3
    have fj:Below wc.heap.size wc (wc.ext z):=Bw;exact⟨HB.o.trans (fj.mono qX.o),.inr (.inr ⟨HE.o,base,b,la,co,Bk,T,i,g,kI.o,zj.o,rfl,q2,Q3.o.keep fj,eL.o.keep fj,Q4.o,Q5.o⟩)⟩
