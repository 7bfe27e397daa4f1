/- Walks of chapter 5's Holders, inForce, Class, Ends. -/
import Derived.Test.YtmfbdfejhdkiaaaGreatDoorE5
import Derived.Test.YtmfbdfejhdkiaaaGreatDoorE7
import Derived.Test.YtmfbdfejhdkiaaaGreatDoorA3
set_option linter.all false
set_option maxRecDepth 100000
set_option maxHeartbeats 4000000
namespace Go.Proofs.YtmfbdfejhdkiaaaGreatDoor
open Go.RowKit Go.Shelf
attribute [local go_sem] World.cell?_alloc_mark zae za4 zao za8 zav zaw zax zay zaz za0 za1
attribute [local go_sem] zap zac
noncomputable def zdp (laws:List Law) (s:St) (co:Nat) (last:Int) (d:Deed):St×Int:=
 if decide (60<=co)then(s,8)else if decide (d.day<last)then(s,9)else zbk laws s d
def ziL(base b:Nat)(x:St×Int)(day la co:Int)(w:World)(e:Ending)(w':World):Prop:=
 e=.returned (.int .i64 x.2)/\WldAt base w' b x.1 (if x.2=0 then day else la) (if x.2=0 then co+1 else co)/\Below base w w'
theorem wldC_tick{W:World}{b d c p wl r:Nat}{mv tv:Value}{la co:Int}(h:WldC W b d c p wl r mv tv la co)(la' co':Int):WldC ((W.setCell ⟨b,7,none⟩ (.int .i64 la')).setCell ⟨b,8,none⟩ (.int .i64 co')) b d c p wl r mv tv la' co':=by
 unfold WldC at*;have:=Joins.block_setCell (i:=8) (Joins.block_setCell (i:=7) h (.int .i64 la')) (.int .i64 co');simpa using this
theorem wld_tick{base b:Nat}{W:World}{s:St}{la co:Int}(h:WldAt base W b s la co)(la' co':Int):WldAt base ((W.setCell ⟨b,7,none⟩ (.int .i64 la')).setCell ⟨b,8,none⟩ (.int .i64 co')) b s la' co':=by
 obtain⟨B,d,c,p,wl,r,mv,tv,ps,h1,h2,h3,h4⟩:=h;have hg:W.grownBy ((W.setCell ⟨b,7,none⟩ (.int .i64 la')).setCell ⟨b,8,none⟩ (.int .i64 co')) (some b):=zbo (za2 W b 7 _) (za2 _ b 8 _);exact⟨B,d,c,p,wl,r,mv,tv,ps,h1,wldC_tick h2 la' co',h3.kept hg h2 Mcu Mcu Mcu,h4.kept hg h2 Mcu Mcu Mcu Mcu⟩
theorem wrap_k{k:Nat}(h:k<1000):wrap64 ((k:Int)+1)=(k:Int)+1:=by
 unfold wrap64;omega
theorem zmT{k:Nat}(h:k<1000):IntKind.i64.wrap ((k:Int)+1)=(k:Int)+1:=by
 rw[IntKind.wrap_i64];omega
theorem wld_drew{base b:Nat}{W:World}{s:St}{la co:Int}(h:WldAt base W b s la co):WldAt base W.drew b s la co:=h.keep (n:=W.heap.size) ⟨rfl,rfl,rfl,Qc,fun _ _=>rfl⟩
theorem taken_ok{base b:Nat}{s':St}{day la co:Int}{w w':World}(h:WldAt base w' b s' day (co+1))(hB:Below base w w'):ziL base b (s',0) day la co w (.returned (.int .i64 0)) w':=⟨rfl,by simpa using h,hB⟩
theorem taken_no{base b:Nat}{s':St}{day la co er:Int}{w w':World}(h0:er≠0)(h:WldAt base w' b s' la co)(hB:Below base w w'):ziL base b (s',er) day la co w (.returned (.int .i64 er)) w':=⟨rfl,by simpa[h0]using h,hB⟩
theorem zkE(base b:Nat)(s:St)(k:Nat)(last:Int)(laws:List Law)(LA:Option Addr)(lc:Nat)(d:Deed)(B:Option Addr)(c:Nat)(w:World)(hW:WldAt base w b s last k)(jm:GoodSt s last)(hF:FewS k s)(hd:OkD d)(bc:za9 laws=0)(hL:LensIn w)(eT:Sl w 4 Law.cells LA laws)(ao:d.to.length<=c)(hS:Sl w 3 RPart.cells B d.to):
 Calls Tryz.prog 21 #[.pointer (some ⟨b,0,none⟩),.slice LA laws.length lc,d.v B c] w (ziL base b (zdp laws s k last d) d.day last k w):=by
 have am:=hW;obtain⟨Bk,dd,cc,pp,wl,rr,mv,tv,ps,aN,hC,hP,hT⟩:=hW;have cJ:=zab hC;have cC:=hd.kind;have HW:=zHi am;unfold WldC at hC;obtain⟨-,-,-,-,-,-,-,c7,c8⟩:=cF9 hC;clear hC hP hT am;by_cases kr:60<=k
 ·have hx:zdp laws s k last d=(s,8):=by simp[zdp,kr]
  rw[hx];obtain⟨kd,dy,pl,fr,ts,cl,yr⟩:=d;have mR:(60:Int)<=(k:Int):=Mcq;clear hd hx jm hF eT hS cC hL bc ao;unfold Deed.v;simp only;go_enter Tryz.func21,Tryz.ntmps21
  exact Mbp
 have mR:¬(60:Int)<=(k:Int):=Mcq;have xH:k<1000:=Mcq;by_cases aa:d.day<last
 ·have hx:zdp laws s k last d=(s,9):=by simp[zdp,kr,aa]
  rw[hx];obtain⟨kd,dy,pl,fr,ts,cl,yr⟩:=d;simp only at aa;clear hd hx jm hF eT hS cC hL bc ao;unfold Deed.v;simp only;go_enter Tryz.func21,Tryz.ntmps21
  go_upto_region 3 with fail
  go_quiet (fail)
  exact Mbp
 have hx:zdp laws s k last d=zbk laws s d:=by simp[zdp,kr,aa]
 rw[hx];clear hx;have bu:last<=d.day:=Mcq;have cg:=hF.graves;have bj:=hF.kids;have kF:=hF.marr;have bY:=hF.wills d.frm;have Hb:∀g∈s.graves,g.holders.length<=10000:=fun g hg=>by have:=(hF.held g hg).1;omega
 have xA:∀g∈s.graves,g.holders.length<=70000/\g.died.length<=1000:=fun g hg=>by have:=hF.held g hg;omega
 have fM:laws.length<=10:=by
  unfold za9 at bc;split at bc
  ·cases bc
  ·rename_i h;simpa using h
 have bH:∀g∈s.graves,g.fin<=200000:=fun g hg=>(hF.held g hg).2.2
 have bJ:=zfc bc d.day;obtain⟨dl,HF,iM,cX,dB,eN,dU⟩:=yH7 jm (And.intro Hb (And.intro xA bH)) hd hL eT hS bJ;have e0:∀W:World,zbk laws s d=zbk laws s d:=fun _=>rfl
 clear jm hF hd hL eT hS bc bJ Hb xA bH e0;have iz:d.kind=0\/d.kind=1\/d.kind=2\/d.kind=3\/d.kind=4\/d.kind=5\/d.kind=6\/d.kind=7\/d.kind=8:=Mcq;clear cC;obtain⟨kd,dy,pl,fr,ts,cl,yr⟩:=d;simp only at aa bu iz ao bY;rcases iz with rfl|rfl|rfl|rfl|rfl|rfl|rfl|rfl|rfl
 ·have bj:∀W,Qa w W->Calls Tryz.prog 50 #[.pointer (some ⟨b,0,none⟩),.agg #[.int .i64 0,.int .i64 dy,.string pl,.string fr,.slice B ts.length c,.int .i64 cl,.int .i64 yr]] W (zbC base b (zbk laws s ⟨0,dy,pl,fr,ts,cl,yr⟩) last k W):=fun W hB=>by
   rw[show zbk laws s ⟨0,dy,pl,fr,ts,cl,yr⟩=zcT s ⟨0,dy,pl,fr,ts,cl,yr⟩from by simp[zbk]];exact grant_any base b s last k ⟨0,dy,pl,fr,ts,cl,yr⟩ B c W (HW.o.keep hB) (cX.o.keep hB) iM.o rfl Mcq ao (eN.o.keep hB)
  generalize zbk laws s ⟨0,dy,pl,fr,ts,cl,yr⟩=X at*;have bZ:=zHi bj;clear bj dl HF iM cX dB eN dU;obtain⟨s',er⟩:=X;unfold Deed.v;simp only;go_enter Tryz.func21,Tryz.ntmps21
  go_upto_region 3 with fail
  go_quiet (fail)
  go_upto_region 18 with
   (go_at_call 50
    go_must(refine(bZ.o _ Bw).mono ?_)
    rintro e wq ⟨rfl,hW,hB,hK⟩;have h0:=((hK w.heap.size _ _ (zat _ _ _ rfl)).trans (zat _ _ _ rfl))
    obtain⟨Bk',d',c',p',wl',r',mv',tv',ps',ew,cB,gF,fV⟩:=id hW;obtain⟨nK,ob,oa,nD⟩:=yH4 hW cB hB h0
    clear hW hB hK h0 gF fV cB)
  exact Md
 ·have bj:∀W,Qa w W->Calls Tryz.prog 51 #[.pointer (some ⟨b,0,none⟩),.agg #[.int .i64 1,.int .i64 dy,.string pl,.string fr,.slice B ts.length c,.int .i64 cl,.int .i64 yr]] W (zbC base b (zbk laws s ⟨1,dy,pl,fr,ts,cl,yr⟩) last k W):=fun W hB=>by
   rw[show zbk laws s ⟨1,dy,pl,fr,ts,cl,yr⟩=zbs s ⟨1,dy,pl,fr,ts,cl,yr⟩from by simp[zbk]];exact zlt base b s last k last ⟨1,dy,pl,fr,ts,cl,yr⟩ B c W (HW.o.keep hB) dl.o iM.o rfl Mcq HF.o.1 ao (eN.o.keep hB)
  generalize zbk laws s ⟨1,dy,pl,fr,ts,cl,yr⟩=X at*;have bZ:=zHi bj;clear bj dl HF iM cX dB eN dU;obtain⟨s',er⟩:=X;unfold Deed.v;simp only;go_enter Tryz.func21,Tryz.ntmps21
  go_upto_region 3 with fail
  go_quiet (fail)
  go_upto_region 18 with
   (go_at_call 51
    go_must(refine(bZ.o _ Bw).mono ?_)
    rintro e wq ⟨rfl,hW,hB,hK⟩;have h0:=((hK w.heap.size _ _ (zat _ _ _ rfl)).trans (zat _ _ _ rfl))
    obtain⟨Bk',d',c',p',wl',r',mv',tv',ps',ew,cB,gF,fV⟩:=id hW;obtain⟨nK,ob,oa,nD⟩:=yH4 hW cB hB h0
    clear hW hB hK h0 gF fV cB)
  exact Md
 ·have bj:∀W,Qa w W->Calls Tryz.prog 52 #[.pointer (some ⟨b,0,none⟩),.agg #[.int .i64 2,.int .i64 dy,.string pl,.string fr,.slice B ts.length c,.int .i64 cl,.int .i64 yr]] W (zbC base b (zbk laws s ⟨2,dy,pl,fr,ts,cl,yr⟩) last k W):=fun W hB=>by
   rw[show zbk laws s ⟨2,dy,pl,fr,ts,cl,yr⟩=zba s ⟨2,dy,pl,fr,ts,cl,yr⟩from by simp[zbk]];exact zks base b s last k last ⟨2,dy,pl,fr,ts,cl,yr⟩ B c W (HW.o.keep hB) dl.o Mcq HF.o.1
  generalize zbk laws s ⟨2,dy,pl,fr,ts,cl,yr⟩=X at*;have bZ:=zHi bj;clear bj dl HF iM cX dB eN dU;obtain⟨s',er⟩:=X;unfold Deed.v;simp only;go_enter Tryz.func21,Tryz.ntmps21
  go_upto_region 3 with fail
  go_quiet (fail)
  go_upto_region 18 with
   (go_at_call 52
    go_must(refine(bZ.o _ Bw).mono ?_)
    rintro e wq ⟨rfl,hW,hB,hK⟩;have h0:=((hK w.heap.size _ _ (zat _ _ _ rfl)).trans (zat _ _ _ rfl))
    obtain⟨Bk',d',c',p',wl',r',mv',tv',ps',ew,cB,gF,fV⟩:=id hW;obtain⟨nK,ob,oa,nD⟩:=yH4 hW cB hB h0
    clear hW hB hK h0 gF fV cB)
  exact Md
 ·have bj:∀W,Qa w W->Calls Tryz.prog 53 #[.pointer (some ⟨b,0,none⟩),.agg #[.int .i64 3,.int .i64 dy,.string pl,.string fr,.slice B ts.length c,.int .i64 cl,.int .i64 yr]] W (zbC base b (zbk laws s ⟨3,dy,pl,fr,ts,cl,yr⟩) last k W):=fun W hB=>by
   rw[show zbk laws s ⟨3,dy,pl,fr,ts,cl,yr⟩=zdb s ⟨3,dy,pl,fr,ts,cl,yr⟩from by simp[zbk]];exact zmG base b s last k last ⟨3,dy,pl,fr,ts,cl,yr⟩ B c W (HW.o.keep hB) (cX.o.keep hB) iM.o Mcq HF.o.2.2
  generalize zbk laws s ⟨3,dy,pl,fr,ts,cl,yr⟩=X at*;have bZ:=zHi bj;clear bj dl HF iM cX dB eN dU;obtain⟨s',er⟩:=X;unfold Deed.v;simp only;go_enter Tryz.func21,Tryz.ntmps21
  go_upto_region 3 with fail
  go_quiet (fail)
  go_upto_region 18 with
   (go_at_call 53
    go_must(refine(bZ.o _ Bw).mono ?_)
    rintro e wq ⟨rfl,hW,hB,hK⟩;have h0:=((hK w.heap.size _ _ (zat _ _ _ rfl)).trans (zat _ _ _ rfl))
    obtain⟨Bk',d',c',p',wl',r',mv',tv',ps',ew,cB,gF,fV⟩:=id hW;obtain⟨nK,ob,oa,nD⟩:=yH4 hW cB hB h0
    clear hW hB hK h0 gF fV cB)
  exact Md
 ·have bj:∀W,Qa w W->Calls Tryz.prog 55 #[.pointer (some ⟨b,0,none⟩),.agg #[.int .i64 4,.int .i64 dy,.string pl,.string fr,.slice B ts.length c,.int .i64 cl,.int .i64 yr]] W (zbC base b (zbk laws s ⟨4,dy,pl,fr,ts,cl,yr⟩) last k W):=fun W hB=>by
   rw[show zbk laws s ⟨4,dy,pl,fr,ts,cl,yr⟩=zgZ s ⟨4,dy,pl,fr,ts,cl,yr⟩from by simp[zbk]];exact will_any base b s last k ⟨4,dy,pl,fr,ts,cl,yr⟩ B c W (HW.o.keep hB) iM.o rfl (eN.o.keep hB)
  generalize zbk laws s ⟨4,dy,pl,fr,ts,cl,yr⟩=X at*;have bZ:=zHi bj;clear bj dl HF iM cX dB eN dU;obtain⟨s',er⟩:=X;unfold Deed.v;simp only;go_enter Tryz.func21,Tryz.ntmps21
  go_upto_region 3 with fail
  go_quiet (fail)
  go_upto_region 7 with fail
  refine wp_region_held_drew (S:=(fun w'=>w'.cell? ⟨w.heap.size,0,none⟩=some (.int .i64 4)/\w'.cell? ⟨w.heap.size,1,none⟩=some (.int .i64 dy)/\w'.cell? ⟨w.heap.size,2,none⟩=some (.string pl)/\w'.cell? ⟨w.heap.size,3,none⟩=some (.string fr)/\w'.cell? ⟨w.heap.size,4,none⟩=some (.slice B ts.length c)/\w'.cell? ⟨w.heap.size,5,none⟩=some (.int .i64 cl)/\w'.cell? ⟨w.heap.size,6,none⟩=some (.int .i64 yr))) Mcs ?hS4 ?hrest4
  case hS4=>refine⟨?_,?_,?_,?_,?_,?_,?_⟩<;>(simp[go_sem];done)
  intro hHeld;refine TkH 0 ?_;refine TkH 1 ?_;refine TkH 2 ?_;refine TkH 3 ?_;refine OnH 4 fun K hK=>?_
  go_simp
  refine(bZ.o _ Bw).mono ?_;rintro e wq ⟨rfl,hW,hB,hK⟩;have h0:=((hK w.heap.size _ _ (zat _ _ _ rfl)).trans (zat _ _ _ rfl))
  obtain⟨Bk',d',c',p',wl',r',mv',tv',ps',ew,cB,gF,fV⟩:=id hW;obtain⟨nK,ob,oa,nD⟩:=yH4 hW cB hB h0;have d0:wq.cell? ⟨w.heap.size,0,none⟩=some (.int .i64 4):=McT;exact MbT
 ·have bj:∀W,Qa w W->Calls Tryz.prog 55 #[.pointer (some ⟨b,0,none⟩),.agg #[.int .i64 5,.int .i64 dy,.string pl,.string fr,.slice B ts.length c,.int .i64 cl,.int .i64 yr]] W (zbC base b (zbk laws s ⟨5,dy,pl,fr,ts,cl,yr⟩) last k W):=fun W hB=>by
   rw[show zbk laws s ⟨5,dy,pl,fr,ts,cl,yr⟩=zb6 s ⟨5,dy,pl,fr,ts,cl,yr⟩from by simp[zbk]];exact zlE base b s last k ⟨5,dy,pl,fr,ts,cl,yr⟩ B c W (HW.o.keep hB) iM.o rfl ao (eN.o.keep hB)
  generalize zbk laws s ⟨5,dy,pl,fr,ts,cl,yr⟩=X at*;have bZ:=zHi bj;clear bj dl HF iM cX dB eN dU;obtain⟨s',er⟩:=X;unfold Deed.v;simp only;go_enter Tryz.func21,Tryz.ntmps21
  go_upto_region 3 with fail
  go_quiet (fail)
  go_upto_region 7 with fail
  refine wp_region_held_drew (S:=(fun w'=>w'.cell? ⟨w.heap.size,0,none⟩=some (.int .i64 5)/\w'.cell? ⟨w.heap.size,1,none⟩=some (.int .i64 dy)/\w'.cell? ⟨w.heap.size,2,none⟩=some (.string pl)/\w'.cell? ⟨w.heap.size,3,none⟩=some (.string fr)/\w'.cell? ⟨w.heap.size,4,none⟩=some (.slice B ts.length c)/\w'.cell? ⟨w.heap.size,5,none⟩=some (.int .i64 cl)/\w'.cell? ⟨w.heap.size,6,none⟩=some (.int .i64 yr))) Mcs ?hS5 ?hrest5
  case hS5=>refine⟨?_,?_,?_,?_,?_,?_,?_⟩<;>(simp[go_sem];done)
  intro hHeld;refine TkH 0 ?_;refine TkH 1 ?_;refine TkH 2 ?_;refine TkH 3 ?_;refine OnH 4 fun K hK=>?_
  go_simp
  refine(bZ.o _ Bw).mono ?_;rintro e wq ⟨rfl,hW,hB,hK⟩;have h0:=((hK w.heap.size _ _ (zat _ _ _ rfl)).trans (zat _ _ _ rfl))
  obtain⟨Bk',d',c',p',wl',r',mv',tv',ps',ew,cB,gF,fV⟩:=id hW;obtain⟨nK,ob,oa,nD⟩:=yH4 hW cB hB h0;have d0:wq.cell? ⟨w.heap.size,0,none⟩=some (.int .i64 5):=McT;exact MbT
 ·have bj:∀W,Qa w W->Calls Tryz.prog 55 #[.pointer (some ⟨b,0,none⟩),.agg #[.int .i64 6,.int .i64 dy,.string pl,.string fr,.slice B ts.length c,.int .i64 cl,.int .i64 yr]] W (zbC base b (zbk laws s ⟨6,dy,pl,fr,ts,cl,yr⟩) last k W):=fun W hB=>by
   rw[show zbk laws s ⟨6,dy,pl,fr,ts,cl,yr⟩=zcD s ⟨6,dy,pl,fr,ts,cl,yr⟩from by simp[zbk]];exact child_any base b s last k ⟨6,dy,pl,fr,ts,cl,yr⟩ B c W (HW.o.keep hB) iM.o rfl ao (eN.o.keep hB) Mcq
  generalize zbk laws s ⟨6,dy,pl,fr,ts,cl,yr⟩=X at*;have bZ:=zHi bj;clear bj dl HF iM cX dB eN dU;obtain⟨s',er⟩:=X;unfold Deed.v;simp only;go_enter Tryz.func21,Tryz.ntmps21
  go_upto_region 3 with fail
  go_quiet (fail)
  go_upto_region 7 with fail
  refine wp_region_held_drew (S:=(fun w'=>w'.cell? ⟨w.heap.size,0,none⟩=some (.int .i64 6)/\w'.cell? ⟨w.heap.size,1,none⟩=some (.int .i64 dy)/\w'.cell? ⟨w.heap.size,2,none⟩=some (.string pl)/\w'.cell? ⟨w.heap.size,3,none⟩=some (.string fr)/\w'.cell? ⟨w.heap.size,4,none⟩=some (.slice B ts.length c)/\w'.cell? ⟨w.heap.size,5,none⟩=some (.int .i64 cl)/\w'.cell? ⟨w.heap.size,6,none⟩=some (.int .i64 yr))) Mcs ?hS6 ?hrest6
  case hS6=>refine⟨?_,?_,?_,?_,?_,?_,?_⟩<;>(simp[go_sem];done)
  intro hHeld;refine TkH 0 ?_;refine TkH 1 ?_;refine TkH 2 ?_;refine TkH 3 ?_;refine OnH 4 fun K hK=>?_
  go_simp
  refine(bZ.o _ Bw).mono ?_;rintro e wq ⟨rfl,hW,hB,hK⟩;have h0:=((hK w.heap.size _ _ (zat _ _ _ rfl)).trans (zat _ _ _ rfl))
  obtain⟨Bk',d',c',p',wl',r',mv',tv',ps',ew,cB,gF,fV⟩:=id hW;obtain⟨nK,ob,oa,nD⟩:=yH4 hW cB hB h0;have d0:wq.cell? ⟨w.heap.size,0,none⟩=some (.int .i64 6):=McT;exact MbT
 ·have bj:∀W,Qa w W->Calls Tryz.prog 55 #[.pointer (some ⟨b,0,none⟩),.agg #[.int .i64 7,.int .i64 dy,.string pl,.string fr,.slice B ts.length c,.int .i64 cl,.int .i64 yr]] W (zbC base b (zbk laws s ⟨7,dy,pl,fr,ts,cl,yr⟩) last k W):=fun W hB=>by
   rw[show zbk laws s ⟨7,dy,pl,fr,ts,cl,yr⟩=zdu s ⟨7,dy,pl,fr,ts,cl,yr⟩from by simp[zbk]];exact marry_any base b s last k ⟨7,dy,pl,fr,ts,cl,yr⟩ B c W (HW.o.keep hB) iM.o rfl ao (eN.o.keep hB) Mcq
  generalize zbk laws s ⟨7,dy,pl,fr,ts,cl,yr⟩=X at*;have bZ:=zHi bj;clear bj dl HF iM cX dB eN dU;obtain⟨s',er⟩:=X;unfold Deed.v;simp only;go_enter Tryz.func21,Tryz.ntmps21
  go_upto_region 3 with fail
  go_quiet (fail)
  go_upto_region 7 with fail
  refine wp_region_held_drew (S:=(fun w'=>w'.cell? ⟨w.heap.size,0,none⟩=some (.int .i64 7)/\w'.cell? ⟨w.heap.size,1,none⟩=some (.int .i64 dy)/\w'.cell? ⟨w.heap.size,2,none⟩=some (.string pl)/\w'.cell? ⟨w.heap.size,3,none⟩=some (.string fr)/\w'.cell? ⟨w.heap.size,4,none⟩=some (.slice B ts.length c)/\w'.cell? ⟨w.heap.size,5,none⟩=some (.int .i64 cl)/\w'.cell? ⟨w.heap.size,6,none⟩=some (.int .i64 yr))) Mcs ?hS7 ?hrest7
  case hS7=>refine⟨?_,?_,?_,?_,?_,?_,?_⟩<;>(simp[go_sem];done)
  intro hHeld;refine TkH 0 ?_;refine TkH 1 ?_;refine TkH 2 ?_;refine TkH 3 ?_;refine OnH 4 fun K hK=>?_
  go_simp
  refine(bZ.o _ Bw).mono ?_;rintro e wq ⟨rfl,hW,hB,hK⟩;have h0:=((hK w.heap.size _ _ (zat _ _ _ rfl)).trans (zat _ _ _ rfl))
  obtain⟨Bk',d',c',p',wl',r',mv',tv',ps',ew,cB,gF,fV⟩:=id hW;obtain⟨nK,ob,oa,nD⟩:=yH4 hW cB hB h0;have d0:wq.cell? ⟨w.heap.size,0,none⟩=some (.int .i64 7):=McT;exact MbT
 ·have bj:∀W,Qa w W->Calls Tryz.prog 54 #[.pointer (some ⟨b,0,none⟩),.slice LA laws.length lc,.agg #[.int .i64 8,.int .i64 dy,.string pl,.string fr,.slice B ts.length c,.int .i64 cl,.int .i64 yr]] W (zbC base b (zbk laws s ⟨8,dy,pl,fr,ts,cl,yr⟩) last k W):=fun W hB=>by
   rw[show zbk laws s ⟨8,dy,pl,fr,ts,cl,yr⟩=zdP laws s ⟨8,dy,pl,fr,ts,cl,yr⟩from by simp[zbk]];exact death_any base b s last k last laws LA lc ⟨8,dy,pl,fr,ts,cl,yr⟩ B c W (HW.o.keep hB) dl.o bu rfl dU.o fM (dB.o.keep hB) Mcq Mcq Mcq (by simpa using Nat.le_trans bY Mcq) HF.o.2.1
  generalize zbk laws s ⟨8,dy,pl,fr,ts,cl,yr⟩=X at*;have bZ:=zHi bj;clear bj dl HF iM cX dB eN dU;obtain⟨s',er⟩:=X;unfold Deed.v;simp only;go_enter Tryz.func21,Tryz.ntmps21
  go_upto_region 3 with fail
  go_quiet (fail)
  go_upto_region 18 with
   (go_at_call 54
    go_must(refine(bZ.o _ Bw).mono ?_)
    rintro e wq ⟨rfl,hW,hB,hK⟩;have h0:=((hK w.heap.size _ _ (zat _ _ _ rfl)).trans (zat _ _ _ rfl))
    obtain⟨Bk',d',c',p',wl',r',mv',tv',ps',ew,cB,gF,fV⟩:=id hW;obtain⟨nK,ob,oa,nD⟩:=yH4 hW cB hB h0
    clear hW hB hK h0 gF fV cB)
  exact Md
theorem zey{W:World}{b:Nat}{K V:Type}{ek:K->Value}{ev:V->Value}(h:W.heap[b]?=some (.map #[] 0)):MapS W b ek ev ([]:List (K×V)):=⟨#[],0,h,rfl,by simp,by simp⟩
def NewPost(w:World)(e:Ending)(w':World):Prop:=
 e=.returned (.agg #[.map (some (w.heap.size+1)),.map (some (w.heap.size+1+1)),.map (some (w.heap.size+1+1+1)),.slice none 0 0,.map (some (w.heap.size+1+1+1+1)),.map (some (w.heap.size+1+1+1+1+1))])/\
 w'.heap.size=w.heap.size+6/\(∀k,1<=k->k<=5->w'.heap[w.heap.size+k]?=some (.map #[] 0))/\Qa w w'
theorem zjo{fn:Func}{p:Tmp}(h:fn.results= #[.cell p 84])(tmps:Array Value)(w:World)(B:Nat)(x0 x1 x2 x3 x4 x5:Value)(hp:tmps.getD p undef=.pointer (some ⟨B,0,none⟩))
 (hx:w.heap[B]?=some (.cells #[x0,x1,x2,x3,x4,x5] 84)):(results fn tmps).run Tryz.prog w=.ok (.agg #[x0,x1,x2,x3,x4,x5]) w:=by
 obtain⟨h0,h1,h2,h3,h4,h5⟩:=cF6 hx;exact Mbl
theorem zgL(w:World):Calls Tryz.prog 43 #[] w (NewPost w):=by
 have fC:= @run_makeMap Tryz.prog;go_enter Tryz.func43,Tryz.ntmps43
 go_wp2_with fail
 refine bodyPost_ret (v:=.agg #[.map (some (w.heap.size+1)),.map (some (w.heap.size+1+1)),.map (some (w.heap.size+1+1+1)),.slice none 0 0,.map (some (w.heap.size+1+1+1+1)),.map (some (w.heap.size+1+1+1+1+1))]) ?_ rfl ?_
 ·refine zjo rfl _ _ w.heap.size _ _ _ _ _ _ rfl ?_;exact zal (zal (zal (zal (zal (zat _ _ _ rfl)))))
 ·refine⟨rfl,by simp,fun k h1 h2=>?_,Bw⟩;obtain rfl|rfl|rfl|rfl|rfl:k=1\/k=2\/k=3\/k=4\/k=5:=by omega
  ·exact zal (zal (zal (zal (zat _ _ _ Mcv))))
  ·exact zal (zal (zal (zat _ _ _ Mcv)))
  ·exact zal (zal (zat _ _ _ Mcv))
  ·exact zal (zat _ _ _ Mcv)
  ·exact zat _ _ _ Mcv
theorem wld_new{base:Nat}{w W:World}(hb:base<=w.heap.size)(hs:w.heap.size+6=W.heap.size)(hm:∀k,1<=k->k<=5->W.heap[w.heap.size+k]?=some (.map #[] 0)):
 WldAt base (W.alloc (.cells #[.map (some (w.heap.size+1)),.map (some (w.heap.size+1+1)),.map (some (w.heap.size+1+1+1)),.slice none 0 0,.map (some (w.heap.size+1+1+1+1)),.map (some (w.heap.size+1+1+1+1+1)),.slice none 0 0,.int .i64 0,.int .i64 0] 87)) W.heap.size zbb 0 0:=by
 have hk:∀k,1<=k->k<=5->(W.alloc (.cells #[.map (some (w.heap.size+1)),.map (some (w.heap.size+1+1)),.map (some (w.heap.size+1+1+1)),.slice none 0 0,.map (some (w.heap.size+1+1+1+1)),.map (some (w.heap.size+1+1+1+1+1)),.slice none 0 0,.int .i64 0,.int .i64 0] 87)).heap[w.heap.size+k]?=some (.map #[] 0):=fun k h1 h2=>(Below.heap_alloc _ _ _ Mcq).trans (hm k h1 h2)
 refine⟨[],w.heap.size+1,w.heap.size+2,w.heap.size+3,w.heap.size+4,w.heap.size+5,.slice none 0 0,.slice none 0 0,[],by omega,zat _ _ _ rfl,⟨by simp,⟨by omega,by omega,by omega,by omega,by omega⟩,zey (hk 1 Mcq Mcq),⟨[],[],zey (hk 2 Mcq Mcq),zey (hk 3 Mcq Mcq),fun n=> .inl ⟨rfl,rfl⟩,fun n=> .inl ⟨rfl,rfl⟩,rfl,by simp,by simp,by simp⟩,OwnS.nil,⟨[],zey (hk 4 Mcq Mcq),fun n=> .inl ⟨rfl,rfl⟩⟩,zey (hk 5 Mcq Mcq)⟩,⟨OwnS.nil,rfl,by simp,fun i T g h=>by simp at h⟩⟩
section
variable {s:St} {d:Deed}
theorem grant_err:(zcT s d).2≠0->(zcT s d).1=s:=by
 unfold zcT;exact MQ
theorem zlK:(zbs s d).2≠0->(zbs s d).1=s:=by
 unfold zbs;exact MQ
theorem zkF:(zba s d).2≠0->(zba s d).1=s:=by
 unfold zba;exact MQ
theorem renew_err:(zdb s d).2≠0->(zdb s d).1=s:=by
 unfold zdb;exact MQ
theorem will_err:(zgZ s d).2≠0->(zgZ s d).1=s:=by
 unfold zgZ;exact MQ
theorem zlL:(zb6 s d).2≠0->(zb6 s d).1=s:=by
 unfold zb6;exact MQ
theorem child_err:(zcD s d).2≠0->(zcD s d).1=s:=by
 unfold zcD;exact MQ
theorem marry_err:(zdu s d).2≠0->(zdu s d).1=s:=by
 unfold zdu;exact MQ
theorem death_err{laws:List Law}:(zdP laws s d).2≠0->(zdP laws s d).1=s:=by
 unfold zdP;exact MQ
theorem take_err{laws:List Law}(h:(zbk laws s d).2≠0):(zbk laws s d).1=s:=by
 revert h
 unfold zbk;split
 ·exact grant_err
 split
 ·exact zlK
 split
 ·exact zkF
 split
 ·exact renew_err
 split
 ·exact will_err
 split
 ·exact zlL
 split
 ·exact child_err
 split
 ·exact marry_err
 exact death_err
theorem zlM{laws:List Law}{co:Nat}{last:Int}(h:(zdp laws s co last d).2≠0):(zdp laws s co last d).1=s:=by
 revert h
 unfold zdp;split
 ·exact fun _=>rfl
 split
 ·exact fun _=>rfl
 exact take_err
theorem zlN{laws:List Law}{co:Nat}{last:Int}(h:zaC d=0):zbt laws s co last d=zdp laws s co last d:=by
 unfold zbt zdp;rw[h];rfl
end
noncomputable def zco (laws:List Law) (ds:List Deed) (upto:Int):St×Nat×Int:=
 if za9 laws != 0 then(zbb,0,za9 laws)else zd4 laws upto ds zbb 0 0
def zhs(w:World)(R:St×Nat×Int)(e:Ending)(w':World):Prop:=
 ∃base b la co,e=.returned (.tuple #[.pointer (some ⟨b,0,none⟩),.int .i64 R.2.1,.int .i64 R.2.2])/\w.heap.size<=base/\WldAt base w' b R.1 la co/\Qa w w'/\(∃last,GoodSt R.1 last)/\∃k,k<=60/\FewS k R.1
theorem zkG{laws:List Law}{s:St}{k:Nat}{last:Int}{d:Deed}(h:(zdp laws s k last d).2=0)(hd:OkD d)(hG:GoodSt s last)(hF:FewS k s)(bc:za9 laws=0):k<60/\GoodSt (zdp laws s k last d).1 d.day/\FewS (k+1) (zdp laws s k last d).1:=by
 unfold zdp at h⊢;split at h
 ·simp at h
 rename_i h1
 split at h
 ·simp at h
 rename_i h2
 rw[if_neg h1,if_neg h2];have hk:k<60:=McZ;have hl:last<=d.day:=Mei;have ht:zbk laws s d=((zbk laws s d).1,0):=Prod.ext rfl h;exact⟨hk,zf6 hG hd hl bc ht,zkD hF hk hG hd hl bc ht⟩
theorem zht(laws:List Law)(ds:List Deed)(upto:Int)(LA:Option Addr)(n nc:Nat)(DA:Option Addr)(m mc:Nat)(w:World)(hR:RightsIn w laws ds LA n nc DA m mc)(hF:FormsIn w)(hL:LensIn w)(hO:∀d∈ds,zdE d):
 Calls Tryz.prog 19 #[.agg #[.slice LA n nc,.slice DA m mc],.int .i64 upto] w (zhs w (zco laws ds upto)):=by
 obtain⟨R,hR⟩:=Qd (zco laws ds upto)
 rw[<-hR];unfold zco at hR;have HR:=zHi hR;clear hR;obtain⟨rfl,rfl,uz,kA,eT,gC⟩:=hR;obtain⟨HF,HL,HO,dB,dj⟩:=yH5 hF hL hO eT gC;clear hF hL hO eT gC;go_enter Tryz.func19,Tryz.ntmps19
 go_upto_region 2 with(go_at_call 43;go_must(refine(zgL _).mono ?_);rintro e wq ⟨rfl,n1,n2,n3⟩;obtain⟨N1,N2,N3⟩:=yH3 n1 n2 n3;clear n1 n2 n3)
 have bY:=wld_new (base:=w.heap.size+1) (w:=w.alloc (.cells #[.slice LA laws.length nc,.slice DA ds.length mc] 25)) (W:=wq) Mcv N1.o.symm N2.o;have hsz:=N1.o;simp only[World.size_alloc]at bY hsz;have aN:Qa w wq:=Below.trans (zad Qb _) (N3.o.mono Mcv);have fw:wq.heap[w.heap.size]?=some (.cells #[.slice LA laws.length nc,.slice DA ds.length mc] 25):=(N3.o.block _ Mcv).trans (zat _ _ _ rfl);have cJ:=zab fw;have bx:∀o,Qa w (wq.alloc o):=fun o=>zad aN _ Mcq
 have sm:∀o,(wq.alloc o).heap[w.heap.size]?=some (.cells #[.slice LA laws.length nc,.slice DA ds.length mc] 25):=fun o=>zal fw
 obtain⟨b,hb⟩:=Qd wq.heap.size
 rw[<-hb]at bY⊢;have h2:=bx (.cells #[.map (some (w.heap.size+1+1)),.map (some (w.heap.size+1+1+1)),.map (some (w.heap.size+1+1+1+1)),.slice none 0 0,.map (some (w.heap.size+1+1+1+1+1)),.map (some (w.heap.size+1+1+1+1+1+1)),.slice none 0 0,.int .i64 0,.int .i64 0] 87);have cW:=sm (.cells #[.map (some (w.heap.size+1+1)),.map (some (w.heap.size+1+1+1)),.map (some (w.heap.size+1+1+1+1)),.slice none 0 0,.map (some (w.heap.size+1+1+1+1+1)),.map (some (w.heap.size+1+1+1+1+1+1)),.slice none 0 0,.int .i64 0,.int .i64 0] 87);clear bx sm aN fw cJ hsz N1 N2 N3 hb;generalize wq.alloc _=W2 at*;obtain⟨oB,aC,ax⟩:=yH3 bY h2 cW;have be:=zab cW;obtain⟨x0,x1⟩:=cF2 cW;have od:=zHi (fun W (hB:Qa W2 W)=>zfP laws LA laws.length nc W rfl (dB.o.keep (h2.trans (hB.mono (Nat.le_of_lt be)))));clear bY h2 cW;by_cases bc:za9 laws=0
 ·rw[bc]at od HR;have dU:=zHi bc;clear bc;go_upto_block 0 with(go_at_call 44;go_must(refine(od.o _ Bw).mono ?_);rintro e wq ⟨rfl,z,rfl⟩)
  clear od x0 x1;go_cut [9,10,11,25]from 26 (fun _ _ _ _ W=>∃s,Hid (R=(s,ds.length,0))/\∃la co,WldAt (w.heap.size+1) W b s la co/\Qa w W/\W.heap[w.heap.size]?=some (.cells #[.slice LA laws.length nc,.slice DA ds.length mc] 25)/\(∃last,GoodSt s last)/\∃k,k<=60/\FewS k s)
  case first=>
   go_wp2_with fail
   go_loopw [25] (fun i wr=>∃(k:Nat) (s:St) (last:Int),k<=ds.length/\i=.int .i64 k/\Hid (R=zd4 laws upto (ds.drop k) s k last)/\Hid (WldAt (w.heap.size+1) wr b s last k)/\Hid (GoodSt s last)/\Hid (FewS k s)/\k<=60/\Qa w wr/\wr.heap[w.heap.size]?=some (.cells #[.slice LA laws.length nc,.slice DA ds.length mc] 25)) (fun i _=>ds.length-(intOf i).toNat)
   case atStart=>
    refine⟨0,zbb,0,Nat.zero_le _,rfl,?_,oB.o.keep (n:=W2.heap.size) Bw,zdT 0,zfD,by omega,?_,?_⟩
    ·show _=_;rw[HR.o];simp
    ·exact aC.o.trans (Below.mono (B:=W2.heap.size) Bw (Nat.le_of_lt be))
    ·exact zby ax.o
   case round=>
    obtain⟨k,s,last,hk,rfl,HX,HW,HG,nC,mR,hB,hX⟩:=hrel;clear oB aC ax HR;obtain x0:=cF1 hX;have dQ:=zab hX;obtain⟨HB,pS⟩:=yH2 hB hX;by_cases aa:k<ds.length
    ·obtain⟨db,off,cs,hA,DT,⟨B,c,ao,aQ,hS⟩,hc⟩:=(dj.o.keep zbP hB).at aa;subst hA aQ;have ai:=HX.o;rw[List.drop_eq_getElem_cons aa,zd4,<-List.drop_eq_getElem_cons aa]at ai;have bs:=HO.o ds[k] (List.getElem_mem aa);have jT:∀W,Qa wr W->_:=fun W hW=>zfQ ds[k] B c W (HF.o.keep (hB.trans (hW.mono (Nat.le_of_lt dQ)))) bs ao (hS.keep hW)
     have dw:∀W,Qa wr W->OkD ds[k]->_:=fun W hW hd=>zkE (w.heap.size+1) b s k last laws LA nc ds[k] B c W (HW.o.keep hW) HG.o nC.o hd dU.o (HL.o.keep (hB.trans (hW.mono (Nat.le_of_lt dQ)))) (dB.o.keep (hB.trans (hW.mono (Nat.le_of_lt dQ)))) ao (hS.keep hW)
     rw[zeH]at jT;obtain⟨ak,lI,aA,fq,dK⟩:=yH5 aa (show k+(ds.drop k).length=ds.length by rw[List.length_drop];omega) ai jT dw;generalize ds[k]=d at*;clear ai bs jT dw hX hB hS;have bm:OkD d->(zdp laws s k last d).2=0->k<60/\GoodSt (zdp laws s k last d).1 d.day/\FewS (k+1) (zdp laws s k last d).1:=fun hd h=>zkG h hd HG.o nC.o dU.o
     have ju:zaC d=0->OkD d:=zcP;have pw:=fun h=>zlN (laws:=laws) (s:=s) (co:=k) (last:=last) (d:=d) h
     obtain⟨kd,dy,pl,fr,ts,cl,yr⟩:=d;have i0:wr.cell? ⟨db,off+k*7,none⟩=some (.int .i64 kd):=hc 0 _ rfl;have i1:wr.cell? ⟨db,off+k*7+1,none⟩=some (.int .i64 dy):=hc 1 _ rfl;have i2:wr.cell? ⟨db,off+k*7+2,none⟩=some (.string pl):=hc 2 _ rfl;have i3:wr.cell? ⟨db,off+k*7+3,none⟩=some (.string fr):=hc 3 _ rfl;have i4:wr.cell? ⟨db,off+k*7+4,none⟩=some (.slice B ts.length c):=hc 4 _ rfl;have i5:wr.cell? ⟨db,off+k*7+5,none⟩=some (.int .i64 cl):=hc 5 _ rfl;have i6:wr.cell? ⟨db,off+k*7+6,none⟩=some (.int .i64 yr):=hc 6 _ rfl;have ar:(k:Int)<(ds.length:Int):=Mcq;have aR:(0:Int)<=(k:Int):=Mcq;have Hp:(k:Int)<=(mc:Int):=Mcq;have kN:w.heap.size≠wr.heap.size:=Mcq;unfold Deed.v at dK;simp only at pw bm dK aA;clear hc;by_cases hce:zaC ⟨kd,dy,pl,fr,ts,cl,yr⟩=0
     ·have mX:=ju hce;have ai:=aA.o;rw[hce,pw hce]at ai;rw[hce]at fq;have lj:=bm mX;have fx:=fun h=>zlM (laws:=laws) (s:=s) (d:=⟨kd,dy,pl,fr,ts,cl,yr⟩) (co:=k) (last:=last) h
      have gA:=zHi (fun W hW=>dK.o W hW mX);clear aA dK pw bm ju mX;generalize zdp laws s k last ⟨kd,dy,pl,fr,ts,cl,yr⟩=x at*;generalize zaC ⟨kd,dy,pl,fr,ts,cl,yr⟩=ce at*;obtain⟨s',er⟩:=x;by_cases cf:upto<dy
      ·have cE:Hid (R=(s,ds.length,0)):=by
        show _=_;rw[ai,if_pos (by simp[cf]),lI.o]
       clear ai lj fx gA lI;go_wp2_with (go_at_call 20;go_must(refine(fq.o _ Bw).mono ?_);rintro e wq ⟨rfl,z,rfl⟩)
       go_meet
       exact⟨s,cE.o,last,k,HW.o.keep (n:=wr.heap.size) Bw,HB.o.trans (Below.mono (B:=wr.heap.size) Bw Mcq),by repeat(first|assumption|with_reducible refine zal ?_|with_reducible refine zby ?_|with_reducible refine J_ne Mcq ?_),⟨last,HG.o⟩,k,mR,nC.o⟩
      ·have bQ:R=if(er != 0)=true then(s,k,er)else zd4 laws upto (ds.drop (k+1)) s' (k+1) dy:=by rw[ai,if_neg (by simp[cf])]
       have cO:=zHi bQ;have mF:=fq.o;clear ai bQ lI;by_cases h0:er=0
       ·subst h0;obtain⟨jy,oJ,wv⟩:=lj rfl;obtain⟨fQ,vj⟩:=yH2 oJ wv;have jI:=wrap_k (k:=k) (Nat.lt_trans jy Mcu);have uK:=zmT (k:=k) (Nat.lt_trans jy Mcu);clear lj fx oJ wv mF
        go_wp2_with (first
         |(go_at_call 20;go_must(refine(fq.o _ Bw).mono ?_);rintro e wq ⟨rfl,z,rfl⟩)
         |(go_at_call 21
           go_must(refine(gA.o _ Bw).mono ?_)
           rintro e wq ⟨rfl,t1,t2⟩;simp only[if_true]at t1;have T1:=zHi t1;have aY:Qa w wq:=(HB.o.trans (Below.mono (B:=wr.heap.size) Bw (Nat.le_of_lt dQ))).trans (t2.mono (Nat.le_succ _));have zk:=(t2.block w.heap.size (Nat.lt_succ_self _)).trans (show _=some (.cells #[.slice LA laws.length nc,.slice (some ⟨db,off,none⟩) ds.length mc] 25) from by have hX:=pS.o;repeat(first|assumption|with_reducible refine zal ?_|with_reducible refine zby ?_|with_reducible refine J_ne Mcq ?_));obtain⟨aU,pR⟩:=yH2 aY zk
           clear t1 t2 aY zk))
        go_round
        case rel=>
         clear jI uK;refine⟨k+1,s',dy,ak.o,by go_num,?_,T1.o,fQ.o,vj.o,jy,aU.o,pR.o⟩;show _=_;rw[cO.o];simp
        case measure=>clear jI uK;have:=ak.o;simp only[intOf];omega
       ·have hs:=fx h0;simp only at hs;subst hs;have cE:Hid (R=(s',k,er)):=by
         show _=_;rw[cO.o,if_pos MdJ]
        clear lj fx cO mF
        go_wp2_with (first
         |(go_at_call 20;go_must(refine(fq.o _ Bw).mono ?_);rintro e wq ⟨rfl,z,rfl⟩)
         |(go_at_call 21
           go_must(refine(gA.o _ Bw).mono ?_)
           rintro e wq ⟨rfl,t1,t2⟩;have T1:=zHi t1;have aY:Qa w wq:=(HB.o.trans (Below.mono (B:=wr.heap.size) Bw (Nat.le_of_lt dQ))).trans (t2.mono (Nat.le_succ _));have aU:=zHi aY
           clear t1 t2 aY))
        go_ret3
        rw[cE.o];exact⟨w.heap.size+1,b,_,_,rfl,by omega,T1.o,aU.o,⟨last,HG.o⟩,k,mR,nC.o⟩
     ·have ag:(zbt laws s k last ⟨kd,dy,pl,fr,ts,cl,yr⟩)=(s,zaC ⟨kd,dy,pl,fr,ts,cl,yr⟩):=by
       unfold zbt;rw[if_pos MdS]
      have ai:=aA.o;rw[ag]at ai;generalize zaC ⟨kd,dy,pl,fr,ts,cl,yr⟩=ce at*;have cE:Hid (R=(s,k,ce)):=by
       show _=_;rw[ai,if_neg (by simp[hce]),if_pos MdS]
      clear ai ag aA dK pw bm ju lI;go_wp2_with (go_at_call 20;go_must(refine(fq.o _ Bw).mono ?_);rintro e wq ⟨rfl,z,rfl⟩)
      go_ret3
      rw[cE.o];exact⟨w.heap.size+1,b,last,k,rfl,by omega,HW.o.keep (n:=wr.heap.size) Bw,HB.o.trans (Below.mono (B:=wr.heap.size) Bw Mcq),⟨last,HG.o⟩,k,mR,nC.o⟩
    ·have ar:¬(k:Int)<(ds.length:Int):=Mcq;have hx:=HX.o;rw[List.drop_eq_nil_of_le Mcq,zd4]at hx;have kE:k=ds.length:=Mcq;have cE:Hid (R=(s,ds.length,0)):=by show _=_;rw[hx,kE]
     clear hx kE hX hB;go_wp2_with fail
     go_meet
     exact⟨s,cE.o,last,k,HW.o,HB.o,pS.o,⟨last,HG.o⟩,k,mR,nC.o⟩
  case rest=>
   obtain⟨s,cE,la,co,hW,hB,hX,hg,hf⟩:=hcut;obtain⟨-,x1⟩:=cF2 hX;have dQ:=zab hX;obtain⟨HW,HB⟩:=yH2 hW hB;clear hW hB hX;go_upto_region 15 with fail
   go_quiet (fail)
   go_wp2_with fail
   go_ret3
   rw[cE.o];exact⟨w.heap.size+1,b,la,co,rfl,by omega,HW.o.keep (n:=wc.heap.size) Bw,HB.o.trans (Below.mono (B:=wc.heap.size) Bw Mcq),hg,hf⟩
 ·generalize za9 laws=er at*;have ag:(er != 0)=true:=by simpa using bc
  have cE:Hid (R=(zbb,0,er)):=by show _=_;rw[HR.o,if_pos ag]
  clear HR;go_wp2_with (go_at_call 44;go_must(refine(od.o _ Bw).mono ?_);rintro e wq ⟨rfl,z,rfl⟩)
  go_ret3
  rw[cE.o];exact⟨w.heap.size+1,b,0,0,rfl,by omega,oB.o.keep (n:=W2.heap.size) Bw,aC.o.trans (Below.mono (B:=W2.heap.size) Bw Mcq),⟨0,zdT 0⟩,0,by omega,zfD⟩
theorem ifStr_any(g:Nat)(lb:Array Value)(eg:∀args w,(callFunc g args).run Tryz.prog w=.ok (.enter g args) w)(p:ByteArray->Bool)(A:Option Addr)(c:Nat)(xs:List ByteArray)(w:World)(hl:xs.length<=100000)
 (hS:Sl w 1 sC A xs)(hp:zeZ g lb (fun s=> .string s) p xs w):Calls Tryz.prog 100 #[.slice A xs.length c,.func (.func g) #[] lb] w (fun e w'=>∃i:Int,e=.returned (.int .i64 i)/\decide (0<=i)=xs.any p/\Qa w w'):=by
 obtain⟨HS,HP⟩:=yH2 hS hp;clear hS hp;go_enter Tryz.func100,Tryz.ntmps100
 go_wp2_with fail
 go_loopw [8] (fun i wr=>∃k:Nat,k<=xs.length/\i=.int .i64 k/\Hid (xs.any p=(xs.drop k).any p)/\Qa w wr) (fun i _=>xs.length-(intOf i).toNat)
 case atStart=>exact⟨0,Nat.zero_le _,rfl,by show _=_;rw[List.drop_zero],Qb⟩
 case round=>
  obtain⟨k,hk,rfl,HX,hB⟩:=hrel;have HB:=zHi hB;by_cases aa:k<xs.length
  ·obtain⟨b,off,rfl,hb,hc⟩:=(HS.o.keep hB).at aa;have i0:wr.cell? ⟨b,off+k,none⟩=some (.string xs[k]):=Md6;have hx:=HX.o;rw[List.drop_eq_getElem_cons aa,List.any_cons]at hx;have bE:∀W,Qa w W->Calls Tryz.prog g (#[.string xs[k]]++lb) W fun e w'=>e=.returned (.bool (p xs[k]))/\Qa w w':=fun W hW=>HP.o xs[k] (List.getElem_mem aa) W hW
   generalize xs[k]=x at*;generalize hpx:p x=px at*;have ax:=zHi hx;have ar:(k:Int)<(xs.length:Int):=Mcq;have aR:(0:Int)<=(k:Int):=Mcq;obtain⟨ak,bZ⟩:=yH2 aa bE;clear hc hx bE HX hpx;cases px
   ·go_wp2_with (go_at_fn g;refine(bZ.o _ HB.o).mono ?_;rintro e w' ⟨rfl,h1⟩)
    go_round
    case rel=>exact⟨k+1,ak.o,by go_num,by show _=_;rw[ax.o];simp,h1⟩
    case measure=>have:=ak.o;simp only[intOf];omega
   ·go_wp2_with (go_at_fn g;refine(bZ.o _ HB.o).mono ?_;rintro e w' ⟨rfl,h1⟩)
    go_ret
    exact⟨k,rfl,by rw[ax.o];simp,h1⟩
  ·have ar:¬(k:Int)<(xs.length:Int):=Mcq;have hx:=HX.o;rw[List.drop_eq_nil_of_le Mcq]at hx;have ax:=zHi hx;clear hx hB;go_wp2_with fail
   go_ret
   exact⟨-1,rfl,by rw[ax.o];simp,HB.o⟩
theorem cfStr_any(g:Nat)(lb:Array Value)(eg:∀args w,(callFunc g args).run Tryz.prog w=.ok (.enter g args) w)(p:ByteArray->Bool)(A:Option Addr)(n c:Nat)(xs:List ByteArray)(w:World)(hn:n=xs.length)(hl:xs.length<=100000)
 (hS:Sl w 1 sC A xs)(hp:zeZ g lb (fun s=> .string s) p xs w):Calls Tryz.prog 58 #[.slice A n c,.func (.func g) #[] lb] w (Ret w (.bool (xs.any p))):=by
 subst hn;have HI:=zHi (ifStr_any g lb eg p A c xs w hl hS hp);clear hS hp;go_enter Tryz.func58,Tryz.ntmps58
 go_wp2_with (go_at_call 100;refine HI.o.mono ?_;rintro e wq ⟨i,rfl,hi,hB⟩)
 go_ret
 rw[<-hi];exact Ret.of rfl hB
theorem onn_any(s:ByteArray)(W:World)(hs:s.size<=100000):Calls Tryz.prog 59 #[.string s] W (Ret W (.bool (!zaE s))):=by
 go_enter Tryz.func59,Tryz.ntmps59
 exact MaC
theorem onn_gives(xs:List ByteArray)(w:World)(hs:∀s∈xs,s.size<=100000):zeZ 59 #[] (fun s=> .string s) (fun s=>!zaE s) xs w:=fun x hx W hW=>by
 refine(onn_any x W (hs x hx)).mono ?_;exact May
theorem zhu(laws:List Law)(u u':Int):∀(ds:List Deed) (s t t':St) (k:Nat) (l:Int),(zau laws u ds s t k l).2=(zau laws u' ds s t' k l).2
 | [],_,_,_,_,_=>rfl
 |d::ds,s,t,t',k,l=>by
  rw[zau,zau];split
  ·rfl
  ·exact zhu laws u u' ds _ _ _ _ _
noncomputable def zct (laws:List Law) (ds:List Deed) (names:List ByteArray) (day:Int):Int:=
 if(zco laws ds 200000).2.2 != 0 then(zco laws ds 200000).2.2 else if names.any (fun s=>!zaE s)then 4 else if !zbm day then 2 else 0
theorem zd7(laws:List Law)(ds:List Deed):(zco laws ds 200000).2=(zaB laws ds 200000).2:=by
 unfold zco zaB;split
 ·rfl
 ·exact znU (Int.le_refl _)
theorem zfE{laws:List Law}{ds:List Deed}(h:(zco laws ds 200000).2.2=0)(day:Int):(zco laws ds day).1=(zaB laws ds day).1/\(zco laws ds day).2.2=0:=by
 rw[zd7]at h;unfold zaB at h;unfold zco zaB;split at h
 ·rename_i hc
  rw[if_pos hc,if_pos hc];exact⟨rfl,h⟩
 ·rename_i hc
  rw[if_neg hc,if_neg hc];exact zl4 (by rw[zhu laws day 200000 ds zbb zbb zbb];exact h)
theorem zmU(laws:List Law)(ds:List Deed)(LA:Option Addr)(n nc:Nat)(DA:Option Addr)(m mc:Nat)(w:World)(hR:RightsIn w laws ds LA n nc DA m mc)(hF:FormsIn w)(hL:LensIn w)(hO:∀d∈ds,zdE d):
 Calls Tryz.prog 57 #[.agg #[.slice LA n nc,.slice DA m mc]] w (Ret w (.tuple #[.int .i64 (zco laws ds 200000).2.1,.int .i64 (zco laws ds 200000).2.2])):=by
 have pD:=fun W (hB:Qa w W)=>zht laws ds 200000 LA n nc DA m mc W (hR.keep hB) (hF.keep hB) (hL.keep hB) hO
 clear hR hF hL hO;generalize zco laws ds 200000=R at*;have fS:=zHi pD;clear pD;go_enter Tryz.func57,Tryz.ntmps57
 go_wp2_with (go_at_call 19;go_must(refine(fS.o _ Bw).mono ?_);rintro e wq ⟨base,b,la,co,rfl,h1,h2,h3,h4,h5⟩;have H3:=zHi h3;clear h1 h2 h3 h4 h5)
 go_ret2
 exact Ret.of rfl (Below.trans (zad Qb _) (H3.o.mono Mcv))
def zob(w:World)(laws:List Law)(ds:List Deed)(names:List ByteArray)(day:Int)(e:Ending)(w':World):Prop:=
 Qa w w'/\((zct laws ds names day≠0/\e=.returned (.tuple #[.pointer none,.int .i64 (zct laws ds names day)]))\/
  (zct laws ds names day=0/\∃base b la co,e=.returned (.tuple #[.pointer (some ⟨b,0,none⟩),.int .i64 0])/\w.heap.size<=base/\WldAt base w' b (zaB laws ds day).1 la co/\(∃last,GoodSt (zaB laws ds day).1 last)/\∃k,k<=60/\FewS k (zaB laws ds day).1))
theorem on_any(laws:List Law)(ds:List Deed)(day:Int)(names:List ByteArray)(LA:Option Addr)(n nc:Nat)(DA:Option Addr)(m mc:Nat)(NA:Option Addr)(l c:Nat)(w:World)(hR:RightsIn w laws ds LA n nc DA m mc)(hF:FormsIn w)(hL:LensIn w)(hO:∀d∈ds,zdE d)
 (hl:l=names.length)(ci:names.length<=100000)(hN:∀s∈names,s.size<=100000)(hS:Sl w 1 sC NA names):
 Calls Tryz.prog 27 #[.agg #[.slice LA n nc,.slice DA m mc],.int .i64 day,.slice NA l c] w (zob w laws ds names day):=by
 subst hl;have eg:∀args w,(callFunc 59 args).run Tryz.prog w=.ok (.enter 59 args) w:=enters_of Tryz.func59 Mcs rfl;have lq:=fun W (hB:Qa w W)=>zmU laws ds LA n nc DA m mc W (hR.keep hB) (hF.keep hB) (hL.keep hB) hO
 have pD:=fun W (hB:Qa w W)=>zht laws ds day LA n nc DA m mc W (hR.keep hB) (hF.keep hB) (hL.keep hB) hO
 have GI:=fun W (hB:Qa w W)=>cfStr_any 59 #[] eg (fun s=>!zaE s) NA names.length c names W rfl ci (hS.keep hB) (onn_gives names W hN)
 have iH:=zfE (laws:=laws) (ds:=ds) (day:=day);have he:zct laws ds names day=if(zco laws ds 200000).2.2 != 0 then(zco laws ds 200000).2.2 else if names.any (fun s=>!zaE s)then 4 else if !zbm day then 2 else 0:=rfl;unfold zob;generalize zct laws ds names day=E at*;obtain⟨R,sa⟩:=Qd (zco laws ds 200000)
 rw[<-sa]at lq iH he;obtain⟨⟨S0,n0,er⟩,Gt⟩:∃x,x=R:=⟨_,rfl⟩
 subst Gt;simp only at lq iH he;generalize hna:names.any (fun s=>!zaE s)=na at*;obtain⟨pO,fS,Bu⟩:=yH3 lq pD GI;clear lq pD GI hR hF hL hO hS hN sa hna eg;by_cases h0:er=0
 ·subst h0;have qb:E=if na then 4 else if !zbm day then 2 else 0:=by rw[he];rfl
  obtain⟨uG,uH⟩:=iH rfl;clear he iH;cases na
  ·generalize jU:zbm day=dd at*;cases dd
   ·have hE:E=2:=by rw[qb];rfl
    subst hE;clear qb uG uH;go_enter Tryz.func27,Tryz.ntmps27
    go_wp2_with (first
     |(go_at_call 57;refine(pO.o _ Bw).mono ?_;rintro e wq ⟨rfl,zq,rfl⟩)
     |(go_at_call 58;refine(Bu.o _ Bw).mono ?_;rintro e wq ⟨rfl,zq,rfl⟩)
     |(go_at_call 30;refine(zbQ _ _).mono ?_;rintro e wq ⟨rfl,rfl⟩;rw[jU]))
    go_ret2
    exact⟨Bw,.inl ⟨by decide,rfl⟩⟩
   ·have hE:E=0:=by rw[qb];rfl
    subst hE;rw[<-uG];clear qb uG;generalize zco laws ds day=R at*;obtain⟨S1,n1,e1⟩:=R;simp only at uH;subst uH;try simp only at fS
    go_enter Tryz.func27,Tryz.ntmps27
    go_wp2_with (first
     |(go_at_call 57;refine(pO.o _ Bw).mono ?_;rintro e wq ⟨rfl,zq,rfl⟩)
     |(go_at_call 58;refine(Bu.o _ Bw).mono ?_;rintro e wq ⟨rfl,zq,rfl⟩)
     |(go_at_call 30;refine(zbQ _ _).mono ?_;rintro e wq ⟨rfl,rfl⟩;rw[jU])
     |(go_at_call 19;go_must(refine(fS.o _ Bw).mono ?_);rintro e wq ⟨base,b,la,co,rfl,h1,h2,h3,h4,h5⟩;obtain⟨H1,H2,H3,H4,H5⟩:=yH5 h1 h2 h3 h4 h5;clear h1 h2 h3 h4 h5))
    go_ret2
    have h1:=H1.o;refine⟨Below.trans Bw (H3.o.mono ?_),.inr ⟨by first|rfl|trivial,base,b,la,co,rfl,Nat.le_trans ?_ h1,H2.o,H4.o,H5.o⟩⟩
    ·simp[zae];omega
    ·simp[zae];omega
  ·have hE:E=4:=by rw[qb];rfl
   subst hE;clear qb uG uH;go_enter Tryz.func27,Tryz.ntmps27
   go_wp2_with (first
    |(go_at_call 57;refine(pO.o _ Bw).mono ?_;rintro e wq ⟨rfl,zq,rfl⟩)
    |(go_at_call 58;refine(Bu.o _ Bw).mono ?_;rintro e wq ⟨rfl,zq,rfl⟩))
   go_ret2
   exact⟨Bw,.inl ⟨by decide,rfl⟩⟩
 ·have hE:E=er:=by rw[he,if_pos MdJ]
  subst hE;clear he iH;go_enter Tryz.func27,Tryz.ntmps27
  go_wp2_with (go_at_call 57;refine(pO.o _ Bw).mono ?_;rintro e wq ⟨rfl,zq,rfl⟩)
  go_ret2
  exact⟨Bw,.inl ⟨h0,rfl⟩⟩
def zbW(s:St)(place:ByteArray)(day:Int):Parts:=match zaS s place day with
 |none=>[]
 |some i=>(s.graves.getD i zjj).holders
def zgi(w:World)(laws:List Law)(ds:List Deed)(place:ByteArray)(day:Int)(e:Ending)(w':World):Prop:=
 Qa w w'/\((zct laws ds [place] day≠0/\e=.returned (.tuple #[.slice none 0 0,.int .i64 (zct laws ds [place] day)]))\/
  (zct laws ds [place] day=0/\∃A c,e=.returned (.tuple #[.slice A (zbW (zaB laws ds day).1 place day).length c,.int .i64 0])/\(zbW (zaB laws ds day).1 place day).length<=c/\Sl w' 3 zaa A (zbW (zaB laws ds day).1 place day)))
theorem zgj(laws:List Law)(ds:List Deed)(place:ByteArray)(day:Int)(LA:Option Addr)(n nc:Nat)(DA:Option Addr)(m mc:Nat)(w:World)(hR:RightsIn w laws ds LA n nc DA m mc)(hF:FormsIn w)(hL:LensIn w)(hO:∀d∈ds,zdE d)(hp:place.size<=100000):
 Calls Tryz.prog 10 #[.agg #[.slice LA n nc,.slice DA m mc],.string place,.int .i64 day] w (zgi w laws ds place day):=by
 have tm:=fun W (hB:Qa w W) NA (hS:Sl W 1 sC NA [place])=>on_any laws ds day [place] LA n nc DA m mc NA 1 1 W (hR.keep hB) (hF.keep hB) (hL.keep hB) hO rfl Mcv Mel hS
 have kj:=zHi tm;unfold zgi;clear tm hR hF hL hO;unfold zob at kj;generalize zct laws ds [place] day=E at*;generalize(zaB laws ds day).1=s at*;generalize bv:zbW s place day=xs at*;have cd:=zHi bv;clear bv;go_enter Tryz.func10,Tryz.ntmps10
 by_cases h0:E=0
 ·subst h0
  go_upto_region 4 with(go_at_call 27
                        go_must(refine(kj.o _ Bw _ (zdX (zat _ _ _ Mcv))).mono ?_)
                        rintro e wq ⟨h1,⟨ag,_⟩|⟨_,base,b,la,co,rfl,h2,h3,h4,h5⟩⟩
                        ·exact absurd rfl ag
                        obtain⟨H1,H3,H5⟩:=yH3 h1 h3 h5
                        clear h1 h2 h3 h4 h5)
  obtain⟨Bk,dd,cc,pp,wl,rr,mv,tv,ps,aN,hC,hP,hT⟩:=H3.o;obtain⟨k,mR,sM⟩:=H5.o;have cg:=sM.graves;have aM:=fun W (hB:Qa wq W)=>zjD base b s la co place day W (hC.keep hB) (hT.keep hB) Mcq
  have aO:Qa w wq:=Below.trans (zad (zad Qb _) _ Mcv) (H1.o.mono Mcw);have aE:=zHi aO;have bv:=cd.o;unfold zbW at bv;clear cd;cases bf:zaS s place day with
  |none=>
   rw[bf]at aM bv;subst bv;have cu:=zHi aM;clear aM hC hP hT sM aO;go_wp2_with (go_at_call 31;go_must(refine(cu.o _ Bw).mono ?_);rintro e wz ⟨rfl,z,rfl⟩;simp only[zkp,Option.map_none])
   go_ret2
   exact⟨aE.o.trans (Below.mono (B:=wq.heap.size) Bw aE.o.size),none,⟨0,rfl⟩,fun h=>absurd h Mcv⟩
  |some i=>
   obtain⟨T,g,ib,ia,aK,bL,jS,_⟩:=zex hT bf;rw[bf]at aM bv;simp only[bL]at bv;subst bv;obtain⟨H,aI,D,dc,frm,t1,t2,t3,t4,t5,t6,t7⟩:=jS;have cZ:=zab t1;have mQ:∀W,Qa wq W->Calls Tryz.prog 31 #[.pointer (some ⟨b,0,none⟩),.string place,.int .i64 day] W (Ret W (.pointer (some ⟨T,0,none⟩))):=fun W hB=>by
    have:=aM W hB;simpa only[zkp,Option.map_some,ia]using this
   have cu:=zHi mQ;unfold zb1 at t1;obtain⟨-,-,-,-,k4⟩:=cF5 t1;have T5:=zHi t5;clear aM mQ hC hP hT sM aO t1 t5 t6 t7 bL aK ia ib bf;go_wp2_with (go_at_call 31;go_must(refine(cu.o _ Bw).mono ?_);rintro e wz ⟨rfl,z,rfl⟩)
   go_ret2
   exact⟨aE.o.trans (Below.mono (B:=wq.heap.size) Bw aE.o.size),H,aI,rfl,t3,(Ro.sl zai T5.o).keep (n:=wq.heap.size) Bw⟩
 ·go_wp2_with (go_at_call 27
               go_must(refine(kj.o _ Bw _ (zdX (zat _ _ _ Mcv))).mono ?_)
               rintro e wq ⟨h1,⟨_,rfl⟩|⟨he,_⟩⟩;rotate_left 1
               ·exact absurd he h0
               have H1:=zHi h1
               clear h1)
  go_ret2
  exact⟨Below.trans (zad (zad Qb _) _ Mcv) (H1.o.mono Mcw),.inl ⟨h0,rfl⟩⟩
