import Derived.Test.YtogklihlgindkaaGreatDoorE7
set_option linter.all false
set_option maxRecDepth 100000
set_option maxHeartbeats 4000000
namespace Go.Proofs.YtogklihlgindkaaGreatDoor
open Go.RowKit Go.Shelf
attribute [local go_sem] World.cell?_alloc_mark zaf za3 zam za6 zat zau zav zaw zax zay zaz
attribute [local go_sem] zao zac
noncomputable def zey (laws:List Law) (s:St) (co:Nat) (last:Int) (d:Deed):St×Int:=
 if decide (60<=co)then(s,8)else if decide (d.day<last)then(s,9)else zbp laws s d
def ziY(base b:Nat)(x:St×Int)(day la co:Int)(w:World)(e:Ending)(w':World):Prop:=
 e=.returned (.int .i64 x.2)/\WldAt base w' b x.1 (if x.2=0 then day else la) (if x.2=0 then co+1 else co)/\Below base w w'
variable{W:World}{b:Nat}{la co:Int}
def wldC_tick{d c p wl r:Nat}{mv tv:Value}(h:WldC W b d c p wl r mv tv la co)(la' co':Int):WldC ((W.setCell ⟨b,7,none⟩ (.int .i64 la')).setCell ⟨b,8,none⟩ (.int .i64 co')) b d c p wl r mv tv la' co':=by
 unfold WldC at*;have:=Joins.block_setCell (i:=8) (Joins.block_setCell (i:=7) h (.int .i64 la')) (.int .i64 co');simpa using this
variable{base:Nat}{s:St}
def wld_tick(h:WldAt base W b s la co)(la' co':Int):WldAt base ((W.setCell ⟨b,7,none⟩ (.int .i64 la')).setCell ⟨b,8,none⟩ (.int .i64 co')) b s la' co':=by
 obtain⟨B,d,c,p,wl,r,mv,tv,ps,h1,h2,h3,h4⟩:=h;have hg:W.grownBy ((W.setCell ⟨b,7,none⟩ (.int .i64 la')).setCell ⟨b,8,none⟩ (.int .i64 co')) (some b):=zbm (za1 W b 7 _) (za1 _ b 8 _);exact⟨B,d,c,p,wl,r,mv,tv,ps,h1,wldC_tick h2 la' co',h3.kept hg h2 McU McU McU,h4.kept hg h2 McU McU McU McU⟩
variable{k:Nat}
def wrap_k(h:k<1000):wrap64 ((k:Int)+1)=(k:Int)+1:=by
 unfold wrap64;omega
def wrap_k2(h:k<1000):IntKind.i64.wrap ((k:Int)+1)=(k:Int)+1:=by
 rw[IntKind.wrap_i64];omega
def wld_drew(h:WldAt base W b s la co):WldAt base W.drew b s la co:=h.keep (n:=W.heap.size) ⟨rfl,rfl,rfl,Qc,λ_ _=>rfl⟩
variable{s':St}{day:Int}{w w':World}
def taken_ok(h:WldAt base w' b s' day (co+1))(hB:Below base w w'):ziY base b (s',0) day la co w (.returned (.int .i64 0)) w':=⟨rfl,by simpa using h,hB⟩
def taken_no{er:Int}(h0:er≠0)(h:WldAt base w' b s' la co)(hB:Below base w w'):ziY base b (s',er) day la co w (.returned (.int .i64 er)) w':=⟨rfl,by simpa[h0]using h,hB⟩
def take_any(base b:Nat)(s:St)(k:Nat)(last:Int)(laws:List Law)(LA:Option Addr)(lc:Nat)(d:Deed)(B:Option Addr)(c:Nat)(w:World)(hW:WldAt base w b s last k)(jC:GoodSt s last)(hF:FewS k s)(hd:OkD d)(bH:zaC laws=0)(hL:LensIn w)(fT:Sl w 4 Law.cells LA laws)(aA:d.to.length<=c)(hS:Sl w 3 RPart.cells B d.to):
 Calls Tryz.prog 48 #[.pointer (some ⟨b,0,none⟩),.slice LA laws.length lc,d.v B c] w (ziY base b (zey laws s k last d) d.day last k w):=by
 have am:=hW;obtain⟨Bk,dd,cc,pp,wl,rr,mv,tv,ps,ba,hC,hP,hT⟩:=hW;have cI:=zab hC;have ck:=hd.kind;have HW:=zHi am;unfold WldC at hC;obtain⟨-,-,-,-,-,-,-,c7,c8⟩:=cF9 hC;clear hC hP hT am;by_cases h60:60<=k
 ·have hx:zey laws s k last d=(s,8):=by simp[zey,h60]
  rw[hx];obtain⟨kd,dy,pl,fr,ts,cl,yr⟩:=d;have fM:(60:Int)<=(k:Int):=McS;clear hd hx jC hF fT hS ck hL bH aA;unfold Deed.v;simp only;go_enter Tryz.func48,Tryz.ntmps48
  exact MbH
 have fM:¬(60:Int)<=(k:Int):=McS;have xS:k<1000:=McS;by_cases ae:d.day<last
 ·have hx:zey laws s k last d=(s,9):=by simp[zey,h60,ae]
  rw[hx];obtain⟨kd,dy,pl,fr,ts,cl,yr⟩:=d;simp only at ae;clear hd hx jC hF fT hS ck hL bH aA;unfold Deed.v;simp only;go_enter Tryz.func48,Tryz.ntmps48
  go_upto_region 3 with fail
  go_quiet (fail)
  exact MbH
 have hx:zey laws s k last d=zbp laws s d:=by simp[zey,h60,ae]
 rw[hx];clear hx;have bG:last<=d.day:=McS;have bQ:=hF.graves;have bp:=hF.kids;have gn:=hF.marr;have cK:=hF.wills d.frm;have Hl:∀g∈s.graves,g.holders.length<=10000:=λg hg=>by have:=(hF.held g hg).1;omega
 have xM:∀g∈s.graves,g.holders.length<=70000/\g.died.length<=1000:=λg hg=>by have:=hF.held g hg;omega
 have g9:laws.length<=10:=by
  unfold zaC at bH;split at bH
  ·cases bH
  ·rename_i h;simpa using h
 have bP:∀g∈s.graves,g.fin<=200000:=λg hg=>(hF.held g hg).2.2
 have bS:=zfc bH d.day;obtain⟨dq,HF,j9,dh,eL,eZ,eM⟩:=yH7 jC (And.intro Hl (And.intro xM bP)) hd hL fT hS bS;have e0:∀W:World,zbp laws s d=zbp laws s d:=λ_=>rfl
 clear jC hF hd hL fT hS bH bS Hl xM bP e0;have fw:d.kind=0\/d.kind=1\/d.kind=2\/d.kind=3\/d.kind=4\/d.kind=5\/d.kind=6\/d.kind=7\/d.kind=8:=McS;clear ck;obtain⟨kd,dy,pl,fr,ts,cl,yr⟩:=d;simp only at ae bG fw aA cK;rcases fw with rfl|rfl|rfl|rfl|rfl|rfl|rfl|rfl|rfl
 ·have bp:∀W,Qa w W->Calls Tryz.prog 77 #[.pointer (some ⟨b,0,none⟩),.agg #[.int .i64 0,.int .i64 dy,.string pl,.string fr,.slice B ts.length c,.int .i64 cl,.int .i64 yr]] W (zbG base b (zbp laws s ⟨0,dy,pl,fr,ts,cl,yr⟩) last k W):=λW hB=>by
   rw[show zbp laws s ⟨0,dy,pl,fr,ts,cl,yr⟩=zcR s ⟨0,dy,pl,fr,ts,cl,yr⟩from by simp[zbp]];exact grant_any base b s last k ⟨0,dy,pl,fr,ts,cl,yr⟩ B c W (HW.o.keep hB) (dh.o.keep hB) j9.o rfl McS aA (eZ.o.keep hB)
  generalize zbp laws s ⟨0,dy,pl,fr,ts,cl,yr⟩=X at*;have cQ:=zHi bp;clear bp dq HF j9 dh eL eZ eM;obtain⟨s',er⟩:=X;unfold Deed.v;simp only;go_enter Tryz.func48,Tryz.ntmps48
  go_upto_region 3 with fail
  go_quiet (fail)
  go_upto_region 18 with
   (go_at_call 77
    go_must(refine(cQ.o _ Bw).mono ?_)
    rintro e wq ⟨rfl,hW,hB,hK⟩;have h0:=((hK w.heap.size _ _ (zas _ _ _ rfl)).trans (zas _ _ _ rfl))
    obtain⟨Bk',d',c',p',wl',r',mv',tv',ps',eC,cH,gX,gz⟩:=id hW;obtain⟨nU,oz,oy,nO⟩:=yH4 hW cH hB h0
    clear hW hB hK h0 gX gz cH)
  exact Md
 ·have bp:∀W,Qa w W->Calls Tryz.prog 78 #[.pointer (some ⟨b,0,none⟩),.agg #[.int .i64 1,.int .i64 dy,.string pl,.string fr,.slice B ts.length c,.int .i64 cl,.int .i64 yr]] W (zbG base b (zbp laws s ⟨1,dy,pl,fr,ts,cl,yr⟩) last k W):=λW hB=>by
   rw[show zbp laws s ⟨1,dy,pl,fr,ts,cl,yr⟩=zbo s ⟨1,dy,pl,fr,ts,cl,yr⟩from by simp[zbp]];exact zlD base b s last k last ⟨1,dy,pl,fr,ts,cl,yr⟩ B c W (HW.o.keep hB) dq.o j9.o rfl McS HF.o.1 aA (eZ.o.keep hB)
  generalize zbp laws s ⟨1,dy,pl,fr,ts,cl,yr⟩=X at*;have cQ:=zHi bp;clear bp dq HF j9 dh eL eZ eM;obtain⟨s',er⟩:=X;unfold Deed.v;simp only;go_enter Tryz.func48,Tryz.ntmps48
  go_upto_region 3 with fail
  go_quiet (fail)
  go_upto_region 18 with
   (go_at_call 78
    go_must(refine(cQ.o _ Bw).mono ?_)
    rintro e wq ⟨rfl,hW,hB,hK⟩;have h0:=((hK w.heap.size _ _ (zas _ _ _ rfl)).trans (zas _ _ _ rfl))
    obtain⟨Bk',d',c',p',wl',r',mv',tv',ps',eC,cH,gX,gz⟩:=id hW;obtain⟨nU,oz,oy,nO⟩:=yH4 hW cH hB h0
    clear hW hB hK h0 gX gz cH)
  exact Md
 ·have bp:∀W,Qa w W->Calls Tryz.prog 79 #[.pointer (some ⟨b,0,none⟩),.agg #[.int .i64 2,.int .i64 dy,.string pl,.string fr,.slice B ts.length c,.int .i64 cl,.int .i64 yr]] W (zbG base b (zbp laws s ⟨2,dy,pl,fr,ts,cl,yr⟩) last k W):=λW hB=>by
   rw[show zbp laws s ⟨2,dy,pl,fr,ts,cl,yr⟩=zbb s ⟨2,dy,pl,fr,ts,cl,yr⟩from by simp[zbp]];exact zkA base b s last k last ⟨2,dy,pl,fr,ts,cl,yr⟩ B c W (HW.o.keep hB) dq.o McS HF.o.1
  generalize zbp laws s ⟨2,dy,pl,fr,ts,cl,yr⟩=X at*;have cQ:=zHi bp;clear bp dq HF j9 dh eL eZ eM;obtain⟨s',er⟩:=X;unfold Deed.v;simp only;go_enter Tryz.func48,Tryz.ntmps48
  go_upto_region 3 with fail
  go_quiet (fail)
  go_upto_region 18 with
   (go_at_call 79
    go_must(refine(cQ.o _ Bw).mono ?_)
    rintro e wq ⟨rfl,hW,hB,hK⟩;have h0:=((hK w.heap.size _ _ (zas _ _ _ rfl)).trans (zas _ _ _ rfl))
    obtain⟨Bk',d',c',p',wl',r',mv',tv',ps',eC,cH,gX,gz⟩:=id hW;obtain⟨nU,oz,oy,nO⟩:=yH4 hW cH hB h0
    clear hW hB hK h0 gX gz cH)
  exact Md
 ·have bp:∀W,Qa w W->Calls Tryz.prog 80 #[.pointer (some ⟨b,0,none⟩),.agg #[.int .i64 3,.int .i64 dy,.string pl,.string fr,.slice B ts.length c,.int .i64 cl,.int .i64 yr]] W (zbG base b (zbp laws s ⟨3,dy,pl,fr,ts,cl,yr⟩) last k W):=λW hB=>by
   rw[show zbp laws s ⟨3,dy,pl,fr,ts,cl,yr⟩=zdc s ⟨3,dy,pl,fr,ts,cl,yr⟩from by simp[zbp]];exact znh base b s last k last ⟨3,dy,pl,fr,ts,cl,yr⟩ B c W (HW.o.keep hB) (dh.o.keep hB) j9.o McS HF.o.2.2
  generalize zbp laws s ⟨3,dy,pl,fr,ts,cl,yr⟩=X at*;have cQ:=zHi bp;clear bp dq HF j9 dh eL eZ eM;obtain⟨s',er⟩:=X;unfold Deed.v;simp only;go_enter Tryz.func48,Tryz.ntmps48
  go_upto_region 3 with fail
  go_quiet (fail)
  go_upto_region 18 with
   (go_at_call 80
    go_must(refine(cQ.o _ Bw).mono ?_)
    rintro e wq ⟨rfl,hW,hB,hK⟩;have h0:=((hK w.heap.size _ _ (zas _ _ _ rfl)).trans (zas _ _ _ rfl))
    obtain⟨Bk',d',c',p',wl',r',mv',tv',ps',eC,cH,gX,gz⟩:=id hW;obtain⟨nU,oz,oy,nO⟩:=yH4 hW cH hB h0
    clear hW hB hK h0 gX gz cH)
  exact Md
 ·have bp:∀W,Qa w W->Calls Tryz.prog 82 #[.pointer (some ⟨b,0,none⟩),.agg #[.int .i64 4,.int .i64 dy,.string pl,.string fr,.slice B ts.length c,.int .i64 cl,.int .i64 yr]] W (zbG base b (zbp laws s ⟨4,dy,pl,fr,ts,cl,yr⟩) last k W):=λW hB=>by
   rw[show zbp laws s ⟨4,dy,pl,fr,ts,cl,yr⟩=zgU s ⟨4,dy,pl,fr,ts,cl,yr⟩from by simp[zbp]];exact will_any base b s last k ⟨4,dy,pl,fr,ts,cl,yr⟩ B c W (HW.o.keep hB) j9.o rfl (eZ.o.keep hB)
  generalize zbp laws s ⟨4,dy,pl,fr,ts,cl,yr⟩=X at*;have cQ:=zHi bp;clear bp dq HF j9 dh eL eZ eM;obtain⟨s',er⟩:=X;unfold Deed.v;simp only;go_enter Tryz.func48,Tryz.ntmps48
  go_upto_region 3 with fail
  go_quiet (fail)
  go_upto_region 7 with fail
  refine wp_region_held_drew (S:=(λw'=>w'.cell? ⟨w.heap.size,0,none⟩=some (.int .i64 4)/\w'.cell? ⟨w.heap.size,1,none⟩=some (.int .i64 dy)/\w'.cell? ⟨w.heap.size,2,none⟩=some (.string pl)/\w'.cell? ⟨w.heap.size,3,none⟩=some (.string fr)/\w'.cell? ⟨w.heap.size,4,none⟩=some (.slice B ts.length c)/\w'.cell? ⟨w.heap.size,5,none⟩=some (.int .i64 cl)/\w'.cell? ⟨w.heap.size,6,none⟩=some (.int .i64 yr))) McT ?hS4 ?hrest4
  case hS4=>refine⟨?_,?_,?_,?_,?_,?_,?_⟩<;>(simp[go_sem];done)
  intro hHeld;refine TkH 0 ?_;refine TkH 1 ?_;refine TkH 2 ?_;refine TkH 3 ?_;refine OnH 4 λK hK=>?_
  go_simp
  refine(cQ.o _ Bw).mono ?_;rintro e wq ⟨rfl,hW,hB,hK⟩;have h0:=((hK w.heap.size _ _ (zas _ _ _ rfl)).trans (zas _ _ _ rfl))
  obtain⟨Bk',d',c',p',wl',r',mv',tv',ps',eC,cH,gX,gz⟩:=id hW;obtain⟨nU,oz,oy,nO⟩:=yH4 hW cH hB h0;have d0:wq.cell? ⟨w.heap.size,0,none⟩=some (.int .i64 4):=Mdn;exact Mce
 ·have bp:∀W,Qa w W->Calls Tryz.prog 82 #[.pointer (some ⟨b,0,none⟩),.agg #[.int .i64 5,.int .i64 dy,.string pl,.string fr,.slice B ts.length c,.int .i64 cl,.int .i64 yr]] W (zbG base b (zbp laws s ⟨5,dy,pl,fr,ts,cl,yr⟩) last k W):=λW hB=>by
   rw[show zbp laws s ⟨5,dy,pl,fr,ts,cl,yr⟩=zb9 s ⟨5,dy,pl,fr,ts,cl,yr⟩from by simp[zbp]];exact zlP base b s last k ⟨5,dy,pl,fr,ts,cl,yr⟩ B c W (HW.o.keep hB) j9.o rfl aA (eZ.o.keep hB)
  generalize zbp laws s ⟨5,dy,pl,fr,ts,cl,yr⟩=X at*;have cQ:=zHi bp;clear bp dq HF j9 dh eL eZ eM;obtain⟨s',er⟩:=X;unfold Deed.v;simp only;go_enter Tryz.func48,Tryz.ntmps48
  go_upto_region 3 with fail
  go_quiet (fail)
  go_upto_region 7 with fail
  refine wp_region_held_drew (S:=(λw'=>w'.cell? ⟨w.heap.size,0,none⟩=some (.int .i64 5)/\w'.cell? ⟨w.heap.size,1,none⟩=some (.int .i64 dy)/\w'.cell? ⟨w.heap.size,2,none⟩=some (.string pl)/\w'.cell? ⟨w.heap.size,3,none⟩=some (.string fr)/\w'.cell? ⟨w.heap.size,4,none⟩=some (.slice B ts.length c)/\w'.cell? ⟨w.heap.size,5,none⟩=some (.int .i64 cl)/\w'.cell? ⟨w.heap.size,6,none⟩=some (.int .i64 yr))) McT ?hS5 ?hrest5
  case hS5=>refine⟨?_,?_,?_,?_,?_,?_,?_⟩<;>(simp[go_sem];done)
  intro hHeld;refine TkH 0 ?_;refine TkH 1 ?_;refine TkH 2 ?_;refine TkH 3 ?_;refine OnH 4 λK hK=>?_
  go_simp
  refine(cQ.o _ Bw).mono ?_;rintro e wq ⟨rfl,hW,hB,hK⟩;have h0:=((hK w.heap.size _ _ (zas _ _ _ rfl)).trans (zas _ _ _ rfl))
  obtain⟨Bk',d',c',p',wl',r',mv',tv',ps',eC,cH,gX,gz⟩:=id hW;obtain⟨nU,oz,oy,nO⟩:=yH4 hW cH hB h0;have d0:wq.cell? ⟨w.heap.size,0,none⟩=some (.int .i64 5):=Mdn;exact Mce
 ·have bp:∀W,Qa w W->Calls Tryz.prog 82 #[.pointer (some ⟨b,0,none⟩),.agg #[.int .i64 6,.int .i64 dy,.string pl,.string fr,.slice B ts.length c,.int .i64 cl,.int .i64 yr]] W (zbG base b (zbp laws s ⟨6,dy,pl,fr,ts,cl,yr⟩) last k W):=λW hB=>by
   rw[show zbp laws s ⟨6,dy,pl,fr,ts,cl,yr⟩=zcG s ⟨6,dy,pl,fr,ts,cl,yr⟩from by simp[zbp]];exact child_any base b s last k ⟨6,dy,pl,fr,ts,cl,yr⟩ B c W (HW.o.keep hB) j9.o rfl aA (eZ.o.keep hB) McS
  generalize zbp laws s ⟨6,dy,pl,fr,ts,cl,yr⟩=X at*;have cQ:=zHi bp;clear bp dq HF j9 dh eL eZ eM;obtain⟨s',er⟩:=X;unfold Deed.v;simp only;go_enter Tryz.func48,Tryz.ntmps48
  go_upto_region 3 with fail
  go_quiet (fail)
  go_upto_region 7 with fail
  refine wp_region_held_drew (S:=(λw'=>w'.cell? ⟨w.heap.size,0,none⟩=some (.int .i64 6)/\w'.cell? ⟨w.heap.size,1,none⟩=some (.int .i64 dy)/\w'.cell? ⟨w.heap.size,2,none⟩=some (.string pl)/\w'.cell? ⟨w.heap.size,3,none⟩=some (.string fr)/\w'.cell? ⟨w.heap.size,4,none⟩=some (.slice B ts.length c)/\w'.cell? ⟨w.heap.size,5,none⟩=some (.int .i64 cl)/\w'.cell? ⟨w.heap.size,6,none⟩=some (.int .i64 yr))) McT ?hS6 ?hrest6
  case hS6=>refine⟨?_,?_,?_,?_,?_,?_,?_⟩<;>(simp[go_sem];done)
  intro hHeld;refine TkH 0 ?_;refine TkH 1 ?_;refine TkH 2 ?_;refine TkH 3 ?_;refine OnH 4 λK hK=>?_
  go_simp
  refine(cQ.o _ Bw).mono ?_;rintro e wq ⟨rfl,hW,hB,hK⟩;have h0:=((hK w.heap.size _ _ (zas _ _ _ rfl)).trans (zas _ _ _ rfl))
  obtain⟨Bk',d',c',p',wl',r',mv',tv',ps',eC,cH,gX,gz⟩:=id hW;obtain⟨nU,oz,oy,nO⟩:=yH4 hW cH hB h0;have d0:wq.cell? ⟨w.heap.size,0,none⟩=some (.int .i64 6):=Mdn;exact Mce
 ·have bp:∀W,Qa w W->Calls Tryz.prog 82 #[.pointer (some ⟨b,0,none⟩),.agg #[.int .i64 7,.int .i64 dy,.string pl,.string fr,.slice B ts.length c,.int .i64 cl,.int .i64 yr]] W (zbG base b (zbp laws s ⟨7,dy,pl,fr,ts,cl,yr⟩) last k W):=λW hB=>by
   rw[show zbp laws s ⟨7,dy,pl,fr,ts,cl,yr⟩=zdt s ⟨7,dy,pl,fr,ts,cl,yr⟩from by simp[zbp]];exact marry_any base b s last k ⟨7,dy,pl,fr,ts,cl,yr⟩ B c W (HW.o.keep hB) j9.o rfl aA (eZ.o.keep hB) McS
  generalize zbp laws s ⟨7,dy,pl,fr,ts,cl,yr⟩=X at*;have cQ:=zHi bp;clear bp dq HF j9 dh eL eZ eM;obtain⟨s',er⟩:=X;unfold Deed.v;simp only;go_enter Tryz.func48,Tryz.ntmps48
  go_upto_region 3 with fail
  go_quiet (fail)
  go_upto_region 7 with fail
  refine wp_region_held_drew (S:=(λw'=>w'.cell? ⟨w.heap.size,0,none⟩=some (.int .i64 7)/\w'.cell? ⟨w.heap.size,1,none⟩=some (.int .i64 dy)/\w'.cell? ⟨w.heap.size,2,none⟩=some (.string pl)/\w'.cell? ⟨w.heap.size,3,none⟩=some (.string fr)/\w'.cell? ⟨w.heap.size,4,none⟩=some (.slice B ts.length c)/\w'.cell? ⟨w.heap.size,5,none⟩=some (.int .i64 cl)/\w'.cell? ⟨w.heap.size,6,none⟩=some (.int .i64 yr))) McT ?hS7 ?hrest7
  case hS7=>refine⟨?_,?_,?_,?_,?_,?_,?_⟩<;>(simp[go_sem];done)
  intro hHeld;refine TkH 0 ?_;refine TkH 1 ?_;refine TkH 2 ?_;refine TkH 3 ?_;refine OnH 4 λK hK=>?_
  go_simp
  refine(cQ.o _ Bw).mono ?_;rintro e wq ⟨rfl,hW,hB,hK⟩;have h0:=((hK w.heap.size _ _ (zas _ _ _ rfl)).trans (zas _ _ _ rfl))
  obtain⟨Bk',d',c',p',wl',r',mv',tv',ps',eC,cH,gX,gz⟩:=id hW;obtain⟨nU,oz,oy,nO⟩:=yH4 hW cH hB h0;have d0:wq.cell? ⟨w.heap.size,0,none⟩=some (.int .i64 7):=Mdn;exact Mce
 ·have bp:∀W,Qa w W->Calls Tryz.prog 81 #[.pointer (some ⟨b,0,none⟩),.slice LA laws.length lc,.agg #[.int .i64 8,.int .i64 dy,.string pl,.string fr,.slice B ts.length c,.int .i64 cl,.int .i64 yr]] W (zbG base b (zbp laws s ⟨8,dy,pl,fr,ts,cl,yr⟩) last k W):=λW hB=>by
   rw[show zbp laws s ⟨8,dy,pl,fr,ts,cl,yr⟩=zdM laws s ⟨8,dy,pl,fr,ts,cl,yr⟩from by simp[zbp]];exact death_any base b s last k last laws LA lc ⟨8,dy,pl,fr,ts,cl,yr⟩ B c W (HW.o.keep hB) dq.o bG rfl eM.o g9 (eL.o.keep hB) McS McS McS (by simpa using Nat.le_trans cK McS) HF.o.2.1
  generalize zbp laws s ⟨8,dy,pl,fr,ts,cl,yr⟩=X at*;have cQ:=zHi bp;clear bp dq HF j9 dh eL eZ eM;obtain⟨s',er⟩:=X;unfold Deed.v;simp only;go_enter Tryz.func48,Tryz.ntmps48
  go_upto_region 3 with fail
  go_quiet (fail)
  go_upto_region 18 with
   (go_at_call 81
    go_must(refine(cQ.o _ Bw).mono ?_)
    rintro e wq ⟨rfl,hW,hB,hK⟩;have h0:=((hK w.heap.size _ _ (zas _ _ _ rfl)).trans (zas _ _ _ rfl))
    obtain⟨Bk',d',c',p',wl',r',mv',tv',ps',eC,cH,gX,gz⟩:=id hW;obtain⟨nU,oz,oy,nO⟩:=yH4 hW cH hB h0
    clear hW hB hK h0 gX gz cH)
  exact Md
def zez{K V:Type}{ek:K->Value}{ev:V->Value}(h:W.heap[b]?=some (.map #[] 0)):MapS W b ek ev ([]:List (K×V)):=⟨#[],0,h,rfl,by simp,by simp⟩
def NewPost(w:World)(e:Ending)(w':World):Prop:=
 e=.returned (.agg #[.map (some (w.heap.size+1)),.map (some (w.heap.size+1+1)),.map (some (w.heap.size+1+1+1)),.slice none 0 0,.map (some (w.heap.size+1+1+1+1)),.map (some (w.heap.size+1+1+1+1+1))])/\
 w'.heap.size=w.heap.size+6/\(∀k,1<=k->k<=5->w'.heap[w.heap.size+k]?=some (.map #[] 0))/\Qa w w'
def zj4{fn:Func}{p:Tmp}(h:fn.results= #[.cell p 72])(tmps:Array Value)(w:World)(B:Nat)(x0 x1 x2 x3 x4 x5:Value)(hp:tmps.getD p undef=.pointer (some ⟨B,0,none⟩))
 (hx:w.heap[B]?=some (.cells #[x0,x1,x2,x3,x4,x5] 72)):(results fn tmps).run Tryz.prog w=.ok (.agg #[x0,x1,x2,x3,x4,x5]) w:=by
 obtain⟨h0,h1,h2,h3,h4,h5⟩:=cF6 hx;exact Mbo
def zkU(w:World):Calls Tryz.prog 45 #[] w (NewPost w):=by
 have dj:= @run_makeMap Tryz.prog;go_enter Tryz.func45,Tryz.ntmps45
 go_wp2_with fail
 refine bodyPost_ret (v:=.agg #[.map (some (w.heap.size+1)),.map (some (w.heap.size+1+1)),.map (some (w.heap.size+1+1+1)),.slice none 0 0,.map (some (w.heap.size+1+1+1+1)),.map (some (w.heap.size+1+1+1+1+1))]) ?_ rfl ?_
 ·refine zj4 rfl _ _ w.heap.size _ _ _ _ _ _ rfl ?_;exact zal (zal (zal (zal (zal (zas _ _ _ rfl)))))
 ·refine⟨rfl,by simp,λk h1 h2=>?_,Bw⟩;obtain rfl|rfl|rfl|rfl|rfl:k=1\/k=2\/k=3\/k=4\/k=5:=by omega
  ·exact zal (zal (zal (zal (zas _ _ _ McV))))
  ·exact zal (zal (zal (zas _ _ _ McV)))
  ·exact zal (zal (zas _ _ _ McV))
  ·exact zal (zas _ _ _ McV)
  ·exact zas _ _ _ McV
def wld_new(hb:base<=w.heap.size)(hs:w.heap.size+6=W.heap.size)(hm:∀k,1<=k->k<=5->W.heap[w.heap.size+k]?=some (.map #[] 0)):
 WldAt base (W.alloc (.cells #[.map (some (w.heap.size+1)),.map (some (w.heap.size+1+1)),.map (some (w.heap.size+1+1+1)),.slice none 0 0,.map (some (w.heap.size+1+1+1+1)),.map (some (w.heap.size+1+1+1+1+1)),.slice none 0 0,.int .i64 0,.int .i64 0] 75)) W.heap.size zb3 0 0:=by
 have hk:∀k,1<=k->k<=5->(W.alloc (.cells #[.map (some (w.heap.size+1)),.map (some (w.heap.size+1+1)),.map (some (w.heap.size+1+1+1)),.slice none 0 0,.map (some (w.heap.size+1+1+1+1)),.map (some (w.heap.size+1+1+1+1+1)),.slice none 0 0,.int .i64 0,.int .i64 0] 75)).heap[w.heap.size+k]?=some (.map #[] 0):=λk h1 h2=>(Below.heap_alloc _ _ _ McS).trans (hm k h1 h2)
 refine⟨[],w.heap.size+1,w.heap.size+2,w.heap.size+3,w.heap.size+4,w.heap.size+5,.slice none 0 0,.slice none 0 0,[],by omega,zas _ _ _ rfl,⟨by simp,⟨by omega,by omega,by omega,by omega,by omega⟩,zez (hk 1 McS McS),⟨[],[],zez (hk 2 McS McS),zez (hk 3 McS McS),λn=> .inl ⟨rfl,rfl⟩,λn=> .inl ⟨rfl,rfl⟩,rfl,by simp,by simp,by simp⟩,OwnS.nil,⟨[],zez (hk 4 McS McS),λn=> .inl ⟨rfl,rfl⟩⟩,zez (hk 5 McS McS)⟩,⟨OwnS.nil,rfl,by simp,λi T g h=>by simp at h⟩⟩
section
variable {s:St} {d:Deed}
def grant_err:(zcR s d).2≠0->(zcR s d).1=s:=by
 unfold zcR;exact MV
def zmh:(zbo s d).2≠0->(zbo s d).1=s:=by
 unfold zbo;exact MV
def zkV:(zbb s d).2≠0->(zbb s d).1=s:=by
 unfold zbb;exact MV
def renew_err:(zdc s d).2≠0->(zdc s d).1=s:=by
 unfold zdc;exact MV
def will_err:(zgU s d).2≠0->(zgU s d).1=s:=by
 unfold zgU;exact MV
def zmi:(zb9 s d).2≠0->(zb9 s d).1=s:=by
 unfold zb9;exact MV
def child_err:(zcG s d).2≠0->(zcG s d).1=s:=by
 unfold zcG;exact MV
def marry_err:(zdt s d).2≠0->(zdt s d).1=s:=by
 unfold zdt;exact MV
def death_err{laws:List Law}:(zdM laws s d).2≠0->(zdM laws s d).1=s:=by
 unfold zdM;exact MV
def take_err{laws:List Law}(h:(zbp laws s d).2≠0):(zbp laws s d).1=s:=by
 revert h
 unfold zbp;split
 ·exact grant_err
 split
 ·exact zmh
 split
 ·exact zkV
 split
 ·exact renew_err
 split
 ·exact will_err
 split
 ·exact zmi
 split
 ·exact child_err
 split
 ·exact marry_err
 exact death_err
def takeQ_err{laws:List Law}{co:Nat}{last:Int}(h:(zey laws s co last d).2≠0):(zey laws s co last d).1=s:=by
 revert h
 unfold zey;split
 ·exact λ_=>rfl
 split
 ·exact λ_=>rfl
 exact take_err
def next_take{laws:List Law}{co:Nat}{last:Int}(h:zaH d=0):zcn laws s co last d=zey laws s co last d:=by
 unfold zcn zey;rw[h];rfl
end
noncomputable def zd7 (laws:List Law) (ds:List Deed) (upto:Int):St×Nat×Int:=
 if zaC laws != 0 then(zb3,0,zaC laws)else zfj laws upto ds zb3 0 0
def zho(w:World)(R:St×Nat×Int)(e:Ending)(w':World):Prop:=
 ∃base b la co,e=.returned (.tuple #[.pointer (some ⟨b,0,none⟩),.int .i64 R.2.1,.int .i64 R.2.2])/\w.heap.size<=base/\WldAt base w' b R.1 la co/\Qa w w'/\(∃last,GoodSt R.1 last)/\∃k,k<=60/\FewS k R.1
variable{laws:List Law}
def takeQ_ok{last:Int}{d:Deed}(h:(zey laws s k last d).2=0)(hd:OkD d)(hG:GoodSt s last)(hF:FewS k s)(bH:zaC laws=0):k<60/\GoodSt (zey laws s k last d).1 d.day/\FewS (k+1) (zey laws s k last d).1:=by
 unfold zey at h⊢;split at h
 ·simp at h
 rename_i h1
 split at h
 ·simp at h
 rename_i h2
 rw[if_neg h1,if_neg h2];have hk:k<60:=Mdp;have hl:last<=d.day:=MeI;have ht:zbp laws s d=((zbp laws s d).1,0):=Prod.ext rfl h;exact⟨hk,zhd hG hd hl bH ht,zkR hF hk hG hd hl bH ht⟩
def zhp(laws:List Law)(ds:List Deed)(upto:Int)(LA:Option Addr)(n nc:Nat)(DA:Option Addr)(m mc:Nat)(w:World)(hR:RightsIn w laws ds LA n nc DA m mc)(hF:FormsIn w)(hL:LensIn w)(hO:∀d∈ds,zdQ d):
 Calls Tryz.prog 19 #[.agg #[.slice LA n nc,.slice DA m mc],.int .i64 upto] w (zho w (zd7 laws ds upto)):=by
 obtain⟨R,hR⟩:=Qd (zd7 laws ds upto)
 rw[<-hR];unfold zd7 at hR;have HR:=zHi hR;clear hR;obtain⟨rfl,rfl,xY,lI,fT,gV⟩:=hR;obtain⟨HF,HL,HO,eL,eW⟩:=yH5 hF hL hO fT gV;clear hF hL hO fT gV;go_enter Tryz.func19,Tryz.ntmps19
 go_upto_region 2 with(go_at_call 45;go_must(refine(zkU _).mono ?_);rintro e wq ⟨rfl,n1,n2,n3⟩;obtain⟨N1,N2,N3⟩:=yH3 n1 n2 n3;clear n1 n2 n3)
 have cK:=wld_new (base:=w.heap.size+1) (w:=w.alloc (.cells #[.slice LA laws.length nc,.slice DA ds.length mc] 25)) (W:=wq) McV N1.o.symm N2.o;have hsz:=N1.o;simp only[World.size_alloc]at cK hsz;have ba:Qa w wq:=Below.trans (zad Qb _) (N3.o.mono McV);have iq:wq.heap[w.heap.size]?=some (.cells #[.slice LA laws.length nc,.slice DA ds.length mc] 25):=(N3.o.block _ McV).trans (zas _ _ _ rfl);have cI:=zab iq;have bV:∀o,Qa w (wq.alloc o):=λo=>zad ba _ McS
 have AK:∀o,(wq.alloc o).heap[w.heap.size]?=some (.cells #[.slice LA laws.length nc,.slice DA ds.length mc] 25):=λo=>zal iq
 obtain⟨b,hb⟩:=Qd wq.heap.size
 rw[<-hb]at cK⊢;have h2:=bV (.cells #[.map (some (w.heap.size+1+1)),.map (some (w.heap.size+1+1+1)),.map (some (w.heap.size+1+1+1+1)),.slice none 0 0,.map (some (w.heap.size+1+1+1+1+1)),.map (some (w.heap.size+1+1+1+1+1+1)),.slice none 0 0,.int .i64 0,.int .i64 0] 75);have cP:=AK (.cells #[.map (some (w.heap.size+1+1)),.map (some (w.heap.size+1+1+1)),.map (some (w.heap.size+1+1+1+1)),.slice none 0 0,.map (some (w.heap.size+1+1+1+1+1)),.map (some (w.heap.size+1+1+1+1+1+1)),.slice none 0 0,.int .i64 0,.int .i64 0] 75);clear bV AK ba iq cI hsz N1 N2 N3 hb;generalize wq.alloc _=W2 at*;obtain⟨wg,aN,aw⟩:=yH3 cK h2 cP;have aZ:=zab cP;obtain⟨x0,x1⟩:=cF2 cP;have jq:=zHi (λW (hB:Qa W2 W)=>zjx laws LA laws.length nc W rfl (eL.o.keep (h2.trans (hB.mono (Nat.le_of_lt aZ)))));clear cK h2 cP;by_cases bH:zaC laws=0
 ·rw[bH]at jq HR;have eM:=zHi bH;clear bH;go_upto_block 0 with(go_at_call 46;go_must(refine(jq.o _ Bw).mono ?_);rintro e wq ⟨rfl,z,rfl⟩)
  clear jq x0 x1;go_cut [9,10,11,25]from 26 (λ_ _ _ _ W=>∃s,Hid (R=(s,ds.length,0))/\∃la co,WldAt (w.heap.size+1) W b s la co/\Qa w W/\W.heap[w.heap.size]?=some (.cells #[.slice LA laws.length nc,.slice DA ds.length mc] 25)/\(∃last,GoodSt s last)/\∃k,k<=60/\FewS k s)
  case first=>
   go_wp2_with fail
   go_loopw [25] (λi wr=>∃(k:Nat) (s:St) (last:Int),k<=ds.length/\i=.int .i64 k/\Hid (R=zfj laws upto (ds.drop k) s k last)/\Hid (WldAt (w.heap.size+1) wr b s last k)/\Hid (GoodSt s last)/\Hid (FewS k s)/\k<=60/\Qa w wr/\wr.heap[w.heap.size]?=some (.cells #[.slice LA laws.length nc,.slice DA ds.length mc] 25)) (λi _=>ds.length-(intOf i).toNat)
   case atStart=>
    refine⟨0,zb3,0,Nat.zero_le _,rfl,?_,wg.o.keep (n:=W2.heap.size) Bw,zfb 0,zgC,by omega,?_,?_⟩
    ·show _=_;rw[HR.o];simp
    ·exact aN.o.trans (Below.mono (B:=W2.heap.size) Bw (Nat.le_of_lt aZ))
    ·exact zbF aw.o
   case round=>
    obtain⟨k,s,last,hk,rfl,HX,HW,HG,tT,fM,hB,hX⟩:=hrel;clear wg aN aw HR;obtain x0:=cF1 hX;have kS:=zab hX;obtain⟨HB,FG⟩:=yH2 hB hX;by_cases ae:k<ds.length
    ·obtain⟨db,off,cs,hA,ux,⟨B,c,aA,aY,hS⟩,hc⟩:=(eW.o.keep zbS hB).at ae;subst hA aY;have aq:=HX.o;rw[List.drop_eq_getElem_cons ae,zfj,<-List.drop_eq_getElem_cons ae]at aq;have bE:=HO.o ds[k] (List.getElem_mem ae);have uv:∀W,Qa wr W->_:=λW hW=>zj1 ds[k] B c W (HF.o.keep (hB.trans (hW.mono (Nat.le_of_lt kS)))) bE aA (hS.keep hW)
     have fD:∀W,Qa wr W->OkD ds[k]->_:=λW hW hd=>take_any (w.heap.size+1) b s k last laws LA nc ds[k] B c W (HW.o.keep hW) HG.o tT.o hd eM.o (HL.o.keep (hB.trans (hW.mono (Nat.le_of_lt kS)))) (eL.o.keep (hB.trans (hW.mono (Nat.le_of_lt kS)))) aA (hS.keep hW)
     rw[zkE]at uv;obtain⟨aj,pP,aK,mi,jx⟩:=yH5 ae (show k+(ds.drop k).length=ds.length by rw[List.length_drop];omega) aq uv fD;generalize ds[k]=d at*;clear aq bE uv fD hX hB hS;have cm:OkD d->(zey laws s k last d).2=0->k<60/\GoodSt (zey laws s k last d).1 d.day/\FewS (k+1) (zey laws s k last d).1:=λhd h=>takeQ_ok h hd HG.o tT.o eM.o
     have sH:zaH d=0->OkD d:=ze8;have qs:=λh=>next_take (laws:=laws) (s:=s) (co:=k) (last:=last) (d:=d) h
     obtain⟨kd,dy,pl,fr,ts,cl,yr⟩:=d;have i0:wr.cell? ⟨db,off+k*7,none⟩=some (.int .i64 kd):=hc 0 _ rfl;have i1:wr.cell? ⟨db,off+k*7+1,none⟩=some (.int .i64 dy):=hc 1 _ rfl;have i2:wr.cell? ⟨db,off+k*7+2,none⟩=some (.string pl):=hc 2 _ rfl;have i3:wr.cell? ⟨db,off+k*7+3,none⟩=some (.string fr):=hc 3 _ rfl;have i4:wr.cell? ⟨db,off+k*7+4,none⟩=some (.slice B ts.length c):=hc 4 _ rfl;have i5:wr.cell? ⟨db,off+k*7+5,none⟩=some (.int .i64 cl):=hc 5 _ rfl;have i6:wr.cell? ⟨db,off+k*7+6,none⟩=some (.int .i64 yr):=hc 6 _ rfl;have au:(k:Int)<(ds.length:Int):=McS;have aR:(0:Int)<=(k:Int):=McS;have Lu:(k:Int)<=(mc:Int):=McS;have lV:w.heap.size≠wr.heap.size:=McS;unfold Deed.v at jx;simp only at qs cm jx aK;clear hc;by_cases hce:zaH ⟨kd,dy,pl,fr,ts,cl,yr⟩=0
     ·have Ev:=sH hce;have aq:=aK.o;rw[hce,qs hce]at aq;rw[hce]at mi;have sV:=cm Ev;have lJ:=λh=>takeQ_err (laws:=laws) (s:=s) (d:=⟨kd,dy,pl,fr,ts,cl,yr⟩) (co:=k) (last:=last) h
      have rF:=zHi (λW hW=>jx.o W hW Ev);clear aK jx qs cm sH Ev;generalize zey laws s k last ⟨kd,dy,pl,fr,ts,cl,yr⟩=x at*;generalize zaH ⟨kd,dy,pl,fr,ts,cl,yr⟩=ce at*;obtain⟨s',er⟩:=x;by_cases kM:upto<dy
      ·have cn:Hid (R=(s,ds.length,0)):=by
        show _=_;rw[aq,if_pos (by simp[kM]),pP.o]
       clear aq sV lJ rF pP;go_wp2_with (go_at_call 47;go_must(refine(mi.o _ Bw).mono ?_);rintro e wq ⟨rfl,z,rfl⟩)
       go_meet
       exact⟨s,cn.o,last,k,HW.o.keep (n:=wr.heap.size) Bw,HB.o.trans (Below.mono (B:=wr.heap.size) Bw McS),by repeat(first|assumption|with_reducible refine zal ?_|with_reducible refine zbF ?_|with_reducible refine J_ne McS ?_),⟨last,HG.o⟩,k,fM,tT.o⟩
      ·have df:R=if(er != 0)=true then(s,k,er)else zfj laws upto (ds.drop (k+1)) s' (k+1) dy:=by rw[aq,if_neg (by simp[kM])]
       have f9:=zHi df;have xn:=mi.o;clear aq df pP;by_cases h0:er=0
       ·subst h0;obtain⟨sU,ui,Ga⟩:=sV rfl;obtain⟨ik,BG⟩:=yH2 ui Ga;have kV:=wrap_k (k:=k) (Nat.lt_trans sU McU);have EU:=wrap_k2 (k:=k) (Nat.lt_trans sU McU);clear sV lJ ui Ga xn
        go_wp2_with (first
         |(go_at_call 47;go_must(refine(mi.o _ Bw).mono ?_);rintro e wq ⟨rfl,z,rfl⟩)
         |(go_at_call 48
           go_must(refine(rF.o _ Bw).mono ?_)
           rintro e wq ⟨rfl,t1,t2⟩;simp only[if_true]at t1;have T1:=zHi t1;have bn:Qa w wq:=(HB.o.trans (Below.mono (B:=wr.heap.size) Bw (Nat.le_of_lt kS))).trans (t2.mono (Nat.le_succ _));have Is:=(t2.block w.heap.size (Nat.lt_succ_self _)).trans (show _=some (.cells #[.slice LA laws.length nc,.slice (some ⟨db,off,none⟩) ds.length mc] 25) from by have hX:=FG.o;repeat(first|assumption|with_reducible refine zal ?_|with_reducible refine zbF ?_|with_reducible refine J_ne McS ?_));obtain⟨bk,uc⟩:=yH2 bn Is
           clear t1 t2 bn Is))
        go_round
        case rel=>
         clear kV EU;refine⟨k+1,s',dy,aj.o,by go_num,?_,T1.o,ik.o,BG.o,sU,bk.o,uc.o⟩;show _=_;rw[f9.o];simp
        case measure=>clear kV EU;have:=aj.o;simp only[intOf];omega
       ·have hs:=lJ h0;simp only at hs;subst hs;have cn:Hid (R=(s',k,er)):=by
         show _=_;rw[f9.o,if_pos MdX]
        clear sV lJ f9 xn
        go_wp2_with (first
         |(go_at_call 47;go_must(refine(mi.o _ Bw).mono ?_);rintro e wq ⟨rfl,z,rfl⟩)
         |(go_at_call 48
           go_must(refine(rF.o _ Bw).mono ?_)
           rintro e wq ⟨rfl,t1,t2⟩;have T1:=zHi t1;have bn:Qa w wq:=(HB.o.trans (Below.mono (B:=wr.heap.size) Bw (Nat.le_of_lt kS))).trans (t2.mono (Nat.le_succ _));have bk:=zHi bn
           clear t1 t2 bn))
        go_ret3
        rw[cn.o];exact⟨w.heap.size+1,b,_,_,rfl,by omega,T1.o,bk.o,⟨last,HG.o⟩,k,fM,tT.o⟩
     ·have ai:(zcn laws s k last ⟨kd,dy,pl,fr,ts,cl,yr⟩)=(s,zaH ⟨kd,dy,pl,fr,ts,cl,yr⟩):=by
       unfold zcn;rw[if_pos (by simpa using hce)]
      have aq:=aK.o;rw[ai]at aq;generalize zaH ⟨kd,dy,pl,fr,ts,cl,yr⟩=ce at*;have cn:Hid (R=(s,k,ce)):=by
       show _=_;rw[aq,if_neg (by simp[hce]),if_pos (by simpa using hce)]
      clear aq ai aK jx qs cm sH pP;go_wp2_with (go_at_call 47;go_must(refine(mi.o _ Bw).mono ?_);rintro e wq ⟨rfl,z,rfl⟩)
      go_ret3
      rw[cn.o];exact⟨w.heap.size+1,b,last,k,rfl,by omega,HW.o.keep (n:=wr.heap.size) Bw,HB.o.trans (Below.mono (B:=wr.heap.size) Bw McS),⟨last,HG.o⟩,k,fM,tT.o⟩
    ·have au:¬(k:Int)<(ds.length:Int):=McS;have hx:=HX.o;rw[List.drop_eq_nil_of_le McS,zfj]at hx;have ph:k=ds.length:=McS;have cn:Hid (R=(s,ds.length,0)):=by show _=_;rw[hx,ph]
     clear hx ph hX hB;go_wp2_with fail
     go_meet
     exact⟨s,cn.o,last,k,HW.o,HB.o,FG.o,⟨last,HG.o⟩,k,fM,tT.o⟩
  case rest=>
   obtain⟨s,cn,la,co,hW,hB,hX,hg,hf⟩:=hcut;obtain⟨-,x1⟩:=cF2 hX;have kS:=zab hX;obtain⟨HW,HB⟩:=yH2 hW hB;clear hW hB hX;go_upto_region 15 with fail
   go_quiet (fail)
   go_wp2_with fail
   go_ret3
   rw[cn.o];exact⟨w.heap.size+1,b,la,co,rfl,by omega,HW.o.keep (n:=wc.heap.size) Bw,HB.o.trans (Below.mono (B:=wc.heap.size) Bw McS),hg,hf⟩
 ·generalize zaC laws=er at*;have ai:(er != 0)=true:=by simpa using bH
  have cn:Hid (R=(zb3,0,er)):=by show _=_;rw[HR.o,if_pos ai]
  clear HR;go_wp2_with (go_at_call 46;go_must(refine(jq.o _ Bw).mono ?_);rintro e wq ⟨rfl,z,rfl⟩)
  go_ret3
  rw[cn.o];exact⟨w.heap.size+1,b,0,0,rfl,by omega,wg.o.keep (n:=W2.heap.size) Bw,aN.o.trans (Below.mono (B:=W2.heap.size) Bw McS),⟨0,zfb 0⟩,0,by omega,zgC⟩
def ifStr_any(g:Nat)(lb:Array Value)(eg:∀args w,(callFunc g args).run Tryz.prog w=.ok (.enter g args) w)(p:ByteArray->Bool)(A:Option Addr)(c:Nat)(xs:List ByteArray)(w:World)(hl:xs.length<=100000)
 (hS:Sl w 1 sC A xs)(hp:zeY g lb (λs=> .string s) p xs w):Calls Tryz.prog 73 #[.slice A xs.length c,.func (.func g) #[] lb] w (λe w'=>∃i:Int,e=.returned (.int .i64 i)/\decide (0<=i)=xs.any p/\Qa w w'):=by
 obtain⟨HS,HP⟩:=yH2 hS hp;clear hS hp;go_enter Tryz.func73,Tryz.ntmps73
 go_wp2_with fail
 go_loopw [8] (λi wr=>∃k:Nat,k<=xs.length/\i=.int .i64 k/\Hid (xs.any p=(xs.drop k).any p)/\Qa w wr) (λi _=>xs.length-(intOf i).toNat)
 case atStart=>exact⟨0,Nat.zero_le _,rfl,by show _=_;rw[List.drop_zero],Qb⟩
 case round=>
  obtain⟨k,hk,rfl,HX,hB⟩:=hrel;have HB:=zHi hB;by_cases ae:k<xs.length
  ·obtain⟨b,off,rfl,hb,hc⟩:=(HS.o.keep hB).at ae;have i0:wr.cell? ⟨b,off+k,none⟩=some (.string xs[k]):=Md1;have hx:=HX.o;rw[List.drop_eq_getElem_cons ae,List.any_cons]at hx;have bN:∀W,Qa w W->Calls Tryz.prog g (#[.string xs[k]]++lb) W λe w'=>e=.returned (.bool (p xs[k]))/\Qa w w':=λW hW=>HP.o xs[k] (List.getElem_mem ae) W hW
   generalize xs[k]=x at*;generalize hpx:p x=px at*;have aw:=zHi hx;have au:(k:Int)<(xs.length:Int):=McS;have aR:(0:Int)<=(k:Int):=McS;obtain⟨aj,cQ⟩:=yH2 ae bN;clear hc hx bN HX hpx;cases px
   ·go_wp2_with (go_at_fn g;refine(cQ.o _ HB.o).mono ?_;rintro e w' ⟨rfl,h1⟩)
    go_round
    case rel=>exact⟨k+1,aj.o,by go_num,by show _=_;rw[aw.o];simp,h1⟩
    case measure=>have:=aj.o;simp only[intOf];omega
   ·go_wp2_with (go_at_fn g;refine(cQ.o _ HB.o).mono ?_;rintro e w' ⟨rfl,h1⟩)
    go_ret
    exact⟨k,rfl,by rw[aw.o];simp,h1⟩
  ·have au:¬(k:Int)<(xs.length:Int):=McS;have hx:=HX.o;rw[List.drop_eq_nil_of_le McS]at hx;have aw:=zHi hx;clear hx hB;go_wp2_with fail
   go_ret
   exact⟨-1,rfl,by rw[aw.o];simp,HB.o⟩
def zmj(g:Nat)(lb:Array Value)(eg:∀args w,(callFunc g args).run Tryz.prog w=.ok (.enter g args) w)(p:ByteArray->Bool)(A:Option Addr)(n c:Nat)(xs:List ByteArray)(w:World)(hn:n=xs.length)(hl:xs.length<=100000)
 (hS:Sl w 1 sC A xs)(hp:zeY g lb (λs=> .string s) p xs w):Calls Tryz.prog 42 #[.slice A n c,.func (.func g) #[] lb] w (Ret w (.bool (xs.any p))):=by
 subst hn;have HI:=zHi (ifStr_any g lb eg p A c xs w hl hS hp);clear hS hp;go_enter Tryz.func42,Tryz.ntmps42
 go_wp2_with (go_at_call 73;refine HI.o.mono ?_;rintro e wq ⟨i,rfl,hi,hB⟩)
 go_ret
 rw[<-hi];exact Ret.of rfl hB
def onn_any(s:ByteArray)(W:World)(hs:s.size<=100000):Calls Tryz.prog 43 #[.string s] W (Ret W (.bool (!zaU s))):=by
 go_enter Tryz.func43,Tryz.ntmps43
 exact MaH
def onn_gives(xs:List ByteArray)(w:World)(hs:∀s∈xs,s.size<=100000):zeY 43 #[] (λs=> .string s) (λs=>!zaU s) xs w:=λx hx W hW=>by
 refine(onn_any x W (hs x hx)).mono ?_;exact Mbk
def zhq(laws:List Law)(u u':Int):∀(ds:List Deed) (s t t':St) (k:Nat) (l:Int),(zaR laws u ds s t k l).2=(zaR laws u' ds s t' k l).2
 | [],_,_,_,_,_=>rfl
 |d::ds,s,t,t',k,l=>by
  rw[zaR,zaR];split
  ·rfl
  ·exact zhq laws u u' ds _ _ _ _ _
noncomputable def zce (laws:List Law) (ds:List Deed) (names:List ByteArray) (day:Int):Int:=
 if(zd7 laws ds 200000).2.2 != 0 then(zd7 laws ds 200000).2.2 else if names.any (λs=>!zaU s)then 4 else if !zba day then 2 else 0
def zee(laws:List Law)(ds:List Deed):(zd7 laws ds 200000).2=(zaI laws ds 200000).2:=by
 unfold zd7 zaI;split
 ·rfl
 ·exact zoq (Int.le_refl _)
def zkd{ds:List Deed}(h:(zd7 laws ds 200000).2.2=0)(day:Int):(zd7 laws ds day).1=(zaI laws ds day).1/\(zd7 laws ds day).2.2=0:=by
 rw[zee]at h;unfold zaI at h;unfold zd7 zaI;split at h
 ·rename_i hc
  rw[if_pos hc,if_pos hc];exact⟨rfl,h⟩
 ·rename_i hc
  rw[if_neg hc,if_neg hc];exact zl5 (by rw[zhq laws day 200000 ds zb3 zb3 zb3];exact h)
def zny(laws:List Law)(ds:List Deed)(LA:Option Addr)(n nc:Nat)(DA:Option Addr)(m mc:Nat)(w:World)(hR:RightsIn w laws ds LA n nc DA m mc)(hF:FormsIn w)(hL:LensIn w)(hO:∀d∈ds,zdQ d):
 Calls Tryz.prog 41 #[.agg #[.slice LA n nc,.slice DA m mc]] w (Ret w (.tuple #[.int .i64 (zd7 laws ds 200000).2.1,.int .i64 (zd7 laws ds 200000).2.2])):=by
 have uK:=λW (hB:Qa w W)=>zhp laws ds 200000 LA n nc DA m mc W (hR.keep hB) (hF.keep hB) (hL.keep hB) hO
 clear hR hF hL hO;generalize zd7 laws ds 200000=R at*;have eB:=zHi uK;clear uK;go_enter Tryz.func41,Tryz.ntmps41
 go_wp2_with (go_at_call 19;go_must(refine(eB.o _ Bw).mono ?_);rintro e wq ⟨base,b,la,co,rfl,h1,h2,h3,h4,h5⟩;have H3:=zHi h3;clear h1 h2 h3 h4 h5)
 go_ret2
 exact Ret.of rfl (Below.trans (zad Qb _) (H3.o.mono McV))
def zmk(w:World)(laws:List Law)(ds:List Deed)(names:List ByteArray)(day:Int)(e:Ending)(w':World):Prop:=
 Qa w w'/\((zce laws ds names day≠0/\e=.returned (.tuple #[.pointer none,.int .i64 (zce laws ds names day)]))\/
  (zce laws ds names day=0/\∃base b la co,e=.returned (.tuple #[.pointer (some ⟨b,0,none⟩),.int .i64 0])/\w.heap.size<=base/\WldAt base w' b (zaI laws ds day).1 la co/\(∃last,GoodSt (zaI laws ds day).1 last)/\∃k,k<=60/\FewS k (zaI laws ds day).1))
def on_any(laws:List Law)(ds:List Deed)(day:Int)(names:List ByteArray)(LA:Option Addr)(n nc:Nat)(DA:Option Addr)(m mc:Nat)(NA:Option Addr)(l c:Nat)(w:World)(hR:RightsIn w laws ds LA n nc DA m mc)(hF:FormsIn w)(hL:LensIn w)(hO:∀d∈ds,zdQ d)
 (hl:l=names.length)(cX:names.length<=100000)(hN:∀s∈names,s.size<=100000)(hS:Sl w 1 sC NA names):
 Calls Tryz.prog 18 #[.agg #[.slice LA n nc,.slice DA m mc],.int .i64 day,.slice NA l c] w (zmk w laws ds names day):=by
 subst hl;have eg:∀args w,(callFunc 43 args).run Tryz.prog w=.ok (.enter 43 args) w:=enters_of Tryz.func43 McT rfl;have lT:=λW (hB:Qa w W)=>zny laws ds LA n nc DA m mc W (hR.keep hB) (hF.keep hB) (hL.keep hB) hO
 have uK:=λW (hB:Qa w W)=>zhp laws ds day LA n nc DA m mc W (hR.keep hB) (hF.keep hB) (hL.keep hB) hO
 have xo:=λW (hB:Qa w W)=>zmj 43 #[] eg (λs=>!zaU s) NA names.length c names W rfl cX (hS.keep hB) (onn_gives names W hN)
 have iY:=zkd (laws:=laws) (ds:=ds) (day:=day);have he:zce laws ds names day=if(zd7 laws ds 200000).2.2 != 0 then(zd7 laws ds 200000).2.2 else if names.any (λs=>!zaU s)then 4 else if !zba day then 2 else 0:=rfl;unfold zmk;generalize zce laws ds names day=E at*;obtain⟨R,s9⟩:=Qd (zd7 laws ds 200000)
 rw[<-s9]at lT iY he;obtain⟨⟨S0,n0,er⟩,Gz⟩:∃x,x=R:=⟨_,rfl⟩
 subst Gz;simp only at lT iY he;generalize hna:names.any (λs=>!zaU s)=na at*;obtain⟨pW,eB,tN⟩:=yH3 lT uK xo;clear lT uK xo hR hF hL hO hS hN s9 hna eg;by_cases h0:er=0
 ·subst h0;have qg:E=if na then 4 else if !zba day then 2 else 0:=by rw[he];rfl
  obtain⟨uL,uM⟩:=iY rfl;clear he iY;cases na
  ·generalize kN:zba day=dd at*;cases dd
   ·have hE:E=2:=by rw[qg];rfl
    subst hE;clear qg uL uM;go_enter Tryz.func18,Tryz.ntmps18
    go_wp2_with (first
     |(go_at_call 41;refine(pW.o _ Bw).mono ?_;rintro e wq ⟨rfl,zq,rfl⟩)
     |(go_at_call 42;refine(tN.o _ Bw).mono ?_;rintro e wq ⟨rfl,zq,rfl⟩)
     |(go_at_call 22;refine(zc7 _ _).mono ?_;rintro e wq ⟨rfl,rfl⟩;rw[kN]))
    go_ret2
    exact⟨Bw,.inl ⟨by decide,rfl⟩⟩
   ·have hE:E=0:=by rw[qg];rfl
    subst hE;rw[<-uL];clear qg uL;generalize zd7 laws ds day=R at*;obtain⟨S1,n1,e1⟩:=R;simp only at uM;subst uM;try simp only at eB
    go_enter Tryz.func18,Tryz.ntmps18
    go_wp2_with (first
     |(go_at_call 41;refine(pW.o _ Bw).mono ?_;rintro e wq ⟨rfl,zq,rfl⟩)
     |(go_at_call 42;refine(tN.o _ Bw).mono ?_;rintro e wq ⟨rfl,zq,rfl⟩)
     |(go_at_call 22;refine(zc7 _ _).mono ?_;rintro e wq ⟨rfl,rfl⟩;rw[kN])
     |(go_at_call 19;go_must(refine(eB.o _ Bw).mono ?_);rintro e wq ⟨base,b,la,co,rfl,h1,h2,h3,h4,h5⟩;obtain⟨H1,H2,H3,H4,H5⟩:=yH5 h1 h2 h3 h4 h5;clear h1 h2 h3 h4 h5))
    go_ret2
    have h1:=H1.o;refine⟨Below.trans Bw (H3.o.mono ?_),.inr ⟨by first|rfl|trivial,base,b,la,co,rfl,Nat.le_trans ?_ h1,H2.o,H4.o,H5.o⟩⟩
    ·simp[zaf];omega
    ·simp[zaf];omega
  ·have hE:E=4:=by rw[qg];rfl
   subst hE;clear qg uL uM;go_enter Tryz.func18,Tryz.ntmps18
   go_wp2_with (first
    |(go_at_call 41;refine(pW.o _ Bw).mono ?_;rintro e wq ⟨rfl,zq,rfl⟩)
    |(go_at_call 42;refine(tN.o _ Bw).mono ?_;rintro e wq ⟨rfl,zq,rfl⟩))
   go_ret2
   exact⟨Bw,.inl ⟨by decide,rfl⟩⟩
 ·have hE:E=er:=by rw[he,if_pos MdX]
  subst hE;clear he iY;go_enter Tryz.func18,Tryz.ntmps18
  go_wp2_with (go_at_call 41;refine(pW.o _ Bw).mono ?_;rintro e wq ⟨rfl,zq,rfl⟩)
  go_ret2
  exact⟨Bw,.inl ⟨h0,rfl⟩⟩
def zbH(s:St)(place:ByteArray)(day:Int):Parts:=match zaL s place day with
 |none=>[]
 |some i=>(s.graves.getD i zfO).holders
def ziZ(w:World)(laws:List Law)(ds:List Deed)(place:ByteArray)(day:Int)(e:Ending)(w':World):Prop:=
 Qa w w'/\((zce laws ds [place] day≠0/\e=.returned (.tuple #[.slice none 0 0,.int .i64 (zce laws ds [place] day)]))\/
  (zce laws ds [place] day=0/\∃A c,e=.returned (.tuple #[.slice A (zbH (zaI laws ds day).1 place day).length c,.int .i64 0])/\(zbH (zaI laws ds day).1 place day).length<=c/\Sl w' 3 zaa A (zbH (zaI laws ds day).1 place day)))
def znz(laws:List Law)(ds:List Deed)(place:ByteArray)(day:Int)(LA:Option Addr)(n nc:Nat)(DA:Option Addr)(m mc:Nat)(w:World)(hR:RightsIn w laws ds LA n nc DA m mc)(hF:FormsIn w)(hL:LensIn w)(hO:∀d∈ds,zdQ d)(hp:place.size<=100000):
 Calls Tryz.prog 11 #[.agg #[.slice LA n nc,.slice DA m mc],.string place,.int .i64 day] w (ziZ w laws ds place day):=by
 have yI:=λW (hB:Qa w W) NA (hS:Sl W 1 sC NA [place])=>on_any laws ds day [place] LA n nc DA m mc NA 1 1 W (hR.keep hB) (hF.keep hB) (hL.keep hB) hO rfl McV (by simpa using hp) hS
 have lm:=zHi yI;unfold ziZ;clear yI hR hF hL hO;unfold zmk at lm;generalize zce laws ds [place] day=E at*;generalize(zaI laws ds day).1=s at*;generalize br:zbH s place day=xs at*;have bU:=zHi br;clear br;go_enter Tryz.func11,Tryz.ntmps11
 by_cases h0:E=0
 ·subst h0
  go_upto_region 4 with(go_at_call 18
                        go_must(refine(lm.o _ Bw _ (zcU (zas _ _ _ McV))).mono ?_)
                        rintro e wq ⟨h1,⟨ai,_⟩|⟨_,base,b,la,co,rfl,h2,h3,h4,h5⟩⟩
                        ·exact absurd rfl ai
                        obtain⟨H1,H3,H5⟩:=yH3 h1 h3 h5
                        clear h1 h2 h3 h4 h5)
  obtain⟨Bk,dd,cc,pp,wl,rr,mv,tv,ps,ba,hC,hP,hT⟩:=H3.o;obtain⟨k,fM,eD⟩:=H5.o;have bQ:=eD.graves;have aQ:=λW (hB:Qa wq W)=>ziB base b s la co place day W (hC.keep hB) (hT.keep hB) McS
  have aW:Qa w wq:=Below.trans (zad (zad Qb _) _ McV) (H1.o.mono McX);have aL:=zHi aW;have br:=bU.o;unfold zbH at br;clear bU;cases aP:zaL s place day with
  |none=>
   rw[aP]at aQ br;subst br;have bI:=zHi aQ;clear aQ hC hP hT eD aW;go_wp2_with (go_at_call 23;go_must(refine(bI.o _ Bw).mono ?_);rintro e wz ⟨rfl,z,rfl⟩;simp only[zl7,Option.map_none])
   go_ret2
   exact⟨aL.o.trans (Below.mono (B:=wq.heap.size) Bw aL.o.size),none,⟨0,rfl⟩,λh=>absurd h McV⟩
  |some i=>
   obtain⟨T,g,gB,iy,aH,bB,gA,_⟩:=zdI hT aP;rw[aP]at aQ br;simp only[bB]at br;subst br;obtain⟨H,aE,D,dc,frm,t1,t2,t3,t4,t5,t6,t7⟩:=gA;have cz:=zab t1;have nj:∀W,Qa wq W->Calls Tryz.prog 23 #[.pointer (some ⟨b,0,none⟩),.string place,.int .i64 day] W (Ret W (.pointer (some ⟨T,0,none⟩))):=λW hB=>by
    have:=aQ W hB;exact MaU
   have bI:=zHi nj;unfold zbt at t1;obtain⟨-,-,-,-,k4⟩:=cF5 t1;have T5:=zHi t5;clear aQ nj hC hP hT eD aW t1 t5 t6 t7 bB aH iy gB aP;go_wp2_with (go_at_call 23;go_must(refine(bI.o _ Bw).mono ?_);rintro e wz ⟨rfl,z,rfl⟩)
   go_ret2
   exact⟨aL.o.trans (Below.mono (B:=wq.heap.size) Bw aL.o.size),H,aE,rfl,t3,(Ro.sl zak T5.o).keep (n:=wq.heap.size) Bw⟩
 ·go_wp2_with (go_at_call 18
               go_must(refine(lm.o _ Bw _ (zcU (zas _ _ _ McV))).mono ?_)
               rintro e wq ⟨h1,⟨_,rfl⟩|⟨he,_⟩⟩;rotate_left 1
               ·exact absurd he h0
               have H1:=zHi h1
               clear h1)
  go_ret2
  exact⟨Below.trans (zad (zad Qb _) _ McV) (H1.o.mono McX),.inl ⟨h0,rfl⟩⟩
def zgb(w:World)(laws:List Law)(ds:List Deed)(place:ByteArray)(ns:List ByteArray)(day:Int)(e:Ending)(w':World):Prop:=
 Qa w w'/\((zce laws ds (place::ns) day≠0/\e=.returned (.tuple #[.pointer none,.pointer none,.int .i64 (zce laws ds (place::ns) day)]))\/
  (zce laws ds (place::ns) day=0/\zaL (zaI laws ds day).1 place day=none/\e=.returned (.tuple #[.pointer none,.pointer none,.int .i64 12]))\/
  (zce laws ds (place::ns) day=0/\∃base b la co B T i g,zaL (zaI laws ds day).1 place day=some i/\(zaI laws ds day).1.graves[i]?=some g/\e=.returned (.tuple #[.pointer (some ⟨b,0,none⟩),.pointer (some ⟨T,0,none⟩),.int .i64 0])/\w.heap.size<=base/\WldAt base w' b (zaI laws ds day).1 la co/\TombAt w' base B T g/\(∃last,GoodSt (zaI laws ds day).1 last)/\∃k,k<=60/\FewS k (zaI laws ds day).1))
def zml(laws:List Law)(ds:List Deed)(place:ByteArray)(ns:List ByteArray)(day:Int)(LA:Option Addr)(n nc:Nat)(DA:Option Addr)(m mc:Nat)(NA:Option Addr)(l c:Nat)(w:World)(hR:RightsIn w laws ds LA n nc DA m mc)(hF:FormsIn w)(hL:LensIn w)(hO:∀d∈ds,zdQ d)(hp:place.size<=100000)
 (hl:l=ns.length)(cX:ns.length<=1000)(hN:∀s∈ns,s.size<=100000)(hS:Sl w 1 sC NA ns):
 Calls Tryz.prog 30 #[.agg #[.slice LA n nc,.slice DA m mc],.int .i64 day,.string place,.slice NA l c] w (zgb w laws ds place ns day):=by
 subst hl;have yI:=λW (hB:Qa w W) XA xc (hS:Sl W 1 sC XA (place::ns))=>on_any laws ds day (place::ns) LA n nc DA m mc XA (1+ns.length) xc W (hR.keep hB) (hF.keep hB) (hL.keep hB) hO McX McX (by simpa using⟨hp,hN⟩) hS
 obtain⟨lm,HS⟩:=yH2 yI hS;unfold zgb;clear yI hR hF hL hO hS;unfold zmk at lm;generalize zce laws ds (place::ns) day=E at*;generalize(zaI laws ds day).1=s at*;go_enter Tryz.func30,Tryz.ntmps30
 go_upto_region 1 with fail
 go_cut [11,12]from 14 to 24 (λv11 v12 W=>Qa w W/\((E≠0/\v11=.pointer none/\v12=.int .i64 E)\/(E=0/\v12=.int .i64 0/\∃base b la co,v11=.pointer (some ⟨b,0,none⟩)/\w.heap.size<=base/\WldAt base W b s la co/\(∃last,GoodSt s last)/\∃k,k<=60/\FewS k s)))
 case first=>
  refine wp_region_held_drew (S:=(λw'=>w'.cell? ⟨w.heap.size,0,none⟩=some (.slice LA n nc)/\w'.cell? ⟨w.heap.size,1,none⟩=some (.slice DA m mc))) McT ?hS ?hrest
  case hS=>refine⟨?_,?_⟩<;>(simp[go_sem];done)
  case hrest=>
   intro hHeld;refine TkH 0 ?_;refine TkH 1 ?_;refine TkH 2 ?_;refine TkH 4 ?_;refine OnH 3 λK hK=>?_
   go_simp
   have GJ:Qa w (w.alloc (.cells #[.slice LA n nc,.slice DA m mc] 25)).drew:=Bw;have aY:∀W,Below (w.heap.size+1) (w.alloc (.cells #[.slice LA n nc,.slice DA m mc] 25)).drew W->W.cell? ⟨w.heap.size,0,none⟩=some (.slice LA n nc)/\W.cell? ⟨w.heap.size,1,none⟩=some (.slice DA m mc):=λW hW=>by
    refine⟨(zai hW (Nat.lt_succ_self _)).trans ?_,(zai hW (Nat.lt_succ_self _)).trans ?_⟩<;>(simp[go_sem];done)
   have ew:=zHi aY;clear aY;have aW:Below (w.heap.size+1) (w.alloc (.cells #[.slice LA n nc,.slice DA m mc] 25)).drew ((w.alloc (.cells #[.slice LA n nc,.slice DA m mc] 25)).drew.alloc (.cells #[.string place] 9)):=zad Qb _ McV;refine NxM hK (λhHeld=>?_) (ew.o _ aW);clear hK K;refine OnH 5 λK hK=>?_
   refine zap (v:=.slice (some ⟨w.heap.size+1,0,none⟩) 1 1) (n:=1) (m:=ns.length) rfl _ _ rfl zbL zaB zbK rfl (base:=w.heap.size+1) (xs:=[place]) (ys:=ns) (.inr ⟨w.heap.size+1,0,1,#[.string place],rfl,by omega,zas _ _ _ McV,Qc,by simp[maxLen],by simp,λj u hj=>?hel⟩) rfl rfl rfl (HS.o.keep (n:=w.heap.size) Bw) Mc8 McS McV ?happ
   case hel=>
    match j,hj with
    |0,hj=>simpa[sC]using hj
    |j+1,hj=>simp[sC]at hj
   case happ=>
    intro v6 w6 h1 h2 h3;obtain⟨A6,c6,dK,hS6,_⟩:=h1.sl zaB;rw[show([place]++ns).length=1+ns.length by simp;omega]at dK;subst dK;have aS:Below (w.heap.size+1) (w.alloc (.cells #[.slice LA n nc,.slice DA m mc] 25)).drew w6:=zaV aW h2 Qc McV;have Be:Qa w w6:=GJ.trans (aS.mono (Nat.le_succ _));have FA:=zHi Be;refine NxM hK (λhHeld=>?_) (ew.o _ aS);clear hK K;refine OnH 6 λK hK=>?_
    go_simp
    refine(lm.o w6 FA.o A6 c6 hS6).mono ?_;rintro e wq ⟨k1,fq⟩;have bj:Below (w.heap.size+1) (w.alloc (.cells #[.slice LA n nc,.slice DA m mc] 25)).drew wq:=aS.trans (k1.mono (by have:=aS.size;simp at this;omega));have bT:=zHi (Be.trans (k1.mono Be.size));clear h1 h2 h3 k1 Be aS aW GJ lm;rcases fq with⟨ai,rfl⟩|⟨he,base,b,la,co,rfl,q2,q3,q4,q5⟩
    ·have fF:=zHi ai;clear ai;refine NxM hK (λhHeld=>?_) (ew.o _ bj);clear hK K;refine TkH 7 ?_;refine TkH 8 ?_;refine TkH 9 ?_;refine OnH 10 λK hK=>?_
     go_simp
     refine NxM hK (λhHeld=>?_) (ew.o _ bj);clear hK K;refine OnH 11 λK hK=>?_
     go_simp
     refine NxM hK (λhHeld=>?_) (ew.o _ bj);clear hK K;refine wpAnyH_done McT ?_ _;go_wp2_with fail
     go_meet
     exact⟨bT.o,.inl ⟨fF.o,rfl,rfl⟩⟩
    ·obtain⟨HE,Q2,Q3,Q4,Q5⟩:=yH5 he q2 q3 q4 q5;clear he q2 q3 q4 q5;refine NxM hK (λhHeld=>?_) (ew.o _ bj);clear hK K;refine TkH 7 ?_;refine TkH 8 ?_;refine TkH 9 ?_;refine OnH 10 λK hK=>?_
     go_simp
     refine NxM hK (λhHeld=>?_) (ew.o _ bj);clear hK K;refine OnH 11 λK hK=>?_
     go_simp
     refine NxM hK (λhHeld=>?_) (ew.o _ bj);clear hK K;refine wpAnyH_done McT ?_ _;go_wp2_with fail
     go_meet
     exact⟨bT.o,.inr ⟨HE.o,rfl,base,b,la,co,rfl,Nat.le_trans FA.o.size Q2.o,Q3.o,Q4.o,Q5.o⟩⟩
 case rest=>
  obtain⟨hB,fq⟩:=hcut;rcases fq with⟨ai,rfl,rfl⟩|⟨he,rfl,base,b,la,co,rfl,q2,q3,q4,q5⟩
  ·have fF:=zHi ai;go_wp2_with fail
   go_ret3
   exact⟨hB,.inl ⟨fF.o,rfl⟩⟩
  ·have HE:=zHi he;clear he;obtain⟨HB,Q3,Q4,Q5⟩:=yH4 hB q3 q4 q5;obtain⟨Bk,dd,cc,pp,wl,rr,mv,tv,ps,ba,hC,hP,hT⟩:=q3;obtain⟨k,fM,eD⟩:=q5;have bQ:=eD.graves;have aQ:=λW (hB:Qa wc W)=>ziB base b s la co place day W (hC.keep hB) (hT.keep hB) McS
   have hsz:=hB.size;have Co:=zHi hsz;cases aP:zaL s place day with
   |none=>
    rw[aP]at aQ;obtain⟨bI,l8⟩:=yH2 aQ aP;clear aQ hC hP hT eD hB q4 aP;go_wp2_with (go_at_call 23;go_must(refine(bI.o _ Bw).mono ?_);rintro e wz ⟨rfl,z,rfl⟩;simp only[zl7,Option.map_none])
    go_ret3
    exact⟨HB.o.trans (Below.mono (B:=wc.heap.size) Bw Co.o),.inr (.inl ⟨HE.o,l8.o,rfl⟩)⟩
   |some i=>
    obtain⟨T,g,gB,iy,aH,bB,gA,_⟩:=zdI hT aP;have nj:∀W,Qa wc W->Calls Tryz.prog 23 #[.pointer (some ⟨b,0,none⟩),.string place,.int .i64 day] W (Ret W (.pointer (some ⟨T,0,none⟩))):=λW hB=>by
     have:=aQ W hB;rw[aP]at this;exact MaU
    obtain⟨bI,l8,pS,fe⟩:=yH4 nj aP aH gA;clear aQ nj hC hP hT eD hB q4 gA bB iy gB aP aH;go_wp2_with (go_at_call 23;go_must(refine(bI.o _ Bw).mono ?_);rintro e wz ⟨rfl,z,rfl⟩)
    go_ret3
    have eP:Qa wc (wc.ext z):=Bw;exact⟨HB.o.trans (eP.mono Co.o),.inr (.inr ⟨HE.o,base,b,la,co,Bk,T,i,g,l8.o,pS.o,rfl,q2,Q3.o.keep eP,fe.o.keep eP,Q4.o,Q5.o⟩)⟩
