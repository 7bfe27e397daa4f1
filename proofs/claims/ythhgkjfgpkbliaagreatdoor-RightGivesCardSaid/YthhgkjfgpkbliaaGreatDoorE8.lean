import Derived.Test.YthhgkjfgpkbliaaGreatDoorE7
import Derived.Test.YthhgkjfgpkbliaaGreatDoorOB
import Derived.Test.YthhgkjfgpkbliaaGreatDoorOC
set_option linter.all false
set_option maxRecDepth 100000
set_option maxHeartbeats 4000000
namespace Go.Proofs.YthhgkjfgpkbliaaGreatDoor
open Go.RowKit Go.Shelf
attribute [local go_sem] World.cell?_alloc_mark zae zav zai zaw zam zan zao zap zaq zar zas
attribute [local go_sem] zah zac
noncomputable def zcH (laws:List Law) (s:St) (co:Nat) (last:Int) (d:Deed):St×Int:=
 if decide (60<=co)then(s,8)else if decide (d.day<last)then(s,9)else zaZ laws s d
def zh5(base b:Nat)(x:St×Int)(day la co:Int)(w:World)(e:Ending)(w':World):Prop:=
 e=.returned (.int .i64 x.2)/\WldAt base w' b x.1 (if x.2=0 then day else la) (if x.2=0 then co+1 else co)/\Below base w w'
theorem wldC_tick{W:World}{b d c p wl r:Nat}{mv tv:Value}{la co:Int}(h:WldC W b d c p wl r mv tv la co)(la' co':Int):WldC ((W.setCell ⟨b,7,none⟩ (.int .i64 la')).setCell ⟨b,8,none⟩ (.int .i64 co')) b d c p wl r mv tv la' co':=by
 unfold WldC at*;have:=Joins.block_setCell (i:=8) (Joins.block_setCell (i:=7) h (.int .i64 la')) (.int .i64 co');simpa using this
theorem wld_tick{base b:Nat}{W:World}{s:St}{la co:Int}(h:WldAt base W b s la co)(la' co':Int):WldAt base ((W.setCell ⟨b,7,none⟩ (.int .i64 la')).setCell ⟨b,8,none⟩ (.int .i64 co')) b s la' co':=by
 obtain⟨B,d,c,p,wl,r,mv,tv,ps,h1,h2,h3,h4⟩:=h;have hg:W.grownBy ((W.setCell ⟨b,7,none⟩ (.int .i64 la')).setCell ⟨b,8,none⟩ (.int .i64 co')) (some b):=zbb (zay W b 7 _) (zay _ b 8 _);exact⟨B,d,c,p,wl,r,mv,tv,ps,h1,wldC_tick h2 la' co',h3.kept hg h2 MbD MbD MbD,h4.kept hg h2 MbD MbD MbD MbD⟩
theorem wrap_k{k:Nat}(h:k<1000):wrap64 ((k:Int)+1)=(k:Int)+1:=by
 unfold wrap64;omega
theorem zlb{k:Nat}(h:k<1000):IntKind.i64.wrap ((k:Int)+1)=(k:Int)+1:=by
 rw[IntKind.wrap_i64];omega
theorem wld_drew{base b:Nat}{W:World}{s:St}{la co:Int}(h:WldAt base W b s la co):WldAt base W.drew b s la co:=h.keep (n:=W.heap.size) ⟨rfl,rfl,rfl,Nat.le_refl _,fun _ _=>rfl⟩
theorem taken_ok{base b:Nat}{s':St}{day la co:Int}{w w':World}(h:WldAt base w' b s' day (co+1))(hB:Below base w w'):zh5 base b (s',0) day la co w (.returned (.int .i64 0)) w':=⟨rfl,by simpa using h,hB⟩
theorem taken_no{base b:Nat}{s':St}{day la co er:Int}{w w':World}(h0:er≠0)(h:WldAt base w' b s' la co)(hB:Below base w w'):zh5 base b (s',er) day la co w (.returned (.int .i64 er)) w':=⟨rfl,by simpa[h0]using h,hB⟩
theorem ziX(base b:Nat)(s:St)(k:Nat)(last:Int)(laws:List Law)(LA:Option Addr)(lc:Nat)(d:Deed)(B:Option Addr)(c:Nat)(w:World)(hW:WldAt base w b s last k)(fq:GoodSt s last)(hF:FewS k s)(hd:OkD d)(aG:za7 laws=0)(hL:LensIn w)(dg:Sl w 4 Law.cells LA laws)(aj:d.to.length<=c)(hS:Sl w 3 RPart.cells B d.to):
 Calls Tryz.prog 38 #[.pointer (some ⟨b,0,none⟩),.slice LA laws.length lc,d.v B c] w (zh5 base b (zcH laws s k last d) d.day last k w):=by
 have aF:=hW;obtain⟨Bk,dd,cc,pp,wl,rr,mv,tv,ps,ax,hC,hP,hT⟩:=hW;have bu:=zad hC;have bQ:=hd.kind;have HW:=zHi aF;unfold WldC at hC;obtain⟨-,-,-,-,-,-,-,c7,c8⟩:=cF9 hC;clear hC hP hT aF;by_cases km:60<=k
 ·have hx:zcH laws s k last d=(s,8):=by simp[zcH,km]
  rw[hx];obtain⟨kd,dy,pl,fr,ts,cl,yr⟩:=d;have cN:(60:Int)<=(k:Int):=MbC;clear hd hx fq hF dg hS bQ hL aG aj;unfold Deed.v;simp only;go_enter Tryz.func38,Tryz.ntmps38
  exact MaO
 have cN:¬(60:Int)<=(k:Int):=MbC;have qz:k<1000:=MbC;by_cases aa:d.day<last
 ·have hx:zcH laws s k last d=(s,9):=by simp[zcH,km,aa]
  rw[hx];obtain⟨kd,dy,pl,fr,ts,cl,yr⟩:=d;simp only at aa;clear hd hx fq hF dg hS bQ hL aG aj;unfold Deed.v;simp only;go_enter Tryz.func38,Tryz.ntmps38
  go_upto_region 3 with fail
  go_quiet (fail)
  exact MaO
 have hx:zcH laws s k last d=zaZ laws s d:=by simp[zcH,km,aa]
 rw[hx];clear hx;have bF:last<=d.day:=MbC;have cm:=hF.graves;have aA:=hF.kids;have fE:=hF.marr;have cP:=hF.wills d.frm;have yw:∀g∈s.graves,g.holders.length<=10000:=fun g hg=>by have:=(hF.held g hg).1;omega
 have qv:∀g∈s.graves,g.holders.length<=70000/\g.died.length<=1000:=fun g hg=>by have:=hF.held g hg;omega
 have gO:laws.length<=10:=by
  unfold za7 at aG;split at aG
  ·cases aG
  ·rename_i h;simpa using h
 have cU:∀g∈s.graves,g.fin<=200000:=fun g hg=>(hF.held g hg).2.2
 have cd:=zgT aG d.day;obtain⟨bU,HF,eN,fP,bM,cD,cQ⟩:=yH7 fq (And.intro yw (And.intro qv cU)) hd hL dg hS cd;have e0:∀W:World,zaZ laws s d=zaZ laws s d:=fun _=>rfl
 clear fq hF hd hL dg hS aG cd yw qv cU e0;have dR:d.kind=0\/d.kind=1\/d.kind=2\/d.kind=3\/d.kind=4\/d.kind=5\/d.kind=6\/d.kind=7\/d.kind=8:=MbC;clear bQ;obtain⟨kd,dy,pl,fr,ts,cl,yr⟩:=d;simp only at aa bF dR aj cP;rcases dR with rfl|rfl|rfl|rfl|rfl|rfl|rfl|rfl|rfl
 ·have aA:∀W,Below w.heap.size w W->Calls Tryz.prog 96 #[.pointer (some ⟨b,0,none⟩),.agg #[.int .i64 0,.int .i64 dy,.string pl,.string fr,.slice B ts.length c,.int .i64 cl,.int .i64 yr]] W (zbr base b (zaZ laws s ⟨0,dy,pl,fr,ts,cl,yr⟩) last k W):=fun W hB=>by
   rw[show zaZ laws s ⟨0,dy,pl,fr,ts,cl,yr⟩=zdb s ⟨0,dy,pl,fr,ts,cl,yr⟩from by simp[zaZ]];exact grant_any base b s last k ⟨0,dy,pl,fr,ts,cl,yr⟩ B c W (HW.o.keep hB) (fP.o.keep hB) eN.o rfl MbC aj (cD.o.keep hB)
  generalize zaZ laws s ⟨0,dy,pl,fr,ts,cl,yr⟩=X at*;have bj:=zHi aA;clear aA bU HF eN fP bM cD cQ;obtain⟨s',er⟩:=X;unfold Deed.v;simp only;go_enter Tryz.func38,Tryz.ntmps38
  go_upto_region 3 with fail
  go_quiet (fail)
  go_upto_region 18 with
   (go_at_call 96
    go_must(refine(bj.o _ Bw).mono ?_)
    rintro e wq ⟨rfl,hW,hB,hK⟩;have h0:=((hK w.heap.size _ _ (za3 _ _ _ rfl)).trans (za3 _ _ _ rfl))
    obtain⟨Bk',d',c',p',wl',r',mv',tv',ps',cg,bm,dF,dh⟩:=id hW;obtain⟨iQ,jk,jh,iN⟩:=yH4 hW bm hB h0
    clear hW hB hK h0 dF dh bm)
  exact Mc
 ·have aA:∀W,Below w.heap.size w W->Calls Tryz.prog 97 #[.pointer (some ⟨b,0,none⟩),.agg #[.int .i64 1,.int .i64 dy,.string pl,.string fr,.slice B ts.length c,.int .i64 cl,.int .i64 yr]] W (zbr base b (zaZ laws s ⟨1,dy,pl,fr,ts,cl,yr⟩) last k W):=fun W hB=>by
   rw[show zaZ laws s ⟨1,dy,pl,fr,ts,cl,yr⟩=zbj s ⟨1,dy,pl,fr,ts,cl,yr⟩from by simp[zaZ]];exact zj4 base b s last k last ⟨1,dy,pl,fr,ts,cl,yr⟩ B c W (HW.o.keep hB) bU.o eN.o rfl MbC HF.o.1 aj (cD.o.keep hB)
  generalize zaZ laws s ⟨1,dy,pl,fr,ts,cl,yr⟩=X at*;have bj:=zHi aA;clear aA bU HF eN fP bM cD cQ;obtain⟨s',er⟩:=X;unfold Deed.v;simp only;go_enter Tryz.func38,Tryz.ntmps38
  go_upto_region 3 with fail
  go_quiet (fail)
  go_upto_region 18 with
   (go_at_call 97
    go_must(refine(bj.o _ Bw).mono ?_)
    rintro e wq ⟨rfl,hW,hB,hK⟩;have h0:=((hK w.heap.size _ _ (za3 _ _ _ rfl)).trans (za3 _ _ _ rfl))
    obtain⟨Bk',d',c',p',wl',r',mv',tv',ps',cg,bm,dF,dh⟩:=id hW;obtain⟨iQ,jk,jh,iN⟩:=yH4 hW bm hB h0
    clear hW hB hK h0 dF dh bm)
  exact Mc
 ·have aA:∀W,Below w.heap.size w W->Calls Tryz.prog 98 #[.pointer (some ⟨b,0,none⟩),.agg #[.int .i64 2,.int .i64 dy,.string pl,.string fr,.slice B ts.length c,.int .i64 cl,.int .i64 yr]] W (zbr base b (zaZ laws s ⟨2,dy,pl,fr,ts,cl,yr⟩) last k W):=fun W hB=>by
   rw[show zaZ laws s ⟨2,dy,pl,fr,ts,cl,yr⟩=zaY s ⟨2,dy,pl,fr,ts,cl,yr⟩from by simp[zaZ]];exact ziG base b s last k last ⟨2,dy,pl,fr,ts,cl,yr⟩ B c W (HW.o.keep hB) bU.o MbC HF.o.1
  generalize zaZ laws s ⟨2,dy,pl,fr,ts,cl,yr⟩=X at*;have bj:=zHi aA;clear aA bU HF eN fP bM cD cQ;obtain⟨s',er⟩:=X;unfold Deed.v;simp only;go_enter Tryz.func38,Tryz.ntmps38
  go_upto_region 3 with fail
  go_quiet (fail)
  go_upto_region 18 with
   (go_at_call 98
    go_must(refine(bj.o _ Bw).mono ?_)
    rintro e wq ⟨rfl,hW,hB,hK⟩;have h0:=((hK w.heap.size _ _ (za3 _ _ _ rfl)).trans (za3 _ _ _ rfl))
    obtain⟨Bk',d',c',p',wl',r',mv',tv',ps',cg,bm,dF,dh⟩:=id hW;obtain⟨iQ,jk,jh,iN⟩:=yH4 hW bm hB h0
    clear hW hB hK h0 dF dh bm)
  exact Mc
 ·have aA:∀W,Below w.heap.size w W->Calls Tryz.prog 99 #[.pointer (some ⟨b,0,none⟩),.agg #[.int .i64 3,.int .i64 dy,.string pl,.string fr,.slice B ts.length c,.int .i64 cl,.int .i64 yr]] W (zbr base b (zaZ laws s ⟨3,dy,pl,fr,ts,cl,yr⟩) last k W):=fun W hB=>by
   rw[show zaZ laws s ⟨3,dy,pl,fr,ts,cl,yr⟩=zdm s ⟨3,dy,pl,fr,ts,cl,yr⟩from by simp[zaZ]];exact zkI base b s last k last ⟨3,dy,pl,fr,ts,cl,yr⟩ B c W (HW.o.keep hB) (fP.o.keep hB) eN.o MbC HF.o.2.2
  generalize zaZ laws s ⟨3,dy,pl,fr,ts,cl,yr⟩=X at*;have bj:=zHi aA;clear aA bU HF eN fP bM cD cQ;obtain⟨s',er⟩:=X;unfold Deed.v;simp only;go_enter Tryz.func38,Tryz.ntmps38
  go_upto_region 3 with fail
  go_quiet (fail)
  go_upto_region 18 with
   (go_at_call 99
    go_must(refine(bj.o _ Bw).mono ?_)
    rintro e wq ⟨rfl,hW,hB,hK⟩;have h0:=((hK w.heap.size _ _ (za3 _ _ _ rfl)).trans (za3 _ _ _ rfl))
    obtain⟨Bk',d',c',p',wl',r',mv',tv',ps',cg,bm,dF,dh⟩:=id hW;obtain⟨iQ,jk,jh,iN⟩:=yH4 hW bm hB h0
    clear hW hB hK h0 dF dh bm)
  exact Mc
 ·have aA:∀W,Below w.heap.size w W->Calls Tryz.prog 101 #[.pointer (some ⟨b,0,none⟩),.agg #[.int .i64 4,.int .i64 dy,.string pl,.string fr,.slice B ts.length c,.int .i64 cl,.int .i64 yr]] W (zbr base b (zaZ laws s ⟨4,dy,pl,fr,ts,cl,yr⟩) last k W):=fun W hB=>by
   rw[show zaZ laws s ⟨4,dy,pl,fr,ts,cl,yr⟩=zgF s ⟨4,dy,pl,fr,ts,cl,yr⟩from by simp[zaZ]];exact will_any base b s last k ⟨4,dy,pl,fr,ts,cl,yr⟩ B c W (HW.o.keep hB) eN.o rfl (cD.o.keep hB)
  generalize zaZ laws s ⟨4,dy,pl,fr,ts,cl,yr⟩=X at*;have bj:=zHi aA;clear aA bU HF eN fP bM cD cQ;obtain⟨s',er⟩:=X;unfold Deed.v;simp only;go_enter Tryz.func38,Tryz.ntmps38
  go_upto_region 3 with fail
  go_quiet (fail)
  go_upto_region 7 with fail
  refine wp_region_held_drew (S:=(fun w'=>w'.cell? ⟨w.heap.size,0,none⟩=some (.int .i64 4)/\w'.cell? ⟨w.heap.size,1,none⟩=some (.int .i64 dy)/\w'.cell? ⟨w.heap.size,2,none⟩=some (.string pl)/\w'.cell? ⟨w.heap.size,3,none⟩=some (.string fr)/\w'.cell? ⟨w.heap.size,4,none⟩=some (.slice B ts.length c)/\w'.cell? ⟨w.heap.size,5,none⟩=some (.int .i64 cl)/\w'.cell? ⟨w.heap.size,6,none⟩=some (.int .i64 yr))) MbE ?hS4 ?hrest4
  case hS4=>refine⟨?_,?_,?_,?_,?_,?_,?_⟩<;>(simp[go_sem];done)
  intro hHeld;refine TkH 0 ?_;refine TkH 1 ?_;refine TkH 2 ?_;refine TkH 3 ?_;refine OnH 4 fun K hK=>?_
  go_simp
  refine(bj.o _ Bw).mono ?_;rintro e wq ⟨rfl,hW,hB,hK⟩;have h0:=((hK w.heap.size _ _ (za3 _ _ _ rfl)).trans (za3 _ _ _ rfl))
  obtain⟨Bk',d',c',p',wl',r',mv',tv',ps',cg,bm,dF,dh⟩:=id hW;obtain⟨iQ,jk,jh,iN⟩:=yH4 hW bm hB h0;have d0:wq.cell? ⟨w.heap.size,0,none⟩=some (.int .i64 4):=MbP;exact Mbe
 ·have aA:∀W,Below w.heap.size w W->Calls Tryz.prog 101 #[.pointer (some ⟨b,0,none⟩),.agg #[.int .i64 5,.int .i64 dy,.string pl,.string fr,.slice B ts.length c,.int .i64 cl,.int .i64 yr]] W (zbr base b (zaZ laws s ⟨5,dy,pl,fr,ts,cl,yr⟩) last k W):=fun W hB=>by
   rw[show zaZ laws s ⟨5,dy,pl,fr,ts,cl,yr⟩=zbP s ⟨5,dy,pl,fr,ts,cl,yr⟩from by simp[zaZ]];exact zjI base b s last k ⟨5,dy,pl,fr,ts,cl,yr⟩ B c W (HW.o.keep hB) eN.o rfl aj (cD.o.keep hB)
  generalize zaZ laws s ⟨5,dy,pl,fr,ts,cl,yr⟩=X at*;have bj:=zHi aA;clear aA bU HF eN fP bM cD cQ;obtain⟨s',er⟩:=X;unfold Deed.v;simp only;go_enter Tryz.func38,Tryz.ntmps38
  go_upto_region 3 with fail
  go_quiet (fail)
  go_upto_region 7 with fail
  refine wp_region_held_drew (S:=(fun w'=>w'.cell? ⟨w.heap.size,0,none⟩=some (.int .i64 5)/\w'.cell? ⟨w.heap.size,1,none⟩=some (.int .i64 dy)/\w'.cell? ⟨w.heap.size,2,none⟩=some (.string pl)/\w'.cell? ⟨w.heap.size,3,none⟩=some (.string fr)/\w'.cell? ⟨w.heap.size,4,none⟩=some (.slice B ts.length c)/\w'.cell? ⟨w.heap.size,5,none⟩=some (.int .i64 cl)/\w'.cell? ⟨w.heap.size,6,none⟩=some (.int .i64 yr))) MbE ?hS5 ?hrest5
  case hS5=>refine⟨?_,?_,?_,?_,?_,?_,?_⟩<;>(simp[go_sem];done)
  intro hHeld;refine TkH 0 ?_;refine TkH 1 ?_;refine TkH 2 ?_;refine TkH 3 ?_;refine OnH 4 fun K hK=>?_
  go_simp
  refine(bj.o _ Bw).mono ?_;rintro e wq ⟨rfl,hW,hB,hK⟩;have h0:=((hK w.heap.size _ _ (za3 _ _ _ rfl)).trans (za3 _ _ _ rfl))
  obtain⟨Bk',d',c',p',wl',r',mv',tv',ps',cg,bm,dF,dh⟩:=id hW;obtain⟨iQ,jk,jh,iN⟩:=yH4 hW bm hB h0;have d0:wq.cell? ⟨w.heap.size,0,none⟩=some (.int .i64 5):=MbP;exact Mbe
 ·have aA:∀W,Below w.heap.size w W->Calls Tryz.prog 101 #[.pointer (some ⟨b,0,none⟩),.agg #[.int .i64 6,.int .i64 dy,.string pl,.string fr,.slice B ts.length c,.int .i64 cl,.int .i64 yr]] W (zbr base b (zaZ laws s ⟨6,dy,pl,fr,ts,cl,yr⟩) last k W):=fun W hB=>by
   rw[show zaZ laws s ⟨6,dy,pl,fr,ts,cl,yr⟩=zcS s ⟨6,dy,pl,fr,ts,cl,yr⟩from by simp[zaZ]];exact child_any base b s last k ⟨6,dy,pl,fr,ts,cl,yr⟩ B c W (HW.o.keep hB) eN.o rfl aj (cD.o.keep hB) MbC
  generalize zaZ laws s ⟨6,dy,pl,fr,ts,cl,yr⟩=X at*;have bj:=zHi aA;clear aA bU HF eN fP bM cD cQ;obtain⟨s',er⟩:=X;unfold Deed.v;simp only;go_enter Tryz.func38,Tryz.ntmps38
  go_upto_region 3 with fail
  go_quiet (fail)
  go_upto_region 7 with fail
  refine wp_region_held_drew (S:=(fun w'=>w'.cell? ⟨w.heap.size,0,none⟩=some (.int .i64 6)/\w'.cell? ⟨w.heap.size,1,none⟩=some (.int .i64 dy)/\w'.cell? ⟨w.heap.size,2,none⟩=some (.string pl)/\w'.cell? ⟨w.heap.size,3,none⟩=some (.string fr)/\w'.cell? ⟨w.heap.size,4,none⟩=some (.slice B ts.length c)/\w'.cell? ⟨w.heap.size,5,none⟩=some (.int .i64 cl)/\w'.cell? ⟨w.heap.size,6,none⟩=some (.int .i64 yr))) MbE ?hS6 ?hrest6
  case hS6=>refine⟨?_,?_,?_,?_,?_,?_,?_⟩<;>(simp[go_sem];done)
  intro hHeld;refine TkH 0 ?_;refine TkH 1 ?_;refine TkH 2 ?_;refine TkH 3 ?_;refine OnH 4 fun K hK=>?_
  go_simp
  refine(bj.o _ Bw).mono ?_;rintro e wq ⟨rfl,hW,hB,hK⟩;have h0:=((hK w.heap.size _ _ (za3 _ _ _ rfl)).trans (za3 _ _ _ rfl))
  obtain⟨Bk',d',c',p',wl',r',mv',tv',ps',cg,bm,dF,dh⟩:=id hW;obtain⟨iQ,jk,jh,iN⟩:=yH4 hW bm hB h0;have d0:wq.cell? ⟨w.heap.size,0,none⟩=some (.int .i64 6):=MbP;exact Mbe
 ·have aA:∀W,Below w.heap.size w W->Calls Tryz.prog 101 #[.pointer (some ⟨b,0,none⟩),.agg #[.int .i64 7,.int .i64 dy,.string pl,.string fr,.slice B ts.length c,.int .i64 cl,.int .i64 yr]] W (zbr base b (zaZ laws s ⟨7,dy,pl,fr,ts,cl,yr⟩) last k W):=fun W hB=>by
   rw[show zaZ laws s ⟨7,dy,pl,fr,ts,cl,yr⟩=zdU s ⟨7,dy,pl,fr,ts,cl,yr⟩from by simp[zaZ]];exact marry_any base b s last k ⟨7,dy,pl,fr,ts,cl,yr⟩ B c W (HW.o.keep hB) eN.o rfl aj (cD.o.keep hB) MbC
  generalize zaZ laws s ⟨7,dy,pl,fr,ts,cl,yr⟩=X at*;have bj:=zHi aA;clear aA bU HF eN fP bM cD cQ;obtain⟨s',er⟩:=X;unfold Deed.v;simp only;go_enter Tryz.func38,Tryz.ntmps38
  go_upto_region 3 with fail
  go_quiet (fail)
  go_upto_region 7 with fail
  refine wp_region_held_drew (S:=(fun w'=>w'.cell? ⟨w.heap.size,0,none⟩=some (.int .i64 7)/\w'.cell? ⟨w.heap.size,1,none⟩=some (.int .i64 dy)/\w'.cell? ⟨w.heap.size,2,none⟩=some (.string pl)/\w'.cell? ⟨w.heap.size,3,none⟩=some (.string fr)/\w'.cell? ⟨w.heap.size,4,none⟩=some (.slice B ts.length c)/\w'.cell? ⟨w.heap.size,5,none⟩=some (.int .i64 cl)/\w'.cell? ⟨w.heap.size,6,none⟩=some (.int .i64 yr))) MbE ?hS7 ?hrest7
  case hS7=>refine⟨?_,?_,?_,?_,?_,?_,?_⟩<;>(simp[go_sem];done)
  intro hHeld;refine TkH 0 ?_;refine TkH 1 ?_;refine TkH 2 ?_;refine TkH 3 ?_;refine OnH 4 fun K hK=>?_
  go_simp
  refine(bj.o _ Bw).mono ?_;rintro e wq ⟨rfl,hW,hB,hK⟩;have h0:=((hK w.heap.size _ _ (za3 _ _ _ rfl)).trans (za3 _ _ _ rfl))
  obtain⟨Bk',d',c',p',wl',r',mv',tv',ps',cg,bm,dF,dh⟩:=id hW;obtain⟨iQ,jk,jh,iN⟩:=yH4 hW bm hB h0;have d0:wq.cell? ⟨w.heap.size,0,none⟩=some (.int .i64 7):=MbP;exact Mbe
 ·have aA:∀W,Below w.heap.size w W->Calls Tryz.prog 100 #[.pointer (some ⟨b,0,none⟩),.slice LA laws.length lc,.agg #[.int .i64 8,.int .i64 dy,.string pl,.string fr,.slice B ts.length c,.int .i64 cl,.int .i64 yr]] W (zbr base b (zaZ laws s ⟨8,dy,pl,fr,ts,cl,yr⟩) last k W):=fun W hB=>by
   rw[show zaZ laws s ⟨8,dy,pl,fr,ts,cl,yr⟩=zd2 laws s ⟨8,dy,pl,fr,ts,cl,yr⟩from by simp[zaZ]];exact death_any base b s last k last laws LA lc ⟨8,dy,pl,fr,ts,cl,yr⟩ B c W (HW.o.keep hB) bU.o bF rfl cQ.o gO (bM.o.keep hB) MbC MbC MbC (by simpa using Nat.le_trans cP MbC) HF.o.2.1
  generalize zaZ laws s ⟨8,dy,pl,fr,ts,cl,yr⟩=X at*;have bj:=zHi aA;clear aA bU HF eN fP bM cD cQ;obtain⟨s',er⟩:=X;unfold Deed.v;simp only;go_enter Tryz.func38,Tryz.ntmps38
  go_upto_region 3 with fail
  go_quiet (fail)
  go_upto_region 18 with
   (go_at_call 100
    go_must(refine(bj.o _ Bw).mono ?_)
    rintro e wq ⟨rfl,hW,hB,hK⟩;have h0:=((hK w.heap.size _ _ (za3 _ _ _ rfl)).trans (za3 _ _ _ rfl))
    obtain⟨Bk',d',c',p',wl',r',mv',tv',ps',cg,bm,dF,dh⟩:=id hW;obtain⟨iQ,jk,jh,iN⟩:=yH4 hW bm hB h0
    clear hW hB hK h0 dF dh bm)
  exact Mc
