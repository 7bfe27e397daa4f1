import Derived.Test.YtogklihlgindkaaGreatDoorChecked
import Derived.LaidMore
import Derived.Lay
import Derived.Stop.Joined
import Derived.Stop.LaidErr
import Derived.Test.YtogklihlgindkaaGreatDoorRows
import Derived.Test.YtogklihlgindkaaGreatDoorTie
import Derived.Test.YtogklihlgindkaaGreatDoorSD
set_option linter.all false
set_option maxRecDepth 100000
set_option maxHeartbeats 4000000
namespace Go.Proofs.YtogklihlgindkaaGreatDoor
open Go.RowKit
attribute [local go_sem] World.cell?_alloc_mark zaf za3 zam za6 zat zau zav zaw zax zay zaz
attribute [local go_sem] zao zac
section
open Go.Shelf
def famR:List RPart:=[⟨nBob,3,8⟩,⟨nCat,3,8⟩,⟨nDan,1,4⟩]
def fam_cells:zgE.map zaa=famR.map RPart.cells:=by kernel_rfl
def fam_holds:zbH fam5 nA1 200=zgE:=by kernel_rfl
def fam_err(names:List ByteArray)(day:Int)(hn:names.any (λs=>!zaU s)=false)(hd:zba day=true):zce zcl zbI names day=0:=by
 unfold zce;have h:(zd7 zcl zbI 200000).2=(5,0):=by rw[zee,zhr 200000 McU]
 rw[h,hn,hd];rfl
def fam_bury:zfD zcl zbI nA1 nAnn 300=(true,0):=by
 unfold zfD;rw[fam_err [nA1,nAnn] 300 McT McT,zhr 300 McU];have h:zaL fam5 nA1 300=some 0:=McT;simp only[bne_self_eq_false,Bool.false_eq_true,if_false];rw[h];have hg:fam5.graves.getD 0 zfO=⟨nA1,1,-1,zgE,[nAnn]⟩:=rfl;simp only[hg];have he:entP fam5 ⟨nA1,1,-1,zgE,[nAnn]⟩ nAnn=true:=by
  unfold entP;have:[nAnn].any (zgc fam5 1 nAnn)=true:=by
   rw[List.any_cons];unfold zgc;rw[show zae nAnn nAnn=true from zbV _];rfl
  rw[this,Bool.or_true]
 rw[he,Bool.or_true]
def zoF:∀d∈zbI,zdQ d:=by
 intro d hd;simp only[zbI,List.mem_cons,List.not_mem_nil,or_false]at hd;rcases hd with rfl|rfl|rfl|rfl|rfl<;>exact⟨by decide,by decide,by simp[famD];try decide,by simp[famD]⟩
structure Laid5 (w:World):Prop where
 forms:FormsIn w
 lens:LensIn w
 tz:TzTab w
def Laid5.keep{w W:World}{n:Nat}(h:Laid5 w)(hB:Below n w W)(hn:w.heap.size<=n:=by first|exact Qc|omega):Laid5 W:=⟨h.forms.keep hB hn,h.lens.keep hB hn,h.tz.keep hB hn⟩
def HoldPost(w:World)(e:Ending)(w':World):Prop:= ∃A c,e=.returned (.tuple #[.slice A 3 c,.int .i64 0])/\3<=c/\Sl w' 3 RPart.cells A famR/\Qa w w'
def zjA(LA DA:Option Addr)(w:World)(hR:RightsIn w zcl zbI LA 2 2 DA 5 5)(hL:Laid5 w):Calls Tryz.prog 11 #[.agg #[.slice LA 2 2,.slice DA 5 5],.string ⟨#[97,49]⟩,.int .i64 200] w (HoldPost w):=by
 refine(znz zcl zbI nA1 200 LA 2 2 DA 5 5 w hR hL.forms hL.lens zoF McU).mono ?_;rintro e w' ⟨hB,h⟩;rw[fam_err [nA1] 200 McT McT,zhr 200 McU]at h;rcases h with⟨h,_⟩|⟨_,A,c,rfl,hc,hS⟩
 ·exact absurd rfl h
 ·rw[show((fam5,5,(0:Int)):St×Nat×Int).1=fam5 from rfl,fam_holds]at hc hS⊢;exact⟨A,c,rfl,hc,sl_same hS fam_cells,hB⟩
def znP(LA DA:Option Addr)(w:World)(hR:RightsIn w zcl zbI LA 2 2 DA 5 5)(hL:Laid5 w):Calls Tryz.prog 13 #[.agg #[.slice LA 2 2,.slice DA 5 5],.string ⟨#[97,49]⟩,.string ⟨#[97,110,110]⟩,.int .i64 300] w (Ret w (.tuple #[.bool true,.int .i64 0])):=by
 have:=zn1 zcl zbI nA1 nAnn 300 LA 2 2 DA 5 5 w hR hL.forms hL.lens zoF McU McU;rw[fam_bury]at this;exact this
def zm8(A:Option Addr)(w:World)(hS:Sl w 8 Rec.cells A zfq)(hL:Laid5 w):Calls Tryz.prog 14 #[.slice A 5 5] w (zhs w):=zpC A 5 w Qc hL.tz hS
def fam_same(A2:Option Addr)(c2:Nat)(cD:3<=c2)(P:Nat)(W:World)(h:Sl W 3 RPart.cells A2 famR)(hP:W.heap[P]?=some (.cells #[.string ⟨#[98,111,98]⟩,.int .i64 3,.int .i64 8,.string ⟨#[99,97,116]⟩,.int .i64 3,.int .i64 8,.string ⟨#[100,97,110]⟩,.int .i64 1,.int .i64 4] 55)):
 Calls Tryz.prog 10 #[.slice A2 3 c2,.slice (some ⟨P,0,none⟩) 3 3] W (Ret W (.bool true)):=
 zkX famR A2 (some ⟨P,0,none⟩) c2 3 _ h (zef (λ_=>rfl) hP rfl) McU cD McU
def two_same(A5:Option Addr)(c5:Nat)(oa:2<=c5)(P:Nat)(W:World)(h:Sl W 1 intC A5 [0,2])(hP:W.heap[P]?=some (.cells #[.int .i64 0,.int .i64 2] 3)):
 Calls Tryz.prog 16 #[.slice A5 2 c5,.slice (some ⟨P,0,none⟩) 2 2] W (Ret W (.bool true)):=
 zmp [0,2] A5 (some ⟨P,0,none⟩) c5 2 _ h (zef (λ_=>rfl) hP rfl) McU oa McU
def zpX(w:World)(hL:Laid5 w):Calls Tryz.prog 4 #[] w (Ret w (.bool true)):=by
 have HL:=zHi hL;clear hL;go_enter Tryz.func4,Tryz.ntmps4
 go_upto_region 2 with(first
  |(go_at_call 12;go_must(refine(zke _).mono ?_);rintro e w1 ⟨LA,DA,rfl,hr,hb⟩;obtain⟨HR,HB⟩:=yH2 hr hb;clear hr hb)
  |(go_at_call 11;go_must(refine(zjA LA DA _ HR.o (HL.o.keep HB.o)).mono ?_);rintro e w2 ⟨A2,c2,rfl,cD,bi,bM⟩;obtain⟨kC,aN⟩:=yH2 bi (HB.o.trans (bM.mono HB.o.size));clear bi bM))
 clear HR HB
 go_upto_region 3 with(first
  |(go_at_call 12;go_must(refine(zke _).mono ?_);rintro e w3 ⟨LA3,DA3,rfl,hr,hb⟩;obtain⟨HR,aG,HB⟩:=yH3 hr hb (aN.o.trans (hb.mono aN.o.size));clear hr hb)
  |(go_at_call 13;go_must(refine(znP LA3 DA3 _ HR.o (HL.o.keep HB.o)).mono ?_);rintro e w4 ⟨rfl,z4,rfl⟩))
 obtain⟨lz,dL⟩:=yH2 ((kC.o.keep aG.o).keep (zan w3 z4)) (HB.o.trans ((zan w3 z4).mono HB.o.size));generalize w3.ext z4=W4 at*;clear HR HB kC aN aG;have Io:w.heap.size<=W4.heap.size:=dL.o.size
 go_upto_region 4 with(go_at_call 14
                       go_must(refine(zm8 _ _ (zef (λ_=>rfl) (zas _ _ _ rfl) rfl) ((HL.o.keep dL.o).keep (n:=W4.heap.size) Bw)).mono ?_)
                       rintro e w5 ⟨A5,c5,rfl,oa,jm,ar⟩)
 have Fw:=zHi (lz.o.keep ((zad Qb _ Qc).trans (ar.mono McV)));have bs:=zHi (dL.o.trans (((zad Qb _ Qc).trans (ar.mono McV)).mono Io));have Fi:=zHi jm;clear lz dL jm ar;obtain⟨jw,tV⟩:=yH2 (λ(W:World) (hW:Qa w5 W)=>λ(P:Nat) hP=>fam_same A2 c2 cD P W (Fw.o.keep hW) hP) (λ(W:World) (hW:Qa w5 W)=>λ(P:Nat) hP=>two_same A5 c5 oa P W (Fi.o.keep hW) hP);clear Fw Fi;have Bc:w.heap.size<=w5.heap.size:=bs.o.size;clear HL
 go_wp2_with (first
  |(go_at_call 15;go_must(refine(zmo _ _ _ _).mono ?_);rintro e wq ⟨rfl,zq,rfl⟩)
  |(go_at_call 10;go_must(refine(jw.o _ Bw _ (zas _ _ _ Mdu)).mono ?_);rintro e wq ⟨rfl,zq,rfl⟩)
  |(go_at_call 16;go_must(refine(tV.o _ Bw _ (zas _ _ _ Mdu)).mono ?_);rintro e wq ⟨rfl,zq,rfl⟩))
 go_ret
 exact Ret.of rfl (bs.o.trans (Below.mono (B:=w5.heap.size) Bw bs.o.size))
end
section
open Go.ChangeShapes Go.WideShapes Go.ChangeAt Go.Deep
def znQ{α:Type}{Q:Nat->α->Prop}:∀n:Nat,(∀i,i<n->∃x,Q i x)->∃l:List α,l.length=n/\∀(i:Nat) (x:α),l[i]?=some x->Q i x
 |0,_=>⟨[],rfl,λi x h=>by simp at h⟩
 |n+1,h=>by
  obtain⟨l,hl,hq⟩:=znQ n (λi hi=>h i McS);obtain⟨x,hx⟩:=h n McS;refine⟨l++[x],by simp[hl],λi y hy=>?_⟩;by_cases hi:i<n
  ·rw[List.getElem?_append_left McS]at hy;exact hq i y hy
  ·by_cases he:i=n
   ·subst he;rw[List.getElem?_append_right McS,hl]at hy;simp at hy;subst hy;exact hx
   ·rw[List.getElem?_append_right McS]at hy;have:i-l.length≠0:=by omega
    obtain⟨m,hm⟩:=Nat.exists_eq_succ_of_ne_zero this;rw[hm]at hy;simp at hy
section
variable {H:Type} {enc:TypeId×Value->H} {P:Program} {w:World} {base:Nat} {spare:Nat->Bool} {held:Bool}
def zkn{α:Type}{f:α->List Value}{size:Nat}(hsz:0<size)(ag:∀x,(f x).length=size){t e:TypeId}{fuel:Nat}{cs:List Value}{x:DataW H×List MemPlace}(ht:P.underlying t=some (.slice e))(hC:P.cellsOf e=size)
 (mW:∀(n:Nat) (cs:List Value) (y:DataW H×List MemPlace),DataW.trod enc P w base spare held n e cs=some y->∃s:α,cs=f s)(h:DataW.trod enc P w base spare held fuel t cs=some x):
 ∃(A:Option Addr) (n c:Nat) (xs:List α),cs=[.slice A n c]/\n=xs.length/\Sl w size f A xs/\xs.length<=c/\c<=maxLen:=by
 rcases open_slice ht h with⟨rfl,_⟩|⟨a,len,cap,m,n,D,Pl,rfl,_,hl,hm,dj,_,hi⟩
 ·exact⟨none,0,0,[],rfl,rfl,Sl.nil,Qc,Nat.zero_le _⟩
 ·have bG:len<=m:=by rw[dj];split<;>omega
  obtain⟨l,g9,hq⟩:=znQ (Q:=λi (s:α)=>∀j,j<size->w.cell? ((a.add (i*size)).add j)=(f s)[j]?) len (λi eR=>by
   obtain⟨cs',hc,hr⟩:=hi i McS;obtain⟨s,rfl⟩:=mW _ _ _ hr;rw[hC]at hc
   exact⟨s,(World.cells?_some hc).2.2⟩)
  refine⟨some a,len,cap,l,rfl,g9.symm,λhp=>?_,by omega,hm⟩;have h0:0<l.length:=hp;have hx:=hq 0 l[0] (List.getElem?_eq_getElem h0) 0 hsz;have hv:∃v,(f l[0])[0]?=some v:=⟨_,List.getElem?_eq_getElem (by rw[ag];exact hsz)⟩
  obtain⟨v,hv⟩:=hv;rw[hv]at hx;have cw:=World.cell?_spot hx;have cI:=World.block_lt_of_cell? _ _ hx;obtain⟨b,off,spot⟩:=a;have tu:spot=none:=by simpa[Addr.add]using cw
  subst tu;refine⟨b,off,rfl,by simpa[Addr.add]using cI,λk y hy j u hu=>?_⟩;have hj:j<size:=by have:=(List.getElem?_eq_some_iff.1 hu).1;rw[ag]at this;exact this
  have:=hq k y hy j hj;exact MbZ
end
def zm9{H:Type}{enc:TypeId×Value->H}{a:Assume}{C:Checked}{os:Os}{f:FuncId}{fn:Func}{s:ChangeSpec}{conds:List PathCond}{apart fresh handsOn again:Bool}{X:World->Array Value->Prop}
 (hX:∀(w w':World) (args:Array Value),w.heap=w'.heap->X w args->X w' args)
 (own:ownKnob C.prog.godebug=none)(started:os.Started)(noInit:C.prog.inits.idxOf? f=none)(DR:C.prog.funcs[f]?=some fn)
 (witness:∃(w:World) (tape:Tape) (i:Input),w.os=os/\(w.forCall tape i).Shaped C.prog/\i.vars=[]/\Input.okWide C.prog (w.forCall tape i) .any w.heap.size f i/\
   ((s.pre enc C.prog fn conds apart (w.forCall tape i).memory i.args/\X (w.forCall tape i).memory i.args)/\sizedMet enc C.prog fn (OpenSpec.ofChange s) apart (w.forCall tape i).memory i.args)/\a.holds C.prog (lone (Frame.enter C.prog f i.args .normal) [] (w.forCall tape i)))
 (contract:∀(W:World) (base:Nat) (args:Array Value) (ds gs:List (DataW H)) (before:List MemPlace),
   (∀(j:Nat) t v,fn.params[j]?=some t->args[j]?=some v->Value.okWide C.prog W .any base t v)->
   DataW.Whole enc C.prog fn.params.toList s.vars apart W args.toList ds gs before->X W args->W.ShapedOpen C.prog->
   Calls C.prog f args W λe W'=>∃v,e=.returned v/\s.post enc C.prog fn apart fresh handsOn again W args v W'):
 ReturnsInHanded a C os f .any (λw args=>(s.pre enc C.prog fn conds apart w args/\X w args)/\sizedMet enc C.prog fn (OpenSpec.ofChange s) apart w args) (s.post enc C.prog fn apart fresh handsOn again):=by
 refine returnsInHanded_of_calls own started noInit witness λw tape i _ bS _ bE ig _=>?_
 obtain⟨_,_,_,fn',DS,_,_,_,_,iZ⟩:=bE;obtain rfl:fn'=fn:=Option.some.inj (DS.symm.trans DR);obtain⟨⟨⟨ds,gs,before,hw,_⟩,hx⟩,_⟩:=ig;refine(contract (w.forCall tape i) w.heap.size i.args ds gs before iZ (DataW.Whole.of_heap (w':=w.forCall tape i) (by rfl) hw) (hX _ _ _ (by rfl) hx) bS).mono λe W' h=>?_
 obtain⟨v,rfl,hp⟩:=h;exact ChangeSpec.post_blind hp
def own_knob:ownKnob Tryz.prog.godebug=none:=by kernel_rfl
def zoG:laidOutB Tryz.prog=true:=by kernel_rfl
end
section
open Go.ChangeShapes Go.WideShapes Go.ChangeAt Go.Deep Go.Shelf
section
variable {H:Type} {enc:TypeId×Value->H} {w:World} {base:Nat} {spare:Nat->Bool} {held:Bool}
def zjt:Tryz.prog.cellsOf 3=1:=by kernel_rfl
def zoH:Tryz.prog.cellsOf 9=1:=by kernel_rfl
def zfv:Tryz.prog.cellsOf 4=1:=by kernel_rfl
def k5_frac:Tryz.prog.cellsOf 50=2:=by kernel_rfl
def zmA(n:Nat)(cs:List Value)(x:DataW H×List MemPlace)(h:DataW.trod enc Tryz.prog w base spare held n 50 cs=some x):∃a b:Int,cs=[.int .i64 a,.int .i64 b]:=by
 obtain⟨xs,m,_,ex,ag,bx,hf⟩:=DataW.trod_struct Tryz.underlying50 h;rw[show Tryz.prog.cellsOf 50=2 by kernel_rfl]at ag;match cs,ag with
 | [v0,v1],_=>
   have g:∀i,i<2->∃y,xs[i]?=some y:=λi hi=>⟨_,List.getElem?_eq_getElem Mes⟩
   obtain⟨y0,e0⟩:=g 0 McU;have h0:DataW.trod enc Tryz.prog w base spare held m 3 (List.take (Tryz.prog.cellsOf 3) (List.drop 0 [v0,v1]))=some y0:=(hf 0 _ rfl).trans e0;rw[zjt]at h0;obtain⟨q0,c0,d0,_⟩:=DataW.trod_int Tryz.underlying3 h0;simp only[List.drop_succ_cons,List.drop_zero,List.take_succ_cons,List.take_zero,List.cons.injEq,and_true]at c0;obtain⟨y1,e1⟩:=g 1 McU;have h1:DataW.trod enc Tryz.prog w base spare held m 3 (List.take (Tryz.prog.cellsOf 3) (List.drop 1 [v0,v1]))=some y1:=(hf 1 _ rfl).trans e1;rw[zjt]at h1;obtain⟨q1,c1,d1,_⟩:=DataW.trod_int Tryz.underlying3 h1;simp only[List.drop_succ_cons,List.drop_zero,List.take_succ_cons,List.take_zero,List.cons.injEq,and_true]at c1;subst c0 c1;exact⟨q0,q1,rfl⟩
def open_law(n:Nat)(cs:List Value)(x:DataW H×List MemPlace)(h:DataW.trod enc Tryz.prog w base spare held n 94 cs=some x):∃s:Law,cs=s.cells:=by
 obtain⟨xs,m,_,ex,ag,bx,hf⟩:=DataW.trod_struct Tryz.underlying94 h;rw[show Tryz.prog.cellsOf 94=4 by kernel_rfl]at ag;match cs,ag with
 | [v0,v1,v2,v3],_=>
   have g:∀i,i<3->∃y,xs[i]?=some y:=λi hi=>⟨_,List.getElem?_eq_getElem Mes⟩
   obtain⟨y0,e0⟩:=g 0 McU;have h0:DataW.trod enc Tryz.prog w base spare held m 3 (List.take (Tryz.prog.cellsOf 3) (List.drop 0 [v0,v1,v2,v3]))=some y0:=(hf 0 _ rfl).trans e0;rw[zjt]at h0;obtain⟨q0,c0,d0,_⟩:=DataW.trod_int Tryz.underlying3 h0;simp only[List.drop_succ_cons,List.drop_zero,List.take_succ_cons,List.take_zero,List.cons.injEq,and_true]at c0;obtain⟨y1,e1⟩:=g 1 McU;have h1:DataW.trod enc Tryz.prog w base spare held m 4 (List.take (Tryz.prog.cellsOf 4) (List.drop 1 [v0,v1,v2,v3]))=some y1:=(hf 1 _ rfl).trans e1;rw[zfv]at h1;obtain⟨q1,c1,d1⟩:=DataW.trod_bool Tryz.underlying4 h1;simp only[List.drop_succ_cons,List.drop_zero,List.take_succ_cons,List.take_zero,List.cons.injEq,and_true]at c1;obtain⟨y2,e2⟩:=g 2 McU;have h2:DataW.trod enc Tryz.prog w base spare held m 50 (List.take (Tryz.prog.cellsOf 50) (List.drop 2 [v0,v1,v2,v3]))=some y2:=(hf 2 _ rfl).trans e2;rw[k5_frac]at h2;obtain⟨q2,r2,c2⟩:=zmA _ _ _ h2;simp only[List.drop_succ_cons,List.drop_zero,List.take_succ_cons,List.take_zero,List.cons.injEq,and_true]at c2;subst c0;subst c1;obtain⟨cx2,cy2⟩:=c2;subst cx2 cy2;exact⟨⟨q0,q1,q2,r2⟩,rfl⟩
def open_form(n:Nat)(cs:List Value)(x:DataW H×List MemPlace)(h:DataW.trod enc Tryz.prog w base spare held n 137 cs=some x):∃s:Form,cs=s.cells/\x.1=.agg [.lit (.string s.word.data.toList),.lit (.bool s.place),.lit (.bool s.frm),.lit (.bool s.cls),.lit (.bool s.years),.lit (.bool s.all),.lit (.bool s.parts),.lit (.bool s.shares)]:=by
 obtain⟨xs,m,_,ex,ag,bx,hf⟩:=DataW.trod_struct Tryz.underlying137 h;rw[show Tryz.prog.cellsOf 137=8 by kernel_rfl]at ag;match cs,ag with
 | [v0,v1,v2,v3,v4,v5,v6,v7],_=>
   have g:∀i,i<8->∃y,xs[i]?=some y:=λi hi=>⟨_,List.getElem?_eq_getElem Mes⟩
   obtain⟨y0,e0⟩:=g 0 McU;have h0:DataW.trod enc Tryz.prog w base spare held m 9 (List.take (Tryz.prog.cellsOf 9) (List.drop 0 [v0,v1,v2,v3,v4,v5,v6,v7]))=some y0:=(hf 0 _ rfl).trans e0;rw[zoH]at h0;obtain⟨q0,c0,d0,_⟩:=DataW.trod_string Tryz.underlying9 h0;simp only[List.drop_succ_cons,List.drop_zero,List.take_succ_cons,List.take_zero,List.cons.injEq,and_true]at c0;obtain⟨y1,e1⟩:=g 1 McU;have h1:DataW.trod enc Tryz.prog w base spare held m 4 (List.take (Tryz.prog.cellsOf 4) (List.drop 1 [v0,v1,v2,v3,v4,v5,v6,v7]))=some y1:=(hf 1 _ rfl).trans e1;rw[zfv]at h1;obtain⟨q1,c1,d1⟩:=DataW.trod_bool Tryz.underlying4 h1;simp only[List.drop_succ_cons,List.drop_zero,List.take_succ_cons,List.take_zero,List.cons.injEq,and_true]at c1;obtain⟨y2,e2⟩:=g 2 McU;have h2:DataW.trod enc Tryz.prog w base spare held m 4 (List.take (Tryz.prog.cellsOf 4) (List.drop 2 [v0,v1,v2,v3,v4,v5,v6,v7]))=some y2:=(hf 2 _ rfl).trans e2;rw[zfv]at h2;obtain⟨q2,c2,d2⟩:=DataW.trod_bool Tryz.underlying4 h2;simp only[List.drop_succ_cons,List.drop_zero,List.take_succ_cons,List.take_zero,List.cons.injEq,and_true]at c2;obtain⟨y3,e3⟩:=g 3 McU;have h3:DataW.trod enc Tryz.prog w base spare held m 4 (List.take (Tryz.prog.cellsOf 4) (List.drop 3 [v0,v1,v2,v3,v4,v5,v6,v7]))=some y3:=(hf 3 _ rfl).trans e3;rw[zfv]at h3;obtain⟨q3,c3,d3⟩:=DataW.trod_bool Tryz.underlying4 h3;simp only[List.drop_succ_cons,List.drop_zero,List.take_succ_cons,List.take_zero,List.cons.injEq,and_true]at c3;obtain⟨y4,e4⟩:=g 4 McU
   have h4:DataW.trod enc Tryz.prog w base spare held m 4 (List.take (Tryz.prog.cellsOf 4) (List.drop 4 [v0,v1,v2,v3,v4,v5,v6,v7]))=some y4:=(hf 4 _ rfl).trans e4;rw[zfv]at h4;obtain⟨q4,c4,d4⟩:=DataW.trod_bool Tryz.underlying4 h4;simp only[List.drop_succ_cons,List.drop_zero,List.take_succ_cons,List.take_zero,List.cons.injEq,and_true]at c4;obtain⟨y5,e5⟩:=g 5 McU;have h5:DataW.trod enc Tryz.prog w base spare held m 4 (List.take (Tryz.prog.cellsOf 4) (List.drop 5 [v0,v1,v2,v3,v4,v5,v6,v7]))=some y5:=(hf 5 _ rfl).trans e5;rw[zfv]at h5;obtain⟨q5,c5,d5⟩:=DataW.trod_bool Tryz.underlying4 h5;simp only[List.drop_succ_cons,List.drop_zero,List.take_succ_cons,List.take_zero,List.cons.injEq,and_true]at c5;obtain⟨y6,e6⟩:=g 6 McU;have h6:DataW.trod enc Tryz.prog w base spare held m 4 (List.take (Tryz.prog.cellsOf 4) (List.drop 6 [v0,v1,v2,v3,v4,v5,v6,v7]))=some y6:=(hf 6 _ rfl).trans e6;rw[zfv]at h6;obtain⟨q6,c6,d6⟩:=DataW.trod_bool Tryz.underlying4 h6;simp only[List.drop_succ_cons,List.drop_zero,List.take_succ_cons,List.take_zero,List.cons.injEq,and_true]at c6;obtain⟨y7,e7⟩:=g 7 McU;have h7:DataW.trod enc Tryz.prog w base spare held m 4 (List.take (Tryz.prog.cellsOf 4) (List.drop 7 [v0,v1,v2,v3,v4,v5,v6,v7]))=some y7:=(hf 7 _ rfl).trans e7;rw[zfv]at h7;obtain⟨q7,c7,d7⟩:=DataW.trod_bool Tryz.underlying4 h7;simp only[List.drop_succ_cons,List.drop_zero,List.take_succ_cons,List.take_zero,List.cons.injEq,and_true]at c7;subst c0;subst c1;subst c2;subst c3;subst c4;subst c5;subst c6;subst c7
   refine⟨⟨q0,q1,q2,q3,q4,q5,q6,q7⟩,rfl,?_⟩;rw[ex];have hx:xs=[y0,y1,y2,y3,y4,y5,y6,y7]:=by
    apply List.ext_getElem?;intro i;match i with
    |0=>exact e0
    |1=>exact e1
    |2=>exact e2
    |3=>exact e3
    |4=>exact e4
    |5=>exact e5
    |6=>exact e6
    |7=>exact e7
    |i+8=>rw[List.getElem?_eq_none (by rw[bx];show 8<=_;omega)];rfl
   rw[hx,d0,d1,d2,d3,d4,d5,d6,d7];rfl
def k5_laws:Tryz.prog.cellsOf 94=4:=by kernel_rfl
def k5_form:Tryz.prog.cellsOf 137=8:=by kernel_rfl
end
def zmB{n:String}{tab:List Int}{kd:IntKind}{arr el:TypeId}{N:Nat}{r:List (String×DataW Unit)}{W:World}{g:Nat}(h:laidMet Tryz.prog ((n,.agg (tab.map λz=> .lit (.int kd z)))::r) W)
 (pa:Tryz.prog.globalNamed n=some g)(N0:(Tryz.prog.globals[g]?).map (·.type)=some arr)(ha:Tryz.prog.underlying arr=some (.array N el))(he:Tryz.prog.underlying el=some (.int kd))(uu:Tryz.prog.cellsOf el=1)(KR:Tryz.prog.cellsOf arr=N)(hN:tab.length=N):
 ∀(k:Nat) z,tab[k]?=some z->W.cell? ⟨g,k,none⟩=some (.int kd z):=by
 obtain⟨ps,⟨g',t,cs,fuel,p,q,hg,ht,hv,hd,_,_⟩,_,_⟩:=h;obtain rfl:=Option.some.inj (pa.symm.trans hg);obtain rfl:=Option.some.inj (N0.symm.trans ht);obtain⟨xs,m,_,ex,bp,hl,hel⟩:=DataW.trod_array ha hd;rw[KR]at bp;intro k z hk;have cf:k<N:=by rw[<-hN];exact(List.getElem?_eq_some_iff.1 hk).1
 have hE:=hel k cf;rw[uu,Nat.mul_one,List.getElem?_eq_getElem McS]at hE;obtain⟨y,e1,e2,_⟩:=DataW.trod_int he hE;have e3:(xs.map (·.1))=tab.map λz=> .lit (.int kd z):=(DataW.agg.inj (Prod.mk.inj ex).1).symm
 have e4:=congrArg (λl=>l[k]?) e3;simp only[List.getElem?_map,hk,List.getElem?_eq_getElem (show k<xs.length by omega),e2,Option.map_some,Option.some.injEq,DataW.lit.injEq,Lit.int.injEq,true_and]at e4;have h0:((cs.toList.drop k).take 1)[0]?=some (.int kd y):=by rw[e1];rfl
 have h1:cs.toList[k]?=some (.int kd y):=MdX;rw[World.var?_cell hg hv k,<-Array.getElem?_toList,h1,e4]
def tz_laid{r:List (String×DataW Unit)}{W:World}(h:laidMet Tryz.prog (("math/bits.deBruijn64tab",Rows.laid_math_bits_deBruijn64tab)::r) W):TzTab W:=by
 have h1:=zmB (tab:=Lib.deBruijn64tab.map λ(z:Nat)=>(z:Int)) (kd:=.u8) (arr:=189) (el:=5) (N:=64) (g:=2) (by
  have e:(Rows.laid_math_bits_deBruijn64tab:DataW Unit)=.agg ((Lib.deBruijn64tab.map λ(z:Nat)=>(z:Int)).map λz=> .lit (.int .u8 z)):=McT
  rw[<-e];exact h) McT McT Tryz.underlying189 Tryz.underlying5 McT McT McT
 have h2:TabAt 2 Lib.deBruijn64tab W:=λj hj=>h1 j (Lib.deBruijn64tab.getD j 0:Nat) (by
  rw[List.getElem?_map,List.getD_eq_getElem?_getD,List.getElem?_eq_getElem hj]
  rfl)
 exact⟨h2,zcs (h2 0 (by decide+kernel))⟩
def lens_laid{r:List (String×DataW Unit)}{W:World}(h:laidMet Tryz.prog (("mortsafe/rule.lengths",Rows.laid_mortsafe_rule_lengths)::r) W):LensIn W:=by
 have h1:=zmB (tab:=zgs) (kd:=.i64) (arr:=241) (el:=3) (N:=12) (g:=4) (by
  have e:(Rows.laid_mortsafe_rule_lengths:DataW Unit)=.agg (zgs.map λz=> .lit (.int .i64 z)):=McT
  rw[<-e];exact h) McT McT Tryz.underlying241 Tryz.underlying3 McT McT McT
 exact⟨zcs (h1 0 31 rfl),h1⟩
def formD(s:Form):DataW Unit:=.agg [.lit (.string s.word.data.toList),.lit (.bool s.place),.lit (.bool s.frm),.lit (.bool s.cls),.lit (.bool s.years),.lit (.bool s.all),.lit (.bool s.parts),.lit (.bool s.shares)]
def formD_inj{a b:Form}(h:formD a=formD b):a=b:=by
 obtain⟨⟨⟨x⟩⟩,p1,p2,p3,p4,p5,p6,p7⟩:=a;obtain⟨⟨⟨y⟩⟩,q1,q2,q3,q4,q5,q6,q7⟩:=b;simp[formD]at h;obtain⟨rfl,rfl,rfl,rfl,rfl,rfl,rfl,rfl⟩:=h;rfl
def zpY{r:List (String×DataW Unit)}{W:World}(h:laidMet Tryz.prog (("mortsafe/right.forms",Rows.laid_mortsafe_right_forms)::r) W):FormsIn W:=by
 have e0:(Rows.laid_mortsafe_right_forms:DataW Unit)=.agg (zfK.map formD):=McT;rw[e0]at h;obtain⟨ps,⟨g',t,cs,fuel,p,q,hg,ht,hv,hd,_,_⟩,_,_⟩:=h;obtain rfl:=Option.some.inj ((show Tryz.prog.globalNamed "mortsafe/right.forms" =some 0 by kernel_rfl).symm.trans hg)
 obtain rfl:=Option.some.inj ((show(Tryz.prog.globals[0]?).map (·.type)=some 138 by kernel_rfl).symm.trans ht);obtain⟨xs,m,_,ex,bp,hl,hel⟩:=DataW.trod_array Tryz.underlying138 hd;have key:∀k (f:Form),zfK[k]?=some f->∀j u,f.cells[j]?=some u->W.cell? ⟨0,k*8+j,none⟩=some u:=λk f hk j u hu=>by
  have cf:k<9:=(List.getElem?_eq_some_iff.1 hk).1;have hE:=hel k cf;rw[k5_form,List.getElem?_eq_getElem McS]at hE;obtain⟨s,e1,e2⟩:=open_form _ _ _ hE;have e3:(xs.map (·.1))=zfK.map formD:=(DataW.agg.inj (Prod.mk.inj ex).1).symm;have e4:=congrArg (λl=>l[k]?) e3;simp only[List.getElem?_map,hk,List.getElem?_eq_getElem (show k<xs.length by omega),e2,Option.map_some,Option.some.injEq]at e4;have e5:s=f:=formD_inj e4;subst e5;have hj:j<8:=(List.getElem?_eq_some_iff.1 hu).1;have h1:((cs.toList.drop (k*8)).take 8)[j]?=some u:=by rw[e1];exact hu
  rw[List.getElem?_take_of_lt hj,List.getElem?_drop]at h1;rw[World.var?_cell hg hv (k*8+j),<-Array.getElem?_toList,h1]
 exact⟨zcs (key 0 _ rfl 0 _ rfl),key⟩
section
variable {H:Type} {enc:TypeId×Value->H} {P:Program} {w:World} {base:Nat} {spare:Nat->Bool} {held:Bool}
def znR{α:Type}{R:World->α->List Value->Prop}{size:Nat}(hsz:0<size)(ag:∀x cs,R w x cs->cs.length=size){t e:TypeId}{fuel:Nat}{cs:List Value}{x:DataW H×List MemPlace}(ht:P.underlying t=some (.slice e))(hC:P.cellsOf e=size)
 (mW:∀(n:Nat) (cs:List Value) (y:DataW H×List MemPlace),DataW.trod enc P w base spare held n e cs=some y->∃s:α,R w s cs)(h:DataW.trod enc P w base spare held fuel t cs=some x):
 ∃(A:Option Addr) (n c:Nat) (xs:List α),cs=[.slice A n c]/\n=xs.length/\SlW w size R A xs/\xs.length<=c/\c<=maxLen:=by
 rcases open_slice ht h with⟨rfl,_⟩|⟨a,len,cap,m,n,D,Pl,rfl,_,hl,hm,dj,_,hi⟩
 ·exact⟨none,0,0,[],rfl,rfl,SlW.nil,Qc,Nat.zero_le _⟩
 ·have bG:len<=m:=by rw[dj];split<;>omega
  obtain⟨l,g9,hq⟩:=znQ (Q:=λi (s:α)=>∃cs,R w s cs/\∀j,j<size->w.cell? ((a.add (i*size)).add j)=cs[j]?) len (λi eR=>by
   obtain⟨cs',hc,hr⟩:=hi i McS;obtain⟨s,hs⟩:=mW _ _ _ hr;rw[hC]at hc
   exact⟨s,cs',hs,(World.cells?_some hc).2.2⟩)
  refine⟨some a,len,cap,l,rfl,g9.symm,λhp=>?_,by omega,hm⟩;have h0:0<l.length:=hp;obtain⟨cs0,qy,eH⟩:=hq 0 l[0] (List.getElem?_eq_getElem h0);have hx:=eH 0 hsz;have hv:∃v,cs0[0]?=some v:=⟨_,List.getElem?_eq_getElem (by rw[ag _ _ qy];exact hsz)⟩
  obtain⟨v,hv⟩:=hv;rw[hv]at hx;have cw:=World.cell?_spot hx;have cI:=World.block_lt_of_cell? _ _ hx;obtain⟨b,off,spot⟩:=a;have tu:spot=none:=by simpa[Addr.add]using cw
  subst tu;refine⟨b,off,rfl,by simpa[Addr.add]using cI,λk y hy=>?_⟩;obtain⟨cs1,gq,gD⟩:=hq k y hy;refine⟨cs1,gq,λj u hu=>?_⟩;have hj:j<size:=by have:=(List.getElem?_eq_some_iff.1 hu).1;rw[ag _ _ gq]at this;exact this
  have:=gD j hj;exact MbZ
end
section
variable {H:Type} {enc:TypeId×Value->H} {w:World} {base:Nat} {spare:Nat->Bool} {held:Bool}
def k5_part:Tryz.prog.cellsOf 55=3:=by kernel_rfl
def k5_parts:Tryz.prog.cellsOf 36=1:=by kernel_rfl
def k5_deed:Tryz.prog.cellsOf 60=7:=by kernel_rfl
def k5_lawsl:Tryz.prog.cellsOf 22=1:=by kernel_rfl
def k5_deedsl:Tryz.prog.cellsOf 23=1:=by kernel_rfl
def k5_rights:Tryz.prog.cellsOf 25=2:=by kernel_rfl
def rpart_len(x:RPart):x.cells.length=3:=rfl
def open_part(n:Nat)(cs:List Value)(x:DataW H×List MemPlace)(h:DataW.trod enc Tryz.prog w base spare held n 55 cs=some x):∃s:RPart,cs=s.cells:=by
 obtain⟨xs,m,_,ex,ag,bx,hf⟩:=DataW.trod_struct Tryz.underlying55 h;rw[show Tryz.prog.cellsOf 55=3 by kernel_rfl]at ag;match cs,ag with
 | [v0,v1,v2],_=>
   have g:∀i,i<2->∃y,xs[i]?=some y:=λi hi=>⟨_,List.getElem?_eq_getElem Mes⟩
   obtain⟨y0,e0⟩:=g 0 McU;have h0:DataW.trod enc Tryz.prog w base spare held m 9 (List.take (Tryz.prog.cellsOf 9) (List.drop 0 [v0,v1,v2]))=some y0:=(hf 0 _ rfl).trans e0;rw[zoH]at h0;obtain⟨q0,c0,d0,_⟩:=DataW.trod_string Tryz.underlying9 h0;simp only[List.drop_succ_cons,List.drop_zero,List.take_succ_cons,List.take_zero,List.cons.injEq,and_true]at c0;obtain⟨y1,e1⟩:=g 1 McU;have h1:DataW.trod enc Tryz.prog w base spare held m 50 (List.take (Tryz.prog.cellsOf 50) (List.drop 1 [v0,v1,v2]))=some y1:=(hf 1 _ rfl).trans e1;rw[k5_frac]at h1;obtain⟨q1,r1,c1⟩:=zmA _ _ _ h1;simp only[List.drop_succ_cons,List.drop_zero,List.take_succ_cons,List.take_zero,List.cons.injEq,and_true]at c1;subst c0;obtain⟨cx1,cy1⟩:=c1;subst cx1 cy1;exact⟨⟨q0,q1,r1⟩,rfl⟩
def open_deed(n:Nat)(cs:List Value)(x:DataW H×List MemPlace)(h:DataW.trod enc Tryz.prog w base spare held n 60 cs=some x):∃d:Deed,zfG w d cs:=by
 obtain⟨xs,m,_,ex,ag,bx,hf⟩:=DataW.trod_struct Tryz.underlying60 h;rw[show Tryz.prog.cellsOf 60=7 by kernel_rfl]at ag;match cs,ag with
 | [v0,v1,v2,v3,v4,v5,v6],_=>
   have g:∀i,i<7->∃y,xs[i]?=some y:=λi hi=>⟨_,List.getElem?_eq_getElem Mes⟩
   obtain⟨y0,e0⟩:=g 0 McU;have h0:DataW.trod enc Tryz.prog w base spare held m 3 (List.take (Tryz.prog.cellsOf 3) (List.drop 0 [v0,v1,v2,v3,v4,v5,v6]))=some y0:=(hf 0 _ rfl).trans e0;rw[zjt]at h0;obtain⟨q0,c0,d0,_⟩:=DataW.trod_int Tryz.underlying3 h0;simp only[List.drop_succ_cons,List.drop_zero,List.take_succ_cons,List.take_zero,List.cons.injEq,and_true]at c0;obtain⟨y1,e1⟩:=g 1 McU;have h1:DataW.trod enc Tryz.prog w base spare held m 3 (List.take (Tryz.prog.cellsOf 3) (List.drop 1 [v0,v1,v2,v3,v4,v5,v6]))=some y1:=(hf 1 _ rfl).trans e1;rw[zjt]at h1;obtain⟨q1,c1,d1,_⟩:=DataW.trod_int Tryz.underlying3 h1;simp only[List.drop_succ_cons,List.drop_zero,List.take_succ_cons,List.take_zero,List.cons.injEq,and_true]at c1;obtain⟨y2,e2⟩:=g 2 McU;have h2:DataW.trod enc Tryz.prog w base spare held m 9 (List.take (Tryz.prog.cellsOf 9) (List.drop 2 [v0,v1,v2,v3,v4,v5,v6]))=some y2:=(hf 2 _ rfl).trans e2;rw[zoH]at h2;obtain⟨q2,c2,d2,_⟩:=DataW.trod_string Tryz.underlying9 h2;simp only[List.drop_succ_cons,List.drop_zero,List.take_succ_cons,List.take_zero,List.cons.injEq,and_true]at c2;obtain⟨y3,e3⟩:=g 3 McU;have h3:DataW.trod enc Tryz.prog w base spare held m 9 (List.take (Tryz.prog.cellsOf 9) (List.drop 3 [v0,v1,v2,v3,v4,v5,v6]))=some y3:=(hf 3 _ rfl).trans e3;rw[zoH]at h3;obtain⟨q3,c3,d3,_⟩:=DataW.trod_string Tryz.underlying9 h3;simp only[List.drop_succ_cons,List.drop_zero,List.take_succ_cons,List.take_zero,List.cons.injEq,and_true]at c3;obtain⟨y4,e4⟩:=g 4 McU
   have h4:DataW.trod enc Tryz.prog w base spare held m 36 (List.take (Tryz.prog.cellsOf 36) (List.drop 4 [v0,v1,v2,v3,v4,v5,v6]))=some y4:=(hf 4 _ rfl).trans e4;rw[k5_parts]at h4;obtain⟨B4,n4,cap4,q4,c4,I3,hS4,kL,_⟩:=zkn (f:=RPart.cells) (size:=3) McU rpart_len Tryz.underlying36 k5_part open_part h4;simp only[List.drop_succ_cons,List.drop_zero,List.take_succ_cons,List.take_zero,List.cons.injEq,and_true]at c4;obtain⟨y5,e5⟩:=g 5 McU;have h5:DataW.trod enc Tryz.prog w base spare held m 3 (List.take (Tryz.prog.cellsOf 3) (List.drop 5 [v0,v1,v2,v3,v4,v5,v6]))=some y5:=(hf 5 _ rfl).trans e5;rw[zjt]at h5;obtain⟨q5,c5,d5,_⟩:=DataW.trod_int Tryz.underlying3 h5;simp only[List.drop_succ_cons,List.drop_zero,List.take_succ_cons,List.take_zero,List.cons.injEq,and_true]at c5;obtain⟨y6,e6⟩:=g 6 McU;have h6:DataW.trod enc Tryz.prog w base spare held m 3 (List.take (Tryz.prog.cellsOf 3) (List.drop 6 [v0,v1,v2,v3,v4,v5,v6]))=some y6:=(hf 6 _ rfl).trans e6;rw[zjt]at h6;obtain⟨q6,c6,d6,_⟩:=DataW.trod_int Tryz.underlying3 h6;simp only[List.drop_succ_cons,List.drop_zero,List.take_succ_cons,List.take_zero,List.cons.injEq,and_true]at c6;subst c0;subst c1;subst c2;subst c3;subst c4;subst c5;subst c6;subst I3;exact⟨⟨q0,q1,q2,q3,q4,q5,q6⟩,B4,cap4,kL,rfl,hS4⟩
def deedR_len{W:World}:∀(d:Deed) (cs:List Value),zfG W d cs->cs.length=7:=by
 rintro d cs ⟨B,c,_,rfl,_⟩;rfl
def znS{v:Value}{d:DataW H}{p:List MemPlace}{r:Reach}{b0:Nat}(hv:Value.okWide Tryz.prog w r b0 25 v)(h:DataW.Trod enc Tryz.prog w base spare held 25 v d p):
 ∃(ls:List Law) (ds:List Deed) (A:Option Addr) (nc:Nat) (B:Option Addr) (mc:Nat),v=.agg #[.slice A ls.length nc,.slice B ds.length mc]/\RightsIn w ls ds A ls.length nc B ds.length mc:=by
 obtain⟨cs,rfl,hsz⟩:=okWide_struct Tryz.underlying25 hv;obtain⟨l⟩:=cs;rw[k5_rights]at hsz;match l,hsz with
 | [v0,v1],_=>
   obtain⟨fuel,sL⟩:=h;obtain⟨xs,m,_,_,_,bx,hf⟩:=DataW.trod_struct Tryz.underlying25 sL;have g:∀i,i<2->∃y,xs[i]?=some y:=λi hi=>⟨_,List.getElem?_eq_getElem Mes⟩
   obtain⟨y0,e0⟩:=g 0 McU;obtain⟨y1,e1⟩:=g 1 McU;have h0:DataW.trod enc Tryz.prog w base spare held m 22 (List.take (Tryz.prog.cellsOf 22) (List.drop 0 [v0,v1]))=some y0:=(hf 0 _ rfl).trans e0;have h1:DataW.trod enc Tryz.prog w base spare held m 23 (List.take (Tryz.prog.cellsOf 23) (List.drop 1 [v0,v1]))=some y1:=(hf 1 _ rfl).trans e1;rw[k5_lawsl]at h0;rw[k5_deedsl]at h1;obtain⟨A,n,nc,ls,ea,hn,hS,hc,_⟩:=zkn (f:=Law.cells) (size:=4) McU (λx=>rfl) Tryz.underlying22 k5_laws open_law h0;obtain⟨B,k,mc,ds,er,hk,hD,te,_⟩:=znR (R:=zfG) (size:=7) McU deedR_len Tryz.underlying23 k5_deed open_deed h1;simp at ea er;subst ea er hn hk;exact⟨ls,ds,A,nc,B,mc,rfl,rfl,rfl,hc,te,hS,hD⟩
end
end
open Go.Shelf
def zgP(xs ys:Parts)(P Q:Option Addr)(pc qc:Nat)(w:World)(hp:Sl w 3 zaa P xs)(hq:Sl w 3 zaa Q ys)(hl:xs.length<=100000)(lO:ys.length<=100000):
 Calls Tryz.prog 10 #[.slice P xs.length pc,.slice Q ys.length qc] w (zoE w xs ys):=by
 by_cases hn:xs.length=ys.length;rotate_left 1
 ·have cu:¬(xs.length:Int)=(ys.length:Int):=McS;have HN:=zHi hn;clear hn hp hq;go_enter Tryz.func10,Tryz.ntmps10
  exact Mbn
 have HN:=zHi hn;rw[<-hn];clear hn lO;go_enter Tryz.func10,Tryz.ntmps10
 go_wp2_with fail
 go_loopw [5] (λi wr=>∃j:Nat,j<=xs.length/\i=.int .i64 j/\Hid (xs.take j=ys.take j)/\∃z,wr=w.ext z) (λi _=>xs.length-(intOf i).toNat)
 case atStart=>exact⟨0,Nat.zero_le _,rfl,rfl,zaP Qb⟩
 case round=>
  obtain⟨j,hj,rfl,HT,z,rfl⟩:=hrel;by_cases ae:j<xs.length
  ·have dF:j<ys.length:=MeE;obtain⟨b,off,rfl,hb,hc⟩:=hp.at ae;obtain⟨b',off',rfl,cA,aE⟩:=hq.at dF;have bu:(j:Int)<(xs.length:Int):=McS;have oh:(0:Int)<=(j:Int):=McS;have gD:xs.take (j+1)=xs.take j++[xs[j]]:=List.take_succ_eq_append_getElem ae;have tG:ys.take (j+1)=ys.take j++[ys[j]]:=List.take_succ_eq_append_getElem dF;have cP:xs[j]?=some xs[j]:=List.getElem?_eq_getElem ae;have qG:ys[j]?=some ys[j]:=List.getElem?_eq_getElem dF;generalize xs[j]=x at*;generalize ys[j]=y at*;obtain⟨kE,FH,aw,kG⟩:=yH4 gD tG cP qG;obtain⟨x0,x1⟩:=x;obtain⟨y0,y1⟩:=y;have i0:w.cell? ⟨b,off+j*3,none⟩=some (.string x0):=hc 0 _ rfl;have k0:w.cell? ⟨b',off'+j*3,none⟩=some (.string y0):=aE 0 _ rfl;have i1:w.cell? ⟨b,off+j*3+1,none⟩=some (.int .i64 x1.num):=hc 1 _ rfl;have k1:w.cell? ⟨b',off'+j*3+1,none⟩=some (.int .i64 y1.num):=aE 1 _ rfl;have i2:w.cell? ⟨b,off+j*3+2,none⟩=some (.int .i64 x1.den):=hc 2 _ rfl;have k2:w.cell? ⟨b',off'+j*3+2,none⟩=some (.int .i64 y1.den):=aE 2 _ rfl;clear hc aE gD tG cP qG dF;by_cases fE:x0=y0/\x1=y1
   ·obtain⟨rfl,rfl⟩:=fE;go_wp2_with fail
    exact M6
   ·have wj:=zHi fE;by_cases e0:x0=y0
    ·subst e0;by_cases e1:x1.num=y1.num
     ·have e2:¬(x1.den:Int)=(y1.den:Int):=λh=>fE ⟨rfl,Rat.ext e1 McS⟩
      have kx:=zHi e2;rw[<-e1]at k1;clear fE e1;go_wp2_with fail
      exact MR
     ·have tP:=zHi e1;clear fE;go_wp2_with fail
      exact MQ
    ·have pQ:=zHi e0;have hs:(x0.toList==y0.toList)=false:=zcd.2 e0;clear fE e0;go_wp2_with fail
     exact MS
  ·exact Mah
def Told.holders{k:Nat}{s:St}(h:Told k s)(pl:ByteArray)(dy:Int):(zbH s pl dy).length<=80*k:=by
 unfold zbH;cases hg:zaL s pl dy with
 |none=>simp
 |some i=>
  obtain⟨g,_,h2,h3⟩:=zh7 hg;simp only[h2];exact(h.few.held g h3).1
