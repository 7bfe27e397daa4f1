import Derived.Test.YthhgkjfgpkbliaaGreatDoorNJ
import Derived.Test.YthhgkjfgpkbliaaGreatDoorYO
set_option linter.all false
set_option maxRecDepth 100000
set_option maxHeartbeats 4000000
namespace Go.Proofs.YthhgkjfgpkbliaaGreatDoor
open Go.RowKit Go.Shelf
attribute [local go_sem] World.cell?_alloc_mark zae zav zai zaw zam zan zao zap zaq zar zas
attribute [local go_sem] zah zac
theorem zds{l:Parts}(h:PartsOk l)(n:ByteArray):zaD (zab l n):=by
 have h1:=zcM h.good n;have h2:=h.parts.2.1;exact zcl (zbg h.good n) MbV (zcs n h.small)
theorem zlY{ls:List Law}{ds:List Deed}{pl:ByteArray}{dy:Int}(h:zck ls ds [pl] dy=0):PartsOk (hOn ls ds pl dy):=by
 obtain⟨_,hg⟩:=zh6 h;exact zix hg pl dy
def vCopy(ls:List Law)(ds:List Deed)(v:Value)(W:World):Prop:= ∃A n B m,v=.agg #[.slice A ls.length n,.slice B ds.length m]/\RightsIn W ls ds A ls.length n B ds.length m
theorem zmS(ls:List Law)(ds:List Deed):zhM (vCopy ls ds):=fun _ W z ⟨A,n,B,m,h,k⟩=>⟨A,n,B,m,h,k.keep (za5 W z)⟩
def vHold(xs:Parts)(v:Value)(W:World):Prop:= ∃A c,v=.tuple #[.slice A xs.length c,.int .i64 0]/\Sl W 3 zaa A xs
theorem zmT(xs:Parts):zhM (vHold xs):=fun _ W z ⟨A,c,h,k⟩=>⟨A,c,h,k.keep (za5 W z)⟩
def vParts(xs:Parts)(v:Value)(W:World):Prop:= ∃A c,v=.slice A xs.length c/\Sl W 3 zaa A xs
theorem zlo(xs:Parts):zhM (vParts xs):=fun _ W z ⟨A,c,h,k⟩=>⟨A,c,h,k.keep (za5 W z)⟩
def vNext(ls:List Law)(ds:List Deed)(d:Deed)(E:Int)(v:Value)(W:World):Prop:= ∃P p q R r s,v=.tuple #[.agg #[.slice P p q,.slice R r s],.int .i64 E]/\NxRes W ls ds d E P p q R r s
theorem zmU(ls:List Law)(ds:List Deed)(d:Deed)(E:Int):zhM (vNext ls ds d E):=fun _ W z ⟨P,p,q,R,r,s,h,k⟩=>⟨P,p,q,R,r,s,h,k.keep (za5 W z)⟩
def vNx1(ls:List Law)(ds:List Deed)(d:Deed)(E:Int)(v:Value)(W:World):Prop:= ∃P p q R r s,v=.agg #[.slice P p q,.slice R r s]/\NxRes W ls ds d E P p q R r s
theorem mono_vNx1(ls:List Law)(ds:List Deed)(d:Deed)(E:Int):zhM (vNx1 ls ds d E):=fun _ W z ⟨P,p,q,R,r,s,h,k⟩=>⟨P,p,q,R,r,s,h,k.keep (za5 W z)⟩
def vTo(tn:ByteArray)(pn pd:Int)(v:Value)(W:World):Prop:= ∃g,v=.slice (some ⟨g,0,none⟩) 1 1/\W.heap[g]?=some (.cells #[.string tn,.int .i64 pn,.int .i64 pd] 59)
theorem mono_vTo(tn:ByteArray)(pn pd:Int):zhM (vTo tn pn pd):=fun _ W z ⟨g,h,k⟩=>⟨g,h,(zbJ W z g (zad k)).trans k⟩
def vDeed(dy:Int)(pl frm tn:ByteArray)(pn pd:Int)(v:Value)(W:World):Prop:= ∃g,v=.agg #[.int .i64 1,.int .i64 dy,.string pl,.string frm,.slice (some ⟨g,0,none⟩) 1 1,.int .i64 0,.int .i64 0]/\W.heap[g]?=some (.cells #[.string tn,.int .i64 pn,.int .i64 pd] 59)
theorem zmV(dy:Int)(pl frm tn:ByteArray)(pn pd:Int):zhM (vDeed dy pl frm tn pn pd):=fun _ W z ⟨g,h,k⟩=>⟨g,h,(zbJ W z g (zad k)).trans k⟩
theorem sl_to{W:World}{g:Nat}{tn:ByteArray}{pn pd:Int}(h:W.heap[g]?=some (.cells #[.string tn,.int .i64 pn,.int .i64 pd] 59)):Sl W 3 RPart.cells (some ⟨g,0,none⟩) [⟨tn,pn,pd⟩]:=fun _=>⟨g,0,rfl,zad h,fun k y hy j u hu=>by
 have hk:k=0:=MbK;subst hk;simp only[List.getElem?_cons_zero,Option.some.injEq]at hy;subst hy;match j,hu with
 |0,hu=>simp[RPart.cells]at hu;simp[World.cell?,h,<-hu]
 |1,hu=>simp[RPart.cells]at hu;simp[World.cell?,h,<-hu]
 |2,hu=>simp[RPart.cells]at hu;simp[World.cell?,h,<-hu]
 |j+3,hu=>simp[RPart.cells]at hu⟩
theorem zhE{V:World}{k1 k2:Nat}{x y x' y':Value}(h1:V.heap[k1]?=some (.cells #[.int .i64 0,.int .i64 0] 54))(h2:V.heap[k2]?=some (.cells #[.int .i64 0,.int .i64 0] 54))(ag:k1≠k2):
 ((V.setCell ⟨k1,0,none⟩ x).setCell ⟨k1,1,none⟩ y).heap[k2]?=some (.cells #[.int .i64 0,.int .i64 0] 54)/\
 ((((V.setCell ⟨k1,0,none⟩ x).setCell ⟨k1,1,none⟩ y).setCell ⟨k2,0,none⟩ x').setCell ⟨k2,1,none⟩ y').heap[k1]?=some (.cells #[x,y] 54)/\
 ((((V.setCell ⟨k1,0,none⟩ x).setCell ⟨k1,1,none⟩ y).setCell ⟨k2,0,none⟩ x').setCell ⟨k2,1,none⟩ y').heap[k2]?=some (.cells #[x',y'] 54):=by
 have e2:((V.setCell ⟨k1,0,none⟩ x).setCell ⟨k1,1,none⟩ y).heap[k2]?=some (.cells #[.int .i64 0,.int .i64 0] 54):=J_ne (Ne.symm ag) (J_ne (Ne.symm ag) h2);exact⟨e2,J_ne ag (J_ne ag (zga h1)),zga e2⟩
theorem zhR(ls:List Law)(ds:List Deed)(LA:Option Addr)(n nc:Nat)(DA:Option Addr)(m mc:Nat)(pl frm tn:ByteArray)(dy pn pd:Int)(w:World)(hL:Laid5 w)(hR:RightsIn w ls ds LA n nc DA m mc):
 Calls Tryz.prog 4 #[.agg #[.slice LA n nc,.slice DA m mc],.agg #[.string pl,.string frm,.string tn,.int .i64 dy,.int .i64 pn,.int .i64 pd]] w (Ret w (.bool true)):=by
 obtain⟨HL,HR,oB⟩:=yH3 hL hR (fun W (h:Below w.heap.size w W)=>few_any ls ds LA n nc DA m mc W (hR.keep h));clear hL hR;go_enter Tryz.func4,Tryz.ntmps4
 go_upto_region 1 with fail
 obtain⟨W0,aF⟩:∃W0,W0=(w.alloc (.cells #[.slice LA n nc,.slice DA m mc] 25)).alloc (.cells #[.string pl,.string frm,.string tn,.int .i64 dy,.int .i64 pn,.int .i64 pd] 56):=⟨_,rfl⟩
 have b0:W0.heap[w.heap.size]?=some (.cells #[.slice LA n nc,.slice DA m mc] 25):=by rw[aF];exact zal (za3 _ _ _ rfl)
 have b1:W0.heap[w.heap.size+1]?=some (.cells #[.string pl,.string frm,.string tn,.int .i64 dy,.int .i64 pn,.int .i64 pd] 56):=by rw[aF];exact za3 _ _ _ MbF
 have iR:Below w.heap.size w W0:=by rw[aF];exact Bw
 rw[<-aF];have od:=zHi iR;clear aF iR;go_upto_region 3 with(go_at_call 16;go_must(refine(zmP _ (HL.o.keep od.o)).mono ?_);rintro e wq ⟨rfl,z0,rfl⟩)
 have c0:(W0.ext z0).heap[w.heap.size]?=some (.cells #[.slice LA n nc,.slice DA m mc] 25):=zbZ b0;have c1:(W0.ext z0).heap[w.heap.size+1]?=some (.cells #[.string pl,.string frm,.string tn,.int .i64 dy,.int .i64 pn,.int .i64 pd] 56):=zbZ b1;have bo:Below w.heap.size w (W0.ext z0):=zbH od.o z0;generalize W0.ext z0=W1 at*;have bl:=zHi bo;clear b0 b1 od bo;obtain⟨r0,r1⟩:=zdX c0;obtain⟨x0,x1,x2,x3,x4,x5⟩:=cells6 c1;have l0:=zad c0;have l1:=zad c1;clear c0 c1;cases hfw:fewP ls ds
 ·rw[hfw]at oB;clear hfw;exact MC
 have gw:=few_lens hfw;rw[hfw]at oB;clear hfw;by_cases gR:20<pl.size
 ·have ja:(20:Int)<(pl.size:Int):=MbC;clear gw;exact MC
 have ja:¬(20:Int)<(pl.size:Int):=MbC;by_cases gN:20<frm.size
 ·have CR:(20:Int)<(frm.size:Int):=MbC;clear gw;exact MC
 have CR:¬(20:Int)<(frm.size:Int):=MbC;by_cases fI:20<tn.size
 ·have CS:(20:Int)<(tn.size:Int):=MbC;clear gw;exact MC
 have CS:¬(20:Int)<(tn.size:Int):=MbC;obtain⟨cr,vN,vo,rD⟩:=gw;obtain⟨fh,oL⟩:=yH2 (fun W (h:Below w.heap.size w W)=>zm2 ls ds LA n nc DA m mc W (HR.o.keep h) MbC MbC (fun d hd=>by have:=rD d hd;omega)) (fun A1 n1 B1 n2 W (h:Below w.heap.size w W) (hr:RightsIn W ls ds A1 ls.length n1 B1 ds.length n2)=>zdT ls ds pl dy A1 ls.length n1 B1 ds.length n2 W hr (HL.o.keep h).forms (HL.o.keep h).lens cr MbC);have cM:zdi ⟨1,dy,pl,frm,[⟨tn,pn,pd⟩],0,0⟩:=⟨by show pl.size<=100000;omega,by show frm.size<=100000;omega,fun p hp=>by rw[List.mem_singleton.1 hp];show tn.size<=100000;omega,by show 1<=100000;omega⟩
 have eR:zdi ⟨2,dy,pl,frm,[],0,0⟩:=⟨by show pl.size<=100000;omega,by show frm.size<=100000;omega,fun p hp=>by simp at hp,by show 0<=100000;omega⟩
 have kf:=zHi (fun A1 n1 B1 n2 g W (h:Below w.heap.size w W) (hr:RightsIn W ls ds A1 ls.length n1 B1 ds.length n2) (hg:W.heap[g]?=some (.cells #[.string tn,.int .i64 pn,.int .i64 pd] 59))=>zki ls ds ⟨1,dy,pl,frm,[⟨tn,pn,pd⟩],0,0⟩ A1 ls.length n1 B1 ds.length n2 (some ⟨g,0,none⟩) 1 W hr (HL.o.keep h).forms (HL.o.keep h).lens cr MbC MbC cM (Nat.le_refl 1) (sl_to hg));have jn:=zHi (fun A1 n1 B1 n2 W (h:Below w.heap.size w W) (hr:RightsIn W ls ds A1 ls.length n1 B1 ds.length n2)=>zki ls ds ⟨2,dy,pl,frm,[],0,0⟩ A1 ls.length n1 B1 ds.length n2 none 0 W hr (HL.o.keep h).forms (HL.o.keep h).lens cr MbC MbC eR (Nat.le_refl 0) Sl.nil);have oJ:=zHi (fun A1 n1 B1 n2 W (h:Below w.heap.size w W) (hr:RightsIn W ls (ds++[⟨1,dy,pl,frm,[⟨tn,pn,pd⟩],0,0⟩]) A1 ls.length n1 B1 (ds.length+1) n2)=>zdT ls (ds++[⟨1,dy,pl,frm,[⟨tn,pn,pd⟩],0,0⟩]) pl dy A1 ls.length n1 B1 (ds.length+1) n2 W hr (HL.o.keep h).forms (HL.o.keep h).lens (fun d hd=>(List.mem_append.1 hd).elim (cr d) fun h=>by rw[List.mem_singleton.1 h];exact cM) MbC);have rX:=zHi (fun A1 n1 B1 n2 W (h:Below w.heap.size w W) (hr:RightsIn W ls (ds++[⟨2,dy,pl,frm,[],0,0⟩]) A1 ls.length n1 B1 (ds.length+1) n2)=>zdT ls (ds++[⟨2,dy,pl,frm,[],0,0⟩]) pl dy A1 ls.length n1 B1 (ds.length+1) n2 W hr (HL.o.keep h).forms (HL.o.keep h).lens (fun d hd=>(List.mem_append.1 hd).elim (cr d) fun h=>by rw[List.mem_singleton.1 h];exact eR) MbC)
 have ll:=zHi (fun(h0:zck ls ds [pl] dy=0) (hn:zfW ls ds ⟨1,dy,pl,frm,[⟨tn,pn,pd⟩],0,0⟩=0)=>And.intro (zjc h0 hn) (And.intro (zlY (zjc h0 hn)) (zhQ hn)));have dM:=zHi (fun(h0:zck ls ds [pl] dy=0) (hn:zfW ls ds ⟨2,dy,pl,frm,[],0,0⟩=0)=>And.intro (zjc h0 hn) (And.intro (zlY (zjc h0 hn)) (zhD hn)))
 have xf:Hid (zck ls ds [pl] dy=0->PartsOk (hOn ls ds pl dy)):=zHi (fun h0=>by
  obtain⟨_,hg⟩:=zh6 h0
  exact zix hg pl dy)
 unfold zlH at fh;unfold zeS at oL oJ rX;unfold Deed.v at kf jn;simp only[List.length_singleton,List.length_nil]at kf jn;clear cr vN vo rD gR gN fI HR HL cM eR;generalize kw:(⟨1,dy,pl,frm,[⟨tn,pn,pd⟩],0,0⟩:Deed)=d1 at*;generalize ip:(⟨2,dy,pl,frm,[],0,0⟩:Deed)=d2 at*;rw[show zbn (zaz ls ds dy).1 pl dy=hOn ls ds pl dy from rfl]at oL;rw[show zbn (zaz ls (ds++[d1]) dy).1 pl dy=hOn ls (ds++[d1]) pl dy from rfl]at oJ;rw[show zbn (zaz ls (ds++[d2]) dy).1 pl dy=hOn ls (ds++[d2]) pl dy from rfl]at rX;generalize hOn ls ds pl dy=b at*;generalize hOn ls (ds++[d1]) pl dy=a1 at*;generalize hOn ls (ds++[d2]) pl dy=a2 at*;generalize zfW ls ds d1=F1 at*;generalize zfW ls ds d2=F2 at*;generalize zck ls (ds++[d1]) [pl] dy=E1 at*;generalize zck ls (ds++[d2]) [pl] dy=E2 at*;generalize zck ls ds [pl] dy=E at*
 have lJ:Hid (∀(p q t:Rat),zaD p->zaD q->p-q=t->∀W,Calls Tryz.prog 19 #[.agg #[.int .i64 p.num,.int .i64 p.den],.agg #[.int .i64 q.num,.int .i64 q.den]] W (Ret W (.agg #[.int .i64 t.num,.int .i64 t.den]))):=zHi (fun p q t h1 h2 h3 W=>by
  subst h3
  exact rSub_any p q W h1 h2)
 have ly:Hid (∀(p q t:Rat),zaD p->zaD q->p*q=t->∀W,Calls Tryz.prog 20 #[.agg #[.int .i64 p.num,.int .i64 p.den],.agg #[.int .i64 q.num,.int .i64 q.den]] W (Ret W (.agg #[.int .i64 t.num,.int .i64 t.den]))):=zHi (fun p q t h1 h2 h3 W=>by
  subst h3
  exact zlI p q W h1 h2)
 go_upto_region 5 with(go_at_call 8;go_must(refine(oB.o _ (by have:=bl.o;exact Bw)).mono ?_);rintro e wq ⟨rfl,z,rfl⟩)
 have bs:Below w.heap.size w (W1.ext z):=zbH bl.o z;have lQ:Below W1.heap.size W1 (W1.ext z):=za5 W1 z
 have cC:Hid (∀(w':World),Below (W1.ext z).heap.size (W1.ext z) w'->w'.cell? ⟨w.heap.size,0,none⟩=some (.slice LA n nc)/\w'.cell? ⟨w.heap.size,1,none⟩=some (.slice DA m mc)/\w'.cell? ⟨w.heap.size+1,0,none⟩=some (.string pl)/\w'.cell? ⟨w.heap.size+1,1,none⟩=some (.string frm)/\w'.cell? ⟨w.heap.size+1,2,none⟩=some (.string tn)/\w'.cell? ⟨w.heap.size+1,3,none⟩=some (.int .i64 dy)/\w'.cell? ⟨w.heap.size+1,4,none⟩=some (.int .i64 pn)/\w'.cell? ⟨w.heap.size+1,5,none⟩=some (.int .i64 pd)):=zHi (fun w' h=>by
  have hb:=lQ.trans (h.mono lQ.size)
  exact⟨(za4 hb l0).trans r0,(za4 hb l0).trans r1,(za4 hb l1).trans x0,(za4 hb l1).trans x1,(za4 hb l1).trans x2,(za4 hb l1).trans x3,(za4 hb l1).trans x4,(za4 hb l1).trans x5⟩)
 clear l0 l1 r0 r1 x0 x1 x2 x3 x4 x5 oB bl lQ;generalize W1.ext z=W2 at*;have b9:=zHi bs;have bk:=bs.size;clear bs;by_cases h0:E=0;rotate_left 1
 ·have hEb:(E != 0)=true:=Mcf;have HE:=zHi h0;clear h0;go_cut [5,6]from 46 to 55 (fun v5 v6 W=>v5=.slice none 0 0/\v6=.int .i64 E/\Below W2.heap.size W2 W)
  case first=>
   apply zbE (n:=10) (E:=[9]) (D:=[]) (V:=vL [vIs (.agg #[.slice LA n nc,.slice DA m mc]),vCopy ls ds,vIs (.pointer (some ⟨w.heap.size+1,0,none⟩)),vIs (.string pl),vIs (.pointer (some ⟨w.heap.size+1,3,none⟩)),vIs (.int .i64 dy),vIs (.tuple #[.slice none 0 0,.int .i64 E]),vIs (.tuple #[.slice none 0 0,.int .i64 E]),vIs (.slice none 0 0),vIs (.int .i64 E)])
   case hm=>kernel_rfl
   case hht=>kernel_rfl
   case hDE=>decide
   case hQ=>intro d v c a w h;cases d<;>exact h
   case hmono=>exact zeR MbJ
   case hA=>intro f;simp[zcA,Act.put];rfl
   case hal=>trivial
   case' hstep=>
    simp only[List.take_succ_cons,List.take_zero,zco,and_true];refine⟨?_,?_,?_,?_,?_,?_,?_,?_,?_,?_⟩
    ·exact Mbi
    ·exact MK
    ·exact Mbi
    ·exact Mbi
    ·exact Mbi
    ·exact Mbi
   ·intro f z h;obtain⟨A1,n1,B1,n2,h1,hr⟩:=h ⟨1,.data⟩ MbF rfl;have h3:f 3=.string pl:=h ⟨3,.data⟩ MbF rfl;have h5:f 5=.int .i64 dy:=h ⟨5,.data⟩ MbF rfl;clear h;unfold zca;go_simp
    refine(oL.o A1 n1 B1 n2 _ (b9.o.trans ((zbH (zaI (Below.refl _ _)) z).mono bk)) hr).mono ?_;rintro e w6 ⟨aY,⟨_,rfl⟩|⟨hz,_⟩⟩
    ·exact⟨_,rfl,rfl,zaM aY⟩
    ·exact absurd hz HE.o
   ·intro f z h;have h6:f 6=.tuple #[.slice none 0 0,.int .i64 E]:=h ⟨6,.data⟩ MbF rfl;exact ML
   ·exact Mbw
   ·exact Mbw
   case heag=>
    simp only[zcG,and_true];intro o ho f z h;obtain rfl:=Option.some.inj ho;have h7:f 7=.tuple #[.slice none 0 0,.int .i64 E]:=h ⟨7,.data⟩ MbF rfl;exact⟨.int .i64 E,rfl,fun W=>by go_simp⟩
   case hend=>
    intro f z h _;have e8:f 8=.slice none 0 0:=h 8 MbD;have e9:f 9=.int .i64 E:=h 9 MbD;simp only[List.drop_succ_cons,List.drop_zero];rw[e8,e9];have mu:Below W2.heap.size W2 (W2.drew.ext z):=zbH (zaI (Below.refl _ _)) z;have gC:=zHi mu;clear h e8 e9 mu;generalize W2.drew.ext z=V at*;go_wp2_with fail
    go_meet
    exact⟨rfl,rfl,gC.o⟩
  case rest=>
   obtain⟨rfl,rfl,bW⟩:=hcut;have bw:=zHi (b9.o.trans (bW.mono bk));clear bW;go_wp2_with fail
   go_ret
   exact Ret.of rfl bw.o
 obtain⟨g7,oD,oE⟩:=yH3 (xf.o h0) (ll.o h0) (dM.o h0);subst h0;clear xf ll dM;go_cut [5,6]from 46 to 55 (fun v5 v6 W=>v6=.int .i64 0/\vParts b v5 W/\Below W2.heap.size W2 W)
 case first=>
  apply zbE (n:=10) (E:=[9]) (D:=[]) (V:=vL [vIs (.agg #[.slice LA n nc,.slice DA m mc]),vCopy ls ds,vIs (.pointer (some ⟨w.heap.size+1,0,none⟩)),vIs (.string pl),vIs (.pointer (some ⟨w.heap.size+1,3,none⟩)),vIs (.int .i64 dy),vHold b,vHold b,vParts b,vIs (.int .i64 0)])
  case hm=>kernel_rfl
  case hht=>kernel_rfl
  case hDE=>decide
  case hQ=>intro d v c a w h;cases d<;>exact h
  case hmono=>exact zeR MbJ
  case hA=>intro f;simp[zcA,Act.put];rfl
  case hal=>trivial
  case' hstep=>
   simp only[List.take_succ_cons,List.take_zero,zco,and_true];refine⟨?_,?_,?_,?_,?_,?_,?_,?_,?_,?_⟩
   ·exact Mbi
   ·exact MK
   ·exact Mbi
   ·exact Mbi
   ·exact Mbi
   ·exact Mbi
  ·intro f z h;obtain⟨A1,n1,B1,n2,h1,hr⟩:=h ⟨1,.data⟩ MbF rfl;have h3:f 3=.string pl:=h ⟨3,.data⟩ MbF rfl;have h5:f 5=.int .i64 dy:=h ⟨5,.data⟩ MbF rfl;clear h;unfold zca;go_simp
   refine(oL.o A1 n1 B1 n2 _ (b9.o.trans ((zbH (zaI (Below.refl _ _)) z).mono bk)) hr).mono ?_;rintro e w6 ⟨aY,⟨ag,_⟩|⟨_,A6,c6,rfl,_,h6⟩⟩
   ·exact absurd rfl ag
   ·exact⟨_,rfl,⟨A6,c6,rfl,h6⟩,zaM aY⟩
  ·intro f z h;have h6:=h ⟨6,.data⟩ MbF rfl;exact MaC
  ·intro f z h;obtain⟨A6,c6,h7,hs⟩:=h ⟨7,.data⟩ MbF rfl;clear h;unfold zca;go_simp
   exact⟨⟨A6,c6,rfl,hs⟩,stays _⟩
  ·intro f z h;obtain⟨A6,c6,h7,hs⟩:=h ⟨7,.data⟩ MbF rfl;exact ML
  case heag=>
   simp only[zcG,and_true];intro o ho f z h;obtain rfl:=Option.some.inj ho;obtain⟨A6,c6,h7,hs⟩:=h ⟨7,.data⟩ MbF rfl;exact⟨.int .i64 0,rfl,fun W=>by go_simp⟩
  case hend=>
   intro f z h _;obtain⟨A6,c6,e8,hs⟩:=h 8 MbD;have e9:f 9=.int .i64 0:=h 9 MbD;simp only[List.drop_succ_cons,List.drop_zero];rw[e8,e9];obtain⟨gC,HS⟩:=yH2 (show Below W2.heap.size W2 (W2.drew.ext z) from zbH (zaI (Below.refl _ _)) z) hs;clear h e8 e9 hs;generalize W2.drew.ext z=V at*;go_wp2_with fail
   go_meet
   exact⟨rfl,⟨A6,c6,rfl,HS.o⟩,gC.o⟩
 case rest=>
  obtain⟨rfl,⟨AB,cb,rfl,iG⟩,bW⟩:=hcut;obtain⟨W3,kr⟩:∃W3,W3=wc:=⟨_,rfl⟩
  subst kr;obtain⟨lG,pb,bw⟩:=yH3 (fun(w':World) (h:Below W3.heap.size W3 w')=>cC.o w' (bW.trans (h.mono bW.size))) (fun(w':World) (h:Below W3.heap.size W3 w')=>(iG.keep h:Sl w' 3 zaa AB b)) (b9.o.trans (bW.mono bk));have mS:=bw.o.size;have iE:=g7.o.parts;have bu:b.length<=1000000000:=iE.2.2;clear cC b9 bk bW iG iE oL;go_upto_region 8 with fail
  go_cut [7,8]from 61 to 79 (fun v7 v8 W=>YoCut W3 ls ds d1 F1 v7 v8 W)
  case first=>
   apply zbE (n:=20) (E:=[18]) (D:=[]) (V:=vL [vIs (.agg #[.slice LA n nc,.slice DA m mc]),vCopy ls ds,vIs (.pointer (some ⟨w.heap.size+1,3,none⟩)),vIs (.int .i64 dy),vIs (.pointer (some ⟨w.heap.size+1,0,none⟩)),vIs (.string pl),vIs (.pointer (some ⟨w.heap.size+1,1,none⟩)),vIs (.string frm),vIs (.pointer (some ⟨w.heap.size+1,2,none⟩)),vIs (.string tn),vIs (.pointer (some ⟨w.heap.size+1,4,none⟩)),vIs (.agg #[.int .i64 pn,.int .i64 pd]),vIs (.agg #[.string tn,.int .i64 pn,.int .i64 pd]),vTo tn pn pd,vDeed dy pl frm tn pn pd,vNext ls ds d1 F1,vNext ls ds d1 F1,vNx1 ls ds d1 F1,vIs (.int .i64 F1),vNew W3.heap.size (.cells #[.slice none 0 0,.slice none 0 0] 25)])
   case hm=>kernel_rfl
   case hht=>kernel_rfl
   case hDE=>decide
   case hQ=>intro d v c a w h;cases d<;>exact h
   case hmono=>exact zeR MbJ
   case hA=>intro f;simp[zcA,Act.put];rfl
   case hal=>trivial
   case hstep=>
    simp only[List.take_succ_cons,List.take_zero,zco,and_true];refine⟨?_,?_,?_,?_,?_,?_,?_,?_,?_,?_,?_,?_,?_,?_,?_,?_,?_,?_,?_,?_⟩
    ·exact Mbg
    ·intro f z h;have h0:f 0=.agg #[.slice LA n nc,.slice DA m mc]:=h ⟨0,.data⟩ MbF rfl;clear h;unfold zca;go_simp
     refine(fh.o _ (bw.o.trans ((zbH (zaI (Below.refl _ _)) z).mono mS))).mono ?_;exact MR
    ·exact Mbg
    ·exact Mbg
    ·exact Mbg
    ·exact Mbg
    ·exact Mbg
    ·exact Mbg
    ·exact Mbg
    ·exact Mbg
    ·exact Mbg
    ·exact Mbg
    ·exact Mbg
    ·intro f z h;have nA:f 12=.agg #[.string tn,.int .i64 pn,.int .i64 pd]:=h ⟨12,.data⟩ MbF rfl;clear h;unfold zca;go_simp
     exact⟨⟨_,rfl,za3 _ _ _ Mb8⟩,zaM (zau (Below.refl _ _) _)⟩
    ·intro f z h;have h3:f 3=.int .i64 dy:=h ⟨3,.data⟩ MbF rfl;have h5:f 5=.string pl:=h ⟨5,.data⟩ MbF rfl;have h7:f 7=.string frm:=h ⟨7,.data⟩ MbF rfl;obtain⟨g,h13,hg⟩:=h ⟨13,.data⟩ MbF rfl;clear h;unfold zca;go_simp
     exact⟨⟨g,rfl,hg⟩,stays _⟩
    ·intro f z h;obtain⟨A1,n1,B1,n2,h1,hr⟩:=h ⟨1,.data⟩ MbF rfl;obtain⟨g,h14,hg⟩:=h ⟨14,.data⟩ MbF rfl;clear h;unfold zca;go_simp
     refine(kf.o A1 n1 B1 n2 g _ (bw.o.trans ((zbH (zaI (Below.refl _ _)) z).mono mS)) hr hg).mono ?_;exact MaA
    ·intro f z h;have h6:=h ⟨15,.data⟩ MbF rfl;exact MaC
    ·intro f z h;obtain⟨P,p,q,R,r,s,pg,hn⟩:=h ⟨16,.data⟩ MbF rfl;exact MaS
    ·intro f z h;obtain⟨P,p,q,R,r,s,pg,hn⟩:=h ⟨16,.data⟩ MbF rfl;exact ML
    ·intro f z h;clear h;have hsz:=(zbH (zaI (Below.refl W3.heap.size W3)) z).size;exact Ml
   case heag=>
    simp only[zcG,and_true];intro o ho f z h;obtain rfl:=Option.some.inj ho;obtain⟨P,p,q,R,r,s,pg,hn⟩:=h ⟨16,.data⟩ MbF rfl;exact⟨.int .i64 F1,rfl,fun W=>by go_simp⟩
   case hend=>
    intro f z h _;obtain⟨P,p,q,R,r,s,e1,hn⟩:=h 17 MbD;have e2:f 18=.int .i64 F1:=h 18 MbD;obtain⟨gb,e3,bI,ky⟩:=h 19 MbD;simp only[List.drop_succ_cons,List.drop_zero];rw[e1,e2,e3];have gC:=zHi (show Below W3.heap.size W3 (W3.drew.ext z) from zbH (zaI (Below.refl _ _)) z);clear h e1 e2 e3;generalize W3.drew.ext z=V at*;exact MY
  case rest=>
   obtain⟨au,gb,rfl,rfl,bI,hd⟩:=hcut;obtain⟨W4,BM⟩:∃W4,W4=wc:=⟨_,rfl⟩
   subst BM;obtain⟨h9,jr,ji⟩:=yH3 (fun(w':World) (h:Below W4.heap.size W4 w')=>lG.o w' (au.trans (h.mono au.size))) (fun(w':World) (h:Below W4.heap.size W4 w')=>pb.o w' (au.trans (h.mono au.size))) (bw.o.trans (au.mono mS));have tk:=ji.o.size;have HD:=zHi hd;clear lG pb bw mS au bI hd kf;go_upto_if 81 with fail
   go_cut [9,10,11,12,13,14,15,16]from 80 to 164 (fun _ _ _ _ _ _ _ _ W=>Below W4.heap.size W4 W)
   case first=>
    by_cases hF:F1=0;rotate_left 1
    ·have B9:(F1==0)=false:=by simpa using hF
     clear hF;go_wp2_with fail
     go_meet
     exact Below.refl _ _
    obtain⟨h,_⟩|⟨_,RA,ra,RB,rb,g,rj⟩:=HD.o
    ·exact absurd hF h
    obtain⟨B6,jP,cd,ag,qq,tu,t1,t2,t3⟩:=oD.o hF;subst hF B6;obtain⟨dJ,fG,yW,yX⟩:=zbo cd;have p8:=zHi (fun(w':World) (h:Below W4.heap.size W4 w')=>(rj.keep h:RightsIn w' ls (ds++[d1]) RA ls.length ra RB (ds.length+1) rb));obtain⟨g0,g1⟩:=zdX g;have lg:=zad g;obtain⟨x0,x1,x2,x3,x4,x5,x6,x7⟩:=h9.o W4 (Below.refl _ _);have lx:=zb2 x2;clear g rj
    go_upto_region 11 with(
     go_at_call 13
     go_must(refine(oJ.o RA ra RB rb _ ji.o (p8.o _ (Below.refl _ _))).mono ?_)
     rintro e w5 ⟨bx,⟨hx,_⟩|⟨_,A9,c9,rfl,_,we⟩⟩
     ·exact absurd rfl hx)
    clear g0 g1 lg x0 x1 x2 x3 x4 x5 x6 x7 lx p8 oJ HD;obtain⟨was,rJ⟩:∃q,q=zab b frm:=⟨_,rfl⟩
    obtain⟨now,qV⟩:∃q,q=zab a1 frm:=⟨_,rfl⟩
    obtain⟨ie,qt⟩:∃q,q=zab b tn:=⟨_,rfl⟩
    obtain⟨has,qu⟩:∃q,q=zab a1 tn:=⟨_,rfl⟩
    have vd:a1.length<=1000000000:=jP.parts.2.2;have Az:=zHi (fun(w':World) (h:Below w5.heap.size w5 w')=>(we.keep h:Sl w' 3 zaa A9 a1));have gZ:=zHi (fun(w':World) (h:Below w5.heap.size w5 w')=>jr.o w' (bx.trans (h.mono bx.size)));have g9:=zHi (fun(w':World) (h:Below w5.heap.size w5 w')=>h9.o w' (bx.trans (h.mono bx.size)));have nf:=zHi (fun W (h:Below w5.heap.size w5 W) nm=>zdp b nm AB cb W bu (gZ.o W h));have jV:=zHi (fun W (h:Below w5.heap.size w5 W) nm=>zdp a1 nm A9 c9 W vd (Az.o W h));have ng:=zHi (fun W (h:Below w5.heap.size w5 W)=>jV.o W h);have fY:=zHi (fun W (h:Below w5.heap.size w5 W)=>nf.o W h frm);have fg:=zHi (fun W (h:Below w5.heap.size w5 W)=>jV.o W h frm);obtain⟨rU,ni,cA⟩:=yH3 (fun W (h:Below w5.heap.size w5 W)=>nf.o W h tn) (fun W (h:Below w5.heap.size w5 W)=>jV.o W h tn) (bx:Below W4.heap.size W4 w5);have dU:=bx.size;have k1:=zds g7.o frm;have k2:=zds jP frm;have k3:=zds g7.o tn;have k4:=zds jP tn;rw[<-rJ]at fY tu t1 t2 k1;rw[<-qV]at fg t1 k2;rw[<-qt]at rU t2 k3;rw[<-qu]at ni t2 k4;obtain⟨q,hq⟩:∃q,q=Rat.divInt pn pd:=⟨_,rfl⟩
    rw[<-hq]at t1 t2 dJ fG yW yX;obtain⟨t,ht⟩:∃t,t=was-now:=⟨_,rfl⟩
    have kq:zaD q:=by
     have h1:=cd;unfold za2 at h1;simp only[Bool.and_eq_true,decide_eq_true_eq,beq_iff_eq]at h1;refine⟨?_,?_⟩<;>omega
    have e1:was-now=t:=ht.symm;have e2:has-ie=t:=by rw[ht,t1,t2]
    have M3:=zHi (fun W=>zlI was q W k1 kq);rw[show was*q=t by rw[ht,t1]]at M3;have eZ:(was.num==0)=false:=by simpa using(fun e=>tu (by rw[<-Rat.num_divInt_den was,e];simp):¬was.num=0)
    unfold za9 at fY fg rU ni M3;rw[dJ,fG]at M3;obtain⟨AE,lz,zN⟩:=yH3 t3 ag qq;clear bx we tu t1 t2 t3 ag qq cd dJ fG yW yX rJ qV qt qu hq ht kq jP h9 jr ng nf;go_cut [11,12]from 91 to 98 (fun v11 v12 W=>∃c1 c2,v11=.pointer (some ⟨c1,0,none⟩)/\v12=.pointer (some ⟨c2,0,none⟩)/\W.heap[c1]?=some (.cells #[.int .i64 was.num,.int .i64 was.den] 54)/\W.heap[c2]?=some (.cells #[.int .i64 now.num,.int .i64 now.den] 54)/\Below w5.heap.size w5 W)
    case first=>
     apply zbE (n:=10) (E:=[]) (D:=[8,9]) (V:=vL [vIs (.slice AB b.length cb),vIs (.pointer (some ⟨w.heap.size+1,1,none⟩)),vIs (.string frm),vIs (.agg #[.int .i64 was.num,.int .i64 was.den]),vIs (.slice A9 a1.length c9),vIs (.pointer (some ⟨w.heap.size+1,1,none⟩)),vIs (.string frm),vIs (.agg #[.int .i64 now.num,.int .i64 now.den]),vNew w5.heap.size (.cells #[.int .i64 0,.int .i64 0] 54),vNew w5.heap.size (.cells #[.int .i64 0,.int .i64 0] 54)])
     case hm=>kernel_rfl
     case hht=>kernel_rfl
     case hDE=>decide
     case hQ=>intro d v c a w h;cases d<;>exact h
     case hmono=>exact zeR MbJ
     case hA=>intro f;simp[zcA,Act.put];rfl
     case hal=>
      exact Mw
     case heag=>trivial
     case hstep=>
      simp only[List.take_succ_cons,List.take_zero,zco,and_true];refine⟨?_,?_,?_,?_,?_,?_,?_,?_,?_,?_⟩
      ·exact Mbf
      ·exact Mbf
      ·exact Mbf
      ·intro f z h;have ha:=h ⟨0,.data⟩ MbF rfl;have hc:=h ⟨2,.data⟩ MbF rfl;simp only[vL,vIs,List.getD_cons_zero,List.getD_cons_succ]at ha hc;clear h;unfold zca;go_simp
       refine(fY.o _ (Below.trans (Below.refl w5.heap.size w5) ((zbH (zaI (Below.refl _ _)) z).mono (Below.size (Below.refl w5.heap.size w5))))).mono ?_;exact MT
      ·exact Mbf
      ·exact Mbf
      ·exact Mbf
      ·intro f z h;have ha:=h ⟨4,.data⟩ MbF rfl;have hc:=h ⟨6,.data⟩ MbF rfl;simp only[vL,vIs,List.getD_cons_zero,List.getD_cons_succ]at ha hc;clear h;unfold zca;go_simp
       refine(fg.o _ (Below.trans (Below.refl w5.heap.size w5) ((zbH (zaI (Below.refl _ _)) z).mono (Below.size (Below.refl w5.heap.size w5))))).mono ?_;exact MT
      ·exact Mbu
      ·exact Mbu
     case hend=>
      intro f z h hn;have e3:f 3=.agg #[.int .i64 was.num,.int .i64 was.den]:=h 3 MbD;have e7:f 7=.agg #[.int .i64 now.num,.int .i64 now.den]:=h 7 MbD;obtain⟨k1,e8,bn,cM⟩:=h 8 MbD;obtain⟨k2,e9,bp,eR⟩:=h 9 MbD;have ag:=hn 8 9 MbD MbD rfl rfl MbD;rw[e8,e9]at ag;have hk:k1≠k2:=fun e=>ag (by rw[e])
      simp only[List.drop_succ_cons,List.drop_zero];rw[e3,e7,e8,e9];have gC:=zHi (show Below w5.heap.size w5 (w5.drew.ext z) from zbH (zaI (Below.refl _ _)) z);clear h hn ag e3 e7 e8 e9;generalize w5.drew.ext z=V at*;obtain⟨t1,t2⟩:=zhE (x:=.int .i64 was.num) (y:=.int .i64 was.den) (x':=.int .i64 now.num) (y':=.int .i64 now.den) cM eR hk;have aM:=zHi (zaU (zaU (zaU (zaU gC.o (p:=⟨k1,0,none⟩) bn (.int .i64 was.num)) (p:=⟨k1,1,none⟩) bn (.int .i64 was.den)) (p:=⟨k2,0,none⟩) bp (.int .i64 now.num)) (p:=⟨k2,1,none⟩) bp (.int .i64 now.den));exact Mv
    case rest=>
     obtain⟨c1,c2,rfl,rfl,gM,bY,aY⟩:=hcut;obtain⟨W6,uV⟩:∃W6,W6=wc:=⟨_,rfl⟩
     subst uV;have f9:=zHi (aY:Below w5.heap.size w5 W6);have dV:=aY.size;obtain⟨ee,ur,aK⟩:=yH3 (fun(w':World) (h:Below W6.heap.size W6 w')=>g9.o w' (aY.trans (h.mono dV))) gM bY;clear aY gM bY;go_upto_region 12 with fail
     go_cut [13,14]from 99 to 106 (fun v13 v14 W=>∃c3 c4,v13=.pointer (some ⟨c3,0,none⟩)/\v14=.pointer (some ⟨c4,0,none⟩)/\W.heap[c3]?=some (.cells #[.int .i64 ie.num,.int .i64 ie.den] 54)/\W.heap[c4]?=some (.cells #[.int .i64 has.num,.int .i64 has.den] 54)/\Below W6.heap.size W6 W)
     case first=>
      apply zbE (n:=10) (E:=[]) (D:=[8,9]) (V:=vL [vIs (.slice AB b.length cb),vIs (.pointer (some ⟨w.heap.size+1,2,none⟩)),vIs (.string tn),vIs (.agg #[.int .i64 ie.num,.int .i64 ie.den]),vIs (.slice A9 a1.length c9),vIs (.pointer (some ⟨w.heap.size+1,2,none⟩)),vIs (.string tn),vIs (.agg #[.int .i64 has.num,.int .i64 has.den]),vNew W6.heap.size (.cells #[.int .i64 0,.int .i64 0] 54),vNew W6.heap.size (.cells #[.int .i64 0,.int .i64 0] 54)])
      case hm=>kernel_rfl
      case hht=>kernel_rfl
      case hDE=>decide
      case hQ=>intro d v c a w h;cases d<;>exact h
      case hmono=>exact zeR MbJ
      case hA=>intro f;simp[zcA,Act.put];rfl
      case hal=>
       exact Mw
      case heag=>trivial
      case hstep=>
       simp only[List.take_succ_cons,List.take_zero,zco,and_true];refine⟨?_,?_,?_,?_,?_,?_,?_,?_,?_,?_⟩
       ·exact Mbm
       ·exact Mbm
       ·exact Mbm
       ·intro f z h;have ha:=h ⟨0,.data⟩ MbF rfl;have hc:=h ⟨2,.data⟩ MbF rfl;simp only[vL,vIs,List.getD_cons_zero,List.getD_cons_succ]at ha hc;clear h;unfold zca;go_simp
        refine(rU.o _ (Below.trans (f9.o) ((zbH (zaI (Below.refl _ _)) z).mono (Below.size (f9.o))))).mono ?_;exact MT
       ·exact Mbm
       ·exact Mbm
       ·exact Mbm
       ·intro f z h;have ha:=h ⟨4,.data⟩ MbF rfl;have hc:=h ⟨6,.data⟩ MbF rfl;simp only[vL,vIs,List.getD_cons_zero,List.getD_cons_succ]at ha hc;clear h;unfold zca;go_simp
        refine(ni.o _ (Below.trans (f9.o) ((zbH (zaI (Below.refl _ _)) z).mono (Below.size (f9.o))))).mono ?_;exact MT
       ·exact Mbs
       ·exact Mbs
      case hend=>
       intro f z h hn;have e3:f 3=.agg #[.int .i64 ie.num,.int .i64 ie.den]:=h 3 MbD;have e7:f 7=.agg #[.int .i64 has.num,.int .i64 has.den]:=h 7 MbD;obtain⟨k1,e8,bn,cM⟩:=h 8 MbD;obtain⟨k2,e9,bp,eR⟩:=h 9 MbD;have ag:=hn 8 9 MbD MbD rfl rfl MbD;rw[e8,e9]at ag;have hk:k1≠k2:=fun e=>ag (by rw[e])
       simp only[List.drop_succ_cons,List.drop_zero];rw[e3,e7,e8,e9];have gC:=zHi (show Below W6.heap.size W6 (W6.drew.ext z) from zbH (zaI (Below.refl _ _)) z);clear h hn ag e3 e7 e8 e9;generalize W6.drew.ext z=V at*;obtain⟨t1,t2⟩:=zhE (x:=.int .i64 ie.num) (y:=.int .i64 ie.den) (x':=.int .i64 has.num) (y':=.int .i64 has.den) cM eR hk;have aM:=zHi (zaU (zaU (zaU (zaU gC.o (p:=⟨k1,0,none⟩) bn (.int .i64 ie.num)) (p:=⟨k1,1,none⟩) bn (.int .i64 ie.den)) (p:=⟨k2,0,none⟩) bp (.int .i64 has.num)) (p:=⟨k2,1,none⟩) bp (.int .i64 has.den));exact Mv
     case rest=>
      obtain⟨c3,c4,rfl,rfl,il,gq,aW⟩:=hcut;obtain⟨W7,BN⟩:∃W7,W7=wc:=⟨_,rfl⟩
      subst BN;have dW:=aW.size;have kV:=zHi (f9.o.trans (aW.mono dV));obtain⟨p0,p1⟩:=zdX ((aW.block _ (zad ur.o)).trans ur.o);obtain⟨q0,q1⟩:=zdX ((aW.block _ (zad aK.o)).trans aK.o);obtain⟨r0,r1⟩:=zdX il;obtain⟨s0,s1⟩:=zdX gq;obtain⟨x0,x1,x2,x3,x4,x5,x6,x7⟩:=ee.o W7 aW;have l1:=zb2 p0;have l2:=zb2 q0;have l3:=zb2 r0;have l4:=zb2 s0;have lx:=zb2 x2;have xk:=zHi (fun(w':World) (h:Below W7.heap.size W7 w')=>ee.o w' (aW.trans (h.mono dW)));clear aW il gq ur aK fY fg rU ni;go_upto_region 13 with fail
      (refine zaA MbE MbE ?_
       repeat(first|go_big_quiet_skip|(go_big_quiet_want;go_big_quiet_op;first|go_big_quiet_on|(apply Exists.intro;refine⟨fun _=>?_,?_⟩;(first|(go_at_call 19;exact quietx (lJ.o _ _ t MbT MbT MbT _))|(go_at_call 20;exact quietx (M3.o _)));go_big_quiet_on)))
       refine wpQuiet_nil ?_
       rintro _ ⟨zq,rfl⟩)
      generalize hW8:World.ext _ zq=W8 at*;have jz:Below W7.heap.size W7 W8:=by rw[<-hW8];exact Bw
      obtain⟨oe,um⟩:=yH2 (kV.o.trans (jz.mono kV.o.size)) (fun(w':World) (h:Below W8.heap.size W8 w')=>xk.o w' (jz.trans (h.mono jz.size)));clear hW8 jz p0 p1 q0 q1 r0 r1 s0 s1 x0 x1 x2 x3 x4 x5 x6 x7 l1 l2 l3 l4 lx xk ee g9 k1 k2 k3 k4 e1 e2 eZ M3 kV f9;go_upto_block 0 with fail
      go_wp2_with fail
      go_loopw [15,16] (fun i _ wr=>∃j:Nat,j<=b.length/\i=.int .i64 j/\Below W8.heap.size W8 wr) (fun i _ _=>b.length-(intOf i).toNat)
      case atStart=>exact⟨0,Nat.zero_le _,rfl,Below.refl _ _⟩
      case round=>
       obtain⟨j,hj,rfl,gK⟩:=hrel;have d9:=zHi gK;have br:=gK.size;have kW:=zHi (oe.o.trans (gK.mono oe.o.size));by_cases aa:j<b.length
       ·obtain⟨bb,off,hA,dG,ah⟩:=(gZ.o wr kW.o).at aa;obtain⟨x0,x1,x2,x3,x4,x5,x6,x7⟩:=um.o wr gK;have lx:=zb2 x2;have i0:wr.cell? ⟨bb,off+j*3,none⟩=some (.string b[j].1):=ah 0 _ rfl;have i1:wr.cell? ⟨bb,off+j*3+1,none⟩=some (.int .i64 b[j].2.num):=ah 1 _ rfl;have i2:wr.cell? ⟨bb,off+j*3+2,none⟩=some (.int .i64 b[j].2.den):=ah 2 _ rfl;have fV:=zed zN.o (List.getElem_mem aa);have mF:(j:Int)<(b.length:Int):=MbC;have sS:(0:Int)<=(j:Int):=MbC;have aq:=zHi aa;generalize b[j]=x at*;obtain⟨xn,xq⟩:=x;simp only at i0 i1 i2 fV;have ul:=zHi fV;subst hA;clear ah gK aa fV;cases eG:zag xn frm
        ·have iX:(xn.toList==frm.toList)=false:=eG;have vq:(xn.toList != frm.toList)=true:=by simp[bne,iX]
         cases bk:zag xn tn
         ·have kx:(xn.toList==tn.toList)=false:=bk;have vr:(xn.toList != tn.toList)=true:=by simp[bne,kx]
          have As:Hid (∀W,Below w5.heap.size w5 W->Calls Tryz.prog 18 #[.slice A9 a1.length c9,.string xn] W (Ret W (.agg #[.int .i64 xq.num,.int .i64 xq.den]))):=zHi (fun W h=>by
           have:=jV.o W h xn;rw[AE.o xn (zb5.1 eG) (zb5.1 bk),ul.o]at this
           exact this)
          clear eG bk;go_upto_region 19 with fail
          (refine zaA MbE MbE ?_
           repeat(first|go_big_quiet_skip|(go_big_quiet_want;go_big_quiet_op;first|go_big_quiet_on|(apply Exists.intro;refine⟨fun _=>?_,?_⟩;(go_at_call 18;exact quietx (As.o _ (by have:=kW.o;exact Bw)));go_big_quiet_on)))
           refine wpQuiet_nil ?_
           rintro _ ⟨zq,rfl⟩)
          go_wp2_with fail
          go_roundw
          case rel=>exact⟨j+1,by have:=aq.o;omega,by go_num,by have:=d9.o;exact Bw⟩
          case measure=>have:=aq.o;simp only[intOf];omega
         ·have kx:(xn.toList==tn.toList)=true:=bk;have vr:(xn.toList != tn.toList)=false:=by simp[bne,kx]
          clear eG bk;exact Mu
        ·have iX:(xn.toList==frm.toList)=true:=eG;have vq:(xn.toList != frm.toList)=false:=by simp[bne,iX]
         clear eG;exact Mu
       ·have mF:¬(j:Int)<(b.length:Int):=MbC;clear gK aa;go_wp2_with fail
        go_meet
        exact cA.o.trans (kW.o.mono dU)
   case rest=>
    obtain⟨W5,mg⟩:∃W5,W5=wc:=⟨_,rfl⟩
    subst mg;obtain⟨g9,gZ,cA⟩:=yH3 (fun(w':World) (h:Below W5.heap.size W5 w')=>h9.o w' (hcut.trans (h.mono hcut.size))) (fun(w':World) (h:Below W5.heap.size W5 w')=>jr.o w' (hcut.trans (h.mono hcut.size))) (ji.o.trans (hcut.mono tk));have dU:=cA.o.size;clear hcut h9 jr ji tk HD oD oJ;go_upto_region 21 with fail
    go_cut [17,8]from 165 to 177 (fun v17 v8 W=>YoCut W5 ls ds d2 F2 v17 v8 W)
    case first=>
     apply zbE (n:=14) (E:=[12]) (D:=[]) (V:=vL [vIs (.agg #[.slice LA n nc,.slice DA m mc]),vCopy ls ds,vIs (.pointer (some ⟨w.heap.size+1,3,none⟩)),vIs (.int .i64 dy),vIs (.pointer (some ⟨w.heap.size+1,0,none⟩)),vIs (.string pl),vIs (.pointer (some ⟨w.heap.size+1,1,none⟩)),vIs (.string frm),vIs (.agg #[.int .i64 2,.int .i64 dy,.string pl,.string frm,.slice none 0 0,.int .i64 0,.int .i64 0]),vNext ls ds d2 F2,vNext ls ds d2 F2,vNx1 ls ds d2 F2,vIs (.int .i64 F2),vNew W5.heap.size (.cells #[.slice none 0 0,.slice none 0 0] 25)])
     case hm=>kernel_rfl
     case hht=>kernel_rfl
     case hDE=>decide
     case hQ=>intro d v c a w h;cases d<;>exact h
     case hmono=>exact zeR MbJ
     case hA=>intro f;simp[zcA,Act.put];rfl
     case hal=>trivial
     case hstep=>
      simp only[List.take_succ_cons,List.take_zero,zco,and_true];refine⟨?_,?_,?_,?_,?_,?_,?_,?_,?_,?_,?_,?_,?_,?_⟩
      ·exact Mbf
      ·intro f z h;have h0:f 0=.agg #[.slice LA n nc,.slice DA m mc]:=h ⟨0,.data⟩ MbF rfl;clear h;unfold zca;go_simp
       refine(fh.o _ (cA.o.trans ((zbH (zaI (Below.refl _ _)) z).mono dU))).mono ?_;exact MR
      ·exact Mbf
      ·exact Mbf
      ·exact Mbf
      ·exact Mbf
      ·exact Mbf
      ·exact Mbf
      ·intro f z h;have h3:f 3=.int .i64 dy:=h ⟨3,.data⟩ MbF rfl;have h5:f 5=.string pl:=h ⟨5,.data⟩ MbF rfl;have h7:f 7=.string frm:=h ⟨7,.data⟩ MbF rfl;exact ML
      ·intro f z h;obtain⟨A1,n1,B1,n2,h1,hr⟩:=h ⟨1,.data⟩ MbF rfl;have h8:f 8=.agg #[.int .i64 2,.int .i64 dy,.string pl,.string frm,.slice none 0 0,.int .i64 0,.int .i64 0]:=h ⟨8,.data⟩ MbF rfl;clear h;unfold zca;go_simp
       refine(jn.o A1 n1 B1 n2 _ (cA.o.trans ((zbH (zaI (Below.refl _ _)) z).mono dU)) hr).mono ?_;exact MaA
      ·intro f z h;have h6:=h ⟨9,.data⟩ MbF rfl;exact MaC
      ·intro f z h;obtain⟨P,p,q,R,r,s,pg,hn⟩:=h ⟨10,.data⟩ MbF rfl;exact MaS
      ·intro f z h;obtain⟨P,p,q,R,r,s,pg,hn⟩:=h ⟨10,.data⟩ MbF rfl;exact ML
      ·intro f z h;clear h;have hsz:=(zbH (zaI (Below.refl W5.heap.size W5)) z).size;exact Ml
     case heag=>
      simp only[zcG,and_true];intro o ho f z h;obtain rfl:=Option.some.inj ho;obtain⟨P,p,q,R,r,s,pg,hn⟩:=h ⟨10,.data⟩ MbF rfl;exact⟨.int .i64 F2,rfl,fun W=>by go_simp⟩
     case hend=>
      intro f z h _;obtain⟨P,p,q,R,r,s,e1,hn⟩:=h 11 MbD;have e2:f 12=.int .i64 F2:=h 12 MbD;obtain⟨gb,e3,bI,ky⟩:=h 13 MbD;simp only[List.drop_succ_cons,List.drop_zero];rw[e1,e2,e3];have gC:=zHi (show Below W5.heap.size W5 (W5.drew.ext z) from zbH (zaI (Below.refl _ _)) z);clear h e1 e2 e3;generalize W5.drew.ext z=V at*;exact MY
    case rest=>
     obtain⟨au,gb,rfl,rfl,bI,hd⟩:=hcut;obtain⟨W6,uV⟩:∃W6,W6=wc:=⟨_,rfl⟩
     subst uV;have f9:=zHi (cA.o.trans (au.mono dU));have dV:=f9.o.size;obtain⟨ee,pe,HD⟩:=yH3 (fun(w':World) (h:Below W6.heap.size W6 w')=>g9.o w' (au.trans (h.mono au.size))) (fun(w':World) (h:Below W6.heap.size W6 w')=>gZ.o w' (au.trans (h.mono au.size))) hd;clear g9 gZ cA dU au bI hd jn fh;by_cases hF:F2=0;rotate_left 1
     ·have B9:(F2 != 0)=true:=by simpa using hF
      clear hF;go_wp2_with fail
      go_ret
      exact Ret.of rfl f9.o
     obtain⟨h,_⟩|⟨_,RA,ra,RB,rb,g,rj⟩:=HD.o
     ·exact absurd hF h
     obtain⟨B7,mM,u1,u2,u3⟩:=oE.o hF;subst hF B7;have p8:=zHi (fun(w':World) (h:Below W6.heap.size W6 w')=>(rj.keep h:RightsIn w' ls (ds++[d2]) RA ls.length ra RB (ds.length+1) rb));obtain⟨g0,g1⟩:=zdX g;have lg:=zad g;obtain⟨x0,x1,x2,x3,x4,x5,x6,x7⟩:=ee.o W6 (Below.refl _ _);have lx:=zb2 x2;clear g rj
     go_upto_region 25 with(
      go_at_call 13
      go_must(refine(rX.o RA ra RB rb _ f9.o (p8.o _ (Below.refl _ _))).mono ?_)
      rintro e w7 ⟨aW,⟨hx,_⟩|⟨_,A8,c8,rfl,_,wa⟩⟩
      ·exact absurd rfl hx)
     clear g0 g1 lg x0 x1 x2 x3 x4 x5 x6 x7 lx p8 rX HD;have ve:a2.length<=1000000000:=mM.parts.2.2;have dW:=aW.size;have cu:=zHi (f9.o.trans (aW.mono dV));have uh:=zHi (fun(w':World) (h:Below w7.heap.size w7 w')=>(wa.keep h:Sl w' 3 zaa A8 a2));have ui:=zHi (fun(w':World) (h:Below w7.heap.size w7 w')=>pe.o w' (aW.trans (h.mono dW)));have uj:=zHi (fun(w':World) (h:Below w7.heap.size w7 w')=>ee.o w' (aW.trans (h.mono dW)));have nf:=zHi (fun W (h:Below w7.heap.size w7 W) nm=>zdp b nm AB cb W bu (ui.o W h));have HC:=zHi (fun W (h:Below w7.heap.size w7 W)=>zdp a2 frm A8 c8 W ve (uh.o W h));rw[u1]at HC;have Cd:=zir 0 1;have fW:IntKind.i64.wrap ((b.length:Int)-1)=(a2.length:Int):=by
      rw[IntKind.wrap_i64];omega
     obtain⟨jp,xo⟩:=yH2 mM u3;have e0:za9 0=.agg #[.int .i64 0,.int .i64 1]:=rfl;rw[e0]at HC;obtain⟨x0,x1,x2,x3,x4,x5,x6,x7⟩:=uj.o w7 (Below.refl _ _);have lx:=zb2 x2;clear aW wa mM u1 u3 ee pe oE e0;go_upto_if 206 with(go_at_call 18;go_must(refine(HC.o _ (Below.refl _ _)).mono ?_);rintro e wq ⟨rfl,za,rfl⟩)
     have jz:Below w7.heap.size w7 (w7.ext za):=za5 w7 za;generalize w7.ext za=W8 at*;have og:=zHi jz;clear jz x0 x1 x2 x3 x4 x5 x6 x7 lx HC u2 fW;go_upto_block 2 with fail
     go_wp2_with fail
     go_loopw [20,21,22] (fun v _ _ wr=>∃y:Nat,1<=y/\y<=a2.length+1/\v=.int .i64 y/\Below W8.heap.size W8 wr) (fun v _ _ _=>a2.length+2-(intOf v).toNat)
     case atStart=>exact⟨1,by omega,by omega,rfl,Below.refl _ _⟩
     case round=>
      obtain⟨y,wy,zn,rfl,gK⟩:=hrel;have d9:=zHi gK;have br:=gK.size;have fe:=zHi (og.o.trans (gK.mono og.o.size));by_cases aa:y<a2.length
      ·have uv:0<a2.length:=MbC;obtain⟨bb,off,hA,dG,ah⟩:=(uh.o wr fe.o).at (k:=0) uv;obtain⟨bb2,off2,pi,_,jA⟩:=(uh.o wr fe.o).at (k:=y) aa;obtain⟨rfl,rfl⟩:bb=bb2/\off=off2:=by rw[hA]at pi;simpa using pi
       have i0:wr.cell? ⟨bb,off,none⟩=some (.string a2[0].1):=McA;have i1:wr.cell? ⟨bb,off+1,none⟩=some (.int .i64 a2[0].2.num):=by have:=ah 1 _ rfl;simpa using this
       have i2:wr.cell? ⟨bb,off+2,none⟩=some (.int .i64 a2[0].2.den):=by have:=ah 2 _ rfl;simpa using this
       have j0:wr.cell? ⟨bb,off+y*3,none⟩=some (.string a2[y].1):=jA 0 _ rfl;have j1:wr.cell? ⟨bb,off+y*3+1,none⟩=some (.int .i64 a2[y].2.num):=jA 1 _ rfl;have j2:wr.cell? ⟨bb,off+y*3+2,none⟩=some (.int .i64 a2[y].2.den):=jA 2 _ rfl;obtain⟨v1,v2⟩:=xo.o _ (List.getElem_mem uv);obtain⟨v3,v4⟩:=xo.o _ (List.getElem_mem aa);have k1:=zds g7.o a2[0].1;have k2:=zds g7.o a2[y].1;have k3:zaD a2[0].2:=by
        have:=zds jp.o a2[0].1;rwa [zed jp.o.good (List.getElem_mem uv)]at this
       have k4:zaD a2[y].2:=by
        have:=zds jp.o a2[y].1;rwa [zed jp.o.good (List.getElem_mem aa)]at this
       obtain⟨fY,fg⟩:=yH2 (fun W (h:Below w7.heap.size w7 W)=>nf.o W h a2[0].1) (fun W (h:Below w7.heap.size w7 W)=>nf.o W h a2[y].1);generalize a2[0]=x0 at*;generalize a2[y]=xy at*;obtain⟨n0,r0⟩:=x0;obtain⟨ny,ry⟩:=xy;simp only at i0 i1 i2 j0 j1 j2 v1 v2 v3 v4 k1 k2 k3 k4 fY fg;obtain⟨sp,cf⟩:∃q,q=zab b n0:=⟨_,rfl⟩
       obtain⟨sq,eH⟩:∃q,q=zab b ny:=⟨_,rfl⟩
       rw[<-cf]at v1 v2 k1 fY;rw[<-eH]at v3 v4 k2 fg;obtain⟨t,ht⟩:∃t,t=sp*ry:=⟨_,rfl⟩
       have e1:sp*ry=t:=ht.symm;have e2:sq*r0=t:=by rw[ht,v2,v4,Rat.div_def,Rat.div_def];grind
       have eD:(sp.num==0)=false:=by simpa using(fun e=>v1 (by rw[<-Rat.num_divInt_den sp,e];simp):¬sp.num=0)
       unfold za9 at fY fg;have mF:(y:Int)<(a2.length:Int):=MbC;have rS:(0:Int)<=(y:Int):=MbC;have h0i:(0:Int)<(a2.length:Int):=MbC;have aq:=zHi aa;subst hA;have HI:=zHi (And.intro (And.intro i0 (And.intro i1 i2)) (And.intro j0 (And.intro j1 j2)));have wU:Hid (∀W,Below wr.heap.size wr W->(W.cell? ⟨bb,off,none⟩=some (.string n0)/\W.cell? ⟨bb,off+1,none⟩=some (.int .i64 r0.num)/\W.cell? ⟨bb,off+2,none⟩=some (.int .i64 r0.den))/\W.cell? ⟨bb,off+y*3,none⟩=some (.string ny)/\W.cell? ⟨bb,off+y*3+1,none⟩=some (.int .i64 ry.num)/\W.cell? ⟨bb,off+y*3+2,none⟩=some (.int .i64 ry.den)):=zHi (fun W h=>⟨⟨(za4 h dG).trans HI.o.1.1,(za4 h dG).trans HI.o.1.2.1,(za4 h dG).trans HI.o.1.2.2⟩,(za4 h dG).trans HI.o.2.1,(za4 h dG).trans HI.o.2.2.1,(za4 h dG).trans HI.o.2.2.2⟩);clear ah jA gK aa pi wy zn v1 v2 v3 v4 ht cf eH HI i0 i1 i2 j0 j1 j2;go_upto_region 30 with fail
       go_cut [21,22]from 213 to 225 (fun v21 v22 W=>∃c1 c2,v21=.pointer (some ⟨c1,0,none⟩)/\v22=.pointer (some ⟨c2,0,none⟩)/\W.heap[c1]?=some (.cells #[.int .i64 sp.num,.int .i64 sp.den] 54)/\W.heap[c2]?=some (.cells #[.int .i64 sq.num,.int .i64 sq.den] 54)/\Below wr.heap.size wr W)
       case first=>
        apply zbE (n:=15) (E:=[]) (D:=[13,14]) (V:=vL [vIs (.slice AB b.length cb),vIs (.slice (some ⟨bb,off,none⟩) a2.length c8),vIs (.pointer (some ⟨bb,off,none⟩)),vIs (.pointer (some ⟨bb,off,none⟩)),vIs (.string n0),vIs (.agg #[.int .i64 sp.num,.int .i64 sp.den]),vIs (.slice AB b.length cb),vIs (.slice (some ⟨bb,off,none⟩) a2.length c8),vIs (.int .i64 y),vIs (.pointer (some ⟨bb,off+y*3,none⟩)),vIs (.pointer (some ⟨bb,off+y*3,none⟩)),vIs (.string ny),vIs (.agg #[.int .i64 sq.num,.int .i64 sq.den]),vNew wr.heap.size (.cells #[.int .i64 0,.int .i64 0] 54),vNew wr.heap.size (.cells #[.int .i64 0,.int .i64 0] 54)])
        case hm=>kernel_rfl
        case hht=>kernel_rfl
        case hDE=>decide
        case hQ=>intro d v c a w h;cases d<;>exact h
        case hmono=>exact zeR MbJ
        case hA=>intro f;simp[zcA,Act.put];rfl
        case hal=>
         exact Mw
        case heag=>trivial
        case hstep=>
         simp only[List.take_succ_cons,List.take_zero,zco,and_true];refine⟨?_,?_,?_,?_,?_,?_,?_,?_,?_,?_,?_,?_,?_,?_,?_⟩
         ·exact Mbh
         ·exact Mbh
         ·exact Mbh
         ·exact Mbh
         ·exact Mbh
         ·intro f z h;have ha:=h ⟨0,.data⟩ MbF rfl;have hc:=h ⟨4,.data⟩ MbF rfl;simp only[vL,vIs,List.getD_cons_zero,List.getD_cons_succ]at ha hc;clear h;unfold zca;go_simp
          refine(fY.o _ (fe.o.trans ((zbH (zaI (Below.refl _ _)) z).mono fe.o.size))).mono ?_;exact MT
         ·exact Mbh
         ·exact Mbh
         ·exact Mbh
         ·exact Mbh
         ·exact Mbh
         ·exact Mbh
         ·intro f z h;have ha:=h ⟨6,.data⟩ MbF rfl;have hc:=h ⟨11,.data⟩ MbF rfl;simp only[vL,vIs,List.getD_cons_zero,List.getD_cons_succ]at ha hc;clear h;unfold zca;go_simp
          refine(fg.o _ (fe.o.trans ((zbH (zaI (Below.refl _ _)) z).mono fe.o.size))).mono ?_;exact MT
         ·exact Mbr
         ·exact Mbr
        case hend=>
         intro f z h hn;have e3:f 5=.agg #[.int .i64 sp.num,.int .i64 sp.den]:=h 5 MbD;have e7:f 12=.agg #[.int .i64 sq.num,.int .i64 sq.den]:=h 12 MbD;obtain⟨k1,e8,bn,cM⟩:=h 13 MbD;obtain⟨k2,e9,bp,eR⟩:=h 14 MbD;have ag:=hn 13 14 MbD MbD rfl rfl MbD;rw[e8,e9]at ag;have hk:k1≠k2:=fun e=>ag (by rw[e])
         simp only[List.drop_succ_cons,List.drop_zero];rw[e3,e7,e8,e9];have gC:=zHi (show Below wr.heap.size wr (wr.drew.ext z) from zbH (zaI (Below.refl _ _)) z);clear h hn ag e3 e7 e8 e9;generalize wr.drew.ext z=V at*;obtain⟨t1,t2⟩:=zhE (x:=.int .i64 sp.num) (y:=.int .i64 sp.den) (x':=.int .i64 sq.num) (y':=.int .i64 sq.den) cM eR hk;have aM:=zHi (zaU (zaU (zaU (zaU gC.o (p:=⟨k1,0,none⟩) bn (.int .i64 sp.num)) (p:=⟨k1,1,none⟩) bn (.int .i64 sp.den)) (p:=⟨k2,0,none⟩) bp (.int .i64 sq.num)) (p:=⟨k2,1,none⟩) bp (.int .i64 sq.den));exact Mv
       case rest=>
        obtain⟨c1,c2,rfl,rfl,gM,bY,cj⟩:=hcut;obtain⟨p0,p1⟩:=zdX gM;obtain⟨q0,q1⟩:=zdX bY;obtain⟨⟨i0,i1,i2⟩,j0,j1,j2⟩:=wU.o wc cj;have l1:=zb2 p0;have l2:=zb2 q0;have l3:=zb2 i0;have gU:=zHi (d9.o.trans (cj.mono br));clear gM bY cj;go_upto_region 31 with fail
        (refine zaA MbE MbE ?_
         repeat(first|go_big_quiet_skip|(go_big_quiet_want;go_big_quiet_op;first|go_big_quiet_on|(apply Exists.intro;refine⟨fun _=>?_,?_⟩;(go_at_call 20;exact quietx (ly.o _ _ t MbT MbT MbT _));go_big_quiet_on)))
         refine wpQuiet_nil ?_
         rintro _ ⟨zq,rfl⟩)
        go_wp2_with fail
        go_roundw
        case rel=>exact⟨y+1,by omega,by have:=aq.o;omega,by go_num,by have:=gU.o;exact Bw⟩
        case measure=>have:=aq.o;simp only[intOf];omega
      ·have mF:¬(y:Int)<(a2.length:Int):=MbC;have gU:=zHi (cu.o.trans (fe.o.mono cu.o.size));clear gK aa wy zn;go_wp2_with fail
       go_ret
       exact Ret.of rfl gU.o
