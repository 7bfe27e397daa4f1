/- Walks of the reference's dates: AddMonths, after. -/
import Derived.Test.YtckkbkdcdkhglaaGreatDoorUF
import Derived.Test.YtckkbkdcdkhglaaGreatDoorTie
set_option linter.unusedSimpArgs false
set_option linter.unusedVariables false
set_option maxRecDepth 100000
set_option maxHeartbeats 4000000
namespace Go.Proofs.YtckkbkdcdkhglaaGreatDoor
open Go.RowKit Go.Shelf
attribute [local go_sem] World.cell?_alloc_mark zag za5 zaq za8 zaw zax zay zaz za0 za1 za2
attribute [local go_sem] zap zad
theorem znd (l:List Rec) (A:Option Addr) (c:Nat) (w:World) (hc:l.length<=c) (hl:l.length<=1000) (h0: ∀x∈l,0<=x.kind/\x.kind<=4) (h2: ∀x∈l,x.kind≠2)
 (h3:(∀x∈l,x.kind≠3)\/ ∃nm ot pl dy tl nu de q,l=[⟨3,nm,ot,pl,dy,tl,nu,de⟩]/\Int.tdiv 27720 de=q/\ ¬de=0/\(0<=q/\q<=27720)/\(0<=nu*q/\nu*q<=27720)) (hS:Sl w 8 Rec.cells A l):
 Calls Tryz.prog 53 #[.slice A l.length c] w (Ret w (.bool (zkh l))):=by
 have h:=zjo l A c false false w hc hl h0 hS (fun W hB=>zmW l A c W hc hl h2 (hS.keep hB)) (fun W hB=>by
  rcases h3 with h3|⟨nm,ot,pl,dy,tl,nu,de,q,rfl,e1,e2,e3,e4⟩
  ·exact zlO l A c W hc hl h3 (hS.keep hB)
  ·exact zlR nm ot pl dy tl nu de q A c W hc e1 e2 e3 e4 (hS.keep hB))
 rw[Bool.or_false,Bool.or_false]at h;exact h
theorem lens5:recLens zfa:=by
 intro x hx;simp only[zfa,List.mem_cons,List.not_mem_nil,or_false]at hx;rcases hx with rfl|rfl|rfl|rfl|rfl<;>exact⟨by decide,by decide,by decide⟩
def Con5 (w:World) (xs:List Nat) (b:Bool):Prop:= ∀W,Below w.heap.size w W-> ∀A c,(ofP zfa xs).length<=c->Sl W 8 Rec.cells A (ofP zfa xs)->Calls Tryz.prog 53 #[.slice A (ofP zfa xs).length c] W (Ret W (.bool b))
theorem con5_low {w:World} {k:Nat} (h:k<6):Con5 w (zcT 5 k) (k==5):=fun W hB A c hc hS=>by
 have aY: ∀k<6,(ofP zfa (zcT 5 k)).all (fun x=>decide (0<=x.kind)&&decide (x.kind<=4)&&x.kind != 2&&x.kind != 3)=true/\zkh (ofP zfa (zcT 5 k))=(k==5)/\(ofP zfa (zcT 5 k)).length<=1000:=Mei;obtain⟨e1,e2,e3⟩:=aY k h;rw[List.all_eq_true]at e1;have h:=znd (ofP zfa (zcT 5 k)) A c W hc e3 (fun x hx=>by have:=e1 x hx;simp at this;omega) (fun x hx=>by have:=e1 x hx;simp at this;omega) (.inl fun x hx=>by have:=e1 x hx;simp at this;omega) hS;rw[e2]at h;exact h
theorem con5_one {w:World} {xs:List Nat} (h:xs=[3]\/xs=[4]):Con5 w xs false:=fun W hB A c hc hS=>by
 rcases h with rfl|rfl
 ·exact znd (ofP zfa [3]) A c W hc Mcn Mcn Mcn (.inr ⟨_,_,_,_,_,_,_,13860,rfl,by decide,by decide,by decide,by decide⟩) hS
 ·exact znd (ofP zfa [4]) A c W hc Mcn Mcn Mcn (.inr ⟨_,_,_,_,_,_,_,9240,rfl,by decide,by decide,by decide,by decide⟩) hS
theorem bits5: ∀k,k<32->6<=k->2<(zcT 5 k).length\/((zcT 5 k).length=2/\0<lexC (zcT 5 k) [0,2])\/zcT 5 k=[3]\/zcT 5 k=[4]:=by decide+kernel
theorem bits5_in: ∀k,k<32->((zcT 5 k).length<=5/\ ∀i∈zcT 5 k,i<5):=by decide+kernel
theorem neqA (W:World):(binOp .neq 54 (.slice none 0 0) (.slice none 0 0)).run Tryz.prog W= .ok (.bool false) W:=by kernel_rfl
theorem neqB (a:Addr) (n c:Nat) (W:World):(binOp .neq 54 (.slice (some a) n c) (.slice none 0 0)).run Tryz.prog W= .ok (.bool true) W:=by kernel_rfl
theorem eqlB (a:Addr) (n c:Nat) (W:World):(binOp .eql 54 (.slice (some a) n c) (.slice none 0 0)).run Tryz.prog W= .ok (.bool false) W:=by kernel_rfl
def zhj (w:World) (e:Ending) (w':World):Prop:= ∃A c,e= .returned (.tuple #[.slice A 2 c, .int .i64 0])/\2<=c/\Sl w' 1 intC A [0,2]/\Below w.heap.size w w'
def Best5 (W:World) (base k:Nat) (v:Value):Prop:=(k<=5/\v= .slice none 0 0)\/(6<=k/\OwnS W base 3 1 intC v [0,2])
theorem Best5.keep {W W':World} {base k n:Nat} {v:Value} (h:Best5 W base k v) (hB:Below n W W') (hn:W.heap.size<=n:=by first|exact Nat.le_refl _|omega):Best5 W' base k v:=h.imp id fun⟨a,b⟩=>⟨a,b.keep hB hn⟩
theorem zoT (A:Option Addr) (c:Nat) (w:World) (hc:5<=c) (hT:TzTab w) (hS:Sl w 8 Rec.cells A zfa):Calls Tryz.prog 21 #[.slice A 5 c] w (zhj w):=by
 have HS:=zHi hS;have fA:=zHi (fun W (hB:Below w.heap.size w W)=>zh2 zfa A 5 c W rfl hc lens5 (hS.keep hB));rw[recs5_ok]at fA;have HT:=zHi hT;clear hS hT;unfold zhj;go_enter Tryz.func21,Tryz.ntmps21
 go_upto_region 8 with(go_at_call 50;go_must(refine(fA.o _ Bw).mono ?_);rintro e wq ⟨rfl,z,rfl⟩)
 go_loopw [5,19] (fun v i wr=> ∃k:Nat,k<=32/\i= .int .i64 k/\Best5 wr w.heap.size k v/\Below w.heap.size w wr) (fun _ i _=>32-(intOf i).toNat)
 case atStart=>exact⟨0,Nat.zero_le _,rfl, .inl ⟨by omega,rfl⟩,Bw⟩
 case round=>
  obtain⟨k,hk,rfl,mq,hB⟩:=hrel;have HB:=zHi hB;have aK:=hB.size;by_cases aa:k<32
  ·have eT:=zHi (zlN 5 k wr Mcl aa (HT.o.keep hB));obtain⟨bK,aN⟩:=bits5_in k aa;have aj:=bits5 k aa;have dN:=fun(W:World) (h:k<6)=>con5_low (w:=W) h
   have aq:=zHi aa;have ar:(k:Int)<32:=Mcl;have mB:k=5->zcT 5 k=[0,2]:=fun e=>by rw[e];decide+kernel
   have q9:=zHi mq;obtain⟨xs,bw⟩: ∃xs,zcT 5 k=xs:=⟨_,rfl⟩
   rw[bw]at eT aN bK aj dN mB;have bE:=zHi aN;have AN:=zHi dN;have aH:=zHi aj;have sR:=zHi mB;clear hB aa mq bw aN dN aj mB;go_upto_region 11 with(go_at_call 51;go_must(refine eT.o.mono ?_);rintro e wq ⟨vx,rfl,ie,DC⟩)
   obtain⟨XA,xc,rfl,Cg,uf⟩:=ie.sl zg1;have Ix:=zHi (ie.base_le aK);have ax:=zHi (HB.o.trans (DC.mono aK));have Am:=zHi (q9.o.keep DC);have il:=zHi (fun W (hW:Below wq.heap.size wq W)=>some_any zfa xs A c XA xc W hc uf Mcl bE.o (HS.o.keep (ax.o.trans (hW.mono ax.o.size))) (Cg.keep hW));have bZ:=zHi Cg;rw[show zfa.length=5 from rfl]at il;clear ie Cg DC eT;rcases Am.o with⟨nH,hv⟩|⟨fM,ae⟩
   ·subst hv;have ia:=neqA;have uJ:=zHi nH;have lC:=zHi (AN.o wq Mcl);clear nH;by_cases hk:k=5
    ·subst hk;have hx:=sR.o rfl;subst hx
     go_wp2_with (first
      |(go_at_call 52;go_must(refine(jT.o _ Bw).mono ?_);rintro e wq5 ⟨rfl,rfl⟩)
      |(go_at_call 54;go_must(refine(il.o _ Bw).mono ?_);rintro e w7 ⟨v7,rfl,pN,bG⟩;obtain⟨A7,c7,rfl,kw,wA⟩:=pN.sl zg2;have bR:=zHi bG;have ve:=zHi kw;clear pN bG kw)
      |(go_at_call 53;go_must(refine(lC.o _ bR.o A7 c7 wA ve.o).mono ?_);rintro e wq8 ⟨rfl,z8,rfl⟩))
     go_round
     case rel=>exact⟨6,by omega,by go_num, .inr ⟨Nat.le_refl _,(Ix.o.keep bR.o).keep (zam w7 z8)⟩,ax.o.trans ((bR.o.trans ((zam w7 z8).mono bR.o.size)).mono (ax.o.size))⟩
     case measure=>simp only[intOf];omega
    ·have mH:(k==5)=false:=by simpa using hk
     rw[mH]at lC;have Hq:=zHi (show k+1<=5 by have:=uJ.o;omega);clear hk mH;generalize jy:xs.length=nx at*
     go_wp2_with (first
      |(go_at_call 52;go_must(refine(jT.o _ Bw).mono ?_);rintro e wq5 ⟨rfl,rfl⟩)
      |(go_at_call 54;go_must(refine(il.o _ Bw).mono ?_);rintro e w7 ⟨v7,rfl,pN,bG⟩;obtain⟨A7,c7,rfl,kw,wA⟩:=pN.sl zg2;have bR:=zHi bG;have ve:=zHi kw;clear pN bG kw)
      |(go_at_call 53;go_must(refine(lC.o _ bR.o A7 c7 wA ve.o).mono ?_);rintro e wq8 ⟨rfl,z8,rfl⟩))
     go_round
     case rel=>exact⟨k+1,aq.o,by go_num, .inl ⟨Hq.o,rfl⟩,ax.o.trans ((bR.o.trans ((zam w7 z8).mono bR.o.size)).mono (ax.o.size))⟩
     case measure=>have:=aq.o;simp only[intOf];omega
   ·obtain⟨SA,sc,rfl,C7,Gf⟩:=ae.sl zg1;have eH:=zHi ae;have HK6:=zHi fM;have uK:=zHi (show 6<=k+1 by omega);cases SA with
    |none=>
     exfalso
     obtain⟨b,off,h,_⟩:=C7 Mco;cases h
    |some sa=>
     have ia:=neqB sa 2 sc;have jT:=zHi (fun W (hW:Below wq.heap.size wq W)=>zmV xs [0,2] XA (some sa) xc sc W uf Gf Mcl (bZ.o.keep hW) (C7.keep hW));rw[show([0,2]:List Nat).length=2 from rfl]at jT;have hb:=aH.o fM;clear C7 ae fM;rcases hb with h1|⟨h1,h2⟩|h1
     ·have bO:(2:Int)<(xs.length:Int):=Mcl;clear h1;generalize jy:xs.length=nx at*;go_wp2_with fail
      exact MaZ
     ·have hC:(0:Int)<lexC xs [0,2]:=h2;generalize lexC xs [0,2]=C at*;rw[h1]at jT uf;have eR:xs.length=2:=h1;clear h1 h2;go_wp2_with (go_at_call 52;go_must(refine(jT.o _ Bw).mono ?_);rintro e wq5 ⟨rfl,rfl⟩)
      exact MaZ
     ·have lC:=zHi (con5_one (w:=wq) h1);have jQ:xs.length=1:=by rcases h1 with rfl|rfl<;>rfl
      rw[jQ]at il;clear h1
      go_wp2_with (first
       |(go_at_call 52;go_must(refine(jT.o _ Bw).mono ?_);rintro e wq5 ⟨rfl,rfl⟩)
       |(go_at_call 54;go_must(refine(il.o _ Bw).mono ?_);rintro e w7 ⟨v7,rfl,pN,bG⟩;obtain⟨A7,c7,rfl,kw,wA⟩:=pN.sl zg2;have bR:=zHi bG;have ve:=zHi kw;clear pN bG kw)
       |(go_at_call 53;go_must(refine(lC.o _ bR.o A7 c7 wA ve.o).mono ?_);rintro e wq8 ⟨rfl,z8,rfl⟩))
      go_round
      case rel=>exact⟨k+1,aq.o,by go_num, .inr ⟨uK.o,(eH.o.keep bR.o).keep (zam w7 z8)⟩,ax.o.trans ((bR.o.trans ((zam w7 z8).mono bR.o.size)).mono (ax.o.size))⟩
      case measure=>have:=aq.o;simp only[intOf];omega
  ·have ar: ¬(k:Int)<32:=Mcl;have fM: ¬k<=5:=Mcl;rcases mq with⟨h1,_⟩|⟨_,ae⟩
   ·exact absurd h1 fM
   ·obtain⟨SA,sc,rfl,h3,h4⟩:=ae.sl zg1;have H3:=zHi h3;cases SA with
    |none=>
     exfalso
     obtain⟨b,off,h,_⟩:=h3 Mco;cases h
    |some sa=>
     have ia:=eqlB sa 2 sc;clear ae h3 hB aa fM;go_wp2_with fail
     go_ret2
     exact⟨some sa,sc,rfl,h4,H3.o,HB.o⟩
def famR:List RPart:=[⟨nBob,3,8⟩,⟨nCat,3,8⟩,⟨nDan,1,4⟩]
theorem fam_cells:zgk.map zaa=famR.map RPart.cells:=by kernel_rfl
theorem fam_holds:zcH fam5 nA1 200=zgk:=by kernel_rfl
theorem fam_err (names:List ByteArray) (day:Int) (hn:names.any (fun s=>!zaR s)=false) (hd:zbm day=true):zbL zcl zbE names day=0:=by
 unfold zbL;have h:(zdV zcl zbE 200000).2=(5,0):=by rw[zea,zgY 200000 Mcn]
 rw[h,hn,hd];rfl
theorem fam_bury:zf8 zcl zbE nA1 nAnn 300=(true,0):=by
 unfold zf8;rw[fam_err [nA1,nAnn] 300 Mcm Mcm,zgY 300 Mcn];have h:zaJ fam5 nA1 300=some 0:=Mcm;simp only[bne_self_eq_false,Bool.false_eq_true,if_false];rw[h];have hg:fam5.graves.getD 0 ze0=⟨nA1,1,-1,zgk,[nAnn]⟩:=rfl;simp only[hg];have he:entP fam5 ⟨nA1,1,-1,zgk,[nAnn]⟩ nAnn=true:=by
  unfold entP;have:[nAnn].any (zfW fam5 1 nAnn)=true:=by
   rw[List.any_cons];unfold zfW;rw[show zae nAnn nAnn=true from zbW _];rfl
  rw[this,Bool.or_true]
 rw[he,Bool.or_true]
theorem zob: ∀d∈zbE,zdv d:=by
 intro d hd;simp only[zbE,List.mem_cons,List.not_mem_nil,or_false]at hd;rcases hd with rfl|rfl|rfl|rfl|rfl<;>exact⟨by decide,by decide,by simp[famD];try decide,by simp[famD]⟩
structure Laid5 (w:World):Prop where
 forms:FormsIn w
 lens:LensIn w
 tz:TzTab w
theorem Laid5.keep {w W:World} {n:Nat} (h:Laid5 w) (hB:Below n w W) (hn:w.heap.size<=n:=by first|exact Nat.le_refl _|omega):Laid5 W:=⟨h.forms.keep hB hn,h.lens.keep hB hn,h.tz.keep hB hn⟩
def HoldPost (w:World) (e:Ending) (w':World):Prop:= ∃A c,e= .returned (.tuple #[.slice A 3 c, .int .i64 0])/\3<=c/\Sl w' 3 RPart.cells A famR/\Below w.heap.size w w'
theorem zjt (LA DA:Option Addr) (w:World) (hR:RightsIn w zcl zbE LA 2 2 DA 5 5) (hL:Laid5 w):Calls Tryz.prog 7 #[.agg #[.slice LA 2 2, .slice DA 5 5], .string ⟨#[97,49]⟩, .int .i64 200] w (HoldPost w):=by
 refine(ziO zcl zbE nA1 200 LA 2 2 DA 5 5 w hR hL.forms hL.lens zob Mcn).mono ?_;rintro e w' ⟨hB,h⟩;rw[fam_err [nA1] 200 Mcm Mcm,zgY 200 Mcn]at h;rcases h with⟨h,_⟩|⟨_,A,c,rfl,hc,hS⟩
 ·exact absurd rfl h
 ·rw[show((fam5,5,(0:Int)):St×Nat×Int).1=fam5 from rfl,fam_holds]at hc hS⊢;exact⟨A,c,rfl,hc,sl_same hS fam_cells,hB⟩
theorem zne (LA DA:Option Addr) (w:World) (hR:RightsIn w zcl zbE LA 2 2 DA 5 5) (hL:Laid5 w):Calls Tryz.prog 20 #[.agg #[.slice LA 2 2, .slice DA 5 5], .string ⟨#[97,49]⟩, .string ⟨#[97,110,110]⟩, .int .i64 300] w (Ret w (.tuple #[.bool true, .int .i64 0])):=by
 have:=znc zcl zbE nA1 nAnn 300 LA 2 2 DA 5 5 w hR hL.forms hL.lens zob Mcn Mcn;rw[fam_bury]at this;exact this
theorem zmd (A:Option Addr) (w:World) (hS:Sl w 8 Rec.cells A zfa) (hL:Laid5 w):Calls Tryz.prog 21 #[.slice A 5 5] w (zhj w):=zoT A 5 w (Nat.le_refl _) hL.tz hS
theorem fam_same (A2:Option Addr) (c2:Nat) (cA:3<=c2) (P:Nat) (W:World) (h:Sl W 3 RPart.cells A2 famR) (hP:W.heap[P]?=some (.cells #[.string ⟨#[98,111,98]⟩, .int .i64 3, .int .i64 8, .string ⟨#[99,97,116]⟩, .int .i64 3, .int .i64 8, .string ⟨#[100,97,110]⟩, .int .i64 1, .int .i64 4] 63)):
 Calls Tryz.prog 14 #[.slice A2 3 c2, .slice (some ⟨P,0,none⟩) 3 3] W (Ret W (.bool true)):=
 zkP famR A2 (some ⟨P,0,none⟩) c2 3 _ h (zeb (fun _=>rfl) hP rfl) Mcn cA Mcn
theorem two_same (A5:Option Addr) (c5:Nat) (nC:2<=c5) (P:Nat) (W:World) (h:Sl W 1 intC A5 [0,2]) (hP:W.heap[P]?=some (.cells #[.int .i64 0, .int .i64 2] 3)):
 Calls Tryz.prog 23 #[.slice A5 2 c5, .slice (some ⟨P,0,none⟩) 2 2] W (Ret W (.bool true)):=
 zmc [0,2] A5 (some ⟨P,0,none⟩) c5 2 _ h (zeb (fun _=>rfl) hP rfl) Mcn nC Mcn
theorem zjW (w:World) (hL:Laid5 w):Calls Tryz.prog 5 #[] w (Ret w (.bool true)):=by
 have HL:=zHi hL;clear hL;go_enter Tryz.func5,Tryz.ntmps5
 go_upto_region 2 with(first
  |(go_at_call 19;go_must(refine(zjV _).mono ?_);rintro e w1 ⟨LA,DA,rfl,hr,hb⟩;have HR:=zHi hr;have HB:=zHi hb;clear hr hb)
  |(go_at_call 7;go_must(refine(zjt LA DA _ HR.o (HL.o.keep HB.o)).mono ?_);rintro e w2 ⟨A2,c2,rfl,cA,br,bF⟩;have jY:=zHi br;have aS:=zHi (HB.o.trans (bF.mono HB.o.size));clear br bF))
 clear HR HB
 go_upto_region 3 with(first
  |(go_at_call 19;go_must(refine(zjV _).mono ?_);rintro e w3 ⟨LA3,DA3,rfl,hr,hb⟩;have HR:=zHi hr;have aJ:=zHi hb;have HB:=zHi (aS.o.trans (hb.mono aS.o.size));clear hr hb)
  |(go_at_call 20;go_must(refine(zne LA3 DA3 _ HR.o (HL.o.keep HB.o)).mono ?_);rintro e w4 ⟨rfl,z4,rfl⟩))
 have jJ:=zHi ((jY.o.keep aJ.o).keep (zam w3 z4));have eE:=zHi (HB.o.trans ((zam w3 z4).mono HB.o.size));generalize w3.ext z4=W4 at*;clear HR HB jY aS aJ;have Gn:w.heap.size<=W4.heap.size:=eE.o.size
 go_upto_region 4 with(go_at_call 21
                       go_must(refine(zmd _ _ (zeb (fun _=>rfl) (zar _ _ _ rfl) rfl) ((HL.o.keep eE.o).keep (n:=W4.heap.size) Bw)).mono ?_)
                       rintro e w5 ⟨A5,c5,rfl,nC,jP,aj⟩)
 have je:=zHi (jJ.o.keep ((zac (Below.refl _ _) _ (Nat.le_refl _)).trans (aj.mono Mco)));have aC:=zHi (eE.o.trans (((zac (Below.refl _ _) _ (Nat.le_refl _)).trans (aj.mono Mco)).mono Gn));have DW:=zHi jP;clear jJ eE jP aj;have fK:=zHi (fun(W:World) (hW:Below w5.heap.size w5 W)=>fun(P:Nat) hP=>fam_same A2 c2 cA P W (je.o.keep hW) hP);have sY:=zHi (fun(W:World) (hW:Below w5.heap.size w5 W)=>fun(P:Nat) hP=>two_same A5 c5 nC P W (DW.o.keep hW) hP);clear je DW;have Gp:w.heap.size<=w5.heap.size:=aC.o.size;clear HL
 go_wp2_with (first
  |(go_at_call 22;go_must(refine(zmb _ _ _ _).mono ?_);rintro e wq ⟨rfl,zq,rfl⟩)
  |(go_at_call 14;go_must(refine(fK.o _ Bw _ (zar _ _ _ Mdh)).mono ?_);rintro e wq ⟨rfl,zq,rfl⟩)
  |(go_at_call 23;go_must(refine(sY.o _ Bw _ (zar _ _ _ Mdh)).mono ?_);rintro e wq ⟨rfl,zq,rfl⟩))
 go_ret
 exact Ret.of rfl (aC.o.trans (Below.mono (B:=w5.heap.size) Bw aC.o.size))
end Go.Proofs.YtckkbkdcdkhglaaGreatDoor
namespace Go.Proofs.YtckkbkdcdkhglaaGreatDoor
open Go.ChangeShapes Go.WideShapes Go.ChangeAt Go.RowKit Go.Deep Go.Shelf
section
variable {H:Type} {enc:TypeId×Value->H} {w:World} {base:Nat} {spare:Nat->Bool} {held:Bool}
theorem ziP:Tryz.prog.cellsOf 3=1:=by kernel_rfl
theorem zoc:Tryz.prog.cellsOf 9=1:=by kernel_rfl
theorem zfp:Tryz.prog.cellsOf 4=1:=by kernel_rfl
theorem k5_frac:Tryz.prog.cellsOf 58=2:=by kernel_rfl
theorem zme (n:Nat) (cs:List Value) (x:DataW H×List MemPlace) (h:DataW.trod enc Tryz.prog w base spare held n 58 cs=some x): ∃a b:Int,cs=[.int .i64 a, .int .i64 b]:=by
 obtain⟨xs,m,_,ex,ag,bK,hf⟩:=DataW.trod_struct Tryz.underlying58 h;rw[show Tryz.prog.cellsOf 58=2 by kernel_rfl]at ag;match cs,ag with
 | [v0,v1],_=>
   have g: ∀i,i<2-> ∃y,xs[i]?=some y:=fun i hi=>⟨_,List.getElem?_eq_getElem MdW⟩
   obtain⟨y0,e0⟩:=g 0 Mcn;have h0:DataW.trod enc Tryz.prog w base spare held m 3 (List.take (Tryz.prog.cellsOf 3) (List.drop 0 [v0,v1]))=some y0:=(hf 0 _ rfl).trans e0;rw[ziP]at h0;obtain⟨q0,c0,d0,_⟩:=DataW.trod_int Tryz.underlying3 h0;simp only[List.drop_succ_cons,List.drop_zero,List.take_succ_cons,List.take_zero,List.cons.injEq,and_true]at c0;obtain⟨y1,e1⟩:=g 1 Mcn;have h1:DataW.trod enc Tryz.prog w base spare held m 3 (List.take (Tryz.prog.cellsOf 3) (List.drop 1 [v0,v1]))=some y1:=(hf 1 _ rfl).trans e1;rw[ziP]at h1;obtain⟨q1,c1,d1,_⟩:=DataW.trod_int Tryz.underlying3 h1;simp only[List.drop_succ_cons,List.drop_zero,List.take_succ_cons,List.take_zero,List.cons.injEq,and_true]at c1;subst c0 c1;exact⟨q0,q1,rfl⟩
theorem open_law (n:Nat) (cs:List Value) (x:DataW H×List MemPlace) (h:DataW.trod enc Tryz.prog w base spare held n 95 cs=some x): ∃s:Law,cs=s.cells:=by
 obtain⟨xs,m,_,ex,ag,bK,hf⟩:=DataW.trod_struct Tryz.underlying95 h;rw[show Tryz.prog.cellsOf 95=4 by kernel_rfl]at ag;match cs,ag with
 | [v0,v1,v2,v3],_=>
   have g: ∀i,i<3-> ∃y,xs[i]?=some y:=fun i hi=>⟨_,List.getElem?_eq_getElem MdW⟩
   obtain⟨y0,e0⟩:=g 0 Mcn;have h0:DataW.trod enc Tryz.prog w base spare held m 3 (List.take (Tryz.prog.cellsOf 3) (List.drop 0 [v0,v1,v2,v3]))=some y0:=(hf 0 _ rfl).trans e0;rw[ziP]at h0;obtain⟨q0,c0,d0,_⟩:=DataW.trod_int Tryz.underlying3 h0;simp only[List.drop_succ_cons,List.drop_zero,List.take_succ_cons,List.take_zero,List.cons.injEq,and_true]at c0;obtain⟨y1,e1⟩:=g 1 Mcn;have h1:DataW.trod enc Tryz.prog w base spare held m 4 (List.take (Tryz.prog.cellsOf 4) (List.drop 1 [v0,v1,v2,v3]))=some y1:=(hf 1 _ rfl).trans e1;rw[zfp]at h1;obtain⟨q1,c1,d1⟩:=DataW.trod_bool Tryz.underlying4 h1;simp only[List.drop_succ_cons,List.drop_zero,List.take_succ_cons,List.take_zero,List.cons.injEq,and_true]at c1;obtain⟨y2,e2⟩:=g 2 Mcn;have h2:DataW.trod enc Tryz.prog w base spare held m 58 (List.take (Tryz.prog.cellsOf 58) (List.drop 2 [v0,v1,v2,v3]))=some y2:=(hf 2 _ rfl).trans e2;rw[k5_frac]at h2;obtain⟨q2,r2,c2⟩:=zme _ _ _ h2;simp only[List.drop_succ_cons,List.drop_zero,List.take_succ_cons,List.take_zero,List.cons.injEq,and_true]at c2;subst c0;subst c1;obtain⟨cx2,cy2⟩:=c2;subst cx2 cy2;exact⟨⟨q0,q1,q2,r2⟩,rfl⟩
theorem open_form (n:Nat) (cs:List Value) (x:DataW H×List MemPlace) (h:DataW.trod enc Tryz.prog w base spare held n 179 cs=some x): ∃s:Form,cs=s.cells/\x.1= .agg [.lit (.string s.word.data.toList), .lit (.bool s.place), .lit (.bool s.frm), .lit (.bool s.cls), .lit (.bool s.years), .lit (.bool s.all), .lit (.bool s.parts), .lit (.bool s.shares)]:=by
 obtain⟨xs,m,_,ex,ag,bK,hf⟩:=DataW.trod_struct Tryz.underlying179 h;rw[show Tryz.prog.cellsOf 179=8 by kernel_rfl]at ag;match cs,ag with
 | [v0,v1,v2,v3,v4,v5,v6,v7],_=>
   have g: ∀i,i<8-> ∃y,xs[i]?=some y:=fun i hi=>⟨_,List.getElem?_eq_getElem MdW⟩
   obtain⟨y0,e0⟩:=g 0 Mcn;have h0:DataW.trod enc Tryz.prog w base spare held m 9 (List.take (Tryz.prog.cellsOf 9) (List.drop 0 [v0,v1,v2,v3,v4,v5,v6,v7]))=some y0:=(hf 0 _ rfl).trans e0;rw[zoc]at h0;obtain⟨q0,c0,d0,_⟩:=DataW.trod_string Tryz.underlying9 h0;simp only[List.drop_succ_cons,List.drop_zero,List.take_succ_cons,List.take_zero,List.cons.injEq,and_true]at c0;obtain⟨y1,e1⟩:=g 1 Mcn;have h1:DataW.trod enc Tryz.prog w base spare held m 4 (List.take (Tryz.prog.cellsOf 4) (List.drop 1 [v0,v1,v2,v3,v4,v5,v6,v7]))=some y1:=(hf 1 _ rfl).trans e1;rw[zfp]at h1;obtain⟨q1,c1,d1⟩:=DataW.trod_bool Tryz.underlying4 h1;simp only[List.drop_succ_cons,List.drop_zero,List.take_succ_cons,List.take_zero,List.cons.injEq,and_true]at c1;obtain⟨y2,e2⟩:=g 2 Mcn;have h2:DataW.trod enc Tryz.prog w base spare held m 4 (List.take (Tryz.prog.cellsOf 4) (List.drop 2 [v0,v1,v2,v3,v4,v5,v6,v7]))=some y2:=(hf 2 _ rfl).trans e2;rw[zfp]at h2;obtain⟨q2,c2,d2⟩:=DataW.trod_bool Tryz.underlying4 h2;simp only[List.drop_succ_cons,List.drop_zero,List.take_succ_cons,List.take_zero,List.cons.injEq,and_true]at c2;obtain⟨y3,e3⟩:=g 3 Mcn;have h3:DataW.trod enc Tryz.prog w base spare held m 4 (List.take (Tryz.prog.cellsOf 4) (List.drop 3 [v0,v1,v2,v3,v4,v5,v6,v7]))=some y3:=(hf 3 _ rfl).trans e3;rw[zfp]at h3;obtain⟨q3,c3,d3⟩:=DataW.trod_bool Tryz.underlying4 h3;simp only[List.drop_succ_cons,List.drop_zero,List.take_succ_cons,List.take_zero,List.cons.injEq,and_true]at c3;obtain⟨y4,e4⟩:=g 4 Mcn
   have h4:DataW.trod enc Tryz.prog w base spare held m 4 (List.take (Tryz.prog.cellsOf 4) (List.drop 4 [v0,v1,v2,v3,v4,v5,v6,v7]))=some y4:=(hf 4 _ rfl).trans e4;rw[zfp]at h4;obtain⟨q4,c4,d4⟩:=DataW.trod_bool Tryz.underlying4 h4;simp only[List.drop_succ_cons,List.drop_zero,List.take_succ_cons,List.take_zero,List.cons.injEq,and_true]at c4;obtain⟨y5,e5⟩:=g 5 Mcn;have h5:DataW.trod enc Tryz.prog w base spare held m 4 (List.take (Tryz.prog.cellsOf 4) (List.drop 5 [v0,v1,v2,v3,v4,v5,v6,v7]))=some y5:=(hf 5 _ rfl).trans e5;rw[zfp]at h5;obtain⟨q5,c5,d5⟩:=DataW.trod_bool Tryz.underlying4 h5;simp only[List.drop_succ_cons,List.drop_zero,List.take_succ_cons,List.take_zero,List.cons.injEq,and_true]at c5;obtain⟨y6,e6⟩:=g 6 Mcn;have h6:DataW.trod enc Tryz.prog w base spare held m 4 (List.take (Tryz.prog.cellsOf 4) (List.drop 6 [v0,v1,v2,v3,v4,v5,v6,v7]))=some y6:=(hf 6 _ rfl).trans e6;rw[zfp]at h6;obtain⟨q6,c6,d6⟩:=DataW.trod_bool Tryz.underlying4 h6;simp only[List.drop_succ_cons,List.drop_zero,List.take_succ_cons,List.take_zero,List.cons.injEq,and_true]at c6;obtain⟨y7,e7⟩:=g 7 Mcn;have h7:DataW.trod enc Tryz.prog w base spare held m 4 (List.take (Tryz.prog.cellsOf 4) (List.drop 7 [v0,v1,v2,v3,v4,v5,v6,v7]))=some y7:=(hf 7 _ rfl).trans e7;rw[zfp]at h7;obtain⟨q7,c7,d7⟩:=DataW.trod_bool Tryz.underlying4 h7;simp only[List.drop_succ_cons,List.drop_zero,List.take_succ_cons,List.take_zero,List.cons.injEq,and_true]at c7;subst c0;subst c1;subst c2;subst c3;subst c4;subst c5;subst c6;subst c7
   refine⟨⟨q0,q1,q2,q3,q4,q5,q6,q7⟩,rfl,?_⟩;rw[ex];have hx:xs=[y0,y1,y2,y3,y4,y5,y6,y7]:=by
    apply List.ext_getElem?;intro i;match i with
    |0=>exact e0
    |1=>exact e1
    |2=>exact e2
    |3=>exact e3
    |4=>exact e4
    |5=>exact e5
    |6=>exact e6
    |7=>exact e7
    |i+8=>rw[List.getElem?_eq_none (by rw[bK];show 8<=_;omega)];rfl
   rw[hx,d0,d1,d2,d3,d4,d5,d6,d7];rfl
theorem k5_laws:Tryz.prog.cellsOf 95=4:=by kernel_rfl
theorem k5_form:Tryz.prog.cellsOf 179=8:=by kernel_rfl
end
theorem zmf {n:String} {tab:List Int} {kd:IntKind} {arr el:TypeId} {N:Nat} {r:List (String×DataW Unit)} {W:World} {g:Nat} (h:laidMet Tryz.prog ((n, .agg (tab.map fun z=> .lit (.int kd z)))::r) W)
 (oB:Tryz.prog.globalNamed n=some g) (KD:(Tryz.prog.globals[g]?).map (·.type)=some arr) (ha:Tryz.prog.underlying arr=some (.array N el)) (he:Tryz.prog.underlying el=some (.int kd)) (tG:Tryz.prog.cellsOf el=1) (Jy:Tryz.prog.cellsOf arr=N) (hN:tab.length=N):
 ∀(k:Nat) z,tab[k]?=some z->W.cell? ⟨g,k,none⟩=some (.int kd z):=by
 obtain⟨ps,⟨g',t,cs,fuel,p,q,hg,ht,hv,hd,_,_⟩,_,_⟩:=h;obtain rfl:=Option.some.inj (oB.symm.trans hg);obtain rfl:=Option.some.inj (KD.symm.trans ht);obtain⟨xs,m,_,ex,bo,hl,hel⟩:=DataW.trod_array ha hd;rw[Jy]at bo;intro k z hk;have bV:k<N:=by rw[<-hN];exact(List.getElem?_eq_some_iff.1 hk).1
 have hE:=hel k bV;rw[tG,Nat.mul_one,List.getElem?_eq_getElem Mcl]at hE;obtain⟨y,e1,e2,_⟩:=DataW.trod_int he hE;have e3:(xs.map (·.1))=tab.map fun z=> .lit (.int kd z):=(DataW.agg.inj (Prod.mk.inj ex).1).symm
 have e4:=congrArg (fun l=>l[k]?) e3;simp only[List.getElem?_map,hk,List.getElem?_eq_getElem (show k<xs.length by omega),e2,Option.map_some,Option.some.injEq,DataW.lit.injEq,Lit.int.injEq,true_and]at e4;have h0:((cs.toList.drop k).take 1)[0]?=some (.int kd y):=by rw[e1];rfl
 have h1:cs.toList[k]?=some (.int kd y):=Mdm;rw[World.var?_cell hg hv k,<-Array.getElem?_toList,h1,e4]
theorem tz_laid {r:List (String×DataW Unit)} {W:World} (h:laidMet Tryz.prog (("math/bits.deBruijn64tab",Rows.laid_math_bits_deBruijn64tab)::r) W):TzTab W:=by
 have h1:=zmf (tab:=Lib.deBruijn64tab.map fun(z:Nat)=>(z:Int)) (kd:= .u8) (arr:=199) (el:=5) (N:=64) (g:=3) (by
  have e:(Rows.laid_math_bits_deBruijn64tab:DataW Unit)= .agg ((Lib.deBruijn64tab.map fun(z:Nat)=>(z:Int)).map fun z=> .lit (.int .u8 z)):=Mcm
  rw[<-e];exact h) Mcm Mcm Tryz.underlying199 Tryz.underlying5 Mcm Mcm Mcm
 have h2:TabAt 3 Lib.deBruijn64tab W:=fun j hj=>h1 j (Lib.deBruijn64tab.getD j 0:Nat) (by
  rw[List.getElem?_map,List.getD_eq_getElem?_getD,List.getElem?_eq_getElem hj]
  rfl)
 exact⟨h2,zf9 (h2 0 Mei)⟩
theorem lens_laid {r:List (String×DataW Unit)} {W:World} (h:laidMet Tryz.prog (("mortsafe/rule.lengths",Rows.laid_mortsafe_rule_lengths)::r) W):LensIn W:=by
 have h1:=zmf (tab:=zgp) (kd:= .i64) (arr:=229) (el:=3) (N:=12) (g:=4) (by
  have e:(Rows.laid_mortsafe_rule_lengths:DataW Unit)= .agg (zgp.map fun z=> .lit (.int .i64 z)):=Mcm
  rw[<-e];exact h) Mcm Mcm Tryz.underlying229 Tryz.underlying3 Mcm Mcm Mcm
 exact⟨zf9 (h1 0 31 rfl),h1⟩
def formD (s:Form):DataW Unit:= .agg [.lit (.string s.word.data.toList), .lit (.bool s.place), .lit (.bool s.frm), .lit (.bool s.cls), .lit (.bool s.years), .lit (.bool s.all), .lit (.bool s.parts), .lit (.bool s.shares)]
theorem formD_inj {a b:Form} (h:formD a=formD b):a=b:=by
 obtain⟨⟨⟨x⟩⟩,p1,p2,p3,p4,p5,p6,p7⟩:=a;obtain⟨⟨⟨y⟩⟩,q1,q2,q3,q4,q5,q6,q7⟩:=b;simp[formD]at h;obtain⟨rfl,rfl,rfl,rfl,rfl,rfl,rfl,rfl⟩:=h;rfl
theorem zoU {r:List (String×DataW Unit)} {W:World} (h:laidMet Tryz.prog (("mortsafe/right.forms",Rows.laid_mortsafe_right_forms)::r) W):FormsIn W:=by
 have e0:(Rows.laid_mortsafe_right_forms:DataW Unit)= .agg (zfF.map formD):=Mcm;rw[e0]at h;obtain⟨ps,⟨g',t,cs,fuel,p,q,hg,ht,hv,hd,_,_⟩,_,_⟩:=h;obtain rfl:=Option.some.inj ((show Tryz.prog.globalNamed "mortsafe/right.forms" =some 0 by kernel_rfl).symm.trans hg)
 obtain rfl:=Option.some.inj ((show(Tryz.prog.globals[0]?).map (·.type)=some 180 by kernel_rfl).symm.trans ht);obtain⟨xs,m,_,ex,bo,hl,hel⟩:=DataW.trod_array Tryz.underlying180 hd;have key: ∀k (f:Form),zfF[k]?=some f-> ∀j u,f.cells[j]?=some u->W.cell? ⟨0,k*8+j,none⟩=some u:=fun k f hk j u hu=>by
  have bV:k<9:=(List.getElem?_eq_some_iff.1 hk).1;have hE:=hel k bV;rw[k5_form,List.getElem?_eq_getElem Mcl]at hE;obtain⟨s,e1,e2⟩:=open_form _ _ _ hE;have e3:(xs.map (·.1))=zfF.map formD:=(DataW.agg.inj (Prod.mk.inj ex).1).symm;have e4:=congrArg (fun l=>l[k]?) e3;simp only[List.getElem?_map,hk,List.getElem?_eq_getElem (show k<xs.length by omega),e2,Option.map_some,Option.some.injEq]at e4;have e5:s=f:=formD_inj e4;subst e5;have hj:j<8:=(List.getElem?_eq_some_iff.1 hu).1;have h1:((cs.toList.drop (k*8)).take 8)[j]?=some u:=by rw[e1];exact hu
  rw[List.getElem?_take_of_lt hj,List.getElem?_drop]at h1;rw[World.var?_cell hg hv (k*8+j),<-Array.getElem?_toList,h1]
 exact⟨zf9 (key 0 _ rfl 0 _ rfl),key⟩
section
variable {H:Type} {enc:TypeId×Value->H} {P:Program} {w:World} {base:Nat} {spare:Nat->Bool} {held:Bool}
theorem znf {α:Type} {R:World->α->List Value->Prop} {size:Nat} (hsz:0<size) (ag: ∀x cs,R w x cs->cs.length=size) {t e:TypeId} {fuel:Nat} {cs:List Value} {x:DataW H×List MemPlace} (ht:P.underlying t=some (.slice e)) (hC:P.cellsOf e=size)
 (mA: ∀(n:Nat) (cs:List Value) (y:DataW H×List MemPlace),DataW.trod enc P w base spare held n e cs=some y-> ∃s:α,R w s cs) (h:DataW.trod enc P w base spare held fuel t cs=some x):
 ∃(A:Option Addr) (n c:Nat) (xs:List α),cs=[.slice A n c]/\n=xs.length/\SlW w size R A xs/\xs.length<=c/\c<=maxLen:=by
 rcases open_slice ht h with⟨rfl,_⟩|⟨a,len,cap,m,n,D,Pl,rfl,_,hl,hm,da,_,hi⟩
 ·exact⟨none,0,0,[],rfl,rfl,SlW.nil,Nat.le_refl _,Nat.zero_le _⟩
 ·have bQ:len<=m:=by rw[da];split<;>omega
  obtain⟨l,fq,hq⟩:=zmt (Q:=fun i (s:α)=> ∃cs,R w s cs/\ ∀j,j<size->w.cell? ((a.add (i*size)).add j)=cs[j]?) len (fun i eb=>by
   obtain⟨cs',hc,hr⟩:=hi i Mcl;obtain⟨s,hs⟩:=mA _ _ _ hr;rw[hC]at hc
   exact⟨s,cs',hs,(World.cells?_some hc).2.2⟩)
  refine⟨some a,len,cap,l,rfl,fq.symm,fun hp=> ?_,by omega,hm⟩;have h0:0<l.length:=hp;obtain⟨cs0,pS,dQ⟩:=hq 0 l[0] (List.getElem?_eq_getElem h0);have hx:=dQ 0 hsz;have hv: ∃v,cs0[0]?=some v:=⟨_,List.getElem?_eq_getElem (by rw[ag _ _ pS];exact hsz)⟩
  obtain⟨v,hv⟩:=hv;rw[hv]at hx;have ct:=World.cell?_spot hx;have dH:=World.block_lt_of_cell? _ _ hx;obtain⟨b,off,spot⟩:=a;have sA:spot=none:=by simpa[Addr.add]using ct
  subst sA;refine⟨b,off,rfl,by simpa[Addr.add]using dH,fun k y hy=> ?_⟩;obtain⟨cs1,fR,jQ⟩:=hq k y hy;refine⟨cs1,fR,fun j u hu=> ?_⟩;have hj:j<size:=by have:=(List.getElem?_eq_some_iff.1 hu).1;rw[ag _ _ fR]at this;exact this
  have:=jQ j hj;rw[hu]at this;rw[<-this];congr 1
  unfold Addr.add;split<;>split<;>simp_all<;>omega
end
section
variable {H:Type} {enc:TypeId×Value->H} {w:World} {base:Nat} {spare:Nat->Bool} {held:Bool}
theorem k5_part:Tryz.prog.cellsOf 63=3:=by kernel_rfl
theorem k5_parts:Tryz.prog.cellsOf 28=1:=by kernel_rfl
theorem k5_deed:Tryz.prog.cellsOf 68=7:=by kernel_rfl
theorem k5_lawsl:Tryz.prog.cellsOf 22=1:=by kernel_rfl
theorem k5_deedsl:Tryz.prog.cellsOf 23=1:=by kernel_rfl
theorem k5_rights:Tryz.prog.cellsOf 25=2:=by kernel_rfl
theorem rpart_len (x:RPart):x.cells.length=3:=rfl
theorem open_part (n:Nat) (cs:List Value) (x:DataW H×List MemPlace) (h:DataW.trod enc Tryz.prog w base spare held n 63 cs=some x): ∃s:RPart,cs=s.cells:=by
 obtain⟨xs,m,_,ex,ag,bK,hf⟩:=DataW.trod_struct Tryz.underlying63 h;rw[show Tryz.prog.cellsOf 63=3 by kernel_rfl]at ag;match cs,ag with
 | [v0,v1,v2],_=>
   have g: ∀i,i<2-> ∃y,xs[i]?=some y:=fun i hi=>⟨_,List.getElem?_eq_getElem MdW⟩
   obtain⟨y0,e0⟩:=g 0 Mcn;have h0:DataW.trod enc Tryz.prog w base spare held m 9 (List.take (Tryz.prog.cellsOf 9) (List.drop 0 [v0,v1,v2]))=some y0:=(hf 0 _ rfl).trans e0;rw[zoc]at h0;obtain⟨q0,c0,d0,_⟩:=DataW.trod_string Tryz.underlying9 h0;simp only[List.drop_succ_cons,List.drop_zero,List.take_succ_cons,List.take_zero,List.cons.injEq,and_true]at c0;obtain⟨y1,e1⟩:=g 1 Mcn;have h1:DataW.trod enc Tryz.prog w base spare held m 58 (List.take (Tryz.prog.cellsOf 58) (List.drop 1 [v0,v1,v2]))=some y1:=(hf 1 _ rfl).trans e1;rw[k5_frac]at h1;obtain⟨q1,r1,c1⟩:=zme _ _ _ h1;simp only[List.drop_succ_cons,List.drop_zero,List.take_succ_cons,List.take_zero,List.cons.injEq,and_true]at c1;subst c0;obtain⟨cx1,cy1⟩:=c1;subst cx1 cy1;exact⟨⟨q0,q1,r1⟩,rfl⟩
theorem open_deed (n:Nat) (cs:List Value) (x:DataW H×List MemPlace) (h:DataW.trod enc Tryz.prog w base spare held n 68 cs=some x): ∃d:Deed,zfC w d cs:=by
 obtain⟨xs,m,_,ex,ag,bK,hf⟩:=DataW.trod_struct Tryz.underlying68 h;rw[show Tryz.prog.cellsOf 68=7 by kernel_rfl]at ag;match cs,ag with
 | [v0,v1,v2,v3,v4,v5,v6],_=>
   have g: ∀i,i<7-> ∃y,xs[i]?=some y:=fun i hi=>⟨_,List.getElem?_eq_getElem MdW⟩
   obtain⟨y0,e0⟩:=g 0 Mcn;have h0:DataW.trod enc Tryz.prog w base spare held m 3 (List.take (Tryz.prog.cellsOf 3) (List.drop 0 [v0,v1,v2,v3,v4,v5,v6]))=some y0:=(hf 0 _ rfl).trans e0;rw[ziP]at h0;obtain⟨q0,c0,d0,_⟩:=DataW.trod_int Tryz.underlying3 h0;simp only[List.drop_succ_cons,List.drop_zero,List.take_succ_cons,List.take_zero,List.cons.injEq,and_true]at c0;obtain⟨y1,e1⟩:=g 1 Mcn;have h1:DataW.trod enc Tryz.prog w base spare held m 3 (List.take (Tryz.prog.cellsOf 3) (List.drop 1 [v0,v1,v2,v3,v4,v5,v6]))=some y1:=(hf 1 _ rfl).trans e1;rw[ziP]at h1;obtain⟨q1,c1,d1,_⟩:=DataW.trod_int Tryz.underlying3 h1;simp only[List.drop_succ_cons,List.drop_zero,List.take_succ_cons,List.take_zero,List.cons.injEq,and_true]at c1;obtain⟨y2,e2⟩:=g 2 Mcn;have h2:DataW.trod enc Tryz.prog w base spare held m 9 (List.take (Tryz.prog.cellsOf 9) (List.drop 2 [v0,v1,v2,v3,v4,v5,v6]))=some y2:=(hf 2 _ rfl).trans e2;rw[zoc]at h2;obtain⟨q2,c2,d2,_⟩:=DataW.trod_string Tryz.underlying9 h2;simp only[List.drop_succ_cons,List.drop_zero,List.take_succ_cons,List.take_zero,List.cons.injEq,and_true]at c2;obtain⟨y3,e3⟩:=g 3 Mcn;have h3:DataW.trod enc Tryz.prog w base spare held m 9 (List.take (Tryz.prog.cellsOf 9) (List.drop 3 [v0,v1,v2,v3,v4,v5,v6]))=some y3:=(hf 3 _ rfl).trans e3;rw[zoc]at h3;obtain⟨q3,c3,d3,_⟩:=DataW.trod_string Tryz.underlying9 h3;simp only[List.drop_succ_cons,List.drop_zero,List.take_succ_cons,List.take_zero,List.cons.injEq,and_true]at c3;obtain⟨y4,e4⟩:=g 4 Mcn
   have h4:DataW.trod enc Tryz.prog w base spare held m 28 (List.take (Tryz.prog.cellsOf 28) (List.drop 4 [v0,v1,v2,v3,v4,v5,v6]))=some y4:=(hf 4 _ rfl).trans e4;rw[k5_parts]at h4;obtain⟨B4,n4,cap4,q4,c4,FU,hS4,kj,_⟩:=zj6 (f:=RPart.cells) (size:=3) Mcn rpart_len Tryz.underlying28 k5_part open_part h4;simp only[List.drop_succ_cons,List.drop_zero,List.take_succ_cons,List.take_zero,List.cons.injEq,and_true]at c4;obtain⟨y5,e5⟩:=g 5 Mcn;have h5:DataW.trod enc Tryz.prog w base spare held m 3 (List.take (Tryz.prog.cellsOf 3) (List.drop 5 [v0,v1,v2,v3,v4,v5,v6]))=some y5:=(hf 5 _ rfl).trans e5;rw[ziP]at h5;obtain⟨q5,c5,d5,_⟩:=DataW.trod_int Tryz.underlying3 h5;simp only[List.drop_succ_cons,List.drop_zero,List.take_succ_cons,List.take_zero,List.cons.injEq,and_true]at c5;obtain⟨y6,e6⟩:=g 6 Mcn;have h6:DataW.trod enc Tryz.prog w base spare held m 3 (List.take (Tryz.prog.cellsOf 3) (List.drop 6 [v0,v1,v2,v3,v4,v5,v6]))=some y6:=(hf 6 _ rfl).trans e6;rw[ziP]at h6;obtain⟨q6,c6,d6,_⟩:=DataW.trod_int Tryz.underlying3 h6;simp only[List.drop_succ_cons,List.drop_zero,List.take_succ_cons,List.take_zero,List.cons.injEq,and_true]at c6;subst c0;subst c1;subst c2;subst c3;subst c4;subst c5;subst c6;subst FU;exact⟨⟨q0,q1,q2,q3,q4,q5,q6⟩,B4,cap4,kj,rfl,hS4⟩
theorem deedR_len {W:World}: ∀(d:Deed) (cs:List Value),zfC W d cs->cs.length=7:=by
 rintro d cs ⟨B,c,_,rfl,_⟩;rfl
theorem ziQ {v:Value} {d:DataW H} {p:List MemPlace} {r:Reach} {b0:Nat} (hv:Value.okWide Tryz.prog w r b0 25 v) (h:DataW.Trod enc Tryz.prog w base spare held 25 v d p):
 ∃(ls:List Law) (ds:List Deed) (A:Option Addr) (nc:Nat) (B:Option Addr) (mc:Nat),v= .agg #[.slice A ls.length nc, .slice B ds.length mc]/\RightsIn w ls ds A ls.length nc B ds.length mc:=by
 obtain⟨cs,rfl,hsz⟩:=okWide_struct Tryz.underlying25 hv;obtain⟨l⟩:=cs;rw[k5_rights]at hsz;match l,hsz with
 | [v0,v1],_=>
   obtain⟨fuel,zN⟩:=h;obtain⟨xs,m,_,_,_,bK,hf⟩:=DataW.trod_struct Tryz.underlying25 zN;have g: ∀i,i<2-> ∃y,xs[i]?=some y:=fun i hi=>⟨_,List.getElem?_eq_getElem MdW⟩
   obtain⟨y0,e0⟩:=g 0 Mcn;obtain⟨y1,e1⟩:=g 1 Mcn;have h0:DataW.trod enc Tryz.prog w base spare held m 22 (List.take (Tryz.prog.cellsOf 22) (List.drop 0 [v0,v1]))=some y0:=(hf 0 _ rfl).trans e0;have h1:DataW.trod enc Tryz.prog w base spare held m 23 (List.take (Tryz.prog.cellsOf 23) (List.drop 1 [v0,v1]))=some y1:=(hf 1 _ rfl).trans e1;rw[k5_lawsl]at h0;rw[k5_deedsl]at h1;obtain⟨A,n,nc,ls,ea,hn,hS,hc,_⟩:=zj6 (f:=Law.cells) (size:=4) Mcn (fun x=>rfl) Tryz.underlying22 k5_laws open_law h0;obtain⟨B,k,mc,ds,er,hk,hD,so,_⟩:=znf (R:=zfC) (size:=7) Mcn deedR_len Tryz.underlying23 k5_deed open_deed h1;simp at ea er;subst ea er hn hk;exact⟨ls,ds,A,nc,B,mc,rfl,rfl,rfl,hc,so,hS,hD⟩
end
end Go.Proofs.YtckkbkdcdkhglaaGreatDoor
namespace Go.Proofs.YtckkbkdcdkhglaaGreatDoor
open Go.RowKit Go.Shelf
attribute [local go_sem] World.cell?_alloc_mark zag za5 zaq za8 zaw zax zay zaz za0 za1 za2
attribute [local go_sem] zap zad
theorem zoV (y:Int) (w:World) (h0:0<=y) (h1:y<=100000):Calls Tryz.prog 203 #[.int .i64 y] w (Ret0 w (.bool (zgN y))):=by
 have w1:wrap64 (y.tmod 4)=y.tmod 4:=McL;have w2:wrap64 (y.tmod 100)=y.tmod 100:=McL;have w3:wrap64 (y.tmod 400)=y.tmod 400:=McL;have v1:IntKind.i64.wrap (y.tmod 4)=y.tmod 4:=McF;have v2:IntKind.i64.wrap (y.tmod 100)=y.tmod 100:=McF;have v3:IntKind.i64.wrap (y.tmod 400)=y.tmod 400:=McF;go_enter Tryz.func203,Tryz.ntmps203
 go_wp2_with fail
 all_goals go_ret
 all_goals exact⟨by simp[zgN,Int.tmod_eq_emod_of_nonneg h0, *],rfl⟩
theorem zng (y:Int) (w:World) (h0:0<=y) (h1:y<=100000):Calls Tryz.prog 202 #[.int .i64 y] w (Ret0 w (.int .i64 (zeT y))):=by
 have e1:y.tdiv 4=y/4:=Int.tdiv_eq_ediv_of_nonneg h0;have e2:y.tdiv 100=y/100:=Int.tdiv_eq_ediv_of_nonneg h0;have e3:y.tdiv 400=y/400:=Int.tdiv_eq_ediv_of_nonneg h0;have hv:=zdu h0;have HV:=zHi hv;clear hv;go_enter Tryz.func202,Tryz.ntmps202
 exact MbC
theorem znh {y:Int} (h0:0<=y) (h1:y<=100000):0<=zeT y/\zeT y<=100000:=by
 rw[zdu h0];omega
theorem zfq (y:Int) (m:Nat) (w:World) (h0:0<=y) (h1:y<=100000) (cu:1<=m) (fG:m<=12):Calls Tryz.prog 196 #[.int .i64 y, .int .i64 m] w (Ret0 w (.int .i64 (za4 y m))):=by
 have hm:m=2\/m=1\/m=3\/m=4\/m=5\/m=6\/m=7\/m=8\/m=9\/m=10\/m=11\/m=12:=Mcl;rcases hm with h|h|h|h|h|h|h|h|h|h|h|h
 ·subst h;unfold za4;cases hl:zgN y
  ·have aO: ∀W:World,Sem.run Tryz.prog (Instr.index 228 (.agg #[.int .i64 0, .int .i64 31, .int .i64 28, .int .i64 31, .int .i64 30, .int .i64 31, .int .i64 30, .int .i64 31, .int .i64 31, .int .i64 30, .int .i64 31, .int .i64 30, .int .i64 31]) (.int .i64 2)) W= .ok (.int .i64 28) W:=fun W=>by kernel_rfl
   exact MaK
  ·exact MaK
 ·(subst h
   have aO: ∀W:World,Sem.run Tryz.prog (Instr.index 228 (.agg #[.int .i64 0, .int .i64 31, .int .i64 28, .int .i64 31, .int .i64 30, .int .i64 31, .int .i64 30, .int .i64 31, .int .i64 31, .int .i64 30, .int .i64 31, .int .i64 30, .int .i64 31]) (.int .i64 1)) W= .ok (.int .i64 31) W:=fun W=>by kernel_rfl
   go_enter Tryz.func196,Tryz.ntmps196
   go_wp2_with fail
   go_ret
   exact⟨rfl,rfl⟩)
 ·(subst h
   have aO: ∀W:World,Sem.run Tryz.prog (Instr.index 228 (.agg #[.int .i64 0, .int .i64 31, .int .i64 28, .int .i64 31, .int .i64 30, .int .i64 31, .int .i64 30, .int .i64 31, .int .i64 31, .int .i64 30, .int .i64 31, .int .i64 30, .int .i64 31]) (.int .i64 3)) W= .ok (.int .i64 31) W:=fun W=>by kernel_rfl
   go_enter Tryz.func196,Tryz.ntmps196
   go_wp2_with fail
   go_ret
   exact⟨rfl,rfl⟩)
 ·(subst h
   have aO: ∀W:World,Sem.run Tryz.prog (Instr.index 228 (.agg #[.int .i64 0, .int .i64 31, .int .i64 28, .int .i64 31, .int .i64 30, .int .i64 31, .int .i64 30, .int .i64 31, .int .i64 31, .int .i64 30, .int .i64 31, .int .i64 30, .int .i64 31]) (.int .i64 4)) W= .ok (.int .i64 30) W:=fun W=>by kernel_rfl
   go_enter Tryz.func196,Tryz.ntmps196
   go_wp2_with fail
   go_ret
   exact⟨rfl,rfl⟩)
 ·(subst h
   have aO: ∀W:World,Sem.run Tryz.prog (Instr.index 228 (.agg #[.int .i64 0, .int .i64 31, .int .i64 28, .int .i64 31, .int .i64 30, .int .i64 31, .int .i64 30, .int .i64 31, .int .i64 31, .int .i64 30, .int .i64 31, .int .i64 30, .int .i64 31]) (.int .i64 5)) W= .ok (.int .i64 31) W:=fun W=>by kernel_rfl
   go_enter Tryz.func196,Tryz.ntmps196
   go_wp2_with fail
   go_ret
   exact⟨rfl,rfl⟩)
 ·(subst h
   have aO: ∀W:World,Sem.run Tryz.prog (Instr.index 228 (.agg #[.int .i64 0, .int .i64 31, .int .i64 28, .int .i64 31, .int .i64 30, .int .i64 31, .int .i64 30, .int .i64 31, .int .i64 31, .int .i64 30, .int .i64 31, .int .i64 30, .int .i64 31]) (.int .i64 6)) W= .ok (.int .i64 30) W:=fun W=>by kernel_rfl
   go_enter Tryz.func196,Tryz.ntmps196
   go_wp2_with fail
   go_ret
   exact⟨rfl,rfl⟩)
 ·(subst h
   have aO: ∀W:World,Sem.run Tryz.prog (Instr.index 228 (.agg #[.int .i64 0, .int .i64 31, .int .i64 28, .int .i64 31, .int .i64 30, .int .i64 31, .int .i64 30, .int .i64 31, .int .i64 31, .int .i64 30, .int .i64 31, .int .i64 30, .int .i64 31]) (.int .i64 7)) W= .ok (.int .i64 31) W:=fun W=>by kernel_rfl
   go_enter Tryz.func196,Tryz.ntmps196
   go_wp2_with fail
   go_ret
   exact⟨rfl,rfl⟩)
 ·(subst h
   have aO: ∀W:World,Sem.run Tryz.prog (Instr.index 228 (.agg #[.int .i64 0, .int .i64 31, .int .i64 28, .int .i64 31, .int .i64 30, .int .i64 31, .int .i64 30, .int .i64 31, .int .i64 31, .int .i64 30, .int .i64 31, .int .i64 30, .int .i64 31]) (.int .i64 8)) W= .ok (.int .i64 31) W:=fun W=>by kernel_rfl
   go_enter Tryz.func196,Tryz.ntmps196
   go_wp2_with fail
   go_ret
   exact⟨rfl,rfl⟩)
 ·(subst h
   have aO: ∀W:World,Sem.run Tryz.prog (Instr.index 228 (.agg #[.int .i64 0, .int .i64 31, .int .i64 28, .int .i64 31, .int .i64 30, .int .i64 31, .int .i64 30, .int .i64 31, .int .i64 31, .int .i64 30, .int .i64 31, .int .i64 30, .int .i64 31]) (.int .i64 9)) W= .ok (.int .i64 30) W:=fun W=>by kernel_rfl
   go_enter Tryz.func196,Tryz.ntmps196
   go_wp2_with fail
   go_ret
   exact⟨rfl,rfl⟩)
 ·(subst h
   have aO: ∀W:World,Sem.run Tryz.prog (Instr.index 228 (.agg #[.int .i64 0, .int .i64 31, .int .i64 28, .int .i64 31, .int .i64 30, .int .i64 31, .int .i64 30, .int .i64 31, .int .i64 31, .int .i64 30, .int .i64 31, .int .i64 30, .int .i64 31]) (.int .i64 10)) W= .ok (.int .i64 31) W:=fun W=>by kernel_rfl
   go_enter Tryz.func196,Tryz.ntmps196
   go_wp2_with fail
   go_ret
   exact⟨rfl,rfl⟩)
 ·(subst h
   have aO: ∀W:World,Sem.run Tryz.prog (Instr.index 228 (.agg #[.int .i64 0, .int .i64 31, .int .i64 28, .int .i64 31, .int .i64 30, .int .i64 31, .int .i64 30, .int .i64 31, .int .i64 31, .int .i64 30, .int .i64 31, .int .i64 30, .int .i64 31]) (.int .i64 11)) W= .ok (.int .i64 30) W:=fun W=>by kernel_rfl
   go_enter Tryz.func196,Tryz.ntmps196
   go_wp2_with fail
   go_ret
   exact⟨rfl,rfl⟩)
 ·(subst h
   have aO: ∀W:World,Sem.run Tryz.prog (Instr.index 228 (.agg #[.int .i64 0, .int .i64 31, .int .i64 28, .int .i64 31, .int .i64 30, .int .i64 31, .int .i64 30, .int .i64 31, .int .i64 31, .int .i64 30, .int .i64 31, .int .i64 30, .int .i64 31]) (.int .i64 12)) W= .ok (.int .i64 31) W:=fun W=>by kernel_rfl
   go_enter Tryz.func196,Tryz.ntmps196
   go_wp2_with fail
   go_ret
   exact⟨rfl,rfl⟩)
theorem zdm (y:Int) (m:Nat) (w:World) (h0:1800<=y) (h1:y<=2500) (cu:1<=m) (fG:m<=12):Calls Tryz.prog 195 #[.int .i64 y, .int .i64 m] w (Ret0 w (.int .i64 (zaD y m))):=by
 have Kg:=znh (y:=y-1) Mcl Mcl;have k0:IntKind.i64.wrap (y-1)=y-1:=IntWalk.i64_in _ Mcl;have k1:IntKind.i64.wrap (y-1800)=y-1800:=IntWalk.i64_in _ Mcl;have k2:IntKind.i64.wrap (365*(y-1800))=365*(y-1800):=IntWalk.i64_in _ Mcl;have k3:IntKind.i64.wrap (365*(y-1800)+zeT (y-1))=365*(y-1800)+zeT (y-1):=IntWalk.i64_in _ Mcl;have k4:IntKind.i64.wrap (365*(y-1800)+zeT (y-1)-436)=begP y:=by unfold begP;exact IntWalk.i64_in _ Mcl
 have tS:zeT 1799=436:=Mcm;go_enter Tryz.func195,Tryz.ntmps195
 go_upto_region 3 with(go_at_call 202;refine(zng _ _ Mcl Mcl).mono ?_;rintro e wq ⟨rfl,rfl⟩;(try rw[tS]))
 clear k0 k1 k2 k3 k4 Kg;go_loop [5,6] (fun n i=> ∃k:Nat,1<=k/\k<=m/\i= .int .i64 k/\n= .int .i64 (zaD y k)) (fun _ i=>m-(intOf i).toNat)
 case atStart=>exact⟨1,by omega,cu,rfl,by rw[zbB]⟩
 case round=>
  obtain⟨k,fX,pF,rfl,rfl⟩:=hrel;by_cases aa:k<m
  ·have hb:=zbY (m:=k) h0 h1 fX Mcl;have fW:=zdA y fX (show k<=12 by omega);have hu:=zf0 y fX;have HU:=zHi hu;have k2:IntKind.i64.wrap (zaD y k+za4 y k)=zaD y k+za4 y k:=IntWalk.i64_in _ Mcl;have bD:(k:Int)<(m:Int):=Mcl;clear hu;go_wp2_with (go_at_call 196;refine(zfq y k _ Mcl Mcl fX Mcl).mono ?_;rintro e wq ⟨rfl,rfl⟩)
   go_round
   case rel=>exact⟨k+1,by omega,by omega,by go_num,by rw[HU.o]⟩
   case measure=>simp[intOf];omega
  ·exact Mcf
theorem zmg (day:Int) (w:World) (h0:0<=day) (h1:day<=200000):
 Calls Tryz.prog 191 #[.int .i64 day] w (fun e w'=>DateIs day (zbR day) (zbg day)/\Ret w (zmB (zbR day) (zbg day) (day-zaD (zbR day) (zbg day)+1)) e w'):=by
 have dN:=beg_low h0 h1;have fm:=znA h0 h1;have wQ:day.tdiv 366=day/366:=Int.tdiv_eq_ediv_of_nonneg h0;have gN:0<=day/366:=Mcl;have df:day/366<=546:=Mcl;rw[wQ]at dN fm;have yC:zbR day=zej day 10 (1800+day/366):=by unfold zbR;rw[wQ]
 have HY:=zHi yC;have HH:=zHi fm;clear yC fm;go_enter Tryz.func191,Tryz.ntmps191
 go_wp2_with fail
 go_loopg [] 10 (fun gg wr=> ∃(f:Nat) (y:Int),f<=gg/\y+f=1800+day/366+10/\1800<=y/\y<=2400/\Hid (zbR day=zej day f y)/\Hid (begP y<=day)/\Below w.heap.size w wr/\wr.heap[w.heap.size]?=some (.cells #[.int .i64 0, .int .i64 0, .int .i64 0] 225)/\wr.heap[w.heap.size+1]?=some (.cells #[.int .i64 y, .int .i64 1, .int .i64 0] 225))
 case atStart=>exact⟨10,1800+day/366,Nat.le_refl _,by omega,by omega,by omega,HY.o,dN,Bw,zak (zar _ _ _ rfl),zar _ _ _ Mco⟩
 case round=>
  obtain⟨f,y,hf,L1,lh,L0,vt,fI,hB,g0,g1⟩:=hrel;have a0:wr.cell? ⟨w.heap.size+1,0,none⟩=some (.int .i64 y):=Mcr;have a1:wr.cell? ⟨w.heap.size+1,1,none⟩=some (.int .i64 1):=Mcr;have a2:wr.cell? ⟨w.heap.size+1,2,none⟩=some (.int .i64 0):=Mcr;have z0:wr.frozen? ⟨w.heap.size+1,0,none⟩=false:=Mcz;have z1:wr.frozen? ⟨w.heap.size+1,1,none⟩=false:=Mcz;have z2:wr.frozen? ⟨w.heap.size+1,2,none⟩=false:=Mcz;have b0:wr.cell? ⟨w.heap.size,0,none⟩=some (.int .i64 0):=Mcp;have b1:wr.cell? ⟨w.heap.size,1,none⟩=some (.int .i64 0):=Mcp;have b2:wr.cell? ⟨w.heap.size,2,none⟩=some (.int .i64 0):=Mcp;have x0:wr.frozen? ⟨w.heap.size,0,none⟩=false:=Mcy;have x1:wr.frozen? ⟨w.heap.size,1,none⟩=false:=Mcy;have x2:wr.frozen? ⟨w.heap.size,2,none⟩=false:=Mcy;have e1:w.heap.size+1<wr.heap.size:=zab g1;have e0:w.heap.size<wr.heap.size:=zab g0;have k0:IntKind.i64.wrap (y+1)=y+1:=IntWalk.i64_in _ Mcl;by_cases hc:begP (y+1)<=day
  ·have JF:f≠0:=by
    exact MbB
   obtain⟨f',rfl⟩: ∃f',f=f'+1:=⟨f-1,by omega⟩
   have HN:Hid (zbR day=zej day f' (y+1)):=by
    show _=_;rw[vt.o,zli Md7]
   have HC:=zHi hc;go_wp2_with (go_at_call 195;refine(zdm (y+1) 1 _ Mcl Mcl Mcl Mcl).mono ?_;rintro e wq ⟨rfl,rfl⟩;rw[zbB])
   exact MW
  ·have HN:Hid (zbR day=y):=by
    show _=_;rw[vt.o,zlj Md7]
   have rU:=zbY (m:=1) lh Mcl Mcl Mcl;rw[zbB]at rU;have k1:IntKind.i64.wrap (day-begP y)=day-begP y:=IntWalk.i64_in _ Mcl;have xB:zbg day=zdj day y 12 1:=by unfold zbg;rw[HN.o]
   have kJ:=zHi xB;have yD:day<zaD y 12+za4 y 12:=by
    rw[<-zjA lh,zbB];omega
   have Bz:=zHi yD;have lz:=fI.o;have ak:Hid (zaD y 1<=day):=by show _<=_;rw[zbB];exact lz
   clear xB yD lz;have G0:=zHi g0;have G1:=zHi g1;go_upto_region 4 with(go_at_call 195;refine(zdm (y+1) 1 _ Mcl Mcl Mcl Mcl).mono ?_;rintro e wq ⟨rfl,rfl⟩;rw[zbB])
   clear a0 a1 a2 z0 z1 z2 b0 b1 b2 x0 x1 x2 g0 g1;go_loopg [] 12 (fun gg wm=> ∃(m:Nat),1<=m/\m<=12/\12-m<=gg/\Hid (zbg day=zdj day y (13-m) m)/\Hid (zaD y m<=day)/\Below w.heap.size w wm/\wm.heap[w.heap.size]?=some (.cells #[.int .i64 0, .int .i64 0, .int .i64 0] 225)/\wm.heap[w.heap.size+1]?=some (.cells #[.int .i64 y, .int .i64 m, .int .i64 0] 225))
   case atStart=>exact⟨1,by omega,by omega,by omega,kJ.o,ak.o,hB,G0.o,G1.o⟩
   case round=>
    obtain⟨m,cu,fG,rW,HM,qt,Ex,g0,g1⟩:=hrel;have a0:wr.cell? ⟨w.heap.size+1,0,none⟩=some (.int .i64 y):=Mcr;have a1:wr.cell? ⟨w.heap.size+1,1,none⟩=some (.int .i64 m):=Mcr;have a2:wr.cell? ⟨w.heap.size+1,2,none⟩=some (.int .i64 0):=Mcr;have z0:wr.frozen? ⟨w.heap.size+1,0,none⟩=false:=Mcz;have z1:wr.frozen? ⟨w.heap.size+1,1,none⟩=false:=Mcz;have z2:wr.frozen? ⟨w.heap.size+1,2,none⟩=false:=Mcz;have b0:wr.cell? ⟨w.heap.size,0,none⟩=some (.int .i64 0):=Mcp;have b1:wr.cell? ⟨w.heap.size,1,none⟩=some (.int .i64 0):=Mcp;have b2:wr.cell? ⟨w.heap.size,2,none⟩=some (.int .i64 0):=Mcp;have x0:wr.frozen? ⟨w.heap.size,0,none⟩=false:=Mcy;have x1:wr.frozen? ⟨w.heap.size,1,none⟩=false:=Mcy;have x2:wr.frozen? ⟨w.heap.size,2,none⟩=false:=Mcy;have e1:w.heap.size+1<wr.heap.size:=zab g1;have e0:w.heap.size<wr.heap.size:=zab g0;have fW:=zdA y cu fG;have oz:=zbY (m:=m) lh Mcl cu Mcl;have hu:=zf0 y cu;have dI:=qt.o;have k3:IntKind.i64.wrap ((m:Int)+1)=(m:Int)+1:=IntWalk.i64_in _ Mcl;have k5:IntKind.i64.wrap (day-zaD y m)=day-zaD y m:=IntWalk.i64_in _ Mcl;have k4:IntKind.i64.wrap (day-zaD y m+1)=day-zaD y m+1:=IntWalk.i64_in _ Mcl;by_cases cA:m<12/\zaD y (m+1)<=day
    ·obtain⟨sk,mu⟩:=cA;have fQ:(m:Int)<12:=Mcl;have kK:Hid (zbg day=zdj day y (13-(m+1)) (m+1)):=by
      show _=_;rw[HM.o,show 13-m=(13-(m+1))+1 by omega,zjB sk mu]
     have gu:=zHi mu;have nU:=zHi (fun W=>zdm y (m+1) W lh Mcl Mcl Mcl);rw[show((m+1:Nat):Int)=(m:Int)+1 from rfl]at nU;clear hu dI;go_wp2_with (go_at_call 195;refine(nU.o _).mono ?_;rintro e wq ⟨rfl,rfl⟩)
     go_roundg (12-(m+1))
     case measure=>omega
     case rel=>
      refine⟨m+1,by omega,by omega,Nat.le_refl _,kK,gu.o,by repeat(first|exact B_refl|exact Below.refl _ _|assumption|with_reducible refine zac ?_ _|with_reducible refine zbc ?_ _|with_reducible refine zaM ?_|with_reducible refine zd4 ?_ _|with_reducible refine zaO ?_ Mdk _),J_ne Mcl g0,?_⟩;exact MbG
    ·have kK:Hid (zbg day=m):=by
      show _=_;rw[HM.o,zjC cA]
     have FD:day<zaD y m+za4 y m:=by
      by_cases nv:m<12
      ·have: ¬zaD y (m+1)<=day:=fun h=>cA ⟨nv,h⟩
       rw[hu]at this;omega
      ·obtain rfl:m=12:=by omega
       exact Bz.o
     have HD:Hid (DateIs day (zbR day) (zbg day)):=by
      show DateIs _ _ _;rw[HN.o,kK.o];exact⟨lh,by omega,cu,fG,dI,FD⟩
     have nU:=zHi (fun W (h:m<12)=>zdm y (m+1) W lh Mcl Mcl Mcl);have qk:=zHi (fun W=>zdm y m W lh Mcl cu fG);rw[show((m+1:Nat):Int)=(m:Int)+1 from rfl]at nU;have bN: ∀W:World,W=W->True:=fun _ _=>trivial
     clear hu dI FD bN;by_cases nv:m<12
     ·have fQ:(m:Int)<12:=Mcl;have kj: ¬zaD y (m+1)<=day:=fun h=>cA ⟨nv,h⟩
      have qj:=zHi (fun W=>nU.o W nv);clear cA;go_upto_region 6 with(go_at_call 195;refine(qj.o _).mono ?_;rintro e wq ⟨rfl,rfl⟩)
      exact Mcd
     ·have fQ: ¬(m:Int)<12:=Mcl;clear cA nU;go_upto_region 6 with fail
      exact Mcd
theorem zh0 (n:Int) (w:World):Calls Tryz.prog 194 #[.int .i64 n] w (Ret0 w (.bool (inR n 1800 2347))):=by
 go_enter Tryz.func194,Tryz.ntmps194
 exact Mat
theorem ziR (n:Int) (w:World):Calls Tryz.prog 197 #[.int .i64 n] w (Ret0 w (.bool (zbm n))):=by
 go_enter Tryz.func197,Tryz.ntmps197
 exact Mat
theorem zjX (n:Int) (w:World) (h0:0<=n) (h1:n<=1000000):Calls Tryz.prog 193 #[.int .i64 n, .int .i64 12] w (Ret0 w (.int .i64 (n%12))):=by
 have e1:n.tmod 12=n%12:=Int.tmod_eq_emod_of_nonneg h0;have k1:IntKind.i64.wrap (n%12)=n%12:=IntWalk.i64_in _ Mcl;have k2:IntKind.i64.wrap (n%12+12)=n%12+12:=IntWalk.i64_in _ Mcl;have e2:(n%12+12).tmod 12=n%12:=by rw[Int.tmod_eq_emod_of_nonneg Mcl];omega
 go_enter Tryz.func193,Tryz.ntmps193
 go_wp2_with fail
 go_ret
 exact⟨by first|rfl|simp,rfl⟩
theorem zmh (n:Int) (w:World) (h0:0<=n) (h1:n<=1000000):Calls Tryz.prog 192 #[.int .i64 n, .int .i64 12] w (Ret0 w (.int .i64 (n/12))):=by
 have k1:IntKind.i64.wrap (n-n%12)=n-n%12:=IntWalk.i64_in _ Mcl;have e1:(n-n%12).tdiv 12=n/12:=by rw[Int.tdiv_eq_ediv_of_nonneg Mcl];omega
 have k2:IntKind.i64.wrap (n/12)=n/12:=IntWalk.i64_in _ Mcl;go_enter Tryz.func192,Tryz.ntmps192
 go_wp2_with (go_at_call 193;refine(zjX _ _ h0 h1).mono ?_;rintro e wq ⟨rfl,rfl⟩)
 go_ret
 exact⟨by first|rfl|simp,rfl⟩
theorem ziS (day mo:Int) (w:World) (h0:0<=day) (h1:day<=200000) (nI:0<=mo) (cu:mo<=12000):
 Calls Tryz.prog 180 #[.int .i64 day, .int .i64 mo] w (fun e w'=> ∃n:Int,∃ok:Bool,(ok=true->zbS day mo=n/\0<=n)/\(ok=false->zbS day mo= -1)/\Ret w (.tuple #[.int .i64 n, .bool ok]) e w'):=by
 have hA:zbS day mo=if !inR ((zbR day*12+zbg day-1+mo)/12) 1800 2347 then-1 else
  if zbm (zaD ((zbR day*12+zbg day-1+mo)/12) ((zbR day*12+zbg day-1+mo)%12+1).toNat+min (day-zaD (zbR day) (zbg day)+1) (za4 ((zbR day*12+zbg day-1+mo)/12) ((zbR day*12+zbg day-1+mo)%12+1))-1)then
   zaD ((zbR day*12+zbg day-1+mo)/12) ((zbR day*12+zbg day-1+mo)%12+1).toNat+min (day-zaD (zbR day) (zbg day)+1) (za4 ((zbR day*12+zbg day-1+mo)/12) ((zbR day*12+zbg day-1+mo)%12+1))-1 else-1:=rfl
 have HA:=zHi hA;clear hA;have HD:=zHi (fun W=>zmg day W h0 h1);generalize zbR day=y at*;generalize zbg day=m at*;generalize zbS day mo=R at*;go_enter Tryz.func180,Tryz.ntmps180
 go_upto_region 2 with(go_at_call 191;refine(HD.o _).mono ?_;rintro e wq ⟨CC,rfl,z,rfl⟩;simp only[zmB])
 obtain⟨d1,d2,d3,d4,d5,d6⟩:=CC;obtain⟨f1,f2⟩:=zdA y d3 d4;obtain⟨X,hX⟩: ∃X,X=day-zaD y m+1:=⟨_,rfl⟩
 obtain⟨N,hN⟩: ∃N,N=y*12+m-1+mo:=⟨_,rfl⟩
 have sJ:Hid (R=if !inR (N/12) 1800 2347 then-1 else if zbm (zaD (N/12) (N%12+1).toNat+min X (za4 (N/12) (N%12+1))-1)then zaD (N/12) (N%12+1).toNat+min X (za4 (N/12) (N%12+1))-1 else-1):=by
  show _=_;rw[HA.o,hX,hN]
 have Jl:1<=X:=Mcl;have zH:X<=31:=Mcl;rw[<-hX];have k1:IntKind.i64.wrap (y*12)=y*12:=IntWalk.i64_in _ Mcl;have k2:IntKind.i64.wrap (y*12+m)=y*12+m:=IntWalk.i64_in _ Mcl;have k3:IntKind.i64.wrap (y*12+m-1)=y*12+m-1:=IntWalk.i64_in _ Mcl;have k4:IntKind.i64.wrap (y*12+m-1+mo)=N:=by rw[hN];exact IntWalk.i64_in _ Mcl
 have BZ:0<=N/\N<=100000:=Mcl;obtain⟨qY,C0⟩:=BZ;clear HA hX hN HD d5 d6 f1 f2;have gN:0<=N/12:=Mcl;obtain⟨mm,da⟩: ∃mm:Nat,(mm:Int)=N%12+1:=⟨(N%12+1).toNat,by omega⟩
 have dA:1<=mm:=Mcl;have jx:mm<=12:=Mcl;have ht:(N%12+1).toNat=mm:=Mcl;have cG:Hid (R=if !inR (N/12) 1800 2347 then-1 else if zbm (zaD (N/12) mm+min X (za4 (N/12) mm)-1)then zaD (N/12) mm+min X (za4 (N/12) mm)-1 else-1):=by
  show _=_;rw[sJ.o,ht,<-da]
 have k5:IntKind.i64.wrap (N%12+1)=(mm:Int):=by rw[da];exact IntWalk.i64_in _ Mcl
 obtain⟨Y,hY⟩: ∃Y,N/12=Y:=⟨_,rfl⟩
 rw[hY]at cG;have wk:Y<=10000:=Mcl;have df:0<=Y:=Mcl;clear sJ ht;have yV:=zHi da;clear da
 go_upto_region 4 with(first
  |(go_at_call 192;refine(zmh _ _ qY Mcl).mono ?_;rintro e wq ⟨rfl,rfl⟩;rw[hY])
  |(go_at_call 193;refine(zjX _ _ qY Mcl).mono ?_;rintro e wq ⟨rfl,rfl⟩))
 cases aN:inR Y 1800 2347
 ·have HR:Hid (R= -1):=MdI;go_wp2_with (go_at_call 194;refine(zh0 _ _).mono ?_;rintro e wq ⟨rfl,rfl⟩;rw[aN])
  all_goals go_ret2
  all_goals exact⟨0,false,by simp,fun _=>HR.o,Ret.of rfl Bw⟩
 ·have wn:1800<=Y/\Y<=2347:=by simpa[inR]using aN
  obtain⟨f1,f2⟩:=zdA Y dA jx;have rU:=zbY (m:=mm) wn.1 Mcl dA Mcl;have HR:Hid (R=if zbm (zaD Y mm+min X (za4 Y mm)-1)then zaD Y mm+min X (za4 Y mm)-1 else-1):=MdI;clear cG;go_upto_region 6 with(go_at_call 194;refine(zh0 _ _).mono ?_;rintro e wq ⟨rfl,rfl⟩;rw[aN])
  have uM:=zHi (fun W=>zfq Y mm W df Mcl dA jx);have uw:=zHi (fun W=>zdm Y mm W wn.1 Mcl dA jx);have j1:IntKind.i64.wrap (zaD Y mm+min X (za4 Y mm))=zaD Y mm+min X (za4 Y mm):=IntWalk.i64_in _ Mcl;have j2:IntKind.i64.wrap (zaD Y mm+min X (za4 Y mm)-1)=zaD Y mm+min X (za4 Y mm)-1:=IntWalk.i64_in _ Mcl;generalize za4 Y mm=L at*;generalize zaD Y mm=F at*;clear rU;refine zaj Mcm Mcm ?_;repeat(first|go_big_quiet_skip|(go_big_quiet_want;go_big_quiet_op;first|go_big_quiet_on|(apply Exists.intro;refine⟨fun _=> ?_,?_⟩;(first|(go_at_call 196;exact zhV (uM.o _))|(go_at_call 195;exact zhV (uw.o _)));go_big_quiet_on)))
  refine wpQuiet_nil ?_;rintro _ ⟨zq,rfl⟩;generalize hO:F+min X L-1=out at*;have HO:=zHi hO;clear hO uM uw j1 j2;cases hd:zbm out
  ·have jF:=zHi hd;go_wp2_with (go_at_call 197;refine(ziR _ _).mono ?_;rintro e wq ⟨rfl,rfl⟩;rw[hd])
   exact MbD
  ·have jF:=zHi hd;go_wp2_with (go_at_call 197;refine(ziR _ _).mono ?_;rintro e wq ⟨rfl,rfl⟩;rw[hd])
   exact Ma0
theorem zjY (day ys:Int) (w:World) (h0:0<=day) (h1:day<=200000) (nI:0<=ys) (cu:ys<=99):
 Calls Tryz.prog 164 #[.int .i64 day, .int .i64 ys] w (Ret w (.int .i64 (zci day ys))):=by
 have HL:=zHi (ziS day (12*ys) w h0 h1 Mcl Mcl);have bQ:=zkJ day ys;unfold zci at bQ;have AK:=zHi bQ;have kz:IntKind.i64.wrap (12*ys)=12*ys:=IntWalk.i64_in _ Mcl;clear bQ;go_enter Tryz.func164,Tryz.ntmps164
 go_upto_region 2 with(go_at_call 180;refine(HL.o).mono ?_;rintro e wq ⟨n,ok,k1,k2,rfl,z,rfl⟩;have H1:=zHi k1;have H2:=zHi k2;clear k1 k2)
 cases ok
 ·have HE:Hid (zci day ys= -1):=by show _=_;unfold zci;exact H2.o rfl
  go_wp2_with fail
  go_ret
  exact Ret.of (zb5 HE.o.symm) Bw
 ·have HE:Hid (zci day ys=n):=by show _=_;unfold zci;exact(H1.o rfl).1
  have hn: ¬200000<n:=by have:=AK.o;have:=(H1.o rfl).1;omega
  go_wp2_with fail
  go_ret
  exact Ret.of (zb5 HE.o.symm) Bw
end Go.Proofs.YtckkbkdcdkhglaaGreatDoor
