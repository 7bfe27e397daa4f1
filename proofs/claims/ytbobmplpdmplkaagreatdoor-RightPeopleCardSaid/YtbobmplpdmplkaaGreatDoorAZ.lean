import Derived.Test.YtbobmplpdmplkaaGreatDoorChecked
import Derived.LaidMore
import Derived.Lay
import Derived.Stop.Joined
import Derived.Stop.LaidErr
import Derived.Test.YtbobmplpdmplkaaGreatDoorUI
set_option linter.all false
set_option maxRecDepth 100000
set_option maxHeartbeats 4000000
namespace Go.Proofs.YtbobmplpdmplkaaGreatDoor
open Go.RowKit
attribute [local go_sem] World.cell?_alloc_mark zaf za4 zam za7 zaw zax zay zaz za0 za1 za2
attribute [local go_sem] zan zac
section
open Go.Shelf
theorem znn(l:List Rec)(A:Option Addr)(c:Nat)(w:World)(hc:l.length<=c)(hl:l.length<=1000)(h0:∀x∈l,0<=x.kind/\x.kind<=4)(h2:∀x∈l,x.kind≠2)
 (h3:(∀x∈l,x.kind≠3)\/∃nm ot pl dy tl nu de q,l=[⟨3,nm,ot,pl,dy,tl,nu,de⟩]/\Int.tdiv 27720 de=q/\¬de=0/\(0<=q/\q<=27720)/\(0<=nu*q/\nu*q<=27720))(hS:Sl w 8 Rec.cells A l):
 Calls Tryz.prog 56 #[.slice A l.length c] w (Ret w (.bool (zjY l))):=by
 have h:=zjn l A c false false w hc hl h0 hS (fun W hB=>zmP l A c W hc hl h2 (hS.keep hB)) (fun W hB=>by
  rcases h3 with h3|⟨nm,ot,pl,dy,tl,nu,de,q,rfl,e1,e2,e3,e4⟩
  ·exact zlL l A c W hc hl h3 (hS.keep hB)
  ·exact zlV nm ot pl dy tl nu de q A c W hc e1 e2 e3 e4 (hS.keep hB))
 rw[Bool.or_false,Bool.or_false]at h;exact h
theorem lens5:recLens zfk:=by
 intro x hx;simp only[zfk,List.mem_cons,List.not_mem_nil,or_false]at hx;rcases hx with rfl|rfl|rfl|rfl|rfl<;>exact⟨by decide,by decide,by decide⟩
def Con5(w:World)(xs:List Nat)(b:Bool):Prop:= ∀W,Below w.heap.size w W->∀A c,(ofP zfk xs).length<=c->Sl W 8 Rec.cells A (ofP zfk xs)->Calls Tryz.prog 56 #[.slice A (ofP zfk xs).length c] W (Ret W (.bool b))
theorem con5_low{w:World}{k:Nat}(h:k<6):Con5 w (zcV 5 k) (k==5):=fun W hB A c hc hS=>by
 have b9:∀k<6,(ofP zfk (zcV 5 k)).all (fun x=>decide (0<=x.kind)&&decide (x.kind<=4)&&x.kind != 2&&x.kind != 3)=true/\zjY (ofP zfk (zcV 5 k))=(k==5)/\(ofP zfk (zcV 5 k)).length<=1000:=by decide+kernel
 obtain⟨e1,e2,e3⟩:=b9 k h;rw[List.all_eq_true]at e1;have h:=znn (ofP zfk (zcV 5 k)) A c W hc e3 (fun x hx=>by have:=e1 x hx;simp at this;omega) (fun x hx=>by have:=e1 x hx;simp at this;omega) (.inl fun x hx=>by have:=e1 x hx;simp at this;omega) hS;rw[e2]at h;exact h
theorem con5_one{w:World}{xs:List Nat}(h:xs=[3]\/xs=[4]):Con5 w xs false:=fun W hB A c hc hS=>by
 rcases h with rfl|rfl
 ·exact znn (ofP zfk [3]) A c W hc McA McA McA (.inr ⟨_,_,_,_,_,_,_,13860,rfl,by decide,by decide,by decide,by decide⟩) hS
 ·exact znn (ofP zfk [4]) A c W hc McA McA McA (.inr ⟨_,_,_,_,_,_,_,9240,rfl,by decide,by decide,by decide,by decide⟩) hS
theorem bits5:∀k,k<32->6<=k->2<(zcV 5 k).length\/((zcV 5 k).length=2/\0<lexC (zcV 5 k) [0,2])\/zcV 5 k=[3]\/zcV 5 k=[4]:=by decide+kernel
theorem bits5_in:∀k,k<32->((zcV 5 k).length<=5/\∀i∈zcV 5 k,i<5):=by decide+kernel
theorem neqA(W:World):(binOp .neq 63 (.slice none 0 0) (.slice none 0 0)).run Tryz.prog W=.ok (.bool false) W:=by kernel_rfl
theorem neqB(a:Addr)(n c:Nat)(W:World):(binOp .neq 63 (.slice (some a) n c) (.slice none 0 0)).run Tryz.prog W=.ok (.bool true) W:=by kernel_rfl
theorem eqlB(a:Addr)(n c:Nat)(W:World):(binOp .eql 63 (.slice (some a) n c) (.slice none 0 0)).run Tryz.prog W=.ok (.bool false) W:=by kernel_rfl
def zhg(w:World)(e:Ending)(w':World):Prop:= ∃A c,e=.returned (.tuple #[.slice A 2 c,.int .i64 0])/\2<=c/\Sl w' 1 intC A [0,2]/\Below w.heap.size w w'
def Best5(W:World)(base k:Nat)(v:Value):Prop:=(k<=5/\v=.slice none 0 0)\/(6<=k/\OwnS W base 3 1 intC v [0,2])
theorem Best5.keep{W W':World}{base k n:Nat}{v:Value}(h:Best5 W base k v)(hB:Below n W W')(hn:W.heap.size<=n:=by first|exact Nat.le_refl _|omega):Best5 W' base k v:=h.imp id fun⟨a,b⟩=>⟨a,b.keep hB hn⟩
theorem zpk(A:Option Addr)(c:Nat)(w:World)(hc:5<=c)(hT:TzTab w)(hS:Sl w 8 Rec.cells A zfk):Calls Tryz.prog 25 #[.slice A 5 c] w (zhg w):=by
 obtain⟨HS,iC⟩:=yH2 hS (fun W (hB:Below w.heap.size w W)=>zh1 zfk A 5 c W rfl hc lens5 (hS.keep hB));rw[recs5_ok]at iC;have HT:=zHi hT;clear hS hT;unfold zhg;go_enter Tryz.func25,Tryz.ntmps25
 go_upto_region 8 with(go_at_call 53;go_must(refine(iC.o _ Bw).mono ?_);rintro e wq ⟨rfl,z,rfl⟩)
 go_loopw [5,19] (fun v i wr=>∃k:Nat,k<=32/\i=.int .i64 k/\Best5 wr w.heap.size k v/\Below w.heap.size w wr) (fun _ i _=>32-(intOf i).toNat)
 case atStart=>exact⟨0,Nat.zero_le _,rfl,.inl ⟨by omega,rfl⟩,Bw⟩
 case round=>
  obtain⟨k,hk,rfl,mi,hB⟩:=hrel;have HB:=zHi hB;have aG:=hB.size;by_cases ae:k<32
  ·have eG:=zHi (zl4 5 k wr Mcy ae (HT.o.keep hB));obtain⟨bM,aH⟩:=bits5_in k ae;have ao:=bits5 k ae;have dM:=fun(W:World) (h:k<6)=>con5_low (w:=W) h
   have ak:=zHi ae;have ar:(k:Int)<32:=Mcy;have mA:k=5->zcV 5 k=[0,2]:=fun e=>by rw[e];decide+kernel
   have lB:=zHi mi;obtain⟨xs,bv⟩:∃xs,zcV 5 k=xs:=⟨_,rfl⟩
   rw[bv]at eG aH bM ao dM mA;obtain⟨bW,AP,aR,th⟩:=yH4 aH dM ao mA;clear hB ae mi bv aH dM ao mA;go_upto_region 11 with(go_at_call 54;go_must(refine eG.o.mono ?_);rintro e wq ⟨vx,rfl,jA,DF⟩)
   obtain⟨XA,xc,rfl,tM,ui⟩:=jA.sl zgx;obtain⟨IR,av,An⟩:=yH3 (jA.base_le aG) (HB.o.trans (DF.mono aG)) (lB.o.keep DF);have ia:=zHi (fun W (hW:Below wq.heap.size wq W)=>some_any zfk xs A c XA xc W hc ui Mcy bW.o (HS.o.keep (av.o.trans (hW.mono av.o.size))) (tM.keep hW));have bZ:=zHi tM;rw[show zfk.length=5 from rfl]at ia;clear jA tM DF eG;rcases An.o with⟨nI,hv⟩|⟨eW,aa⟩
   ·subst hv;have gX:=neqA;obtain⟨uN,lG⟩:=yH2 nI (AP.o wq Mcy);clear nI;by_cases hk:k=5
    ·subst hk;have hx:=th.o rfl;subst hx
     go_wp2_with (first
      |(go_at_call 55;go_must(refine(jS.o _ Bw).mono ?_);rintro e wq5 ⟨rfl,rfl⟩)
      |(go_at_call 57;go_must(refine(ia.o _ Bw).mono ?_);rintro e w7 ⟨v7,rfl,pS,bQ⟩;obtain⟨A7,c7,rfl,kv,wB⟩:=pS.sl zgy;obtain⟨cj,vh⟩:=yH2 bQ kv;clear pS bQ kv)
      |(go_at_call 56;go_must(refine(lG.o _ cj.o A7 c7 wB vh.o).mono ?_);rintro e wq8 ⟨rfl,z8,rfl⟩))
     go_round
     case rel=>exact⟨6,by omega,by go_num,.inr ⟨Nat.le_refl _,(IR.o.keep cj.o).keep (zaq w7 z8)⟩,av.o.trans ((cj.o.trans ((zaq w7 z8).mono cj.o.size)).mono (av.o.size))⟩
     case measure=>simp only[intOf];omega
    ·have mG:(k==5)=false:=by simpa using hk
     rw[mG]at lG;have I6:=zHi (show k+1<=5 by have:=uN.o;omega);clear hk mG;generalize jv:xs.length=nx at*
     go_wp2_with (first
      |(go_at_call 55;go_must(refine(jS.o _ Bw).mono ?_);rintro e wq5 ⟨rfl,rfl⟩)
      |(go_at_call 57;go_must(refine(ia.o _ Bw).mono ?_);rintro e w7 ⟨v7,rfl,pS,bQ⟩;obtain⟨A7,c7,rfl,kv,wB⟩:=pS.sl zgy;obtain⟨cj,vh⟩:=yH2 bQ kv;clear pS bQ kv)
      |(go_at_call 56;go_must(refine(lG.o _ cj.o A7 c7 wB vh.o).mono ?_);rintro e wq8 ⟨rfl,z8,rfl⟩))
     go_round
     case rel=>exact⟨k+1,ak.o,by go_num,.inl ⟨I6.o,rfl⟩,av.o.trans ((cj.o.trans ((zaq w7 z8).mono cj.o.size)).mono (av.o.size))⟩
     case measure=>have:=ak.o;simp only[intOf];omega
   ·obtain⟨SA,sc,rfl,C9,Gu⟩:=aa.sl zgx;obtain⟨dH,HK6,uO⟩:=yH3 aa eW (show 6<=k+1 by omega);cases SA with
    |none=>
     exfalso
     obtain⟨b,off,h,_⟩:=C9 McB;cases h
    |some sa=>
     have gX:=neqB sa 2 sc;have jS:=zHi (fun W (hW:Below wq.heap.size wq W)=>zmE xs [0,2] XA (some sa) xc sc W ui Gu Mcy (bZ.o.keep hW) (C9.keep hW));rw[show([0,2]:List Nat).length=2 from rfl]at jS;have hb:=aR.o eW;clear C9 aa eW;rcases hb with h1|⟨h1,h2⟩|h1
     ·have bB:(2:Int)<(xs.length:Int):=Mcy;clear h1;generalize jv:xs.length=nx at*;go_wp2_with fail
      exact MaX
     ·have hC:(0:Int)<lexC xs [0,2]:=h2;generalize lexC xs [0,2]=C at*;rw[h1]at jS ui;have eE:xs.length=2:=h1;clear h1 h2;go_wp2_with (go_at_call 55;go_must(refine(jS.o _ Bw).mono ?_);rintro e wq5 ⟨rfl,rfl⟩)
      exact MaX
     ·have lG:=zHi (con5_one (w:=wq) h1);have jO:xs.length=1:=by rcases h1 with rfl|rfl<;>rfl
      rw[jO]at ia;clear h1
      go_wp2_with (first
       |(go_at_call 55;go_must(refine(jS.o _ Bw).mono ?_);rintro e wq5 ⟨rfl,rfl⟩)
       |(go_at_call 57;go_must(refine(ia.o _ Bw).mono ?_);rintro e w7 ⟨v7,rfl,pS,bQ⟩;obtain⟨A7,c7,rfl,kv,wB⟩:=pS.sl zgy;obtain⟨cj,vh⟩:=yH2 bQ kv;clear pS bQ kv)
       |(go_at_call 56;go_must(refine(lG.o _ cj.o A7 c7 wB vh.o).mono ?_);rintro e wq8 ⟨rfl,z8,rfl⟩))
      go_round
      case rel=>exact⟨k+1,ak.o,by go_num,.inr ⟨uO.o,(dH.o.keep cj.o).keep (zaq w7 z8)⟩,av.o.trans ((cj.o.trans ((zaq w7 z8).mono cj.o.size)).mono (av.o.size))⟩
      case measure=>have:=ak.o;simp only[intOf];omega
  ·have ar:¬(k:Int)<32:=Mcy;have eW:¬k<=5:=Mcy;rcases mi with⟨h1,_⟩|⟨_,aa⟩
   ·exact absurd h1 eW
   ·obtain⟨SA,sc,rfl,h3,h4⟩:=aa.sl zgx;have H3:=zHi h3;cases SA with
    |none=>
     exfalso
     obtain⟨b,off,h,_⟩:=h3 McB;cases h
    |some sa=>
     have gX:=eqlB sa 2 sc;clear aa h3 hB ae eW;go_wp2_with fail
     go_ret2
     exact⟨some sa,sc,rfl,h4,H3.o,HB.o⟩
def famR:List RPart:=[⟨nBob,3,8⟩,⟨nCat,3,8⟩,⟨nDan,1,4⟩]
theorem fam_cells:zg8.map zaa=famR.map RPart.cells:=by kernel_rfl
theorem fam_holds:zf5 fam5 nA1 200=zg8:=by kernel_rfl
theorem fam_err(names:List ByteArray)(day:Int)(hn:names.any (fun s=>!zaS s)=false)(hd:zbn day=true):zc1 zcj zbI names day=0:=by
 unfold zc1;have h:(zew zcj zbI 200000).2=(5,0):=by rw[zdY,zhe 200000 McA]
 rw[h,hn,hd];rfl
theorem fam_bury:zf6 zcj zbI nA1 nAnn 300=(true,0):=by
 unfold zf6;rw[fam_err [nA1,nAnn] 300 Mcz Mcz,zhe 300 McA];have h:zaR fam5 nA1 300=some 0:=Mcz;simp only[bne_self_eq_false,Bool.false_eq_true,if_false];rw[h];have hg:fam5.graves.getD 0 zga=⟨nA1,1,-1,zg8,[nAnn]⟩:=rfl;simp only[hg];have he:entP fam5 ⟨nA1,1,-1,zg8,[nAnn]⟩ nAnn=true:=by
  unfold entP;have:[nAnn].any (zfU fam5 1 nAnn)=true:=by
   rw[List.any_cons];unfold zfU;rw[show zae nAnn nAnn=true from zb8 _];rfl
  rw[this,Bool.or_true]
 rw[he,Bool.or_true]
theorem zoh:∀d∈zbI,zdt d:=by
 intro d hd;simp only[zbI,List.mem_cons,List.not_mem_nil,or_false]at hd;rcases hd with rfl|rfl|rfl|rfl|rfl<;>exact⟨by decide,by decide,by simp[famD];try decide,by simp[famD]⟩
structure Laid5 (w:World):Prop where
 forms:FormsIn w
 lens:LensIn w
 tz:TzTab w
theorem Laid5.keep{w W:World}{n:Nat}(h:Laid5 w)(hB:Below n w W)(hn:w.heap.size<=n:=by first|exact Nat.le_refl _|omega):Laid5 W:=⟨h.forms.keep hB hn,h.lens.keep hB hn,h.tz.keep hB hn⟩
def HoldPost(w:World)(e:Ending)(w':World):Prop:= ∃A c,e=.returned (.tuple #[.slice A 3 c,.int .i64 0])/\3<=c/\Sl w' 3 RPart.cells A famR/\Below w.heap.size w w'
theorem zjs(LA DA:Option Addr)(w:World)(hR:RightsIn w zcj zbI LA 2 2 DA 5 5)(hL:Laid5 w):Calls Tryz.prog 22 #[.agg #[.slice LA 2 2,.slice DA 5 5],.string ⟨#[97,49]⟩,.int .i64 200] w (HoldPost w):=by
 refine(zmY zcj zbI nA1 200 LA 2 2 DA 5 5 w hR hL.forms hL.lens zoh McA).mono ?_;rintro e w' ⟨hB,h⟩;rw[fam_err [nA1] 200 Mcz Mcz,zhe 200 McA]at h;rcases h with⟨h,_⟩|⟨_,A,c,rfl,hc,hS⟩
 ·exact absurd rfl h
 ·rw[show((fam5,5,(0:Int)):St×Nat×Int).1=fam5 from rfl,fam_holds]at hc hS⊢;exact⟨A,c,rfl,hc,sl_same hS fam_cells,hB⟩
theorem zno(LA DA:Option Addr)(w:World)(hR:RightsIn w zcj zbI LA 2 2 DA 5 5)(hL:Laid5 w):Calls Tryz.prog 24 #[.agg #[.slice LA 2 2,.slice DA 5 5],.string ⟨#[97,49]⟩,.string ⟨#[97,110,110]⟩,.int .i64 300] w (Ret w (.tuple #[.bool true,.int .i64 0])):=by
 have:=zna zcj zbI nA1 nAnn 300 LA 2 2 DA 5 5 w hR hL.forms hL.lens zoh McA McA;rw[fam_bury]at this;exact this
theorem zmg(A:Option Addr)(w:World)(hS:Sl w 8 Rec.cells A zfk)(hL:Laid5 w):Calls Tryz.prog 25 #[.slice A 5 5] w (zhg w):=zpk A 5 w (Nat.le_refl _) hL.tz hS
theorem fam_same(A2:Option Addr)(c2:Nat)(cx:3<=c2)(P:Nat)(W:World)(h:Sl W 3 RPart.cells A2 famR)(hP:W.heap[P]?=some (.cells #[.string ⟨#[98,111,98]⟩,.int .i64 3,.int .i64 8,.string ⟨#[99,97,116]⟩,.int .i64 3,.int .i64 8,.string ⟨#[100,97,110]⟩,.int .i64 1,.int .i64 4] 71)):
 Calls Tryz.prog 26 #[.slice A2 3 c2,.slice (some ⟨P,0,none⟩) 3 3] W (Ret W (.bool true)):=
 zkI famR A2 (some ⟨P,0,none⟩) c2 3 _ h (zdZ (fun _=>rfl) hP rfl) McA cx McA
theorem two_same(A5:Option Addr)(c5:Nat)(nD:2<=c5)(P:Nat)(W:World)(h:Sl W 1 intC A5 [0,2])(hP:W.heap[P]?=some (.cells #[.int .i64 0,.int .i64 2] 3)):
 Calls Tryz.prog 28 #[.slice A5 2 c5,.slice (some ⟨P,0,none⟩) 2 2] W (Ret W (.bool true)):=
 zlY [0,2] A5 (some ⟨P,0,none⟩) c5 2 _ h (zdZ (fun _=>rfl) hP rfl) McA nD McA
theorem zpl(w:World)(hL:Laid5 w):Calls Tryz.prog 5 #[] w (Ret w (.bool true)):=by
 have HL:=zHi hL;clear hL;go_enter Tryz.func5,Tryz.ntmps5
 go_upto_region 2 with(first
  |(go_at_call 23;go_must(refine(zjO _).mono ?_);rintro e w1 ⟨LA,DA,rfl,hr,hb⟩;obtain⟨HR,HB⟩:=yH2 hr hb;clear hr hb)
  |(go_at_call 22;go_must(refine(zjs LA DA _ HR.o (HL.o.keep HB.o)).mono ?_);rintro e w2 ⟨A2,c2,rfl,cx,bn,bs⟩;obtain⟨yX,aJ⟩:=yH2 bn (HB.o.trans (bs.mono HB.o.size));clear bn bs))
 clear HR HB
 go_upto_region 3 with(first
  |(go_at_call 23;go_must(refine(zjO _).mono ?_);rintro e w3 ⟨LA3,DA3,rfl,hr,hb⟩;obtain⟨HR,aD,HB⟩:=yH3 hr hb (aJ.o.trans (hb.mono aJ.o.size));clear hr hb)
  |(go_at_call 24;go_must(refine(zno LA3 DA3 _ HR.o (HL.o.keep HB.o)).mono ?_);rintro e w4 ⟨rfl,z4,rfl⟩))
 obtain⟨Ek,cM⟩:=yH2 ((yX.o.keep aD.o).keep (zaq w3 z4)) (HB.o.trans ((zaq w3 z4).mono HB.o.size));generalize w3.ext z4=W4 at*;clear HR HB yX aJ aD;have GF:w.heap.size<=W4.heap.size:=cM.o.size
 go_upto_region 4 with(go_at_call 25
                       go_must(refine(zmg _ _ (zdZ (fun _=>rfl) (zar _ _ _ rfl) rfl) ((HL.o.keep cM.o).keep (n:=W4.heap.size) Bw)).mono ?_)
                       rintro e w5 ⟨A5,c5,rfl,nD,jN,ao⟩)
 have El:=zHi (Ek.o.keep ((zad (Below.refl _ _) _ (Nat.le_refl _)).trans (ao.mono McB)));have bj:=zHi (cM.o.trans (((zad (Below.refl _ _) _ (Nat.le_refl _)).trans (ao.mono McB)).mono GF));have DZ:=zHi jN;clear Ek cM jN ao;obtain⟨ib,nW⟩:=yH2 (fun(W:World) (hW:Below w5.heap.size w5 W)=>fun(P:Nat) hP=>fam_same A2 c2 cx P W (El.o.keep hW) hP) (fun(W:World) (hW:Below w5.heap.size w5 W)=>fun(P:Nat) hP=>two_same A5 c5 nD P W (DZ.o.keep hW) hP);clear El DZ;have GH:w.heap.size<=w5.heap.size:=bj.o.size;clear HL
 go_wp2_with (first
  |(go_at_call 27;go_must(refine(zlX _ _ _ _).mono ?_);rintro e wq ⟨rfl,zq,rfl⟩)
  |(go_at_call 26;go_must(refine(ib.o _ Bw _ (zar _ _ _ MdE)).mono ?_);rintro e wq ⟨rfl,zq,rfl⟩)
  |(go_at_call 28;go_must(refine(nW.o _ Bw _ (zar _ _ _ MdE)).mono ?_);rintro e wq ⟨rfl,zq,rfl⟩))
 go_ret
 exact Ret.of rfl (bj.o.trans (Below.mono (B:=w5.heap.size) Bw bj.o.size))
end
section
open Go.ChangeShapes Go.WideShapes Go.ChangeAt Go.Deep
theorem znp{α:Type}{Q:Nat->α->Prop}:∀n:Nat,(∀i,i<n->∃x,Q i x)->∃l:List α,l.length=n/\∀(i:Nat) (x:α),l[i]?=some x->Q i x
 |0,_=>⟨[],rfl,fun i x h=>by simp at h⟩
 |n+1,h=>by
  obtain⟨l,hl,hq⟩:=znp n (fun i hi=>h i Mcy);obtain⟨x,hx⟩:=h n Mcy;refine⟨l++[x],by simp[hl],fun i y hy=>?_⟩;by_cases hi:i<n
  ·rw[List.getElem?_append_left Mcy]at hy;exact hq i y hy
  ·by_cases he:i=n
   ·subst he;rw[List.getElem?_append_right Mcy,hl]at hy;simp at hy;subst hy;exact hx
   ·rw[List.getElem?_append_right Mcy]at hy;have:i-l.length≠0:=by omega
    obtain⟨m,hm⟩:=Nat.exists_eq_succ_of_ne_zero this;rw[hm]at hy;simp at hy
section
variable {H:Type} {enc:TypeId×Value->H} {P:Program} {w:World} {base:Nat} {spare:Nat->Bool} {held:Bool}
theorem zjQ{α:Type}{f:α->List Value}{size:Nat}(hsz:0<size)(ag:∀x,(f x).length=size){t e:TypeId}{fuel:Nat}{cs:List Value}{x:DataW H×List MemPlace}(ht:P.underlying t=some (.slice e))(hC:P.cellsOf e=size)
 (mz:∀(n:Nat) (cs:List Value) (y:DataW H×List MemPlace),DataW.trod enc P w base spare held n e cs=some y->∃s:α,cs=f s)(h:DataW.trod enc P w base spare held fuel t cs=some x):
 ∃(A:Option Addr) (n c:Nat) (xs:List α),cs=[.slice A n c]/\n=xs.length/\Sl w size f A xs/\xs.length<=c/\c<=maxLen:=by
 rcases open_slice ht h with⟨rfl,_⟩|⟨a,len,cap,m,n,D,Pl,rfl,_,hl,hm,bO,_,hi⟩
 ·exact⟨none,0,0,[],rfl,rfl,Sl.nil,Nat.le_refl _,Nat.zero_le _⟩
 ·have bI:len<=m:=by rw[bO];split<;>omega
  obtain⟨l,fF,hq⟩:=znp (Q:=fun i (s:α)=>∀j,j<size->w.cell? ((a.add (i*size)).add j)=(f s)[j]?) len (fun i eV=>by
   obtain⟨cs',hc,hr⟩:=hi i Mcy;obtain⟨s,rfl⟩:=mz _ _ _ hr;rw[hC]at hc
   exact⟨s,(World.cells?_some hc).2.2⟩)
  refine⟨some a,len,cap,l,rfl,fF.symm,fun hp=>?_,by omega,hm⟩;have h0:0<l.length:=hp;have hx:=hq 0 l[0] (List.getElem?_eq_getElem h0) 0 hsz;have hv:∃v,(f l[0])[0]?=some v:=⟨_,List.getElem?_eq_getElem (by rw[ag];exact hsz)⟩
  obtain⟨v,hv⟩:=hv;rw[hv]at hx;have bU:=World.cell?_spot hx;have dg:=World.block_lt_of_cell? _ _ hx;obtain⟨b,off,spot⟩:=a;have sK:spot=none:=by simpa[Addr.add]using bU
  subst sK;refine⟨b,off,rfl,by simpa[Addr.add]using dg,fun k y hy j u hu=>?_⟩;have hj:j<size:=by have:=(List.getElem?_eq_some_iff.1 hu).1;rw[ag]at this;exact this
  have:=hq k y hy j hj;exact MbK
end
theorem zmh{H:Type}{enc:TypeId×Value->H}{a:Assume}{C:Checked}{os:Os}{f:FuncId}{fn:Func}{s:ChangeSpec}{conds:List PathCond}{apart fresh handsOn again:Bool}{X:World->Array Value->Prop}
 (hX:∀(w w':World) (args:Array Value),w.heap=w'.heap->X w args->X w' args)
 (own:ownKnob C.prog.godebug=none)(started:os.Started)(noInit:C.prog.inits.idxOf? f=none)(CG:C.prog.funcs[f]?=some fn)
 (witness:∃(w:World) (tape:Tape) (i:Input),w.os=os/\(w.forCall tape i).Shaped C.prog/\i.vars=[]/\Input.okWide C.prog (w.forCall tape i) .any w.heap.size f i/\
   ((s.pre enc C.prog fn conds apart (w.forCall tape i).memory i.args/\X (w.forCall tape i).memory i.args)/\sizedMet enc C.prog fn (OpenSpec.ofChange s) apart (w.forCall tape i).memory i.args)/\a.holds C.prog (lone (Frame.enter C.prog f i.args .normal) [] (w.forCall tape i)))
 (contract:∀(W:World) (base:Nat) (args:Array Value) (ds gs:List (DataW H)) (before:List MemPlace),
   (∀(j:Nat) t v,fn.params[j]?=some t->args[j]?=some v->Value.okWide C.prog W .any base t v)->
   DataW.Whole enc C.prog fn.params.toList s.vars apart W args.toList ds gs before->X W args->W.ShapedOpen C.prog->
   Calls C.prog f args W fun e W'=>∃v,e=.returned v/\s.post enc C.prog fn apart fresh handsOn again W args v W'):
 ReturnsInHanded a C os f .any (fun w args=>(s.pre enc C.prog fn conds apart w args/\X w args)/\sizedMet enc C.prog fn (OpenSpec.ofChange s) apart w args) (s.post enc C.prog fn apart fresh handsOn again):=by
 refine returnsInHanded_of_calls own started noInit witness fun w tape i _ bA _ bE sG _=>?_
 obtain⟨_,_,_,fn',CH,_,_,_,_,fJ⟩:=bE;obtain rfl:fn'=fn:=Option.some.inj (CH.symm.trans CG);obtain⟨⟨⟨ds,gs,before,hw,_⟩,hx⟩,_⟩:=sG;refine(contract (w.forCall tape i) w.heap.size i.args ds gs before fJ (DataW.Whole.of_heap (w':=w.forCall tape i) (by rfl) hw) (hX _ _ _ (by rfl) hx) bA).mono fun e W' h=>?_
 obtain⟨v,rfl,hp⟩:=h;exact ChangeSpec.post_blind hp
theorem own_knob:ownKnob Tryz.prog.godebug=none:=by kernel_rfl
theorem zkJ:laidOutB Tryz.prog=true:=by kernel_rfl
end
section
open Go.Shelf
theorem ziR(day mo:Int)(w:World)(h0:0<=day)(h1:day<=200000)(nK:0<=mo)(cd:mo<=12000):
 Calls Tryz.prog 187 #[.int .i64 day,.int .i64 mo] w (fun e w'=>∃n:Int,∃ok:Bool,(ok=true->zbR day mo=n/\0<=n)/\(ok=false->zbR day mo= -1)/\Ret w (.tuple #[.int .i64 n,.bool ok]) e w'):=by
 have hA:zbR day mo=if !inR ((zbQ day*12+zbe day-1+mo)/12) 1800 2347 then-1 else
  if zbn (zaC ((zbQ day*12+zbe day-1+mo)/12) ((zbQ day*12+zbe day-1+mo)%12+1).toNat+min (day-zaC (zbQ day) (zbe day)+1) (za6 ((zbQ day*12+zbe day-1+mo)/12) ((zbQ day*12+zbe day-1+mo)%12+1))-1)then
   zaC ((zbQ day*12+zbe day-1+mo)/12) ((zbQ day*12+zbe day-1+mo)%12+1).toNat+min (day-zaC (zbQ day) (zbe day)+1) (za6 ((zbQ day*12+zbe day-1+mo)/12) ((zbQ day*12+zbe day-1+mo)%12+1))-1 else-1:=rfl
 have HA:=zHi hA;clear hA;have HD:=zHi (fun W=>zma day W h0 h1);generalize zbQ day=y at*;generalize zbe day=m at*;generalize zbR day mo=R at*;go_enter Tryz.func187,Tryz.ntmps187
 go_upto_region 2 with(go_at_call 198;refine(HD.o _).mono ?_;rintro e wq ⟨CC,rfl,z,rfl⟩;simp only[zmz])
 obtain⟨d1,d2,d3,d4,d5,d6⟩:=CC;obtain⟨f1,f2⟩:=zdA y d3 d4;obtain⟨X,hX⟩:∃X,X=day-zaC y m+1:=⟨_,rfl⟩
 obtain⟨N,hN⟩:∃N,N=y*12+m-1+mo:=⟨_,rfl⟩
 have sW:Hid (R=if !inR (N/12) 1800 2347 then-1 else if zbn (zaC (N/12) (N%12+1).toNat+min X (za6 (N/12) (N%12+1))-1)then zaC (N/12) (N%12+1).toNat+min X (za6 (N/12) (N%12+1))-1 else-1):=by
  show _=_;rw[HA.o,hX,hN]
 have JK:1<=X:=Mcy;have zI:X<=31:=Mcy;rw[<-hX];have k1:IntKind.i64.wrap (y*12)=y*12:=IntWalk.i64_in _ Mcy;have k2:IntKind.i64.wrap (y*12+m)=y*12+m:=IntWalk.i64_in _ Mcy;have k3:IntKind.i64.wrap (y*12+m-1)=y*12+m-1:=IntWalk.i64_in _ Mcy;have k4:IntKind.i64.wrap (y*12+m-1+mo)=N:=by rw[hN];exact IntWalk.i64_in _ Mcy
 have C2:0<=N/\N<=100000:=Mcy;obtain⟨ri,C3⟩:=C2;clear HA hX hN HD d5 d6 f1 f2;have gC:0<=N/12:=Mcy;obtain⟨mm,bO⟩:∃mm:Nat,(mm:Int)=N%12+1:=⟨(N%12+1).toNat,by omega⟩
 have dr:1<=mm:=Mcy;have ju:mm<=12:=Mcy;have ht:(N%12+1).toNat=mm:=Mcy;have cH:Hid (R=if !inR (N/12) 1800 2347 then-1 else if zbn (zaC (N/12) mm+min X (za6 (N/12) mm)-1)then zaC (N/12) mm+min X (za6 (N/12) mm)-1 else-1):=by
  show _=_;rw[sW.o,ht,<-bO]
 have k5:IntKind.i64.wrap (N%12+1)=(mm:Int):=by rw[bO];exact IntWalk.i64_in _ Mcy
 obtain⟨Y,hY⟩:∃Y,N/12=Y:=⟨_,rfl⟩
 rw[hY]at cH;have wt:Y<=10000:=Mcy;have cL:0<=Y:=Mcy;clear sW ht;have pg:=zHi bO;clear bO
 go_upto_region 4 with(first
  |(go_at_call 199;refine(zmb _ _ ri Mcy).mono ?_;rintro e wq ⟨rfl,rfl⟩;rw[hY])
  |(go_at_call 200;refine(zjP _ _ ri Mcy).mono ?_;rintro e wq ⟨rfl,rfl⟩))
 cases aH:inR Y 1800 2347
 ·have HR:Hid (R= -1):=MdV;go_wp2_with (go_at_call 201;refine(zhy _ _).mono ?_;rintro e wq ⟨rfl,rfl⟩;rw[aH])
  all_goals go_ret2
  all_goals exact⟨0,false,by simp,fun _=>HR.o,Ret.of rfl Bw⟩
 ·have wu:1800<=Y/\Y<=2347:=by simpa[inR]using aH
  obtain⟨f1,f2⟩:=zdA Y dr ju;have rZ:=zbW (m:=mm) wu.1 Mcy dr Mcy;have HR:Hid (R=if zbn (zaC Y mm+min X (za6 Y mm)-1)then zaC Y mm+min X (za6 Y mm)-1 else-1):=MdV;clear cH;go_upto_region 6 with(go_at_call 201;refine(zhy _ _).mono ?_;rintro e wq ⟨rfl,rfl⟩;rw[aH])
  obtain⟨uQ,uA⟩:=yH2 (fun W=>zfm Y mm W cL Mcy dr ju) (fun W=>zdn Y mm W wu.1 Mcy dr ju);have j1:IntKind.i64.wrap (zaC Y mm+min X (za6 Y mm))=zaC Y mm+min X (za6 Y mm):=IntWalk.i64_in _ Mcy;have j2:IntKind.i64.wrap (zaC Y mm+min X (za6 Y mm)-1)=zaC Y mm+min X (za6 Y mm)-1:=IntWalk.i64_in _ Mcy;generalize za6 Y mm=L at*;generalize zaC Y mm=F at*;clear rZ;refine zaj Mcz Mcz ?_;repeat(first|go_big_quiet_skip|(go_big_quiet_want;go_big_quiet_op;first|go_big_quiet_on|(apply Exists.intro;refine⟨fun _=>?_,?_⟩;(first|(go_at_call 203;exact zhQ (uQ.o _))|(go_at_call 202;exact zhQ (uA.o _)));go_big_quiet_on)))
  refine wpQuiet_nil ?_;rintro _ ⟨zq,rfl⟩;generalize hO:F+min X L-1=out at*;have HO:=zHi hO;clear hO uQ uA j1 j2;cases hd:zbn out
  ·have jB:=zHi hd;go_wp2_with (go_at_call 204;refine(ziP _ _).mono ?_;rintro e wq ⟨rfl,rfl⟩;rw[hd])
   exact MbQ
  ·have jB:=zHi hd;go_wp2_with (go_at_call 204;refine(ziP _ _).mono ?_;rintro e wq ⟨rfl,rfl⟩;rw[hd])
   exact MaZ
theorem zjR(day ys:Int)(w:World)(h0:0<=day)(h1:day<=200000)(nK:0<=ys)(cd:ys<=99):
 Calls Tryz.prog 165 #[.int .i64 day,.int .i64 ys] w (Ret w (.int .i64 (zcd day ys))):=by
 have HL:=zHi (ziR day (12*ys) w h0 h1 Mcy Mcy);have bI:=zkA day ys;unfold zcd at bI;have AM:=zHi bI;have kz:IntKind.i64.wrap (12*ys)=12*ys:=IntWalk.i64_in _ Mcy;clear bI;go_enter Tryz.func165,Tryz.ntmps165
 go_upto_region 2 with(go_at_call 187;refine(HL.o).mono ?_;rintro e wq ⟨n,ok,k1,k2,rfl,z,rfl⟩;obtain⟨H1,H2⟩:=yH2 k1 k2;clear k1 k2)
 cases ok
 ·have HE:Hid (zcd day ys= -1):=by show _=_;unfold zcd;exact H2.o rfl
  go_wp2_with fail
  go_ret
  exact Ret.of (zb5 HE.o.symm) Bw
 ·have HE:Hid (zcd day ys=n):=by show _=_;unfold zcd;exact(H1.o rfl).1
  have hn:¬200000<n:=by have:=AM.o;have:=(H1.o rfl).1;omega
  go_wp2_with fail
  go_ret
  exact Ret.of (zb5 HE.o.symm) Bw
theorem dv_of{W:World}{A:Option Addr}{ds:List Deed}(h:SlW W 7 zf9 A ds):∃xs:List DV,xs.map (·.d)=ds/\(∀x∈xs,x.d.to.length<=x.c/\Sl W 3 RPart.cells x.B x.d.to)/\Sl W 7 DV.cells A xs:=by
 by_cases h0:ds=[]
 ·subst h0;exact⟨[],rfl,by simp,fun h=>absurd h McB⟩
 ·have hl:0<ds.length:=by cases ds with
   |nil=>exact absurd rfl h0
   |cons _ _=>simp
  obtain⟨b,off,hA,hb,hc⟩:=h hl;have hx:∀(k:Nat) (hk:k<ds.length),∃y:DV,y.d=ds[k]/\y.d.to.length<=y.c/\Sl W 3 RPart.cells y.B y.d.to/\∀j u,y.cells[j]?=some u->W.cell? ⟨b,off+k*7+j,none⟩=some u:=fun k hk=>by
   obtain⟨cs,⟨B,c,h1,h2,h3⟩,h4⟩:=hc k _ (List.getElem?_eq_getElem hk);refine⟨⟨ds[k],B,c⟩,rfl,h1,h3,fun j u hu=>h4 j u ?_⟩;rw[h2];exact hu
  have b9:∀n,n<=ds.length->∃xs:List DV,xs.map (·.d)=ds.take n/\(∀x∈xs,x.d.to.length<=x.c/\Sl W 3 RPart.cells x.B x.d.to)/\∀k x,xs[k]?=some x->∀j u,x.cells[j]?=some u->W.cell? ⟨b,off+k*7+j,none⟩=some u:=by
   intro n;induction n with
   |zero=>intro _;exact⟨[],by simp,by simp,by simp⟩
   |succ n ih=>
    intro hn;obtain⟨xs,h1,h2,h3⟩:=ih Mcy;obtain⟨y,e1,e2,e3,e4⟩:=hx n Mcy;have ag:xs.length=n:=by
     have:=congrArg List.length h1;simp at this;omega
    refine⟨xs++[y],?_,?_,?_⟩
    ·rw[List.map_append,h1,List.take_add_one,List.getElem?_eq_getElem (show n<ds.length by omega)];simp[e1]
    ·intro x ug;rcases List.mem_append.1 ug with ug|ug
     ·exact h2 x ug
     ·rw[List.mem_singleton]at ug;subst ug;exact⟨e2,e3⟩
    ·intro k x hk;by_cases js:k<n
     ·rw[List.getElem?_append_left Mcy]at hk;exact h3 k x hk
     ·have fQ:k=n:=by
       exact MbU
      subst fQ;rw[List.getElem?_append_right Mcy,ag]at hk;simp at hk;subst hk;exact e4
  obtain⟨xs,h1,h2,h3⟩:=b9 ds.length (Nat.le_refl _);rw[List.take_length]at h1;exact⟨xs,h1,h2,fun _=>⟨b,off,hA,hb,h3⟩⟩
end
section
open Go.Shelf
theorem on_stop{laws:List Law}{ds:List Deed}{names:List ByteArray}{day:Int}(h:zc1 laws ds names day=0):(zew laws ds 200000).2.2=0/\zbn day=true:=by
 unfold zc1 at h;split at h
 ·rename_i h1
  rw[h]at h1;simp at h1
 ·rename_i h1
  refine⟨by simpa using h1,?_⟩;split at h
  ·cases h
  ·split at h
   ·cases h
   ·rename_i h2
    simpa using h2
end
open Go.Shelf
