import Derived.Test.YthhgkjfgpkbliaaGreatDoorXT
import Derived.Test.YthhgkjfgpkbliaaGreatDoorOW
import Derived.Test.YthhgkjfgpkbliaaGreatDoorWU
set_option linter.all false
set_option maxRecDepth 100000
set_option maxHeartbeats 4000000
namespace Go.Proofs.YthhgkjfgpkbliaaGreatDoor
open Go.RowKit Go.Shelf
attribute [local go_sem] World.cell?_alloc_mark zae zav zai zaw zam zan zao zap zaq zar zas
attribute [local go_sem] zah zac
def famR:List RPart:=[⟨nBob,3,8⟩,⟨nCat,3,8⟩,⟨nDan,1,4⟩]
theorem fam_cells:zf6.map zaa=famR.map RPart.cells:=by kernel_rfl
theorem fam_holds:zbn fam5 nA1 200=zf6:=by kernel_rfl
theorem fam_err(names:List ByteArray)(day:Int)(hn:names.any (fun s=>!zaR s)=false)(hd:zbu day=true):zck zbM zbs names day=0:=by
 unfold zck;have h:(zch zbM zbs 200000).2=(5,0):=by rw[zdq,zfU 200000 MbD]
 rw[h,hn,hd];rfl
theorem fam_bury:ze4 zbM zbs nA1 nAnn 300=(true,0):=by
 unfold ze4;rw[fam_err [nA1,nAnn] 300 MbE MbE,zfU 300 MbD];have h:zaH fam5 nA1 300=some 0:=MbE;simp only[bne_self_eq_false,Bool.false_eq_true,if_false];rw[h];have hg:fam5.graves.getD 0 ze6=⟨nA1,1,-1,zf6,[nAnn]⟩:=rfl;simp only[hg];have he:entP fam5 ⟨nA1,1,-1,zf6,[nAnn]⟩ nAnn=true:=by
  unfold entP;have:[nAnn].any (zeU fam5 1 nAnn)=true:=by
   rw[List.any_cons];unfold zeU;rw[show zag nAnn nAnn=true from zbk _];rfl
  rw[this,Bool.or_true]
 rw[he,Bool.or_true]
theorem zlV:∀d∈zbs,zdi d:=by
 intro d hd;simp only[zbs,List.mem_cons,List.not_mem_nil,or_false]at hd;rcases hd with rfl|rfl|rfl|rfl|rfl<;>exact⟨by decide,by decide,by simp[famD];try decide,by simp[famD]⟩
structure Laid5 (w:World):Prop where
 forms:FormsIn w
 lens:LensIn w
 tz:TzTab w
theorem Laid5.keep{w W:World}{n:Nat}(h:Laid5 w)(hB:Below n w W)(hn:w.heap.size<=n:=by first|exact Nat.le_refl _|omega):Laid5 W:=⟨h.forms.keep hB hn,h.lens.keep hB hn,h.tz.keep hB hn⟩
def HoldPost(w:World)(e:Ending)(w':World):Prop:= ∃A c,e=.returned (.tuple #[.slice A 3 c,.int .i64 0])/\3<=c/\Sl w' 3 RPart.cells A famR/\Below w.heap.size w w'
theorem zhP(LA DA:Option Addr)(w:World)(hR:RightsIn w zbM zbs LA 2 2 DA 5 5)(hL:Laid5 w):Calls Tryz.prog 13 #[.agg #[.slice LA 2 2,.slice DA 5 5],.string ⟨#[97,49]⟩,.int .i64 200] w (HoldPost w):=by
 refine(zdT zbM zbs nA1 200 LA 2 2 DA 5 5 w hR hL.forms hL.lens zlV MbD).mono ?_;rintro e w' ⟨hB,h⟩;rw[fam_err [nA1] 200 MbE MbE,zfU 200 MbD]at h;rcases h with⟨h,_⟩|⟨_,A,c,rfl,hc,hS⟩
 ·exact absurd rfl h
 ·rw[show((fam5,5,(0:Int)):St×Nat×Int).1=fam5 from rfl,fam_holds]at hc hS⊢;exact⟨A,c,rfl,hc,sl_same hS fam_cells,hB⟩
theorem zlj(LA DA:Option Addr)(w:World)(hR:RightsIn w zbM zbs LA 2 2 DA 5 5)(hL:Laid5 w):Calls Tryz.prog 23 #[.agg #[.slice LA 2 2,.slice DA 5 5],.string ⟨#[97,49]⟩,.string ⟨#[97,110,110]⟩,.int .i64 300] w (Ret w (.tuple #[.bool true,.int .i64 0])):=by
 have:=zle zbM zbs nA1 nAnn 300 LA 2 2 DA 5 5 w hR hL.forms hL.lens zlV MbD MbD;rw[fam_bury]at this;exact this
theorem zkm(A:Option Addr)(w:World)(hS:Sl w 8 Rec.cells A zer)(hL:Laid5 w):Calls Tryz.prog 52 #[.slice A 5 5] w (zfV w):=zmL A 5 w (Nat.le_refl _) hL.tz hS
theorem fam_same(A2:Option Addr)(c2:Nat)(bY:3<=c2)(P:Nat)(W:World)(h:Sl W 3 RPart.cells A2 famR)(hP:W.heap[P]?=some (.cells #[.string ⟨#[98,111,98]⟩,.int .i64 3,.int .i64 8,.string ⟨#[99,97,116]⟩,.int .i64 3,.int .i64 8,.string ⟨#[100,97,110]⟩,.int .i64 1,.int .i64 4] 59)):
 Calls Tryz.prog 15 #[.slice A2 3 c2,.slice (some ⟨P,0,none⟩) 3 3] W (Ret W (.bool true)):=
 zjb famR A2 (some ⟨P,0,none⟩) c2 3 _ h (zdr (fun _=>rfl) hP rfl) MbD bY MbD
theorem two_same(A5:Option Addr)(c5:Nat)(nL:2<=c5)(P:Nat)(W:World)(h:Sl W 1 intC A5 [0,2])(hP:W.heap[P]?=some (.cells #[.int .i64 0,.int .i64 2] 3)):
 Calls Tryz.prog 54 #[.slice A5 2 c5,.slice (some ⟨P,0,none⟩) 2 2] W (Ret W (.bool true)):=
 zkl [0,2] A5 (some ⟨P,0,none⟩) c5 2 _ h (zdr (fun _=>rfl) hP rfl) MbD nL MbD
theorem zmP(w:World)(hL:Laid5 w):Calls Tryz.prog 16 #[] w (Ret w (.bool true)):=by
 have HL:=zHi hL;clear hL;go_enter Tryz.func16,Tryz.ntmps16
 go_upto_region 2 with(first
  |(go_at_call 30;go_must(refine(ziz _).mono ?_);rintro e w1 ⟨LA,DA,rfl,hr,hb⟩;obtain⟨HR,HB⟩:=yH2 hr hb;clear hr hb)
  |(go_at_call 13;go_must(refine(zhP LA DA _ HR.o (HL.o.keep HB.o)).mono ?_);rintro e w2 ⟨A2,c2,rfl,bY,bk,cw⟩;obtain⟨sb,b9⟩:=yH2 bk (HB.o.trans (cw.mono HB.o.size));clear bk cw))
 clear HR HB
 go_upto_region 3 with(first
  |(go_at_call 30;go_must(refine(ziz _).mono ?_);rintro e w3 ⟨LA3,DA3,rfl,hr,hb⟩;obtain⟨HR,bw,HB⟩:=yH3 hr hb (b9.o.trans (hb.mono b9.o.size));clear hr hb)
  |(go_at_call 23;go_must(refine(zlj LA3 DA3 _ HR.o (HL.o.keep HB.o)).mono ?_);rintro e w4 ⟨rfl,z4,rfl⟩))
 obtain⟨xi,ji⟩:=yH2 ((sb.o.keep bw.o).keep (za5 w3 z4)) (HB.o.trans ((za5 w3 z4).mono HB.o.size));generalize w3.ext z4=W4 at*;clear HR HB sb b9 bw;have De:w.heap.size<=W4.heap.size:=ji.o.size
 go_upto_region 4 with(go_at_call 52
                       go_must(refine(zkm _ _ (zdr (fun _=>rfl) (za3 _ _ _ rfl) rfl) ((HL.o.keep ji.o).keep (n:=W4.heap.size) Bw)).mono ?_)
                       rintro e w5 ⟨A5,c5,rfl,nL,dU,bx⟩)
 have xj:=zHi (xi.o.keep ((zau (Below.refl _ _) _ (Nat.le_refl _)).trans (bx.mono MbF)));have f9:=zHi (ji.o.trans (((zau (Below.refl _ _) _ (Nat.le_refl _)).trans (bx.mono MbF)).mono De));have wT:=zHi dU;clear xi ji dU bx;obtain⟨lH,zV⟩:=yH2 (fun(W:World) (hW:Below w5.heap.size w5 W)=>fun(P:Nat) hP=>fam_same A2 c2 bY P W (xj.o.keep hW) hP) (fun(W:World) (hW:Below w5.heap.size w5 W)=>fun(P:Nat) hP=>two_same A5 c5 nL P W (wT.o.keep hW) hP);clear xj wT;have zi:w.heap.size<=w5.heap.size:=f9.o.size;clear HL
 go_wp2_with (first
  |(go_at_call 53;go_must(refine(zkk _ _ _ _).mono ?_);rintro e wq ⟨rfl,zq,rfl⟩)
  |(go_at_call 15;go_must(refine(lH.o _ Bw _ (za3 _ _ _ Mb8)).mono ?_);rintro e wq ⟨rfl,zq,rfl⟩)
  |(go_at_call 54;go_must(refine(zV.o _ Bw _ (za3 _ _ _ Mb8)).mono ?_);rintro e wq ⟨rfl,zq,rfl⟩))
 go_ret
 exact Ret.of rfl (f9.o.trans (Below.mono (B:=w5.heap.size) Bw f9.o.size))
def YoCut(w:World)(ls:List Law)(ds:List Deed)(d:Deed)(E:Int)(v5 v6:Value)(W:World):Prop:=
 Below w.heap.size w W/\∃gb,v5=.pointer (some ⟨gb,0,none⟩)/\v6=.int .i64 E/\w.heap.size<=gb/\((E≠0/\W.heap[gb]?=some (.cells #[.slice none 0 0,.slice none 0 0] 25))\/
  (E=0/\∃A a B b,W.heap[gb]?=some (.cells #[.slice A ls.length a,.slice B (ds.length+1) b] 25)/\RightsIn W ls (ds++[d]) A ls.length a B (ds.length+1) b))
theorem sl_oth{α:Type}{size:Nat}{f:α->List Value}{xs:List α}{A:Option Addr}{w W:World}{gb:Nat}(h:Sl w size f A xs)(hs:w.heap.size<=W.heap.size)(hW:∀k,k≠gb->k<w.heap.size->W.heap[k]?=w.heap[k]?)
 (hf:∀x∈xs,∃v,(f x)[0]?=some v/\∀off,w.cell? ⟨gb,off,none⟩≠some v):Sl W size f A xs:=fun hl=>by
 obtain⟨b,off,hA,aa,hc⟩:=h hl;have ag:b≠gb:=by
  rintro rfl;obtain⟨v,h1,h2⟩:=hf xs[0] (List.getElem_mem hl);exact h2 _ (hc 0 _ (List.getElem?_eq_getElem hl) 0 v h1)
 refine⟨b,off,hA,by omega,fun k x hx j u hu=>?_⟩;rw[<-hc k x hx j u hu];simp only[World.cell?,hW b ag aa]
theorem zmQ{w W:World}{ls:List Law}{ds:List Deed}{A B:Option Addr}{n nc m mc gb:Nat}(h:RightsIn w ls ds A n nc B m mc)(hs:w.heap.size<=W.heap.size)(hW:∀k,k≠gb->k<w.heap.size->W.heap[k]?=w.heap[k]?)
 (hg:∀off v,w.cell? ⟨gb,off,none⟩=some v->∃A n c,v=.slice A n c):RightsIn W ls ds A n nc B m mc:=by
 refine⟨h.ln,h.dn,h.lc,h.dc,sl_oth h.laws hs hW (fun x _=>⟨_,rfl,fun off hc=>?_⟩),fun hl=>?_⟩
 ·obtain⟨_,_,_,he⟩:=hg _ _ hc;cases he
 ·obtain⟨b,off,hA,aa,hc⟩:=h.deeds hl;have ag:b≠gb:=by
   rintro rfl;obtain⟨cs,⟨P,p,h1,rfl,h3⟩,h2⟩:=hc 0 _ (List.getElem?_eq_getElem hl);obtain⟨_,_,_,he⟩:=hg _ _ (h2 0 _ rfl);cases he
  refine⟨b,off,hA,by omega,fun k x hx=>?_⟩;obtain⟨cs,⟨P,p,h1,rfl,h3⟩,h2⟩:=hc k x hx;refine⟨_,⟨P,p,h1,rfl,sl_oth h3 hs hW (fun x _=>⟨_,rfl,fun off hc=>?_⟩)⟩,fun j u hu=>?_⟩
  ·obtain⟨_,_,_,he⟩:=hg _ _ hc;cases he
  ·rw[<-h2 j u hu];simp only[World.cell?,hW b ag aa]
def NxRes(V:World)(ls:List Law)(ds:List Deed)(d:Deed)(E:Int)(P:Option Addr)(p q:Nat)(R:Option Addr)(r s:Nat):Prop:=
 (E≠0/\P=none/\p=0/\q=0/\R=none/\r=0/\s=0)\/(E=0/\p=ls.length/\r=ds.length+1/\RightsIn V ls (ds++[d]) P ls.length q R (ds.length+1) s)
section
variable {w w' V W W2:World} {ls:List Law} {ds:List Deed} {d:Deed} {E:Int} {e:Ending} {P R:Option Addr} {p q r s gb:Nat}
theorem next_res(h:zkh w ls ds d E e w'):Below w.heap.size w w'/\∃P p q R r s,e=.returned (.tuple #[.agg #[.slice P p q,.slice R r s],.int .i64 E])/\NxRes w' ls ds d E P p q R r s:=by
 obtain⟨hb,⟨h1,rfl⟩|⟨rfl,A,a,B,b,rfl,h2⟩⟩:=h
 ·exact⟨hb,_,_,_,_,_,_,rfl,.inl ⟨h1,rfl,rfl,rfl,rfl,rfl,rfl⟩⟩
 ·exact⟨hb,_,_,_,_,_,_,rfl,.inr ⟨rfl,rfl,rfl,h2⟩⟩
theorem NxRes.keep(h:NxRes V ls ds d E P p q R r s)(hB:Below V.heap.size V W):NxRes W ls ds d E P p q R r s:=h.imp_right fun⟨a,b,c,x⟩=>⟨a,b,c,x.keep hB⟩
theorem NxRes.cut(h:NxRes V ls ds d E P p q R r s)(hb:Below W2.heap.size W2 V)(hg:V.heap[gb]?=some (.cells #[.slice none 0 0,.slice none 0 0] 25))(bI:W2.heap.size<=gb):
 YoCut W2 ls ds d E (.pointer (some ⟨gb,0,none⟩)) (.int .i64 E) ((V.setCell ⟨gb,0,none⟩ (.slice P p q)).setCell ⟨gb,1,none⟩ (.slice R r s)):=by
 have hl:=zad hg;have h2:=zh7 (a:=.slice P p q) (b:=.slice R r s) hg;refine⟨zaU (zaU hb bI _) bI _,gb,rfl,rfl,bI,?_⟩;rcases h with⟨h0,rfl,rfl,rfl,rfl,rfl,rfl⟩|⟨rfl,rfl,rfl,h3⟩
 ·exact .inl ⟨h0,h2⟩
 ·refine .inr ⟨rfl,P,q,R,s,h2,zmQ (gb:=gb) h3 MbF (fun k hk aa=>?_) (fun off v hv=>?_)⟩
  ·rw[zli hk (by simpa using aa),zli hk aa]
  ·simp only[World.cell?,hg]at hv;match off,hv with
   |0,hv=>exact⟨none,0,0,by simpa using hv.symm⟩
   |1,hv=>exact⟨none,0,0,by simpa using hv.symm⟩
   |k+2,hv=>simp at hv
end
