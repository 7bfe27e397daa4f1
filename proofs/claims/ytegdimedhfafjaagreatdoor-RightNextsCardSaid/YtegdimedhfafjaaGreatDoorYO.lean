import Derived.Test.YtegdimedhfafjaaGreatDoorYM
set_option linter.all false
set_option maxRecDepth 100000
set_option maxHeartbeats 4000000
namespace Go.Proofs.YtegdimedhfafjaaGreatDoor
open Go.RowKit Go.Shelf
attribute [local go_sem] World.cell?_alloc_mark zaf za5 zao za8 zav zaw zax zay zaz za0 za1
attribute [local go_sem] zaq zad
theorem next_law(ls:List Law)(ds:List Deed)(d:Deed):nextE ls ds d=if(zaQ ls ds 200000).2.2=0 then zkc ls ds d else(zaQ ls ds 200000).2.2:=by
 have h1:=zfr ls ds;have h2:(zcR ls ds 200000).2.2=(zaQ ls ds 200000).2.2:=by rw[h1]
 unfold nextE zkc;by_cases h:(zaQ ls ds 200000).2.2=0
 ·obtain⟨h3,_⟩:=zjS (h2.trans h) 200000;rw[if_pos h,h2,h3,if_neg (by simp[h])];by_cases hc:za3 d=0
  ·rw[if_neg (by simp[hc]),if_neg (by simp[hc])];unfold zbT;rw[if_neg (by simp[hc])];rfl
  ·rw[if_pos Mdx,if_pos Mdx]
 ·rw[if_neg h,h2,if_pos Mc8]
def YoCut(w:World)(ls:List Law)(ds:List Deed)(d:Deed)(E:Int)(v5 v6:Value)(W:World):Prop:=
 Below w.heap.size w W/\∃gb,v5=.pointer (some ⟨gb,0,none⟩)/\v6=.int .i64 E/\w.heap.size<=gb/\((E≠0/\W.heap[gb]?=some (.cells #[.slice none 0 0,.slice none 0 0] 25))\/
  (E=0/\∃A a B b,W.heap[gb]?=some (.cells #[.slice A ls.length a,.slice B (ds.length+1) b] 25)/\RightsIn W ls (ds++[d]) A ls.length a B (ds.length+1) b))
theorem sl_oth{α:Type}{size:Nat}{f:α->List Value}{xs:List α}{A:Option Addr}{w W:World}{gb:Nat}(h:Sl w size f A xs)(hs:w.heap.size<=W.heap.size)(hW:∀k,k≠gb->k<w.heap.size->W.heap[k]?=w.heap[k]?)
 (hf:∀x∈xs,∃v,(f x)[0]?=some v/\∀off,w.cell? ⟨gb,off,none⟩≠some v):Sl W size f A xs:=fun hl=>by
 obtain⟨b,off,hA,aa,hc⟩:=h hl;have ai:b≠gb:=by
  rintro rfl;obtain⟨v,h1,h2⟩:=hf xs[0] (List.getElem_mem hl);exact h2 _ (hc 0 _ (List.getElem?_eq_getElem hl) 0 v h1)
 refine⟨b,off,hA,by omega,fun k x hx j u hu=>?_⟩;rw[<-hc k x hx j u hu];simp only[World.cell?,hW b ai aa]
theorem zp4{w W:World}{ls:List Law}{ds:List Deed}{A B:Option Addr}{n nc m mc gb:Nat}(h:RightsIn w ls ds A n nc B m mc)(hs:w.heap.size<=W.heap.size)(hW:∀k,k≠gb->k<w.heap.size->W.heap[k]?=w.heap[k]?)
 (hg:∀off v,w.cell? ⟨gb,off,none⟩=some v->∃A n c,v=.slice A n c):RightsIn W ls ds A n nc B m mc:=by
 refine⟨h.ln,h.dn,h.lc,h.dc,sl_oth h.laws hs hW (fun x _=>⟨_,rfl,fun off hc=>?_⟩),fun hl=>?_⟩
 ·obtain⟨_,_,_,he⟩:=hg _ _ hc;cases he
 ·obtain⟨b,off,hA,aa,hc⟩:=h.deeds hl;have ai:b≠gb:=by
   rintro rfl;obtain⟨cs,⟨P,p,h1,rfl,h3⟩,h2⟩:=hc 0 _ (List.getElem?_eq_getElem hl);obtain⟨_,_,_,he⟩:=hg _ _ (h2 0 _ rfl);cases he
  refine⟨b,off,hA,by omega,fun k x hx=>?_⟩;obtain⟨cs,⟨P,p,h1,rfl,h3⟩,h2⟩:=hc k x hx;refine⟨_,⟨P,p,h1,rfl,sl_oth h3 hs hW (fun x _=>⟨_,rfl,fun off hc=>?_⟩)⟩,fun j u hu=>?_⟩
  ·obtain⟨_,_,_,he⟩:=hg _ _ hc;cases he
  ·rw[<-h2 j u hu];simp only[World.cell?,hW b ai aa]
def NxRes(V:World)(ls:List Law)(ds:List Deed)(d:Deed)(E:Int)(P:Option Addr)(p q:Nat)(R:Option Addr)(r s:Nat):Prop:=
 (E≠0/\P=none/\p=0/\q=0/\R=none/\r=0/\s=0)\/(E=0/\p=ls.length/\r=ds.length+1/\RightsIn V ls (ds++[d]) P ls.length q R (ds.length+1) s)
section
variable {w w' V W W2:World} {ls:List Law} {ds:List Deed} {d:Deed} {E:Int} {e:Ending} {P R:Option Addr} {p q r s gb:Nat}
theorem zhS(h:zmu w ls ds d E e w'):Below w.heap.size w w'/\∃P p q R r s,e=.returned (.tuple #[.agg #[.slice P p q,.slice R r s],.int .i64 E])/\NxRes w' ls ds d E P p q R r s:=by
 obtain⟨hb,⟨h1,rfl⟩|⟨rfl,A,a,B,b,rfl,h2⟩⟩:=h
 ·exact⟨hb,_,_,_,_,_,_,rfl,.inl ⟨h1,rfl,rfl,rfl,rfl,rfl,rfl⟩⟩
 ·exact⟨hb,_,_,_,_,_,_,rfl,.inr ⟨rfl,rfl,rfl,h2⟩⟩
theorem NxRes.keep(h:NxRes V ls ds d E P p q R r s)(hB:Below V.heap.size V W):NxRes W ls ds d E P p q R r s:=h.imp_right fun⟨a,b,c,x⟩=>⟨a,b,c,x.keep hB⟩
theorem NxRes.cut(h:NxRes V ls ds d E P p q R r s)(hb:Below W2.heap.size W2 V)(hg:V.heap[gb]?=some (.cells #[.slice none 0 0,.slice none 0 0] 25))(dg:W2.heap.size<=gb):
 YoCut W2 ls ds d E (.pointer (some ⟨gb,0,none⟩)) (.int .i64 E) ((V.setCell ⟨gb,0,none⟩ (.slice P p q)).setCell ⟨gb,1,none⟩ (.slice R r s)):=by
 have hl:=zab hg;have h2:=zjd (a:=.slice P p q) (b:=.slice R r s) hg;refine⟨zaL (zaL hb dg _) dg _,gb,rfl,rfl,dg,?_⟩;rcases h with⟨h0,rfl,rfl,rfl,rfl,rfl,rfl⟩|⟨rfl,rfl,rfl,h3⟩
 ·exact .inl ⟨h0,h2⟩
 ·refine .inr ⟨rfl,P,q,R,s,h2,zp4 (gb:=gb) h3 Mcp (fun k hk aa=>?_) (fun off v hv=>?_)⟩
  ·rw[zn3 hk (by simpa using aa),zn3 hk aa]
  ·simp only[World.cell?,hg]at hv;match off,hv with
   |0,hv=>exact⟨none,0,0,by simpa using hv.symm⟩
   |1,hv=>exact⟨none,0,0,by simpa using hv.symm⟩
   |k+2,hv=>simp at hv
end
theorem same1_any(ls:List Law)(ds:List Deed)(d:Deed)(LA:Option Addr)(nc:Nat)(DA:Option Addr)(mc:Nat)(LB:Option Addr)(nd:Nat)(DB:Option Addr)(md:Nat)(w:World)(zV:Sl w 4 Law.cells LA ls)(zI:SlW w 7 zdY DA (ds++[d]))(lY:Sl w 4 Law.cells LB ls)(zJ:SlW w 7 zdY DB (ds++[d]))
 (hl:ls.length<=1000)(hd:ds.length<=900)(ht:∀x∈ds++[d],x.to.length<=100000):
 Calls Tryz.prog 12 #[.agg #[.slice LA ls.length nc,.slice DA (ds.length+1) mc],.agg #[.slice LB ls.length nd,.slice DB (ds.length+1) md]] w (Ret w (.bool true)):=by
 have h:=zoq ls (ds++[d]) LA nc DA mc LB nd DB md w zV zI lY zJ hl (by rw[List.length_append];simp;omega) ht;rw[List.length_append]at h;exact h
theorem zjr(ls:List Law)(ds:List Deed)(d:Deed)(LA:Option Addr)(n nc:Nat)(DA:Option Addr)(m mc:Nat)(B:Option Addr)(c:Nat)(w:World)(hL:Laid5 w)(hR:RightsIn w ls ds LA n nc DA m mc)(ar:d.to.length<=c)(hS:Sl w 3 RPart.cells B d.to):
 Calls Tryz.prog 3 #[.agg #[.slice LA n nc,.slice DA m mc],d.v B c] w (Ret w (.bool true)):=by
 obtain⟨HL,HR,pk,lq,cJ,zb⟩:=yH6 hL hR (fun W (h:Below w.heap.size w W)=>few_any ls ds LA n nc DA m mc W (hR.keep h)) (fun W (h:Below w.heap.size w W)=>zlE d B c W ar (hS.keep h)) (fun W (h:Below w.heap.size w W)=>(hS.keep h:Sl W 3 RPart.cells B d.to)) ar;unfold Deed.v at lq⊢;clear hL hR hS ar;go_enter Tryz.func3,Tryz.ntmps3
 go_upto_region 1 with fail
 obtain⟨W0,ao⟩:∃W0,W0=(w.alloc (.cells #[.slice LA n nc,.slice DA m mc] 25)).alloc (.cells #[.int .i64 d.kind,.int .i64 d.day,.string d.place,.string d.frm,.slice B d.to.length c,.int .i64 d.cls,.int .i64 d.years] 28):=⟨_,rfl⟩
 have b0:W0.heap[w.heap.size]?=some (.cells #[.slice LA n nc,.slice DA m mc] 25):=Mdn;have q0:W0.heap[w.heap.size+1]?=some (.cells #[.int .i64 d.kind,.int .i64 d.day,.string d.place,.string d.frm,.slice B d.to.length c,.int .i64 d.cls,.int .i64 d.years] 28):=by rw[ao];exact zas _ _ _ Mcp
 have aO:Below w.heap.size w W0:=McW;rw[<-ao];have ak:=zHi aO;clear ao aO;go_upto_region 3 with(go_at_call 4;go_must(refine(zpc _ (HL.o.keep ak.o)).mono ?_);rintro e wq ⟨rfl,z0,rfl⟩)
 have c0:(W0.ext z0).heap[w.heap.size]?=some (.cells #[.slice LA n nc,.slice DA m mc] 25):=zbv b0;have c1:(W0.ext z0).heap[w.heap.size+1]?=some (.cells #[.int .i64 d.kind,.int .i64 d.day,.string d.place,.string d.frm,.slice B d.to.length c,.int .i64 d.cls,.int .i64 d.years] 28):=zbv q0;have bE:Below w.heap.size w (W0.ext z0):=zbm ak.o z0;generalize W0.ext z0=W1 at*;have aB:=zHi bE;clear b0 q0 ak bE;obtain⟨r0,r1⟩:=zbl c0;obtain⟨e0,e1,e2,e3,e4,e5,e6⟩:=zaG c1;have l0:=zab c0;have l1:=zab c1;cases sr:fewP ls ds
 ·rw[sr]at pk;clear sr;go_wp2_with (go_at_call 5;go_must(refine(pk.o _ MdA).mono ?_);rintro e wq ⟨rfl,z,rfl⟩)
  go_ret
  exact Ret.of rfl (zbm aB.o z)
 obtain⟨bH,xB,xa,mV⟩:=few_lens sr;rw[sr]at pk;clear sr;cases nE:zeS d
 ·rw[nE]at lq;clear nE bH xB xa mV
  go_wp2_with (first
   |(go_at_call 5;go_must(refine(pk.o _ MdA).mono ?_);rintro e wq ⟨rfl,z,rfl⟩)
   |(go_at_call 6;go_must(refine(lq.o _ (by have:=zbm aB.o z;exact Bw)).mono ?_);rintro e wq ⟨rfl,y,rfl⟩))
  go_ret
  exact Ret.of rfl (zbm (zbm aB.o z) y)
 have cu:=zjJ nE;rw[nE]at lq;clear nE;obtain⟨ka,AU,fB,dF,iP,vl⟩:=yH6 (fun W (h:Below w.heap.size w W)=>zoD ls ds LA n nc DA m mc W (HR.o.keep h) Mcm Mcm (fun d hd=>by have:=mV d hd;omega)) (fun W (h:Below w.heap.size w W)=>ziB ls ds LA n nc DA m mc W (HR.o.keep h) Mcm Mcm (fun d hd=>by have:=mV d hd;omega)) (fun W (h:Below w.heap.size w W)=>znX d B c W cu.2.2.2 (cJ.o W h)) (fun A1 n1 B1 n2 B2 c2 W (h:Below w.heap.size w W) (hr:RightsIn W ls ds A1 ls.length n1 B1 ds.length n2) (h2:d.to.length<=c2) (h3:Sl W 3 RPart.cells B2 d.to)=>next5_any ls ds d A1 ls.length n1 B1 ds.length n2 B2 c2 W hr (HL.o.keep h).forms (HL.o.keep h).lens bH Mcm Mcm cu h2 h3) (fun W (h:Below w.heap.size w W)=>zjc ls ds 200000 LA n nc DA m mc W (HR.o.keep h) bH Mcm) (fun(h0:(zaQ ls ds 200000).2.2=0) W (h:Below w.heap.size w W)=>zp3 ls ds d LA n nc DA m mc B c W (HR.o.keep h) bH Mcm cu zb.o (cJ.o W h) h0);have ix:ds.length<=900:=Mcm;have iD:ls.length<=900:=Mcm
 have HT:=zHi (fun x (hx:x∈ds++[d])=>(show x.to.length<=100000 by
  rcases List.mem_append.1 hx with h|h
  ·have:=mV x h;omega
  ·rw[List.mem_singleton.1 h];exact cu.2.2.2))
 have gK:=next_law ls ds d;unfold zkT at iP;unfold Deed.v zg3 at fB;unfold Deed.v at dF vl fB;clear bH xB xa mV HR HL cu;rw[gK]at dF;generalize zkc ls ds d=RN at*;generalize zaQ ls ds 200000=Q at*;obtain⟨st,k,er⟩:=Q;simp only at dF iP vl gK;clear gK;obtain⟨E,hE⟩:∃E,E=if er=0 then RN else er:=⟨_,rfl⟩
 rw[<-hE]at dF
 go_upto_region 5 with(first
  |(go_at_call 5;go_must(refine(pk.o _ MdA).mono ?_);rintro e wq ⟨rfl,z,rfl⟩)
  |(go_at_call 6;go_must(refine(lq.o _ (by have:=zbm aB.o z;exact Bw)).mono ?_);rintro e wq ⟨rfl,y,rfl⟩))
 have g0:((W1.ext z).ext y).heap[w.heap.size]?=some (.cells #[.slice LA n nc,.slice DA m mc] 25):=zbv (zbv c0);have g1:((W1.ext z).ext y).heap[w.heap.size+1]?=some (.cells #[.int .i64 d.kind,.int .i64 d.day,.string d.place,.string d.frm,.slice B d.to.length c,.int .i64 d.cls,.int .i64 d.years] 28):=zbv (zbv c1);have bx:Below w.heap.size w ((W1.ext z).ext y):=zbm (zbm aB.o z) y;generalize(W1.ext z).ext y=W2 at*;obtain⟨aA,G0,G1,vQ⟩:=yH4 bx g0 g1 hE;clear c0 c1 r0 r1 e0 e1 e2 e3 e4 e5 e6 l0 l1 aB pk lq bx hE;obtain⟨r0,r1⟩:=zbl g0;obtain⟨e0,e1,e2,e3,e4,e5,e6⟩:=zaG g1;have l0:=zab g0;have l1:=zab g1;have ax:=zHi (fun(w':World) (h:Below W2.heap.size W2 w')=>(show w'.cell? ⟨w.heap.size,0,none⟩=some (.slice LA n nc)/\w'.cell? ⟨w.heap.size,1,none⟩=some (.slice DA m mc)/\w'.cell? ⟨w.heap.size+1,0,none⟩=some (.int .i64 d.kind)/\w'.cell? ⟨w.heap.size+1,1,none⟩=some (.int .i64 d.day)/\w'.cell? ⟨w.heap.size+1,2,none⟩=some (.string d.place)/\w'.cell? ⟨w.heap.size+1,3,none⟩=some (.string d.frm)/\w'.cell? ⟨w.heap.size+1,4,none⟩=some (.slice B d.to.length c)/\w'.cell? ⟨w.heap.size+1,5,none⟩=some (.int .i64 d.cls)/\w'.cell? ⟨w.heap.size+1,6,none⟩=some (.int .i64 d.years) from⟨(zah h l0).trans r0,(zah h l0).trans r1,(zah h l1).trans e0,(zah h l1).trans e1,(zah h l1).trans e2,(zah h l1).trans e3,(zah h l1).trans e4,(zah h l1).trans e5,(zah h l1).trans e6⟩));clear g0 g1 r0 r1 e0 e1 e2 e3 e4 e5 e6
 go_cut [5,6]from 21 (fun v5 v6 wc=>YoCut W2 ls ds d E v5 v6 wc)
 case first=>
  refine zaB 9 (fun bb w'=>bb=true\/(w'.cell? ⟨w.heap.size,0,none⟩=some (.slice LA n nc)/\w'.cell? ⟨w.heap.size,1,none⟩=some (.slice DA m mc)/\w'.cell? ⟨w.heap.size+1,0,none⟩=some (.int .i64 d.kind)/\w'.cell? ⟨w.heap.size+1,1,none⟩=some (.int .i64 d.day)/\w'.cell? ⟨w.heap.size+1,2,none⟩=some (.string d.place)/\w'.cell? ⟨w.heap.size+1,3,none⟩=some (.string d.frm)/\w'.cell? ⟨w.heap.size+1,4,none⟩=some (.slice B d.to.length c)/\w'.cell? ⟨w.heap.size+1,5,none⟩=some (.int .i64 d.cls)/\w'.cell? ⟨w.heap.size+1,6,none⟩=some (.int .i64 d.years))) Mcn (.inr (ax.o _ (zaH (Below.refl _ _)))) ?hrest
  case hrest=>
   intro hHeld;refine TkM 0 ?_;refine TkM 2 ?_;refine TwM 1 8 (fun K hK=>?_) fun K hK=>?_
   ·have h0:Below W2.heap.size W2 W2.drew:=zaH (Below.refl _ _);go_simp
    refine(ka.o _ (aA.o.trans ((h0).mono aA.o.size))).mono ?_;rintro e w5 ⟨A1,n1,B1,n2,rfl,mO,aq⟩;have h5:Below W2.heap.size W2 w5:=(h0).trans (aq.mono (h0).size);refine NxM hK (fun hHeld=>?_) (.inr (ax.o _ h5));clear hK K;refine TwM 3 8 (fun K hK=>?_) fun K hK=>?_
    ·go_simp
     refine(fB.o _ (aA.o.trans ((h5).mono aA.o.size))).mono ?_;rintro e w6 ⟨B2,c2,rfl,tX,ro6,aG⟩;have h6:Below W2.heap.size W2 w6:=(h5).trans (aG.mono (h5).size);refine NxM hK (fun hHeld=>?_) (.inr (ax.o _ h6));clear hK K;refine TwM 4 8 (fun K hK=>?_) fun K hK=>?_
     ·go_simp
      refine(dF.o A1 n1 B1 n2 B2 c2 _ (aA.o.trans ((h6).mono aA.o.size)) (mO.keep aG) tX (ro6.sl zfm)).mono ?_;intro e w7 sM;obtain⟨aR,P,p,q,R,r,s,rfl,te⟩:=zhS sM;have h7:Below W2.heap.size W2 w7:=(h6).trans (aR.mono (h6).size);refine NxM hK (fun hHeld=>?_) (.inr (ax.o _ h7));clear hK K;refine TkM 5 ?_;refine TkM 6 ?_;refine FrM 7 false ?_;refine OnM 8 false fun K hK=>?_
      go_simp
      obtain⟨V,hV⟩:∃V,V=(w7).alloc (.cells #[.slice none 0 0,.slice none 0 0] 25):=⟨_,rfl⟩
      have ha:Below W2.heap.size W2 V:=by rw[hV];exact zac h7 _
      have hv:Below (w7).heap.size (w7) V:=Mdo;have ga:V.heap[w7.heap.size]?=some (.cells #[.slice none 0 0,.slice none 0 0] 25):=Mdv;rw[<-hV];clear hV;refine NxM hK (fun hHeld=>?_) (.inr (ax.o _ ha));clear hK K;obtain⟨t0,t1⟩:=cF2 ga;have f0:∀j,(V).frozen? ⟨w7.heap.size,j,none⟩=false:=fun j=>by simp[World.frozen?,ga]
      refine OnM 9 true fun K hK=>?_
      go_simp
      refine NxM hK fun hHeld=>?_
      clear hK K;refine OnM 10 true fun K hK=>?_
      go_simp
      refine NxM hK fun hHeld=>?_
      clear hK K;refine zaI Mcn ?_ _;clear hHeld;go_wp2_with fail
      go_meet
      exact NxRes.cut (te.keep hv) ha ga h7.size
     ·go_simp
      obtain⟨V,hV⟩:∃V,V=(w6).alloc (.cells #[.slice none 0 0,.slice none 0 0] 25):=⟨_,rfl⟩
      have ha:Below W2.heap.size W2 V:=by rw[hV];exact zac h6 _
      have hv:Below (w6).heap.size (w6) V:=Mdo;have ga:V.heap[w6.heap.size]?=some (.cells #[.slice none 0 0,.slice none 0 0] 25):=Mdv;rw[<-hV];clear hV;refine NxM hK (fun hHeld=>?_) (.inr (ax.o _ ha));clear hK K;refine OnM 4 false fun K hK=>?_
      go_simp
      refine(dF.o A1 n1 B1 n2 B2 c2 _ (aA.o.trans ((ha).mono aA.o.size)) (mO.keep (aG.trans (hv.mono aG.size))) tX ((ro6.sl zfm).keep hv)).mono ?_;intro e w7 sM;obtain⟨aR,P,p,q,R,r,s,rfl,te⟩:=zhS sM;have h7:Below W2.heap.size W2 w7:=(ha).trans (aR.mono (ha).size);refine NxM hK (fun hHeld=>?_) (.inr (ax.o _ h7));clear hK K;refine TkM 5 ?_;refine TkM 6 ?_;refine FrM 7 false ?_;have g7:=(aR.block _ (zab ga)).trans ga;obtain⟨t0,t1⟩:=cF2 g7;have f0:∀j,(w7).frozen? ⟨w6.heap.size,j,none⟩=false:=fun j=>by simp[World.frozen?,g7]
      refine OnM 9 true fun K hK=>?_
      go_simp
      refine NxM hK fun hHeld=>?_
      clear hK K;refine OnM 10 true fun K hK=>?_
      go_simp
      refine NxM hK fun hHeld=>?_
      clear hK K;refine zaI Mcn ?_ _;clear hHeld;go_wp2_with fail
      go_meet
      exact NxRes.cut te h7 g7 h6.size
    ·go_simp
     obtain⟨V,hV⟩:∃V,V=(w5).alloc (.cells #[.slice none 0 0,.slice none 0 0] 25):=⟨_,rfl⟩
     have ha:Below W2.heap.size W2 V:=by rw[hV];exact zac h5 _
     have hv:Below (w5).heap.size (w5) V:=Mdo;have ga:V.heap[w5.heap.size]?=some (.cells #[.slice none 0 0,.slice none 0 0] 25):=Mdv;rw[<-hV];clear hV;refine NxM hK (fun hHeld=>?_) (.inr (ax.o _ ha));clear hK K;refine OnM 3 false fun K hK=>?_
     go_simp
     refine(fB.o _ (aA.o.trans ((ha).mono aA.o.size))).mono ?_;rintro e w6 ⟨B2,c2,rfl,tX,ro6,aG⟩;have h6:Below W2.heap.size W2 w6:=(ha).trans (aG.mono (ha).size);refine NxM hK (fun hHeld=>?_) (.inr (ax.o _ h6));clear hK K;refine OnM 4 false fun K hK=>?_
     go_simp
     refine(dF.o A1 n1 B1 n2 B2 c2 _ (aA.o.trans ((h6).mono aA.o.size)) (mO.keep (hv.trans (aG.mono hv.size))) tX (ro6.sl zfm)).mono ?_;intro e w7 sM;obtain⟨aR,P,p,q,R,r,s,rfl,te⟩:=zhS sM;have h7:Below W2.heap.size W2 w7:=(h6).trans (aR.mono (h6).size);refine NxM hK (fun hHeld=>?_) (.inr (ax.o _ h7));clear hK K;refine TkM 5 ?_;refine TkM 6 ?_;refine FrM 7 false ?_;have g6:=(aG.block _ (zab ga)).trans ga;have g7:=(aR.block _ (zab g6)).trans g6;obtain⟨t0,t1⟩:=cF2 g7;have f0:∀j,(w7).frozen? ⟨w5.heap.size,j,none⟩=false:=fun j=>by simp[World.frozen?,g7]
     refine OnM 9 true fun K hK=>?_
     go_simp
     refine NxM hK fun hHeld=>?_
     clear hK K;refine OnM 10 true fun K hK=>?_
     go_simp
     refine NxM hK fun hHeld=>?_
     clear hK K;refine zaI Mcn ?_ _;clear hHeld;go_wp2_with fail
     go_meet
     exact NxRes.cut te h7 g7 h5.size
   ·go_simp
    obtain⟨V,hV⟩:∃V,V=(W2.alloc (.cells #[.slice none 0 0,.slice none 0 0] 25)).drew:=⟨_,rfl⟩
    have ha:Below W2.heap.size W2 V:=by rw[hV];exact zaH (zac (Below.refl _ _) _)
    have ga:V.heap[W2.heap.size]?=some (.cells #[.slice none 0 0,.slice none 0 0] 25):=Mdv;rw[<-hV];clear hV;refine NxM hK (fun hHeld=>?_) (.inr (ax.o _ ha));clear hK K;refine OnM 1 false fun K hK=>?_
    go_simp
    refine(ka.o _ (aA.o.trans ((ha).mono aA.o.size))).mono ?_;rintro e w5 ⟨A1,n1,B1,n2,rfl,mO,aq⟩;have h5:Below W2.heap.size W2 w5:=(ha).trans (aq.mono (ha).size);refine NxM hK (fun hHeld=>?_) (.inr (ax.o _ h5));clear hK K;refine OnM 3 false fun K hK=>?_
    go_simp
    refine(fB.o _ (aA.o.trans ((h5).mono aA.o.size))).mono ?_;rintro e w6 ⟨B2,c2,rfl,tX,ro6,aG⟩;have h6:Below W2.heap.size W2 w6:=(h5).trans (aG.mono (h5).size);refine NxM hK (fun hHeld=>?_) (.inr (ax.o _ h6));clear hK K;refine OnM 4 false fun K hK=>?_
    go_simp
    refine(dF.o A1 n1 B1 n2 B2 c2 _ (aA.o.trans ((h6).mono aA.o.size)) (mO.keep aG) tX (ro6.sl zfm)).mono ?_;intro e w7 sM;obtain⟨aR,P,p,q,R,r,s,rfl,te⟩:=zhS sM;have h7:Below W2.heap.size W2 w7:=(h6).trans (aR.mono (h6).size);refine NxM hK (fun hHeld=>?_) (.inr (ax.o _ h7));clear hK K;refine TkM 5 ?_;refine TkM 6 ?_;refine FrM 7 false ?_;have g5:=(aq.block _ (zab ga)).trans ga;have g6:=(aG.block _ (zab g5)).trans g5;have g7:=(aR.block _ (zab g6)).trans g6;obtain⟨t0,t1⟩:=cF2 g7;have f0:∀j,(w7).frozen? ⟨W2.heap.size,j,none⟩=false:=fun j=>by simp[World.frozen?,g7]
    refine OnM 9 true fun K hK=>?_
    go_simp
    refine NxM hK fun hHeld=>?_
    clear hK K;refine OnM 10 true fun K hK=>?_
    go_simp
    refine NxM hK fun hHeld=>?_
    clear hK K;refine zaI Mcn ?_ _;clear hHeld;go_wp2_with fail
    go_meet
    exact NxRes.cut te h7 g7 (Nat.le_refl _)
 case rest=>
  obtain⟨aS,gb,rfl,rfl,dg,hd⟩:=hcut;obtain⟨HD,HW,Et⟩:=yH3 hd aS dg;obtain⟨r0,r1,e0,e1,e2,e3,e4,e5,e6⟩:=ax.o wc aS;have ti:=zHi (aA.o.trans (aS.mono aA.o.size));clear hd aS dg ka fB dF
  go_upto_region 7 with(
   go_at_call 10
   go_must(refine(iP.o _ ti.o).mono ?_)
   rintro e w7 ⟨b0,b1,b2,b3,b4,b5,b6,rfl,aV,aR,_⟩;obtain⟨⟨A0,m0,q0,rfl⟩,⟨A1,m1,q1,rfl⟩,⟨A2,m2,q2,rfl⟩,⟨A3,m3,q3,rfl⟩,⟨A4,m4,q4,rfl⟩,⟨A5,m5,q5,rfl⟩,⟨A6,m6,q6,rfl⟩⟩:=zc0 aV;have bC:=zHi aR
   clear aR aV)
  obtain⟨W7,CL⟩:∃W7,W7=w7.alloc (.cells #[.slice A0 m0 q0,.slice A1 m1 q1,.slice A2 m2 q2,.slice A3 m3 q3,.slice A4 m4 q4,.slice A5 m5 q5,.slice A6 m6 q6] 41):=⟨_,rfl⟩
  have aR:Below wc.heap.size wc W7:=by rw[CL];exact zac bC.o _
  rw[<-CL];clear CL r0 r1 e0 e1 e2 e3 e4 e5 e6 l0 l1 bC iP;obtain⟨H7,bC,mZ⟩:=yH3 (HW.o.trans (aR.mono HW.o.size)) aR (ti.o.trans (aR.mono ti.o.size));obtain⟨r0,r1,e0,e1,e2,e3,e4,e5,e6⟩:=ax.o W7 H7.o;have l0:w.heap.size<W7.heap.size:=zab ((H7.o.block _ (zab G0.o)).trans G0.o);have l1:w.heap.size+1<W7.heap.size:=zab ((H7.o.block _ (zab G1.o)).trans G1.o);have pC:∀W,Calls Tryz.prog 12 #[.agg #[.slice none 0 0,.slice none 0 0],.agg #[.slice none 0 0,.slice none 0 0]] W (Ret W (.bool true)):=fun W=>zoq [] [] none 0 none 0 none 0 none 0 W (fun h=>absurd h Mcp) SlW.nil (fun h=>absurd h Mcp) SlW.nil Mcp Mcp Mcp
  clear aR;by_cases h0:er=0
  ·subst h0;have HN:=zHi (vl.o rfl);rw[if_pos rfl]at vQ;obtain rfl:=vQ.o;clear vl vQ;by_cases hE:E=0
   ·subst hE;obtain⟨h,_⟩|⟨_,RA,ra,RB,rb,g,GZ⟩:=HD.o
    ·exact absurd rfl h
    have IS:=zHi GZ;have g5:=(bC.o.block _ (zab g)).trans g;have lg:=zab g5;have G5:=zHi g5;clear g g5 pC GZ
    go_upto_region 12 with(first
     |(go_at_call 11;go_must(refine(HN.o _ mZ.o).mono ?_);rintro e wq ⟨rfl,y7,rfl⟩)
     |(go_at_call 8
       go_must(refine(AU.o _ (zbm mZ.o y7)).mono ?_)
       rintro e w5 ⟨A5,n5,D5,m5',base,xs5,rfl,uf,Fs,oQ,DO,DN,aE,fj,aq⟩))
    have hx:Below W7.heap.size W7 w5:=zbm (Below.refl _ _) y7 |>.trans (aq.mono Mdk)
    obtain⟨V5,hV⟩:∃V5,V5=w5.alloc (.cells #[.slice A5 ls.length n5,.slice D5 ds.length m5'] 25):=⟨_,rfl⟩
    have k5:V5.heap[w5.heap.size]?=some (.cells #[.slice A5 ls.length n5,.slice D5 ds.length m5'] 25):=Mdv;have cH:Below w5.heap.size w5 V5:=Mdo;rw[<-hV];clear hV r0 r1 e0 e1 e2 e3 e4 e5 e6;have C8:Below W7.heap.size W7 V5:=hx.trans (cH.mono hx.size);have Hn:=hx.size;have iH:=cH.size;have Ko:W7.heap.size<=base:=Nat.le_trans Mdk aE;obtain⟨_,_,e0,e1,e2,e3,e4,e5,e6⟩:=ax.o V5 (H7.o.trans (C8.mono H7.o.size));obtain⟨p0,p1⟩:=zbl k5;have lk:=zab k5;have l1v:w.heap.size+1<V5.heap.size:=Mcm;have bs:xs5.length=ds.length:=by rw[<-oQ,List.length_map]
    have bG:(xs5++[(⟨d,B,c⟩:DV)]).length=ds.length+1:=by rw[List.length_append,bs];rfl
    obtain⟨jg,qJ,Ej,Iv,EN,K5,lJ,eZ⟩:=yH8 (DN.keep cH) (fun g (h:za7 (.slice D5 ds.length m5')=some g)=>DN.ge g h) C8 (Fs.keep cH) (fun y hy=>(⟨(DO y hy).1,(DO y hy).2.keep cH⟩:_/\_)) k5 oQ bs;have vf:=zHi bG;clear DN C8 Fs DO k5 oQ hx cH aq aE bs bG
    go_upto_region 13 with(at_builtin
                           go_loud(refine zau (v:=.slice D5 ds.length m5') (n:=ds.length) (m:=1) rfl _ _ rfl zex zbn zew rfl (xs:=xs5) (ys:=[⟨d,B,c⟩]) (jg.o.keep (n:=V5.heap.size) (zac (Below.refl _ _) _)) eZ.o rfl rfl (zey zbn (zas _ _ _ rfl) Mew) McS Mcm Mcr ?_)
                           intro v8 w8 h1 h2 h3;obtain⟨A8,c8,Hg,_,_⟩:=h1.sl zbn;go_loud(rw[vf.o]at Hg)
                           subst Hg;have g8:w8.heap[w5.heap.size]?=_:=(h2.block _ Mcr (fun e=>by have:=qJ.o _ e.symm;omega)).trans (zak K5.o);obtain⟨-,t8⟩:=cF2 g8
                           have f8:w8.frozen? ⟨w5.heap.size,1,none⟩=false:=by simp[World.frozen?,g8])
    have h8:Below W7.heap.size W7 w8:=Below.grown (zac Ej.o _) h2 (by have:=Ej.o.size;simp;omega) (fun j hj=>by have:=(qJ.o _ hj).1;omega);have hF:Below W7.heap.size W7 (w8.setCell ⟨w5.heap.size,1,none⟩ (.slice A8 (ds.length+1) c8)):=zaL h8 Mcm _;have kF:(w8.setCell ⟨w5.heap.size,1,none⟩ (.slice A8 (ds.length+1) c8)).heap[w5.heap.size]?=some (.cells #[.slice A5 ls.length n5,.slice A8 (ds.length+1) c8] 25):=by
     have:=Joins.block_setCell (i:=1) g8 (.slice A8 (ds.length+1) c8);simpa using this
    have oF:=h1.grown (zar w8 (w5.heap.size) 1 (.slice A8 (ds.length+1) c8)) (.inr fun e=>by
     rcases h3 _ e with h|h
     ·have:=(qJ.o _ h).2;omega
     ·simp at h
      omega)
    have o8:=jg.o.keep (n:=V5.heap.size) (zac (Below.refl _ _) (.cells #[.int .i64 d.kind,.int .i64 d.day,.string d.place,.string d.frm,.slice B d.to.length c,.int .i64 d.cls,.int .i64 d.years] 28));have lF:Ro (w8.setCell ⟨w5.heap.size,1,none⟩ (.slice A8 (ds.length+1) c8)) 72 Law.cells A5 ls:=(zf8 (Iv.o.keep (n:=V5.heap.size) (zac (Below.refl _ _) _)) o8 h2 Mco).kept (zar _ _ _ _) g8 Mco;have pF:∀y∈xs5,y.d.to.length<=y.c/\Ro (w8.setCell ⟨w5.heap.size,1,none⟩ (.slice A8 (ds.length+1) c8)) 62 RPart.cells y.B y.d.to:=fun y hy=>⟨(EN.o y hy).1,(zf8 ((EN.o y hy).2.keep (n:=V5.heap.size) (zac (Below.refl _ _) _)) o8 h2 Mco).kept (zar _ _ _ _) g8 Mco⟩
    obtain⟨WF,FS⟩:∃WF,WF=w8.setCell ⟨w5.heap.size,1,none⟩ (.slice A8 (ds.length+1) c8):=⟨_,rfl⟩
    rw[<-FS]at hF kF oF lF pF⊢;clear FS h1 h2 h3 g8 o8 h8;have gF:=(hF.block _ lg).trans G5.o;have Cd:=mZ.o.trans (hF.mono mZ.o.size);have DT:=IS.o.keep (bC.o.trans (hF.mono bC.o.size));have G9:SlW WF 7 zdY A8 (ds++[d]):=by
     obtain⟨A9,c9,he,sR,_⟩:=oF.sl zbn;simp only[Value.slice.injEq]at he;obtain⟨rfl,_,_⟩:=he;refine znY sR (by rw[List.map_append,lJ.o];rfl) fun y hy=>?_
     rcases List.mem_append.1 hy with h|h
     ·exact⟨(pF y h).1,(pF y h).2.sl zfm⟩
     ·rw[List.mem_singleton.1 h];exact⟨zb.o,cJ.o _ Cd⟩
    obtain⟨nr,pi⟩:=yH2 (same1_any ls ds d RA ra RB rb A5 n5 A8 c8 WF DT.laws DT.deeds (lF.sl fun _=>rfl) G9 Mcm ix HT.o) Cd;obtain⟨u0,u1⟩:=zbl gF;obtain⟨v0,v1⟩:=zbl kF;have lu:=zab gF;have lv:=zab kF;clear gF Cd DT G9 kF oF lF pF hF e0 e1 e2 e3 e4 e5 e6 p0 p1 lk;go_wp2_with (go_at_call 12;go_must(refine nr.o.mono ?_);rintro e wq ⟨rfl,x7,rfl⟩)
    go_ret
    exact Ret.of rfl (zbm pi.o _)
   ·have Ju:(E != 0)=true:=by simpa using hE
    obtain⟨_,g⟩|⟨h,_⟩:=HD.o
    ·have g5:=(bC.o.block _ (zab g)).trans g;obtain⟨p0,p1⟩:=zbl g5;have lg:=zab g5;clear g g5 hE
     go_wp2_with (first
      |(go_at_call 11;go_must(refine(HN.o _ mZ.o).mono ?_);rintro e wq ⟨rfl,y7,rfl⟩)
      |(go_at_call 12;go_must(refine(pC _).mono ?_);rintro e wq ⟨rfl,x7,rfl⟩))
     go_ret
     exact Ret.of rfl (zbm (zbm mZ.o _) _)
    ·exact absurd h hE
  ·have Jt:E=er:=by rw[vQ.o,if_neg h0]
   subst Jt;have Ju:(E != 0)=true:=Mdg;have Cg:(E==0)=false:=Mdg;obtain⟨_,g⟩|⟨h,_⟩:=HD.o
   ·have g5:=(bC.o.block _ (zab g)).trans g;obtain⟨p0,p1⟩:=zbl g5;have lg:=zab g5;clear g g5 vQ vl h0;go_wp2_with (go_at_call 12;go_must(refine(pC _).mono ?_);rintro e wq ⟨rfl,x7,rfl⟩)
    go_ret
    exact Ret.of rfl (zbm mZ.o _)
   ·exact absurd h h0
